import Derived.Test.YtmmmpanpbphkdaaGreatDoorPa
set_option linter.unusedVariables false
set_option linter.unusedSimpArgs false
set_option maxRecDepth 100000
open Go Go.X
open Go.IntKind (i64)
namespace D
open Go
open Go
theorem Zu (m:bB) (base src:aj) (J:cH bK base) (QD:base.length<10^11) (vo:src.length<10^11) (iz: ∀p∈src,bV p.1 m.2.2.2.2.1=true/\m.2.2.2.2.2.1.length+p.1.length<10^12):
  Lx ((0:Int),m,base,src,())=some (.inl (ka base (src.map (hS m.2.2.2.2.1 m.2.2.2.2.2.1)),())):=by
 obtain ⟨r,s,E⟩:=dM (b:=JD) (λi (o:aj)=>((i:Int),m,o,src,())) src.length (λi o=>o=ka base ((src.take i).map (hS m.2.2.2.2.1 m.2.2.2.2.2.1)))
  (λr=>r=.inl (ka base (src.map (hS m.2.2.2.2.1 m.2.2.2.2.2.1)),())) (by omega)
  (λi u o W=>by
   left;have a7:((i:Int)<(src.length:Int)):=by omega
   have aX:((0:Int)<=(i:Int)):=by omega
   have bu:src.getD i (([]:M),(([]:M),((0:Int),())))=src[i]:=bW u;have w:=e1 i (by omega);obtain ⟨L,aa⟩:=iz _ (dz u);have hlen:=Fl ((src.take i).map (hS m.2.2.2.2.1 m.2.2.2.2.2.1)) base;rw[List.length_map,eG]at hlen;have Ro:cH bK o:=by rw[W];exact Ae _ _ J
   have ox:o.length<10^12:=by rw[W];omega
   have hm:=arG (src[i]).1 m.2.2.2.2.1 m.2.2.2.2.2.1 aa;rw[L,ak]at hm;have e8:=aav o (hS m.2.2.2.2.1 m.2.2.2.2.2.1 src[i]) Ro ox;have e8:wt (o,(fD m.2.2.2.2.1 m.2.2.2.2.2.1 (src[i]).1,(src[i]).2.1,(src[i]).2.2.1,()),())=some (kz o (hS m.2.2.2.2.1 m.2.2.2.2.2.1 src[i]),()):=e8;refine ⟨_,rfl,?_⟩;rw[eY u,List.map_append,List.map_singleton,aqa,<-W];unfold JD;simp only[a7,aX,am,ak,bM,bE,bu,w,hm,e8])
  (λo W=>by
   have a7: ¬((src.length:Int)<(src.length:Int)):=by omega
   rw[eM]at W;subst W;refine ⟨_,rfl,?_⟩;unfold JD;simp only[a7,bf,ax,not_false_eq_true]) base (by simp[ka])
 subst E;exact s
theorem aql (t:aj) (m:bB) (hm:Io m) (aL:qL m.2.2.2.2.1) (aT:qL m.2.2.2.2.2.1) (ae:cH bK t) (ab:t.length<10^11) (af: ∀p∈t,m.2.2.2.2.2.1.length+p.1.length<10^12):
  tr (t,m,())=some (ka (jD m t) ((hC m t).map (hS m.2.2.2.2.1 m.2.2.2.2.2.1)),()):=by
 have c8:decide (m.1=1)=false:=bf (by rcases hm with h |h<;>rw[h]<;>decide);have dP:decide (m.1=2)=false:=bf (by rcases hm with h |h<;>rw[h]<;>decide);have n3:decide (m.1=3)=false:=bf (by rcases hm with h |h<;>rw[h]<;>decide);have n6:decide (m.1=6)=false:=bf (by rcases hm with h |h<;>rw[h]<;>decide);have dD:=hE (λx:b5=> !bV x.1 m.2.2.2.2.2.1) t;have dr:=hE (λx:b5=>bV x.1 m.2.2.2.2.1) t;have pt:=hE (λx:b5=> !bV x.1 m.2.2.2.2.1) (t.filter λx=> !bV x.1 m.2.2.2.2.2.1);have iz: ∀p∈hC m t,bV p.1 m.2.2.2.2.1=true/\m.2.2.2.2.2.1.length+p.1.length<10^12:=λp aP=>⟨(eV.1 aP).2,af p (eV.1 aP).1⟩
 have vo:(hC m t).length<10^11:=by unfold hC;omega
 unfold tr;simp only[c8,dP,n3,n6,ax,aL.pre2,aT.pre2,UI t _ aT (by omega),ajD t _ aL (by omega)];cases aC:decide (m.1=4)
 ·have vc:jD m t=t.filter λx=> !bV x.1 m.2.2.2.2.2.1:=by unfold jD;rw[aC];rfl
  have:=Zu m (jD m t) (hC m t) (by rw[vc];exact List.Pairwise.filter _ ae) (by rw[vc];omega) vo iz;rw[vc]at this ⊢;unfold hC at this ⊢;simp only[ax,this]
 ·have vc:jD m t=(t.filter λx=> !bV x.1 m.2.2.2.2.2.1).filter λx=> !bV x.1 m.2.2.2.2.1:=by unfold jD;rw[aC];rfl
  have:=Zu m (jD m t) (hC m t) (by rw[vc];exact List.Pairwise.filter _ (List.Pairwise.filter _ ae)) (by rw[vc];omega) vo iz;rw[vc]at this ⊢;unfold hC at this ⊢;simp only[ak,UI _ _ aL (show (t.filter λx=> !bV x.1 m.2.2.2.2.2.1).length<10^12 by omega),this]
theorem art {k:M} {p:b5} {l:aj} (s:p.1≠k) (E:fs (key:=bK) k l=false):fs (key:=bK) k (hV bK p l)=false:=by
 unfold fs at E ⊢;rw[List.any_eq_false]at E ⊢;intro b J;rcases AB.1 J with rfl |J
 ·simpa using s
 ·exact E b J
structure uc (m:bB):Prop where
 kind:Io m
 from_:m.2.2.2.2.1∈e0
 to_:m.2.2.2.2.2.1∈e0
 ap1:bV m.2.2.2.2.1 m.2.2.2.2.2.1=false
 ap2:bV m.2.2.2.2.2.1 m.2.2.2.2.1=false
theorem uc.not_both {m:bB} (h:uc m) {k:M} (s:bV k m.2.2.2.2.1=true):bV k m.2.2.2.2.2.1=false:=by
 cases E:bV k m.2.2.2.2.2.1
 ·rfl
 ·rcases aiV s E with O |O
  ·rw[h.ap1]at O;cases O
  ·rw[h.ap2]at O;cases O
theorem uc.not_both2 {m:bB} (h:uc m) {k:M} (s:bV k m.2.2.2.2.2.1=true):bV k m.2.2.2.2.1=false:=by
 cases E:bV k m.2.2.2.2.1
 ·rfl
 ·rw[h.not_both E]at s;cases s
def qK (m:bB) (t:aj):aj:=ka (jD m t) ((hC m t).map (hS m.2.2.2.2.1 m.2.2.2.2.2.1))
theorem aq1 {m:bB} {t:aj} {x:b5} (h:x∈jD m t):x∈t/\bV x.1 m.2.2.2.2.2.1=false:=by
 unfold jD at h;cases af:decide (m.1=4)
 ·rw[af]at h;have:=eV.1 h;exact ⟨this.1,by simpa using this.2⟩
 ·rw[af]at h;have:=eV.1 (eV.1 h).1;exact ⟨this.1,by simpa using this.2⟩
theorem aq2 {m:bB} {t:aj} (h:cH bK t):cH bK (jD m t):=by
 unfold jD;cases decide (m.1=4)
 ·exact List.Pairwise.filter _ h
 ·exact List.Pairwise.filter _ (List.Pairwise.filter _ h)
theorem aq0 (m:bB) (t:aj):(jD m t).length<=t.length:=by
 unfold jD;cases decide (m.1=4)
 ·exact hE _ _
 ·exact Nat.le_trans (hE _ _) (hE _ _)
theorem uV {f t k:M}:bV (fD f t k) t=true:=j9.2 ⟨_,rfl⟩
theorem abf {m:bB} {t:aj}: ∀p∈(hC m t).map (hS m.2.2.2.2.1 m.2.2.2.2.2.1),fs (key:=bK) p.1 (jD m t)=false:=by intro p aP;obtain ⟨q,aD,rfl⟩:=List.mem_map.1 aP;unfold fs;rw[List.any_eq_false];intro b J;have s:=(aq1 J).2;intro e;have e:b.1=fD m.2.2.2.2.1 m.2.2.2.2.2.1 q.1:=of_decide_eq_true e;rw[e,uV]at s;cases s
theorem Gf {m:bB} {t:aj} (ae:cH bK t):((hC m t).map (hS m.2.2.2.2.1 m.2.2.2.2.2.1)).Pairwise (λa b=>a.1≠b.1):=by rw[List.pairwise_map];have h:cH bK (hC m t):=List.Pairwise.filter _ ae;refine List.Pairwise.imp_of_mem (λ{a b} aS J gu=> ?_) h;obtain ⟨r,au⟩:=j9.1 (eV.1 aS).2;obtain ⟨d,ae⟩:=j9.1 (eV.1 J).2;show fD _ _ a.1≠fD _ _ b.1;rw[au,ae,lk,lk];intro e;have e:=List.append_cancel_left e;have gu:Op.bytesLess a.1 b.1=true:=gu;rw[au,ae,e,hJ]at gu;cases gu
theorem aco {m:bB} {t:aj} (ae:cH bK t):cH bK (qK m t):=Ae _ _ (aq2 ae)
theorem aiQ (m:bB) (t:aj):(qK m t).length<=2*t.length:=by have s:=Fl ((hC m t).map (hS m.2.2.2.2.1 m.2.2.2.2.2.1)) (jD m t);have E:=aq0 m t;have O:(hC m t).length<=t.length:=hE _ _;rw[List.length_map]at s;unfold qK;omega
theorem FG (t:aj) (h:t.length<10^12):co (t,())=some (t,()):=by
 unfold co;have:(List.length ([]:aj)+t.length)*40<=bp:=by rw[ek];simp;omega
 simp only[this,am,ak]
theorem aiJ (t:aj) (p:b5) (ae:cH bK t) (ab:t.length<10^12):FX (t,p,())=some (kz t p,()):=by
 have hle:=oQ (key:=bK) p.1 t;unfold FX kz;simp only[F0 t p.1 ae (by omega),FG t ab];cases bC:fs (key:=bK) p.1 t
 ·have at7:HF ((c7 bK p.1 t:Int),t,[p],())=some ([p],hV bK p t,()):=by
   unfold HF Bj;have a7:((0:Int)<=(c7 bK p.1 t:Int)):=by omega
   have aX:((c7 bK p.1 t:Int)<=(t.length:Int)):=by omega
   have c3:([p]:aj).length=1:=rfl;have e5:t.length+1<10^18:=by omega
   have qc:(t.length+1)*40<=bp:=by rw[ek];omega
   simp only[a7,aX,c3,e5,qc,am,bM,ak,bE];rw[acW t ae bC]
  simp only[ax,at7];rw[Gh _ _ bC]
 ·have bd:c7 bK p.1 t<t.length:=by
   rcases Nat.lt_or_ge (c7 bK p.1 t) t.length with h |h
   ·exact h
   ·rw[AA p.1 t (by omega)]at bC;cases bC
  have a7:((0:Int)<=(c7 bK p.1 t:Int)):=by omega
  have aX:((c7 bK p.1 t:Int)<(t.length:Int)):=by omega
  simp only[ak,a7,aX,am,bM,bE];rw[Ut t ae bC]
theorem aja (n:Nat) (h:n<10^12):HJ ((n:Int),())=some (([]:aj),()):=by
 unfold HJ;have hW:i64.wrap ((0:Int)-0)=0:=by decide
 have dn:i64.wrap ((n:Int)-0)=(n:Int):=by rw[cI (by omega)];omega
 have a7: ¬((n:Int)<0):=by omega
 simp only[hW,dn,bf a7,ax];by_cases aR:n=0
 ·subst aR;have: ¬(((0:Nat):Int)>0):=by decide
  simp only[bf this,ax]
 ·have aX:((n:Int)>0):=by omega
  have c3:((0:Int)<(n:Int)):=by omega
  have e5:((n:Int)*40<=(bp:Int)):=by rw[ek];omega
  have c5:((0:Int)<=((List.replicate (Int.toNat (n:Int)) (([]:M),(([]:M),((0:Int),())))).length:Int)):=by omega
  simp only[aX,c3,e5,c5,am,bM,ak,List.take_zero]
theorem abr (a b:aj) (h:a.length+b.length<10^12):HE ([a,b],())=some (a++b,()):=by
 have dn:i64.wrap ((0:Int)+(a.length:Int))=(a.length:Int):=by rw[cI (by omega)];omega
 have de:i64.wrap ((a.length:Int)+(b.length:Int))=((a.length+b.length:Nat):Int):=by rw[cI (by omega)];omega
 have gf:i64.wrap ((0:Int)+1)=1:=by decide
 have kg:i64.wrap ((1:Int)+1)=2:=by decide
 have c8: ¬((a.length:Int)<0):=by omega
 have dP: ¬(((a.length+b.length:Nat):Int)<0):=by omega
 have dr:(([a,b]:List aj).length:Int)=2:=rfl;have g0:List.getD [a,b] (Int.toNat 0) ([]:aj)=a:=rfl;have g1:List.getD [a,b] (Int.toNat 1) ([]:aj)=b:=rfl;have ac5:decide ((0:Int)<2)=true:=by decide
 have d12:decide ((1:Int)<2)=true:=by decide
 have d22:decide ((2:Int)<2)=false:=by decide
 have ac3:decide ((0:Int)<=0)=true:=by decide
 have ac4:decide ((0:Int)<=1)=true:=by decide
 have jP:qE ([a,b],(0:Int),[a,b],(2:Int),(0:Int),())=some (.inl ([a,b],(a.length:Int),[a,b],(2:Int),(1:Int),())):=by unfold qE;simp only[dr,g0,ac5,ac3,ak,ax,bM,dn,gf,bf c8]
 have s1:qE ([a,b],(a.length:Int),[a,b],(2:Int),(1:Int),())=some (.inl ([a,b],((a.length+b.length:Nat):Int),[a,b],(2:Int),(2:Int),())):=by unfold qE;simp only[dr,g1,d12,ac4,ak,ax,bM,de,kg,bf dP]
 have s2:qE ([a,b],((a.length+b.length:Nat):Int),[a,b],(2:Int),(2:Int),())=some (.inr (.inl ([a,b],((a.length+b.length:Nat):Int),()))):=by unfold qE;simp only[d22,ax]
 have s:b4 qE ([a,b],(0:Int),[a,b],(2:Int),(0:Int),())=some (.inl ([a,b],((a.length+b.length:Nat):Int),())):=m7 (n:=3) (by rw[kN];omega) (by simp only[eI,jP,s1,s2]);have ah:(([]:aj).length+a.length)*40<=bp:=by rw[ek];simp;omega
 have aJ:(([]++a:aj).length+b.length)*40<=bp:=by rw[ek];simp;omega
 have axk:qS ([a,b],(2:Int),(0:Int),([]:aj),())=some (.inl ([a,b],(2:Int),(1:Int),[]++a,())):=by unfold qS;simp only[dr,g0,ac5,ac3,ak,bM,gf,ah,am]
 have nc:qS ([a,b],(2:Int),(1:Int),[]++a,())=some (.inl ([a,b],(2:Int),(2:Int),[]++a++b,())):=by unfold qS;simp only[dr,g1,d12,ac4,ak,bM,kg,aJ,am]
 have pG:qS ([a,b],(2:Int),(2:Int),[]++a++b,())=some (.inr (.inl ([]++a++b,()))):=by unfold qS;simp only[d22,ax]
 have E:b4 qS ([a,b],(2:Int),(0:Int),([]:aj),())=some (.inl ([]++a++b,())):=m7 (n:=3) (by rw[kN];omega) (by simp only[eI,axk,nc,pG]);unfold HE RF RG;simp only[dr,s,aja _ h,E,List.nil_append]
section
variable {α:Type} {key:α->M}
theorem ajg {aM u:M} (h:Op.bytesLess aM u=true) (l:List α) (ae:cH key l):l.take (c7 key aM l)++l.drop (c7 key u l)=l.filter λa=> !(!Op.bytesLess (key a) aM&&Op.bytesLess (key a) u):=by
 have e:l=l.take (c7 key u l)++l.drop (c7 key u l):=(List.take_append_drop _ _).symm;have hle:=A7 h l ae
 conv=>rhs;rw[e]
 rw[List.filter_append];have L:(l.drop (c7 key u l)).filter (λa=> !(!Op.bytesLess (key a) aM&&Op.bytesLess (key a) u))=l.drop (c7 key u l):=by
  rw[List.filter_eq_self];intro a aS;rw[Gq u l ae]at aS;have:=(eV.1 aS).2;have:Op.bytesLess (key a) u=false:=by simpa using this
  rw[this];simp
 have aa:(l.take (c7 key u l)).filter (λa=> !(!Op.bytesLess (key a) aM&&Op.bytesLess (key a) u))=l.take (c7 key aM l):=by
  rw[AZ u l ae,List.filter_filter,AZ aM l ae];apply List.filter_congr;intro a _;cases s:Op.bytesLess (key a) aM
  ·cases Op.bytesLess (key a) u<;>rfl
  ·rw[fZ s h];rfl
 rw[L,aa]
end
theorem Oh (t:aj) (d:aK) (h:oN d) (ae:cH bK t) (ab:t.length<10^12):tG (t,d,())=some (t.filter (λp=> !b9 d p.1),()):=by
 have s:=oQ (key:=bK) d.1 t;have E:=oQ (key:=bK) d.2.1 t;unfold tG DW;simp only[abZ d h,ax,F0 t _ ae (show t.length<10^13 by omega)];have a7:((0:Int)<=(c7 bK d.1 t:Int)):=by omega
 have aX:((c7 bK d.1 t:Int)<=(t.length:Int)):=by omega
 by_cases aR:d.2.1=[]
 ·have c:decide ((d.2.1:M)=[])=true:=am aR;have c3:((0:Int)<=(t.length:Int)):=by omega
  have al:List.drop t.length t=[]:=List.drop_length;simp only[c,cP,ax,a7,aX,c3,am,bM,ak,Int.le_refl,bE,eM,List.drop_zero,al];rw[abr _ _ (by simp;omega)];simp only[List.append_nil];rw[AZ d.1 t ae];congr 2;apply List.filter_congr;intro p _;unfold b9;simp[aR,bK]
 ·have bd:=h.resolve_left aR;have c:decide ((d.2.1:M)=[])=false:=bf aR;have c3:((0:Int)<=(c7 bK d.2.1 t:Int)):=by omega
  have e5:((c7 bK d.2.1 t:Int)<=(t.length:Int)):=by omega
  simp only[c,cK,ak,a7,aX,c3,e5,am,bM,Int.le_refl,bE,eM,List.drop_zero];rw[abr _ _ (by have:=A7 (key:=bK) bd t ae;rw[eG,List.length_drop];omega),ajg bd t ae];dsimp only;congr 2;apply List.filter_congr;intro p _;unfold b9;simp[aR,bK]
theorem GB: ∀{a b:aj},cH bK a->cH bK b->(∀x,x∈a↔x∈b)->a=b
 |[],[],_,_,_=>rfl
 |[],y::b,_,_,h=>by have:=(h y).2 gh;cases this
 |x::a,[],_,_,h=>by have:=(h x).1 gh;cases this
 |x::a,y::b,aS,J,h=>by
  have sZ:x=y:=by
   rcases eO.1 ((h x).1 gh) with e |e
   ·exact e
   ·rcases eO.1 ((h y).2 gh) with aa |aa
    ·exact aa.symm
    ·have s:=J.head x e;have E:=aS.head y aa;have:=fZ s E;rw[hJ]at this;cases this
  subst sZ;congr 1;refine GB aS.tail J.tail (λz=> ?_);have bI:=h z;constructor
  ·intro Il;rcases eO.1 (bI.1 (gO _ Il)) with e |e
   ·subst e;have:=aS.head z Il;rw[hJ]at this;cases this
   ·exact e
  ·intro yi;rcases eO.1 (bI.2 (gO _ yi)) with e |e
   ·subst e;have:=J.head z yi;rw[hJ]at this;cases this
   ·exact e
theorem aij {acc:aj} {p x:b5}:x∈kz acc p↔x=p\/(x∈acc/\x.1≠p.1):=by
 unfold kz;rw[AB];constructor
 ·rintro (h |h)
  ·exact .inl h
  ·have:=eV.1 h;exact .inr ⟨this.1,by simpa using this.2⟩
 ·rintro (h |⟨s,E⟩)
  ·exact .inl h
  ·exact .inr (eV.2 ⟨s,by simpa using E⟩)
theorem Dk: ∀{l base:aj},(∀p∈l,fs (key:=bK) p.1 base=false)->l.Pairwise (λa b=>a.1≠b.1)-> ∀x,x∈ka base l↔x∈base\/x∈l
 |[],base,_,_,x=>by simp[ka]
 |p::l,base,s,E,x=>by
  have hw:ir bK p.1 base=base:=Gh _ _ (s p gh);have aP:kz base p=hV bK p base:=by unfold kz;rw[hw]
  have O:=List.pairwise_cons.1 E;have aQ:=Dk (l:=l) (base:=kz base p) (λq aD=>by rw[aP];exact art (O.1 q aD) (s q (gO _ aD))) O.2 x
  show x∈ka (kz base p) l↔_;rw[aQ,aP,AB,eO];constructor
  ·rintro ((h |h)|h)
   ·exact .inr (.inl h)
   ·exact .inl h
   ·exact .inr (.inr h)
  ·rintro (h |h |h)
   ·exact .inl (.inr h)
   ·exact .inl (.inl h)
   ·exact .inr h
theorem FI {α:Type} {P bD:List α} {x I:α} {i:Nat} (h:P.length=i):List.getD (P++x::bD) i I=x:=by subst h;simp[List.getD]
theorem aci {out a b:aj} {x y:b5} (s:cH bK (out++x::a)) (E:cH bK (out++y::b)) (bd:Op.bytesLess x.1 y.1=true):cH bK (out++[x]++y::b):=by
 unfold cH at s E ⊢;rw[List.pairwise_append]at s E;rw[List.append_assoc,List.pairwise_append];refine ⟨s.1,?_,?_⟩
 ·show List.Pairwise _ (x::y::b);refine List.pairwise_cons.2 ⟨λz bI=> ?_,E.2.1⟩;rcases eO.1 bI with rfl |bI
  ·exact bd
  ·exact fZ bd ((List.pairwise_cons.1 E.2.1).1 z bI)
 ·intro ad hu z bI;rcases eO.1 bI with rfl |bI
  ·exact s.2.2 ad hu _ gh
  ·exact E.2.2 ad hu z bI
theorem ah8 (a b:aj) (aS:cH bK a) (J:cH bK b) (al: ∀p∈a,∀q∈b,p.1≠q.1) (ab:a.length+b.length<10^12):
  ∃r,Fi (a,b,())=some (r,())/\cH bK r/\ ∀x,x∈r↔x∈a\/x∈b:=by
 obtain ⟨r,s,E⟩:=Ap (b:=yG) (λd=>d.1.length+d.2.1.length)
  (λd=> ∃bn bQ out:aj,d=(bn,bQ,out,())/\cH bK (out++bn)/\cH bK (out++bQ)/\(∀p∈bn,∀q∈bQ,p.1≠q.1)/\(∀x,(x∈out\/x∈bn\/x∈bQ)↔x∈a\/x∈b)/\out.length+bn.length+bQ.length=a.length+b.length)
  (λr=> ∃bn bQ out:aj,r=.inl (bn,bQ,out,())/\cH bK (out++bn++bQ)/\(∀x,(x∈out\/x∈bn\/x∈bQ)↔x∈a\/x∈b)/\out.length+bn.length+bQ.length=a.length+b.length)
  (λd ae=>by
   obtain ⟨bn,bQ,out,rfl,s1,s2,lb,hm,hlen⟩:=ae;cases bn with
   |nil=>
    right;refine ⟨.inl ([],bQ,out,()),?_,[],bQ,out,rfl,by simpa using s2,hm,hlen⟩;unfold yG C6;have:decide ((([]:aj).length:Int)=0)=true:=by decide
    simp only[this,cP,ax,ak]
   |cons x bn=>
    cases bQ with
    |nil=>
     right;refine ⟨.inl (x::bn,[],out,()),?_,x::bn,[],out,rfl,by simpa using s1,hm,hlen⟩;unfold yG C6;have d1:decide (((x::bn).length:Int)=0)=false:=bf (by simp;omega);have d2:decide ((([]:aj).length:Int)=0)=true:=by decide
     simp only[d1,d2,cK,ak]
    |cons y bQ=>
     left;have d1:decide (((x::bn).length:Int)=0)=false:=bf (by simp;omega);have d2:decide (((y::bQ).length:Int)=0)=false:=bf (by simp;omega);have d3:((0:Int)<((x::bn).length:Int)):=by simp
     have d4:((0:Int)<((y::bQ).length:Int)):=by simp
     have d5:((1:Int)<=((x::bn).length:Int)):=by simp;omega
     have d6:((1:Int)<=((y::bQ).length:Int)):=by simp;omega
     have g1:List.getD (x::bn) 0 (([]:M),(([]:M),((0:Int),())))=x:=rfl;have g2:List.getD (y::bQ) 0 (([]:M),(([]:M),((0:Int),())))=y:=rfl;have L:List.drop (Int.toNat 1) (x::bn)=bn:=rfl;have aa:List.drop (Int.toNat 1) (y::bQ)=bQ:=rfl;have ayG:out.length<10^12:=by simp at hlen;omega
     have room: ∀q:b5,(out.length+([q]:aj).length)*40<=bp:=λq=>by rw[ek];simp;omega
     have cC:x.1≠y.1:=lb x gh y gh;unfold yG C6;simp only[d1,d2,cK,ak,ax,d3,d4,d5,am,g1,g2,room,Int.le_refl,bM,bE,eM,L];cases bd:Op.bytesLess x.1 y.1
     ·have p9:Op.bytesLess y.1 x.1=true:=by
       rcases h0 x.1 y.1 with h |h |h
       ·rw[h]at bd;cases bd
       ·exact absurd h cC
       ·exact h
      unfold SZ;simp only[bf cC,ax,d4,d6,am,ak,g2,room,Int.le_refl,bM,bE,eM,aa];refine ⟨_,rfl,⟨x::bn,bQ,out++[y],rfl,aci s2 s1 p9,by simpa using s2,λp aP q aD=>lb p aP q (gO _ aD),λz=> ?_,by simp at hlen ⊢;omega⟩,by simp⟩;rw[<-hm z];simp only[dk,eO,List.mem_nil_iff,or_false];constructor
      ·rintro ((h |h)|(h |h)|h)<;>simp[h]
      ·rintro (h |(h |h)|(h |h))<;>simp[h]
     ·simp only[ak];refine ⟨_,rfl,⟨bn,y::bQ,out++[x],rfl,by simpa using s1,aci s1 s2 bd,λp aP q aD=>lb p (gO _ aP) q aD,λz=> ?_,by simp at hlen ⊢;omega⟩,by simp⟩;rw[<-hm z];simp only[dk,eO,List.mem_nil_iff,or_false];constructor
      ·rintro ((h |h)|h |(h |h))<;>simp[h]
      ·rintro (h |(h |h)|(h |h))<;>simp[h])
  (a,b,[],()) ⟨a,b,[],rfl,by simpa using aS,by simpa using J,al,by intro x;simp,by simp⟩ (by simp;omega)
 obtain ⟨bn,bQ,out,rfl,ae,hm,hlen⟩:=E;have w:i64.wrap ((a.length:Int)+(b.length:Int))=((a.length+b.length:Nat):Int):=by rw[cI (by omega)];omega
 have a7:((0:Int)<=((a.length+b.length:Nat):Int)):=by omega
 have aX:(((a.length+b.length:Nat):Int)*40<=(bp:Int)):=by rw[ek];omega
 have c3:(out.length+bn.length)*40<=bp:=by rw[ek];omega
 have e5:((out++bn).length+bQ.length)*40<=bp:=by rw[ek,fr];omega
 refine ⟨out++bn++bQ,?_,ae,λx=> ?_⟩
 ·unfold Fi LF;simp only[w,a7,aX,Int.le_refl,b7,cw,am,bM,ak,List.replicate_zero,s,c3,e5]
 ·rw[<-hm x];simp only[dk];constructor
  ·rintro ((h |h)|h)<;>simp[h]
  ·rintro (h |h |h)<;>simp[h]
theorem apX (t:aj) (f ad:M) (aL:qL f) (ae:cH bK t) (ab:t.length<10^12) (af: ∀p∈t,ad.length+p.1.length<10^12):
  FN (t,f,ad,())=some ((t.filter λx=>bV x.1 f).map (hS f ad),()):=by
 have e:(t.filter λx=>b9 (dF f) x.1)=t.filter λx=>bV x.1 f:=by apply List.filter_congr;intro x _;exact w3 aL.sh _
 have dr:=hE (λx:b5=>bV x.1 f) t;have aeo:=asi t (dF f) (Pn aL.sh) ae (by omega);rw[e]at aeo;have iz: ∀p∈t.filter (λx=>bV x.1 f),bV p.1 f=true/\ad.length+p.1.length<10^12:=λp aP=>⟨(eV.1 aP).2,af p (eV.1 aP).1⟩
 generalize t.filter (λx=>bV x.1 f)=src at*;obtain ⟨r,s,E⟩:=dM (b:=yV) (λi (o:aj)=>(f,ad,(src.length:Int),(i:Int),o,())) src.length (λi o=>o=(src.take i).map (hS f ad)++src.drop i)
  (λr=>r=.inl (src.map (hS f ad),())) (by omega)
  (λi u o W=>by
   left;have al:src.drop i=src[i]::src.drop (i+1):=lu u;have hlen:((src.take i).map (hS f ad)).length=i:=by rw[List.length_map,eG];omega
   have ox:o.length=src.length:=by rw[W,fr,hlen,List.length_drop];omega
   have a7:((i:Int)<(src.length:Int)):=by omega
   have aX:((0:Int)<=(i:Int)):=by omega
   have bu:o.getD i (([]:M),(([]:M),((0:Int),())))=src[i]:=by rw[W,al];exact FI hlen
   have w:=e1 i (by omega);obtain ⟨L,aa⟩:=iz _ (dz u);have hm:=FL (src[i]).1 f ad aa;rw[L,ak]at hm;refine ⟨_,rfl,?_⟩;have lg:o.set i (hS f ad src[i])=(src.take (i+1)).map (hS f ad)++src.drop (i+1):=by rw[W,al,eY u,List.map_append,List.append_assoc];rw[List.set_append_right _ _ (by omega),hlen,Nat.sub_self];rfl
   rw[<-lg];unfold yV;simp only[ox,a7,aX,am,ak,bM,bE,bu,w,hm];rfl)
  (λo W=>by
   have a7: ¬((src.length:Int)<(src.length:Int)):=by omega
   rw[eM,List.drop_length,List.append_nil]at W;subst W;refine ⟨_,rfl,?_⟩;unfold yV;simp only[a7,bf,ax,not_false_eq_true]) src (by simp)
 subst E;have s:b4 yV (f,ad,(src.length:Int),(0:Int),src,())=_:=s;unfold FN MF;simp only[aL.pre,aeo,FG src (by omega),s]
theorem aiy {m:bB} {t:aj} (ae:cH bK t):cH bK ((hC m t).map (hS m.2.2.2.2.1 m.2.2.2.2.2.1)):=by unfold cH;rw[List.pairwise_map];have h:cH bK (hC m t):=List.Pairwise.filter _ ae;refine List.Pairwise.imp_of_mem (λ{a b} aS J gu=> ?_) h;obtain ⟨r,au⟩:=j9.1 (eV.1 aS).2;obtain ⟨d,ae⟩:=j9.1 (eV.1 J).2;have gu:Op.bytesLess a.1 b.1=true:=gu;show Op.bytesLess (fD _ _ a.1) (fD _ _ b.1)=true;rw[au,ae,nI]at gu;rw[au,ae,lk,lk,nI];exact gu
theorem aar (t:aj) (p:M) (aP:qL p) (ae:cH bK t) (ab:t.length<10^12):tG (t,dF p,())=some (t.filter (λx=> !bV x.1 p),()):=by rw[Oh t _ (Pn aP.sh) ae ab];congr 2;apply List.filter_congr;intro x _;rw[w3 aP.sh]
theorem abp (t:aj) (m:bB) (aL:qL m.2.2.2.2.1) (aT:qL m.2.2.2.2.2.1) (ae:cH bK t) (ab:t.length<10^11) (af: ∀p∈t,m.2.2.2.2.2.1.length+p.1.length<10^12):
  De (m,t,())=some (ka (t.filter λx=> !bV x.1 m.2.2.2.2.2.1) ((hC m t).map (hS m.2.2.2.2.1 m.2.2.2.2.2.1)),()):=by
 have dD:=hE (λx:b5=> !bV x.1 m.2.2.2.2.2.1) t;have dr:(hC m t).length<=t.length:=hE _ _;have ea: ∀p∈(hC m t).map (hS m.2.2.2.2.1 m.2.2.2.2.2.1),fs (key:=bK) p.1 (t.filter λx=> !bV x.1 m.2.2.2.2.2.1)=false:=by intro p aP;obtain ⟨q,aD,rfl⟩:=List.mem_map.1 aP;unfold fs;rw[List.any_eq_false];intro b J;have s:=(eV.1 J).2;intro e;have e:b.1=fD m.2.2.2.2.1 m.2.2.2.2.2.1 q.1:=of_decide_eq_true e;rw[e,uV]at s;cases s
 have atK: ∀p∈t.filter (λx=> !bV x.1 m.2.2.2.2.2.1),∀q∈(hC m t).map (hS m.2.2.2.2.1 m.2.2.2.2.2.1),p.1≠q.1:=by intro p aP q aD e;have:=ea q aD;unfold fs at this;rw[List.any_eq_false]at this;exact this p aP (decide_eq_true e)
 obtain ⟨r,L,aa,a1⟩:=ah8 (t.filter λx=> !bV x.1 m.2.2.2.2.2.1) ((hC m t).map (hS m.2.2.2.2.1 m.2.2.2.2.2.1)) (List.Pairwise.filter _ ae) (aiy ae) atK (by rw[List.length_map];omega);have au:r=ka (t.filter λx=> !bV x.1 m.2.2.2.2.2.1) ((hC m t).map (hS m.2.2.2.2.1 m.2.2.2.2.2.1)):=
  GB aa (Ae _ _ (List.Pairwise.filter _ ae)) (λx=>by rw[a1 x,Dk ea (Gf ae)])
 have hm:=apX t m.2.2.2.2.1 m.2.2.2.2.2.1 aL ae (by omega) af;unfold hC at L;unfold De;simp only[aT.pre,aar t _ aT ae (by omega),hm,L,au]
theorem aim (t:aj) (m:bB) (hm:uc m) (aC:m.1=4) (ae:cH bK t) (ab:t.length<10^11) (af: ∀p∈t,m.2.2.2.2.2.1.length+p.1.length<10^12):
  Jy (m,t,())=some (qK m t,()):=by
 have tw:=FU (kk _ hm.from_);have vT:=FU (kk _ hm.to_);have dD:=hE (λx:b5=> !bV x.1 m.2.2.2.2.2.1) t;have dr:(hC m t).length<=t.length:=hE _ _;have aw:=abp t m tw vT ae ab af;have J:jD m t=(t.filter λx=> !bV x.1 m.2.2.2.2.2.1).filter λx=> !bV x.1 m.2.2.2.2.1:=by unfold jD;rw[am aC];rfl
 have ea: ∀p∈(hC m t).map (hS m.2.2.2.2.1 m.2.2.2.2.2.1),fs (key:=bK) p.1 (t.filter λx=> !bV x.1 m.2.2.2.2.2.1)=false:=by intro p aP;obtain ⟨q,aD,rfl⟩:=List.mem_map.1 aP;unfold fs;rw[List.any_eq_false];intro b J;have s:=(eV.1 J).2;intro e;have e:b.1=fD m.2.2.2.2.1 m.2.2.2.2.2.1 q.1:=of_decide_eq_true e;rw[e,uV]at s;cases s
 have lO:=Ae ((hC m t).map (hS m.2.2.2.2.1 m.2.2.2.2.2.1)) (t.filter λx=> !bV x.1 m.2.2.2.2.2.1) (List.Pairwise.filter _ ae);have hlen:=Fl ((hC m t).map (hS m.2.2.2.2.1 m.2.2.2.2.2.1)) (t.filter λx=> !bV x.1 m.2.2.2.2.2.1);rw[List.length_map]at hlen;have al:=aar (ka (t.filter λx=> !bV x.1 m.2.2.2.2.2.1) ((hC m t).map (hS m.2.2.2.2.1 m.2.2.2.2.2.1))) m.2.2.2.2.1 tw lO (by omega);have he:(ka (t.filter λx=> !bV x.1 m.2.2.2.2.2.1) ((hC m t).map (hS m.2.2.2.2.1 m.2.2.2.2.2.1))).filter (λx=> !bV x.1 m.2.2.2.2.1)=qK m t:=by
  refine GB (List.Pairwise.filter _ lO) (aco ae) (λx=> ?_);unfold qK;rw[eV,Dk ea (Gf ae),Dk abf (Gf ae),J];constructor
  ·rintro ⟨s |s,E⟩
   ·exact Or.inl (eV.2 ⟨s,E⟩)
   ·exact Or.inr s
  ·rintro (h |s)
   ·obtain ⟨s,E⟩:=eV.1 h;exact ⟨Or.inl s,E⟩
   ·refine ⟨.inr s,?_⟩;obtain ⟨q,aD,rfl⟩:=List.mem_map.1 s;have:bV (fD m.2.2.2.2.1 m.2.2.2.2.2.1 q.1) m.2.2.2.2.1=false:=hm.not_both2 uV;show (!bV (fD m.2.2.2.2.1 m.2.2.2.2.2.1 q.1) m.2.2.2.2.1)=true;rw[this];rfl
 unfold Jy;simp only[aw,tw.pre,al,he]
def il (m:bB) (p:b5):b5:=bif b9 m.2.2.2.1 p.1 then (p.1,p.2.1,m.2.2.2.2.2.2.1,p.2.2.2) else p
theorem ast (t:aj) (m:bB) (ab:t.length<10^12):XV ((0:Int),m,t,())=some (.inl (t.map (il m),())):=by
 obtain ⟨r,s,E⟩:=dM (b:=wn) (λi (o:aj)=>((i:Int),m,o,())) t.length (λi o=>o=(t.take i).map (il m)++t.drop i)
  (λr=>r=.inl (t.map (il m),())) (by omega)
  (λi u o W=>by
   left;have al:t.drop i=t[i]::t.drop (i+1):=lu u;have hlen:((t.take i).map (il m)).length=i:=by rw[List.length_map,eG];omega
   have ox:o.length=t.length:=by rw[W,fr,hlen,List.length_drop];omega
   have a7:((i:Int)<(t.length:Int)):=by omega
   have aX:((0:Int)<=(i:Int)):=by omega
   have bu:o.getD i (([]:M),(([]:M),((0:Int),())))=t[i]:=by rw[W,al];exact FI hlen
   have w:=e1 i (by omega);have lg: ∀q,o.set i q=(t.take i).map (il m)++q::t.drop (i+1):=by intro q;rw[W,al,List.set_append_right _ _ (by omega),hlen,Nat.sub_self];rfl
   have gS:(t.take (i+1)).map (il m)++t.drop (i+1)=(t.take i).map (il m)++il m t[i]::t.drop (i+1):=by rw[eY u,List.map_append,List.append_assoc];rfl
   refine ⟨_,rfl,?_⟩;rw[gS];unfold wn il;simp only[ox,a7,aX,am,ak,bM,bE,bu,w,O0,lg];cases bC:b9 m.2.2.2.1 (t[i]).1
   ·simp only[ax];rw[W,al];rfl
   ·simp only[ak];rfl)
  (λo W=>by
   have ox:o.length=t.length:=by rw[W,fr,List.length_map,eG,List.length_drop];omega
   have a7: ¬((t.length:Int)<(t.length:Int)):=by omega
   rw[eM,List.drop_length,List.append_nil]at W;subst W;refine ⟨_,rfl,?_⟩;unfold wn;simp only[ox,a7,bf,ax,not_false_eq_true]) t (by simp)
 subst E;exact s
theorem F8 (d:aK) (k:M):pC (d,k,())=some (b9 d k,()):=by have:=O0 d k;unfold As at this;unfold pC;exact this
theorem ass (t:aj) (m:bB) (ab:t.length<10^12):SN ((t.length:Int),(0:Int),m,t,())=some (.inl (t.map (il m),())):=by
 obtain ⟨r,s,E⟩:=dM (b:=C2) (λi (o:aj)=>((t.length:Int),(i:Int),m,o,())) t.length (λi o=>o=(t.take i).map (il m)++t.drop i)
  (λr=>r=.inl (t.map (il m),())) (by omega)
  (λi u o W=>by
   left;have al:t.drop i=t[i]::t.drop (i+1):=lu u;have hlen:((t.take i).map (il m)).length=i:=by rw[List.length_map,eG];omega
   have ox:o.length=t.length:=by rw[W,fr,hlen,List.length_drop];omega
   have a7:((i:Int)<(t.length:Int)):=by omega
   have aX:((0:Int)<=(i:Int)):=by omega
   have bu:o.getD i (([]:M),(([]:M),((0:Int),())))=t[i]:=by rw[W,al];exact FI hlen
   have w:=e1 i (by omega);have lg: ∀q,o.set i q=(t.take i).map (il m)++q::t.drop (i+1):=by intro q;rw[W,al,List.set_append_right _ _ (by omega),hlen,Nat.sub_self];rfl
   have gS:(t.take (i+1)).map (il m)++t.drop (i+1)=(t.take i).map (il m)++il m t[i]::t.drop (i+1):=by rw[eY u,List.map_append,List.append_assoc];rfl
   refine ⟨_,rfl,?_⟩;rw[gS];unfold C2 il;simp only[ox,a7,aX,am,ak,bM,bE,bu,w,F8,lg];cases bC:b9 m.2.2.2.1 (t[i]).1
   ·simp only[ax];rw[W,al];rfl
   ·simp only[ak];rfl)
  (λo W=>by
   have a7: ¬((t.length:Int)<(t.length:Int)):=by omega
   rw[eM,List.drop_length,List.append_nil]at W;refine ⟨_,rfl,?_⟩;unfold C2;simp only[a7,bf,ax,not_false_eq_true,W]) t (by simp)
 subst E;exact s
def iw (t:aj) (m:bB):aj:=
 if m.1=1 then kz t (m.2.1,m.2.2.1,m.2.2.2.2.2.2.1,())
 else if m.1=2 then t.filter λp=> !b9 (m.2.1,m.2.1++[0],()) p.1
 else if m.1=3 then t.filter λp=> !b9 m.2.2.2.1 p.1
 else if m.1=6 then t.map (il m)
 else qK m t
theorem aiD (k:M) (h:k.length<10^12):oH (k,())=some ((k,k++[0],()),())/\qt (k,())=some ((k,k++[0],()),()):=by
 unfold oH qt;have:k.length+([0]:M).length<=bp:=by rw[ek];simp;omega
 simp only[this,am,ak,and_self]
theorem acq (d:aK):(λp:b5=> !([d]:aq).any (λd=>b9 d p.1))=λp=> !b9 d p.1:=by
 funext p
 simp
theorem Ou (t:aj) (m:bB) (hm:gX m) (ae:cH bK t) (ab:t.length<10^11) (af: ∀p∈t,p.1.length<1000):
  rK (t,m,())=some (iw t m,())/\tr (t,m,())=some (iw t m,()):=by
 have avk:m.1=1\/m.1=2->m.2.1.length<10^12:=λh=>by
  have hlen:jl.all (λk=>decide (k.length<100))=true:=by kernel_rfl
  have:=of_decide_eq_true (fy.1 hlen _ (hm.key h));omega
 have room:(([]:aj).length+t.length)*40<=bp:=by rw[ek];simp;omega
 by_cases s:m.1=1
 ·have d1:decide (m.1=1)=true:=am s;have L:=aiJ t (m.2.1,m.2.2.1,m.2.2.2.2.2.2.1,()) ae (by omega);have aa:=aav t (m.2.1,m.2.2.1,m.2.2.2.2.2.2.1,()) ae (by omega);unfold rK tr L0 iw;rw[if_pos s];simp only[d1,ak,L,aa];exact ⟨trivial,rfl⟩
 ·have d1:decide (m.1=1)=false:=bf s;by_cases E:m.1=2
  ·have d2:decide (m.1=2)=true:=am E;obtain ⟨fE,jE⟩:=aiD m.2.1 (avk (.inr E));have L:=Oh t (m.2.1,m.2.1++[0],()) (.inr (UE _)) ae (by omega);have aa:=Ns t [(m.2.1,m.2.1++[0],())] (by omega) (by simp);rw[acq]at aa;unfold rK tr LV Od iw;rw[if_neg s,if_pos E];simp only[d1,d2,ak,ax,fE,jE,L,aa,and_self]
  ·have d2:decide (m.1=2)=false:=bf E;by_cases O:m.1=3
   ·have d3:decide (m.1=3)=true:=am O;have L:=Oh t m.2.2.2.1 (hm.span (.inl O)) ae (by omega);have aa:=Ns t [m.2.2.2.1] (by omega) (by simp);rw[acq]at aa;unfold rK tr K1 iw;rw[if_neg s,if_neg E,if_pos O];simp only[d1,d2,d3,ak,ax,L,aa,and_self]
   ·have d3:decide (m.1=3)=false:=bf O;by_cases bF:m.1=6
    ·have d6:decide (m.1=6)=true:=am bF;have d4:decide (m.1=4)=false:=bf (by rw[bF];decide);have d5:decide (m.1=5)=false:=bf (by rw[bF];decide);have L:=ass t m (by omega);have aa:=ast t m (by omega);unfold rK tr Tr iw;rw[if_neg s,if_neg E,if_neg O,if_pos bF];simp only[d1,d2,d3,d4,d5,d6,ak,ax,FG t (show t.length<10^12 by omega),L,room,am,List.nil_append,aa,and_self]
    ·have nz:Io m:=by
      rcases hm.kind with h |h |h |h |h |h
      ·exact absurd h s
      ·exact absurd h E
      ·exact absurd h O
      ·exact .inl h
      ·exact .inr h
      ·exact absurd h bF
     have W:uc m:=⟨nz,hm.from_ nz,hm.to_ nz,(hm.apart nz).1,(hm.apart nz).2⟩;have tw:=FU (kk _ W.from_);have vT:=FU (kk _ W.to_);have hlen:e0.all (λp=>decide (p.length<=4))=true:=by kernel_rfl
     have lt:=of_decide_eq_true (fy.1 hlen _ W.to_);have hk: ∀p∈t,m.2.2.2.2.2.1.length+p.1.length<10^12:=λp aP=>by have:=af p aP;omega
     have aa:=aql t m nz tw vT ae ab hk;have sQ:iw t m=qK m t:=by unfold iw;rw[if_neg s,if_neg E,if_neg O,if_neg bF]
     rw[sQ];refine ⟨?_,aa⟩;unfold rK;simp only[d1,d2,d3,ax];rcases nz with aC |ba
     ·simp only[am aC,ak,aim t m W aC ae ab hk]
     ·have d4:decide (m.1=4)=false:=bf (by rw[ba];decide);have J:jD m t=t.filter λx=> !bV x.1 m.2.2.2.2.2.1:=by unfold jD;rw[d4];rfl
      have:=abp t m tw vT ae ab hk;rw[<-J]at this;simp only[d4,ax,am ba,ak,this];rfl
abbrev ef:jb:=(false,(false,((0:Int),((([]:List (b5)),(([]:bc),(([]:List (Int)),(([]:List (eQ)),(([]:List (bB)),()))))),()))))
theorem Y4 (p:cN) (h:p.length<=10^5):Ag ((p,()),())=some (p,()):=by
 have L:(decide ((0:Int)<=((p.length):Int))&&decide ((((p.length):Int):Int)<=((p.length):Int))&&decide (((p.length):Int)*(136:Int)<=(bp:Int)))=true:=by rw[am (by omega),am (Int.le_refl _),am (by rw[ek];omega)];rfl
 simp only[Ag,L,ak,bE,List.length_replicate,eM,List.take_zero,List.nil_append];have:List.drop (0+p.length) (List.replicate p.length ef)=[]:=by simp
 rw[this,List.append_nil]
theorem apg {p:cN} {i:Nat} (h:i<p.length):rM ((p,()),(i:Int),())=some (p[i].1,()):=by have a7:(decide ((i:Int)>=(0:Int)))=true:=am (by omega);have aX:(decide ((i:Int)<((p.length):Int)))=true:=am (by omega);have c3:=dZ i;simp only[rM,a7,aX,c3,ak,bM,bE,bW h]
def iA (a b:M):Bool:= !decide (a=[])&&(decide (b=[])||Op.bytesLess a b)
def kb (a b:M):M:=bif iA b a then b else a
def k0 (a b:M):M:=bif !(Op.bytesLess a b) then a else b
def jw (d:aK):Bool:= !decide (d.2.1=[])&&(Op.bytesLess d.2.1 d.1||decide (d.2.1=d.1))
theorem arC (a b:M):rF (a,b,())=some (iA a b,()):=by simp only[rF,iA];cases decide (a=[])<;>cases decide (b=[])<;>rfl
theorem aqx (d:aK):oD (d,())=some (jw d,()):=by simp only[oD,jw];cases decide (d.2.1=[])<;>rfl
theorem DV (d:aK):k8 (d,())=some (jw d,()):=by simp only[k8,jw];cases decide (d.2.1=[])<;>rfl
def ke (a b:aK):Bool:= !jw (k0 a.1 b.1,(kb a.2.1 b.2.1,()))
def hB (a b:aK):aK:=bif ke a b then (k0 a.1 b.1,(kb a.2.1 b.2.1,())) else ([97],([97],()))
theorem aaM (a b:M): ∃c,pZ (a,b,())=some (c,())/\decide (c<0)=iA a b:=by
 have Hs: ∀y:M,i7 (y,())=some (false,()):=λy=>by simp[i7]
 simp only[pZ];by_cases gu:a=b
 ·subst gu;refine ⟨0,by simp only[cw,ak],?_⟩;unfold iA;rw[hJ];cases decide (a=[])<;>rfl
 ·by_cases aS:a=[]
  ·refine ⟨1,by simp only[bf gu,ax,am aS,ak],?_⟩;unfold iA;rw[am aS];rfl
  ·by_cases J:b=[]
   ·refine ⟨-1,by simp only[bf gu,ax,bf aS,am J,ak],?_⟩;unfold iA;rw[bf aS,am J];rfl
   ·cases ab:Op.bytesLess a b with
    |true=>
     refine ⟨-1,by simp only[bf gu,bf aS,bf J,ax,CX,Hs,ab,ak],?_⟩;unfold iA;rw[bf aS,bf J,ab];rfl
    |false=>
     refine ⟨1,by simp only[bf gu,bf aS,bf J,ax,CX,Hs,ab,Bool.or_false,cK,ak],?_⟩;unfold iA;rw[bf aS,bf J,ab];rfl
theorem ase (a b:M):FE ([a,b],())=some (kb a b,()):=by
 obtain ⟨c,s,E⟩:=aaM b a;have b6:(decide ((((List.length ([a,b]:bc)):Int):Int)<(1:Int)))=false:=rfl;have L:(decide ((0:Int)<(List.length ([a,b]:bc):Int)))=true:=rfl;have aa:(decide ((1:Int)<((List.length ([a,b]:bc)):Int)))=true:=rfl;have a1:(decide ((0:Int)<=(1:Int)))=true:=rfl;have bq:(decide ((2:Int)<((List.length ([a,b]:bc)):Int)))=false:=rfl;have g0:List.getD ([a,b]:bc) 0 []=a:=rfl;have g1:List.getD ([a,b]:bc) (Int.toNat 1) []=b:=rfl;have w:i64.wrap ((1:Int)+1)=2:=rfl;have b1:xB ([a,b],a,1,())=some (.inl ([a,b],kb a b,2,())):=by simp only[xB,aa,a1,bM,ak,g1,s,E,w];unfold kb;cases iA b a<;>rfl
 have b2:xB ([a,b],kb a b,2,())=some (.inr (.inl (kb a b,()))):=by simp only[xB,bq,ax]
 have h:ip ([a,b],a,1,())=some (.inl (kb a b,())):=m7 (n:=2) (by rw[kN];omega) (by simp only[eI,b1,b2]);simp only[FE,R1,b6,L,ax,ak,g0,h]
theorem Fe (a b:aK):tS (a,b,())=some (hB a b,()):=by simp only[tS,ase,DV];unfold hB ke k0;cases jw _<;>rfl
theorem NK (a b:aK):jw (hB a b)= !ke a b:=by
 unfold hB;cases h:ke a b
 ·rfl
 ·rw[ak];unfold ke at h;rw[eJ]at h;exact h
theorem Gd {a b k:M}:Op.bytesLess k (k0 a b)=false↔Op.bytesLess k a=false/\Op.bytesLess k b=false:=by
 unfold k0;cases h:Op.bytesLess a b
 ·simp only[cK,ak];refine ⟨λs=>⟨s,?_⟩,λs=>s.1⟩;cases E:Op.bytesLess k b
  ·rfl
  ·rcases h0 a b with O |O |O
   ·rw[h]at O;cases O
   ·rw[O,E]at s;cases s
   ·rw[fZ E O]at s;cases s
 ·simp only[cP,ax];refine ⟨λs=>⟨?_,s⟩,λs=>s.2⟩;cases E:Op.bytesLess k a
  ·rfl
  ·rw[fZ E h]at s;cases s
theorem NI {a b k:M}:(kb a b=[]\/Op.bytesLess k (kb a b)=true)↔(a=[]\/Op.bytesLess k a=true)/\(b=[]\/Op.bytesLess k b=true):=by
 unfold kb iA;by_cases J:b=[]
 ·subst J;simp
 ·by_cases aS:a=[]
  ·subst aS;simp[J]
  ·have e:(bif (!decide (b=[])&&(decide (a=[])||Op.bytesLess b a)) then b else a)=(bif Op.bytesLess b a then b else a):=by rw[bf J,bf aS];rfl
   rw[e];cases h:Op.bytesLess b a
   ·simp only[ax,aS,J,false_or];refine ⟨λs=>⟨s,?_⟩,λs=>s.1⟩;rcases h0 a b with O |O |O
    ·exact fZ s O
    ·rw[<-O];exact s
    ·rw[h]at O;cases O
   ·simp only[ak,aS,J,false_or];exact ⟨λs=>⟨fZ s h,s⟩,λs=>s.2⟩
theorem fP {d:aK} {k:M}:b9 d k=true↔Op.bytesLess k d.1=false/\(d.2.1=[]\/Op.bytesLess k d.2.1=true):=by unfold b9;simp only[bN,eJ,Bool.or_eq_true,dJ]
theorem A0 {a b:aK}:ke a b=true↔ ∃k,b9 a k=true/\b9 b k=true:=by
 have key: ∀aM u:M,jw (aM,(u,()))=false↔(u=[]\/Op.bytesLess aM u=true):=λaM u=>by
  unfold jw;by_cases h:u=[]
  ·simp[h]
  ·rw[bf h];simp only[cK,Bool.true_and,Bool.or_eq_false_iff,decide_eq_false_iff_not];constructor
   ·rintro ⟨s,E⟩;right;rcases h0 aM u with O |O |O
    ·exact O
    ·exact absurd O.symm E
    ·rw[s]at O;cases O
   ·rintro (s |s)
    ·exact absurd s h
    ·exact ⟨d9 s,λE=>by rw[E,hJ]at s;cases s⟩
 unfold ke;rw[eJ,key];constructor
 ·intro h;have s:=NI.1 h;have E:=Gd.1 (hJ (k0 a.1 b.1));exact ⟨k0 a.1 b.1,fP.2 ⟨E.1,s.1⟩,fP.2 ⟨E.2,s.2⟩⟩
 ·rintro ⟨k,s,E⟩;obtain ⟨dY,a2⟩:=fP.1 s;obtain ⟨b1,b2⟩:=fP.1 E;have O:=NI.2 ⟨a2,b2⟩;have aC:=Gd.2 ⟨dY,b1⟩;rcases O with O |O
  ·exact .inl O
  ·right;rcases h0 (k0 a.1 b.1) k with ba |ba |ba
   ·exact fZ ba O
   ·rw[ba];exact O
   ·rw[aC]at ba;cases ba
theorem arE {a b:aK} {k:M} (h:ke a b=true):b9 (hB a b) k=true↔b9 a k=true/\b9 b k=true:=by
 unfold hB;rw[h,ak,fP,fP,fP];show (Op.bytesLess k (k0 a.1 b.1)=false/\(kb a.2.1 b.2.1=[]\/_))↔_;rw[Gd,NI];constructor
 ·rintro ⟨⟨nS,oO⟩,tU,D4⟩;exact ⟨⟨nS,tU⟩,oO,D4⟩
 ·rintro ⟨⟨nS,tU⟩,oO,D4⟩;exact ⟨⟨nS,oO⟩,tU,D4⟩
def akf (m:bB):aq:=((qi (m,())).map (·.1)).getD []
def jQ (p:aK) (m:bB):Bool:=(akf m).any λw=>ke w p
end D
open Go Go.X
namespace D
def KU:Nat->Nat
 |0=>0
 |I+1=>6*(1+KU I)
def UP:Nat->Nat
 |0=>0
 |I+1=>5*KU (I+1)+6*UP I
theorem arZ (l:cG):Im (l,())=some (l,()):=by have a7:(decide ((0:Int)<=(0:Int)))=true:=rfl;have aX:(decide (((0:Int):Int)<=((l.length):Int)))=true:=am (by omega);have c3:(decide ((((l.length):Int):Int)<=(l.length:Int)))=true:=am (by omega);simp only[Im,a7,aX,c3,b7,cw,bM,ak,bE,eM,List.drop_zero]
end D
open Go Go.X
namespace D
def u0 (q d:aK):Bool:= !(Op.bytesLess q.1 d.1)&&(decide (d.2.1=[])||(!decide (q.2.1=[])&& !(Op.bytesLess d.2.1 q.2.1)))
theorem oG {a b c:M} (s:Op.bytesLess b a=false) (E:Op.bytesLess c b=false):Op.bytesLess c a=false:=by
 cases h:Op.bytesLess c a
 ·rfl
 ·rcases h0 a b with O |O |O
  ·rw[fZ h O]at E;cases E
  ·rw[<-O,h]at E;cases E
  ·rw[s]at O;cases O
theorem OF {q d:aK} {k:M} (h:u0 q d=true) (af:b9 q k=true):b9 d k=true:=by
 unfold u0 at h;rw[bN,eJ]at h;obtain ⟨s,E⟩:=h;obtain ⟨bb,aU⟩:=fP.1 af;refine fP.2 ⟨oG s bb,?_⟩;rw[Bool.or_eq_true,dJ,bN,eJ,eJ,decide_eq_false_iff_not]at E;rcases E with E |⟨E,O⟩
 ·exact .inl E
 ·right;rcases aU with aU |aU
  ·exact absurd aU E
  ·rcases h0 q.2.1 d.2.1 with aC |aC |aC
   ·exact fZ aU aC
   ·rw[<-aC];exact aU
   ·rw[O]at aC;cases aC
theorem lD: ∀n,n<=2->KU (n+1)<=300/\UP n<=400
 |0,_=>by decide
 |1,_=>by decide
 |2,_=>by decide
 |n+3,h=>by omega
end D
open Go Go.X
namespace D
theorem kR {x:Int} (h:(Lit.int .u8 x).wf=true):0<=x/\x<256:=by simp[Lit.wf,IntKind.min,IntKind.max,IntKind.signed,IntKind.bits]at h;omega
abbrev DE:aB:=.pair (.int .u8) (.pair (.int .u8) (.pair (.int .u8) .unit))
abbrev rP:aB:=.pair (.int .u8) (.pair (.int .u8) (.pair (.int .u8) (.pair (.int .u8) (.pair (.int .u8) (.pair (.int .u8) .unit)))))
abbrev Uv:aB:=.pair (.list DE) (.pair (.pair (.list rP) (.pair (.list rP) (.pair (.list rP) (.pair (.list rP) .unit)))) (.pair (.int .u8) .unit))
theorem GH {B:aB->Nat} (di:B rP=6) {l:List n5} (h:aB.good B (.list rP) l):(∀y∈l,qo y)/\l.length<10^18:=by
 obtain ⟨s,E⟩:=h;refine ⟨λx ai=> ?_,?_⟩
 ·have h:=E x ai;exact ⟨⟨kR h.1,kR h.2.1,kR h.2.2.1,kR h.2.2.2.1⟩,kR h.2.2.2.2.1,kR h.2.2.2.2.2.1⟩
 ·rw[di]at s;unfold reachBytes at s;omega
theorem ai9 {B:aB->Nat} (di:B DE=3) {l:lZ} (h:aB.good B (.list DE) l):(∀y∈l,rI y)/\l.length<10^18:=by
 obtain ⟨s,E⟩:=h;refine ⟨λx ai=> ?_,?_⟩
 ·have h:=E x ai;exact ⟨kR h.1,kR h.2.1,kR h.2.2.1⟩
 ·rw[di]at s;unfold reachBytes at s;omega
theorem akd {B:aB->Nat} (O:B DE=3) (bF:B rP=6) {x:e4} (h:aB.good B Uv x):Bk x:=
 ⟨⟨GH bF h.2.1.1,GH bF h.2.1.2.1,GH bF h.2.1.2.2.1,GH bF h.2.1.2.2.2.1⟩,ai9 O h.1,kR h.2.2.1⟩
inductive Src where
 |gen (v:M) (n:Int)
 |gone
 |old (k:M) (st:Option Int)
def fc (m:bB) (k:M):Src:=
 if m.1=1 then (if m.2.1=k then .gen m.2.2.1 m.2.2.2.2.2.2.1 else .old k none)
 else if m.1=2 then (if m.2.1=k then .gone else .old k none)
 else if m.1=3 then (if b9 m.2.2.2.1 k=true then .gone else .old k none)
 else if m.1=6 then .old k (if b9 m.2.2.2.1 k=true then some m.2.2.2.2.2.2.1 else none)
 else if m.1=4/\bV k m.2.2.2.2.1=true then .gone
 else if bV k m.2.2.2.2.2.1=true then .old (fD m.2.2.2.2.2.1 m.2.2.2.2.1 k) none
 else .old k none
def pS (d:Src) (t:aj) (x:b5):Prop:=
 match d with
 | .gen v n=>x=(x.1,v,n,())
 | .gone=>False
 | .old k st=> ∃y∈t,y.1=k/\x=(x.1,y.2.1,st.getD y.2.2.1,())
theorem AH {t:aj} {x:b5}:pS (.old x.1 none) t x↔x∈t:=by
 constructor
 ·rintro ⟨y,bo,s,E⟩;have:x=y:=by rw[E,<-s];rfl
  rw[this];exact bo
 ·intro h;exact ⟨x,h,rfl,rfl⟩
theorem Gw (k x:M):b9 (k,k++[0],()) x=decide (x=k):=by
 have cC:k++[0]≠[]:=by simp
 have key: ∀k x:M,(!Op.bytesLess x k&&Op.bytesLess x (k++[0]))=decide (x=k):=by
  intro k
  induction k with
  |nil=>
   intro x;cases x with
   |nil=>rfl
   |cons b x=>
    have h:Op.bytesLess (b::x) [0]=false:=by cases x<;>simp[Op.bytesLess]
    have E:Op.bytesLess (b::x) []=false:=rfl;show (!Op.bytesLess (b::x) []&&Op.bytesLess (b::x) [0])=_;rw[h,E];simp
  |cons a k aQ=>
   intro x;cases x with
   |nil=>rfl
   |cons b x=>
    show (!(decide (b<a)||(b==a&&Op.bytesLess x k))&&(decide (b<a)||(b==a&&Op.bytesLess x (k++[0]))))=_;by_cases s:b<a
    ·have:b≠a:=by intro e;rw[e]at s;exact absurd s (UInt8.lt_irrefl a)
     simp[s,this]
    ·by_cases E:b=a
     ·subst E;have:=aQ x;simp only[s,decide_false,Bool.false_or,beq_self_eq_true,Bool.true_and,this,List.cons.injEq,true_and]
     ·simp[s,E]
 have:=key k x;unfold b9;rw[bf cC,Bool.false_or];exact this
theorem gX.mv {m:bB} (hm:gX m) (s:m.1≠1) (E:m.1≠2) (O:m.1≠3) (bF:m.1≠6):uc m:=by
 have nz:Io m:=by
  rcases hm.kind with h |h |h |h |h |h
  ·exact absurd h s
  ·exact absurd h E
  ·exact absurd h O
  ·exact .inl h
  ·exact .inr h
  ·exact absurd h bF
 exact ⟨nz,hm.from_ nz,hm.to_ nz,(hm.apart nz).1,(hm.apart nz).2⟩
theorem OP {t:aj} {m:bB} (hm:gX m) (ae:cH bK t) (x:b5):x∈iw t m↔pS (fc m x.1) t x:=by
 unfold iw fc;by_cases s:m.1=1
 ·rw[if_pos s,if_pos s,aij];by_cases af:m.2.1=x.1
  ·rw[if_pos af];constructor
   ·rintro (h |⟨-,h⟩)
    ·rw[h];rfl
    ·exact absurd af.symm h
   ·intro h;have h:x=(x.1,m.2.2.1,m.2.2.2.2.2.2.1,()):=h;left;rw[af];exact h
  ·rw[if_neg af,AH];constructor
   ·rintro (h |⟨h,-⟩)
    ·exact absurd (by rw[h]) af
    ·exact h
   ·intro h;exact .inr ⟨h,λe=>af e.symm⟩
 ·rw[if_neg s,if_neg s];by_cases E:m.1=2
  ·rw[if_pos E,if_pos E,eV,Gw];by_cases af:m.2.1=x.1
   ·rw[if_pos af];constructor
    ·rintro ⟨-,h⟩;rw[am af.symm]at h;cases h
    ·exact False.elim
   ·rw[if_neg af,AH,bf (λe:x.1=m.2.1=>af e.symm)];simp
  ·rw[if_neg E,if_neg E];by_cases O:m.1=3
   ·rw[if_pos O,if_pos O,eV];cases bC:b9 m.2.2.2.1 x.1
    ·rw[if_neg (by simp),AH];simp
    ·rw[if_pos rfl];constructor
     ·rintro ⟨-,h⟩;cases h
     ·exact False.elim
   ·rw[if_neg O,if_neg O];by_cases bF:m.1=6
    ·rw[if_pos bF,if_pos bF,List.mem_map];have Cu: ∀y:b5,(il m y).1=y.1:=λy=>by unfold il;cases b9 m.2.2.2.1 y.1<;>rfl
     have m1: ∀y:b5,il m y=(y.1,y.2.1,(if b9 m.2.2.2.1 y.1=true then some m.2.2.2.2.2.2.1 else none).getD y.2.2.1,()):=λy=>by unfold il;cases b9 m.2.2.2.1 y.1<;>rfl
     constructor
     ·rintro ⟨y,bo,rfl⟩;refine ⟨y,bo,(Cu y).symm,?_⟩;rw[Cu y];exact m1 y
     ·rintro ⟨y,bo,L,aa⟩;refine ⟨y,bo,?_⟩;rw[m1 y,aa,L]
    ·rw[if_neg bF,if_neg bF];have W:=hm.mv s E O bF;unfold qK;rw[Dk abf (Gf ae)];have J:x∈jD m t↔x∈t/\bV x.1 m.2.2.2.2.2.1=false/\ ¬(m.1=4/\bV x.1 m.2.2.2.2.1=true):=by
      unfold jD;by_cases aC:m.1=4
      ·rw[am aC,ak,eV,eV];cases bV x.1 m.2.2.2.2.2.1<;>cases bV x.1 m.2.2.2.2.1<;>simp[aC]
      ·rw[bf aC,ax,eV];cases bV x.1 m.2.2.2.2.2.1<;>simp[aC]
     have iz:x∈(hC m t).map (hS m.2.2.2.2.1 m.2.2.2.2.2.1)↔bV x.1 m.2.2.2.2.2.1=true/\ ∃y∈t,y.1=fD m.2.2.2.2.2.1 m.2.2.2.2.1 x.1/\x=(x.1,y.2.1,y.2.2.1,()):=by
      rw[List.mem_map];constructor
      ·rintro ⟨y,bo,rfl⟩;obtain ⟨bo,aL⟩:=eV.1 bo;refine ⟨uV,y,bo,?_,rfl⟩;obtain ⟨r,au⟩:=j9.1 aL;show y.1=fD _ _ (fD _ _ y.1);rw[au,lk,lk]
      ·rintro ⟨J,y,bo,L,aa⟩;obtain ⟨r,au⟩:=j9.1 J;rw[au,lk]at L;refine ⟨y,eV.2 ⟨bo,?_⟩,?_⟩
       ·show bV y.1 _=true;rw[L];exact AQ _ _
       ·show (fD _ _ y.1,y.2.1,y.2.2.1,())=x;rw[L,lk,<-au];exact aa.symm
     rw[J,iz];by_cases aC:m.1=4/\bV x.1 m.2.2.2.2.1=true
     ·rw[if_pos aC];constructor
      ·rintro (⟨-,-,h⟩|⟨h,-⟩)
       ·exact absurd aC h
       ·rw[W.not_both aC.2]at h;cases h
      ·exact False.elim
     ·rw[if_neg aC];cases bC:bV x.1 m.2.2.2.2.2.1
      ·rw[if_neg (by simp),AH];simp[aC]
      ·rw[if_pos rfl];constructor
       ·rintro (⟨-,h,-⟩|⟨-,h⟩)
        ·cases h
        ·exact h
       ·intro h;exact .inr ⟨rfl,h⟩
theorem ON {t:aj} {m:bB} (ae:cH bK t):cH bK (iw t m):=by
 unfold iw;split
 ·unfold kz;exact cH.ins ae.wo (acw _ _)
 ·split
  ·exact List.Pairwise.filter _ ae
  ·split
   ·exact List.Pairwise.filter _ ae
   ·split
    ·refine List.pairwise_map.2 ?_;refine List.Pairwise.imp (λ{a b} h=> ?_) ae;have Cu: ∀y:b5,(il m y).1=y.1:=λy=>by unfold il;cases b9 m.2.2.2.1 y.1<;>rfl
     show Op.bytesLess (il m a).1 (il m b).1=true;rw[Cu,Cu];exact h
    ·exact aco ae
theorem aiT (t:aj) (m:bB):(iw t m).length<=2*t.length+1:=by
 unfold iw;split
 ·have:=ab7 t (m.2.1,m.2.2.1,m.2.2.2.2.2.2.1,());omega
 ·split
  ·have:=hE (λp:b5=> !b9 (m.2.1,m.2.1++[0],()) p.1) t;omega
  ·split
   ·have:=hE (λp:b5=> !b9 m.2.2.2.1 p.1) t;omega
   ·split
    ·rw[List.length_map];omega
    ·have:=aiQ m t;omega
def xo (t:aj):cG->aj
 |[]=>t
 |m::r=>iw (xo t r) m
def gH (t:aj) (l:cG):aj:=l.foldl iw t
theorem NW (t:aj) (l:cG) (m:bB):gH t (l++[m])=iw (gH t l) m:=by unfold gH;rw[List.foldl_append];rfl
theorem OL (t:aj): ∀r:cG,xo t r=gH t r.reverse
 |[]=>rfl
 |m::r=>by rw[List.reverse_cons,NW,<-OL t r];rfl
theorem AF {t:aj} (ae:cH bK t): ∀l:cG,cH bK (gH t l):=by
 intro l
 induction l generalizing t with
 |nil=>exact ae
 |cons m l aQ=>exact aQ (ON ae)
theorem abR (l:cG): ∀t:aj,(gH t l).length+1<=2^l.length*(t.length+1):=by
 induction l with
 |nil=>intro t;simp[gH]
 |cons m l aQ=>
  intro t;have s:=aQ (iw t m);have E:=aiT t m;have O:2^l.length*((iw t m).length+1)<=2^l.length*(2*t.length+1+1):=Nat.mul_le_mul_left _ (by omega);have aC:2^(m::l).length*(t.length+1)=2^l.length*(2*t.length+1+1):=by rw[gn,Nat.pow_succ,Nat.mul_assoc,show 2*(t.length+1)=2*t.length+1+1 by omega]
  rw[aC];exact Nat.le_trans s O
def ki (st:Option Int):Src->Src
 | .gen v n=>.gen v (st.getD n)
 | .gone=>.gone
 | .old k a8=>.old k (st.or a8)
def ft:cG->M->Src
 |[],k=>.old k none
 |m::r,k=>match fc m k with
  | .gen v n=>.gen v n
  | .gone=>.gone
  | .old cj st=>ki st (ft r cj)
theorem acF (a b:Option Int) (I:Int):(a.or b).getD I=a.getD (b.getD I):=by cases a<;>cases b<;>rfl
theorem abO {t:aj} (ae:cH bK t): ∀(r:cG),(∀m∈r,gX m)-> ∀x,x∈xo t r↔pS (ft r x.1) t x
 |[],_,x=>by show x∈t↔pS (.old x.1 none) t x;rw[AH]
 |m::r,h,x=>by
  have au:cH bK (xo t r):=by rw[OL];exact AF ae _
  have aQ:=abO ae r (λn aR=>h n (gO _ aR));show x∈iw (xo t r) m↔_;rw[OP (h m gh) au];unfold ft;cases hm:fc m x.1 with
  |gen v n=>exact Iff.rfl
  |gone=>exact Iff.rfl
  |old k st=>
   show (∃y∈xo t r,y.1=k/\x=(x.1,y.2.1,st.getD y.2.2.1,()))↔pS (ki st (ft r k)) t x;cases au:ft r k with
   |gen v n=>
    show _↔x=(x.1,v,st.getD n,());constructor
    ·rintro ⟨y,bo,L,aa⟩;have:=(aQ y).1 bo;rw[L,au]at this;have this:y=(y.1,v,n,()):=this;rw[aa,this]
    ·intro e;refine ⟨(k,v,n,()),(aQ _).2 ?_,rfl,e⟩;show pS (ft r k) t _;rw[au];rfl
   |gone=>
    show _↔False;constructor
    ·rintro ⟨y,bo,L,aa⟩;have:=(aQ y).1 bo;rw[L,au]at this;exact this
    ·exact False.elim
   |old aU eo=>
    show _↔ ∃z∈t,z.1=aU/\x=(x.1,z.2.1,(st.or eo).getD z.2.2.1,());constructor
    ·rintro ⟨y,bo,L,aa⟩;have:=(aQ y).1 bo;rw[L,au]at this;obtain ⟨z,bI,f1,f2⟩:=this;refine ⟨z,bI,f1,?_⟩;rw[acF,aa,f2]
    ·rintro ⟨z,bI,f1,f2⟩;refine ⟨(k,z.2.1,eo.getD z.2.2.1,()),(aQ _).2 ?_,rfl,?_⟩
     ·show pS (ft r k) t _;rw[au];exact ⟨z,bI,f1,rfl⟩
     ·rw[acF]at f2;exact f2
theorem Oq {t:aj} (ae:cH bK t) {l:cG} (h: ∀m∈l,gX m) (x:b5):x∈gH t l↔pS (ft l.reverse x.1) t x:=by have:=abO ae l.reverse (λm hm=>h m (List.mem_reverse.1 hm)) x;rw[OL,List.reverse_reverse]at this;exact this
theorem abl {t ad:aj} (ae:cH bK t) (hu:cH bK ad) {l:cG} (h: ∀m∈l,gX m) (x:b5)
  (af: ∀k st,ft l.reverse x.1=.old k st-> ∀y:b5,y.1=k->(y∈t↔y∈ad)):x∈gH t l↔x∈gH ad l:=by
 rw[Oq ae h,Oq hu h];cases e:ft l.reverse x.1 with
 |gen v n=>exact Iff.rfl
 |gone=>exact Iff.rfl
 |old k st=>
  constructor
  ·rintro ⟨y,bo,s,E⟩;exact ⟨y,(af k st e y s).1 bo,s,E⟩
  ·rintro ⟨y,bo,s,E⟩;exact ⟨y,(af k st e y s).2 bo,s,E⟩
theorem abu {d x:aK} (h:nu (d,x,())=some (true,())) {k:M} (af:b9 x k=true):b9 d k=true:=by
 have ai:jw x=false:=by
  unfold jw;obtain ⟨bb,aU⟩:=fP.1 af;rcases aU with aU |aU
  ·rw[am aU];rfl
  ·have:Op.bytesLess x.1 x.2.1=true:=by
    rcases h0 x.1 k with O |O |O
    ·exact fZ O aU
    ·rw[O];exact aU
    ·rw[bb]at O;cases O
   have E:decide (x.2.1=x.1)=false:=bf (λe=>lT this e.symm);rw[d9 this,E];simp
 simp only[nu,aqx,ai,cK,ak]at h;cases ae:jw d with
 |true=>rw[ae]at h;simp only[cP,ax]at h;cases h
 |false=>
  rw[ae]at h;simp only[cK,ak]at h;cases fa:(Op.bytesLess d.1 x.1||decide ((d.1:M)=x.1)) with
  |false=>rw[fa]at h;cases h
  |true=>
   rw[fa]at h;simp only[ak,arC]at h;have H0:Op.bytesLess x.1 d.1=false:=by
    rcases Bool.or_eq_true_iff.1 fa with s |s
    ·exact d9 s
    ·rw[of_decide_eq_true s];exact hJ _
   have jg:iA d.2.1 x.2.1=false:=by
    cases ab:iA d.2.1 x.2.1
    ·rfl
    ·rw[ab]at h;cases h
   refine OF ?_ af;unfold u0;rw[H0];by_cases e:d.2.1=[]
   ·rw[am e];rfl
   ·unfold iA at jg;rw[bf e]at jg ⊢;simp only[cK,Bool.true_and,Bool.or_eq_false_iff]at jg;simp[jg.1,jg.2]
theorem rS: ∀p∈e0,p.length<=4:=by
 have h:e0.all (λp=>decide (p.length<=4))=true:=by kernel_rfl
 exact λp aP=>of_decide_eq_true (fy.1 h p aP)
theorem acd {m:bB} {k v:M} {n:Int} (h:fc m k=.gen v n):m.1=1/\m.2.1=k:=by
 unfold fc at h;by_cases s:m.1=1
 ·rw[if_pos s]at h;by_cases af:m.2.1=k
  ·exact ⟨s,af⟩
  ·rw[if_neg af]at h;cases h
 ·rw[if_neg s]at h;split at h
  ·split at h<;>cases h
  ·split at h
   ·split at h<;>cases h
   ·split at h
    ·cases h
    ·split at h
     ·cases h
     ·split at h<;>cases h
theorem OD {m:bB} {k cj:M} {st:Option Int} (h:fc m k=.old cj st):
  cj=k\/(m.1≠1/\m.1≠2/\m.1≠3/\m.1≠6/\bV k m.2.2.2.2.2.1=true/\cj=fD m.2.2.2.2.2.1 m.2.2.2.2.1 k):=by
 unfold fc at h;by_cases s:m.1=1
 ·rw[if_pos s]at h;split at h
  ·cases h
  ·injection h with L aa;exact .inl L.symm
 ·rw[if_neg s]at h;by_cases E:m.1=2
  ·rw[if_pos E]at h;split at h
   ·cases h
   ·injection h with L aa;exact .inl L.symm
  ·rw[if_neg E]at h;by_cases O:m.1=3
   ·rw[if_pos O]at h;split at h
    ·cases h
    ·injection h with L aa;exact .inl L.symm
   ·rw[if_neg O]at h;by_cases bF:m.1=6
    ·rw[if_pos bF]at h;injection h with L aa;exact .inl L.symm
    ·rw[if_neg bF]at h;split at h
     ·cases h
     ·split at h
      ·rename_i J;injection h with L aa
       exact .inr ⟨s,E,O,bF,J,L.symm⟩
      ·injection h with L aa;exact .inl L.symm
theorem Gu {t f k:M} (J:bV k t=true):k.length+f.length=(fD t f k).length+t.length:=by obtain ⟨r,au⟩:=j9.1 J;rw[au,lk,fr,fr];omega
theorem arU {t:aj} {m:bB} (hm:gX m) (ae:cH bK t) {B:Nat} (di:100<=B) (h: ∀p∈t,p.1.length<=B): ∀x∈iw t m,x.1.length<=B+4:=by
 intro x ai;have:=(OP hm ae x).1 ai;cases e:fc m x.1 with
 |gen v n=>
  obtain ⟨s,E⟩:=acd e;have:=(tX _ (hm.key (.inl s))).2;rw[E]at this;omega
 |gone=>rw[e]at this;exact this.elim
 |old k st=>
  rw[e]at this;obtain ⟨y,bo,L,aa⟩:=this;have bo:=h y bo;rcases OD e with s |⟨s,E,O,bF,J,aC⟩
  ·rw[L,s]at bo;omega
  ·have W:=hm.mv s E O bF;have dD:=rS _ W.to_;have:=Gu (f:=m.2.2.2.2.1) J;rw[L,aC]at bo;omega
theorem abk {l:cG} (h: ∀m∈l,gX m): ∀{t:aj} {B:Nat},cH bK t->100<=B->(∀p∈t,p.1.length<=B)-> ∀x∈gH t l,x.1.length<=B+4*l.length:=by
 induction l with
 |nil=>intro t B _ _ J x ai;exact J x ai
 |cons m l aQ=>
  intro t B ae di J x ai;have:=aQ (λn aR=>h n (gO _ aR)) (ON (m:=m) ae) (B:=B+4) (by omega) (arU (h m gh) ae di J) x ai;rw[gn];omega
theorem aid {m:bB} {d:aK} (hm:gy m) (ab:kc (m,d,())=some (true,())):
  (m.1=1->b9 d m.2.1=true)/\(m.1≠1->m.1≠2->m.1≠3->m.1≠6-> ∀k,bV k m.2.2.2.2.2.1=true->b9 d k=true):=by
 have cy:=hm.ok;obtain ⟨-,R,cr,-,ko,-,hO,au,hw⟩:=wU hm;have aw: ∀x∈cr,nu (d,x,())=some (true,()):=by intro x ai;exact ZZ ko hO au hw ab x (List.mem_append_right _ ai)
 constructor
 ·intro s;have af:=cy.key (.inl s);have:cr=[(m.2.1,m.2.1++[0],())]:=by have d1:decide (m.1=1)=true:=am s;simp only[jd,k3,d1,ak,(sd af).2]at hO;exact (congrArg Prod.fst (eW hO)).symm
  refine abu (aw _ (by rw[this];exact gh)) ?_;rw[Gw];simp
 ·intro s E O bF k af;have W:=cy.mv s E O bF;obtain ⟨fU,fV,nN⟩:=kO _ (kk _ W.from_);obtain ⟨ah,aJ,bR⟩:=kO _ (kk _ W.to_);have d1:decide (m.1=1)=false:=bf s;have d2:decide (m.1=2)=false:=bf E;have:dF m.2.2.2.2.2.1∈cr:=by
   rcases W.kind with aC |ba
   ·have d4:decide (m.1=4)=true:=am aC;simp only[jd,k3,d1,d2,d4,ak,ax,fV,aJ]at hO;have:cr=_:=(congrArg Prod.fst (eW hO)).symm;rw[this];simp
   ·have d4:decide (m.1=4)=false:=bf (by omega);have d5:decide (m.1=5)=true:=am ba;simp only[jd,k3,d1,d2,d4,d5,ak,ax,fV,aJ]at hO;have:cr=_:=(congrArg Prod.fst (eW hO)).symm;rw[this];simp
  refine abu (aw _ this) ?_;rw[w3 bR];exact af
def pK (d:aK) (t:aj):Prop:= ∀p∈t,b9 d p.1=true
theorem ajL {t:aj} {m:bB} {d:aK} (hm:gy m) (ab:kc (m,d,())=some (true,())) (ae:cH bK t) (h:pK d t):pK d (iw t m):=by
 intro x ai;have:=(OP hm.ok ae x).1 ai;obtain ⟨g1,g2⟩:=aid hm ab;cases e:fc m x.1 with
 |gen v n=>
  obtain ⟨s,E⟩:=acd e;rw[<-E];exact g1 s
 |gone=>rw[e]at this;exact this.elim
 |old k st=>
  rw[e]at this;obtain ⟨y,bo,L,aa⟩:=this;rcases OD e with s |⟨s,E,O,bF,J,aC⟩
  ·rw[<-s,<-L];exact h y bo
  ·exact g2 s E O bF _ J
theorem aiS {l:cG} {d:aK} (h: ∀m∈l,gy m/\kc (m,d,())=some (true,())): ∀{t:aj},cH bK t->pK d t->pK d (gH t l):=by
 induction l with
 |nil=>intro t _ aT;exact aT
 |cons m l aQ=>
  intro t ae aT;have hm:=h m gh;exact aQ (λn aR=>h n (gO _ aR)) (ON ae) (ajL hm.1 hm.2 ae aT)
def o9 (u:M):M->bc->aq
 |aM,[]=>[(aM,u,())]
 |aM,p::m=>(aM,p,())::o9 u p m
theorem uG (u:M): ∀(m:bc) (aM:M),(o9 u aM m).length=m.length+1
 |[],_=>rfl
 |p::m,aM=>by show (o9 u p m).length+1=_;rw[uG u m p];rfl
theorem Pb (u:M): ∀(m:bc) (aM:M),∀r∈o9 u aM m,r.1=aM\/r.1∈m
 |[],aM,r,h=>by obtain rfl:=fJ.1 h;exact .inl rfl
 |p::m,aM,r,h=>by
  rcases eO.1 h with rfl |h
  ·exact .inl rfl
  ·rcases Pb u m p r h with h |h
   ·exact .inr (by rw[h];exact gh)
   ·exact .inr (gO _ h)
abbrev Sep (q r:aK):Prop:=q.2.1≠[]/\Op.bytesLess r.1 q.2.1=false
theorem OZ (u:M): ∀(m:bc) (aM:M),(∀p∈m,p≠[])->(m.Pairwise λa b=>Op.bytesLess a b=true)->(o9 u aM m).Pairwise Sep
 |[],aM,_,_=>List.pairwise_singleton _ _
 |p::m,aM,s,E=>by
  have O:=List.pairwise_cons.1 E;refine List.pairwise_cons.2 ⟨λr au=>⟨s p gh,?_⟩,OZ u m p (λq aD=>s q (gO _ aD)) O.2⟩;show Op.bytesLess r.1 p=false;rcases Pb u m p r au with h |h
  ·rw[h];exact hJ _
  ·exact d9 (O.1 _ h)
def iM (k:M):bc->Nat
 |[]=>0
 |p::m=>if Op.bytesLess k p=true then 0 else 1+iM k m
theorem acS (u:M) (k:M): ∀(m:bc) (aM:M) (j:Nat),(∀p∈m,p≠[])->(m.Pairwise λa b=>Op.bytesLess a b=true)->j<m.length+1->
  b9 (List.getD (o9 u aM m) j cO) k=true->j=iM k m
 |[],aM,j,_,_,an,_=>by simp at an;subst an;rfl
 |p::m,aM,0,s,E,_,h=>by
  have h:b9 (aM,p,()) k=true:=h;rcases (fP.1 h).2 with h |h
  ·exact absurd h (s p gh)
  ·unfold iM;rw[if_pos h]
 |p::m,aM,j+1,s,E,an,h=>by
  have O:=List.pairwise_cons.1 E;have h:b9 (List.getD (o9 u p m) j cO) k=true:=h;have aQ:=acS u k m p j (λq aD=>s q (gO _ aD)) O.2 (by simp at an;omega) h;have fa:Op.bytesLess k p=false:=by
   have p7:j<(o9 u p m).length:=by rw[uG];simp at an;omega
   have hm:=Pb u m p _ (dz p7);rw[bW p7]at h;have af:=(fP.1 h).1;rcases hm with e |e
   ·rw[e]at af;exact af
   ·exact oG (d9 (O.1 _ e)) af
  unfold iM;rw[if_neg (by rw[fa];simp),<-aQ];omega
def qY:List bc->aK->Bool
 |[],_=>true
 |P::ay,d=>decide (partsOf d (cl P d)=o9 d.2.1 d.1 (cl P d))&&(partsOf d (cl P d)).all λq=>u0 q d&&qY ay q
theorem ar7: ∀ay∈nd,qY ay cO=true:=by
 have h:nd.all (λay=>qY ay cO)=true:=by kernel_rfl
 exact λay aP=>fy.1 h ay aP
theorem F7 {P:bc} {ay:List bc} {d:aK} (h:qY (P::ay) d=true):
  partsOf d (cl P d)=o9 d.2.1 d.1 (cl P d)/\ ∀q∈partsOf d (cl P d),u0 q d=true/\qY ay q=true:=by
 unfold qY at h;rw[bN,dJ]at h;refine ⟨h.1,λq aD=> ?_⟩;have:=fy.1 h.2 q aD;rw[bN]at this;exact this
theorem OQ {P:bc} {d:aK}: ∀p∈cl P d,p≠[]:=by
 intro p aP e;have:=(eV.1 aP).2;rw[e]at this;rw[bN,eJ,Bool.or_eq_false_iff]at this;obtain ⟨⟨s,E⟩,O⟩:=this;have:=(fP.1 O).1;cases ae:d.1 with
 |nil=>rw[ae]at E;simp at E
 |cons a x=>rw[ae]at s;cases s
theorem Ge {P:bc} (h:P.Pairwise λa b=>Op.bytesLess a b=true) (d:aK):(cl P d).Pairwise λa b=>Op.bytesLess a b=true:=List.Pairwise.filter _ h
theorem ach: ∀(ar:List (aj×aK)),(ar.Pairwise λa b=>Sep a.2 b.2)->(∀a∈ar,cH bK a.1/\pK a.2 a.1)->cH bK (ar.flatMap (·.1))
 |[],_,_=>List.Pairwise.nil
 |a::ar,s,E=>by
  have O:=List.pairwise_cons.1 s;rw[List.flatMap_cons];refine List.pairwise_append.2 ⟨(E a gh).1,ach ar O.2 (λb J=>E b (gO _ J)),λx ai y bo=> ?_⟩;obtain ⟨b,J,bo⟩:=List.mem_flatMap.1 bo;have ai:=(E a gh).2 x ai;have bo:=(E b (gO _ J)).2 y bo;obtain ⟨s1,s2⟩:=O.1 b J;rcases (fP.1 ai).2 with h |h
  ·exact absurd h s1
  ·have bo:=(fP.1 bo).1;have aC:=oG s2 bo;rcases h0 x.1 y.1 with ba |ba |ba
   ·exact ba
   ·rw[<-ba,h]at aC;cases aC
   ·rw[fZ ba h]at aC;cases aC
abbrev im:cZ:=(([]:aj),(([]:bc),(([]:dR),(([]:hH),(([]:cG),())))))
def cont (V:da):List bc->Nat->aj
 |[],i=>(V.getD i im).1
 |_::ay,i=>gH ((V.getD i im).2.2.1.flatMap λk=>cont V ay k.toNat) (V.getD i im).2.2.2.2.1
def low (V:da) (ay:List bc) (ks:fh):aj:=ks.flatMap λk=>cont V ay k
theorem pH {V:da} {i:Nat} {n:cZ} (h:V[i]? =some n):V.getD i im=n:=by unfold List.getD;rw[h];rfl
theorem z8 {V:da} {i:Nat} {p:aj} {piv:bc} {ks:fh} {sums:hH} {buf:cG} (P:bc) (ay:List bc)
  (h:V[i]? =some (p,piv,bP ks,sums,buf,())):cont V (P::ay) i=gH (low V ay ks) buf:=by
 show gH ((V.getD i im).2.2.1.flatMap λk=>cont V ay k.toNat) (V.getD i im).2.2.2.2.1=_;rw[pH h];show gH ((bP ks).flatMap λk=>cont V ay k.toNat) buf=_;unfold bP low;rw[List.flatMap_map];rfl
def clen:Nat->Nat
 |0=>1000
 |I+1=>32*(6*clen I+1)
structure GD (d:aK) (I:Nat) (c:aj):Prop where
 srt:cH bK c
 sp:pK d c
 len:c.length<=clen I
 key: ∀p∈c,p.1.length<=100+20*I
theorem ar4 (ar:List aj) (c:Nat) (h: ∀a∈ar,a.length<=c):ar.flatten.length<=ar.length*c:=by
 induction ar with
 |nil=>simp
 |cons a ar aQ=>
  rw[List.flatten_cons,fr,gn];have s:=h a gh;have E:=aQ (λb J=>h b (gO _ J));rw[Nat.add_mul];omega
theorem UA {V:da} {ay:List bc} {ks:fh} {parts:aq} {I:Nat} {d:aK} (af:ks.length=parts.length) (ab:ks.length<=6)
  (auP:parts.Pairwise Sep) (rb: ∀q∈parts,u0 q d=true) (h: ∀j,j<ks.length->GD (parts.getD j cO) I (cont V ay (ks.getD j 0))):
  cH bK (low V ay ks)/\pK d (low V ay ks)/\(low V ay ks).length<=6*clen I/\ ∀p∈low V ay ks,p.1.length<=100+20*I:=by
 have qa: ∀x∈low V ay ks,∃j,j<ks.length/\x∈cont V ay (ks.getD j 0):=by intro x ai;obtain ⟨k,j5,ai⟩:=List.mem_flatMap.1 ai;obtain ⟨j,an,rfl⟩:=List.mem_iff_getElem.1 j5;exact ⟨j,an,by rw[bW an];exact ai⟩
 refine ⟨?_,?_,?_,?_⟩
 ·have e:low V ay ks=(List.zip (ks.map λk=>cont V ay k) parts).flatMap (·.1):=by unfold low;rw[List.flatMap_def,List.flatMap_def];congr 1;rw[List.map_fst_zip (by rw[List.length_map];omega)]
  rw[e];refine ach _ ?_ ?_
  ·have:((List.zip (ks.map λk=>cont V ay k) parts).map (·.2)).Pairwise Sep:=by rw[List.map_snd_zip (by rw[List.length_map];omega)];exact auP
   exact List.pairwise_map.1 this
  ·intro a aS;obtain ⟨j,an,rfl⟩:=List.mem_iff_getElem.1 aS;have xY:j<ks.length:=by rw[List.length_zip,List.length_map]at an;omega
   have hb:j<parts.length:=by omega
   have:=h j xY;rw[List.getElem_zip];rw[bW xY,bW hb]at this;simp only[List.getElem_map];exact ⟨this.srt,this.sp⟩
 ·intro x ai;obtain ⟨j,an,ai⟩:=qa x ai;have:=(h j an).sp x ai;have hb:j<parts.length:=by omega
  rw[bW hb]at this;exact OF (rb _ (dz hb)) this
 ·have e:low V ay ks=(ks.map λk=>cont V ay k).flatten:=by unfold low;rw[List.flatMap_def]
  rw[e];have:=ar4 (ks.map λk=>cont V ay k) (clen I) (by intro a aS;obtain ⟨k,j5,rfl⟩:=List.mem_map.1 aS;obtain ⟨j,an,rfl⟩:=List.mem_iff_getElem.1 j5;have:=(h j an).len;rw[bW an]at this;exact this)
  rw[List.length_map]at this;exact Nat.le_trans this (gW _ ab)
 ·intro x ai;obtain ⟨j,an,ai⟩:=qa x ai;exact (h j an).key x ai
theorem hp.cont_ok {V:da} {t:aj} (aT:cH bK t) (ab:t.length<=1000) (af: ∀p∈t,p.1.length<=100): ∀{ay:List bc} {d:aK} {i:Nat},
  (∀q∈ay,q.length<=5)->(∀P∈ay,P.Pairwise λa b=>Op.bytesLess a b=true)->qY ay d=true->hp V t ay d i->GD d ay.length (cont V ay i)
 |[],d,i,_,_,_,h=>by
  have h:V[i]? =some (inS d t,[],[],[],[],()):=h;have e:cont V [] i=inS d t:=by show (V.getD i im).1=_;rw[pH h]
  rw[e];have l:=sc d t;refine ⟨List.Pairwise.filter _ aT,λp aP=>(eV.1 aP).2,?_,λp aP=> ?_⟩
  ·show _<=1000;omega
  ·have:=af p (eV.1 aP).1;simp;omega
 |P::ay,d,i,aD,hN,bu,⟨ks,sums,buf,s,E,O,aC,ba,bF,dN,ig⟩=>by
  obtain ⟨g1,g2⟩:=F7 bu;have j6:(cl P d).length<=5:=Nat.le_trans (ux P d) (aD P gh);have kJ:(partsOf d (cl P d)).length=ks.length:=by rw[g1,uG,E]
  obtain ⟨dD,dr,pt,rv⟩:=UA (V:=V) (ay:=ay) (ks:=ks) (parts:=partsOf d (cl P d)) (I:=ay.length) (d:=d) kJ.symm (by omega)
   (by rw[g1];exact OZ _ _ _ OQ (Ge (hN P gh) d)) (λq aD=>(g2 q aD).1) (λj an=>by
    have hb:j<(partsOf d (cl P d)).length:=by omega
    have atY:qY ay (List.getD (partsOf d (cl P d)) j cO)=true:=by rw[bW hb];exact (g2 _ (dz hb)).2
    exact hp.cont_ok aT ab af (λq jN=>aD q (gO _ jN)) (λq jN=>hN q (gO _ jN)) atY (ig j an).1)
  rw[z8 P ay s];have auq: ∀m∈buf,gX m:=λm hm=>(dN m hm).1.ok
  refine ⟨AF dD buf,aiS dN dD dr,?_,?_⟩
  ·have:=abR buf (low V ay ks);have as6:2^buf.length<=2^5:=Nat.pow_le_pow_right (by omega) bF;have aC:2^buf.length*((low V ay ks).length+1)<=2^5*(6*clen ay.length+1):=Nat.mul_le_mul as6 (by omega);show _<=32*(6*clen ay.length+1);omega
  ·intro x ai;have:=abk auq dD (by omega) rv x ai;rw[gn];omega
def bz (bw k:M) (o:Option Int):wv:=(false,false,bw,[],0,k,o.isSome,o.getD 0,())
theorem acj (bw k:M) (o:Option Int) (n:Int):zd (n,bz bw k o)=some (bz bw k (o.or (some n))):=by cases o<;>rfl
theorem ain {k t f:M} (af:k.length<=10^6) (aL:f.length<=4):tF (k,t,f,())=some (bif bV k t then (fD t f k,true,()) else ([],false,())):=
 FL k t f (by omega)
theorem acr (m:bB) (bw k:M) (o:Option Int) (af:k.length<=10^6) (J:m.2.2.2.2.1.length<=4):
  tJ (m,bz bw k o)=some (false,bz bw (if bV k m.2.2.2.2.2.1=true then fD m.2.2.2.2.2.1 m.2.2.2.2.1 k else k) o):=by
 have h:=ain (t:=m.2.2.2.2.2.1) af J;simp only[tJ,bz,h];cases bV k m.2.2.2.2.2.1<;>rfl
def mI (m:bB) (bw k:M) (o:Option Int):Bool×wv:=
 match fc m k with
 | .gen v n=>(true,(false,true,bw,v,o.getD n,k,true,o.getD n,()))
 | .gone=>(true,bz bw k o)
 | .old cj st=>(false,bz bw cj (o.or st))
theorem rU (o:Option Int):o.or none=o:=by cases o<;>rfl
theorem aj4 {m:bB} (h:m.1=1) (bw k:M) (o:Option Int):yR (m,bz bw k o)=some (mI m bw k o):=by
 have s:=acj bw k o m.2.2.2.2.2.2.1;unfold mI fc;rw[if_pos h];by_cases af:m.2.1=k
 ·have dq:zd (m.2.2.2.2.2.2.1,false,false,bw,[],0,k,o.isSome,o.getD 0,())=some (bz bw k (o.or (some m.2.2.2.2.2.2.1))):=s;rw[if_pos af];simp only[yR,bz,af,cw,cP,ax,dq];cases o<;>rfl
 ·rw[if_neg af];simp only[yR,bz,af,decide_false,cK,ak,rU]
theorem aj5 {m:bB} (h:m.1=2) (bw k:M) (o:Option Int):yS (m,bz bw k o)=some (mI m bw k o):=by
 unfold mI fc;rw[if_neg (by omega),if_pos h];by_cases af:m.2.1=k
 ·rw[if_pos af];simp only[yS,bz,af,cw]
 ·rw[if_neg af];simp only[yS,bz,af,decide_false,rU]
theorem aj6 {m:bB} (h:m.1=3) (bw k:M) (o:Option Int):DM (m,bz bw k o)=some (mI m bw k o):=by
 unfold mI fc;rw[if_neg (by omega),if_neg (by omega),if_pos h];simp only[DM,bz,F8];cases b9 m.2.2.2.1 k
 ·rw[if_neg (by simp)];simp only[rU]
 ·rw[if_pos rfl]
theorem aj7 {m:bB} (h:m.1=4) (bw k:M) (o:Option Int) (af:k.length<=10^6) (J:m.2.2.2.2.1.length<=4):un (m,bz bw k o)=some (mI m bw k o):=by
 have E:tJ (m,false,false,bw,[],0,k,o.isSome,o.getD 0,())=_:=acr m bw k o af J;unfold mI fc;rw[if_neg (by omega),if_neg (by omega),if_neg (by omega),if_neg (by omega)];simp only[un,bz,arv];cases s:bV k m.2.2.2.2.1
 ·rw[if_neg (by simp)];simp only[cK,ak,E];cases bV k m.2.2.2.2.2.1
  ·rw[if_neg (by simp),if_neg (by simp)];simp only[rU,bz]
  ·rw[if_pos rfl,if_pos rfl];simp only[rU,bz]
 ·rw[if_pos ⟨h,rfl⟩];simp only[cP,ax]
theorem ajj {m:bB} (h:m.1=5) (bw k:M) (o:Option Int) (af:k.length<=10^6) (J:m.2.2.2.2.1.length<=4):tJ (m,bz bw k o)=some (mI m bw k o):=by
 unfold mI fc;rw[if_neg (by omega),if_neg (by omega),if_neg (by omega),if_neg (by omega),if_neg (λe:m.1=4/\_=>absurd e.1 (by omega)),acr m bw k o af J];cases bV k m.2.2.2.2.2.1
 ·rw[if_neg (by simp),if_neg (by simp)];simp only[rU]
 ·rw[if_pos rfl,if_pos rfl];simp only[rU]
theorem aj8 {m:bB} (h:m.1=6) (bw k:M) (o:Option Int):DN (m,bz bw k o)=some (mI m bw k o):=by
 have s:zd (m.2.2.2.2.2.2.1,false,false,bw,[],0,k,o.isSome,o.getD 0,())=_:=acj bw k o m.2.2.2.2.2.2.1;unfold mI fc;rw[if_neg (by omega),if_neg (by omega),if_neg (by omega),if_pos h];simp only[DN,bz,F8];cases b9 m.2.2.2.1 k
 ·rw[if_neg (by simp)];simp only[ax,rU]
 ·rw[if_pos rfl];simp only[ak,s,bz]
def m9 (bw:M):Src->oE
 | .gen v n=>(true,true,(bw,v,n,()),[],false,0,())
 | .gone=>(true,false,([],[],0,()),[],false,0,())
 | .old k st=>(false,false,(bw,[],0,()),k,st.isSome,st.getD 0,())
abbrev Gi (bw:M) (d:Src) (t:wv):Prop:=(t.1,t.2.1,(t.2.2.1,t.2.2.2.1,t.2.2.2.2.1,()),t.2.2.2.2.2.1,t.2.2.2.2.2.2.1,t.2.2.2.2.2.2.2.1,())=m9 bw d
theorem ahW (i:Int) (m:bB) (hm:gX m) (bw k:M) (o:Option Int) (R:wv) (af:k.length<=10^6):
  ∃c p iW,o6 (i,m,(0:Int),false,false,bw,[],0,k,o.isSome,o.getD 0,R)=some (c,p,iW)/\
   ((c=true/\p=0/\ ∃cj st,fc m k=.old cj st/\iW=(false,false,bw,[],0,cj,(o.or st).isSome,(o.or st).getD 0,R))\/(c=false/\p=1/\(∀cj st,fc m k≠ .old cj st)/\Gi bw (ki o (fc m k)) iW.2.2.2.2.2.2.2.2)):=by
 have fin: ∀x:Bool×wv,x=mI m bw k o->
   ∃c p iW,pY ((!x.1),(-1:Int),x.2.1,x.2.2.1,x.2.2.2.1,x.2.2.2.2.1,x.2.2.2.2.2.1,x.2.2.2.2.2.2.1,x.2.2.2.2.2.2.2.1,x.2.2.2.2.2.2.2.2.1,R.1,R.2.1,R.2.2.1,R.2.2.2.1,R.2.2.2.2.1,R.2.2.2.2.2.1,R.2.2.2.2.2.2.1,R.2.2.2.2.2.2.2.1,())=some (c,p,iW)/\
   ((c=true/\p=0/\ ∃cj st,fc m k=.old cj st/\iW=(false,false,bw,[],0,cj,(o.or st).isSome,(o.or st).getD 0,R))\/(c=false/\p=1/\(∀cj st,fc m k≠ .old cj st)/\Gi bw (ki o (fc m k)) iW.2.2.2.2.2.2.2.2)):=by
  intro x ai;subst ai;unfold mI;have L:(decide ((-1:Int)= -1))=true:=rfl;cases ae:fc m k with
  |gen v n=>
   simp only[pY,cP,L,ak,ax];exact ⟨_,_,_,rfl,.inr ⟨rfl,rfl,λ_ _ h=>(by cases h),rfl⟩⟩
  |gone=>
   simp only[pY,cP,L,ak,ax,bz];exact ⟨_,_,_,rfl,.inr ⟨rfl,rfl,λ_ _ h=>(by cases h),rfl⟩⟩
  |old cj st=>
   simp only[pY,cK,L,ak,ax,bz];exact ⟨_,_,_,rfl,.inl ⟨rfl,rfl,cj,st,rfl,rfl⟩⟩
 have len:=λh=>asg _ (hm.from_ h)
 rcases hm.kind with h |h |h |h |h |h
 ·have e:yR (m,false,false,bw,[],0,k,o.isSome,o.getD 0,())=_:=aj4 h bw k o;simp only[o6,h,cw,ak,ax,show (decide ((0:Int)<=1)&&decide ((1:Int)<7))=true from rfl,show Nat.beq (Int.toNat (1:Int)) 6=false from rfl,show Nat.beq (Int.toNat (1:Int)) 5=false from rfl,show Nat.beq (Int.toNat (1:Int)) 4=false from rfl,show Nat.beq (Int.toNat (1:Int)) 3=false from rfl,show Nat.beq (Int.toNat (1:Int)) 2=false from rfl,show Nat.beq (Int.toNat (1:Int)) 1=true from rfl,e];exact fin _ rfl
 ·have e:yS (m,false,false,bw,[],0,k,o.isSome,o.getD 0,())=_:=aj5 h bw k o;simp only[o6,h,cw,ak,ax,show (decide ((0:Int)<=2)&&decide ((2:Int)<7))=true from rfl,show Nat.beq (Int.toNat (2:Int)) 6=false from rfl,show Nat.beq (Int.toNat (2:Int)) 5=false from rfl,show Nat.beq (Int.toNat (2:Int)) 4=false from rfl,show Nat.beq (Int.toNat (2:Int)) 3=false from rfl,show Nat.beq (Int.toNat (2:Int)) 2=true from rfl,e];exact fin _ rfl
 ·have e:DM (m,false,false,bw,[],0,k,o.isSome,o.getD 0,())=_:=aj6 h bw k o;simp only[o6,h,cw,ak,ax,show (decide ((0:Int)<=3)&&decide ((3:Int)<7))=true from rfl,show Nat.beq (Int.toNat (3:Int)) 6=false from rfl,show Nat.beq (Int.toNat (3:Int)) 5=false from rfl,show Nat.beq (Int.toNat (3:Int)) 4=false from rfl,show Nat.beq (Int.toNat (3:Int)) 3=true from rfl,e];exact fin _ rfl
 ·have e:un (m,false,false,bw,[],0,k,o.isSome,o.getD 0,())=_:=aj7 h bw k o af (len (.inl h));simp only[o6,h,cw,ak,ax,show (decide ((0:Int)<=4)&&decide ((4:Int)<7))=true from rfl,show Nat.beq (Int.toNat (4:Int)) 6=false from rfl,show Nat.beq (Int.toNat (4:Int)) 5=false from rfl,show Nat.beq (Int.toNat (4:Int)) 4=true from rfl,e];exact fin _ rfl
 ·have e:tJ (m,false,false,bw,[],0,k,o.isSome,o.getD 0,())=_:=ajj h bw k o af (len (.inr h));simp only[o6,h,cw,ak,ax,show (decide ((0:Int)<=5)&&decide ((5:Int)<7))=true from rfl,show Nat.beq (Int.toNat (5:Int)) 6=false from rfl,show Nat.beq (Int.toNat (5:Int)) 5=true from rfl,e];exact fin _ rfl
 ·have e:DN (m,false,false,bw,[],0,k,o.isSome,o.getD 0,())=_:=aj8 h bw k o;simp only[o6,h,cw,ak,ax,show (decide ((0:Int)<=6)&&decide ((6:Int)<7))=true from rfl,show Nat.beq (Int.toNat (6:Int)) 6=true from rfl,e];exact fin _ rfl
theorem arb (a b:Option Int) (d:Src):ki a (ki b d)=ki (a.or b) d:=by
 cases d with
 |gen v n=>cases a<;>cases b<;>rfl
 |gone=>rfl
 |old k st=>cases a<;>cases b<;>cases st<;>rfl
theorem arc (d:Src):ki none d=d:=by
 cases d with
 |gen v n=>rfl
 |gone=>rfl
 |old k st=>cases st<;>rfl
theorem ace {m:bB} (hm:gX m) {k cj:M} {st:Option Int} (h:fc m k=.old cj st):cj.length<=k.length+4:=by
 rcases OD h with e |⟨s,E,O,bF,J,aC⟩
 ·rw[e];omega
 ·have W:=hm.mv s E O bF;have dD:=rS _ W.from_;have:=Gu (f:=m.2.2.2.2.1) J;rw[aC];omega
theorem acf: ∀{r:cG},(∀m∈r,gX m)-> ∀{k cj:M} {st:Option Int},ft r k=.old cj st->cj.length<=k.length+4*r.length
 |[],_,k,cj,st,h=>by
  have h:Src.old k none=.old cj st:=h;injection h with L aa
  rw[L];simp
 |m::r,au,k,cj,st,h=>by
  unfold ft at h;cases e:fc m k with
  |gen v n=>rw[e]at h;cases h
  |gone=>rw[e]at h;cases h
  |old aU eo=>
   rw[e]at h;have h:ki eo (ft r aU)=.old cj st:=h;have dD:=ace (au m gh) e;cases aa:ft r aU with
   |gen v n=>rw[aa]at h;cases h
   |gone=>rw[aa]at h;cases h
   |old ck yX=>
    rw[aa]at h;injection h with a1 bq
    have:=acf (λm hm=>au m (gO _ hm)) aa;rw[<-a1,gn];omega
theorem Ob (m:bB) (r:cG) (k:M):ft (m::r) k=match fc m k with
  | .gen v n=>.gen v n
  | .gone=>.gone
  | .old cj st=>ki st (ft r cj):=rfl
theorem ajZ (bw:M) (l:cG) (ab: ∀m∈l,gX m) (aR:l.length<=1000) (af:bw.length<=10^5):
  Ax (bw,l,())=some (m9 bw (ft l.reverse bw),()):=by
 have b6:i64.wrap (((l.length):Int)-1)=((l.length:Int)-1):=by rw[cI (by omega)]
 obtain ⟨R,ko⟩: ∃R:wv,(false,false,[],[],0,[],false,0,())=R:=⟨_,rfl⟩;obtain ⟨z,s,E⟩:=dM (b:=Bx) (λj (q:Km)=>(((l.length:Int)-1-(j:Int)),(0:Int),l,q)) l.length
  (λj q=> ∃k o,q=(false,false,bw,[],0,k,o.isSome,o.getD 0,R)/\k.length<=bw.length+4*j/\ft l.reverse bw=ki o (ft (l.reverse.drop j) k))
  (λz=>(∃iW:Km,z=.inl ((1:Int),l,iW)/\Gi bw (ft l.reverse bw) iW.2.2.2.2.2.2.2.2)\/ ∃iW:Km,z=.inr ((0:Int),l,iW)/\Gi bw (ft l.reverse bw) (iW.1,iW.2.1,iW.2.2.1,iW.2.2.2.1,iW.2.2.2.2.1,iW.2.2.2.2.2.1,iW.2.2.2.2.2.2.1,iW.2.2.2.2.2.2.2.1,())) (by omega)
  (λj an iW aD=>by
   obtain ⟨k,o,rfl,hR,iz⟩:=aD;obtain ⟨i,u⟩: ∃i:Nat,l.length-1-j=i:=⟨_,rfl⟩;have q4:i<l.length:=by omega
   have QV:j<l.reverse.length:=by rw[List.length_reverse];exact an
   have x9:l.reverse[j]=l[i]:=by rw[List.getElem_reverse];congr 1
   have QI:l.reverse.drop j=l[i]::l.reverse.drop (j+1):=by rw[lu QV,x9]
   have dB:((l.length:Int)-1-(j:Int))=(i:Int):=by omega
   have L:(decide ((i:Int)>=(0:Int)))=true:=am (by omega);have aa:=dZ i;have a1:(decide ((i:Int)<(l.length:Int)))=true:=am (by omega);have bq:i64.wrap ((i:Int)-1)=((l.length:Int)-1-((j+1:Nat):Int)):=by rw[cI (by omega)];omega
   obtain ⟨c,p,bG,g1,g2⟩:=ahW (i:Int) l[i] (ab _ (dz q4)) bw k o R (by omega);rw[dB];have j0:o6 ((i:Int),l[i],(0:Int),false,false,bw,[],0,k,o.isSome,o.getD 0,R.1,R.2.1,R.2.2.1,R.2.2.2.1,R.2.2.2.2.1,R.2.2.2.2.2.1,R.2.2.2.2.2.2.1,R.2.2.2.2.2.2.2.1,())=some (c,p,bG):=g1;simp only[Bx,L,aa,a1,ak,bM,bE,bW q4,j0,bq];rw[QI,Ob]at iz;rcases g2 with ⟨rfl,rfl,cj,st,g3,rfl⟩|⟨rfl,rfl,g3,g4⟩
   ·left;rw[g3]at iz;have iz:ft l.reverse bw=ki o (ki st (ft (l.reverse.drop (j+1)) cj)):=iz;have:=ace (ab _ (dz q4)) g3;exact ⟨_,⟨cj,o.or st,rfl,by omega,by rw[iz,arb]⟩,rfl⟩
   ·right;refine ⟨_,.inl ⟨bG,rfl,?_⟩,rfl⟩;have:ft l.reverse bw=ki o (fc l[i] k):=by
     rw[iz];cases e:fc l[i] k with
     |gen v n=>rfl
     |gone=>rfl
     |old cj st=>exact absurd e (g3 cj st)
    rw[this];exact g4)
  (λiW aD=>by
   obtain ⟨k,o,rfl,hR,iz⟩:=aD;have dB:((l.length:Int)-1-((l.length:Nat):Int))= -1:=by omega
   have L:(decide ((-1:Int)>=(0:Int)))=false:=rfl;rw[dB];simp only[Bx,L,ax];refine ⟨_,.inr ⟨_,rfl,?_⟩,rfl⟩;rw[iz,List.drop_of_length_le (by rw[List.length_reverse];exact b7 _)];show _=m9 bw (.old k (o.or none));rw[rU];rfl)
  (false,false,bw,[],0,bw,false,0,R) ⟨bw,none,rfl,by omega,by rw[arc];rfl⟩
 have dq:=s;simp only[Int.natCast_zero,Int.sub_zero]at dq;have as3:P3 (((l.length:Int)-1),(0:Int),l,false,false,bw,[],0,bw,false,0,false,false,[],[],0,[],false,0,())=some z:=by rw[ko];exact dq
 simp only[Ax,BS,RD,b6,as3];rcases E with ⟨iW,rfl,aC⟩|⟨iW,rfl,O⟩
 ·have a7:(decide ((1:Int)=0))=false:=rfl;have aX:(decide ((1:Int)=1))=true:=rfl;simp only[a7,aX,ak,ax];exact congrArg (λf=>some (f,())) aC
 ·have a7:(decide ((0:Int)=0))=true:=rfl;simp only[a7,ak];exact congrArg (λf=>some (f,())) O
abbrev jF:M->M:=λd=>d
theorem aiW (l:bc) (k:M) (ae:cH jF l) (ab:l.length<=10^5):
  Hu (l,k,())=some ((c7 jF k l:Int),fs (key:=jF) k l,()):=by
 have hle:=oQ (key:=jF) k l;obtain ⟨r,s,E⟩:=Ap (b:=G8) (λd=>(d.2.2.2.2.1-d.2.2.2.1).toNat)
  (λd=> ∃dh dK:Nat,d=(l,k,(l.length:Int),(dh:Int),(dK:Int),())/\dh<=dK/\dK<=l.length/\(∀(m:Nat) (h:m<l.length),m<dh->Op.bytesLess (l[m]) k=true)/\(∀(m:Nat) (h:m<l.length),dK<=m->Op.bytesLess (l[m]) k=false))
  (λr=>r=.inl (l,k,(l.length:Int),(c7 jF k l:Int),()))
  (λd u=>by
   obtain ⟨dh,dK,rfl,i1,i2,i3,i4⟩:=u;have hm:=UB (dh:=dh) (dK:=dK) (by omega);unfold G8;simp only[hm];by_cases pj:dh<dK
   ·left;have a7:((dh:Int)<(dK:Int)):=by omega
    have dn:i64.wrap (((dh+dK)/2:Nat):Int)=(((dh+dK)/2:Nat):Int):=cI (by omega);have aX:((0:Int)<=(((dh+dK)/2:Nat):Int)):=by omega
    have c3:((((dh+dK)/2:Nat):Int)<(l.length:Int)):=by omega
    have bd:(dh+dK)/2<l.length:=by omega
    have bu:l.getD ((dh+dK)/2) ([]:M)=l[(dh+dK)/2]:=bW bd;have de:i64.wrap ((((dh+dK)/2:Nat):Int)+1)=(((dh+dK)/2+1:Nat):Int):=by rw[cI (by omega)];omega
    simp only[dn,a7,aX,c3,am,ak,bM,bE,bu,aib,de];cases J:Op.bytesLess (l[(dh+dK)/2]) k
    ·simp only[ax];refine ⟨_,rfl,⟨dh,(dh+dK)/2,rfl,by omega,by omega,i3,λm h hm=> ?_⟩,by simp;omega⟩;rcases Nat.lt_or_ge m dK with ba |ba
     ·cases en:Op.bytesLess (l[m]) k
      ·rfl
      ·rcases Nat.eq_or_lt_of_le hm with bF |bF
       ·subst bF;rw[J]at en;cases en
       ·have dN:Op.bytesLess (l[(dh+dK)/2]) (l[m])=true:=List.pairwise_iff_getElem.1 ae _ _ bd h bF;have:=fZ dN en;rw[J]at this;cases this
     ·exact i4 m h ba
    ·simp only[ak];refine ⟨_,rfl,⟨(dh+dK)/2+1,dK,rfl,by omega,i2,λm h hm=> ?_,i4⟩,by simp;omega⟩;rcases Nat.eq_or_lt_of_le (show m<=(dh+dK)/2 by omega) with bF |bF
     ·subst bF;exact J
     ·have dN:Op.bytesLess (l[m]) (l[(dh+dK)/2])=true:=List.pairwise_iff_getElem.1 ae _ _ h bd bF;exact fZ dN J
   ·right;have a7: ¬((dh:Int)<(dK:Int)):=by omega
    have he:dh=dK:=by omega
    subst he;simp only[a7,bf,ax,not_false_eq_true];refine ⟨_,rfl,?_⟩;have:=NH (key:=jF) k l ae dh i2 i3 i4;rw[this])
  (l,k,(l.length:Int),(0:Int),(l.length:Int),()) ⟨0,l.length,by simp,by omega,by omega,λm h hm=>by omega,λm h hm=>by omega⟩ (by simp;omega)
 subst E;have dq:Qc (l,k,(l.length:Int),(0:Int),(l.length:Int),())=some (.inl (l,k,(l.length:Int),(c7 jF k l:Int),())):=s;simp only[Hu,dq];by_cases bd:c7 jF k l<l.length
 ·have a7:((c7 jF k l:Int)<(l.length:Int)):=by omega
  have aX:((0:Int)<=(c7 jF k l:Int)):=by omega
  have bu:l.getD (c7 jF k l) ([]:M)=l[c7 jF k l]:=bW bd;have L: ∀a:M,(!decide (a=a))=false:=by simp
  simp only[a7,aX,am,ak,bM,IB,L,ax,bE,bu];rw[Gr k l ae bd];by_cases he:l[c7 jF k l]=k
  ·rw[am he];rfl
  ·rw[bf he];rfl
 ·have a7: ¬((c7 jF k l:Int)<(l.length:Int)):=by omega
  simp only[a7,bf,ax,not_false_eq_true];rw[AA k l (by omega)]
theorem abW (k:M): ∀(m:bc),(m.Pairwise λa b=>Op.bytesLess a b=true)->iM k m=c7 jF k m+(if fs (key:=jF) k m=true then 1 else 0)
 |[],_=>rfl
 |p::m,h=>by
  have O:=List.pairwise_cons.1 h;have aQ:=abW k m O.2;have QR:fs (key:=jF) k (p::m)=(decide (p=k)||fs (key:=jF) k m):=rfl;have kI: ∀x:M,(∀q∈m,Op.bytesLess x q=true)->Op.bytesLess k x=true\/k=x->fs (key:=jF) k m=false:=by
   intro x ai QX;unfold fs;rw[List.any_eq_false];intro q aD e;have e:q=k:=of_decide_eq_true e;have:=ai q aD;rw[e]at this;rcases QX with h |h
   ·rw[d9 h]at this;cases this
   ·rw[h,hJ]at this;cases this
  have QY: ∀x:M,(∀q∈m,Op.bytesLess x q=true)->Op.bytesLess k x=true\/k=x->c7 jF k m=0:=by
   intro x ai QX;cases m with
   |nil=>rfl
   |cons q m=>
    unfold c7;have s:=ai q gh;have E:Op.bytesLess k q=true:=by
     rcases QX with h |h
     ·exact fZ h s
     ·rw[h];exact s
    rw[if_neg (by show ¬Op.bytesLess q k=true;rw[d9 E];simp)]
  unfold iM c7;rw[QR];rcases h0 p k with aP |aP |aP
  ·rw[if_neg (by rw[d9 aP];simp),if_pos aP,bf (lT aP),Bool.false_or,aQ];omega
  ·subst aP;have s:=kI p O.1 (.inr rfl);have E:=QY p O.1 (.inr rfl);rw[if_neg (by rw[hJ];simp),if_neg (by show ¬Op.bytesLess p p=true;rw[hJ];simp),am rfl,Bool.true_or,if_pos rfl,aQ,s,E];simp
  ·have s:=kI p O.1 (.inl aP);rw[if_pos aP,if_neg (by show ¬Op.bytesLess p k=true;rw[d9 aP];simp),bf (λe=>lT aP e.symm),s];simp
theorem aj0 (k:M) (ps:bc) (ae:ps.Pairwise λa b=>Op.bytesLess a b=true) (ab:ps.length<=1000):FT (k,ps,())=some ((iM k ps:Int),()):=by
 have s:=aiW ps k ae (by omega);have E:=abW k ps ae;have O:=oQ (key:=jF) k ps;simp only[FT,s];cases J:fs (key:=jF) k ps
 ·rw[J]at E;simp only[ax];rw[E];simp
 ·rw[J]at E;simp only[ak];rw[cI (by omega),E];rfl
abbrev pU:b5:=(([]:M),(([]:M),((0:Int),())))
def nT (l:aj) (k:M) (p:b5) (b:Bool):Prop:=(b=true->p∈l/\p.1=k)/\(b=false->p=pU/\ ∀q∈l,q.1≠k)
theorem ai5 (l:aj) (k:M) (ae:cH bK l) (ab:l.length<=1000000000): ∃p b,Fu (l,k,())=some (p,b,())/\nT l k p b:=by
 have s:=F0 l k ae (by omega);simp only[Fu,s];have hle:=oQ (key:=bK) k l;cases J:fs (key:=bK) k l
 ·refine ⟨_,_,rfl,λh=>(by cases h),λ_=>⟨rfl,λq aD e=> ?_⟩⟩;unfold fs at J;rw[List.any_eq_false]at J;exact J q aD (am e)
 ·have bd:c7 bK k l<l.length:=by
   rcases Nat.lt_or_ge (c7 bK k l) l.length with h |h
   ·exact h
   ·rw[AA k l (by omega)]at J;cases J
  have a7:((c7 bK k l:Int)<(l.length:Int)):=by omega
  have aX:((0:Int)<=(c7 bK k l:Int)):=by omega
  have bu:l.getD (c7 bK k l) pU=l[c7 bK k l]:=bW bd;simp only[a7,aX,am,ak,bM,bE,bu];refine ⟨_,_,rfl,λ_=>⟨dz bd,?_⟩,λh=>(by cases h)⟩;rw[Gr k l ae bd]at J;exact of_decide_eq_true J
theorem Pf {low C:aj} {k:M} {S:Src} (dL: ∀x:b5,x.1=k->(x∈C↔pS S low x)) {p:b5} {b:Bool} (h: ∀cj st,S=.old cj st->nT low cj p b):
  ∃q c,Fj (m9 k S,p,b,())=some (q,c,())/\nT C k q c:=by
 cases S with
 |gen v n=>
  refine ⟨(k,v,n,()),true,rfl,λ_=>⟨(dL _ rfl).2 rfl,rfl⟩,λh=>(by cases h)⟩
 |gone=>
  refine ⟨pU,false,rfl,λh=>(by cases h),λ_=>⟨rfl,λq aD e=> ?_⟩⟩;exact (dL q e).1 aD
 |old cj st=>
  have h:=h cj st rfl;cases b with
  |false=>
   obtain ⟨s,E⟩:=h.2 rfl;refine ⟨pU,false,rfl,λh=>(by cases h),λ_=>⟨rfl,λq aD e=> ?_⟩⟩;obtain ⟨y,bo,L,-⟩:=(dL q e).1 aD;exact E y bo L
  |true=>
   obtain ⟨s,E⟩:=h.1 rfl;refine ⟨(k,p.2.1,st.getD p.2.2.1,()),true,?_,λ_=>⟨(dL _ rfl).2 ⟨p,s,E,rfl⟩,rfl⟩,λh=>(by cases h)⟩;cases st<;>rfl
def zz (C:aj) (k:M):List oE->M->aj->Prop
 |[],jA,iR=>jA=k/\iR=C
 |f::ct,jA,iR=> ∃iJ BN,(∀p b,nT iR jA p b-> ∃q c,Fj (f,p,b,())=some (q,c,())/\nT BN iJ q c)/\zz C k ct iJ BN
theorem ai8 (C:aj) (k:M) (n:Int) (aR:n>=1): ∀(ct:List oE) (jA:M) (iR:aj) (p:b5) (b:Bool),ct.length<=1000->zz C k ct jA iR->nT iR jA p b->
  ∃q c,Ee (0,ct,p,b,n,())=some (.inl (0,q,c,n,()))/\nT C k q c:=by
 intro ct jA iR p b ab aw aL;obtain ⟨r,s,q,c,rfl,E⟩:=Ap (b:=wc) (λd=>d.2.1.length) (λd=>d.1=0/\d.2.2.2.2.1=n/\ ∃jA iR,zz C k d.2.1 jA iR/\nT iR jA d.2.2.1 d.2.2.2.1) (λr=> ∃q c,r=.inl (0,q,c,n,())/\nT C k q c)
  (λd u=>by
   obtain ⟨e,ct,p,b,aI,ad⟩:=d;obtain ⟨s,E,jA,iR,O,aC⟩:=u;simp only at s E O aC;subst s E;cases ct with
   |nil=>
    right;obtain ⟨L,aa⟩:=O;subst L aa;exact ⟨_,rfl,p,b,rfl,aC⟩
   |cons x ct=>
    left;have L:decide ((aI:Int)>(0:Int))=true:=am (by omega);obtain ⟨iJ,BN,ba,bF⟩:=O;obtain ⟨q,c,aD,bu⟩:=ba p b aC;simp only[wc,List.isEmpty_cons,ax,List.head?_cons,aD,List.tail_cons,L,ak];exact ⟨_,rfl,⟨rfl,rfl,iJ,BN,bF,bu⟩,by simp⟩) (0,ct,p,b,n,()) ⟨rfl,rfl,jA,iR,aw,aL⟩ (by show ct.length<_;omega)
 exact ⟨q,c,s,E⟩
theorem kM {S ρ σ:Type} {b:S->Option (S⊕ρ)} (mk:σ->S) (μ:σ->Nat) (Inv:σ->Prop) (bD:σ->ρ->Prop)
  (h: ∀q,Inv q->(∃t,b (mk q)=some (.inl (mk t))/\Inv t/\μ t<μ q/\ ∀r,bD t r->bD q r)\/(∃r,b (mk q)=some (.inr r)/\bD q r)) (q:σ) (aD:Inv q) (hm:μ q<10^20):
  ∃r,b4 b (mk q)=some r/\bD q r:=by
 have key: ∀(aY:Nat) (q:σ),Inv q->μ q<aY-> ∃r,eI b aY (mk q)=some r/\bD q r:=by
  intro aY
  induction aY with
  |zero=>intro q _ h;omega
  |succ aY aQ=>
   intro q aD kn;rcases h q aD with ⟨t,s,E,O,aC⟩|⟨r,s,E⟩
   ·obtain ⟨r,ba,bF⟩:=aQ t E (by omega);exact ⟨r,by simp only[eI,s,ba],aC r bF⟩
   ·exact ⟨r,by simp only[eI,s],E⟩
 obtain ⟨r,s,E⟩:=key (μ q+1) q aD (by omega);exact ⟨r,m7 (by rw[kN];omega) s,E⟩
abbrev gk:aK:=(([]:M),(([]:M),()))
def bA (x y:aK):Bool:=Op.bytesLess x.1 y.1
theorem ajM {a b c:M} (s:Op.bytesLess a b=false) (E:Op.bytesLess b c=false):Op.bytesLess a c=false:=oG E s
theorem zW:Sort.SWO bA where
 irrefl:=λx=>hJ x.1
 trans:=λx y z s E=>fZ s E
 ntrans:=λx y z s E=>ajM s E
theorem aqc (a b:M):IN (a,b,())=some (mL a b,()):=by
 have e: ∀a:M,(!decide (a=a))=false:=by simp
 simp only[IN,vz,e,ax];unfold mL;cases h:Op.bytesLess a b
 ·by_cases gu:a=b
  ·subst gu;simp
  ·simp[gu]
 ·simp
theorem mx (x y:aK):k7 (x,y,())=some (mL x.1 y.1,()):=by simp only[k7,aqc]
theorem mm (x y:aK):decide (mL x.1 y.1<0)=bA x y:=by
 unfold bA;cases h:Op.bytesLess x.1 y.1
 ·exact bf (by rw[Gl,h];simp)
 ·exact am (Gl.2 h)
theorem eE {i n:Nat} (h:i<n):(decide ((0:Int)<=(i:Int))&&decide ((i:Int)<(n:Int)))=true:=by rw[am (by omega),am (by omega)];rfl
theorem S1 {j:Nat} (h:j<2^62):i64.wrap (((j+1:Nat):Int)-1)=(j:Int):=by rw[cI (by omega)];omega
theorem fO {j:Nat} (h:j<2^62):i64.wrap ((j:Int)+1)=((j+1:Nat):Int):=by rw[cI (by omega)];omega
def gm (l:aq) (i j:Nat):aq:=(l.set i (l.getD j gk)).set j (l.getD i gk)
theorem gJ (l:aq) (i j:Nat):(gm l i j).length=l.length:=by simp[gm]
theorem gP (l:aq) (i:Nat):(l.toArray)[i]! =l.getD i gk:=by rw[List.getElem!_toArray,List.getElem!_eq_getElem?_getD];rfl
theorem lp (l:aq) (i j:Nat):Sort.swp l.toArray i j=(gm l i j).toArray:=by unfold Sort.swp gm;simp only[gP,List.setIfInBounds_toArray]
theorem apP (a b i:Nat) (l:aq) (j:Nat) (an:j<l.length) (ab:l.length<2^62):
  Hk ((a:Int),(b:Int),(i:Int),(j:Int),l,())=some (.inl ((a:Int),(b:Int),(i:Int),(Sort.insInner bA a j l.toArray).toList,())):=by
 obtain ⟨r,s,E⟩:=kM (b:=xu) (λq:Nat×aq=>((a:Int),(b:Int),(i:Int),(q.1:Int),q.2,())) (λq=>q.1)
  (λq=>q.1<q.2.length/\q.2.length<2^62) (λq r=>r=.inl ((a:Int),(b:Int),(i:Int),(Sort.insInner bA a q.1 q.2.toArray).toList,()))
  (λq aD=>by
   obtain ⟨j,l⟩:=q;obtain ⟨an,ab⟩:=aD;simp only at an ab;cases j with
   |zero=>
    right;refine ⟨_,?_,rfl⟩;have c: ¬(((0:Nat):Int)>(a:Int)):=by omega
    simp only[xu,Br,bf c,ax];rfl
   |succ j=>
    by_cases aS:j+1>a
    ·have c:(((j+1:Nat):Int)>(a:Int)):=by omega
     have w:=S1 (j:=j) (by omega);simp only[xu,Br,am c,ak,eE an,w,eE (show j<l.length by omega),mx,mm,bE,List.length_set];cases bd:bA (l.getD (j+1) gk) (l.getD j gk)
     ·right;refine ⟨_,rfl,?_⟩;unfold Sort.insInner;rw[gP,gP,bd];simp
     ·left;refine ⟨(j,gm l (j+1) j),rfl,⟨by simp only[gJ];omega,by simp only[gJ];exact ab⟩,by simp,λr au=> ?_⟩;rw[au];have:Sort.insInner bA a (j+1) l.toArray=Sort.insInner bA a j (gm l (j+1) j).toArray:=by
       conv=>lhs;unfold Sort.insInner
       rw[gP,gP,bd,lp];simp[aS]
      simp only[this]
    ·right;have c: ¬(((j+1:Nat):Int)>(a:Int)):=by omega
     refine ⟨_,?_,rfl⟩;simp only[xu,Br,bf c,ax];have:Sort.insInner bA a (j+1) l.toArray=l.toArray:=by unfold Sort.insInner;simp[aS]
     rw[this]) (j,l) ⟨an,ab⟩ (by simp only;omega)
 rw[show Hk ((a:Int),(b:Int),(i:Int),(j:Int),l,())=some r from s,E]
theorem wW {α:Type} [Inhabited α] (I:Array α) (i j:Nat):(Sort.swp I i j).size=I.size:=by simp[Sort.swp]
theorem YS (a:Nat): ∀(j:Nat) (I:Array aK),(Sort.insInner bA a j I).size=I.size
 |0,_=>rfl
 |j+1,I=>by
  unfold Sort.insInner;split
  ·rw[YS a j,wW]
  ·rfl
theorem apH (a b:Nat) (l:aq) (J:b<=l.length) (ab:l.length<2^62) (gu:a<=b):
  Ha ((a:Int),(b:Int),l,())=some ((Sort.insertionSort bA l.toArray a b).toList,()):=by
 obtain ⟨r,s,E⟩:=kM (b:=BQ) (λq:Nat×aq=>((a:Int),(b:Int),(q.1:Int),q.2,())) (λq=>b-q.1)
  (λq=>b<=q.2.length/\q.2.length<2^62/\q.1<=b+1) (λq r=>r=.inl ((Sort.insOuter bA a b q.1 q.2.toArray).toList,()))
  (λq aD=>by
   obtain ⟨i,l⟩:=q;obtain ⟨J,ab,u⟩:=aD;simp only at J ab u;by_cases hx:i<b
   ·left;have c:((i:Int)<(b:Int)):=by omega
    have e:=apP a b i l i (by omega) ab;have w:=fO (j:=i) (by omega);simp only[BQ,am c,ak,e,w];have ae:(Sort.insInner bA a i l.toArray).toList.length=l.length:=by rw[iu,YS];rfl
    refine ⟨(i+1,(Sort.insInner bA a i l.toArray).toList),rfl,⟨by simp only[ae];exact J,by simp only[ae];exact ab,by simp only;omega⟩,by simp only;omega,λr au=> ?_⟩;rw[au];have:Sort.insOuter bA a b i l.toArray=Sort.insOuter bA a b (i+1) (Sort.insInner bA a i l.toArray):=by
     conv=>lhs;unfold Sort.insOuter
     rw[if_pos hx]
    simp only[this,Array.toArray_toList]
   ·right;have c: ¬((i:Int)<(b:Int)):=by omega
    refine ⟨_,?_,rfl⟩;have:Sort.insOuter bA a b i l.toArray=l.toArray:=by unfold Sort.insOuter;rw[if_neg hx]
    simp only[BQ,bf c,ax,this]) (a+1,l) ⟨J,ab,by simp only;omega⟩ (by simp only;omega)
 have w:=fO (j:=a) (by omega);have dq:PK ((a:Int),(b:Int),((a+1:Nat):Int),l,())=some r:=s;subst E;simp only[Ha,w,dq];rfl
theorem DX {i j:Nat} (h:i+j<9223372036854775808):i64.wrap ((i:Int)+(j:Int))=((i+j:Nat):Int):=by rw[cI (by omega)];omega
theorem Ma: ∀(n u first root:Nat) (I:Array aK),u-root<=n->(Sort.siftDown bA u first root I).size=I.size:=by
 intro n
 induction n with
 |zero=>
  intro u first root I h
  unfold Sort.siftDown;rw[dif_pos (by omega)]
 |succ n aQ=>
  intro u first root I h
  unfold Sort.siftDown;split
  ·rfl
  ·split
   ·split
    ·rfl
    ·split
     ·rw[aQ _ _ _ _ (by omega),wW]
     ·rfl
   ·split
    ·rfl
    ·rw[aQ _ _ _ _ (by omega),wW]
theorem acL (aM u first:Nat) (l:aq) (s:first+u<=l.length) (E:l.length<2^62) (O:aM<=l.length):
  BT ((aM:Int),(u:Int),(first:Int),l,())=some ((Sort.siftDown bA u first aM l.toArray).toList,()):=by
 obtain ⟨r,g1,g2⟩:=kM (b:=u3) (λq:Nat×aq=>((u:Int),(first:Int),(q.1:Int),q.2,())) (λq=>u+1-q.1)
  (λq=>first+u<=q.2.length/\q.2.length<2^62/\q.1<=q.2.length)
  (λq r=>r=.inl ((Sort.siftDown bA u first q.1 q.2.toArray).toList,())\/r=.inr ((Sort.siftDown bA u first q.1 q.2.toArray).toList,()))
  (λq aD=>by
   obtain ⟨root,l⟩:=q;obtain ⟨s,E,O⟩:=aD;simp only at s E O;have hW:i64.wrap (i64.wrap ((2:Int)*(root:Int))+1)=((2*root+1:Nat):Int):=by rw[cI (x:=2*(root:Int)) (by omega),cI (by omega)];omega
   by_cases aw:2*root+1>=u
   ·right;have c:(((2*root+1:Nat):Int)>=(u:Int)):=by omega
    refine ⟨_,?_,.inl rfl⟩;have e:Sort.siftDown bA u first root l.toArray=l.toArray:=by unfold Sort.siftDown;rw[dif_pos aw]
    simp only[u3,hW,am c,ak,e]
   ·have c: ¬(((2*root+1:Nat):Int)>=(u:Int)):=by omega
    have dn:=fO (j:=2*root+1) (by omega);have de:=DX (i:=first) (j:=2*root+1) (by omega);have gf:=fO (j:=first+(2*root+1)) (by omega);have DS:=DX (i:=first) (j:=root) (by omega);have tail: ∀l6:Nat,l6<u->root<l6->(bA (l.getD (first+root) gk) (l.getD (first+l6) gk)=false->Sort.siftDown bA u first root l.toArray=l.toArray)->
      (bA (l.getD (first+root) gk) (l.getD (first+l6) gk)=true->Sort.siftDown bA u first root l.toArray=Sort.siftDown bA u first l6 (gm l (first+root) (first+l6)).toArray)->
      (∃t:Nat×aq,BA ((u:Int),(first:Int),(root:Int),(l6:Int),l,())=some (.inl ((u:Int),(first:Int),(t.1:Int),t.2,()))/\(first+u<=t.2.length/\t.2.length<2^62/\t.1<=t.2.length)/\u+1-t.1<u+1-root/\
       ∀r,(r=.inl ((Sort.siftDown bA u first t.1 t.2.toArray).toList,())\/r=.inr ((Sort.siftDown bA u first t.1 t.2.toArray).toList,()))->(r=Sum.inl ((Sort.siftDown bA u first root l.toArray).toList,())\/r=Sum.inr ((Sort.siftDown bA u first root l.toArray).toList,())))\/
      (∃r,BA ((u:Int),(first:Int),(root:Int),(l6:Int),l,())=some (.inr r)/\(r=Sum.inl ((Sort.siftDown bA u first root l.toArray).toList,())\/r=Sum.inr ((Sort.siftDown bA u first root l.toArray).toList,()))):=by
     intro l6 nv bd L aa;have SW:=DX (i:=first) (j:=l6) (by omega);simp only[BA,DS,SW,eE (show first+root<l.length by omega),eE (show first+l6<l.length by omega),ak,bE,mx,mm,List.length_set];cases J:bA (l.getD (first+root) gk) (l.getD (first+l6) gk)
     ·right;refine ⟨_,rfl,.inr ?_⟩;rw[L J]
     ·left;refine ⟨(l6,gm l (first+root) (first+l6)),rfl,⟨by simp only[gJ];exact s,by simp only[gJ];exact E,by simp only[gJ];omega⟩,by simp only;omega,λr au=> ?_⟩;rw[aa J];exact au
    by_cases lK:2*root+1+1<u
    ·have aX:(((2*root+1+1:Nat):Int)<(u:Int)):=by omega
     cases J:bA (l.getD (first+(2*root+1)) gk) (l.getD (first+(2*root+1)+1) gk)
     ·have:=tail (2*root+1) (by omega) (by omega) (λen=>by
       unfold Sort.siftDown;rw[dif_neg aw];simp only[gP,J,en,Bool.and_false,cK,if_true,Bool.false_eq_true,if_false]) (λen=>by
       conv=>lhs;unfold Sort.siftDown
       rw[dif_neg aw];simp only[gP,lp,J,en,Bool.and_false,cP,Bool.false_eq_true,if_false])
      simp only[u3,BB,hW,dn,de,gf,bf c,am aX,ak,ax,eE (show first+(2*root+1)<l.length by omega),eE (show first+(2*root+1)+1<l.length by omega),bE,mx,mm,J];exact this
     ·have:=tail (2*root+1+1) (by omega) (by omega) (λen=>by
       unfold Sort.siftDown;rw[dif_neg aw];simp only[gP,J,en,lK,cw,Bool.true_and,cK,if_true]) (λen=>by
       conv=>lhs;unfold Sort.siftDown
       rw[dif_neg aw];simp only[gP,lp,J,en,lK,cw,Bool.true_and,cP,Bool.false_eq_true,if_false,if_true];exact dif_pos trivial)
      simp only[u3,BB,hW,dn,de,gf,bf c,am aX,ak,ax,eE (show first+(2*root+1)<l.length by omega),eE (show first+(2*root+1)+1<l.length by omega),bE,mx,mm,J];exact this
    ·have aX: ¬(((2*root+1+1:Nat):Int)<(u:Int)):=by omega
     have:=tail (2*root+1) (by omega) (by omega) (λen=>by
      unfold Sort.siftDown;rw[dif_neg aw];simp only[gP,en,lK,decide_false,Bool.false_and,cK,if_true,Bool.false_eq_true,if_false]) (λen=>by
      conv=>lhs;unfold Sort.siftDown
      rw[dif_neg aw];simp only[gP,lp,en,lK,decide_false,Bool.false_and,cP,Bool.false_eq_true,if_false])
     simp only[u3,BB,hW,dn,bf c,bf aX,ak,ax];exact this) (aM,l) ⟨s,E,O⟩ (by simp only;omega)
 have j0:RL ((u:Int),(first:Int),(aM:Int),l,())=some r:=g1;simp only[BT,j0];rcases g2 with rfl |rfl<;>rfl
theorem Xb (u first:Nat): ∀(k:Nat) (I:Array aK),(Sort.heapBuild bA u first k I).size=I.size
 |0,_=>rfl
 |k+1,I=>by unfold Sort.heapBuild;rw[Xb u first k,Ma (u-k) u first k I (b7 _)]
theorem ajb (a b:Nat) (l:aq) (gu:a<b) (J:b<=l.length) (ab:l.length<2^62):
  HG ((a:Int),(b:Int),l,())=some ((Sort.heapSort bA l.toArray a b).toList,()):=by
 obtain ⟨u,jg⟩: ∃u,b-a=u:=⟨_,rfl⟩;have hW:i64.wrap ((b:Int)-(a:Int))=(u:Int):=by rw[cI (by omega)];omega
 have SU:i64.wrap (Int.tdiv (i64.wrap ((u:Int)-1)) 2)=((((u-1)/2+1:Nat):Int)-1):=by
  have e:i64.wrap ((u:Int)-1)=((u-1:Nat):Int):=by rw[cI (by omega)];omega
  rw[e];have aa:Int.tdiv (((u-1:Nat):Int)) 2=(((u-1)/2:Nat):Int):=by rw[Int.tdiv_eq_ediv_of_nonneg (by omega)];rfl
  rw[aa,cI (by omega)];omega
 obtain ⟨r,g1,g2⟩:=kM (b:=BV) (λq:Nat×aq=>((a:Int),(0:Int),(u:Int),(q.1:Int)-1,q.2,())) (λq=>q.1)
  (λq=>a+u<=q.2.length/\q.2.length<2^62/\q.1<=q.2.length+1) (λq r=>r=.inl ((a:Int),(0:Int),(u:Int),(Sort.heapBuild bA u a q.1 q.2.toArray).toList,()))
  (λq aD=>by
   obtain ⟨k,l⟩:=q;obtain ⟨s,E,O⟩:=aD;simp only at s E O;cases k with
   |zero=>
    right;have c: ¬(((0:Nat):Int)-1>=0):=by omega
    refine ⟨_,?_,rfl⟩;simp only[BV,bf c,ax];rfl
   |succ k=>
    left;have e:(((k+1:Nat):Int)-1)=(k:Int):=by omega
    have c:((k:Int)>=0):=by omega
    have ae:=acL k u a l s E (by omega);have w:i64.wrap ((k:Int)-1)=(k:Int)-1:=cI (by omega);have dT:(Sort.siftDown bA u a k l.toArray).toList.length=l.length:=by rw[iu,Ma (u-k) u a k _ (b7 _)];rfl
    simp only[BV,e,am c,ak,ae,w];refine ⟨(k,(Sort.siftDown bA u a k l.toArray).toList),rfl,⟨by simp only[dT];exact s,by simp only[dT];exact E,by simp only[dT];omega⟩,by simp,λr au=> ?_⟩;rw[au];simp only[Array.toArray_toList];rfl) ((u-1)/2+1,l) ⟨by simp only;omega,ab,by simp only;omega⟩ (by simp only;omega)
 subst g2;have j0:RI ((a:Int),(0:Int),(u:Int),((((u-1)/2+1:Nat):Int)-1),l,())=some (.inl ((a:Int),(0:Int),(u:Int),(Sort.heapBuild bA u a ((u-1)/2+1) l.toArray).toList,())):=g1;obtain ⟨m,hm⟩: ∃m,(Sort.heapBuild bA u a ((u-1)/2+1) l.toArray).toList=m:=⟨_,rfl⟩;have j6:m.length=l.length:=by rw[<-hm,iu,Xb];rfl
 obtain ⟨r,bb,aU⟩:=kM (b:=BW) (λq:Nat×aq=>((a:Int),(0:Int),(q.1:Int)-1,q.2,())) (λq=>q.1)
  (λq=>a+q.1<=q.2.length/\q.2.length<2^62) (λq r=>r=.inl ((Sort.heapPop bA a q.1 q.2.toArray).toList,()))
  (λq aD=>by
   obtain ⟨k,l⟩:=q;obtain ⟨s,E⟩:=aD;simp only at s E;cases k with
   |zero=>
    right;have c: ¬(((0:Nat):Int)-1>=0):=by omega
    refine ⟨_,?_,rfl⟩;simp only[BW,bf c,ax];rfl
   |succ k=>
    left;have e:(((k+1:Nat):Int)-1)=(k:Int):=by omega
    have c:((k:Int)>=0):=by omega
    have de:=DX (i:=a) (j:=k) (by omega);have ae:=acL 0 k a (gm l a (a+k)) (by rw[gJ];omega) (by rw[gJ];exact E) (by omega);rw[Int.natCast_zero]at ae
    conv at ae=>lhs;unfold gm
    have w:i64.wrap ((k:Int)-1)=(k:Int)-1:=cI (by omega);have dT:(Sort.siftDown bA k a 0 (gm l a (a+k)).toArray).toList.length=l.length:=by rw[iu,Ma (k-0) k a 0 _ (b7 _)];exact gJ _ _ _
    simp only[BW,e,am c,ak,de,eE (show a+k<l.length by omega),eE (show a<l.length by omega),bE,List.length_set,ae,w];refine ⟨(k,(Sort.siftDown bA k a 0 (gm l a (a+k)).toArray).toList),rfl,⟨by simp only[dT];omega,by simp only[dT];exact E⟩,by simp,λr au=> ?_⟩;rw[au];simp only[Array.toArray_toList];show _=Sum.inl ((Sort.heapPop bA a k (Sort.siftDown bA k a 0 (Sort.swp l.toArray a (a+k)))).toList,());rw[lp]) (u,m) ⟨by simp only;omega,by simp only;omega⟩ (by simp only;omega)
 subst aU;have gf:i64.wrap ((u:Int)-1)=(u:Int)-1:=cI (by omega);have R2:RJ ((a:Int),(0:Int),(u:Int)-1,m,())=some (.inl ((Sort.heapPop bA a u m.toArray).toList,())):=bb;have:Sort.heapSort bA l.toArray a b=Sort.heapPop bA a u m.toArray:=by unfold Sort.heapSort;rw[jg,<-hm,Array.toArray_toList]
 rw[this];unfold HG;dsimp only;rw[hW,SU,j0,hm];dsimp only;rw[gf,R2]
abbrev uo:Type:=(Int)×(Int)×(Int)×(List (aK))×G
abbrev hd (a i j:Nat) (l:aq):uo:=((a:Int),(i:Int),(j:Int),l,())
theorem FC (p:aK->Bool) (I:Array aK) (j i:Nat):Sort.scanUp p I j i=if i<=j&&p I[i]! then Sort.scanUp p I j (i+1) else i:=by
 conv=>lhs;unfold Sort.scanUp
theorem OT {b:uo->Option (uo⊕(uo⊕G))} (p:aq->aK->Bool) (a j:Nat) (l:aq) (aS:a<l.length) (an:j<l.length) (ab:l.length<2^62)
  (J: ∀i:Nat,b (hd a i j l)=bif decide ((i:Int)<=(j:Int)) then (bif decide ((0:Int)<=(i:Int))&&decide ((i:Int)<(l.length:Int)) then (bif p l (l.getD i gk) then some (.inl ((a:Int),i64.wrap ((i:Int)+1),(j:Int),l,())) else some (.inr (.inl (hd a i j l)))) else none) else some (.inr (.inl (hd a i j l)))) (i:Nat):
  b4 b (hd a i j l)=some (.inl (hd a (Sort.scanUp (p l) l.toArray j i) j l)):=by
 by_cases QS:i<=j
 ·obtain ⟨r,s,E⟩:=kM (b:=b) (λi:Nat=>hd a i j l) (λi=>j+1-i) (λi=>i<=j+1) (λi r=>r=.inl (hd a (Sort.scanUp (p l) l.toArray j i) j l))
   (λi u=>by
    simp only[J];by_cases pj:i<=j
    ·have c:((i:Int)<=(j:Int)):=by omega
     have w:=fO (j:=i) (by omega);rw[am c,ak,eE (show i<l.length by omega),ak,w];cases aP:p l (l.getD i gk)
     ·right;refine ⟨_,rfl,?_⟩;rw[FC,gP,aP];simp
     ·left;refine ⟨i+1,rfl,by omega,by omega,λr au=> ?_⟩;rw[FC,gP,aP];simp only[pj,cw,bM,if_true];exact au
    ·right;have c: ¬((i:Int)<=(j:Int)):=by omega
     rw[bf c,ax];refine ⟨_,rfl,?_⟩;rw[FC];simp[pj]) i (by omega) (by omega)
  rw[s,E]
 ·have c: ¬((i:Int)<=(j:Int)):=by omega
  have b8:=J i;rw[bf c,ax]at b8;have:Sort.scanUp (p l) l.toArray j i=i:=by rw[FC];simp[QS]
  rw[this];exact m7 (n:=1) (by rw[kN];omega) (by simp only[eI,b8])
theorem N9 {b:uo->Option (uo⊕(uo⊕G))} (p:aq->aK->Bool) (a i:Nat) (l:aq) (aS:a<l.length) (ab:l.length<2^62) (u:1<=i)
  (J: ∀j:Nat,b (hd a i j l)=bif decide ((i:Int)<=(j:Int)) then (bif decide ((0:Int)<=(j:Int))&&decide ((j:Int)<(l.length:Int)) then (bif p l (l.getD j gk) then some (.inl ((a:Int),(i:Int),i64.wrap ((j:Int)-1),l,())) else some (.inr (.inl (hd a i j l)))) else none) else some (.inr (.inl (hd a i j l)))) (j:Nat) (an:j<l.length):
  b4 b (hd a i j l)=some (.inl (hd a i (Sort.scanDown (p l) l.toArray i j) l)):=by
 obtain ⟨r,s,E⟩:=kM (b:=b) (λj:Nat=>hd a i j l) (λj=>j) (λj=>j<l.length) (λj r=>r=.inl (hd a i (Sort.scanDown (p l) l.toArray i j) l))
  (λj an=>by
   simp only[J];cases j with
   |zero=>
    right;have c: ¬((i:Int)<=((0:Nat):Int)):=by omega
    rw[bf c,ax];exact ⟨_,rfl,rfl⟩
   |succ j=>
    by_cases pj:i<=j+1
    ·have c:((i:Int)<=((j+1:Nat):Int)):=by omega
     have w:=S1 (j:=j) (by omega);rw[am c,ak,eE an,ak,w];cases aP:p l (l.getD (j+1) gk)
     ·right;refine ⟨_,rfl,?_⟩;unfold Sort.scanDown;rw[gP,aP];simp
     ·left;refine ⟨j,rfl,by omega,by omega,λr au=> ?_⟩;rw[au]
      conv=>rhs;unfold Sort.scanDown
      rw[gP,aP];simp only[pj,cw,bM,if_true]
    ·right;have c: ¬((i:Int)<=((j+1:Nat):Int)):=by omega
     rw[bf c,ax];refine ⟨_,rfl,?_⟩;unfold Sort.scanDown;simp[pj]) j an (by omega)
 rw[s,E]
section
variable {a i j:Nat} {l:aq}
theorem ajy (aS:a<l.length) (an:j<l.length) (ab:l.length<2^62):PF (hd a i j l)=some (.inl (hd a (Sort.scanUp (λx=> !bA (l.toArray)[a]! x) l.toArray j i) j l)):=by
 rw[gP];exact OT (b:=Hg) (λl x=> !bA (l.getD a gk) x) a j l aS an ab (λi=>by simp only[Hg,eE aS,ak,mx,mm,bE]) i
theorem ajz (aS:a<l.length) (an:j<l.length) (ab:l.length<2^62) (u:1<=i):PG (hd a i j l)=some (.inl (hd a i (Sort.scanDown (λx=>bA (l.toArray)[a]! x) l.toArray i j) l)):=by
 rw[gP];exact N9 (b:=Hh) (λl x=>bA (l.getD a gk) x) a i l aS ab u (λj=>by simp only[Hh,eE aS,ak,mx,mm,bE]) j an
theorem ajE (aS:a<l.length) (an:j<l.length) (ab:l.length<2^62):RT (hd a i j l)=some (.inl (hd a (Sort.scanUp (λx=>bA x (l.toArray)[a]!) l.toArray j i) j l)):=by
 rw[gP];exact OT (b:=HA) (λl x=>bA x (l.getD a gk)) a j l aS an ab (λi=>by simp only[HA,eE aS,ak,mx,mm,bE]) i
theorem ajG (aS:a<l.length) (an:j<l.length) (ab:l.length<2^62):RV (hd a i j l)=some (.inl (hd a (Sort.scanUp (λx=>bA x (l.toArray)[a]!) l.toArray j i) j l)):=by
 rw[gP];exact OT (b:=HD) (λl x=>bA x (l.getD a gk)) a j l aS an ab (λi=>by simp only[HD,eE aS,ak,mx,mm,bE]) i
theorem ajF (aS:a<l.length) (an:j<l.length) (ab:l.length<2^62) (u:1<=i):RU (hd a i j l)=some (.inl (hd a i (Sort.scanDown (λx=> !bA x (l.toArray)[a]!) l.toArray i j) l)):=by
 rw[gP];exact N9 (b:=HB) (λl x=> !bA x (l.getD a gk)) a i l aS ab u (λj=>by simp only[HB,eE aS,ak,mx,mm,bE]) j an
theorem aj3 (aS:a<l.length) (an:j<l.length) (ab:l.length<2^62) (u:1<=i):RW (hd a i j l)=some (.inl (hd a i (Sort.scanDown (λx=> !bA x (l.toArray)[a]!) l.toArray i j) l)):=by
 rw[gP];exact N9 (b:=Hm) (λl x=> !bA x (l.getD a gk)) a i l aS ab u (λj=>by simp only[Hm,eE aS,ak,mx,mm,bE]) j an
end
theorem aqC: ∀(n a i j:Nat) (I:Array aK),j+1-i<=n->(Sort.partLoop bA a i j I).2.size=I.size/\(Sort.partLoop bA a i j I).1<=j:=by
 intro n
 induction n with
 |zero=>
  intro a i j I h;rw[Sort.partLoop_eq];have s:=Sort.scanUp_ge (λx=>bA x I[a]!) I j i;have E:=Sort.scanDown_le (λx=> !bA x I[a]!) I (Sort.scanUp (λx=>bA x I[a]!) I j i) j;rw[if_pos (by omega)];exact ⟨rfl,E⟩
 |succ n aQ=>
  intro a i j I h;rw[Sort.partLoop_eq];have s:=Sort.scanUp_ge (λx=>bA x I[a]!) I j i;have E:=Sort.scanDown_le (λx=> !bA x I[a]!) I (Sort.scanUp (λx=>bA x I[a]!) I j i) j;split
  ·exact ⟨rfl,E⟩
  ·obtain ⟨O,aC⟩:=aQ a (Sort.scanUp (λx=>bA x I[a]!) I j i+1) (Sort.scanDown (λx=> !bA x I[a]!) I (Sort.scanUp (λx=>bA x I[a]!) I j i) j-1) (Sort.swp I (Sort.scanUp (λx=>bA x I[a]!) I j i) (Sort.scanDown (λx=> !bA x I[a]!) I (Sort.scanUp (λx=>bA x I[a]!) I j i) j)) (by omega);rw[wW]at O;exact ⟨O,by omega⟩
theorem Qi (i j:Nat):decide ((i:Int)>(j:Int))=decide (i>j):=by
 by_cases h:i>j
 ·rw[am h,am (by omega)]
 ·rw[bf h,bf (by omega)]
theorem aiF (a:Nat) (xS:0<=a) (i j:Nat) (l:aq) (aS:a<i) (an:j<l.length) (pa:a<l.length) (ab:l.length<2^62):
  Hi (hd a i j l)=some (.inl (((Sort.partEqLoop bA a i j l.toArray).1:Int),(Sort.partEqLoop bA a i j l.toArray).2.toList,())):=by
 obtain ⟨r,s,E⟩:=kM (b:=Hf) (λq:Nat×Nat×aq=>hd a q.1 q.2.1 q.2.2) (λq=>q.2.1+1-q.1)
  (λq=>a<q.1/\q.2.1<q.2.2.length/\a<q.2.2.length/\q.2.2.length<2^62)
  (λq r=>r=.inl (((Sort.partEqLoop bA a q.1 q.2.1 q.2.2.toArray).1:Int),(Sort.partEqLoop bA a q.1 q.2.1 q.2.2.toArray).2.toList,()))
  (λq aD=>by
   obtain ⟨i,j,l⟩:=q;obtain ⟨aS,an,pa,ab⟩:=aD;simp only at aS an pa ab;obtain ⟨i2,e8⟩: ∃x,Sort.scanUp (λx=> !bA (l.toArray)[a]! x) l.toArray j i=x:=⟨_,rfl⟩;obtain ⟨eF,hb⟩: ∃x,Sort.scanDown (λx=>bA (l.toArray)[a]! x) l.toArray i2 j=x:=⟨_,rfl⟩;have g1:=Sort.scanUp_ge (λx=> !bA (l.toArray)[a]! x) l.toArray j i;have g2:=Sort.scanDown_le (λx=>bA (l.toArray)[a]! x) l.toArray i2 j;rw[e8]at g1;rw[hb]at g2;have L:=ajy (a:=a) (i:=i) (j:=j) (l:=l) pa an ab;have aa:=ajz (a:=a) (i:=i2) (j:=j) (l:=l) pa an ab (by omega);rw[e8]at L;rw[hb]at aa;have eq:=Sort.partEqLoop_eq bA a i j l.toArray;rw[e8,hb]at eq;simp only[Hf,L,aa,Qi i2 eF];by_cases mW:i2>eF
   ·right;rw[if_pos mW]at eq;rw[am mW,ak,eq];exact ⟨_,rfl,rfl⟩
   ·left;rw[if_neg mW,lp]at eq;have dn:i64.wrap ((eF:Int)-1)=((eF-1:Nat):Int):=by rw[cI (by omega)];omega
    have de:=fO (j:=i2) (by omega);rw[bf mW,ax];simp only[eE (show eF<l.length by omega),eE (show i2<l.length by omega),ak,List.length_set,bE,dn,de];refine ⟨(i2+1,eF-1,gm l i2 eF),rfl,⟨by simp only;omega,by simp only[gJ];omega,by simp only[gJ];omega,by simp only[gJ];omega⟩,by simp only;omega,λr au=> ?_⟩;rw[eq];exact au) (i,j,l) ⟨aS,an,pa,ab⟩ (by simp only;omega)
 rw[show Hi (hd a i j l)=some r from s,E]
theorem aiI (a:Nat) (i j:Nat) (l:aq) (aS:a<i) (an:j<l.length) (pa:a<l.length) (ab:l.length<2^62):
  Hn (hd a i j l)=some (.inl ((a:Int),((Sort.partLoop bA a i j l.toArray).1:Int),(Sort.partLoop bA a i j l.toArray).2.toList,())):=by
 obtain ⟨r,s,E⟩:=kM (b:=HC) (λq:Nat×Nat×aq=>hd a q.1 q.2.1 q.2.2) (λq=>q.2.1+1-q.1)
  (λq=>a<q.1/\q.2.1<q.2.2.length/\a<q.2.2.length/\q.2.2.length<2^62)
  (λq r=>r=.inl ((a:Int),((Sort.partLoop bA a q.1 q.2.1 q.2.2.toArray).1:Int),(Sort.partLoop bA a q.1 q.2.1 q.2.2.toArray).2.toList,()))
  (λq aD=>by
   obtain ⟨i,j,l⟩:=q;obtain ⟨aS,an,pa,ab⟩:=aD;simp only at aS an pa ab;obtain ⟨i2,e8⟩: ∃x,Sort.scanUp (λx=>bA x (l.toArray)[a]!) l.toArray j i=x:=⟨_,rfl⟩;obtain ⟨eF,hb⟩: ∃x,Sort.scanDown (λx=> !bA x (l.toArray)[a]!) l.toArray i2 j=x:=⟨_,rfl⟩;have g1:=Sort.scanUp_ge (λx=>bA x (l.toArray)[a]!) l.toArray j i;have g2:=Sort.scanDown_le (λx=> !bA x (l.toArray)[a]!) l.toArray i2 j;rw[e8]at g1;rw[hb]at g2;have L:=ajG (a:=a) (i:=i) (j:=j) (l:=l) pa an ab;have aa:=aj3 (a:=a) (i:=i2) (j:=j) (l:=l) pa an ab (by omega);rw[e8]at L;rw[hb]at aa;have eq:=Sort.partLoop_eq bA a i j l.toArray;rw[e8,hb]at eq;simp only[HC,L,aa,Qi i2 eF];by_cases mW:i2>eF
   ·right;rw[if_pos mW]at eq;rw[am mW,ak,eq];exact ⟨_,rfl,rfl⟩
   ·left;rw[if_neg mW,lp]at eq;have dn:i64.wrap ((eF:Int)-1)=((eF-1:Nat):Int):=by rw[cI (by omega)];omega
    have de:=fO (j:=i2) (by omega);rw[bf mW,ax];simp only[eE (show eF<l.length by omega),eE (show i2<l.length by omega),ak,List.length_set,bE,dn,de];refine ⟨(i2+1,eF-1,gm l i2 eF),rfl,⟨by simp only;omega,by simp only[gJ];omega,by simp only[gJ];omega,by simp only[gJ];omega⟩,by simp only;omega,λr au=> ?_⟩;rw[eq];exact au) (i,j,l) ⟨aS,an,pa,ab⟩ (by simp only;omega)
 rw[show Hn (hd a i j l)=some r from s,E]
theorem arL (a b p:Nat) (l:aq) (gu:a<b) (aP:p<b) (J:b<=l.length) (ab:l.length<2^62):
  Bz ((a:Int),(b:Int),(p:Int),l,())=some (((Sort.partitionEqual bA l.toArray a b p).1:Int),(Sort.partitionEqual bA l.toArray a b p).2.toList,()):=by
 have dn:=fO (j:=a) (by omega);have de:i64.wrap ((b:Int)-1)=((b-1:Nat):Int):=by rw[cI (by omega)];omega
 have e:=aiF a (Nat.zero_le _) (a+1) (b-1) (gm l a p) (by omega) (by rw[gJ];omega) (by rw[gJ];omega) (by rw[gJ];exact ab);unfold Sort.partitionEqual;rw[lp]
 conv at e=>lhs;unfold gm
 simp only[Bz,eE (show p<l.length by omega),eE (show a<l.length by omega),ak,List.length_set,bE,dn,de,e]
theorem aiE (a b p:Nat) (l:aq) (gu:a<b) (aP:p<b) (J:b<=l.length) (ab:l.length<2^62):
  BR ((a:Int),(b:Int),(p:Int),l,())=some (((Sort.partition bA l.toArray a b p).1:Int),(Sort.partition bA l.toArray a b p).2.1,(Sort.partition bA l.toArray a b p).2.2.toList,()):=by
 have dn:=fO (j:=a) (by omega);have de:i64.wrap ((b:Int)-1)=((b-1:Nat):Int):=by rw[cI (by omega)];omega
 obtain ⟨m,hm⟩: ∃m,gm l a p=m:=⟨_,rfl⟩;have j6:m.length=l.length:=by rw[<-hm,gJ]
 obtain ⟨i2,e8⟩: ∃x,Sort.scanUp (λx=>bA x (m.toArray)[a]!) m.toArray (b-1) (a+1)=x:=⟨_,rfl⟩;obtain ⟨eF,hb⟩: ∃x,Sort.scanDown (λx=> !bA x (m.toArray)[a]!) m.toArray i2 (b-1)=x:=⟨_,rfl⟩;have g1:=Sort.scanUp_ge (λx=>bA x (m.toArray)[a]!) m.toArray (b-1) (a+1);have g2:=Sort.scanDown_le (λx=> !bA x (m.toArray)[a]!) m.toArray i2 (b-1);rw[e8]at g1;rw[hb]at g2;have L:=ajE (a:=a) (i:=a+1) (j:=b-1) (l:=m) (by omega) (by omega) (by omega);have aa:=ajF (a:=a) (i:=i2) (j:=b-1) (l:=m) (by omega) (by omega) (by omega) (by omega);rw[e8]at L;rw[hb]at aa;have hN:Sort.partition bA l.toArray a b p=if i2>eF then (eF,true,Sort.swp m.toArray eF a) else ((Sort.partLoop bA a (i2+1) (eF-1) (Sort.swp m.toArray i2 eF)).1,false,Sort.swp (Sort.partLoop bA a (i2+1) (eF-1) (Sort.swp m.toArray i2 eF)).2 (Sort.partLoop bA a (i2+1) (eF-1) (Sort.swp m.toArray i2 eF)).1 a):=by unfold Sort.partition;rw[lp,hm];simp only[e8,hb]
 rw[hN];have Cy:(l.set a (l.getD p gk)).set p (l.getD a gk)=m:=hm;simp only[BR,eE (show p<l.length by omega),eE (show a<l.length by omega),ak,List.length_set,bE,dn,de,Cy,L,aa,Qi i2 eF];by_cases mW:i2>eF
 ·rw[am mW,ak,if_pos mW,lp];simp only[eE (show a<m.length by omega),eE (show eF<m.length by omega),ak,List.length_set,bE];rfl
 ·rw[bf mW,ax,if_neg mW,lp];have gf:i64.wrap ((eF:Int)-1)=((eF-1:Nat):Int):=by rw[cI (by omega)];omega
  have kg:=fO (j:=i2) (by omega);have e:=aiI a (i2+1) (eF-1) (gm m i2 eF) (by omega) (by rw[gJ];omega) (by rw[gJ];omega) (by rw[gJ];omega);obtain ⟨s1,s2⟩:=aqC _ a (i2+1) (eF-1) (gm m i2 eF).toArray (b7 _);obtain ⟨R,ko⟩: ∃R,Sort.partLoop bA a (i2+1) (eF-1) (gm m i2 eF).toArray=R:=⟨_,rfl⟩;rw[ko]at e s1 s2 ⊢;have jq:R.2.toList.length=l.length:=by rw[iu,s1];show (gm m i2 eF).length=_;rw[gJ,j6]
  conv at e=>lhs;unfold gm
  have Rr:Sort.swp R.2 R.1 a=(gm R.2.toList R.1 a).toArray:=by rw[<-lp]
  rw[Rr];simp only[eE (show eF<m.length by omega),eE (show i2<m.length by omega),ak,List.length_set,bE,gf,kg,e,eE (show R.1<R.2.toList.length by omega),eE (show a<R.2.toList.length by omega)];rfl
theorem LC (I:Array aK) (b i:Nat):Sort.scanSorted bA I b i=if i<b&& !bA I[i]! I[i-1]! then Sort.scanSorted bA I b (i+1) else i:=by
 conv=>lhs;unfold Sort.scanSorted
theorem aox: ∀(n b i:Nat) (I:Array aK),b-i<=n->i<=b->i<=Sort.scanSorted bA I b i/\Sort.scanSorted bA I b i<=b:=by
 intro n
 induction n with
 |zero=>
  intro b i I h E;rw[LC];have: ¬i<b:=by omega
  simp only[this,decide_false,Bool.false_and,Bool.false_eq_true,if_false];omega
 |succ n aQ=>
  intro b i I h E;rw[LC];split
  ·rename_i aw;have bd:i<b:=by rw[bN,dJ]at aw;exact aw.1
   have:=aQ b (i+1) I (by omega) (by omega);omega
  ·omega
theorem XX: ∀(j:Nat) (I:Array aK),(Sort.shiftDown bA j I).size=I.size
 |0,_=>rfl
 |j+1,I=>by
  unfold Sort.shiftDown;split
  ·rfl
  ·rw[XX j,wW]
theorem Nv (b j:Nat) (I:Array aK):Sort.shiftUp bA b j I=if j<b then (if !bA I[j]! I[j-1]! then I else Sort.shiftUp bA b (j+1) (Sort.swp I j (j-1))) else I:=by
 conv=>lhs;unfold Sort.shiftUp
theorem apr: ∀(n b j:Nat) (I:Array aK),b-j<=n->(Sort.shiftUp bA b j I).size=I.size:=by
 intro n
 induction n with
 |zero=>
  intro b j I h;rw[Nv,if_neg (by omega)]
 |succ n aQ=>
  intro b j I h;rw[Nv];split
  ·split
   ·rfl
   ·rw[aQ _ _ _ (by omega),wW]
  ·rfl
theorem ajA (a b d:Nat) (l:aq) (J:b<=l.length) (ab:l.length<2^62) (i:Nat) (u:1<=i) (hx:i<=b):
  G2 ((a:Int),(b:Int),(i:Int),(d:Int),l,())=some (.inl ((a:Int),(b:Int),((Sort.scanSorted bA l.toArray b i:Nat):Int),(d:Int),l,())):=by
 obtain ⟨r,s,E⟩:=kM (b:=Bm) (λi:Nat=>((a:Int),(b:Int),(i:Int),(d:Int),l,())) (λi=>b-i) (λi=>1<=i/\i<=b)
  (λi r=>r=.inl ((a:Int),(b:Int),((Sort.scanSorted bA l.toArray b i:Nat):Int),(d:Int),l,()))
  (λi u=>by
   obtain ⟨s,E⟩:=u;rw[LC,gP,gP];by_cases hx:i<b
   ·have c:((i:Int)<(b:Int)):=by omega
    have w:i64.wrap ((i:Int)-1)=((i-1:Nat):Int):=by rw[cI (by omega)];omega
    have de:=fO (j:=i) (by omega);simp only[Bm,am c,ak,eE (show i<l.length by omega),w,de,eE (show i-1<l.length by omega),mx,mm,bE];cases bd:bA (l.getD i gk) (l.getD (i-1) gk)
    ·left;refine ⟨i+1,rfl,by omega,by omega,λr au=> ?_⟩;simp only[hx,cw,cK,bM,if_true];exact au
    ·right;refine ⟨_,rfl,?_⟩;simp
   ·right;have c: ¬((i:Int)<(b:Int)):=by omega
    simp only[Bm,bf c,ax];refine ⟨_,rfl,?_⟩;simp[hx]) i ⟨u,hx⟩ (by omega)
 rw[show G2 ((a:Int),(b:Int),(i:Int),(d:Int),l,())=some r from s,E]
theorem ajB (a b i d:Nat) (j:Nat) (l:aq) (an:j<l.length) (ab:l.length<2^62):
  G3 ((a:Int),(b:Int),(i:Int),(d:Int),(j:Int),l,())=some (.inl ((a:Int),(b:Int),(i:Int),(d:Int),(Sort.shiftDown bA j l.toArray).toList,())):=by
 obtain ⟨r,s,E⟩:=kM (b:=Bn) (λq:Nat×aq=>((a:Int),(b:Int),(i:Int),(d:Int),(q.1:Int),q.2,())) (λq=>q.1) (λq=>q.1<q.2.length/\q.2.length<2^62)
  (λq r=>r=.inl ((a:Int),(b:Int),(i:Int),(d:Int),(Sort.shiftDown bA q.1 q.2.toArray).toList,()))
  (λq aD=>by
   obtain ⟨j,l⟩:=q;obtain ⟨an,ab⟩:=aD;simp only at an ab;cases j with
   |zero=>
    right;refine ⟨_,?_,rfl⟩;have c: ¬(((0:Nat):Int)>=1):=by omega
    simp only[Bn,bf c,ax];rfl
   |succ j=>
    have c:(((j+1:Nat):Int)>=1):=by omega
    have w:=S1 (j:=j) (by omega);simp only[Bn,am c,ak,eE an,w,eE (show j<l.length by omega),mx,mm,bE,List.length_set];cases bd:bA (l.getD (j+1) gk) (l.getD j gk)
    ·right;refine ⟨_,rfl,?_⟩;unfold Sort.shiftDown;rw[gP,gP,bd];rfl
    ·left;refine ⟨(j,gm l (j+1) j),rfl,⟨by simp only[gJ];omega,by simp only[gJ];exact ab⟩,by simp,λr au=> ?_⟩;rw[au];have:Sort.shiftDown bA (j+1) l.toArray=Sort.shiftDown bA j (gm l (j+1) j).toArray:=by
      conv=>lhs;unfold Sort.shiftDown
      rw[gP,gP,bd,lp];rfl
     simp only[this]) (j,l) ⟨an,ab⟩ (by simp only;omega)
 rw[show G3 ((a:Int),(b:Int),(i:Int),(d:Int),(j:Int),l,())=some r from s,E]
theorem ajC (a b i d:Nat) (j:Nat) (l:aq) (an:1<=j) (Cs:j<=b+1) (J:b<=l.length) (ab:l.length<2^62):
  G4 ((a:Int),(b:Int),(i:Int),(d:Int),(j:Int),l,())=some (.inl ((a:Int),(b:Int),(i:Int),(d:Int),(Sort.shiftUp bA b j l.toArray).toList,())):=by
 obtain ⟨r,s,E⟩:=kM (b:=Bo) (λq:Nat×aq=>((a:Int),(b:Int),(i:Int),(d:Int),(q.1:Int),q.2,())) (λq=>b-q.1) (λq=>1<=q.1/\q.1<=b+1/\b<=q.2.length/\q.2.length<2^62)
  (λq r=>r=.inl ((a:Int),(b:Int),(i:Int),(d:Int),(Sort.shiftUp bA b q.1 q.2.toArray).toList,()))
  (λq aD=>by
   obtain ⟨j,l⟩:=q;obtain ⟨an,Cs,J,ab⟩:=aD;simp only at an Cs J ab;have hu:=Nv b j l.toArray;rw[gP,gP,lp]at hu;by_cases bd:j<b
   ·have c:((j:Int)<(b:Int)):=by omega
    have w:i64.wrap ((j:Int)-1)=((j-1:Nat):Int):=by rw[cI (by omega)];omega
    have de:=fO (j:=j) (by omega);rw[if_pos bd]at hu;simp only[Bo,am c,ak,eE (show j<l.length by omega),w,de,eE (show j-1<l.length by omega),mx,mm,bE,List.length_set];cases aw:bA (l.getD j gk) (l.getD (j-1) gk)
    ·right;refine ⟨_,rfl,?_⟩;rw[aw]at hu;rw[hu];rfl
    ·left;rw[aw]at hu;refine ⟨(j+1,gm l j (j-1)),rfl,⟨by simp only;omega,by simp only;omega,by simp only[gJ];exact J,by simp only[gJ];exact ab⟩,by simp only;omega,λr au=> ?_⟩;rw[au,hu];rfl
   ·right;have c: ¬((j:Int)<(b:Int)):=by omega
    rw[if_neg bd]at hu;simp only[Bo,bf c,ax,hu];exact ⟨_,rfl,rfl⟩) (j,l) ⟨an,Cs,J,ab⟩ (by simp only;omega)
 rw[show G4 ((a:Int),(b:Int),(i:Int),(d:Int),(j:Int),l,())=some r from s,E]
theorem aq7 (a b:Nat) (l:aq) (gu:a<b) (J:b<=l.length) (ab:l.length<2^62):
  Bq ((a:Int),(b:Int),l,())=some ((Sort.partialInsertionSort bA l.toArray a b).2,(Sort.partialInsertionSort bA l.toArray a b).1.toList,()):=by
 obtain ⟨r,s,E⟩:=kM (b:=Bu) (λq:Nat×Nat×aq=>((a:Int),(b:Int),(q.2.1:Int),((5-q.1:Nat):Int),q.2.2,())) (λq=>q.1)
  (λq=>q.1<=5/\a+1<=q.2.1/\q.2.1<=b/\b<=q.2.2.length/\q.2.2.length<2^62)
  (λq r=>r=.inl ((Sort.partialIns bA a b q.1 q.2.1 q.2.2.toArray).2,(Sort.partialIns bA a b q.1 q.2.1 q.2.2.toArray).1.toList,())\/((Sort.partialIns bA a b q.1 q.2.1 q.2.2.toArray).2=false/\r=.inr ((Sort.partialIns bA a b q.1 q.2.1 q.2.2.toArray).1.toList,())))
  (λq aD=>by
   obtain ⟨k,i,l⟩:=q;obtain ⟨af,u,hx,J,ab⟩:=aD;simp only at af u hx J ab;cases k with
   |zero=>
    right;refine ⟨_,?_,.inr ⟨rfl,rfl⟩⟩;have c: ¬(((5-0:Nat):Int)<5):=by omega
    simp only[Bu,bf c,ax];rfl
   |succ k=>
    have c:(((5-(k+1):Nat):Int)<5):=by omega
    have ws:i64.wrap (((5-(k+1):Nat):Int)+1)=((5-k:Nat):Int):=by rw[cI (by omega)];omega
    have L:=ajA a b (5-(k+1)) l J ab i (by omega) hx;obtain ⟨i2,e8⟩: ∃x,Sort.scanSorted bA l.toArray b i=x:=⟨_,rfl⟩;have g:=aox _ b i l.toArray (b7 _) hx;rw[e8]at L g;have hN:Sort.partialIns bA a b (k+1) i l.toArray=if i2=b then (l.toArray,true) else if b-a<50 then (l.toArray,false) else
      Sort.partialIns bA a b k i2 (if b-i2>=2 then Sort.shiftUp bA b (i2+1) (if i2-a>=2 then Sort.shiftDown bA (i2-1) (gm l i2 (i2-1)).toArray else (gm l i2 (i2-1)).toArray) else (if i2-a>=2 then Sort.shiftDown bA (i2-1) (gm l i2 (i2-1)).toArray else (gm l i2 (i2-1)).toArray)):=by
     rw[<-lp]
     conv=>lhs;unfold Sort.partialIns
     simp only[e8]
    rw[hN];simp only[Bu,am c,ak,L];by_cases en:i2=b
    ·right;have aX:((i2:Int)=(b:Int)):=by omega
     rw[am aX,ak,if_pos en];exact ⟨_,rfl,.inl rfl⟩
    ·have aX: ¬((i2:Int)=(b:Int)):=by omega
     have hW:i64.wrap ((b:Int)-(a:Int))=((b-a:Nat):Int):=by rw[cI (by omega)];omega
     rw[bf aX,ax,if_neg en,hW];by_cases Qn:b-a<50
     ·right;have c3:(((b-a:Nat):Int)<50):=by omega
      rw[am c3,ak,if_pos Qn];exact ⟨_,rfl,.inl rfl⟩
     ·left;have c3: ¬(((b-a:Nat):Int)<50):=by omega
      have dn:i64.wrap ((i2:Int)-1)=((i2-1:Nat):Int):=by rw[cI (by omega)];omega
      have de:i64.wrap ((i2:Int)-(a:Int))=((i2-a:Nat):Int):=by rw[cI (by omega)];omega
      have gf:i64.wrap ((b:Int)-(i2:Int))=((b-i2:Nat):Int):=by rw[cI (by omega)];omega
      have kg:=fO (j:=i2) (by omega);rw[bf c3,ax,if_neg Qn];have half: ∀m:aq,m.length=l.length->
        ∃c6:aq,Bt ((a:Int),(b:Int),(i2:Int),((5-(k+1):Nat):Int),m,())=some (.inl ((a:Int),(b:Int),(i2:Int),((5-k:Nat):Int),c6,()))/\c6.length=l.length/\
         c6.toArray=(if b-i2>=2 then Sort.shiftUp bA b (i2+1) m.toArray else m.toArray):=by
       intro m hm;by_cases E:b-i2>=2
       ·have c5:(((b-i2:Nat):Int)>=2):=by omega
        have a1:=ajC a b i2 (5-(k+1)) (i2+1) m (by omega) (by omega) (by omega) (by omega);refine ⟨(Sort.shiftUp bA b (i2+1) m.toArray).toList,?_,?_,?_⟩
        ·simp only[Bt,gf,am c5,ak,kg,a1,ws]
        ·rw[iu,apr _ _ _ _ (b7 _)];exact hm
        ·rw[if_pos E,Array.toArray_toList]
       ·have c5: ¬(((b-i2:Nat):Int)>=2):=by omega
        refine ⟨m,?_,hm,by rw[if_neg E]⟩;simp only[Bt,gf,bf c5,ax,ws]
      simp only[dn,de,eE (show i2-1<l.length by omega),eE (show i2<l.length by omega),ak,bE,List.length_set];have Rr:(l.set i2 (l.getD (i2-1) gk)).set (i2-1) (l.getD i2 gk)=gm l i2 (i2-1):=rfl;rw[Rr];by_cases E:i2-a>=2
      ·have e5:(((i2-a:Nat):Int)>=2):=by omega
       have aa:=ajB a b i2 (5-(k+1)) (i2-1) (gm l i2 (i2-1)) (by rw[gJ];omega) (by rw[gJ];exact ab);obtain ⟨c6,f1,f2,f3⟩:=half (Sort.shiftDown bA (i2-1) (gm l i2 (i2-1)).toArray).toList (by rw[iu,XX];exact gJ _ _ _);rw[am e5,ak];simp only[aa,f1];refine ⟨(k,i2,c6),rfl,⟨by simp only;omega,by simp only;omega,by simp only;omega,by simp only;omega,by simp only;omega⟩,by simp,λr au=> ?_⟩;rw[if_pos E];simp only[f3,Array.toArray_toList]at au;exact au
      ·have e5: ¬(((i2-a:Nat):Int)>=2):=by omega
       obtain ⟨c6,f1,f2,f3⟩:=half (gm l i2 (i2-1)) (gJ _ _ _);rw[bf e5,ax];simp only[f1];refine ⟨(k,i2,c6),rfl,⟨by simp only;omega,by simp only;omega,by simp only;omega,by simp only;omega,by simp only;omega⟩,by simp,λr au=> ?_⟩;rw[if_neg E];simp only[f3]at au;exact au) (5,a+1,l) ⟨by simp,by simp,by simp only;omega,J,ab⟩ (by simp)
 have w:=fO (j:=a) (by omega);have dq:Pv ((a:Int),(b:Int),((a+1:Nat):Int),(0:Int),l,())=some r:=s;unfold Bq;dsimp only;rw[w,dq];rcases E with rfl |⟨O,rfl⟩
 ·rfl
 ·have O:(Sort.partialInsertionSort bA l.toArray a b).2=false:=O;rw[O];rfl
theorem N6 (a b:Nat) (l:aq) (d:Int) (aS:a<l.length) (J:b<l.length):
  ∃x y:Nat,∃hD:Int,xJ ((a:Int),(b:Int),l,d,())=some ((x:Int),(y:Int),l,hD,())/\((x=a/\y=b)\/(x=b/\y=a)):=by
 simp only[xJ,eE J,eE aS,ak,bE,mx,mm];cases bA (l.getD b gk) (l.getD a gk)
 ·exact ⟨a,b,_,rfl,.inl ⟨rfl,rfl⟩⟩
 ·exact ⟨b,a,_,rfl,.inr ⟨rfl,rfl⟩⟩
theorem at8 (a b c:Nat) (l:aq) (d:Int) (aS:a<l.length) (J:b<l.length) (aw:c<l.length):
  ∃x:Nat,∃hD:Int,BZ ((a:Int),(b:Int),(c:Int),l,d,())=some ((x:Int),l,hD,())/\(x=a\/x=b\/x=c):=by
 obtain ⟨nS,iO,s1,L,s⟩:=N6 a b l d aS J;obtain ⟨oO,kS,s2,aa,E⟩:=N6 iO c l s1 (by omega) aw;obtain ⟨tU,y3,jq,a1,O⟩:=N6 nS oO l s2 (by omega) (by omega);simp only[BZ,L,aa,a1];exact ⟨y3,_,rfl,by omega⟩
theorem N4 (a:Nat) (l:aq) (d:Int) (aS:1<=a) (J:a+1<l.length) (ab:l.length<2^62):
  ∃x:Nat,∃hD:Int,xz ((a:Int),l,d,())=some ((x:Int),l,hD,())/\a-1<=x/\x<=a+1:=by
 have dn:i64.wrap ((a:Int)-1)=((a-1:Nat):Int):=by rw[cI (by omega)];omega
 have de:=fO (j:=a) (by omega);obtain ⟨x,hD,e,h⟩:=at8 (a-1) a (a+1) l d (by omega) (by omega) J;simp only[xz,dn,de,e];exact ⟨x,_,rfl,by omega,by omega⟩
theorem UJ (n:Nat) (h:n<2^62):i64.wrap (Int.tdiv (n:Int) 4)=((n/4:Nat):Int):=by
 have aa:Int.tdiv ((n:Nat):Int) 4=((n/4:Nat):Int):=by rw[Int.tdiv_eq_ediv_of_nonneg (by omega)];omega
 rw[aa,cI (by omega)]
theorem ais (a b:Nat) (l:aq) (gu:a+12<b) (J:b<=l.length) (ab:l.length<2^62):
  ∃x:Nat,∃h:Int,Hr ((a:Int),(b:Int),l,())=some ((x:Int),h,l,())/\a<=x/\x<b:=by
 have hW:i64.wrap ((b:Int)-(a:Int))=((b-a:Nat):Int):=by rw[cI (by omega)];omega
 obtain ⟨n,aR⟩: ∃n,b-a=n:=⟨_,rfl⟩;rw[aR]at hW;have q:=UJ n (by omega);have L: ∀k:Nat,k<=3->i64.wrap ((a:Int)+i64.wrap (((n/4:Nat):Int)*(k:Int)))=((a+n/4*k:Nat):Int):=by
  intro k af;have jM:n/4*k<=n:=by have:n/4*k<=n/4*3:=Nat.mul_le_mul_left _ af;omega
  have e:((n/4:Nat):Int)*(k:Int)=((n/4*k:Nat):Int):=by rw[Int.natCast_mul]
  rw[e,cI (x:=((n/4*k:Nat):Int)) (by omega),cI (by omega)];omega
 have f1:i64.wrap ((a:Int)+i64.wrap (((n/4:Nat):Int)*1))=((a+n/4*1:Nat):Int):=L 1 (by omega);have f2:i64.wrap ((a:Int)+i64.wrap (((n/4:Nat):Int)*2))=((a+n/4*2:Nat):Int):=L 2 (by omega);have f3:i64.wrap ((a:Int)+i64.wrap (((n/4:Nat):Int)*3))=((a+n/4*3:Nat):Int):=L 3 (by omega);have oe:((n:Int)>=8):=by omega
 have fin: ∀(i j k:Nat) (d:Int),a<=i->a<=j->a<=k->i<b->j<b->k<b-> ∃x:Nat,∃h:Int,G7 ((i:Int),(j:Int),(k:Int),l,d,())=some ((x:Int),h,l,())/\a<=x/\x<b:=by
  intro i j k d s E O aC ba bF;obtain ⟨x,hD,e,h⟩:=at8 i j k l d (by omega) (by omega) (by omega);simp only[G7,e];cases decide (hD=0)
  ·cases decide (hD=12)
   ·exact ⟨x,_,rfl,by omega,by omega⟩
   ·exact ⟨x,_,rfl,by omega,by omega⟩
  ·exact ⟨x,_,rfl,by omega,by omega⟩
 simp only[Hr,hW,q,f1,f2,f3,am oe,ak];by_cases Qn:n>=50
 ·have Ps:((n:Int)>=50):=by omega
  obtain ⟨nS,s1,g1,g2,g3⟩:=N4 (a+n/4*1) l 0 (by omega) (by omega) ab;obtain ⟨oO,s2,bb,aU,ck⟩:=N4 (a+n/4*2) l s1 (by omega) (by omega) ab;obtain ⟨tU,jq,dU,c6,fm⟩:=N4 (a+n/4*3) l s2 (by omega) (by omega) ab;simp only[am Ps,ak,g1,bb,dU];exact fin nS oO tU jq (by omega) (by omega) (by omega) (by omega) (by omega) (by omega)
 ·have Ps: ¬((n:Int)>=50):=by omega
  simp only[bf Ps,ax];exact fin _ _ _ 0 (by omega) (by omega) (by omega) (by omega) (by omega) (by omega)
theorem am3 (i j:Nat) (I:Array aK):Sort.reverseLoop i j I=if i<j then Sort.reverseLoop (i+1) (j-1) (Sort.swp I i j) else I:=by
 conv=>lhs;unfold Sort.reverseLoop
theorem aq9 (a b:Nat) (l:aq) (gu:a<b) (J:b<=l.length) (ab:l.length<2^62):
  BF ((a:Int),(b:Int),l,())=some ((Sort.reverseRange l.toArray a b).toList,()):=by
 obtain ⟨r,s,E⟩:=kM (b:=Bw) (λq:Nat×Nat×aq=>((q.1:Int),(q.2.1:Int),q.2.2,())) (λq=>q.2.1-q.1) (λq=>q.1<=q.2.2.length/\q.2.1<q.2.2.length/\q.2.2.length<2^62)
  (λq r=>r=.inl ((Sort.reverseLoop q.1 q.2.1 q.2.2.toArray).toList,()))
  (λq aD=>by
   obtain ⟨i,j,l⟩:=q;obtain ⟨u,an,ab⟩:=aD;simp only at u an ab;have hu:=am3 i j l.toArray;rw[lp]at hu;by_cases bd:i<j
   ·left;have c:((i:Int)<(j:Int)):=by omega
    have dn:i64.wrap ((j:Int)-1)=((j-1:Nat):Int):=by rw[cI (by omega)];omega
    have de:=fO (j:=i) (by omega);rw[if_pos bd]at hu;simp only[Bw,am c,ak,eE an,eE (show i<l.length by omega),bE,List.length_set,dn,de];refine ⟨(i+1,j-1,gm l i j),rfl,⟨by simp only[gJ];omega,by simp only[gJ];omega,by simp only[gJ];exact ab⟩,by simp only;omega,λr au=> ?_⟩;rw[au,hu]
   ·right;have c: ¬((i:Int)<(j:Int)):=by omega
    rw[if_neg bd]at hu;simp only[Bw,bf c,ax,hu];exact ⟨_,rfl,rfl⟩) (a,b-1,l) ⟨by simp only;omega,by simp only;omega,ab⟩ (by simp only;omega)
 have w:i64.wrap ((b:Int)-1)=((b-1:Nat):Int):=by rw[cI (by omega)];omega
 have dq:Qg ((a:Int),((b-1:Nat):Int),l,())=some r:=s;unfold BF;dsimp only;rw[w,dq,E];rfl
def Uy (k n:Nat):Bool:=match yp ((n:Int),(k:Int),()) with
 |some (v,_)=>decide ((k:Int)<=v)&&decide (v<=(k+8:Nat))&&(decide (n=0)||decide (2^(v-k).toNat<=2*n))
 |none=>false
theorem aia:((List.range 8).all λk=>(List.range 256).all (Uy (8*k)))=true:=by kernel_rfl
theorem akb (n:Nat) (h:n<256) (k:Nat) (af:k<8): ∃v:Nat,yp ((n:Int),((8*k:Nat):Int),())=some (((8*k+v:Nat):Int),())/\(n≠0->2^v<=2*n)/\v<=8:=by
 have s:=fy.1 (fy.1 aia k (List.mem_range.2 af)) n (List.mem_range.2 h);unfold Uy at s;cases e:yp ((n:Int),((8*k:Nat):Int),()) with
 |none=>rw[e]at s;cases s
 |some r=>
  obtain ⟨v,ad⟩:=r;rw[e]at s;have s:(decide (((8*k:Nat):Int)<=v)&&decide (v<=(8*k+8:Nat))&&(decide (n=0)||decide (2^(v-((8*k:Nat):Int)).toNat<=2*n)))=true:=s;rw[bN,bN,Bool.or_eq_true,dJ,dJ,dJ,dJ]at s;obtain ⟨⟨E,O⟩,aC⟩:=s;refine ⟨(v-((8*k:Nat):Int)).toNat,?_,λaR=>aC.resolve_left aR,by omega⟩;have:((8*k+(v-((8*k:Nat):Int)).toNat:Nat):Int)=v:=by omega
  rw[this]
theorem Oj (n k:Nat) (af:k<=64):Int.fdiv (n:Int) (2^(min (Int.toNat (k:Int)) IntKind.u64.bits))=((n/2^k:Nat):Int):=by
 have:min (Int.toNat (k:Int)) IntKind.u64.bits=k:=by show min k 64=k;omega
 rw[this,Int.fdiv_eq_ediv_of_nonneg _ (by exact Int.le_of_lt (Int.pow_pos (by omega)))];rw[Int.natCast_ediv,Int.natCast_pow];rfl
theorem Uz (n:Nat) (h:n<2^62) (b8:n≠0): ∃v:Nat,yN ((n:Int),())=some ((v:Int),())/\2^v<=2*n/\v<=64:=by
 have shift: ∀(m k d v:Nat),2^v<=2^(k+d)*(2*(m/2^d))->2^v<=2^k*(2*m):=by
  intro m k d v aZ;refine Nat.le_trans aZ ?_;rw[Nat.pow_add,Nat.mul_assoc];have s:2^d*(m/2^d)<=m:=Nat.mul_div_le m (2^d);have E:2^d*(2*(m/2^d))=2*(2^d*(m/2^d)):=by rw[Nat.mul_left_comm]
  rw[E];exact Nat.mul_le_mul_left _ (by omega)
 have eo: ∀(m k:Nat),m≠0->m<256->k<8-> ∃v:Nat,yp ((m:Int),((8*k:Nat):Int),())=some ((v:Int),())/\2^v<=2^(8*k)*(2*m)/\v<=8*k+8:=by intro m k b8 hm af;obtain ⟨v,e,s,E⟩:=akb m hm k af;refine ⟨8*k+v,e,?_,by omega⟩;rw[Nat.pow_add];exact Nat.mul_le_mul_left _ (s b8)
 have cn: ∀(m k:Nat),m≠0->m<65536->k<7-> ∃v:Nat,IF ((m:Int),((8*k:Nat):Int),())=some ((v:Int),())/\2^v<=2^(8*k)*(2*m)/\v<=8*k+16:=by
  intro m k b8 hm af;unfold IF;dsimp only;by_cases s:m>=256
  ·have c:((m:Int)>=256):=by omega
   have w:i64.wrap (((8*k:Nat):Int)+8)=((8*(k+1):Nat):Int):=by rw[cI (by omega)];omega
   have I:=Oj m 8 (by omega);have I:Int.fdiv (m:Int) (2^(min (Int.toNat (8:Int)) IntKind.u64.bits))=((m/2^8:Nat):Int):=I;obtain ⟨v,e,E,O⟩:=eo (m/2^8) (k+1) (by omega) (by omega) (by omega);rw[am c,ak,I,w,e];exact ⟨v,rfl,shift m (8*k) 8 v E,by omega⟩
  ·have c: ¬((m:Int)>=256):=by omega
   obtain ⟨v,e,E,O⟩:=eo m k b8 (by omega) (by omega);rw[bf c,ax,e];exact ⟨v,rfl,E,by omega⟩
 have gI: ∀(m k:Nat),m≠0->m<4294967296->k<5-> ∃v:Nat,yo ((m:Int),((8*k:Nat):Int),())=some ((v:Int),())/\2^v<=2^(8*k)*(2*m)/\v<=8*k+32:=by
  intro m k b8 hm af;unfold yo;dsimp only;by_cases s:m>=65536
  ·have c:((m:Int)>=65536):=by omega
   have w:i64.wrap (((8*k:Nat):Int)+16)=((8*(k+2):Nat):Int):=by rw[cI (by omega)];omega
   have I:Int.fdiv (m:Int) (2^(min (Int.toNat (16:Int)) IntKind.u64.bits))=((m/2^16:Nat):Int):=Oj m 16 (by omega);obtain ⟨v,e,E,O⟩:=cn (m/2^16) (k+2) (by omega) (by omega) (by omega);rw[am c,ak,I,w,e];exact ⟨v,rfl,shift m (8*k) 16 v E,by omega⟩
  ·have c: ¬((m:Int)>=65536):=by omega
   obtain ⟨v,e,E,O⟩:=cn m k b8 (by omega) (by omega);rw[bf c,ax,e];exact ⟨v,rfl,E,by omega⟩
 unfold yN Tm;dsimp only;by_cases s:n>=4294967296
 ·have c:((n:Int)>=4294967296):=by omega
  have I:Int.fdiv (n:Int) (2^(min (Int.toNat (32:Int)) IntKind.u64.bits))=((n/2^32:Nat):Int):=Oj n 32 (by omega);obtain ⟨v,e,E,O⟩:=gI (n/2^32) 4 (by omega) (by omega) (by omega);have e:yo (((n/2^32:Nat):Int),(32:Int),())=some ((v:Int),()):=e;rw[am c,ak,I,e];refine ⟨v,rfl,?_,by omega⟩;have:=shift n 0 32 v E;simpa using this
 ·have c: ¬((n:Int)>=4294967296):=by omega
  obtain ⟨v,e,E,O⟩:=gI n 0 b8 (by omega) (by omega);have e:yo ((n:Int),(0:Int),())=some ((v:Int),()):=e;rw[bf c,ax,e];refine ⟨v,rfl,?_,by omega⟩;simpa using E
theorem ash (l m:aq) (a b i j:Nat) (h:Sort.PermIn a b l.toArray m.toArray) (u:a<=i/\i<b) (an:a<=j/\j<b) (J:b<=m.length):Sort.PermIn a b l.toArray (gm m i j).toArray:=by rw[<-lp];exact Sort.permIn_trans _ _ _ a b h (Sort.swp_permIn _ a b i j u.1 u.2 an.1 an.2 (by simpa using J))
theorem arW (a b:Nat) (l:aq) (gu:a+12<b) (J:b<=l.length) (ab:l.length<2^62):
  ∃m:aq,G9 ((a:Int),(b:Int),l,())=some (m,())/\Sort.PermIn a b l.toArray m.toArray:=by
 have hW:i64.wrap ((b:Int)-(a:Int))=((b-a:Nat):Int):=by rw[cI (by omega)];omega
 obtain ⟨n,aR⟩: ∃n,b-a=n:=⟨_,rfl⟩;rw[aR]at hW;have q:=UJ n (by omega);have oe:((n:Int)>=8):=by omega
 obtain ⟨v,c9,aZ,Ry⟩:=Uz n (by omega) (by omega);have hu:IntKind.u64.wrap (n:Int)=(n:Int):=by show (n:Int)%2^64=_;omega
 have aP:2^v<9223372036854775808:=by omega
 have vl:1<=2^v:=Nat.one_le_two_pow;have lI:Iv ((n:Int),())=some (((2^v:Nat):Int),()):=by
  have c: ¬((v:Int)<0):=by omega
  have Q4:min (Int.toNat (v:Int)) IntKind.u64.bits=v:=by show min v 64=v;omega
  simp only[Iv,hu,c9,bf c,ax,Q4];have e:(1:Int)*2^v=((2^v:Nat):Int):=by rw[Int.one_mul,Int.natCast_pow];rfl
  rw[e];have:IntKind.u64.wrap ((2^v:Nat):Int)=((2^v:Nat):Int):=by show ((2^v:Nat):Int)%2^64=_;omega
  rw[this]
 have aa:i64.wrap ((a:Int)+i64.wrap (((n/4:Nat):Int)*2))=((a+n/4*2:Nat):Int):=by
  have e:((n/4:Nat):Int)*2=((n/4*2:Nat):Int):=by omega
  rw[e,cI (x:=((n/4*2:Nat):Int)) (by omega),cI (by omega)];omega
 have gf:i64.wrap (((a+n/4*2:Nat):Int)-1)=((a+n/4*2-1:Nat):Int):=by rw[cI (by omega)];omega
 have kg:i64.wrap (((a+n/4*2:Nat):Int)+1)=((a+n/4*2+1:Nat):Int):=by rw[cI (by omega)];omega
 obtain ⟨r,s,m,rfl,auo,iU⟩:=kM (b:=BP) (λq:Nat×aq×Int=>((a:Int),(n:Int),((2^v:Nat):Int),(q.1:Int),q.2.1,q.2.2,())) (λq=>b-q.1)
  (λq=>a<=q.1/\q.1<=a+n/4*2+2/\q.2.1.length=l.length/\Sort.PermIn a b l.toArray q.2.1.toArray)
  (λq r=> ∃m:aq,r=.inl (m,())/\m.length=l.length/\Sort.PermIn a b l.toArray m.toArray)
  (λq aD=>by
   obtain ⟨i,m,ay0⟩:=q;obtain ⟨s,E,O,aC⟩:=aD;simp only at s E O aC;by_cases u:i<=a+n/4*2+1
   ·left;have c:((i:Int)<=((a+n/4*2+1:Nat):Int)):=by omega
    have JA:=fO (j:=i) (by omega);have axT:IntKind.u64.wrap (((2^v:Nat):Int)-1)=((2^v-1:Nat):Int):=by show (((2^v:Nat):Int)-1)%2^64=_;omega
    have fin: ∀(o:Nat) (Sz:Int),o<n-> ∃t:Nat×aq×Int,G0 ((a:Int),(n:Int),((2^v:Nat):Int),(i:Int),(o:Int),m,Sz,())=some (.inl ((a:Int),(n:Int),((2^v:Nat):Int),(t.1:Int),t.2.1,t.2.2,()))/\
      (a<=t.1/\t.1<=a+n/4*2+2/\t.2.1.length=l.length/\Sort.PermIn a b l.toArray t.2.1.toArray)/\b-t.1<b-i/\ ∀r:(aq×G)⊕G,(∃m:aq,r=.inl (m,())/\m.length=l.length/\Sort.PermIn a b l.toArray m.toArray)->(∃m:aq,r=.inl (m,())/\m.length=l.length/\Sort.PermIn a b l.toArray m.toArray):=by
     intro o Sz W;have wo:=DX (i:=a) (j:=o) (by omega);simp only[G0,wo,eE (show a+o<m.length by omega),eE (show i<m.length by omega),ak,bE,List.length_set,JA];refine ⟨(i+1,gm m i (a+o),Sz),rfl,⟨by simp only;omega,by simp only;omega,by simp only[gJ];exact O,ash l m a b i (a+o) aC ⟨s,by omega⟩ ⟨by omega,by omega⟩ (by omega)⟩,by simp only;omega,λr au=>au⟩
    simp only[BP,q,aa,kg,am c,ak,SC,axT];generalize IntKind.u64.wrap ((BitVec.ofInt IntKind.u64.bits _ ^^^ BitVec.ofInt IntKind.u64.bits (IntKind.u64.wrap (_*2^(min (Int.toNat (17:Int)) IntKind.u64.bits)))).toNat:Int)=R;obtain ⟨o,W⟩: ∃o:Nat,(BitVec.ofInt IntKind.u64.bits R &&& BitVec.ofInt IntKind.u64.bits ((2^v-1:Nat):Int)).toNat=o:=⟨_,rfl⟩;have dv:o<=2^v-1:=by rw[<-W,BitVec.toNat_and];refine Nat.le_trans Nat.and_le_right ?_;rw[BitVec.toNat_ofInt];show ((((2^v-1:Nat):Int)%((2^64:Nat):Int)).toNat)<=_;omega
    rw[W];have axV:IntKind.u64.wrap (o:Int)=(o:Int):=by show (o:Int)%2^64=_;omega
    have axU:i64.wrap (o:Int)=(o:Int):=cI (by omega);rw[axV,axU];by_cases auz:o>=n
    ·have aX:((o:Int)>=(n:Int)):=by omega
     have DS:i64.wrap ((o:Int)-(n:Int))=((o-n:Nat):Int):=by rw[cI (by omega)];omega
     rw[am aX,ak,DS];exact fin (o-n) R (by omega)
    ·have aX: ¬((o:Int)>=(n:Int)):=by omega
     rw[bf aX,ax];exact fin o R (by omega)
   ·right;have c: ¬((i:Int)<=((a+n/4*2+1:Nat):Int)):=by omega
    simp only[BP,q,aa,kg,bf c,ax];exact ⟨_,rfl,m,rfl,O,aC⟩) (a+n/4*2-1,l,(n:Int)) ⟨by simp only;omega,by simp only;omega,rfl,Sort.permIn_refl _ a b⟩ (by simp only;omega)
 have dq:PI ((a:Int),(n:Int),((2^v:Nat):Int),((a+n/4*2-1:Nat):Int),l,(n:Int),())=some (.inl (m,())):=s;refine ⟨m,?_,iU⟩;simp only[G9,hW,am oe,ak,hu,lI,q,aa,gf,dq]
def r4 (a b:Nat) (l m:aq):Prop:=Sort.PermIn a b l.toArray m.toArray/\Sort.SortedIn bA a b m.toArray
theorem PermIn.len {a b:Nat} {l m:aq} (h:Sort.PermIn a b l.toArray m.toArray):m.length=l.length:=by simpa using h.1
abbrev ud:Type:=((Int)×(Int)×(Int)×(List (aK))×G)->Option ((List (aK))×G)
abbrev Kk:Type:=(Int)×(Int)×(Int)×(Bool)×(Bool)×(List (aK))×G
def sm (r:ud) (aY:Nat):Prop:= ∀(a b:Nat) (lim:Int) (l:aq),a<=b->b<=l.length->l.length<2^62->b-a<aY->Sort.Below bA a b l.toArray->
 ∃m,r ((a:Int),(b:Int),lim,l,())=some (m,())/\r4 a b l m
structure Next (a b:Nat) (l:aq) (d:Kk):Prop where
 ex: ∃(bn bQ:Nat) (lim:Int) (iq wp:Bool) (m:aq),d=((bn:Int),(bQ:Int),lim,iq,wp,m,())/\bn<=bQ/\bQ<=m.length/\m.length=l.length/\Sort.Below bA bn bQ m.toArray/\bQ-bn<b-a/\ ∀x,r4 bn bQ m x->r4 a b l x
theorem Next.pre {a b:Nat} {l m:aq} {d:Kk} (h:Next a b m d) (aP:Sort.PermIn a b l.toArray m.toArray):Next a b l d:=by obtain ⟨bn,bQ,lim,iq,wp,x,s,E,O,aC,ba,bF,dN⟩:=h.ex;exact ⟨bn,bQ,lim,iq,wp,x,s,E,O,aC.trans (PermIn.len aP),ba,bF,λy bo=>⟨Sort.permIn_trans _ _ _ a b aP (dN y bo).1,(dN y bo).2⟩⟩
theorem ajQ (r:ud) (a b aY p:Nat) (lim len:Int) (l:aq) (au:sm r aY) (kn:b-a<=aY) (vl:a<=p) (mZ:p<b) (J:b<=l.length) (ab:l.length<2^62) (di:Sort.Below bA a b l.toArray):
  ∃d,qT r ((a:Int),(b:Int),lim,len,(p:Int),l,())=some (.inl d)/\Next a b l d:=by
 have e:=aiE a b p l (by omega) mZ J ab;obtain ⟨jm,ap,d4,ai⟩: ∃jm ap d4,Sort.partition bA l.toArray a b p=(jm,ap,d4):=⟨_,_,_,rfl⟩;obtain ⟨m,rfl⟩: ∃m:aq,d4=m.toArray:=⟨d4.toList,by simp⟩;obtain ⟨s,E,O,aC,ba,bF,dN⟩:=Sort.round_part zW (Sort.partition_holds bA) vl mZ (by simpa using J) di ai;have j6:m.length=l.length:=by simpa using O
 rw[ai]at e;have e:BR ((a:Int),(b:Int),(p:Int),l,())=some ((jm:Int),ap,m,()):=e;have dn:i64.wrap ((jm:Int)-(a:Int))=((jm-a:Nat):Int):=by rw[cI (by omega)];omega
 have de:i64.wrap ((b:Int)-(jm:Int))=((b-jm:Nat):Int):=by rw[cI (by omega)];omega
 have gf:=fO (j:=jm) (by omega);simp only[qT,e,dn,de,gf];by_cases aw:jm-a<b-jm
 ·have c:(((jm-a:Nat):Int)<((b-jm:Nat):Int)):=by omega
  obtain ⟨ar,f1,f2,f3⟩:=au a jm lim m s (by omega) (by omega) (by omega) aC;obtain ⟨bb,aU⟩:=bF ar.toArray f2 f3;rw[am c,ak,f1];have B9:ar.length=l.length:=(PermIn.len f2).trans j6;exact ⟨_,rfl,⟨jm+1,b,_,_,_,ar,rfl,by omega,by omega,B9,bb,by omega,λx ai=>aU x.toArray ai.1 ai.2⟩⟩
 ·have c: ¬(((jm-a:Nat):Int)<((b-jm:Nat):Int)):=by omega
  obtain ⟨ar,f1,f2,f3⟩:=au (jm+1) b lim m (by omega) (by omega) (by omega) (by omega) ba;obtain ⟨bb,aU⟩:=dN ar.toArray f2 f3;rw[bf c,ax,f1];have B9:ar.length=l.length:=(PermIn.len f2).trans j6;exact ⟨_,rfl,⟨a,jm,_,_,_,ar,rfl,by omega,by omega,B9,bb,by omega,λx ai=>aU x.toArray ai.1 ai.2⟩⟩
theorem ajP (r:ud) (a b aY p:Nat) (lim len:Int) (iq wp:Bool) (l:aq) (au:sm r aY) (kn:b-a<=aY) (vl:a<=p) (mZ:p<b) (J:b<=l.length) (ab:l.length<2^62) (di:Sort.Below bA a b l.toArray):
  ∃d,(l3 r ((a:Int),(b:Int),lim,iq,wp,len,(p:Int),l,())=some (.inl d)\/l3 r ((a:Int),(b:Int),lim,iq,wp,len,(p:Int),l,())=some (.inr d))/\Next a b l d:=by
 obtain ⟨d,g1,g2⟩:=ajQ r a b aY p lim len l au kn vl mZ J ab di;by_cases aS:a>0
 ·have c:((a:Int)>0):=by omega
  have dn:i64.wrap ((a:Int)-1)=((a-1:Nat):Int):=by rw[cI (by omega)];omega
  simp only[l3,am c,ak,dn,eE (show a-1<l.length by omega),eE (show p<l.length by omega),bE,mx,mm];cases bd:bA (l.getD (a-1) gk) (l.getD p gk)
  ·have e:=arL a b p l (by omega) mZ J ab;obtain ⟨jm,d4,ai⟩: ∃jm d4,Sort.partitionEqual bA l.toArray a b p=(jm,d4):=⟨_,_,rfl⟩;obtain ⟨m,rfl⟩: ∃m:aq,d4=m.toArray:=⟨d4.toList,by simp⟩;have ij:bA (l.toArray)[a-1]! (l.toArray)[p]! =false:=by rw[gP,gP];exact bd
   obtain ⟨s,E,O,aC,ba⟩:=Sort.round_eq zW (Sort.partitionEqual_holds bA) aS vl mZ (by simpa using J) di ij ai;have j6:m.length=l.length:=by simpa using O
   rw[ai]at e;have e:Bz ((a:Int),(b:Int),(p:Int),l,())=some ((jm:Int),m,()):=e;simp only[pP,cK,ak,e];exact ⟨_,.inr rfl,⟨jm,b,_,_,_,m,rfl,by omega,by omega,j6,aC,by omega,λx ai=>ba x.toArray ai.1 ai.2⟩⟩
  ·simp only[pP,cP,ax,g1];exact ⟨_,.inl rfl,g2⟩
 ·have c: ¬((a:Int)>0):=by omega
  simp only[l3,bf c,ax,pP,g1];exact ⟨_,.inl rfl,g2⟩
def EZ (a b:Nat) (l:aq) (x:Option (Kk⊕(((List (aK))×G)⊕(G)))):Prop:=
 (∃d,x=some (.inl d)/\Next a b l d)\/(∃m,x=some (.inr (.inl (m,())))/\r4 a b l m)
theorem UH (r:ud) (a b aY p:Nat) (lim len hint:Int) (iq wp:Bool) (l:aq) (au:sm r aY) (kn:b-a<=aY) (vl:a<=p) (mZ:p<b) (J:b<=l.length) (ab:l.length<2^62) (di:Sort.Below bA a b l.toArray):
  EZ a b l (Hc r ((a:Int),(b:Int),lim,iq,wp,len,(p:Int),hint,l,())):=by
 have flag: ∀f:Bool,(∃m,ni r ((a:Int),(b:Int),lim,iq,wp,len,(p:Int),f,l,())=some (.inl ((a:Int),(b:Int),lim,iq,wp,len,(p:Int),m,()))/\Sort.PermIn a b l.toArray m.toArray)\/
   (∃m,ni r ((a:Int),(b:Int),lim,iq,wp,len,(p:Int),f,l,())=some (.inr (m,()))/\r4 a b l m):=by
  intro f;cases f with
  |false=>
   left;exact ⟨l,by simp only[ni,ax],Sort.permIn_refl _ a b⟩
  |true=>
   have e:=aq7 a b l (by omega) J ab;obtain ⟨s,E⟩:=Sort.partialInsertionSort_holds (lt:=bA) zW l.toArray a b (by omega) (by simpa using J) di;obtain ⟨I,f2,ai⟩: ∃I f2,Sort.partialInsertionSort bA l.toArray a b=(I,f2):=⟨_,_,rfl⟩;obtain ⟨m,rfl⟩: ∃m:aq,I=m.toArray:=⟨I.toList,by simp⟩;rw[ai]at e s E;have e:Bq ((a:Int),(b:Int),l,())=some (f2,m,()):=e;simp only[ni,ak,e];cases f2 with
   |true=>exact .inr ⟨m,rfl,s,E rfl⟩
   |false=>exact .inl ⟨m,rfl,s⟩
 have go: ∀m,Sort.PermIn a b l.toArray m.toArray-> ∃d,(l3 r ((a:Int),(b:Int),lim,iq,wp,len,(p:Int),m,())=some (.inl d)\/l3 r ((a:Int),(b:Int),lim,iq,wp,len,(p:Int),m,())=some (.inr d))/\Next a b l d:=by intro m hm;have j6:=PermIn.len hm;obtain ⟨d,s,E⟩:=ajP r a b aY p lim len iq wp m au kn vl mZ (by omega) (by omega) (di.perm (by simpa using J) hm);exact ⟨d,s,E.pre hm⟩
 unfold Hc;dsimp only;have fin: ∀f:Bool,EZ a b l (match ni r ((a:Int),(b:Int),lim,iq,wp,len,(p:Int),f,l,()) with
   |none=>none
   |some (.inl aG)=>
    match l3 r (aG.1,aG.2.1,aG.2.2.1,aG.2.2.2.1,aG.2.2.2.2.1,aG.2.2.2.2.2.1,aG.2.2.2.2.2.2.1,aG.2.2.2.2.2.2.2.1,()) with
    |none=>none
    |some (.inl z2)=>
     some (.inl (z2.1,z2.2.1,z2.2.2.1,z2.2.2.2.1,z2.2.2.2.2.1,z2.2.2.2.2.2.1,()))
    |some (.inr z2)=>
     some (.inl (z2.1,z2.2.1,z2.2.2.1,z2.2.2.2.1,z2.2.2.2.2.1,z2.2.2.2.2.2.1,()))
   |some (.inr aG)=>
    some (.inr (.inl (aG.1,())))):=by
  intro f;rcases flag f with ⟨m,e,hm⟩|⟨m,e,hm⟩
  ·rw[e];obtain ⟨d,s |s,E⟩:=go m hm
   ·dsimp only;rw[s];exact .inl ⟨d,rfl,E⟩
   ·dsimp only;rw[s];exact .inl ⟨d,rfl,E⟩
  ·rw[e];exact .inr ⟨m,rfl,hm⟩
 cases iq with
 |false=>exact fin false
 |true=>
  cases wp with
  |false=>exact fin false
  |true=>exact fin _
theorem UG (r:ud) (a b aY:Nat) (lim len:Int) (iq wp:Bool) (l:aq) (au:sm r aY) (kn:b-a<=aY) (gu:a+12<b) (J:b<=l.length) (ab:l.length<2^62) (di:Sort.Below bA a b l.toArray):
  EZ a b l (Hb r ((a:Int),(b:Int),lim,iq,wp,len,l,())):=by
 obtain ⟨p,h,e,s,E⟩:=ais a b l gu J ab;simp only[Hb,e];cases aw:decide (h=2)
 ·simp only[ax];exact UH r a b aY p lim len h iq wp l au kn s E J ab di
 ·have aa:=aq9 a b l (by omega) J ab;have aP:=Sort.reverseRange_holds l.toArray a b (by omega) (by simpa using J);obtain ⟨m,hm⟩: ∃m:aq,Sort.reverseRange l.toArray a b=m.toArray:=⟨(Sort.reverseRange l.toArray a b).toList,by simp⟩;rw[hm]at aa aP;have j6:=PermIn.len aP;have aa:BF ((a:Int),(b:Int),l,())=some (m,()):=aa;have dn:i64.wrap ((b:Int)-1)=((b-1:Nat):Int):=by rw[cI (by omega)];omega
  have de:i64.wrap ((p:Int)-(a:Int))=((p-a:Nat):Int):=by rw[cI (by omega)];omega
  have gf:i64.wrap (((b-1:Nat):Int)-((p-a:Nat):Int))=((b-1-(p-a):Nat):Int):=by rw[cI (by omega)];omega
  simp only[ak,aa,dn,de,gf];have:=UH r a b aY (b-1-(p-a)) lim len 1 iq wp m au kn (by omega) (by omega) (by omega) (by omega) (di.perm (by simpa using J) aP);rcases this with ⟨d,bb,aU⟩|⟨x,bb,aU⟩
  ·exact .inl ⟨d,bb,aU.pre aP⟩
  ·exact .inr ⟨x,bb,Sort.permIn_trans _ _ _ a b aP aU.1,aU.2⟩
theorem ajq (r:ud) (a b aY:Nat) (lim:Int) (iq wp:Bool) (l:aq) (au:sm r aY) (kn:b-a<=aY) (gu:a<=b) (J:b<=l.length) (ab:l.length<2^62) (di:Sort.Below bA a b l.toArray):
  EZ a b l (xE r ((a:Int),(b:Int),lim,iq,wp,l,())):=by
 have hW:i64.wrap ((b:Int)-(a:Int))=((b-a:Nat):Int):=by rw[cI (by omega)];omega
 unfold xE;dsimp only;rw[hW];by_cases ays:b-a<=12
 ·have c:(((b-a:Nat):Int)<=12):=by omega
  rw[am c,ak,apH a b l J ab gu];have:=Sort.insertionSort_holds (lt:=bA) zW l.toArray a b gu (by simpa using J);refine .inr ⟨(Sort.insertionSort bA l.toArray a b).toList,rfl,?_⟩;unfold r4;rw[Array.toArray_toList];exact this
 ·have c: ¬(((b-a:Nat):Int)<=12):=by omega
  rw[bf c,ax];cases ayH:decide (lim=0)
  ·rw[ax];cases iq with
   |true=>
    simp only[cP,ax];exact UG r a b aY lim _ true wp l au kn (by omega) J ab di
   |false=>
    obtain ⟨m,e,aP⟩:=arW a b l (by omega) J ab;have j6:=PermIn.len aP;simp only[cK,ak,e];have:=UG r a b aY (i64.wrap (lim-1)) ((b-a:Nat):Int) false wp m au kn (by omega) (by omega) (by omega) (di.perm (by simpa using J) aP);rcases this with ⟨d,bb,aU⟩|⟨x,bb,aU⟩
    ·exact .inl ⟨d,bb,aU.pre aP⟩
    ·exact .inr ⟨x,bb,Sort.permIn_trans _ _ _ a b aP aU.1,aU.2⟩
  ·rw[ak,ajb a b l (by omega) J ab];have:=Sort.heapSort_holds (lt:=bA) zW l.toArray a b gu (by simpa using J);refine .inr ⟨(Sort.heapSort bA l.toArray a b).toList,rfl,?_⟩;unfold r4;rw[Array.toArray_toList];exact this
theorem aiL (r:ud) (aY:Nat) (au:sm r aY) (kn:aY<2^62):sm (BE r) (aY+1):=by
 intro a b lim l gu J ab aR di;obtain ⟨x,s,m,rfl,E⟩:=kM (b:=xE r) (λq:Nat×Nat×Int×Bool×Bool×aq=>((q.1:Int),(q.2.1:Int),q.2.2.1,q.2.2.2.1,q.2.2.2.2.1,q.2.2.2.2.2,())) (λq=>q.2.1-q.1)
  (λq=>q.1<=q.2.1/\q.2.1<=q.2.2.2.2.2.length/\q.2.2.2.2.2.length<2^62/\q.2.1-q.1<=aY/\Sort.Below bA q.1 q.2.1 q.2.2.2.2.2.toArray)
  (λq x=> ∃m,x=.inl (m,())/\r4 q.1 q.2.1 q.2.2.2.2.2 m)
  (λq aD=>by
   obtain ⟨a,b,lim,iq,wp,l⟩:=q;obtain ⟨s,E,O,aC,ba⟩:=aD;simp only at s E O aC ba;rcases ajq r a b aY lim iq wp l au aC s E O ba with ⟨d,bb,aU⟩|⟨x,bb,aU⟩
   ·left;obtain ⟨bn,bQ,avs,axS,axW,m,rfl,dU,c6,fm,lS,qh,af3⟩:=aU.ex;exact ⟨(bn,bQ,avs,axS,axW,m),bb,⟨dU,c6,by simp only;omega,by simp only;omega,lS⟩,qh,λx ⟨y,bo,ae⟩=>⟨y,bo,af3 y ae⟩⟩
   ·right;exact ⟨_,bb,x,rfl,aU⟩) (a,b,lim,true,true,l) ⟨gu,J,ab,by simp only;omega,di⟩ (by simp only;omega)
 have dq:Hx r ((a:Int),(b:Int),lim,true,true,l,())=some (.inl (m,())):=s;exact ⟨m,by simp only[BE,dq],E⟩
theorem ai6: ∀aY:Nat,aY<2^62-> ∀n,aY<=n->sm (Ho n) aY:=by
 intro aY
 induction aY with
 |zero=>
  intro _ n _ a b lim l _ _ _ h _;omega
 |succ aY aQ=>
  intro kn n aR;obtain ⟨n,rfl⟩: ∃k,n=k+1:=⟨n-1,by omega⟩;exact aiL _ aY (aQ (by omega) n (by omega)) (by omega)
def Uf (l:aq):Prop:=l.Pairwise λa b=>Op.bytesLess b.1 a.1=false
theorem asq (l:aq) (ab:l.length<10^12): ∃m,Hw (l,())=some (m,())/\m.Perm l/\Uf m:=by
 have hu:IntKind.u64.wrap (l.length:Int)=(l.length:Int):=by show (l.length:Int)%2^64=_;omega
 obtain ⟨v,aZ⟩: ∃v,yN ((l.length:Int),())=some (v,()):=by
  by_cases b8:l.length=0
  ·rw[b8];exact ⟨0,by rfl⟩
  ·obtain ⟨v,e,-⟩:=Uz l.length (by omega) b8;exact ⟨_,e⟩
 obtain ⟨m,e,aP,ae⟩:=ai6 (l.length+1) (by omega) kZ (by rw[kN];omega) 0 l.length v l (Nat.zero_le _) (b7 _) (by omega) (by omega) (.inl rfl);have e:R3 ((0:Int),(l.length:Int),v,l,())=some (m,()):=e;have j6:=PermIn.len aP;refine ⟨m,by simp only[Hw,hu,aZ,e],?_,?_⟩
 ·have:=aP.2.2;have L:(m.toArray.extract 0 l.length).toList=m:=by rw[<-j6];simp
  have aa:(l.toArray.extract 0 l.length).toList=l:=by simp
  rw[L,aa]at this;exact this
 ·refine List.pairwise_iff_getElem.2 λi j u an pj=> ?_
  have:=ae i j (Nat.zero_le _) pj (by omega);rw[gP,gP,bW u,bW an]at this;exact this
def bS (x:aK):Bool:= !jw x
theorem NT (x:aK):k8 (x,())=some (!bS x,()):=by rw[DV];unfold bS;simp
def dW (ar:aq) (x:b5):Bool:=ar.any λd=>b9 d x.1
theorem aqs (cr:aq) (p:aK) (ab:cr.length<=10^17):BI (cr,p,())=some (cr.any (λw=>ke w p),cr,p,()):=by
 obtain ⟨z,s,E⟩:=dM (b:=BL) (λi (_:G)=>((cr.length:Int),(i:Int),cr,p,())) cr.length (λi _=>(cr.take i).any (λw=>ke w p)=false) (λz=>(z=.inr (cr,p,())/\cr.any (λw=>ke w p)=false)\/(∃i:Nat,z=.inl ((i:Int),cr,p,())/\cr.any (λw=>ke w p)=true)) (by omega)
  (λi u _ aD=>by
   have L:=fe (i:=i) (l:=cr) (by omega);have aa:=dZ i;have a1:=e1 i (by omega);simp only[BL,L,aa,ak,bM,bE,bW u,SB,Fe,DV,NK,Bool.not_not,a1];cases h:ke cr[i] p
   ·refine .inl ⟨(),?_,rfl⟩;rw[eY u,List.any_append,aD];simp[h]
   ·exact .inr ⟨_,.inr ⟨i,rfl,List.any_eq_true.2 ⟨_,dz u,h⟩⟩,rfl⟩)
  (λ_ aD=>by have L:=ga cr;rw[eM]at aD;exact ⟨_,.inl ⟨rfl,aD⟩,by simp only[BL,L,ax]⟩) () rfl
 have dq:P1 ((cr.length:Int),0,cr,p,())=some z:=s;rcases E with ⟨rfl,O⟩|⟨i,rfl,O⟩
 ·simp only[BI,G6,dq,O];rfl
 ·have e:(decide ((i:Int)>=(0:Int)))=true:=am (by omega);simp only[BI,G6,dq,O,e]
theorem aqr (cr:aq) (p:b5) (ab:cr.length<=10^17):ce (cr,p,())=some (cr.any (λw=>b9 w p.1),p,()):=by
 obtain ⟨z,s,E⟩:=dM (b:=BK) (λi (_:G)=>(cr,(cr.length:Int),(i:Int),p,())) cr.length (λi _=>(cr.take i).any (λw=>b9 w p.1)=false) (λz=>(z=.inr (p,())/\cr.any (λw=>b9 w p.1)=false)\/(∃i:Nat,z=.inl ((i:Int),p,())/\cr.any (λw=>b9 w p.1)=true)) (by omega)
  (λi u _ aD=>by
   have L:=fe (i:=i) (l:=cr) (by omega);have aa:=dZ i;have a1:=e1 i (by omega);simp only[BK,L,aa,ak,bM,bE,bW u,TB,F8,a1];cases h:b9 cr[i] p.1
   ·refine .inl ⟨(),?_,rfl⟩;rw[eY u,List.any_append,aD];simp[h]
   ·exact .inr ⟨_,.inr ⟨i,rfl,List.any_eq_true.2 ⟨_,dz u,h⟩⟩,rfl⟩)
  (λ_ aD=>by have L:=ga cr;rw[eM]at aD;exact ⟨_,.inl ⟨rfl,aD⟩,by simp only[BK,L,ax]⟩) () rfl
 have dq:P0 (cr,(cr.length:Int),0,p,())=some z:=s;rcases E with ⟨rfl,O⟩|⟨i,rfl,O⟩
 ·simp only[ce,G5,dq,O];rfl
 ·have e:(decide ((i:Int)>=(0:Int)))=true:=am (by omega);simp only[ce,G5,dq,O,e]
theorem Nr (x:b5) (ar:aq) (k9:ar.length<=10^17):DO (x,ar,())=some (!dW ar x,ar,()):=by simp only[DO,aqr ar x k9];rfl
theorem ajd (l:aq) (ab:l.length<=10^12):
  (xy (l,())=some ((-1:Int),l,())/\l.filter bS=l)\/ ∃i:Nat,i<l.length/\xy (l,())=some ((i:Int),l,())/\(l.take (i+1)).filter bS=l.take i:=by
 obtain ⟨z,s,E⟩:=dM (b:=ci) (λi (_:G)=>((l.length:Int),(i:Int),l,())) l.length (λi _=>(l.take i).filter bS=l.take i) (λz=>(z=.inr (l,())/\l.filter bS=l)\/(∃i:Nat,i<l.length/\z=.inl ((i:Int),l,())/\(l.take (i+1)).filter bS=l.take i)) (by omega)
  (λi u _ aD=>by
   have L:=fe (i:=i) (l:=l) (by omega);have aa:=dZ i;have a1:=e1 i (by omega);simp only[ci,L,aa,ak,bM,bE,bW u,NT,Bool.not_not,a1];cases aT:bS l[i]
   ·refine .inr ⟨_,.inr ⟨i,u,rfl,?_⟩,rfl⟩;rw[eY u,List.filter_append,aD];simp[aT]
   ·refine .inl ⟨(),?_,rfl⟩;rw[eY u,List.filter_append,aD];simp[aT])
  (λ_ aD=>by have L:=ga l;rw[eM]at aD;exact ⟨_,.inl ⟨rfl,aD⟩,by simp only[ci,L,ax]⟩) () rfl
 have dq:PZ ((l.length:Int),0,l,())=some z:=s;rcases E with ⟨rfl,O⟩|⟨i,u,rfl,O⟩
 ·exact .inl ⟨by simp only[xy,dq],O⟩
 ·exact .inr ⟨i,u,by simp only[xy,dq],O⟩
end D
