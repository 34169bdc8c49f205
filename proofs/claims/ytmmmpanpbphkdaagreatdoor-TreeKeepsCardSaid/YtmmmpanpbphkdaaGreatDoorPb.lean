import Derived.Test.YtmmmpanpbphkdaaGreatDoorPa
set_option linter.unusedVariables false
set_option linter.unusedSimpArgs false
set_option maxRecDepth 100000
open Go Go.X
open Go.IntKind (i64)
namespace D
open Go
open Go
theorem GQ: ∀{a b:aj},cO bT a->cO bT b->(∀x,x∈a↔x∈b)->a=b
 |[],[],_,_,_=>rfl
 |[],y::b,_,_,h=>by have:=(h y).2 gI;cases this
 |x::a,[],_,_,h=>by have:=(h x).1 gI;cases this
 |x::a,y::b,aV,L,h=>by
  have s9:x=y:=by
   rcases e7.1 ((h x).1 gI) with e |e
   ·exact e
   ·rcases e7.1 ((h y).2 gI) with V |V
    ·exact V.symm
    ·have q:=L.head x e;have G:=aV.head y V;have:=gK q G;rw[iC]at this;cases this
  subst s9;congr 1;refine GQ aV.tail L.tail (λz=> ?_);have bI:=h z;constructor
  ·intro IF;rcases e7.1 (bI.1 (gU _ IF)) with e |e
   ·subst e;have:=aV.head z IF;rw[iC]at this;cases this
   ·exact e
  ·intro yv;rcases e7.1 (bI.2 (gU _ yv)) with e |e
   ·subst e;have:=L.head z yv;rw[iC]at this;cases this
   ·exact e
theorem aiZ {acc:aj} {p x:ck}:x∈kF acc p↔x=p\/(x∈acc/\x.1≠p.1):=by
 unfold kF;rw[AU];constructor
 ·rintro (h |h)
  ·exact .inl h
  ·have:=e8.1 h;exact .inr ⟨this.1,by simpa using this.2⟩
 ·rintro (h |⟨q,G⟩)
  ·exact .inl h
  ·exact .inr (e8.2 ⟨q,by simpa using G⟩)
theorem Dx: ∀{l base:aj},(∀p∈l,ha (key:=bT) p.1 base=false)->l.Pairwise (λa b=>a.1≠b.1)-> ∀x,x∈ke base l↔x∈base\/x∈l
 |[],base,_,_,x=>by simp[ke]
 |p::l,base,q,G,x=>by
  have hw:iw bT p.1 base=base:=Gu _ _ (q p gI);have aT:kF base p=hY bT p base:=by unfold kF;rw[hw]
  have ab:=List.pairwise_cons.1 G;have aR:=Dx (l:=l) (base:=kF base p) (λs aN=>by rw[aT];exact asF (ab.1 s aN) (q s (gU _ aN))) ab.2 x
  show x∈ke (kF base p) l↔_;rw[aR,aT,AU,e7];constructor
  ·rintro ((h |h)|h)
   ·exact .inr (.inl h)
   ·exact .inl h
   ·exact .inr (.inr h)
  ·rintro (h |h |h)
   ·exact .inl (.inr h)
   ·exact .inl (.inl h)
   ·exact .inr h
theorem F3 {α:Type} {P bA:List α} {x I:α} {i:Nat} (h:P.length=i):List.getD (P++x::bA) i I=x:=by subst h;simp[List.getD]
theorem acX {out a b:aj} {x y:ck} (q:cO bT (out++x::a)) (G:cO bT (out++y::b)) (bu:Op.bytesLess x.1 y.1=true):cO bT (out++[x]++y::b):=by
 unfold cO at q G ⊢;rw[List.pairwise_append]at q G;rw[List.append_assoc,List.pairwise_append];refine ⟨q.1,?_,?_⟩
 ·show List.Pairwise _ (x::y::b);refine List.pairwise_cons.2 ⟨λz bI=> ?_,G.2.1⟩;rcases e7.1 bI with rfl |bI
  ·exact bu
  ·exact gK bu ((List.pairwise_cons.1 G.2.1).1 z bI)
 ·intro ae hu z bI;rcases e7.1 bI with rfl |bI
  ·exact q.2.2 ae hu _ gI
  ·exact G.2.2 ae hu z bI
theorem ajt (a b:aj) (aV:cO bT a) (L:cO bT b) (ao: ∀p∈a,∀s∈b,p.1≠s.1) (ad:a.length+b.length<10^12):
  ∃r,FC (a,b,())=some (r,())/\cO bT r/\ ∀x,x∈r↔x∈a\/x∈b:=by
 obtain ⟨r,q,G⟩:=ab8 (b:=yW) (λd=>d.1.length+d.2.1.length)
  (λd=> ∃bs bX out:aj,d=(bs,bX,out,())/\cO bT (out++bs)/\cO bT (out++bX)/\(∀p∈bs,∀s∈bX,p.1≠s.1)/\(∀x,(x∈out\/x∈bs\/x∈bX)↔x∈a\/x∈b)/\out.length+bs.length+bX.length=a.length+b.length)
  (λr=> ∃bs bX out:aj,r=.inl (bs,bX,out,())/\cO bT (out++bs++bX)/\(∀x,(x∈out\/x∈bs\/x∈bX)↔x∈a\/x∈b)/\out.length+bs.length+bX.length=a.length+b.length)
  (λd ah=>by
   obtain ⟨bs,bX,out,rfl,s1,s2,ld,hm,hlen⟩:=ah;cases bs with
   |nil=>
    right;refine ⟨.inl ([],bX,out,()),?_,[],bX,out,rfl,by simpa using s2,hm,hlen⟩;unfold yW Di;have:decide ((([]:aj).length:Int)=0)=true:=fm;simp only[this,cL,ay,an]
   |cons x bs=>
    cases bX with
    |nil=>
     right;refine ⟨.inl (x::bs,[],out,()),?_,x::bs,[],out,rfl,by simpa using s1,hm,hlen⟩;unfold yW Di;have d1:decide (((x::bs).length:Int)=0)=false:=bm (by simp;omega);have d2:decide ((([]:aj).length:Int)=0)=true:=fm;simp only[d1,d2,cU,an]
    |cons y bX=>
     left;have d1:decide (((x::bs).length:Int)=0)=false:=bm (by simp;omega);have d2:decide (((y::bX).length:Int)=0)=false:=bm (by simp;omega);have d3:((0:Int)<((x::bs).length:Int)):=aU;have d4:((0:Int)<((y::bX).length:Int)):=aU;have d5:((1:Int)<=((x::bs).length:Int)):=by simp;omega
     have d6:((1:Int)<=((y::bX).length:Int)):=by simp;omega
     have g1:List.getD (x::bs) 0 (([]:N),(([]:N),((0:Int),())))=x:=rfl;have g2:List.getD (y::bX) 0 (([]:N),(([]:N),((0:Int),())))=y:=rfl;have M:List.drop (Int.toNat 1) (x::bs)=bs:=rfl;have V:List.drop (Int.toNat 1) (y::bX)=bX:=rfl;have azE:out.length<10^12:=by simp at hlen;omega
     have room: ∀s:ck,(out.length+([s]:aj).length)*40<=am:=λs=>by rw[ey];simp;omega
     have cw:x.1≠y.1:=ld x gI y gI;unfold yW Di;simp only[d1,d2,cU,an,ay,d3,d4,d5,aX,g1,g2,room,Int.le_refl,bN,bE,ew,M];cases bu:Op.bytesLess x.1 y.1
     ·have p4:Op.bytesLess y.1 x.1=true:=by
       rcases ih x.1 y.1 with h |h |h
       ·rw[h]at bu;cases bu
       ·exact absurd h cw
       ·exact h
      unfold Ti;simp only[bm cw,ay,d4,d6,aX,an,g2,room,Int.le_refl,bN,bE,ew,V];refine ⟨_,rfl,⟨x::bs,bX,out++[y],rfl,acX s2 s1 p4,by simpa using s2,λp aT s aN=>ld p aT s (gU _ aN),λz=> ?_,by simp at hlen ⊢;omega⟩,aU⟩;rw[<-hm z];simp only[dp,e7,List.mem_nil_iff,or_false];constructor
      ·rintro ((h |h)|(h |h)|h)<;>simp[h]
      ·rintro (h |(h |h)|(h |h))<;>simp[h]
     ·simp only[an];refine ⟨_,rfl,⟨bs,y::bX,out++[x],rfl,by simpa using s1,acX s1 s2 bu,λp aT s aN=>ld p (gU _ aT) s aN,λz=> ?_,by simp at hlen ⊢;omega⟩,aU⟩;rw[<-hm z];simp only[dp,e7,List.mem_nil_iff,or_false];constructor
      ·rintro ((h |h)|h |(h |h))<;>simp[h]
      ·rintro (h |(h |h)|(h |h))<;>simp[h])
  (a,b,[],()) ⟨a,b,[],rfl,by simpa using aV,by simpa using L,ao,by intro x;simp,aU⟩ (by simp;omega)
 obtain ⟨bs,bX,out,rfl,ah,hm,hlen⟩:=G;have w:i64.wrap ((a.length:Int)+(b.length:Int))=((a.length+b.length:Nat):Int):=by rw[cR u];omega
 have bh:((0:Int)<=((a.length+b.length:Nat):Int)):=u;have ba:(((a.length+b.length:Nat):Int)*40<=(am:Int)):=by rw[ey];omega
 have c3:(out.length+bs.length)*40<=am:=by rw[ey];omega
 have ga:((out++bs).length+bX.length)*40<=am:=by rw[ey,eF];omega
 refine ⟨out++bs++bX,?_,ah,λx=> ?_⟩
 ·unfold FC L6;simp only[w,bh,ba,Int.le_refl,ca,cJ,aX,bN,an,List.replicate_zero,q,c3,ga]
 ·rw[<-hm x];simp only[dp];constructor
  ·rintro ((h |h)|h)<;>simp[h]
  ·rintro (h |h |h)<;>simp[h]
theorem arj (t:aj) (f ae:N) {S:aL} (aM:u4 f S) (ah:cO bT t) (ad:t.length<10^12) (af: ∀p∈t,ae.length+p.1.length<10^12):
  F6 (t,f,ae,())=some ((t.filter λx=>b7 x.1 f).map (hW f ae),()):=by
 have e:(t.filter λx=>ch S x.1)=t.filter λx=>b7 x.1 f:=by apply List.filter_congr;intro x _;exact aM.has _
 have de:=h0 (λx:ck=>b7 x.1 f) t;have afe:=as0 t S aM.ok ah u;rw[e]at afe;have lk: ∀p∈t.filter (λx=>b7 x.1 f),b7 p.1 f=true/\ae.length+p.1.length<10^12:=λp aT=>⟨(e8.1 aT).2,af p (e8.1 aT).1⟩
 generalize t.filter (λx=>b7 x.1 f)=src at*;obtain ⟨r,q,G⟩:=dG (b:=zd) (λi (o:aj)=>(f,ae,(src.length:Int),(i:Int),o,())) src.length (λi o=>o=(src.take i).map (hW f ae)++src.drop i)
  (λr=>r=.inl (src.map (hW f ae),())) u
  (λi E o W=>by
   left;have ao:src.drop i=src[i]::src.drop (i+1):=lZ E;have hlen:((src.take i).map (hW f ae)).length=i:=by rw[List.length_map,ev];omega
   have oC:o.length=src.length:=by rw[W,eF,hlen,List.length_drop];omega
   have bh:((i:Int)<(src.length:Int)):=u;have ba:((0:Int)<=(i:Int)):=u;have bC:o.getD i (([]:N),(([]:N),((0:Int),())))=src[i]:=by rw[W,ao];exact F3 hlen
   have w:=e6 i u;obtain ⟨M,V⟩:=lk _ (dI E);have hm:=OI (src[i]).1 f ae V;rw[M,an]at hm;refine ⟨_,rfl,?_⟩;have lj:o.set i (hW f ae src[i])=(src.take (i+1)).map (hW f ae)++src.drop (i+1):=by rw[W,ao,eK E,List.map_append,List.append_assoc];rw[List.set_append_right _ _ u,hlen,Nat.sub_self];rfl
   rw[<-lj];unfold zd;simp only[oC,bh,ba,aX,an,bN,bE,bC,w,hm];rfl)
  (λo W=>by have bh: ¬((src.length:Int)<(src.length:Int)):=u;rw[ew,List.drop_length,List.append_nil]at W;subst W;refine ⟨_,rfl,?_⟩;unfold zd;simp only[bh,bm,ay,not_false_eq_true]) src aU
 subst G;have q:b6 zd (f,ae,(src.length:Int),(0:Int),src,())=_:=q;unfold F6 Na;simp only[aM.pre,afe,F1 src u,q]
theorem aks {m:bH} {t:aj} (ah:cO bT t):cO bT ((hK m t).map (hW m.2.2.2.2.1 m.2.2.2.2.2.1)):=by unfold cO;rw[List.pairwise_map];have h:cO bT (hK m t):=List.Pairwise.filter _ ah;refine List.Pairwise.imp_of_mem (λ{a b} aV L gz=> ?_) h;obtain ⟨r,ar⟩:=kb.1 (e8.1 aV).2;obtain ⟨d,ah⟩:=kb.1 (e8.1 L).2;have gz:Op.bytesLess a.1 b.1=true:=gz;show Op.bytesLess (fZ _ _ a.1) (fZ _ _ b.1)=true;rw[ar,ah,nP]at gz;rw[ar,ah,lp,lp,nP];exact gz
theorem abk (t:aj) (p:N) {S:aL} (aT:u4 p S) (ah:cO bT t) (ad:t.length<10^12):tO (t,S,())=some (t.filter (λx=> !b7 x.1 p),()):=by rw[OX t _ aT.ok ah ad];congr 2;apply List.filter_congr;intro x _;rw[aT.has]
theorem abS (t:aj) (m:bH) {S KV:aL} (aM:u4 m.2.2.2.2.1 S) (aW:u4 m.2.2.2.2.2.1 KV) (ah:cO bT t) (ad:t.length<10^11) (af: ∀p∈t,m.2.2.2.2.2.1.length+p.1.length<10^12):
  Ds (m,t,())=some (ke (t.filter λx=> !b7 x.1 m.2.2.2.2.2.1) ((hK m t).map (hW m.2.2.2.2.1 m.2.2.2.2.2.1)),()):=by
 have dy:=h0 (λx:ck=> !b7 x.1 m.2.2.2.2.2.1) t;have de:(hK m t).length<=t.length:=h0 _ _;have ed: ∀p∈(hK m t).map (hW m.2.2.2.2.1 m.2.2.2.2.2.1),ha (key:=bT) p.1 (t.filter λx=> !b7 x.1 m.2.2.2.2.2.1)=false:=by intro p aT;obtain ⟨s,aN,rfl⟩:=List.mem_map.1 aT;unfold ha;rw[List.any_eq_false];intro b L;have q:=(e8.1 L).2;intro e;have e:b.1=fZ m.2.2.2.2.1 m.2.2.2.2.2.1 s.1:=of_decide_eq_true e;rw[e,uX]at q;cases q
 have auH: ∀p∈t.filter (λx=> !b7 x.1 m.2.2.2.2.2.1),∀s∈(hK m t).map (hW m.2.2.2.2.1 m.2.2.2.2.2.1),p.1≠s.1:=by intro p aT s aN e;have:=ed s aN;unfold ha at this;rw[List.any_eq_false]at this;exact this p aT (decide_eq_true e)
 obtain ⟨r,M,V,a1⟩:=ajt (t.filter λx=> !b7 x.1 m.2.2.2.2.2.1) ((hK m t).map (hW m.2.2.2.2.1 m.2.2.2.2.2.1)) (List.Pairwise.filter _ ah) (aks ah) auH (by rw[List.length_map];omega);have ar:r=ke (t.filter λx=> !b7 x.1 m.2.2.2.2.2.1) ((hK m t).map (hW m.2.2.2.2.1 m.2.2.2.2.2.1)):=
  GQ V (Ao _ _ (List.Pairwise.filter _ ah)) (λx=>by rw[a1 x,Dx ed (Gw ah)])
 have hm:=arj t m.2.2.2.2.1 m.2.2.2.2.2.1 aM ah u af;unfold hK at M;unfold Ds;simp only[aW.pre,abk t _ aW ah u,hm,M,ar]
theorem ai2 (t:aj) (m:bH) {S KV:aL} (rK:u4 m.2.2.2.2.1 S) (tE:u4 m.2.2.2.2.2.1 KV) (pY: ∀k,b7 k m.2.2.2.2.2.1=true->b7 k m.2.2.2.2.1=false) (aE:m.1=4) (ah:cO bT t) (ad:t.length<10^11) (af: ∀p∈t,m.2.2.2.2.2.1.length+p.1.length<10^12):
  JK (m,t,())=some (qK m t,()):=by
 have dy:=h0 (λx:ck=> !b7 x.1 m.2.2.2.2.2.1) t;have de:(hK m t).length<=t.length:=h0 _ _;have aw:=abS t m rK tE ah ad af;have L:jI m t=(t.filter λx=> !b7 x.1 m.2.2.2.2.2.1).filter λx=> !b7 x.1 m.2.2.2.2.1:=by unfold jI;rw[aX aE];rfl
 have ed: ∀p∈(hK m t).map (hW m.2.2.2.2.1 m.2.2.2.2.2.1),ha (key:=bT) p.1 (t.filter λx=> !b7 x.1 m.2.2.2.2.2.1)=false:=by intro p aT;obtain ⟨s,aN,rfl⟩:=List.mem_map.1 aT;unfold ha;rw[List.any_eq_false];intro b L;have q:=(e8.1 L).2;intro e;have e:b.1=fZ m.2.2.2.2.1 m.2.2.2.2.2.1 s.1:=of_decide_eq_true e;rw[e,uX]at q;cases q
 have lR:=Ao ((hK m t).map (hW m.2.2.2.2.1 m.2.2.2.2.2.1)) (t.filter λx=> !b7 x.1 m.2.2.2.2.2.1) (List.Pairwise.filter _ ah);have hlen:=FE ((hK m t).map (hW m.2.2.2.2.1 m.2.2.2.2.2.1)) (t.filter λx=> !b7 x.1 m.2.2.2.2.2.1);rw[List.length_map]at hlen;have ao:=abk (ke (t.filter λx=> !b7 x.1 m.2.2.2.2.2.1) ((hK m t).map (hW m.2.2.2.2.1 m.2.2.2.2.2.1))) m.2.2.2.2.1 rK lR u;have he:(ke (t.filter λx=> !b7 x.1 m.2.2.2.2.2.1) ((hK m t).map (hW m.2.2.2.2.1 m.2.2.2.2.2.1))).filter (λx=> !b7 x.1 m.2.2.2.2.1)=qK m t:=by
  refine GQ (List.Pairwise.filter _ lR) (adm ah) (λx=> ?_);unfold qK;rw[e8,Dx ed (Gw ah),Dx acq (Gw ah),L];constructor
  ·rintro ⟨q |q,G⟩
   ·exact Or.inl (e8.2 ⟨q,G⟩)
   ·exact Or.inr q
  ·rintro (h |q)
   ·obtain ⟨q,G⟩:=e8.1 h;exact ⟨Or.inl q,G⟩
   ·refine ⟨.inr q,?_⟩;obtain ⟨s,aN,rfl⟩:=List.mem_map.1 q;have:b7 (fZ m.2.2.2.2.1 m.2.2.2.2.2.1 s.1) m.2.2.2.2.1=false:=pY _ uX;show (!b7 (fZ m.2.2.2.2.1 m.2.2.2.2.2.1 s.1) m.2.2.2.2.1)=true;rw[this];rfl
 unfold JK;simp only[aw,rK.pre,ao,he]
def iu (m:bH) (p:ck):ck:=bif ch m.2.2.2.1 p.1 then (p.1,p.2.1,m.2.2.2.2.2.2.1,p.2.2.2) else p
theorem ai4 (t:aj) (m:bH) (ad:t.length<10^12):YA ((0:Int),m,t,())=some (.inl (t.map (iu m),())):=by
 obtain ⟨r,q,G⟩:=dG (b:=JU) (λi (o:aj)=>((i:Int),m,o,())) t.length (λi o=>o=(t.take i).map (iu m)++t.drop i)
  (λr=>r=.inl (t.map (iu m),())) u
  (λi E o W=>by
   left;have ao:t.drop i=t[i]::t.drop (i+1):=lZ E;have hlen:((t.take i).map (iu m)).length=i:=by rw[List.length_map,ev];omega
   have oC:o.length=t.length:=by rw[W,eF,hlen,List.length_drop];omega
   have bh:((i:Int)<(t.length:Int)):=u;have ba:((0:Int)<=(i:Int)):=u;have bC:o.getD i (([]:N),(([]:N),((0:Int),())))=t[i]:=by rw[W,ao];exact F3 hlen
   have w:=e6 i u;have lj: ∀s,o.set i s=(t.take i).map (iu m)++s::t.drop (i+1):=by intro s;rw[W,ao,List.set_append_right _ _ u,hlen,Nat.sub_self];rfl
   have gE:(t.take (i+1)).map (iu m)++t.drop (i+1)=(t.take i).map (iu m)++iu m t[i]::t.drop (i+1):=by rw[eK E,List.map_append,List.append_assoc];rfl
   refine ⟨_,rfl,?_⟩;rw[gE];unfold JU iu;simp only[oC,bh,ba,aX,an,bN,bE,bC,w,Pv,lj];cases bg:ch m.2.2.2.1 (t[i]).1
   ·simp only[ay];rw[W,ao];rfl
   ·simp only[an];rfl)
  (λo W=>by
   have oC:o.length=t.length:=by rw[W,eF,List.length_map,ev,List.length_drop];omega
   have bh: ¬((t.length:Int)<(t.length:Int)):=u;rw[ew,List.drop_length,List.append_nil]at W;subst W;refine ⟨_,rfl,?_⟩;unfold JU;simp only[oC,bh,bm,ay,not_false_eq_true]) t aU
 subst G;exact q
theorem ac5 (d:aL) (k:N):pz (d,k,())=some (ch d k,()):=by have:=Pv d k;unfold AI at this;unfold pz;exact this
theorem ai3 (t:aj) (m:bH) (ad:t.length<10^12):Tc ((t.length:Int),(0:Int),m,t,())=some (.inl (t.map (iu m),())):=by
 obtain ⟨r,q,G⟩:=dG (b:=Dd) (λi (o:aj)=>((t.length:Int),(i:Int),m,o,())) t.length (λi o=>o=(t.take i).map (iu m)++t.drop i)
  (λr=>r=.inl (t.map (iu m),())) u
  (λi E o W=>by
   left;have ao:t.drop i=t[i]::t.drop (i+1):=lZ E;have hlen:((t.take i).map (iu m)).length=i:=by rw[List.length_map,ev];omega
   have oC:o.length=t.length:=by rw[W,eF,hlen,List.length_drop];omega
   have bh:((i:Int)<(t.length:Int)):=u;have ba:((0:Int)<=(i:Int)):=u;have bC:o.getD i (([]:N),(([]:N),((0:Int),())))=t[i]:=by rw[W,ao];exact F3 hlen
   have w:=e6 i u;have lj: ∀s,o.set i s=(t.take i).map (iu m)++s::t.drop (i+1):=by intro s;rw[W,ao,List.set_append_right _ _ u,hlen,Nat.sub_self];rfl
   have gE:(t.take (i+1)).map (iu m)++t.drop (i+1)=(t.take i).map (iu m)++iu m t[i]::t.drop (i+1):=by rw[eK E,List.map_append,List.append_assoc];rfl
   refine ⟨_,rfl,?_⟩;rw[gE];unfold Dd iu;simp only[oC,bh,ba,aX,an,bN,bE,bC,w,ac5,lj];cases bg:ch m.2.2.2.1 (t[i]).1
   ·simp only[ay];rw[W,ao];rfl
   ·simp only[an];rfl)
  (λo W=>by have bh: ¬((t.length:Int)<(t.length:Int)):=u;rw[ew,List.drop_length,List.append_nil]at W;refine ⟨_,rfl,?_⟩;unfold Dd;simp only[bh,bm,ay,not_false_eq_true,W]) t aU
 subst G;exact q
def apM (t:aj) (m:bH):aj:=
 if m.1=1 then kF t (m.2.1,m.2.2.1,m.2.2.2.2.2.2.1,())
 else if m.1=2 then t.filter λp=> !ch (m.2.1,m.2.1++[0],()) p.1
 else if m.1=3 then t.filter λp=> !ch m.2.2.2.1 p.1
 else if m.1=6 then t.map (iu m)
 else qK m t
theorem akw (k:N) (h:k.length<10^12):oL (k,())=some ((k,k++[0],()),())/\qq (k,())=some ((k,k++[0],()),()):=by
 unfold oL qq;have:k.length+([0]:N).length<=am:=by rw[ey];simp;omega
 simp only[this,aX,an,and_self]
theorem adp (d:aL):(λp:ck=> !([d]:au).any (λd=>ch d p.1))=λp=> !ch d p.1:=by
 funext p
 simp
theorem OS (t:aj) (m:bH) (hm:ig m) (ah:cO bT t) (ad:t.length<10^11) (af: ∀p∈t,p.1.length<1000):
  qk (t,m,())=some (apM t m,())/\tz (t,m,())=some (apM t m,()):=by
 have awj:m.1=1\/m.1=2->m.2.1.length<10^12:=λh=>by have hlen:jF.all (λk=>decide (k.length<100))=true:=aC;have:=of_decide_eq_true (fC.1 hlen _ (hm.key h));omega
 have room:(([]:aj).length+t.length)*40<=am:=by rw[ey];simp;omega
 by_cases q:m.1=1
 ·have d1:decide (m.1=1)=true:=aX q;have M:=a20 t (m.2.1,m.2.2.1,m.2.2.2.2.2.2.1,()) ah u;have V:=abw t (m.2.1,m.2.2.1,m.2.2.2.2.2.2.1,()) ah u;unfold qk tz Mn apM;rw[if_pos q];simp only[d1,an,M,V];exact ⟨trivial,rfl⟩
 ·have d1:decide (m.1=1)=false:=bm q;by_cases G:m.1=2
  ·have d2:decide (m.1=2)=true:=aX G;obtain ⟨fH,jJ⟩:=akw m.2.1 (awj (.inr G));have M:=OX t (m.2.1,m.2.1++[0],()) (.inr (U4 _)) ah u;have V:=NZ t [(m.2.1,m.2.1++[0],())] u aU;rw[adp]at V;unfold qk tz Mi OQ apM;rw[if_neg q,if_pos G];simp only[d1,d2,an,ay,fH,jJ,M,V,and_self]
  ·have d2:decide (m.1=2)=false:=bm G;by_cases ab:m.1=3
   ·have d3:decide (m.1=3)=true:=aX ab;have M:=OX t m.2.2.2.1 (hm.span (.inl ab)) ah u;have V:=NZ t [m.2.2.2.1] u aU;rw[adp]at V;unfold qk tz Lv apM;rw[if_neg q,if_neg G,if_pos ab];simp only[d1,d2,d3,an,ay,M,V,and_self]
   ·have d3:decide (m.1=3)=false:=bm ab;by_cases bF:m.1=6
    ·have d6:decide (m.1=6)=true:=aX bF;have d4:decide (m.1=4)=false:=bm (by rw[bF];decide);have d5:decide (m.1=5)=false:=bm (by rw[bF];decide);have M:=ai3 t m u;have V:=ai4 t m u;unfold qk tz TM apM;rw[if_neg q,if_neg G,if_neg ab,if_pos bF];simp only[d1,d2,d3,d4,d5,d6,an,ay,F1 t (show t.length<10^12 by omega),M,room,aX,List.nil_append,V,and_self]
    ·have nG:II m:=by
      rcases hm.kind with h |h |h |h |h |h
      ·exact absurd h q
      ·exact absurd h G
      ·exact absurd h ab
      ·exact .inl h
      ·exact .inr h
      ·exact absurd h bF
     have W:wM m:=⟨nG,hm.from_ nG,hm.to_ nG,(hm.apart nG).1,(hm.apart nG).2⟩;have rK:=acm (na _ W.from_);have tE:=acm (na _ W.to_);have hlen:fc.all (λp=>decide (p.length<=4))=true:=aC;have lt:=of_decide_eq_true (fC.1 hlen _ W.to_);have hU: ∀p∈t,m.2.2.2.2.2.1.length+p.1.length<10^12:=λp aT=>by have:=af p aT;omega
     have V:=ase t m nG rK tE ah ad hU;have pY:apM t m=qK m t:=by unfold apM;rw[if_neg q,if_neg G,if_neg ab,if_neg bF]
     rw[pY];refine ⟨?_,V⟩;unfold qk;simp only[d1,d2,d3,ay];rcases nG with aE |bf
     ·simp only[aX aE,an,ai2 t m rK.o tE.o (λk af=>W.not_both2 af) aE ah ad hU]
     ·have d4:decide (m.1=4)=false:=bm (by rw[bf];decide);have L:jI m t=t.filter λx=> !b7 x.1 m.2.2.2.2.2.1:=by unfold jI;rw[d4];rfl
      have:=abS t m rK.o tE.o ah ad hU;rw[<-L]at this;simp only[d4,ay,aX bf,an,this];rfl
abbrev cW:iM:=(false,(false,((0:Int),((([]:List (ck)),(([]:bo),(([]:List (Int)),(([]:List (eR)),(([]:List (bH)),()))))),()))))
theorem J7 (p:b9) (h:p.length<=10^5):zD ((p,()),())=some (p,()):=by
 have M:(decide ((0:Int)<=((p.length):Int))&&decide ((((p.length):Int):Int)<=((p.length):Int))&&decide (((p.length):Int)*(136:Int)<=(am:Int)))=true:=by rw[aX u,aX (Int.le_refl _),aX (by rw[ey];omega)];rfl
 simp only[zD,M,an,bE,List.length_replicate,ew,List.take_zero,List.nil_append];have:List.drop (0+p.length) (List.replicate p.length cW)=[]:=aU;rw[this,List.append_nil]
theorem aq2 {p:b9} {i:Nat} (h:i<p.length):mt ((p,()),(i:Int),())=some (p[i].1,()):=by have bh:bG ((i:Int)>=(0:Int)):=aX u;have ba:bG ((i:Int)<((p.length):Int)):=aX u;have c3:=dR i;simp only[mt,bh,ba,c3,an,bN,bE,b5 h]
def iH (a b:N):Bool:= !decide (a=[])&&(decide (b=[])||Op.bytesLess a b)
def kd (a b:N):N:=bif iH b a then b else a
def k1 (a b:N):N:=bif !(Op.bytesLess a b) then a else b
def jC (d:aL):Bool:= !decide (d.2.1=[])&&(Op.bytesLess d.2.1 d.1||decide (d.2.1=d.1))
theorem asN (a b:N):qg (a,b,())=some (iH a b,()):=by simp only[qg,iH];cases decide (a=[])<;>cases decide (b=[])<;>rfl
theorem arQ (d:aL):mZ (d,())=some (jC d,()):=by simp only[mZ,jC];cases decide (d.2.1=[])<;>rfl
theorem Ec (d:aL):la (d,())=some (jC d,()):=by simp only[la,jC];cases decide (d.2.1=[])<;>rfl
def kh (a b:aL):Bool:= !jC (k1 a.1 b.1,(kd a.2.1 b.2.1,()))
def hJ (a b:aL):aL:=bif kh a b then (k1 a.1 b.1,(kd a.2.1 b.2.1,())) else ([97],([97],()))
theorem abg (a b:N): ∃c,pT (a,b,())=some (c,())/\decide (c<0)=iH a b:=by
 have HI: ∀y:N,vF (y,())=some (false,()):=λy=>by simp[vF]
 simp only[pT];by_cases gz:a=b
 ·subst gz;refine ⟨0,by simp only[cJ,an],?_⟩;unfold iH;rw[iC];cases decide (a=[])<;>rfl
 ·by_cases aV:a=[]
  ·refine ⟨1,by simp only[bm gz,ay,aX aV,an],?_⟩;unfold iH;rw[aX aV];rfl
  ·by_cases L:b=[]
   ·refine ⟨-1,by simp only[bm gz,ay,bm aV,aX L,an],?_⟩;unfold iH;rw[bm aV,aX L];rfl
   ·cases ad:Op.bytesLess a b with
    |true=>
     refine ⟨-1,by simp only[bm gz,bm aV,bm L,ay,C9,HI,ad,an],?_⟩;unfold iH;rw[bm aV,bm L,ad];rfl
    |false=>
     refine ⟨1,by simp only[bm gz,bm aV,bm L,ay,C9,HI,ad,Bool.or_false,cU,an],?_⟩;unfold iH;rw[bm aV,bm L,ad];rfl
theorem aiQ (a b:N):FW ([a,b],())=some (kd a b,()):=by
 obtain ⟨c,q,G⟩:=abg b a;have cl:(decide ((((List.length ([a,b]:bo)):Int):Int)<(1:Int)))=false:=rfl;have M:bG ((0:Int)<(List.length ([a,b]:bo):Int)):=rfl;have V:bG ((1:Int)<((List.length ([a,b]:bo)):Int)):=rfl;have a1:bG ((0:Int)<=(1:Int)):=rfl;have bp:(decide ((2:Int)<((List.length ([a,b]:bo)):Int)))=false:=rfl;have g0:List.getD ([a,b]:bo) 0 []=a:=rfl;have g1:List.getD ([a,b]:bo) (Int.toNat 1) []=b:=rfl;have w:i64.wrap ((1:Int)+1)=2:=rfl;have b1:xO ([a,b],a,1,())=some (.inl ([a,b],kd a b,2,())):=by simp only[xO,V,a1,bN,an,g1,q,G,w];unfold kd;cases iH b a<;>rfl
 have b2:xO ([a,b],kd a b,2,())=some (.inr (.inl (kd a b,()))):=by simp only[xO,bp,ay]
 have h:ii ([a,b],a,1,())=some (.inl (kd a b,())):=nU (n:=2) (by rw[kc];omega) (by simp only[fY,b1,b2]);simp only[FW,Sl,cl,M,ay,an,g0,h]
theorem Fy (a b:aL):tW (a,b,())=some (hJ a b,()):=by simp only[tW,aiQ,Ec];unfold hJ kh k1;cases jC _<;>rfl
theorem Ov (a b:aL):jC (hJ a b)= !kh a b:=by
 unfold hJ;cases h:kh a b
 ·rfl
 ·rw[an];unfold kh at h;rw[eT]at h;exact h
theorem Gl {a b k:N}:Op.bytesLess k (k1 a b)=false↔Op.bytesLess k a=false/\Op.bytesLess k b=false:=by
 unfold k1;cases h:Op.bytesLess a b
 ·simp only[cU,an];refine ⟨λq=>⟨q,?_⟩,λq=>q.1⟩;cases G:Op.bytesLess k b
  ·rfl
  ·rcases ih a b with ab |ab |ab
   ·rw[h]at ab;cases ab
   ·rw[ab,G]at q;cases q
   ·rw[gK G ab]at q;cases q
 ·simp only[cL,ay];refine ⟨λq=>⟨?_,q⟩,λq=>q.2⟩;cases G:Op.bytesLess k a
  ·rfl
  ·rw[gK G h]at q;cases q
theorem Ot {a b k:N}:(kd a b=[]\/Op.bytesLess k (kd a b)=true)↔(a=[]\/Op.bytesLess k a=true)/\(b=[]\/Op.bytesLess k b=true):=by
 unfold kd iH;by_cases L:b=[]
 ·subst L;simp
 ·by_cases aV:a=[]
  ·subst aV;simp[L]
  ·have e:(bif (!decide (b=[])&&(decide (a=[])||Op.bytesLess b a)) then b else a)=(bif Op.bytesLess b a then b else a):=by rw[bm L,bm aV];rfl
   rw[e];cases h:Op.bytesLess b a
   ·simp only[ay,aV,L,false_or];refine ⟨λq=>⟨q,?_⟩,λq=>q.1⟩;rcases ih a b with ab |ab |ab
    ·exact gK q ab
    ·rw[<-ab];exact q
    ·rw[h]at ab;cases ab
   ·simp only[an,aV,L,false_or];exact ⟨λq=>⟨gK q h,q⟩,λq=>q.2⟩
theorem fT {d:aL} {k:N}:ch d k=true↔Op.bytesLess k d.1=false/\(d.2.1=[]\/Op.bytesLess k d.2.1=true):=by unfold ch;simp only[bQ,eT,Bool.or_eq_true,dT]
theorem Bg {a b:aL}:kh a b=true↔ ∃k,ch a k=true/\ch b k=true:=by
 have key: ∀aQ E:N,jC (aQ,(E,()))=false↔(E=[]\/Op.bytesLess aQ E=true):=λaQ E=>by
  unfold jC;by_cases h:E=[]
  ·simp[h]
  ·rw[bm h];simp only[cU,Bool.true_and,Bool.or_eq_false_iff,decide_eq_false_iff_not];constructor
   ·rintro ⟨q,G⟩;right;rcases ih aQ E with ab |ab |ab
    ·exact ab
    ·exact absurd ab.symm G
    ·rw[q]at ab;cases ab
   ·rintro (q |q)
    ·exact absurd q h
    ·exact ⟨j3 q,λG=>by rw[G,iC]at q;cases q⟩
 unfold kh;rw[eT,key];constructor
 ·intro h;have q:=Ot.1 h;have G:=Gl.1 (iC (k1 a.1 b.1));exact ⟨k1 a.1 b.1,fT.2 ⟨G.1,q.1⟩,fT.2 ⟨G.2,q.2⟩⟩
 ·rintro ⟨k,q,G⟩;obtain ⟨dF,a2⟩:=fT.1 q;obtain ⟨b1,b2⟩:=fT.1 G;have ab:=Ot.2 ⟨a2,b2⟩;have aE:=Gl.2 ⟨dF,b1⟩;rcases ab with ab |ab
  ·exact .inl ab
  ·right;rcases ih (k1 a.1 b.1) k with bf |bf |bf
   ·exact gK bf ab
   ·rw[bf];exact ab
   ·rw[aE]at bf;cases bf
theorem asP {a b:aL} {k:N} (h:kh a b=true):ch (hJ a b) k=true↔ch a k=true/\ch b k=true:=by
 unfold hJ;rw[h,an,fT,fT,fT];show (Op.bytesLess k (k1 a.1 b.1)=false/\(kd a.2.1 b.2.1=[]\/_))↔_;rw[Gl,Ot];constructor
 ·rintro ⟨⟨n7,oP⟩,tY,El⟩;exact ⟨⟨n7,tY⟩,oP,El⟩
 ·rintro ⟨⟨n7,tY⟩,oP,El⟩;exact ⟨⟨n7,oP⟩,tY,El⟩
def akV (m:bH):au:=((qf (m,())).map (·.1)).getD []
def jM (p:aL) (m:bH):Bool:=(akV m).any λw=>kh w p
def cnt:List bo->aL->bH->Nat
 |[],_,_=>0
 |P::aI,d,m=>((partsOf d (cS P d)).map λs=>if jM s m=true then 1+cnt aI s m else 0).sum
end D
open Go Go.X
namespace D
def Lm:Nat->Nat
 |0=>0
 |I+1=>6*(1+Lm I)
def Vj:Nat->Nat
 |0=>0
 |I+1=>5*Lm (I+1)+6*Vj I
theorem ajf (l:cD):IG (l,())=some (l,()):=by have bh:bG ((0:Int)<=(0:Int)):=rfl;have ba:bG (((0:Int):Int)<=((l.length):Int)):=aX u;have c3:bG ((((l.length):Int):Int)<=(l.length:Int)):=aX u;simp only[IG,bh,ba,c3,ca,cJ,bN,an,bE,ew,List.drop_zero]
end D
open Go Go.X
namespace D
def u5 (s d:aL):Bool:= !(Op.bytesLess s.1 d.1)&&(decide (d.2.1=[])||(!decide (s.2.1=[])&& !(Op.bytesLess d.2.1 s.2.1)))
theorem pr {a b c:N} (q:Op.bytesLess b a=false) (G:Op.bytesLess c b=false):Op.bytesLess c a=false:=by
 cases h:Op.bytesLess c a
 ·rfl
 ·rcases ih a b with ab |ab |ab
  ·rw[gK h ab]at G;cases G
  ·rw[<-ab,h]at G;cases G
  ·rw[q]at ab;cases ab
theorem Pk {s d:aL} {k:N} (h:u5 s d=true) (af:ch s k=true):ch d k=true:=by
 unfold u5 at h;rw[bQ,eT]at h;obtain ⟨q,G⟩:=h;obtain ⟨bd,a6⟩:=fT.1 af;refine fT.2 ⟨pr q bd,?_⟩;rw[Bool.or_eq_true,dT,bQ,eT,eT,decide_eq_false_iff_not]at G;rcases G with G |⟨G,ab⟩
 ·exact .inl G
 ·right;rcases a6 with a6 |a6
  ·exact absurd a6 G
  ·rcases ih s.2.1 d.2.1 with aE |aE |aE
   ·exact gK a6 aE
   ·rw[<-aE];exact a6
   ·rw[ab]at aE;cases aE
theorem lF: ∀n,n<=2->Lm (n+1)<=300/\Vj n<=400
 |0,_=>fm
 |1,_=>fm
 |2,_=>fm
 |n+3,h=>u
end D
open Go Go.X
namespace D
theorem pN {x:Int} (h:(Lit.int .u8 x).wf=true):0<=x/\x<256:=by simp[Lit.wf,IntKind.min,IntKind.max,IntKind.signed,IntKind.bits]at h;omega
abbrev DS:aB:=.pair (.int .u8) (.pair (.int .u8) (.pair (.int .u8) .unit))
abbrev rS:aB:=.pair (.int .u8) (.pair (.int .u8) (.pair (.int .u8) (.pair (.int .u8) (.pair (.int .u8) (.pair (.int .u8) .unit)))))
abbrev UZ:aB:=.pair (.list DS) (.pair (.pair (.list rS) (.pair (.list rS) (.pair (.list rS) (.pair (.list rS) .unit)))) (.pair (.int .u8) .unit))
theorem Bj {B:aB->Nat} (di:B rS=6) {l:List oV} (h:aB.good B (.list rS) l):(∀y∈l,rM y)/\l.length<10^18:=by
 obtain ⟨q,G⟩:=h;refine ⟨λx al=> ?_,?_⟩
 ·have h:=G x al;exact ⟨⟨pN h.1,pN h.2.1,pN h.2.2.1,pN h.2.2.2.1⟩,pN h.2.2.2.2.1,pN h.2.2.2.2.2.1⟩
 ·rw[di]at q;unfold reachBytes at q;omega
theorem akj {B:aB->Nat} (di:B DS=3) {l:l4} (h:aB.good B (.list DS) l):(∀y∈l,rL y)/\l.length<10^18:=by
 obtain ⟨q,G⟩:=h;refine ⟨λx al=> ?_,?_⟩
 ·have h:=G x al;exact ⟨pN h.1,pN h.2.1,pN h.2.2.1⟩
 ·rw[di]at q;unfold reachBytes at q;omega
theorem akT {B:aB->Nat} (ab:B DS=3) (bF:B rS=6) {x:fg} (h:aB.good B UZ x):Ai x:=
 ⟨⟨Bj bF h.2.1.1,Bj bF h.2.1.2.1,Bj bF h.2.1.2.2.1,Bj bF h.2.1.2.2.2.1⟩,akj ab h.1,pN h.2.2.1⟩
inductive Src where
 |gen (v:N) (n:Int)
 |gone
 |old (k:N) (st:Option Int)
def hq (m:bH) (k:N):Src:=
 if m.1=1 then (if m.2.1=k then .gen m.2.2.1 m.2.2.2.2.2.2.1 else .old k none)
 else if m.1=2 then (if m.2.1=k then .gone else .old k none)
 else if m.1=3 then (if ch m.2.2.2.1 k=true then .gone else .old k none)
 else if m.1=6 then .old k (if ch m.2.2.2.1 k=true then some m.2.2.2.2.2.2.1 else none)
 else if m.1=4/\b7 k m.2.2.2.2.1=true then .gone
 else if b7 k m.2.2.2.2.2.1=true then .old (fZ m.2.2.2.2.2.1 m.2.2.2.2.1 k) none
 else .old k none
def sk (d:Src) (t:aj) (x:ck):Prop:=
 match d with
 | .gen v n=>x=(x.1,v,n,())
 | .gone=>False
 | .old k st=> ∃y∈t,y.1=k/\x=(x.1,y.2.1,st.getD y.2.2.1,())
theorem AQ {t:aj} {x:ck}:sk (.old x.1 none) t x↔x∈t:=by
 constructor
 ·rintro ⟨y,bt,q,G⟩;have:x=y:=by rw[G,<-q];rfl
  rw[this];exact bt
 ·intro h;exact ⟨x,h,rfl,rfl⟩
theorem GL (k x:N):ch (k,k++[0],()) x=decide (x=k):=by
 have cw:k++[0]≠[]:=aU;have key: ∀k x:N,(!Op.bytesLess x k&&Op.bytesLess x (k++[0]))=decide (x=k):=by
  intro k
  induction k with
  |nil=>
   intro x;cases x with
   |nil=>rfl
   |cons b x=>
    have h:Op.bytesLess (b::x) [0]=false:=by cases x<;>simp[Op.bytesLess]
    have G:Op.bytesLess (b::x) []=false:=rfl;show (!Op.bytesLess (b::x) []&&Op.bytesLess (b::x) [0])=_;rw[h,G];simp
  |cons a k aR=>
   intro x;cases x with
   |nil=>rfl
   |cons b x=>
    show (!(decide (b<a)||(b==a&&Op.bytesLess x k))&&(decide (b<a)||(b==a&&Op.bytesLess x (k++[0]))))=_;by_cases q:b<a
    ·have:b≠a:=by intro e;rw[e]at q;exact absurd q (UInt8.lt_irrefl a)
     simp[q,this]
    ·by_cases G:b=a
     ·subst G;have:=aR x;simp only[q,decide_false,Bool.false_or,beq_self_eq_true,Bool.true_and,this,List.cons.injEq,true_and]
     ·simp[q,G]
 have:=key k x;unfold ch;rw[bm cw,Bool.false_or];exact this
theorem ig.mv {m:bH} (hm:ig m) (q:m.1≠1) (G:m.1≠2) (ab:m.1≠3) (bF:m.1≠6):wM m:=by
 have nG:II m:=by
  rcases hm.kind with h |h |h |h |h |h
  ·exact absurd h q
  ·exact absurd h G
  ·exact absurd h ab
  ·exact .inl h
  ·exact .inr h
  ·exact absurd h bF
 exact ⟨nG,hm.from_ nG,hm.to_ nG,(hm.apart nG).1,(hm.apart nG).2⟩
theorem GI {t:aj} {m:bH} (hm:ig m) (ah:cO bT t) (x:ck):x∈apM t m↔sk (hq m x.1) t x:=by
 unfold apM hq;by_cases q:m.1=1
 ·rw[if_pos q,if_pos q,aiZ];by_cases af:m.2.1=x.1
  ·rw[if_pos af];constructor
   ·rintro (h |⟨-,h⟩)
    ·rw[h];rfl
    ·exact absurd af.symm h
   ·intro h;have h:x=(x.1,m.2.2.1,m.2.2.2.2.2.2.1,()):=h;left;rw[af];exact h
  ·rw[if_neg af,AQ];constructor
   ·rintro (h |⟨h,-⟩)
    ·exact absurd (by rw[h]) af
    ·exact h
   ·intro h;exact .inr ⟨h,λe=>af e.symm⟩
 ·rw[if_neg q,if_neg q];by_cases G:m.1=2
  ·rw[if_pos G,if_pos G,e8,GL];by_cases af:m.2.1=x.1
   ·rw[if_pos af];constructor
    ·rintro ⟨-,h⟩;rw[aX af.symm]at h;cases h
    ·exact False.elim
   ·rw[if_neg af,AQ,bm (λe:x.1=m.2.1=>af e.symm)];simp
  ·rw[if_neg G,if_neg G];by_cases ab:m.1=3
   ·rw[if_pos ab,if_pos ab,e8];cases bg:ch m.2.2.2.1 x.1
    ·rw[if_neg aU,AQ];simp
    ·rw[if_pos rfl];constructor
     ·rintro ⟨-,h⟩;cases h
     ·exact False.elim
   ·rw[if_neg ab,if_neg ab];by_cases bF:m.1=6
    ·rw[if_pos bF,if_pos bF,List.mem_map];have vo: ∀y:ck,(iu m y).1=y.1:=λy=>by unfold iu;cases ch m.2.2.2.1 y.1<;>rfl
     have yr: ∀y:ck,iu m y=(y.1,y.2.1,(if ch m.2.2.2.1 y.1=true then some m.2.2.2.2.2.2.1 else none).getD y.2.2.1,()):=λy=>by unfold iu;cases ch m.2.2.2.1 y.1<;>rfl
     constructor
     ·rintro ⟨y,bt,rfl⟩;refine ⟨y,bt,(vo y).symm,?_⟩;rw[vo y];exact yr y
     ·rintro ⟨y,bt,M,V⟩;refine ⟨y,bt,?_⟩;rw[yr y,V,M]
    ·rw[if_neg bF,if_neg bF];have W:=hm.mv q G ab bF;unfold qK;rw[Dx acq (Gw ah)];have L:x∈jI m t↔x∈t/\b7 x.1 m.2.2.2.2.2.1=false/\ ¬(m.1=4/\b7 x.1 m.2.2.2.2.1=true):=by
      unfold jI;by_cases aE:m.1=4
      ·rw[aX aE,an,e8,e8];cases b7 x.1 m.2.2.2.2.2.1<;>cases b7 x.1 m.2.2.2.2.1<;>simp[aE]
      ·rw[bm aE,ay,e8];cases b7 x.1 m.2.2.2.2.2.1<;>simp[aE]
     have lk:x∈(hK m t).map (hW m.2.2.2.2.1 m.2.2.2.2.2.1)↔b7 x.1 m.2.2.2.2.2.1=true/\ ∃y∈t,y.1=fZ m.2.2.2.2.2.1 m.2.2.2.2.1 x.1/\x=(x.1,y.2.1,y.2.2.1,()):=by
      rw[List.mem_map];constructor
      ·rintro ⟨y,bt,rfl⟩;obtain ⟨bt,aM⟩:=e8.1 bt;refine ⟨uX,y,bt,?_,rfl⟩;obtain ⟨r,ar⟩:=kb.1 aM;show y.1=fZ _ _ (fZ _ _ y.1);rw[ar,lp,lp]
      ·rintro ⟨L,y,bt,M,V⟩;obtain ⟨r,ar⟩:=kb.1 L;rw[ar,lp]at M;refine ⟨y,e8.2 ⟨bt,?_⟩,?_⟩
       ·show b7 y.1 _=true;rw[M];exact Ba _ _
       ·show (fZ _ _ y.1,y.2.1,y.2.2.1,())=x;rw[M,lp,<-ar];exact V.symm
     rw[L,lk];by_cases aE:m.1=4/\b7 x.1 m.2.2.2.2.1=true
     ·rw[if_pos aE];constructor
      ·rintro (⟨-,-,h⟩|⟨h,-⟩)
       ·exact absurd aE h
       ·rw[W.not_both aE.2]at h;cases h
      ·exact False.elim
     ·rw[if_neg aE];cases bg:b7 x.1 m.2.2.2.2.2.1
      ·rw[if_neg aU,AQ];simp[aE]
      ·rw[if_pos rfl];constructor
       ·rintro (⟨-,h,-⟩|⟨-,h⟩)
        ·cases h
        ·exact h
       ·intro h;exact .inr ⟨rfl,h⟩
theorem Gz {t:aj} {m:bH} (ah:cO bT t):cO bT (apM t m):=by
 unfold apM;split
 ·unfold kF;exact cO.ins ah.wo (adu _ _)
 ·split
  ·exact List.Pairwise.filter _ ah
  ·split
   ·exact List.Pairwise.filter _ ah
   ·split
    ·refine List.pairwise_map.2 ?_;refine List.Pairwise.imp (λ{a b} h=> ?_) ah;have vo: ∀y:ck,(iu m y).1=y.1:=λy=>by unfold iu;cases ch m.2.2.2.1 y.1<;>rfl
     show Op.bytesLess (iu m a).1 (iu m b).1=true;rw[vo,vo];exact h
    ·exact adm ah
theorem ajz (t:aj) (m:bH):(apM t m).length<=2*t.length+1:=by
 unfold apM;split
 ·have:=acP t (m.2.1,m.2.2.1,m.2.2.2.2.2.2.1,());omega
 ·split
  ·have:=h0 (λp:ck=> !ch (m.2.1,m.2.1++[0],()) p.1) t;omega
  ·split
   ·have:=h0 (λp:ck=> !ch m.2.2.2.1 p.1) t;omega
   ·split
    ·rw[List.length_map];omega
    ·have:=ajw m t;omega
def xE (t:aj):cD->aj
 |[]=>t
 |m::r=>apM (xE t r) m
def allM (t:aj) (l:cD):aj:=l.foldl apM t
theorem FY (t:aj) (l:cD) (m:bH):allM t (l++[m])=apM (allM t l) m:=by unfold allM;rw[List.foldl_append];rfl
theorem Pm (t:aj): ∀r:cD,xE t r=allM t r.reverse
 |[]=>rfl
 |m::r=>by rw[List.reverse_cons,FY,<-Pm t r];rfl
theorem AX {t:aj} (ah:cO bT t): ∀l:cD,cO bT (allM t l):=by
 intro l
 induction l generalizing t with
 |nil=>exact ah
 |cons m l aR=>exact aR (Gz ah)
theorem O3 (l:cD): ∀t:aj,(allM t l).length+1<=2^l.length*(t.length+1):=by
 induction l with
 |nil=>intro t;simp[allM]
 |cons m l aR=>
  intro t;have q:=aR (apM t m);have G:=ajz t m;have ab:2^l.length*((apM t m).length+1)<=2^l.length*(2*t.length+1+1):=Nat.mul_le_mul_left _ u;have aE:2^(m::l).length*(t.length+1)=2^l.length*(2*t.length+1+1):=by rw[iy,Nat.pow_succ,Nat.mul_assoc,show 2*(t.length+1)=2*t.length+1+1 by omega]
  rw[aE];exact Nat.le_trans q ab
def sv (st:Option Int):Src->Src
 | .gen v n=>.gen v (st.getD n)
 | .gone=>.gone
 | .old k bb=>.old k (st.or bb)
def jd:cD->N->Src
 |[],k=>.old k none
 |m::r,k=>match hq m k with
  | .gen v n=>.gen v n
  | .gone=>.gone
  | .old eB st=>sv st (jd r eB)
theorem adE (a b:Option Int) (I:Int):(a.or b).getD I=a.getD (b.getD I):=by cases a<;>cases b<;>rfl
theorem acK {t:aj} (ah:cO bT t): ∀(r:cD),(∀m∈r,ig m)-> ∀x,x∈xE t r↔sk (jd r x.1) t x
 |[],_,x=>by show x∈t↔sk (.old x.1 none) t x;rw[AQ]
 |m::r,h,x=>by
  have ar:cO bT (xE t r):=by rw[Pm];exact AX ah _
  have aR:=acK ah r (λn aO=>h n (gU _ aO));show x∈apM (xE t r) m↔_;rw[GI (h m gI) ar];unfold jd;cases hm:hq m x.1 with
  |gen v n=>exact Iff.rfl
  |gone=>exact Iff.rfl
  |old k st=>
   show (∃y∈xE t r,y.1=k/\x=(x.1,y.2.1,st.getD y.2.2.1,()))↔sk (sv st (jd r k)) t x;cases ar:jd r k with
   |gen v n=>
    show _↔x=(x.1,v,st.getD n,());constructor
    ·rintro ⟨y,bt,M,V⟩;have:=(aR y).1 bt;rw[M,ar]at this;have this:y=(y.1,v,n,()):=this;rw[V,this]
    ·intro e;refine ⟨(k,v,n,()),(aR _).2 ?_,rfl,e⟩;show sk (jd r k) t _;rw[ar];rfl
   |gone=>
    show _↔False;constructor
    ·rintro ⟨y,bt,M,V⟩;have:=(aR y).1 bt;rw[M,ar]at this;exact this
    ·exact False.elim
   |old a6 dL=>
    show _↔ ∃z∈t,z.1=a6/\x=(x.1,z.2.1,(st.or dL).getD z.2.2.1,());constructor
    ·rintro ⟨y,bt,M,V⟩;have:=(aR y).1 bt;rw[M,ar]at this;obtain ⟨z,bI,f1,f2⟩:=this;refine ⟨z,bI,f1,?_⟩;rw[adE,V,f2]
    ·rintro ⟨z,bI,f1,f2⟩;refine ⟨(k,z.2.1,dL.getD z.2.2.1,()),(aR _).2 ?_,rfl,?_⟩
     ·show sk (jd r k) t _;rw[ar];exact ⟨z,bI,f1,rfl⟩
     ·rw[adE]at f2;exact f2
theorem acJ {t:aj} (ah:cO bT t) {l:cD} (h: ∀m∈l,ig m) (x:ck):x∈allM t l↔sk (jd l.reverse x.1) t x:=by have:=acK ah l.reverse (λm hm=>h m (List.mem_reverse.1 hm)) x;rw[Pm,List.reverse_reverse]at this;exact this
theorem abP {t ae:aj} (ah:cO bT t) (hu:cO bT ae) {l:cD} (h: ∀m∈l,ig m) (x:ck)
  (af: ∀k st,jd l.reverse x.1=.old k st-> ∀y:ck,y.1=k->(y∈t↔y∈ae)):x∈allM t l↔x∈allM ae l:=by
 rw[acJ ah h,acJ hu h];cases e:jd l.reverse x.1 with
 |gen v n=>exact Iff.rfl
 |gone=>exact Iff.rfl
 |old k st=>
  constructor
  ·rintro ⟨y,bt,q,G⟩;exact ⟨y,(af k st e y q).1 bt,q,G⟩
  ·rintro ⟨y,bt,q,G⟩;exact ⟨y,(af k st e y q).2 bt,q,G⟩
theorem abW {d x:aL} (h:me (d,x,())=some (true,())) {k:N} (af:ch x k=true):ch d k=true:=by
 have al:jC x=false:=by
  unfold jC;obtain ⟨bd,a6⟩:=fT.1 af;rcases a6 with a6 |a6
  ·rw[aX a6];rfl
  ·have:Op.bytesLess x.1 x.2.1=true:=by
    rcases ih x.1 k with ab |ab |ab
    ·exact gK ab a6
    ·rw[ab];exact a6
    ·rw[bd]at ab;cases ab
   have G:decide (x.2.1=x.1)=false:=bm (λe=>nj this e.symm);rw[j3 this,G];simp
 simp only[me,arQ,al,cU,an]at h;cases ah:jC d with
 |true=>rw[ah]at h;simp only[cL,ay]at h;cases h
 |false=>
  rw[ah]at h;simp only[cU,an]at h;cases fs:(Op.bytesLess d.1 x.1||decide ((d.1:N)=x.1)) with
  |false=>rw[fs]at h;cases h
  |true=>
   rw[fs]at h;simp only[an,asN]at h;have Il:Op.bytesLess x.1 d.1=false:=by
    rcases Bool.or_eq_true_iff.1 fs with q |q
    ·exact j3 q
    ·rw[of_decide_eq_true q];exact iC _
   have jm:iH d.2.1 x.2.1=false:=by
    cases ad:iH d.2.1 x.2.1
    ·rfl
    ·rw[ad]at h;cases h
   refine Pk ?_ af;unfold u5;rw[Il];by_cases e:d.2.1=[]
   ·rw[aX e];rfl
   ·unfold iH at jm;rw[bm e]at jm ⊢;simp only[cU,Bool.true_and,Bool.or_eq_false_iff]at jm;simp[jm.1,jm.2]
theorem ux: ∀p∈fc,p.length<=4:=by have h:fc.all (λp=>decide (p.length<=4))=true:=aC;exact λp aT=>of_decide_eq_true (fC.1 h p aT)
theorem Gv {m:bH} {k v:N} {n:Int} (h:hq m k=.gen v n):m.1=1/\m.2.1=k:=by
 unfold hq at h;by_cases q:m.1=1
 ·rw[if_pos q]at h;by_cases af:m.2.1=k
  ·exact ⟨q,af⟩
  ·rw[if_neg af]at h;cases h
 ·rw[if_neg q]at h;split at h
  ·split at h<;>cases h
  ·split at h
   ·split at h<;>cases h
   ·split at h
    ·cases h
    ·split at h
     ·cases h
     ·split at h<;>cases h
theorem Ph {m:bH} {k eB:N} {st:Option Int} (h:hq m k=.old eB st):
  eB=k\/(m.1≠1/\m.1≠2/\m.1≠3/\m.1≠6/\b7 k m.2.2.2.2.2.1=true/\eB=fZ m.2.2.2.2.2.1 m.2.2.2.2.1 k):=by
 unfold hq at h;by_cases q:m.1=1
 ·rw[if_pos q]at h;split at h
  ·cases h
  ·injection h with M V;exact .inl M.symm
 ·rw[if_neg q]at h;by_cases G:m.1=2
  ·rw[if_pos G]at h;split at h
   ·cases h
   ·injection h with M V;exact .inl M.symm
  ·rw[if_neg G]at h;by_cases ab:m.1=3
   ·rw[if_pos ab]at h;split at h
    ·cases h
    ·injection h with M V;exact .inl M.symm
   ·rw[if_neg ab]at h;by_cases bF:m.1=6
    ·rw[if_pos bF]at h;injection h with M V;exact .inl M.symm
    ·rw[if_neg bF]at h;split at h
     ·cases h
     ·split at h
      ·rename_i L;injection h with M V
       exact .inr ⟨q,G,ab,bF,L,M.symm⟩
      ·injection h with M V;exact .inl M.symm
theorem PC {t f k:N} (L:b7 k t=true):k.length+f.length=(fZ t f k).length+t.length:=by obtain ⟨r,ar⟩:=kb.1 L;rw[ar,lp,eF,eF];omega
theorem aja {t:aj} {m:bH} (hm:ig m) (ah:cO bT t) {B:Nat} (di:100<=B) (h: ∀p∈t,p.1.length<=B): ∀x∈apM t m,x.1.length<=B+4:=by
 intro x al;have:=(GI hm ah x).1 al;cases e:hq m x.1 with
 |gen v n=>
  obtain ⟨q,G⟩:=Gv e;have:=(uc _ (hm.key (.inl q))).2;rw[G]at this;omega
 |gone=>rw[e]at this;exact this.elim
 |old k st=>
  rw[e]at this;obtain ⟨y,bt,M,V⟩:=this;have bt:=h y bt;rcases Ph e with q |⟨q,G,ab,bF,L,aE⟩
  ·rw[M,q]at bt;omega
  ·have W:=hm.mv q G ab bF;have dy:=ux _ W.to_;have:=PC (f:=m.2.2.2.2.1) L;rw[M,aE]at bt;omega
theorem abO {l:cD} (h: ∀m∈l,ig m): ∀{t:aj} {B:Nat},cO bT t->100<=B->(∀p∈t,p.1.length<=B)-> ∀x∈allM t l,x.1.length<=B+4*l.length:=by
 induction l with
 |nil=>intro t B _ _ L x al;exact L x al
 |cons m l aR=>
  intro t B ah di L x al;have:=aR (λn aO=>h n (gU _ aO)) (Gz (m:=m) ah) (B:=B+4) u (aja (h m gI) ah di L) x al;rw[iy];omega
theorem aiT {m:bH} {d:aL} (hm:gj m) (ad:jK (m,d,())=some (true,())):
  (m.1=1->ch d m.2.1=true)/\(m.1≠1->m.1≠2->m.1≠3->m.1≠6-> ∀k,b7 k m.2.2.2.2.2.1=true->ch d k=true):=by
 have cC:=hm.ok;obtain ⟨-,R,cP,-,kq,-,kr,ar,hw⟩:=AT hm;have aw: ∀x∈cP,me (d,x,())=some (true,()):=by intro x al;exact aaL kq kr ar hw ad x (List.mem_append_right _ al)
 constructor
 ·intro q;have af:=cC.key (.inl q);have:cP=[(m.2.1,m.2.1++[0],())]:=by have d1:decide (m.1=1)=true:=aX q;simp only[lI,ou,d1,an,(xh af).2]at kr;exact (congrArg Prod.fst (eW kr)).symm
  refine abW (aw _ (by rw[this];exact gI)) ?_;rw[GL];simp
 ·intro q G ab bF k af;have W:=cC.mv q G ab bF;obtain ⟨fI,gh,nW⟩:=mA _ (na _ W.from_);obtain ⟨ag,aS,bP⟩:=mA _ (na _ W.to_);have d1:decide (m.1=1)=false:=bm q;have d2:decide (m.1=2)=false:=bm G;have:dW m.2.2.2.2.2.1∈cP:=by
   rcases W.kind with aE |bf
   ·have d4:decide (m.1=4)=true:=aX aE;simp only[lI,ou,d1,d2,d4,an,ay,gh,aS]at kr;have:cP=_:=(congrArg Prod.fst (eW kr)).symm;rw[this];simp
   ·have d4:decide (m.1=4)=false:=bm u;have d5:decide (m.1=5)=true:=aX bf;simp only[lI,ou,d1,d2,d4,d5,an,ay,gh,aS]at kr;have:cP=_:=(congrArg Prod.fst (eW kr)).symm;rw[this];simp
  refine abW (aw _ this) ?_;rw[A6 bP];exact af
def pE (d:aL) (t:aj):Prop:= ∀p∈t,ch d p.1=true
theorem aj6 {t:aj} {m:bH} {d:aL} (hm:gj m) (ad:jK (m,d,())=some (true,())) (ah:cO bT t) (h:pE d t):pE d (apM t m):=by
 intro x al;have:=(GI hm.ok ah x).1 al;obtain ⟨g1,g2⟩:=aiT hm ad;cases e:hq m x.1 with
 |gen v n=>
  obtain ⟨q,G⟩:=Gv e;rw[<-G];exact g1 q
 |gone=>rw[e]at this;exact this.elim
 |old k st=>
  rw[e]at this;obtain ⟨y,bt,M,V⟩:=this;rcases Ph e with q |⟨q,G,ab,bF,L,aE⟩
  ·rw[<-q,<-M];exact h y bt
  ·exact g2 q G ab bF _ L
theorem ajy {l:cD} {d:aL} (h: ∀m∈l,gj m/\jK (m,d,())=some (true,())): ∀{t:aj},cO bT t->pE d t->pE d (allM t l):=by
 induction l with
 |nil=>intro t _ aW;exact aW
 |cons m l aR=>
  intro t ah aW;have hm:=h m gI;exact aR (λn aO=>h n (gU _ aO)) (Gz ah) (aj6 hm.1 hm.2 ah aW)
def vd (E:N):N->bo->au
 |aQ,[]=>[(aQ,E,())]
 |aQ,p::m=>(aQ,p,())::vd E p m
theorem Pt (E:N): ∀(m:bo) (aQ:N),(vd E aQ m).length=m.length+1
 |[],_=>rfl
 |p::m,aQ=>by show (vd E p m).length+1=_;rw[Pt E m p];rfl
theorem UX (E:N): ∀(m:bo) (aQ:N),∀r∈vd E aQ m,r.1=aQ\/r.1∈m
 |[],aQ,r,h=>by obtain rfl:=gv.1 h;exact .inl rfl
 |p::m,aQ,r,h=>by
  rcases e7.1 h with rfl |h
  ·exact .inl rfl
  ·rcases UX E m p r h with h |h
   ·exact .inr (by rw[h];exact gI)
   ·exact .inr (gU _ h)
abbrev Sep (s r:aL):Prop:=s.2.1≠[]/\Op.bytesLess r.1 s.2.1=false
theorem Pu (E:N): ∀(m:bo) (aQ:N),(∀p∈m,p≠[])->(m.Pairwise λa b=>Op.bytesLess a b=true)->(vd E aQ m).Pairwise Sep
 |[],aQ,_,_=>List.pairwise_singleton _ _
 |p::m,aQ,q,G=>by
  have ab:=List.pairwise_cons.1 G;refine List.pairwise_cons.2 ⟨λr ar=>⟨q p gI,?_⟩,Pu E m p (λs aN=>q s (gU _ aN)) ab.2⟩;show Op.bytesLess r.1 p=false;rcases UX E m p r ar with h |h
  ·rw[h];exact iC _
  ·exact j3 (ab.1 _ h)
def qW:List bo->aL->Bool
 |[],_=>true
 |P::aI,d=>decide (partsOf d (cS P d)=vd d.2.1 d.1 (cS P d))&&(partsOf d (cS P d)).all λs=>u5 s d&&qW aI s
theorem aiI: ∀aI∈nk,qW aI cb=true:=by have h:nk.all (λaI=>qW aI cb)=true:=aC;exact λaI aT=>fC.1 h aI aT
theorem ac3 {P:bo} {aI:List bo} {d:aL} (h:qW (P::aI) d=true):
  partsOf d (cS P d)=vd d.2.1 d.1 (cS P d)/\ ∀s∈partsOf d (cS P d),u5 s d=true/\qW aI s=true:=by
 unfold qW at h;rw[bQ,dT]at h;refine ⟨h.1,λs aN=> ?_⟩;have:=fC.1 h.2 s aN;rw[bQ]at this;exact this
theorem adA {P:bo} {d:aL}: ∀p∈cS P d,p≠[]:=by
 intro p aT e;have:=(e8.1 aT).2;rw[e]at this;rw[bQ,eT,Bool.or_eq_false_iff]at this;obtain ⟨⟨q,G⟩,ab⟩:=this;have:=(fT.1 ab).1;cases ah:d.1 with
 |nil=>rw[ah]at G;simp at G
 |cons a x=>rw[ah]at q;cases q
theorem acM {P:bo} (h:P.Pairwise λa b=>Op.bytesLess a b=true) (d:aL):(cS P d).Pairwise λa b=>Op.bytesLess a b=true:=List.Pairwise.filter _ h
theorem acW: ∀(ax:List (aj×aL)),(ax.Pairwise λa b=>Sep a.2 b.2)->(∀a∈ax,cO bT a.1/\pE a.2 a.1)->cO bT (ax.flatMap (·.1))
 |[],_,_=>List.Pairwise.nil
 |a::ax,q,G=>by
  have ab:=List.pairwise_cons.1 q;rw[List.flatMap_cons];refine List.pairwise_append.2 ⟨(G a gI).1,acW ax ab.2 (λb L=>G b (gU _ L)),λx al y bt=> ?_⟩;obtain ⟨b,L,bt⟩:=List.mem_flatMap.1 bt;have al:=(G a gI).2 x al;have bt:=(G b (gU _ L)).2 y bt;obtain ⟨s1,s2⟩:=ab.1 b L;rcases (fT.1 al).2 with h |h
  ·exact absurd h s1
  ·have bt:=(fT.1 bt).1;have aE:=pr s2 bt;rcases ih x.1 y.1 with bf |bf |bf
   ·exact bf
   ·rw[<-bf,h]at aE;cases aE
   ·rw[gK bf h]at aE;cases aE
abbrev h7:cE:=(([]:aj),(([]:bo),(([]:ct),(([]:hs),(([]:cD),())))))
def cont (Q:cK):List bo->Nat->aj
 |[],i=>(Q.getD i h7).1
 |_::aI,i=>allM ((Q.getD i h7).2.2.1.flatMap λk=>cont Q aI k.toNat) (Q.getD i h7).2.2.2.2.1
def low (Q:cK) (aI:List bo) (ks:dA):aj:=ks.flatMap λk=>cont Q aI k
theorem sg {Q:cK} {i:Nat} {n:cE} (h:Q[i]? =some n):Q.getD i h7=n:=by unfold List.getD;rw[h];rfl
theorem FH {Q:cK} {i:Nat} {p:aj} {piv:bo} {ks:dA} {sums:hs} {buf:cD} (P:bo) (aI:List bo)
  (h:Q[i]? =some (p,piv,bM ks,sums,buf,())):cont Q (P::aI) i=allM (low Q aI ks) buf:=by
 show allM ((Q.getD i h7).2.2.1.flatMap λk=>cont Q aI k.toNat) (Q.getD i h7).2.2.2.2.1=_;rw[sg h];show allM ((bM ks).flatMap λk=>cont Q aI k.toNat) buf=_;unfold bM low;rw[List.flatMap_map];rfl
def clen:Nat->Nat
 |0=>1000
 |I+1=>32*(6*clen I+1)
structure GX (d:aL) (I:Nat) (c:aj):Prop where
 srt:cO bT c
 sp:pE d c
 len:c.length<=clen I
 key: ∀p∈c,p.1.length<=100+20*I
theorem aiF (ax:List aj) (c:Nat) (h: ∀a∈ax,a.length<=c):ax.flatten.length<=ax.length*c:=by
 induction ax with
 |nil=>simp
 |cons a ax aR=>
  rw[List.flatten_cons,eF,iy];have q:=h a gI;have G:=aR (λb L=>h b (gU _ L));rw[Nat.add_mul];omega
theorem UR {Q:cK} {aI:List bo} {ks:dA} {parts:au} {I:Nat} {d:aL} (af:ks.length=parts.length) (ad:ks.length<=6)
  (avQ:parts.Pairwise Sep) (rk: ∀s∈parts,u5 s d=true) (h: ∀j,j<ks.length->GX (parts.getD j cb) I (cont Q aI (ks.getD j 0))):
  cO bT (low Q aI ks)/\pE d (low Q aI ks)/\(low Q aI ks).length<=6*clen I/\ ∀p∈low Q aI ks,p.1.length<=100+20*I:=by
 have p5: ∀x∈low Q aI ks,∃j,j<ks.length/\x∈cont Q aI (ks.getD j 0):=by intro x al;obtain ⟨k,kO,al⟩:=List.mem_flatMap.1 al;obtain ⟨j,ak,rfl⟩:=List.mem_iff_getElem.1 kO;exact ⟨j,ak,by rw[b5 ak];exact al⟩
 refine ⟨?_,?_,?_,?_⟩
 ·have e:low Q aI ks=(List.zip (ks.map λk=>cont Q aI k) parts).flatMap (·.1):=by unfold low;rw[List.flatMap_def,List.flatMap_def];congr 1;rw[List.map_fst_zip (by rw[List.length_map];omega)]
  rw[e];refine acW _ ?_ ?_
  ·have:((List.zip (ks.map λk=>cont Q aI k) parts).map (·.2)).Pairwise Sep:=by rw[List.map_snd_zip (by rw[List.length_map];omega)];exact avQ
   exact List.pairwise_map.1 this
  ·intro a aV;obtain ⟨j,ak,rfl⟩:=List.mem_iff_getElem.1 aV;have s4:j<ks.length:=by rw[List.length_zip,List.length_map]at ak;omega
   have hj:j<parts.length:=u;have:=h j s4;rw[List.getElem_zip];rw[b5 s4,b5 hj]at this;simp only[List.getElem_map];exact ⟨this.srt,this.sp⟩
 ·intro x al;obtain ⟨j,ak,al⟩:=p5 x al;have:=(h j ak).sp x al;have hj:j<parts.length:=u;rw[b5 hj]at this;exact Pk (rk _ (dI hj)) this
 ·have e:low Q aI ks=(ks.map λk=>cont Q aI k).flatten:=by unfold low;rw[List.flatMap_def]
  rw[e];have:=aiF (ks.map λk=>cont Q aI k) (clen I) (by intro a aV;obtain ⟨k,kO,rfl⟩:=List.mem_map.1 aV;obtain ⟨j,ak,rfl⟩:=List.mem_iff_getElem.1 kO;have:=(h j ak).len;rw[b5 ak]at this;exact this)
  rw[List.length_map]at this;exact Nat.le_trans this (gV _ ad)
 ·intro x al;obtain ⟨j,ak,al⟩:=p5 x al;exact (h j ak).key x al
theorem hD.cont_ok {Q:cK} {t:aj} (aW:cO bT t) (ad:t.length<=1000) (af: ∀p∈t,p.1.length<=100): ∀{aI:List bo} {d:aL} {i:Nat},
  (∀s∈aI,s.length<=5)->(∀P∈aI,P.Pairwise λa b=>Op.bytesLess a b=true)->qW aI d=true->hD Q t aI d i->GX d aI.length (cont Q aI i)
 |[],d,i,_,_,_,h=>by
  have h:Q[i]? =some (inS d t,[],[],[],[],()):=h;have e:cont Q [] i=inS d t:=by show (Q.getD i h7).1=_;rw[sg h]
  rw[e];have l:=si d t;refine ⟨List.Pairwise.filter _ aW,λp aT=>(e8.1 aT).2,?_,λp aT=> ?_⟩
  ·show _<=1000;omega
  ·have:=af p (e8.1 aT).1;simp;omega
 |P::aI,d,i,aN,hQ,bC,⟨ks,sums,buf,q,G,ab,aE,bf,bF,dU,hh⟩=>by
  obtain ⟨g1,g2⟩:=ac3 bC;have jU:(cS P d).length<=5:=Nat.le_trans (ud P d) (aN P gI);have jo:(partsOf d (cS P d)).length=ks.length:=by rw[g1,Pt,G]
  obtain ⟨dy,de,nQ,rB⟩:=UR (Q:=Q) (aI:=aI) (ks:=ks) (parts:=partsOf d (cS P d)) (I:=aI.length) (d:=d) jo.symm u
   (by rw[g1];exact Pu _ _ _ adA (acM (hQ P gI) d)) (λs aN=>(g2 s aN).1) (λj ak=>by
    have hj:j<(partsOf d (cS P d)).length:=u;have Cy:qW aI (List.getD (partsOf d (cS P d)) j cb)=true:=by rw[b5 hj];exact (g2 _ (dI hj)).2
    exact hD.cont_ok aW ad af (λs hV=>aN s (gU _ hV)) (λs hV=>hQ s (gU _ hV)) Cy (hh j ak).1)
  rw[FH P aI q];have avq: ∀m∈buf,ig m:=λm hm=>(dU m hm).1.ok
  refine ⟨AX dy buf,ajy dU dy de,?_,?_⟩
  ·have:=O3 buf (low Q aI ks);have at0:2^buf.length<=2^5:=Nat.pow_le_pow_right u bF;have aE:2^buf.length*((low Q aI ks).length+1)<=2^5*(6*clen aI.length+1):=Nat.mul_le_mul at0 u;show _<=32*(6*clen aI.length+1);omega
  ·intro x al;have:=abO avq dy u rB x al;rw[iy];omega
def bU (dq k:N) (o:Option Int):aiw:=(false,false,dq,[],0,k,o.isSome,o.getD 0,())
theorem aco (m:bH) (r:cD) (k:N):jd (m::r) k=match hq m k with
  | .gen v n=>.gen v n
  | .gone=>.gone
  | .old eB st=>sv st (jd r eB):=rfl
end D
open Go Go.X
namespace D
theorem lU {S ρ σ:Type} {b:S->Option (S⊕ρ)} (mk:σ->S) (μ:σ->Nat) (Inv:σ->Prop) (bA:σ->ρ->Prop)
  (h: ∀s,Inv s->(∃t,b (mk s)=some (.inl (mk t))/\Inv t/\μ t<μ s/\ ∀r,bA t r->bA s r)\/(∃r,b (mk s)=some (.inr r)/\bA s r)) (s:σ) (aN:Inv s) (hm:μ s<10^20):
  ∃r,b6 b (mk s)=some r/\bA s r:=by
 have key: ∀(a7:Nat) (s:σ),Inv s->μ s<a7-> ∃r,fY b a7 (mk s)=some r/\bA s r:=by
  intro a7
  induction a7 with
  |zero=>intro s _ h;omega
  |succ a7 aR=>
   intro s aN jj;rcases h s aN with ⟨t,q,G,ab,aE⟩|⟨r,q,G⟩
   ·obtain ⟨r,bf,bF⟩:=aR t G u;exact ⟨r,by simp only[fY,q,bf],aE r bF⟩
   ·exact ⟨r,by simp only[fY,q],G⟩
 obtain ⟨r,q,G⟩:=key (μ s+1) s aN u;exact ⟨r,nU (by rw[kc];omega) q,G⟩
abbrev gm:aL:=(([]:N),(([]:N),()))
def bD (x y:aL):Bool:=Op.bytesLess x.1 y.1
theorem aj7 {a b c:N} (q:Op.bytesLess a b=false) (G:Op.bytesLess b c=false):Op.bytesLess a c=false:=pr G q
theorem Ak:Sort.SWO bD where
 irrefl:=λx=>iC x.1
 trans:=λx y z q G=>gK q G
 ntrans:=λx y z q G=>aj7 q G
theorem aqQ (a b:N):IY (a,b,())=some (mT a b,()):=by
 have e: ∀a:N,(!decide (a=a))=false:=aU;simp only[IY,yK,e,ay];unfold mT;cases h:Op.bytesLess a b
 ·by_cases gz:a=b
  ·subst gz;simp
  ·simp[gz]
 ·simp
theorem mF (x y:aL):k8 (x,y,())=some (mT x.1 y.1,()):=by simp only[k8,aqQ]
theorem mz (x y:aL):decide (mT x.1 y.1<0)=bD x y:=by
 unfold bD;cases h:Op.bytesLess x.1 y.1
 ·exact bm (by rw[GB,h];simp)
 ·exact aX (GB.2 h)
theorem eP {i n:Nat} (h:i<n):(decide ((0:Int)<=(i:Int))&&decide ((i:Int)<(n:Int)))=true:=by rw[aX u,aX u];rfl
theorem Tn {j:Nat} (h:j<2^62):i64.wrap (((j+1:Nat):Int)-1)=(j:Int):=by rw[cR u];omega
theorem fv {j:Nat} (h:j<2^62):i64.wrap ((j:Int)+1)=((j+1:Nat):Int):=by rw[cR u];omega
def gr (l:au) (i j:Nat):au:=(l.set i (l.getD j gm)).set j (l.getD i gm)
theorem gR (l:au) (i j:Nat):(gr l i j).length=l.length:=by simp[gr]
theorem gW (l:au) (i:Nat):(l.toArray)[i]! =l.getD i gm:=by rw[List.getElem!_toArray,List.getElem!_eq_getElem?_getD];rfl
theorem lv (l:au) (i j:Nat):Sort.swp l.toArray i j=(gr l i j).toArray:=by unfold Sort.swp gr;simp only[gW,List.setIfInBounds_toArray]
theorem arD (a b i:Nat) (l:au) (j:Nat) (ak:j<l.length) (ad:l.length<2^62):
  HC ((a:Int),(b:Int),(i:Int),(j:Int),l,())=some (.inl ((a:Int),(b:Int),(i:Int),(Sort.insInner bD a j l.toArray).toList,())):=by
 obtain ⟨r,q,G⟩:=lU (b:=xH) (λs:Nat×au=>((a:Int),(b:Int),(i:Int),(s.1:Int),s.2,())) (λs=>s.1)
  (λs=>s.1<s.2.length/\s.2.length<2^62) (λs r=>r=.inl ((a:Int),(b:Int),(i:Int),(Sort.insInner bD a s.1 s.2.toArray).toList,()))
  (λs aN=>by
   obtain ⟨j,l⟩:=s;obtain ⟨ak,ad⟩:=aN;simp only at ak ad;cases j with
   |zero=>
    right;refine ⟨_,?_,rfl⟩;have c: ¬(((0:Nat):Int)>(a:Int)):=u;simp only[xH,BE,bm c,ay];rfl
   |succ j=>
    by_cases aV:j+1>a
    ·have c:(((j+1:Nat):Int)>(a:Int)):=u;have w:=Tn (j:=j) u;simp only[xH,BE,aX c,an,eP ak,w,eP (show j<l.length by omega),mF,mz,bE,List.length_set];cases bu:bD (l.getD (j+1) gm) (l.getD j gm)
     ·right;refine ⟨_,rfl,?_⟩;unfold Sort.insInner;rw[gW,gW,bu];simp
     ·left;refine ⟨(j,gr l (j+1) j),rfl,⟨by simp only[gR];omega,by simp only[gR];exact ad⟩,aU,λr ar=> ?_⟩;rw[ar];have:Sort.insInner bD a (j+1) l.toArray=Sort.insInner bD a j (gr l (j+1) j).toArray:=by
       conv=>lhs;unfold Sort.insInner
       rw[gW,gW,bu,lv];simp[aV]
      simp only[this]
    ·right;have c: ¬(((j+1:Nat):Int)>(a:Int)):=u;refine ⟨_,?_,rfl⟩;simp only[xH,BE,bm c,ay];have:Sort.insInner bD a (j+1) l.toArray=l.toArray:=by unfold Sort.insInner;simp[aV]
     rw[this]) (j,l) ⟨ak,ad⟩ (by simp only;omega)
 rw[show HC ((a:Int),(b:Int),(i:Int),(j:Int),l,())=some r from q,G]
theorem w9 {α:Type} [Inhabited α] (I:Array α) (i j:Nat):(Sort.swp I i j).size=I.size:=by simp[Sort.swp]
theorem ZI (a:Nat): ∀(j:Nat) (I:Array aL),(Sort.insInner bD a j I).size=I.size
 |0,_=>rfl
 |j+1,I=>by
  unfold Sort.insInner;split
  ·rw[ZI a j,w9]
  ·rfl
theorem aqq (a b:Nat) (l:au) (L:b<=l.length) (ad:l.length<2^62) (gz:a<=b):
  Hq ((a:Int),(b:Int),l,())=some ((Sort.insertionSort bD l.toArray a b).toList,()):=by
 obtain ⟨r,q,G⟩:=lU (b:=B2) (λs:Nat×au=>((a:Int),(b:Int),(s.1:Int),s.2,())) (λs=>b-s.1)
  (λs=>b<=s.2.length/\s.2.length<2^62/\s.1<=b+1) (λs r=>r=.inl ((Sort.insOuter bD a b s.1 s.2.toArray).toList,()))
  (λs aN=>by
   obtain ⟨i,l⟩:=s;obtain ⟨L,ad,E⟩:=aN;simp only at L ad E;by_cases ku:i<b
   ·left;have c:((i:Int)<(b:Int)):=u;have e:=arD a b i l i u ad;have w:=fv (j:=i) u;simp only[B2,aX c,an,e,w];have ah:(Sort.insInner bD a i l.toArray).toList.length=l.length:=by rw[ix,ZI];rfl
    refine ⟨(i+1,(Sort.insInner bD a i l.toArray).toList),rfl,⟨by simp only[ah];exact L,by simp only[ah];exact ad,by simp only;omega⟩,by simp only;omega,λr ar=> ?_⟩;rw[ar];have:Sort.insOuter bD a b i l.toArray=Sort.insOuter bD a b (i+1) (Sort.insInner bD a i l.toArray):=by
     conv=>lhs;unfold Sort.insOuter
     rw[if_pos ku]
    simp only[this,Array.toArray_toList]
   ·right;have c: ¬((i:Int)<(b:Int)):=u;refine ⟨_,?_,rfl⟩;have:Sort.insOuter bD a b i l.toArray=l.toArray:=by unfold Sort.insOuter;rw[if_neg ku]
    simp only[B2,bm c,ay,this]) (a+1,l) ⟨L,ad,by simp only;omega⟩ (by simp only;omega)
 have w:=fv (j:=a) u;have dr:Qf ((a:Int),(b:Int),((a+1:Nat):Int),l,())=some r:=q;subst G;simp only[Hq,w,dr];rfl
theorem Ee {i j:Nat} (h:i+j<9223372036854775808):i64.wrap ((i:Int)+(j:Int))=((i+j:Nat):Int):=by rw[cR u];omega
theorem MD: ∀(n E first root:Nat) (I:Array aL),E-root<=n->(Sort.siftDown bD E first root I).size=I.size:=by
 intro n
 induction n with
 |zero=>
  intro E first root I h
  unfold Sort.siftDown;rw[dif_pos u]
 |succ n aR=>
  intro E first root I h
  unfold Sort.siftDown;split
  ·rfl
  ·split
   ·split
    ·rfl
    ·split
     ·rw[aR _ _ _ _ u,w9]
     ·rfl
   ·split
    ·rfl
    ·rw[aR _ _ _ _ u,w9]
theorem adJ (aQ E first:Nat) (l:au) (q:first+E<=l.length) (G:l.length<2^62) (ab:aQ<=l.length):
  B3 ((aQ:Int),(E:Int),(first:Int),l,())=some ((Sort.siftDown bD E first aQ l.toArray).toList,()):=by
 obtain ⟨r,g1,g2⟩:=lU (b:=u6) (λs:Nat×au=>((E:Int),(first:Int),(s.1:Int),s.2,())) (λs=>E+1-s.1)
  (λs=>first+E<=s.2.length/\s.2.length<2^62/\s.1<=s.2.length)
  (λs r=>r=.inl ((Sort.siftDown bD E first s.1 s.2.toArray).toList,())\/r=.inr ((Sort.siftDown bD E first s.1 s.2.toArray).toList,()))
  (λs aN=>by
   obtain ⟨root,l⟩:=s;obtain ⟨q,G,ab⟩:=aN;simp only at q G ab;have hZ:i64.wrap (i64.wrap ((2:Int)*(root:Int))+1)=((2*root+1:Nat):Int):=by rw[cR (x:=2*(root:Int)) u,cR u];omega
   by_cases aw:2*root+1>=E
   ·right;have c:(((2*root+1:Nat):Int)>=(E:Int)):=u;refine ⟨_,?_,.inl rfl⟩;have e:Sort.siftDown bD E first root l.toArray=l.toArray:=by unfold Sort.siftDown;rw[dif_pos aw]
    simp only[u6,hZ,aX c,an,e]
   ·have c: ¬(((2*root+1:Nat):Int)>=(E:Int)):=u;have dn:=fv (j:=2*root+1) u;have da:=Ee (i:=first) (j:=2*root+1) u;have gH:=fv (j:=first+(2*root+1)) u;have Eb:=Ee (i:=first) (j:=root) u;have tail: ∀mc:Nat,mc<E->root<mc->(bD (l.getD (first+root) gm) (l.getD (first+mc) gm)=false->Sort.siftDown bD E first root l.toArray=l.toArray)->
      (bD (l.getD (first+root) gm) (l.getD (first+mc) gm)=true->Sort.siftDown bD E first root l.toArray=Sort.siftDown bD E first mc (gr l (first+root) (first+mc)).toArray)->
      (∃t:Nat×au,BP ((E:Int),(first:Int),(root:Int),(mc:Int),l,())=some (.inl ((E:Int),(first:Int),(t.1:Int),t.2,()))/\(first+E<=t.2.length/\t.2.length<2^62/\t.1<=t.2.length)/\E+1-t.1<E+1-root/\
       ∀r,(r=.inl ((Sort.siftDown bD E first t.1 t.2.toArray).toList,())\/r=.inr ((Sort.siftDown bD E first t.1 t.2.toArray).toList,()))->(r=Sum.inl ((Sort.siftDown bD E first root l.toArray).toList,())\/r=Sum.inr ((Sort.siftDown bD E first root l.toArray).toList,())))\/
      (∃r,BP ((E:Int),(first:Int),(root:Int),(mc:Int),l,())=some (.inr r)/\(r=Sum.inl ((Sort.siftDown bD E first root l.toArray).toList,())\/r=Sum.inr ((Sort.siftDown bD E first root l.toArray).toList,()))):=by
     intro mc nE bu M V;have Tg:=Ee (i:=first) (j:=mc) u;simp only[BP,Eb,Tg,eP (show first+root<l.length by omega),eP (show first+mc<l.length by omega),an,bE,mF,mz,List.length_set];cases L:bD (l.getD (first+root) gm) (l.getD (first+mc) gm)
     ·right;refine ⟨_,rfl,.inr ?_⟩;rw[M L]
     ·left;refine ⟨(mc,gr l (first+root) (first+mc)),rfl,⟨by simp only[gR];exact q,by simp only[gR];exact G,by simp only[gR];omega⟩,by simp only;omega,λr ar=> ?_⟩;rw[V L];exact ar
    by_cases lM:2*root+1+1<E
    ·have ba:(((2*root+1+1:Nat):Int)<(E:Int)):=u;cases L:bD (l.getD (first+(2*root+1)) gm) (l.getD (first+(2*root+1)+1) gm)
     ·have:=tail (2*root+1) u u (λeE=>by
       unfold Sort.siftDown;rw[dif_neg aw];simp only[gW,L,eE,Bool.and_false,cU,if_true,Bool.false_eq_true,if_false]) (λeE=>by
       conv=>lhs;unfold Sort.siftDown
       rw[dif_neg aw];simp only[gW,lv,L,eE,Bool.and_false,cL,Bool.false_eq_true,if_false])
      simp only[u6,BQ,hZ,dn,da,gH,bm c,aX ba,an,ay,eP (show first+(2*root+1)<l.length by omega),eP (show first+(2*root+1)+1<l.length by omega),bE,mF,mz,L];exact this
     ·have:=tail (2*root+1+1) u u (λeE=>by
       unfold Sort.siftDown;rw[dif_neg aw];simp only[gW,L,eE,lM,cJ,Bool.true_and,cU,if_true]) (λeE=>by
       conv=>lhs;unfold Sort.siftDown
       rw[dif_neg aw];simp only[gW,lv,L,eE,lM,cJ,Bool.true_and,cL,Bool.false_eq_true,if_false,if_true];exact dif_pos trivial)
      simp only[u6,BQ,hZ,dn,da,gH,bm c,aX ba,an,ay,eP (show first+(2*root+1)<l.length by omega),eP (show first+(2*root+1)+1<l.length by omega),bE,mF,mz,L];exact this
    ·have ba: ¬(((2*root+1+1:Nat):Int)<(E:Int)):=u;have:=tail (2*root+1) u u (λeE=>by
      unfold Sort.siftDown;rw[dif_neg aw];simp only[gW,eE,lM,decide_false,Bool.false_and,cU,if_true,Bool.false_eq_true,if_false]) (λeE=>by
      conv=>lhs;unfold Sort.siftDown
      rw[dif_neg aw];simp only[gW,lv,eE,lM,decide_false,Bool.false_and,cL,Bool.false_eq_true,if_false])
     simp only[u6,BQ,hZ,dn,bm c,bm ba,an,ay];exact this) (aQ,l) ⟨q,G,ab⟩ (by simp only;omega)
 have j4:R3 ((E:Int),(first:Int),(aQ:Int),l,())=some r:=g1;simp only[B3,j4];rcases g2 with rfl |rfl<;>rfl
theorem XL (E first:Nat): ∀(k:Nat) (I:Array aL),(Sort.heapBuild bD E first k I).size=I.size
 |0,_=>rfl
 |k+1,I=>by unfold Sort.heapBuild;rw[XL E first k,MD (E-k) E first k I (ca _)]
theorem akl (a b:Nat) (l:au) (gz:a<b) (L:b<=l.length) (ad:l.length<2^62):
  HY ((a:Int),(b:Int),l,())=some ((Sort.heapSort bD l.toArray a b).toList,()):=by
 obtain ⟨E,jm⟩: ∃E,b-a=E:=⟨_,rfl⟩;have hZ:i64.wrap ((b:Int)-(a:Int))=(E:Int):=by rw[cR u];omega
 have Tf:i64.wrap (Int.tdiv (i64.wrap ((E:Int)-1)) 2)=((((E-1)/2+1:Nat):Int)-1):=by
  have e:i64.wrap ((E:Int)-1)=((E-1:Nat):Int):=by rw[cR u];omega
  rw[e];have V:Int.tdiv (((E-1:Nat):Int)) 2=(((E-1)/2:Nat):Int):=by rw[Int.tdiv_eq_ediv_of_nonneg u];rfl
  rw[V,cR u];omega
 obtain ⟨r,g1,g2⟩:=lU (b:=B4) (λs:Nat×au=>((a:Int),(0:Int),(E:Int),(s.1:Int)-1,s.2,())) (λs=>s.1)
  (λs=>a+E<=s.2.length/\s.2.length<2^62/\s.1<=s.2.length+1) (λs r=>r=.inl ((a:Int),(0:Int),(E:Int),(Sort.heapBuild bD E a s.1 s.2.toArray).toList,()))
  (λs aN=>by
   obtain ⟨k,l⟩:=s;obtain ⟨q,G,ab⟩:=aN;simp only at q G ab;cases k with
   |zero=>
    right;have c: ¬(((0:Nat):Int)-1>=0):=u;refine ⟨_,?_,rfl⟩;simp only[B4,bm c,ay];rfl
   |succ k=>
    left;have e:(((k+1:Nat):Int)-1)=(k:Int):=u;have c:((k:Int)>=0):=u;have ah:=adJ k E a l q G u;have w:i64.wrap ((k:Int)-1)=(k:Int)-1:=cR u;have ea:(Sort.siftDown bD E a k l.toArray).toList.length=l.length:=by rw[ix,MD (E-k) E a k _ (ca _)];rfl
    simp only[B4,e,aX c,an,ah,w];refine ⟨(k,(Sort.siftDown bD E a k l.toArray).toList),rfl,⟨by simp only[ea];exact q,by simp only[ea];exact G,by simp only[ea];omega⟩,aU,λr ar=> ?_⟩;rw[ar];simp only[Array.toArray_toList];rfl) ((E-1)/2+1,l) ⟨by simp only;omega,ad,by simp only;omega⟩ (by simp only;omega)
 subst g2;have j4:R1 ((a:Int),(0:Int),(E:Int),((((E-1)/2+1:Nat):Int)-1),l,())=some (.inl ((a:Int),(0:Int),(E:Int),(Sort.heapBuild bD E a ((E-1)/2+1) l.toArray).toList,())):=g1;obtain ⟨m,hm⟩: ∃m,(Sort.heapBuild bD E a ((E-1)/2+1) l.toArray).toList=m:=⟨_,rfl⟩;have jU:m.length=l.length:=by rw[<-hm,ix,XL];rfl
 obtain ⟨r,bd,a6⟩:=lU (b:=B5) (λs:Nat×au=>((a:Int),(0:Int),(s.1:Int)-1,s.2,())) (λs=>s.1)
  (λs=>a+s.1<=s.2.length/\s.2.length<2^62) (λs r=>r=.inl ((Sort.heapPop bD a s.1 s.2.toArray).toList,()))
  (λs aN=>by
   obtain ⟨k,l⟩:=s;obtain ⟨q,G⟩:=aN;simp only at q G;cases k with
   |zero=>
    right;have c: ¬(((0:Nat):Int)-1>=0):=u;refine ⟨_,?_,rfl⟩;simp only[B5,bm c,ay];rfl
   |succ k=>
    left;have e:(((k+1:Nat):Int)-1)=(k:Int):=u;have c:((k:Int)>=0):=u;have da:=Ee (i:=a) (j:=k) u;have ah:=adJ 0 k a (gr l a (a+k)) (by rw[gR];omega) (by rw[gR];exact G) u;rw[Int.natCast_zero]at ah
    conv at ah=>lhs;unfold gr
    have w:i64.wrap ((k:Int)-1)=(k:Int)-1:=cR u;have ea:(Sort.siftDown bD k a 0 (gr l a (a+k)).toArray).toList.length=l.length:=by rw[ix,MD (k-0) k a 0 _ (ca _)];exact gR _ _ _
    simp only[B5,e,aX c,an,da,eP (show a+k<l.length by omega),eP (show a<l.length by omega),bE,List.length_set,ah,w];refine ⟨(k,(Sort.siftDown bD k a 0 (gr l a (a+k)).toArray).toList),rfl,⟨by simp only[ea];omega,by simp only[ea];exact G⟩,aU,λr ar=> ?_⟩;rw[ar];simp only[Array.toArray_toList];show _=Sum.inl ((Sort.heapPop bD a k (Sort.siftDown bD k a 0 (Sort.swp l.toArray a (a+k)))).toList,());rw[lv]) (E,m) ⟨by simp only;omega,by simp only;omega⟩ (by simp only;omega)
 subst a6;have gH:i64.wrap ((E:Int)-1)=(E:Int)-1:=cR u;have Sm:R2 ((a:Int),(0:Int),(E:Int)-1,m,())=some (.inl ((Sort.heapPop bD a E m.toArray).toList,())):=bd;have:Sort.heapSort bD l.toArray a b=Sort.heapPop bD a E m.toArray:=by unfold Sort.heapSort;rw[jm,<-hm,Array.toArray_toList]
 rw[this];unfold HY;dsimp only;rw[hZ,Tf,j4,hm];dsimp only;rw[gH,Sm]
abbrev uv:Type:=(Int)×(Int)×(Int)×(List (aL))×H
abbrev ho (a i j:Nat) (l:au):uv:=((a:Int),(i:Int),(j:Int),l,())
theorem FU (p:aL->Bool) (I:Array aL) (j i:Nat):Sort.scanUp p I j i=if i<=j&&p I[i]! then Sort.scanUp p I j (i+1) else i:=by
 conv=>lhs;unfold Sort.scanUp
theorem PH {b:uv->Option (uv⊕(uv⊕H))} (p:au->aL->Bool) (a j:Nat) (l:au) (aV:a<l.length) (ak:j<l.length) (ad:l.length<2^62)
  (L: ∀i:Nat,b (ho a i j l)=bif decide ((i:Int)<=(j:Int)) then (bif decide ((0:Int)<=(i:Int))&&decide ((i:Int)<(l.length:Int)) then (bif p l (l.getD i gm) then some (.inl ((a:Int),i64.wrap ((i:Int)+1),(j:Int),l,())) else some (.inr (.inl (ho a i j l)))) else none) else some (.inr (.inl (ho a i j l)))) (i:Nat):
  b6 b (ho a i j l)=some (.inl (ho a (Sort.scanUp (p l) l.toArray j i) j l)):=by
 by_cases Rj:i<=j
 ·obtain ⟨r,q,G⟩:=lU (b:=b) (λi:Nat=>ho a i j l) (λi=>j+1-i) (λi=>i<=j+1) (λi r=>r=.inl (ho a (Sort.scanUp (p l) l.toArray j i) j l))
   (λi E=>by
    simp only[L];by_cases pc:i<=j
    ·have c:((i:Int)<=(j:Int)):=u;have w:=fv (j:=i) u;rw[aX c,an,eP (show i<l.length by omega),an,w];cases aT:p l (l.getD i gm)
     ·right;refine ⟨_,rfl,?_⟩;rw[FU,gW,aT];simp
     ·left;refine ⟨i+1,rfl,u,u,λr ar=> ?_⟩;rw[FU,gW,aT];simp only[pc,cJ,bN,if_true];exact ar
    ·right;have c: ¬((i:Int)<=(j:Int)):=u;rw[bm c,ay];refine ⟨_,rfl,?_⟩;rw[FU];simp[pc]) i u u
  rw[q,G]
 ·have c: ¬((i:Int)<=(j:Int)):=u;have bY:=L i;rw[bm c,ay]at bY;have:Sort.scanUp (p l) l.toArray j i=i:=by rw[FU];simp[Rj]
  rw[this];exact nU (n:=1) (by rw[kc];omega) (by simp only[fY,bY])
theorem ON {b:uv->Option (uv⊕(uv⊕H))} (p:au->aL->Bool) (a i:Nat) (l:au) (aV:a<l.length) (ad:l.length<2^62) (E:1<=i)
  (L: ∀j:Nat,b (ho a i j l)=bif decide ((i:Int)<=(j:Int)) then (bif decide ((0:Int)<=(j:Int))&&decide ((j:Int)<(l.length:Int)) then (bif p l (l.getD j gm) then some (.inl ((a:Int),(i:Int),i64.wrap ((j:Int)-1),l,())) else some (.inr (.inl (ho a i j l)))) else none) else some (.inr (.inl (ho a i j l)))) (j:Nat) (ak:j<l.length):
  b6 b (ho a i j l)=some (.inl (ho a i (Sort.scanDown (p l) l.toArray i j) l)):=by
 obtain ⟨r,q,G⟩:=lU (b:=b) (λj:Nat=>ho a i j l) (λj=>j) (λj=>j<l.length) (λj r=>r=.inl (ho a i (Sort.scanDown (p l) l.toArray i j) l))
  (λj ak=>by
   simp only[L];cases j with
   |zero=>
    right;have c: ¬((i:Int)<=((0:Nat):Int)):=u;rw[bm c,ay];exact ⟨_,rfl,rfl⟩
   |succ j=>
    by_cases pc:i<=j+1
    ·have c:((i:Int)<=((j+1:Nat):Int)):=u;have w:=Tn (j:=j) u;rw[aX c,an,eP ak,an,w];cases aT:p l (l.getD (j+1) gm)
     ·right;refine ⟨_,rfl,?_⟩;unfold Sort.scanDown;rw[gW,aT];simp
     ·left;refine ⟨j,rfl,u,u,λr ar=> ?_⟩;rw[ar]
      conv=>rhs;unfold Sort.scanDown
      rw[gW,aT];simp only[pc,cJ,bN,if_true]
    ·right;have c: ¬((i:Int)<=((j+1:Nat):Int)):=u;rw[bm c,ay];refine ⟨_,rfl,?_⟩;unfold Sort.scanDown;simp[pc]) j ak u
 rw[q,G]
section
variable {a i j:Nat} {l:au}
theorem a37 (aV:a<l.length) (ak:j<l.length) (ad:l.length<2^62):Qw (ho a i j l)=some (.inl (ho a (Sort.scanUp (λx=> !bD (l.toArray)[a]! x) l.toArray j i) j l)):=by
 rw[gW];exact PH (b:=Hy) (λl x=> !bD (l.getD a gm) x) a j l aV ak ad (λi=>by simp only[Hy,eP aV,an,mF,mz,bE]) i
theorem akG (aV:a<l.length) (ak:j<l.length) (ad:l.length<2^62) (E:1<=i):Qx (ho a i j l)=some (.inl (ho a i (Sort.scanDown (λx=>bD (l.toArray)[a]! x) l.toArray i j) l)):=by
 rw[gW];exact ON (b:=Hz) (λl x=>bD (l.getD a gm) x) a i l aV ad E (λj=>by simp only[Hz,eP aV,an,mF,mz,bE]) j ak
theorem akL (aV:a<l.length) (ak:j<l.length) (ad:l.length<2^62):Sc (ho a i j l)=some (.inl (ho a (Sort.scanUp (λx=>bD x (l.toArray)[a]!) l.toArray j i) j l)):=by
 rw[gW];exact PH (b:=HO) (λl x=>bD x (l.getD a gm)) a j l aV ak ad (λi=>by simp only[HO,eP aV,an,mF,mz,bE]) i
theorem akN (aV:a<l.length) (ak:j<l.length) (ad:l.length<2^62):Se (ho a i j l)=some (.inl (ho a (Sort.scanUp (λx=>bD x (l.toArray)[a]!) l.toArray j i) j l)):=by
 rw[gW];exact PH (b:=HR) (λl x=>bD x (l.getD a gm)) a j l aV ak ad (λi=>by simp only[HR,eP aV,an,mF,mz,bE]) i
theorem akM (aV:a<l.length) (ak:j<l.length) (ad:l.length<2^62) (E:1<=i):Sd (ho a i j l)=some (.inl (ho a i (Sort.scanDown (λx=> !bD x (l.toArray)[a]!) l.toArray i j) l)):=by
 rw[gW];exact ON (b:=HP) (λl x=> !bD x (l.getD a gm)) a i l aV ad E (λj=>by simp only[HP,eP aV,an,mF,mz,bE]) j ak
theorem akO (aV:a<l.length) (ak:j<l.length) (ad:l.length<2^62) (E:1<=i):Sf (ho a i j l)=some (.inl (ho a i (Sort.scanDown (λx=> !bD x (l.toArray)[a]!) l.toArray i j) l)):=by
 rw[gW];exact ON (b:=HS) (λl x=> !bD x (l.getD a gm)) a i l aV ad E (λj=>by simp only[HS,eP aV,an,mF,mz,bE]) j ak
end
theorem arp: ∀(n a i j:Nat) (I:Array aL),j+1-i<=n->(Sort.partLoop bD a i j I).2.size=I.size/\(Sort.partLoop bD a i j I).1<=j:=by
 intro n
 induction n with
 |zero=>
  intro a i j I h;rw[Sort.partLoop_eq];have q:=Sort.scanUp_ge (λx=>bD x I[a]!) I j i;have G:=Sort.scanDown_le (λx=> !bD x I[a]!) I (Sort.scanUp (λx=>bD x I[a]!) I j i) j;rw[if_pos u];exact ⟨rfl,G⟩
 |succ n aR=>
  intro a i j I h;rw[Sort.partLoop_eq];have q:=Sort.scanUp_ge (λx=>bD x I[a]!) I j i;have G:=Sort.scanDown_le (λx=> !bD x I[a]!) I (Sort.scanUp (λx=>bD x I[a]!) I j i) j;split
  ·exact ⟨rfl,G⟩
  ·obtain ⟨ab,aE⟩:=aR a (Sort.scanUp (λx=>bD x I[a]!) I j i+1) (Sort.scanDown (λx=> !bD x I[a]!) I (Sort.scanUp (λx=>bD x I[a]!) I j i) j-1) (Sort.swp I (Sort.scanUp (λx=>bD x I[a]!) I j i) (Sort.scanDown (λx=> !bD x I[a]!) I (Sort.scanUp (λx=>bD x I[a]!) I j i) j)) u;rw[w9]at ab;exact ⟨ab,u⟩
theorem QO (i j:Nat):decide ((i:Int)>(j:Int))=decide (i>j):=by
 by_cases h:i>j
 ·rw[aX h,aX u]
 ·rw[bm h,bm u]
theorem aky (a:Nat) (yc:0<=a) (i j:Nat) (l:au) (aV:a<i) (ak:j<l.length) (o6:a<l.length) (ad:l.length<2^62):
  dl (ho a i j l)=some (.inl (((Sort.partEqLoop bD a i j l.toArray).1:Int),(Sort.partEqLoop bD a i j l.toArray).2.toList,())):=by
 obtain ⟨r,q,G⟩:=lU (b:=Hx) (λs:Nat×Nat×au=>ho a s.1 s.2.1 s.2.2) (λs=>s.2.1+1-s.1)
  (λs=>a<s.1/\s.2.1<s.2.2.length/\a<s.2.2.length/\s.2.2.length<2^62)
  (λs r=>r=.inl (((Sort.partEqLoop bD a s.1 s.2.1 s.2.2.toArray).1:Int),(Sort.partEqLoop bD a s.1 s.2.1 s.2.2.toArray).2.toList,()))
  (λs aN=>by
   obtain ⟨i,j,l⟩:=s;obtain ⟨aV,ak,o6,ad⟩:=aN;simp only at aV ak o6 ad;obtain ⟨i2,e5⟩: ∃x,Sort.scanUp (λx=> !bD (l.toArray)[a]! x) l.toArray j i=x:=⟨_,rfl⟩;obtain ⟨eu,hj⟩: ∃x,Sort.scanDown (λx=>bD (l.toArray)[a]! x) l.toArray i2 j=x:=⟨_,rfl⟩;have g1:=Sort.scanUp_ge (λx=> !bD (l.toArray)[a]! x) l.toArray j i;have g2:=Sort.scanDown_le (λx=>bD (l.toArray)[a]! x) l.toArray i2 j;rw[e5]at g1;rw[hj]at g2;have M:=a37 (a:=a) (i:=i) (j:=j) (l:=l) o6 ak ad;have V:=akG (a:=a) (i:=i2) (j:=j) (l:=l) o6 ak ad u;rw[e5]at M;rw[hj]at V;have eq:=Sort.partEqLoop_eq bD a i j l.toArray;rw[e5,hj]at eq;simp only[Hx,M,V,QO i2 eu];by_cases m5:i2>eu
   ·right;rw[if_pos m5]at eq;rw[aX m5,an,eq];exact ⟨_,rfl,rfl⟩
   ·left;rw[if_neg m5,lv]at eq;have dn:i64.wrap ((eu:Int)-1)=((eu-1:Nat):Int):=by rw[cR u];omega
    have da:=fv (j:=i2) u;rw[bm m5,ay];simp only[eP (show eu<l.length by omega),eP (show i2<l.length by omega),an,List.length_set,bE,dn,da];refine ⟨(i2+1,eu-1,gr l i2 eu),rfl,⟨by simp only;omega,by simp only[gR];omega,by simp only[gR];omega,by simp only[gR];omega⟩,by simp only;omega,λr ar=> ?_⟩;rw[eq];exact ar) (i,j,l) ⟨aV,ak,o6,ad⟩ (by simp only;omega)
 rw[show dl (ho a i j l)=some r from q,G]
theorem akB (a:Nat) (i j:Nat) (l:au) (aV:a<i) (ak:j<l.length) (o6:a<l.length) (ad:l.length<2^62):
  HT (ho a i j l)=some (.inl ((a:Int),((Sort.partLoop bD a i j l.toArray).1:Int),(Sort.partLoop bD a i j l.toArray).2.toList,())):=by
 obtain ⟨r,q,G⟩:=lU (b:=HQ) (λs:Nat×Nat×au=>ho a s.1 s.2.1 s.2.2) (λs=>s.2.1+1-s.1)
  (λs=>a<s.1/\s.2.1<s.2.2.length/\a<s.2.2.length/\s.2.2.length<2^62)
  (λs r=>r=.inl ((a:Int),((Sort.partLoop bD a s.1 s.2.1 s.2.2.toArray).1:Int),(Sort.partLoop bD a s.1 s.2.1 s.2.2.toArray).2.toList,()))
  (λs aN=>by
   obtain ⟨i,j,l⟩:=s;obtain ⟨aV,ak,o6,ad⟩:=aN;simp only at aV ak o6 ad;obtain ⟨i2,e5⟩: ∃x,Sort.scanUp (λx=>bD x (l.toArray)[a]!) l.toArray j i=x:=⟨_,rfl⟩;obtain ⟨eu,hj⟩: ∃x,Sort.scanDown (λx=> !bD x (l.toArray)[a]!) l.toArray i2 j=x:=⟨_,rfl⟩;have g1:=Sort.scanUp_ge (λx=>bD x (l.toArray)[a]!) l.toArray j i;have g2:=Sort.scanDown_le (λx=> !bD x (l.toArray)[a]!) l.toArray i2 j;rw[e5]at g1;rw[hj]at g2;have M:=akN (a:=a) (i:=i) (j:=j) (l:=l) o6 ak ad;have V:=akO (a:=a) (i:=i2) (j:=j) (l:=l) o6 ak ad u;rw[e5]at M;rw[hj]at V;have eq:=Sort.partLoop_eq bD a i j l.toArray;rw[e5,hj]at eq;simp only[HQ,M,V,QO i2 eu];by_cases m5:i2>eu
   ·right;rw[if_pos m5]at eq;rw[aX m5,an,eq];exact ⟨_,rfl,rfl⟩
   ·left;rw[if_neg m5,lv]at eq;have dn:i64.wrap ((eu:Int)-1)=((eu-1:Nat):Int):=by rw[cR u];omega
    have da:=fv (j:=i2) u;rw[bm m5,ay];simp only[eP (show eu<l.length by omega),eP (show i2<l.length by omega),an,List.length_set,bE,dn,da];refine ⟨(i2+1,eu-1,gr l i2 eu),rfl,⟨by simp only;omega,by simp only[gR];omega,by simp only[gR];omega,by simp only[gR];omega⟩,by simp only;omega,λr ar=> ?_⟩;rw[eq];exact ar) (i,j,l) ⟨aV,ak,o6,ad⟩ (by simp only;omega)
 rw[show HT (ho a i j l)=some r from q,G]
theorem asX (a b p:Nat) (l:au) (gz:a<b) (aT:p<b) (L:b<=l.length) (ad:l.length<2^62):
  BO ((a:Int),(b:Int),(p:Int),l,())=some (((Sort.partitionEqual bD l.toArray a b p).1:Int),(Sort.partitionEqual bD l.toArray a b p).2.toList,()):=by
 have dn:=fv (j:=a) u;have da:i64.wrap ((b:Int)-1)=((b-1:Nat):Int):=by rw[cR u];omega
 have e:=aky a (Nat.zero_le _) (a+1) (b-1) (gr l a p) u (by rw[gR];omega) (by rw[gR];omega) (by rw[gR];exact ad);unfold Sort.partitionEqual;rw[lv]
 conv at e=>lhs;unfold gr
 simp only[BO,eP (show p<l.length by omega),eP (show a<l.length by omega),an,List.length_set,bE,dn,da,e]
theorem akx (a b p:Nat) (l:au) (gz:a<b) (aT:p<b) (L:b<=l.length) (ad:l.length<2^62):
  d9 ((a:Int),(b:Int),(p:Int),l,())=some (((Sort.partition bD l.toArray a b p).1:Int),(Sort.partition bD l.toArray a b p).2.1,(Sort.partition bD l.toArray a b p).2.2.toList,()):=by
 have dn:=fv (j:=a) u;have da:i64.wrap ((b:Int)-1)=((b-1:Nat):Int):=by rw[cR u];omega
 obtain ⟨m,hm⟩: ∃m,gr l a p=m:=⟨_,rfl⟩;have jU:m.length=l.length:=by rw[<-hm,gR]
 obtain ⟨i2,e5⟩: ∃x,Sort.scanUp (λx=>bD x (m.toArray)[a]!) m.toArray (b-1) (a+1)=x:=⟨_,rfl⟩;obtain ⟨eu,hj⟩: ∃x,Sort.scanDown (λx=> !bD x (m.toArray)[a]!) m.toArray i2 (b-1)=x:=⟨_,rfl⟩;have g1:=Sort.scanUp_ge (λx=>bD x (m.toArray)[a]!) m.toArray (b-1) (a+1);have g2:=Sort.scanDown_le (λx=> !bD x (m.toArray)[a]!) m.toArray i2 (b-1);rw[e5]at g1;rw[hj]at g2;have M:=akL (a:=a) (i:=a+1) (j:=b-1) (l:=m) u u u;have V:=akM (a:=a) (i:=i2) (j:=b-1) (l:=m) u u u u;rw[e5]at M;rw[hj]at V;have hQ:Sort.partition bD l.toArray a b p=if i2>eu then (eu,true,Sort.swp m.toArray eu a) else ((Sort.partLoop bD a (i2+1) (eu-1) (Sort.swp m.toArray i2 eu)).1,false,Sort.swp (Sort.partLoop bD a (i2+1) (eu-1) (Sort.swp m.toArray i2 eu)).2 (Sort.partLoop bD a (i2+1) (eu-1) (Sort.swp m.toArray i2 eu)).1 a):=by unfold Sort.partition;rw[lv,hm];simp only[e5,hj]
 rw[hQ];have CH:(l.set a (l.getD p gm)).set p (l.getD a gm)=m:=hm;simp only[d9,eP (show p<l.length by omega),eP (show a<l.length by omega),an,List.length_set,bE,dn,da,CH,M,V,QO i2 eu];by_cases m5:i2>eu
 ·rw[aX m5,an,if_pos m5,lv];simp only[eP (show a<m.length by omega),eP (show eu<m.length by omega),an,List.length_set,bE];rfl
 ·rw[bm m5,ay,if_neg m5,lv];have gH:i64.wrap ((eu:Int)-1)=((eu-1:Nat):Int):=by rw[cR u];omega
  have kj:=fv (j:=i2) u;have e:=akB a (i2+1) (eu-1) (gr m i2 eu) u (by rw[gR];omega) (by rw[gR];omega) (by rw[gR];omega);obtain ⟨s1,s2⟩:=arp _ a (i2+1) (eu-1) (gr m i2 eu).toArray (ca _);obtain ⟨R,kq⟩: ∃R,Sort.partLoop bD a (i2+1) (eu-1) (gr m i2 eu).toArray=R:=⟨_,rfl⟩;rw[kq]at e s1 s2 ⊢;have jw:R.2.toList.length=l.length:=by rw[ix,s1];show (gr m i2 eu).length=_;rw[gR,jU]
  conv at e=>lhs;unfold gr
  have RN:Sort.swp R.2 R.1 a=(gr R.2.toList R.1 a).toArray:=by rw[<-lv]
  rw[RN];simp only[eP (show eu<m.length by omega),eP (show i2<m.length by omega),an,List.length_set,bE,gH,kj,e,eP (show R.1<R.2.toList.length by omega),eP (show a<R.2.toList.length by omega)];rfl
theorem L5 (I:Array aL) (b i:Nat):Sort.scanSorted bD I b i=if i<b&& !bD I[i]! I[i-1]! then Sort.scanSorted bD I b (i+1) else i:=by
 conv=>lhs;unfold Sort.scanSorted
theorem apI: ∀(n b i:Nat) (I:Array aL),b-i<=n->i<=b->i<=Sort.scanSorted bD I b i/\Sort.scanSorted bD I b i<=b:=by
 intro n
 induction n with
 |zero=>
  intro b i I h G;rw[L5];have: ¬i<b:=u;simp only[this,decide_false,Bool.false_and,Bool.false_eq_true,if_false];omega
 |succ n aR=>
  intro b i I h G;rw[L5];split
  ·rename_i aw;have bu:i<b:=by rw[bQ,dT]at aw;exact aw.1
   have:=aR b (i+1) I u u;omega
  ·omega
theorem YC: ∀(j:Nat) (I:Array aL),(Sort.shiftDown bD j I).size=I.size
 |0,_=>rfl
 |j+1,I=>by
  unfold Sort.shiftDown;split
  ·rfl
  ·rw[YC j,w9]
theorem N2 (b j:Nat) (I:Array aL):Sort.shiftUp bD b j I=if j<b then (if !bD I[j]! I[j-1]! then I else Sort.shiftUp bD b (j+1) (Sort.swp I j (j-1))) else I:=by
 conv=>lhs;unfold Sort.shiftUp
theorem ard: ∀(n b j:Nat) (I:Array aL),b-j<=n->(Sort.shiftUp bD b j I).size=I.size:=by
 intro n
 induction n with
 |zero=>
  intro b j I h;rw[N2,if_neg u]
 |succ n aR=>
  intro b j I h;rw[N2];split
  ·split
   ·rfl
   ·rw[aR _ _ _ u,w9]
  ·rfl
theorem akH (a b d:Nat) (l:au) (L:b<=l.length) (ad:l.length<2^62) (i:Nat) (E:1<=i) (ku:i<=b):
  Hh ((a:Int),(b:Int),(i:Int),(d:Int),l,())=some (.inl ((a:Int),(b:Int),((Sort.scanSorted bD l.toArray b i:Nat):Int),(d:Int),l,())):=by
 obtain ⟨r,q,G⟩:=lU (b:=BJ) (λi:Nat=>((a:Int),(b:Int),(i:Int),(d:Int),l,())) (λi=>b-i) (λi=>1<=i/\i<=b)
  (λi r=>r=.inl ((a:Int),(b:Int),((Sort.scanSorted bD l.toArray b i:Nat):Int),(d:Int),l,()))
  (λi E=>by
   obtain ⟨q,G⟩:=E;rw[L5,gW,gW];by_cases ku:i<b
   ·have c:((i:Int)<(b:Int)):=u;have w:i64.wrap ((i:Int)-1)=((i-1:Nat):Int):=by rw[cR u];omega
    have da:=fv (j:=i) u;simp only[BJ,aX c,an,eP (show i<l.length by omega),w,da,eP (show i-1<l.length by omega),mF,mz,bE];cases bu:bD (l.getD i gm) (l.getD (i-1) gm)
    ·left;refine ⟨i+1,rfl,u,u,λr ar=> ?_⟩;simp only[ku,cJ,cU,bN,if_true];exact ar
    ·right;refine ⟨_,rfl,?_⟩;simp
   ·right;have c: ¬((i:Int)<(b:Int)):=u;simp only[BJ,bm c,ay];refine ⟨_,rfl,?_⟩;simp[ku]) i ⟨E,ku⟩ u
 rw[show Hh ((a:Int),(b:Int),(i:Int),(d:Int),l,())=some r from q,G]
theorem akI (a b i d:Nat) (j:Nat) (l:au) (ak:j<l.length) (ad:l.length<2^62):
  Hi ((a:Int),(b:Int),(i:Int),(d:Int),(j:Int),l,())=some (.inl ((a:Int),(b:Int),(i:Int),(d:Int),(Sort.shiftDown bD j l.toArray).toList,())):=by
 obtain ⟨r,q,G⟩:=lU (b:=BK) (λs:Nat×au=>((a:Int),(b:Int),(i:Int),(d:Int),(s.1:Int),s.2,())) (λs=>s.1) (λs=>s.1<s.2.length/\s.2.length<2^62)
  (λs r=>r=.inl ((a:Int),(b:Int),(i:Int),(d:Int),(Sort.shiftDown bD s.1 s.2.toArray).toList,()))
  (λs aN=>by
   obtain ⟨j,l⟩:=s;obtain ⟨ak,ad⟩:=aN;simp only at ak ad;cases j with
   |zero=>
    right;refine ⟨_,?_,rfl⟩;have c: ¬(((0:Nat):Int)>=1):=u;simp only[BK,bm c,ay];rfl
   |succ j=>
    have c:(((j+1:Nat):Int)>=1):=u;have w:=Tn (j:=j) u;simp only[BK,aX c,an,eP ak,w,eP (show j<l.length by omega),mF,mz,bE,List.length_set];cases bu:bD (l.getD (j+1) gm) (l.getD j gm)
    ·right;refine ⟨_,rfl,?_⟩;unfold Sort.shiftDown;rw[gW,gW,bu];rfl
    ·left;refine ⟨(j,gr l (j+1) j),rfl,⟨by simp only[gR];omega,by simp only[gR];exact ad⟩,aU,λr ar=> ?_⟩;rw[ar];have:Sort.shiftDown bD (j+1) l.toArray=Sort.shiftDown bD j (gr l (j+1) j).toArray:=by
      conv=>lhs;unfold Sort.shiftDown
      rw[gW,gW,bu,lv];rfl
     simp only[this]) (j,l) ⟨ak,ad⟩ (by simp only;omega)
 rw[show Hi ((a:Int),(b:Int),(i:Int),(d:Int),(j:Int),l,())=some r from q,G]
theorem akJ (a b i d:Nat) (j:Nat) (l:au) (ak:1<=j) (CC:j<=b+1) (L:b<=l.length) (ad:l.length<2^62):
  Hj ((a:Int),(b:Int),(i:Int),(d:Int),(j:Int),l,())=some (.inl ((a:Int),(b:Int),(i:Int),(d:Int),(Sort.shiftUp bD b j l.toArray).toList,())):=by
 obtain ⟨r,q,G⟩:=lU (b:=BB) (λs:Nat×au=>((a:Int),(b:Int),(i:Int),(d:Int),(s.1:Int),s.2,())) (λs=>b-s.1) (λs=>1<=s.1/\s.1<=b+1/\b<=s.2.length/\s.2.length<2^62)
  (λs r=>r=.inl ((a:Int),(b:Int),(i:Int),(d:Int),(Sort.shiftUp bD b s.1 s.2.toArray).toList,()))
  (λs aN=>by
   obtain ⟨j,l⟩:=s;obtain ⟨ak,CC,L,ad⟩:=aN;simp only at ak CC L ad;have hu:=N2 b j l.toArray;rw[gW,gW,lv]at hu;by_cases bu:j<b
   ·have c:((j:Int)<(b:Int)):=u;have w:i64.wrap ((j:Int)-1)=((j-1:Nat):Int):=by rw[cR u];omega
    have da:=fv (j:=j) u;rw[if_pos bu]at hu;simp only[BB,aX c,an,eP (show j<l.length by omega),w,da,eP (show j-1<l.length by omega),mF,mz,bE,List.length_set];cases aw:bD (l.getD j gm) (l.getD (j-1) gm)
    ·right;refine ⟨_,rfl,?_⟩;rw[aw]at hu;rw[hu];rfl
    ·left;rw[aw]at hu;refine ⟨(j+1,gr l j (j-1)),rfl,⟨by simp only;omega,by simp only;omega,by simp only[gR];exact L,by simp only[gR];exact ad⟩,by simp only;omega,λr ar=> ?_⟩;rw[ar,hu];rfl
   ·right;have c: ¬((j:Int)<(b:Int)):=u;rw[if_neg bu]at hu;simp only[BB,bm c,ay,hu];exact ⟨_,rfl,rfl⟩) (j,l) ⟨ak,CC,L,ad⟩ (by simp only;omega)
 rw[show Hj ((a:Int),(b:Int),(i:Int),(d:Int),(j:Int),l,())=some r from q,G]
theorem aso (a b:Nat) (l:au) (gz:a<b) (L:b<=l.length) (ad:l.length<2^62):
  BD ((a:Int),(b:Int),l,())=some ((Sort.partialInsertionSort bD l.toArray a b).2,(Sort.partialInsertionSort bD l.toArray a b).1.toList,()):=by
 obtain ⟨r,q,G⟩:=lU (b:=BI) (λs:Nat×Nat×au=>((a:Int),(b:Int),(s.2.1:Int),((5-s.1:Nat):Int),s.2.2,())) (λs=>s.1)
  (λs=>s.1<=5/\a+1<=s.2.1/\s.2.1<=b/\b<=s.2.2.length/\s.2.2.length<2^62)
  (λs r=>r=.inl ((Sort.partialIns bD a b s.1 s.2.1 s.2.2.toArray).2,(Sort.partialIns bD a b s.1 s.2.1 s.2.2.toArray).1.toList,())\/((Sort.partialIns bD a b s.1 s.2.1 s.2.2.toArray).2=false/\r=.inr ((Sort.partialIns bD a b s.1 s.2.1 s.2.2.toArray).1.toList,())))
  (λs aN=>by
   obtain ⟨k,i,l⟩:=s;obtain ⟨af,E,ku,L,ad⟩:=aN;simp only at af E ku L ad;cases k with
   |zero=>
    right;refine ⟨_,?_,.inr ⟨rfl,rfl⟩⟩;have c: ¬(((5-0:Nat):Int)<5):=u;simp only[BI,bm c,ay];rfl
   |succ k=>
    have c:(((5-(k+1):Nat):Int)<5):=u;have ws:i64.wrap (((5-(k+1):Nat):Int)+1)=((5-k:Nat):Int):=by rw[cR u];omega
    have M:=akH a b (5-(k+1)) l L ad i u ku;obtain ⟨i2,e5⟩: ∃x,Sort.scanSorted bD l.toArray b i=x:=⟨_,rfl⟩;have g:=apI _ b i l.toArray (ca _) ku;rw[e5]at M g;have hQ:Sort.partialIns bD a b (k+1) i l.toArray=if i2=b then (l.toArray,true) else if b-a<50 then (l.toArray,false) else
      Sort.partialIns bD a b k i2 (if b-i2>=2 then Sort.shiftUp bD b (i2+1) (if i2-a>=2 then Sort.shiftDown bD (i2-1) (gr l i2 (i2-1)).toArray else (gr l i2 (i2-1)).toArray) else (if i2-a>=2 then Sort.shiftDown bD (i2-1) (gr l i2 (i2-1)).toArray else (gr l i2 (i2-1)).toArray)):=by
     rw[<-lv]
     conv=>lhs;unfold Sort.partialIns
     simp only[e5]
    rw[hQ];simp only[BI,aX c,an,M];by_cases eE:i2=b
    ·right;have ba:((i2:Int)=(b:Int)):=u;rw[aX ba,an,if_pos eE];exact ⟨_,rfl,.inl rfl⟩
    ·have ba: ¬((i2:Int)=(b:Int)):=u;have hZ:i64.wrap ((b:Int)-(a:Int))=((b-a:Nat):Int):=by rw[cR u];omega
     rw[bm ba,ay,if_neg eE,hZ];by_cases QR:b-a<50
     ·right;have c3:(((b-a:Nat):Int)<50):=u;rw[aX c3,an,if_pos QR];exact ⟨_,rfl,.inl rfl⟩
     ·left;have c3: ¬(((b-a:Nat):Int)<50):=u;have dn:i64.wrap ((i2:Int)-1)=((i2-1:Nat):Int):=by rw[cR u];omega
      have da:i64.wrap ((i2:Int)-(a:Int))=((i2-a:Nat):Int):=by rw[cR u];omega
      have gH:i64.wrap ((b:Int)-(i2:Int))=((b-i2:Nat):Int):=by rw[cR u];omega
      have kj:=fv (j:=i2) u;rw[bm c3,ay,if_neg QR];have half: ∀m:au,m.length=l.length->
        ∃cV:au,BH ((a:Int),(b:Int),(i2:Int),((5-(k+1):Nat):Int),m,())=some (.inl ((a:Int),(b:Int),(i2:Int),((5-k:Nat):Int),cV,()))/\cV.length=l.length/\
         cV.toArray=(if b-i2>=2 then Sort.shiftUp bD b (i2+1) m.toArray else m.toArray):=by
       intro m hm;by_cases G:b-i2>=2
       ·have c5:(((b-i2:Nat):Int)>=2):=u;have a1:=akJ a b i2 (5-(k+1)) (i2+1) m u u u u;refine ⟨(Sort.shiftUp bD b (i2+1) m.toArray).toList,?_,?_,?_⟩
        ·simp only[BH,gH,aX c5,an,kj,a1,ws]
        ·rw[ix,ard _ _ _ _ (ca _)];exact hm
        ·rw[if_pos G,Array.toArray_toList]
       ·have c5: ¬(((b-i2:Nat):Int)>=2):=u;refine ⟨m,?_,hm,by rw[if_neg G]⟩;simp only[BH,gH,bm c5,ay,ws]
      simp only[dn,da,eP (show i2-1<l.length by omega),eP (show i2<l.length by omega),an,bE,List.length_set];have RN:(l.set i2 (l.getD (i2-1) gm)).set (i2-1) (l.getD i2 gm)=gr l i2 (i2-1):=rfl;rw[RN];by_cases G:i2-a>=2
      ·have ga:(((i2-a:Nat):Int)>=2):=u;have V:=akI a b i2 (5-(k+1)) (i2-1) (gr l i2 (i2-1)) (by rw[gR];omega) (by rw[gR];exact ad);obtain ⟨cV,f1,f2,f3⟩:=half (Sort.shiftDown bD (i2-1) (gr l i2 (i2-1)).toArray).toList (by rw[ix,YC];exact gR _ _ _);rw[aX ga,an];simp only[V,f1];refine ⟨(k,i2,cV),rfl,⟨by simp only;omega,by simp only;omega,by simp only;omega,by simp only;omega,by simp only;omega⟩,aU,λr ar=> ?_⟩;rw[if_pos G];simp only[f3,Array.toArray_toList]at ar;exact ar
      ·have ga: ¬(((i2-a:Nat):Int)>=2):=u;obtain ⟨cV,f1,f2,f3⟩:=half (gr l i2 (i2-1)) (gR _ _ _);rw[bm ga,ay];simp only[f1];refine ⟨(k,i2,cV),rfl,⟨by simp only;omega,by simp only;omega,by simp only;omega,by simp only;omega,by simp only;omega⟩,aU,λr ar=> ?_⟩;rw[if_neg G];simp only[f3]at ar;exact ar) (5,a+1,l) ⟨aU,aU,by simp only;omega,L,ad⟩ aU
 have w:=fv (j:=a) u;have dr:P4 ((a:Int),(b:Int),((a+1:Nat):Int),(0:Int),l,())=some r:=q;unfold BD;dsimp only;rw[w,dr];rcases G with rfl |⟨ab,rfl⟩
 ·rfl
 ·have ab:(Sort.partialInsertionSort bD l.toArray a b).2=false:=ab;rw[ab];rfl
theorem OK (a b:Nat) (l:au) (d:Int) (aV:a<l.length) (L:b<l.length):
  ∃x y:Nat,∃gG:Int,x1 ((a:Int),(b:Int),l,d,())=some ((x:Int),(y:Int),l,gG,())/\((x=a/\y=b)\/(x=b/\y=a)):=by
 simp only[x1,eP L,eP aV,an,bE,mF,mz];cases bD (l.getD b gm) (l.getD a gm)
 ·exact ⟨a,b,_,rfl,.inl ⟨rfl,rfl⟩⟩
 ·exact ⟨b,a,_,rfl,.inr ⟨rfl,rfl⟩⟩
theorem ab9 (a b c:Nat) (l:au) (d:Int) (aV:a<l.length) (L:b<l.length) (aw:c<l.length):
  ∃x:Nat,∃gG:Int,B7 ((a:Int),(b:Int),(c:Int),l,d,())=some ((x:Int),l,gG,())/\(x=a\/x=b\/x=c):=by
 obtain ⟨n7,iV,s1,M,q⟩:=OK a b l d aV L;obtain ⟨oP,Kg,s2,V,G⟩:=OK iV c l s1 u aw;obtain ⟨tY,y3,jw,a1,ab⟩:=OK n7 oP l s2 u u;simp only[B7,M,V,a1];exact ⟨y3,_,rfl,u⟩
theorem OH (a:Nat) (l:au) (d:Int) (aV:1<=a) (L:a+1<l.length) (ad:l.length<2^62):
  ∃x:Nat,∃gG:Int,xM ((a:Int),l,d,())=some ((x:Int),l,gG,())/\a-1<=x/\x<=a+1:=by
 have dn:i64.wrap ((a:Int)-1)=((a-1:Nat):Int):=by rw[cR u];omega
 have da:=fv (j:=a) u;obtain ⟨x,gG,e,h⟩:=ab9 (a-1) a (a+1) l d u u L;simp only[xM,dn,da,e];exact ⟨x,_,rfl,u,u⟩
theorem Ve (n:Nat) (h:n<2^62):i64.wrap (Int.tdiv (n:Int) 4)=((n/4:Nat):Int):=by
 have V:Int.tdiv ((n:Nat):Int) 4=((n/4:Nat):Int):=by rw[Int.tdiv_eq_ediv_of_nonneg u];omega
 rw[V,cR u]
theorem ajM (a b:Nat) (l:au) (gz:a+12<b) (L:b<=l.length) (ad:l.length<2^62):
  ∃x:Nat,∃h:Int,HG ((a:Int),(b:Int),l,())=some ((x:Int),h,l,())/\a<=x/\x<b:=by
 have hZ:i64.wrap ((b:Int)-(a:Int))=((b-a:Nat):Int):=by rw[cR u];omega
 obtain ⟨n,aO⟩: ∃n,b-a=n:=⟨_,rfl⟩;rw[aO]at hZ;have s:=Ve n u;have M: ∀k:Nat,k<=3->i64.wrap ((a:Int)+i64.wrap (((n/4:Nat):Int)*(k:Int)))=((a+n/4*k:Nat):Int):=by
  intro k af;have kv:n/4*k<=n:=by have:n/4*k<=n/4*3:=Nat.mul_le_mul_left _ af;omega
  have e:((n/4:Nat):Int)*(k:Int)=((n/4*k:Nat):Int):=by rw[Int.natCast_mul]
  rw[e,cR (x:=((n/4*k:Nat):Int)) u,cR u];omega
 have f1:i64.wrap ((a:Int)+i64.wrap (((n/4:Nat):Int)*1))=((a+n/4*1:Nat):Int):=M 1 u;have f2:i64.wrap ((a:Int)+i64.wrap (((n/4:Nat):Int)*2))=((a+n/4*2:Nat):Int):=M 2 u;have f3:i64.wrap ((a:Int)+i64.wrap (((n/4:Nat):Int)*3))=((a+n/4*3:Nat):Int):=M 3 u;have u9:((n:Int)>=8):=u;have fin: ∀(i j k:Nat) (d:Int),a<=i->a<=j->a<=k->i<b->j<b->k<b-> ∃x:Nat,∃h:Int,Ho ((i:Int),(j:Int),(k:Int),l,d,())=some ((x:Int),h,l,())/\a<=x/\x<b:=by
  intro i j k d q G ab aE bf bF;obtain ⟨x,gG,e,h⟩:=ab9 i j k l d u u u;simp only[Ho,e];cases decide (gG=0)
  ·cases decide (gG=12)
   ·exact ⟨x,_,rfl,u,u⟩
   ·exact ⟨x,_,rfl,u,u⟩
  ·exact ⟨x,_,rfl,u,u⟩
 simp only[HG,hZ,s,f1,f2,f3,aX u9,an];by_cases QR:n>=50
 ·have P0:((n:Int)>=50):=u;obtain ⟨n7,s1,g1,g2,g3⟩:=OH (a+n/4*1) l 0 u u ad;obtain ⟨oP,s2,bd,a6,cp⟩:=OH (a+n/4*2) l s1 u u ad;obtain ⟨tY,jw,dH,cV,eV⟩:=OH (a+n/4*3) l s2 u u ad;simp only[aX P0,an,g1,bd,dH];exact fin n7 oP tY jw u u u u u u
 ·have P0: ¬((n:Int)>=50):=u;simp only[bm P0,ay];exact fin _ _ _ 0 u u u u u u
theorem anS (i j:Nat) (I:Array aL):Sort.reverseLoop i j I=if i<j then Sort.reverseLoop (i+1) (j-1) (Sort.swp I i j) else I:=by
 conv=>lhs;unfold Sort.reverseLoop
theorem asq (a b:Nat) (l:au) (gz:a<b) (L:b<=l.length) (ad:l.length<2^62):
  BU ((a:Int),(b:Int),l,())=some ((Sort.reverseRange l.toArray a b).toList,()):=by
 obtain ⟨r,q,G⟩:=lU (b:=BM) (λs:Nat×Nat×au=>((s.1:Int),(s.2.1:Int),s.2.2,())) (λs=>s.2.1-s.1) (λs=>s.1<=s.2.2.length/\s.2.1<s.2.2.length/\s.2.2.length<2^62)
  (λs r=>r=.inl ((Sort.reverseLoop s.1 s.2.1 s.2.2.toArray).toList,()))
  (λs aN=>by
   obtain ⟨i,j,l⟩:=s;obtain ⟨E,ak,ad⟩:=aN;simp only at E ak ad;have hu:=anS i j l.toArray;rw[lv]at hu;by_cases bu:i<j
   ·left;have c:((i:Int)<(j:Int)):=u;have dn:i64.wrap ((j:Int)-1)=((j-1:Nat):Int):=by rw[cR u];omega
    have da:=fv (j:=i) u;rw[if_pos bu]at hu;simp only[BM,aX c,an,eP ak,eP (show i<l.length by omega),bE,List.length_set,dn,da];refine ⟨(i+1,j-1,gr l i j),rfl,⟨by simp only[gR];omega,by simp only[gR];omega,by simp only[gR];exact ad⟩,by simp only;omega,λr ar=> ?_⟩;rw[ar,hu]
   ·right;have c: ¬((i:Int)<(j:Int)):=u;rw[if_neg bu]at hu;simp only[BM,bm c,ay,hu];exact ⟨_,rfl,rfl⟩) (a,b-1,l) ⟨by simp only;omega,by simp only;omega,ad⟩ (by simp only;omega)
 have w:i64.wrap ((b:Int)-1)=((b-1:Nat):Int):=by rw[cR u];omega
 have dr:QJ ((a:Int),((b-1:Nat):Int),l,())=some r:=q;unfold BU;dsimp only;rw[w,dr,G];rfl
def UP (k n:Nat):Bool:=match yA ((n:Int),(k:Int),()) with
 |some (v,_)=>decide ((k:Int)<=v)&&decide (v<=(k+8:Nat))&&(decide (n=0)||decide (2^(v-k).toNat<=2*n))
 |none=>false
theorem aiR:((List.range 8).all λk=>(List.range 256).all (UP (8*k)))=true:=aC
theorem akR (n:Nat) (h:n<256) (k:Nat) (af:k<8): ∃v:Nat,yA ((n:Int),((8*k:Nat):Int),())=some (((8*k+v:Nat):Int),())/\(n≠0->2^v<=2*n)/\v<=8:=by
 have q:=fC.1 (fC.1 aiR k (List.mem_range.2 af)) n (List.mem_range.2 h);unfold UP at q;cases e:yA ((n:Int),((8*k:Nat):Int),()) with
 |none=>rw[e]at q;cases q
 |some r=>
  obtain ⟨v,ae⟩:=r;rw[e]at q;have q:(decide (((8*k:Nat):Int)<=v)&&decide (v<=(8*k+8:Nat))&&(decide (n=0)||decide (2^(v-((8*k:Nat):Int)).toNat<=2*n)))=true:=q;rw[bQ,bQ,Bool.or_eq_true,dT,dT,dT,dT]at q;obtain ⟨⟨G,ab⟩,aE⟩:=q;refine ⟨(v-((8*k:Nat):Int)).toNat,?_,λaO=>aE.resolve_left aO,u⟩;have:((8*k+(v-((8*k:Nat):Int)).toNat:Nat):Int)=v:=u;rw[this]
theorem OZ (n k:Nat) (af:k<=64):Int.fdiv (n:Int) (2^(min (Int.toNat (k:Int)) IntKind.u64.bits))=((n/2^k:Nat):Int):=by
 have:min (Int.toNat (k:Int)) IntKind.u64.bits=k:=by show min k 64=k;omega
 rw[this,Int.fdiv_eq_ediv_of_nonneg _ (by exact Int.le_of_lt (Int.pow_pos u))];rw[Int.natCast_ediv,Int.natCast_pow];rfl
theorem UQ (n:Nat) (h:n<2^62) (bY:n≠0): ∃v:Nat,y2 ((n:Int),())=some ((v:Int),())/\2^v<=2*n/\v<=64:=by
 have shift: ∀(m k d v:Nat),2^v<=2^(k+d)*(2*(m/2^d))->2^v<=2^k*(2*m):=by
  intro m k d v a8;refine Nat.le_trans a8 ?_;rw[Nat.pow_add,Nat.mul_assoc];have q:2^d*(m/2^d)<=m:=Nat.mul_div_le m (2^d);have G:2^d*(2*(m/2^d))=2*(2^d*(m/2^d)):=by rw[Nat.mul_left_comm]
  rw[G];exact Nat.mul_le_mul_left _ u
 have dL: ∀(m k:Nat),m≠0->m<256->k<8-> ∃v:Nat,yA ((m:Int),((8*k:Nat):Int),())=some ((v:Int),())/\2^v<=2^(8*k)*(2*m)/\v<=8*k+8:=by intro m k bY hm af;obtain ⟨v,e,q,G⟩:=akR m hm k af;refine ⟨8*k+v,e,?_,u⟩;rw[Nat.pow_add];exact Nat.mul_le_mul_left _ (q bY)
 have cd: ∀(m k:Nat),m≠0->m<65536->k<7-> ∃v:Nat,I0 ((m:Int),((8*k:Nat):Int),())=some ((v:Int),())/\2^v<=2^(8*k)*(2*m)/\v<=8*k+16:=by
  intro m k bY hm af;unfold I0;dsimp only;by_cases q:m>=256
  ·have c:((m:Int)>=256):=u;have w:i64.wrap (((8*k:Nat):Int)+8)=((8*(k+1):Nat):Int):=by rw[cR u];omega
   have I:=OZ m 8 u;have I:Int.fdiv (m:Int) (2^(min (Int.toNat (8:Int)) IntKind.u64.bits))=((m/2^8:Nat):Int):=I;obtain ⟨v,e,G,ab⟩:=dL (m/2^8) (k+1) u u u;rw[aX c,an,I,w,e];exact ⟨v,rfl,shift m (8*k) 8 v G,u⟩
  ·have c: ¬((m:Int)>=256):=u;obtain ⟨v,e,G,ab⟩:=dL m k bY u u;rw[bm c,ay,e];exact ⟨v,rfl,G,u⟩
 have gQ: ∀(m k:Nat),m≠0->m<4294967296->k<5-> ∃v:Nat,yz ((m:Int),((8*k:Nat):Int),())=some ((v:Int),())/\2^v<=2^(8*k)*(2*m)/\v<=8*k+32:=by
  intro m k bY hm af;unfold yz;dsimp only;by_cases q:m>=65536
  ·have c:((m:Int)>=65536):=u;have w:i64.wrap (((8*k:Nat):Int)+16)=((8*(k+2):Nat):Int):=by rw[cR u];omega
   have I:Int.fdiv (m:Int) (2^(min (Int.toNat (16:Int)) IntKind.u64.bits))=((m/2^16:Nat):Int):=OZ m 16 u;obtain ⟨v,e,G,ab⟩:=cd (m/2^16) (k+2) u u u;rw[aX c,an,I,w,e];exact ⟨v,rfl,shift m (8*k) 16 v G,u⟩
  ·have c: ¬((m:Int)>=65536):=u;obtain ⟨v,e,G,ab⟩:=cd m k bY u u;rw[bm c,ay,e];exact ⟨v,rfl,G,u⟩
 unfold y2 TH;dsimp only;by_cases q:n>=4294967296
 ·have c:((n:Int)>=4294967296):=u;have I:Int.fdiv (n:Int) (2^(min (Int.toNat (32:Int)) IntKind.u64.bits))=((n/2^32:Nat):Int):=OZ n 32 u;obtain ⟨v,e,G,ab⟩:=gQ (n/2^32) 4 u u u;have e:yz (((n/2^32:Nat):Int),(32:Int),())=some ((v:Int),()):=e;rw[aX c,an,I,e];refine ⟨v,rfl,?_,u⟩;have:=shift n 0 32 v G;simpa using this
 ·have c: ¬((n:Int)>=4294967296):=u;obtain ⟨v,e,G,ab⟩:=gQ n 0 bY u u;have e:yz ((n:Int),(0:Int),())=some ((v:Int),()):=e;rw[bm c,ay,e];refine ⟨v,rfl,?_,u⟩;simpa using G
theorem asZ (l m:au) (a b i j:Nat) (h:Sort.PermIn a b l.toArray m.toArray) (E:a<=i/\i<b) (ak:a<=j/\j<b) (L:b<=m.length):Sort.PermIn a b l.toArray (gr m i j).toArray:=by rw[<-lv];exact Sort.permIn_trans _ _ _ a b h (Sort.swp_permIn _ a b i j E.1 E.2 ak.1 ak.2 (by simpa using L))
theorem ajc (a b:Nat) (l:au) (gz:a+12<b) (L:b<=l.length) (ad:l.length<2^62):
  ∃m:au,Hp ((a:Int),(b:Int),l,())=some (m,())/\Sort.PermIn a b l.toArray m.toArray:=by
 have hZ:i64.wrap ((b:Int)-(a:Int))=((b-a:Nat):Int):=by rw[cR u];omega
 obtain ⟨n,aO⟩: ∃n,b-a=n:=⟨_,rfl⟩;rw[aO]at hZ;have s:=Ve n u;have u9:((n:Int)>=8):=u;obtain ⟨v,db,a8,RU⟩:=UQ n u u;have hu:IntKind.u64.wrap (n:Int)=(n:Int):=by show (n:Int)%2^64=_;omega
 have aT:2^v<9223372036854775808:=u;have vu:1<=2^v:=Nat.one_le_two_pow;have lK:IN ((n:Int),())=some (((2^v:Nat):Int),()):=by
  have c: ¬((v:Int)<0):=u;have Rt:min (Int.toNat (v:Int)) IntKind.u64.bits=v:=by show min v 64=v;omega
  simp only[IN,hu,db,bm c,ay,Rt];have e:(1:Int)*2^v=((2^v:Nat):Int):=by rw[Int.one_mul,Int.natCast_pow];rfl
  rw[e];have:IntKind.u64.wrap ((2^v:Nat):Int)=((2^v:Nat):Int):=by show ((2^v:Nat):Int)%2^64=_;omega
  rw[this]
 have V:i64.wrap ((a:Int)+i64.wrap (((n/4:Nat):Int)*2))=((a+n/4*2:Nat):Int):=by have e:((n/4:Nat):Int)*2=((n/4*2:Nat):Int):=u;rw[e,cR (x:=((n/4*2:Nat):Int)) u,cR u];omega
 have gH:i64.wrap (((a+n/4*2:Nat):Int)-1)=((a+n/4*2-1:Nat):Int):=by rw[cR u];omega
 have kj:i64.wrap (((a+n/4*2:Nat):Int)+1)=((a+n/4*2+1:Nat):Int):=by rw[cR u];omega
 obtain ⟨r,q,m,rfl,avo,ja⟩:=lU (b:=co) (λs:Nat×au×Int=>((a:Int),(n:Int),((2^v:Nat):Int),(s.1:Int),s.2.1,s.2.2,())) (λs=>b-s.1)
  (λs=>a<=s.1/\s.1<=a+n/4*2+2/\s.2.1.length=l.length/\Sort.PermIn a b l.toArray s.2.1.toArray)
  (λs r=> ∃m:au,r=.inl (m,())/\m.length=l.length/\Sort.PermIn a b l.toArray m.toArray)
  (λs aN=>by
   obtain ⟨i,m,azX⟩:=s;obtain ⟨q,G,ab,aE⟩:=aN;simp only at q G ab aE;by_cases E:i<=a+n/4*2+1
   ·left;have c:((i:Int)<=((a+n/4*2+1:Nat):Int)):=u;have JT:=fv (j:=i) u;have ayR:IntKind.u64.wrap (((2^v:Nat):Int)-1)=((2^v-1:Nat):Int):=by show (((2^v:Nat):Int)-1)%2^64=_;omega
    have fin: ∀(o:Nat) (SV:Int),o<n-> ∃t:Nat×au×Int,Hf ((a:Int),(n:Int),((2^v:Nat):Int),(i:Int),(o:Int),m,SV,())=some (.inl ((a:Int),(n:Int),((2^v:Nat):Int),(t.1:Int),t.2.1,t.2.2,()))/\
      (a<=t.1/\t.1<=a+n/4*2+2/\t.2.1.length=l.length/\Sort.PermIn a b l.toArray t.2.1.toArray)/\b-t.1<b-i/\ ∀r:(au×H)⊕H,(∃m:au,r=.inl (m,())/\m.length=l.length/\Sort.PermIn a b l.toArray m.toArray)->(∃m:au,r=.inl (m,())/\m.length=l.length/\Sort.PermIn a b l.toArray m.toArray):=by
     intro o SV W;have wo:=Ee (i:=a) (j:=o) u;simp only[Hf,wo,eP (show a+o<m.length by omega),eP (show i<m.length by omega),an,bE,List.length_set,JT];refine ⟨(i+1,gr m i (a+o),SV),rfl,⟨by simp only;omega,by simp only;omega,by simp only[gR];exact ab,asZ l m a b i (a+o) aE ⟨q,u⟩ ⟨u,u⟩ u⟩,by simp only;omega,λr ar=>ar⟩
    simp only[co,s,V,kj,aX c,an,SW,ayR];generalize IntKind.u64.wrap ((BitVec.ofInt IntKind.u64.bits _ ^^^ BitVec.ofInt IntKind.u64.bits (IntKind.u64.wrap (_*2^(min (Int.toNat (17:Int)) IntKind.u64.bits)))).toNat:Int)=R;obtain ⟨o,W⟩: ∃o:Nat,(BitVec.ofInt IntKind.u64.bits R &&& BitVec.ofInt IntKind.u64.bits ((2^v-1:Nat):Int)).toNat=o:=⟨_,rfl⟩;have dB:o<=2^v-1:=by rw[<-W,BitVec.toNat_and];refine Nat.le_trans Nat.and_le_right ?_;rw[BitVec.toNat_ofInt];show ((((2^v-1:Nat):Int)%((2^64:Nat):Int)).toNat)<=_;omega
    rw[W];have ayT:IntKind.u64.wrap (o:Int)=(o:Int):=by show (o:Int)%2^64=_;omega
    have ayS:i64.wrap (o:Int)=(o:Int):=cR u;rw[ayT,ayS];by_cases avz:o>=n
    ·have ba:((o:Int)>=(n:Int)):=u;have Eb:i64.wrap ((o:Int)-(n:Int))=((o-n:Nat):Int):=by rw[cR u];omega
     rw[aX ba,an,Eb];exact fin (o-n) R u
    ·have ba: ¬((o:Int)>=(n:Int)):=u;rw[bm ba,ay];exact fin o R u
   ·right;have c: ¬((i:Int)<=((a+n/4*2+1:Nat):Int)):=u;simp only[co,s,V,kj,bm c,ay];exact ⟨_,rfl,m,rfl,ab,aE⟩) (a+n/4*2-1,l,(n:Int)) ⟨by simp only;omega,by simp only;omega,rfl,Sort.permIn_refl _ a b⟩ (by simp only;omega)
 have dr:Qd ((a:Int),(n:Int),((2^v:Nat):Int),((a+n/4*2-1:Nat):Int),l,(n:Int),())=some (.inl (m,())):=q;refine ⟨m,?_,ja⟩;simp only[Hp,hZ,aX u9,an,hu,lK,s,V,gH,dr]
def r7 (a b:Nat) (l m:au):Prop:=Sort.PermIn a b l.toArray m.toArray/\Sort.SortedIn bD a b m.toArray
theorem PermIn.len {a b:Nat} {l m:au} (h:Sort.PermIn a b l.toArray m.toArray):m.length=l.length:=by simpa using h.1
abbrev ug:Type:=((Int)×(Int)×(Int)×(List (aL))×H)->Option ((List (aL))×H)
abbrev KF:Type:=(Int)×(Int)×(Int)×(Bool)×(Bool)×(List (aL))×H
def so (r:ug) (a7:Nat):Prop:= ∀(a b:Nat) (lim:Int) (l:au),a<=b->b<=l.length->l.length<2^62->b-a<a7->Sort.Below bD a b l.toArray->
 ∃m,r ((a:Int),(b:Int),lim,l,())=some (m,())/\r7 a b l m
structure Next (a b:Nat) (l:au) (d:KF):Prop where
 ex: ∃(bs bX:Nat) (lim:Int) (iv wp:Bool) (m:au),d=((bs:Int),(bX:Int),lim,iv,wp,m,())/\bs<=bX/\bX<=m.length/\m.length=l.length/\Sort.Below bD bs bX m.toArray/\bX-bs<b-a/\ ∀x,r7 bs bX m x->r7 a b l x
theorem Next.pre {a b:Nat} {l m:au} {d:KF} (h:Next a b m d) (aT:Sort.PermIn a b l.toArray m.toArray):Next a b l d:=by obtain ⟨bs,bX,lim,iv,wp,x,q,G,ab,aE,bf,bF,dU⟩:=h.ex;exact ⟨bs,bX,lim,iv,wp,x,q,G,ab,aE.trans (PermIn.len aT),bf,bF,λy bt=>⟨Sort.permIn_trans _ _ _ a b aT (dU y bt).1,(dU y bt).2⟩⟩
theorem akb (r:ug) (a b a7 p:Nat) (lim len:Int) (l:au) (ar:so r a7) (jj:b-a<=a7) (vu:a<=p) (m8:p<b) (L:b<=l.length) (ad:l.length<2^62) (di:Sort.Below bD a b l.toArray):
  ∃d,qR r ((a:Int),(b:Int),lim,len,(p:Int),l,())=some (.inl d)/\Next a b l d:=by
 have e:=akx a b p l u m8 L ad;obtain ⟨ju,ap,d4,al⟩: ∃ju ap d4,Sort.partition bD l.toArray a b p=(ju,ap,d4):=⟨_,_,_,rfl⟩;obtain ⟨m,rfl⟩: ∃m:au,d4=m.toArray:=⟨d4.toList,aU⟩;obtain ⟨q,G,ab,aE,bf,bF,dU⟩:=Sort.round_part Ak (Sort.partition_holds bD) vu m8 (by simpa using L) di al;have jU:m.length=l.length:=by simpa using ab
 rw[al]at e;have e:d9 ((a:Int),(b:Int),(p:Int),l,())=some ((ju:Int),ap,m,()):=e;have dn:i64.wrap ((ju:Int)-(a:Int))=((ju-a:Nat):Int):=by rw[cR u];omega
 have da:i64.wrap ((b:Int)-(ju:Int))=((b-ju:Nat):Int):=by rw[cR u];omega
 have gH:=fv (j:=ju) u;simp only[qR,e,dn,da,gH];by_cases aw:ju-a<b-ju
 ·have c:(((ju-a:Nat):Int)<((b-ju:Nat):Int)):=u;obtain ⟨ax,f1,f2,f3⟩:=ar a ju lim m q u u u aE;obtain ⟨bd,a6⟩:=bF ax.toArray f2 f3;rw[aX c,an,f1];have QX:ax.length=l.length:=(PermIn.len f2).trans jU;exact ⟨_,rfl,⟨ju+1,b,_,_,_,ax,rfl,u,u,QX,bd,u,λx al=>a6 x.toArray al.1 al.2⟩⟩
 ·have c: ¬(((ju-a:Nat):Int)<((b-ju:Nat):Int)):=u;obtain ⟨ax,f1,f2,f3⟩:=ar (ju+1) b lim m u u u u bf;obtain ⟨bd,a6⟩:=dU ax.toArray f2 f3;rw[bm c,ay,f1];have QX:ax.length=l.length:=(PermIn.len f2).trans jU;exact ⟨_,rfl,⟨a,ju,_,_,_,ax,rfl,u,u,QX,bd,u,λx al=>a6 x.toArray al.1 al.2⟩⟩
theorem aka (r:ug) (a b a7 p:Nat) (lim len:Int) (iv wp:Bool) (l:au) (ar:so r a7) (jj:b-a<=a7) (vu:a<=p) (m8:p<b) (L:b<=l.length) (ad:l.length<2^62) (di:Sort.Below bD a b l.toArray):
  ∃d,(l8 r ((a:Int),(b:Int),lim,iv,wp,len,(p:Int),l,())=some (.inl d)\/l8 r ((a:Int),(b:Int),lim,iv,wp,len,(p:Int),l,())=some (.inr d))/\Next a b l d:=by
 obtain ⟨d,g1,g2⟩:=akb r a b a7 p lim len l ar jj vu m8 L ad di;by_cases aV:a>0
 ·have c:((a:Int)>0):=u;have dn:i64.wrap ((a:Int)-1)=((a-1:Nat):Int):=by rw[cR u];omega
  simp only[l8,aX c,an,dn,eP (show a-1<l.length by omega),eP (show p<l.length by omega),bE,mF,mz];cases bu:bD (l.getD (a-1) gm) (l.getD p gm)
  ·have e:=asX a b p l u m8 L ad;obtain ⟨ju,d4,al⟩: ∃ju d4,Sort.partitionEqual bD l.toArray a b p=(ju,d4):=⟨_,_,rfl⟩;obtain ⟨m,rfl⟩: ∃m:au,d4=m.toArray:=⟨d4.toList,aU⟩;have im:bD (l.toArray)[a-1]! (l.toArray)[p]! =false:=by rw[gW,gW];exact bu
   obtain ⟨q,G,ab,aE,bf⟩:=Sort.round_eq Ak (Sort.partitionEqual_holds bD) aV vu m8 (by simpa using L) di im al;have jU:m.length=l.length:=by simpa using ab
   rw[al]at e;have e:BO ((a:Int),(b:Int),(p:Int),l,())=some ((ju:Int),m,()):=e;simp only[pK,cU,an,e];exact ⟨_,.inr rfl,⟨ju,b,_,_,_,m,rfl,u,u,jU,aE,u,λx al=>bf x.toArray al.1 al.2⟩⟩
  ·simp only[pK,cL,ay,g1];exact ⟨_,.inl rfl,g2⟩
 ·have c: ¬((a:Int)>0):=u;simp only[l8,bm c,ay,pK,g1];exact ⟨_,.inl rfl,g2⟩
def Fg (a b:Nat) (l:au) (x:Option (KF⊕(((List (aL))×H)⊕(H)))):Prop:=
 (∃d,x=some (.inl d)/\Next a b l d)\/(∃m,x=some (.inr (.inl (m,())))/\r7 a b l m)
theorem Vc (r:ug) (a b a7 p:Nat) (lim len hint:Int) (iv wp:Bool) (l:au) (ar:so r a7) (jj:b-a<=a7) (vu:a<=p) (m8:p<b) (L:b<=l.length) (ad:l.length<2^62) (di:Sort.Below bD a b l.toArray):
  Fg a b l (Hs r ((a:Int),(b:Int),lim,iv,wp,len,(p:Int),hint,l,())):=by
 have flag: ∀f:Bool,(∃m,ns r ((a:Int),(b:Int),lim,iv,wp,len,(p:Int),f,l,())=some (.inl ((a:Int),(b:Int),lim,iv,wp,len,(p:Int),m,()))/\Sort.PermIn a b l.toArray m.toArray)\/
   (∃m,ns r ((a:Int),(b:Int),lim,iv,wp,len,(p:Int),f,l,())=some (.inr (m,()))/\r7 a b l m):=by
  intro f;cases f with
  |false=>
   left;exact ⟨l,by simp only[ns,ay],Sort.permIn_refl _ a b⟩
  |true=>
   have e:=aso a b l u L ad;obtain ⟨q,G⟩:=Sort.partialInsertionSort_holds (lt:=bD) Ak l.toArray a b u (by simpa using L) di;obtain ⟨I,f2,al⟩: ∃I f2,Sort.partialInsertionSort bD l.toArray a b=(I,f2):=⟨_,_,rfl⟩;obtain ⟨m,rfl⟩: ∃m:au,I=m.toArray:=⟨I.toList,aU⟩;rw[al]at e q G;have e:BD ((a:Int),(b:Int),l,())=some (f2,m,()):=e;simp only[ns,an,e];cases f2 with
   |true=>exact .inr ⟨m,rfl,q,G rfl⟩
   |false=>exact .inl ⟨m,rfl,q⟩
 have go: ∀m,Sort.PermIn a b l.toArray m.toArray-> ∃d,(l8 r ((a:Int),(b:Int),lim,iv,wp,len,(p:Int),m,())=some (.inl d)\/l8 r ((a:Int),(b:Int),lim,iv,wp,len,(p:Int),m,())=some (.inr d))/\Next a b l d:=by intro m hm;have jU:=PermIn.len hm;obtain ⟨d,q,G⟩:=aka r a b a7 p lim len iv wp m ar jj vu m8 u u (di.perm (by simpa using L) hm);exact ⟨d,q,G.pre hm⟩
 unfold Hs;dsimp only;have fin: ∀f:Bool,Fg a b l (match ns r ((a:Int),(b:Int),lim,iv,wp,len,(p:Int),f,l,()) with
   |none=>none
   |some (.inl aD)=>
    match l8 r (aD.1,aD.2.1,aD.2.2.1,aD.2.2.2.1,aD.2.2.2.2.1,aD.2.2.2.2.2.1,aD.2.2.2.2.2.2.1,aD.2.2.2.2.2.2.2.1,()) with
    |none=>none
    |some (.inl z2)=>
     some (.inl (z2.1,z2.2.1,z2.2.2.1,z2.2.2.2.1,z2.2.2.2.2.1,z2.2.2.2.2.2.1,()))
    |some (.inr z2)=>
     some (.inl (z2.1,z2.2.1,z2.2.2.1,z2.2.2.2.1,z2.2.2.2.2.1,z2.2.2.2.2.2.1,()))
   |some (.inr aD)=>
    some (.inr (.inl (aD.1,())))):=by
  intro f;rcases flag f with ⟨m,e,hm⟩|⟨m,e,hm⟩
  ·rw[e];obtain ⟨d,q |q,G⟩:=go m hm
   ·dsimp only;rw[q];exact .inl ⟨d,rfl,G⟩
   ·dsimp only;rw[q];exact .inl ⟨d,rfl,G⟩
  ·rw[e];exact .inr ⟨m,rfl,hm⟩
 cases iv with
 |false=>exact fin false
 |true=>
  cases wp with
  |false=>exact fin false
  |true=>exact fin _
theorem Vb (r:ug) (a b a7:Nat) (lim len:Int) (iv wp:Bool) (l:au) (ar:so r a7) (jj:b-a<=a7) (gz:a+12<b) (L:b<=l.length) (ad:l.length<2^62) (di:Sort.Below bD a b l.toArray):
  Fg a b l (Hr r ((a:Int),(b:Int),lim,iv,wp,len,l,())):=by
 obtain ⟨p,h,e,q,G⟩:=ajM a b l gz L ad;simp only[Hr,e];cases aw:decide (h=2)
 ·simp only[ay];exact Vc r a b a7 p lim len h iv wp l ar jj q G L ad di
 ·have V:=asq a b l u L ad;have aT:=Sort.reverseRange_holds l.toArray a b u (by simpa using L);obtain ⟨m,hm⟩: ∃m:au,Sort.reverseRange l.toArray a b=m.toArray:=⟨(Sort.reverseRange l.toArray a b).toList,aU⟩;rw[hm]at V aT;have jU:=PermIn.len aT;have V:BU ((a:Int),(b:Int),l,())=some (m,()):=V;have dn:i64.wrap ((b:Int)-1)=((b-1:Nat):Int):=by rw[cR u];omega
  have da:i64.wrap ((p:Int)-(a:Int))=((p-a:Nat):Int):=by rw[cR u];omega
  have gH:i64.wrap (((b-1:Nat):Int)-((p-a:Nat):Int))=((b-1-(p-a):Nat):Int):=by rw[cR u];omega
  simp only[an,V,dn,da,gH];have:=Vc r a b a7 (b-1-(p-a)) lim len 1 iv wp m ar jj u u u u (di.perm (by simpa using L) aT);rcases this with ⟨d,bd,a6⟩|⟨x,bd,a6⟩
  ·exact .inl ⟨d,bd,a6.pre aT⟩
  ·exact .inr ⟨x,bd,Sort.permIn_trans _ _ _ a b aT a6.1,a6.2⟩
theorem alg (r:ug) (a b a7:Nat) (lim:Int) (iv wp:Bool) (l:au) (ar:so r a7) (jj:b-a<=a7) (gz:a<=b) (L:b<=l.length) (ad:l.length<2^62) (di:Sort.Below bD a b l.toArray):
  Fg a b l (xS r ((a:Int),(b:Int),lim,iv,wp,l,())):=by
 have hZ:i64.wrap ((b:Int)-(a:Int))=((b-a:Nat):Int):=by rw[cR u];omega
 unfold xS;dsimp only;rw[hZ];by_cases azr:b-a<=12
 ·have c:(((b-a:Nat):Int)<=12):=u;rw[aX c,an,aqq a b l L ad gz];have:=Sort.insertionSort_holds (lt:=bD) Ak l.toArray a b gz (by simpa using L);refine .inr ⟨(Sort.insertionSort bD l.toArray a b).toList,rfl,?_⟩;unfold r7;rw[Array.toArray_toList];exact this
 ·have c: ¬(((b-a:Nat):Int)<=12):=u;rw[bm c,ay];cases azF:decide (lim=0)
  ·rw[ay];cases iv with
   |true=>
    simp only[cL,ay];exact Vb r a b a7 lim _ true wp l ar jj u L ad di
   |false=>
    obtain ⟨m,e,aT⟩:=ajc a b l u L ad;have jU:=PermIn.len aT;simp only[cU,an,e];have:=Vb r a b a7 (i64.wrap (lim-1)) ((b-a:Nat):Int) false wp m ar jj u u u (di.perm (by simpa using L) aT);rcases this with ⟨d,bd,a6⟩|⟨x,bd,a6⟩
    ·exact .inl ⟨d,bd,a6.pre aT⟩
    ·exact .inr ⟨x,bd,Sort.permIn_trans _ _ _ a b aT a6.1,a6.2⟩
  ·rw[an,akl a b l u L ad];have:=Sort.heapSort_holds (lt:=bD) Ak l.toArray a b gz (by simpa using L);refine .inr ⟨(Sort.heapSort bD l.toArray a b).toList,rfl,?_⟩;unfold r7;rw[Array.toArray_toList];exact this
theorem a24 (r:ug) (a7:Nat) (ar:so r a7) (jj:a7<2^62):so (BT r) (a7+1):=by
 intro a b lim l gz L ad aO di;obtain ⟨x,q,m,rfl,G⟩:=lU (b:=xS r) (λs:Nat×Nat×Int×Bool×Bool×au=>((s.1:Int),(s.2.1:Int),s.2.2.1,s.2.2.2.1,s.2.2.2.2.1,s.2.2.2.2.2,())) (λs=>s.2.1-s.1)
  (λs=>s.1<=s.2.1/\s.2.1<=s.2.2.2.2.2.length/\s.2.2.2.2.2.length<2^62/\s.2.1-s.1<=a7/\Sort.Below bD s.1 s.2.1 s.2.2.2.2.2.toArray)
  (λs x=> ∃m,x=.inl (m,())/\r7 s.1 s.2.1 s.2.2.2.2.2 m)
  (λs aN=>by
   obtain ⟨a,b,lim,iv,wp,l⟩:=s;obtain ⟨q,G,ab,aE,bf⟩:=aN;simp only at q G ab aE bf;rcases alg r a b a7 lim iv wp l ar aE q G ab bf with ⟨d,bd,a6⟩|⟨x,bd,a6⟩
   ·left;obtain ⟨bs,bX,awr,ayQ,ayU,m,rfl,dH,cV,eV,lW,qe,agV⟩:=a6.ex;exact ⟨(bs,bX,awr,ayQ,ayU,m),bd,⟨dH,cV,by simp only;omega,by simp only;omega,lW⟩,qe,λx ⟨y,bt,ah⟩=>⟨y,bt,agV y ah⟩⟩
   ·right;exact ⟨_,bd,x,rfl,a6⟩) (a,b,lim,true,true,l) ⟨gz,L,ad,by simp only;omega,di⟩ (by simp only;omega)
 have dr:HL r ((a:Int),(b:Int),lim,true,true,l,())=some (.inl (m,())):=q;exact ⟨m,by simp only[BT,dr],G⟩
theorem akh: ∀a7:Nat,a7<2^62-> ∀n,a7<=n->so (HU n) a7:=by
 intro a7
 induction a7 with
 |zero=>
  intro _ n _ a b lim l _ _ _ h _;omega
 |succ a7 aR=>
  intro jj n aO;obtain ⟨n,rfl⟩: ∃k,n=k+1:=⟨n-1,u⟩;exact a24 _ a7 (aR u n u) u
def Uy (l:au):Prop:=l.Pairwise λa b=>Op.bytesLess b.1 a.1=false
theorem as7 (l:au) (ad:l.length<10^12): ∃m,HK (l,())=some (m,())/\m.Perm l/\Uy m:=by
 have hu:IntKind.u64.wrap (l.length:Int)=(l.length:Int):=by show (l.length:Int)%2^64=_;omega
 obtain ⟨v,a8⟩: ∃v,y2 ((l.length:Int),())=some (v,()):=by
  by_cases bY:l.length=0
  ·rw[bY];exact ⟨0,by rfl⟩
  ·obtain ⟨v,e,-⟩:=UQ l.length u bY;exact ⟨_,e⟩
 obtain ⟨m,e,aT,ah⟩:=akh (l.length+1) u jf (by rw[kc];omega) 0 l.length v l (Nat.zero_le _) (ca _) u u (.inl rfl);have e:Ss ((0:Int),(l.length:Int),v,l,())=some (m,()):=e;have jU:=PermIn.len aT;refine ⟨m,by simp only[HK,hu,a8,e],?_,?_⟩
 ·have:=aT.2.2;have M:(m.toArray.extract 0 l.length).toList=m:=by rw[<-jU];simp
  have V:(l.toArray.extract 0 l.length).toList=l:=aU;rw[M,V]at this;exact this
 ·refine List.pairwise_iff_getElem.2 λi j E ak pc=> ?_
  have:=ah i j (Nat.zero_le _) pc u;rw[gW,gW,b5 E,b5 ak]at this;exact this
def bZ (x:aL):Bool:= !jC x
theorem Oe (x:aL):la (x,())=some (!bZ x,()):=by rw[Ec];unfold bZ;simp
def eb (ax:au) (x:ck):Bool:=ax.any λd=>ch d x.1
theorem arK (cP:au) (p:aL) (ad:cP.length<=10^17):ce (cP,p,())=some (cP.any (λw=>kh w p),cP,p,()):=by
 obtain ⟨z,q,G⟩:=dG (b:=ci) (λi (_:H)=>((cP.length:Int),(i:Int),cP,p,())) cP.length (λi _=>(cP.take i).any (λw=>kh w p)=false) (λz=>(z=.inr (cP,p,())/\cP.any (λw=>kh w p)=false)\/(∃i:Nat,z=.inl ((i:Int),cP,p,())/\cP.any (λw=>kh w p)=true)) u
  (λi E _ aN=>by
   have M:=e3 (i:=i) (l:=cP) u;have V:=dR i;have a1:=e6 i u;simp only[ci,M,V,an,bN,bE,b5 E,SZ,Fy,Ec,Ov,Bool.not_not,a1];cases h:kh cP[i] p
   ·refine .inl ⟨(),?_,rfl⟩;rw[eK E,List.any_append,aN];simp[h]
   ·exact .inr ⟨_,.inr ⟨i,rfl,List.any_eq_true.2 ⟨_,dI E,h⟩⟩,rfl⟩)
  (λ_ aN=>by have M:=fD cP;rw[ew]at aN;exact ⟨_,.inl ⟨rfl,aN⟩,by simp only[ci,M,ay]⟩) () rfl
 have dr:Qt ((cP.length:Int),0,cP,p,())=some z:=q;rcases G with ⟨rfl,ab⟩|⟨i,rfl,ab⟩
 ·simp only[ce,Hn,dr,ab];rfl
 ·have e:bG ((i:Int)>=(0:Int)):=aX u;simp only[ce,Hn,dr,ab,e]
theorem arJ (cP:au) (p:ck) (ad:cP.length<=10^17):BX (cP,p,())=some (cP.any (λw=>ch w p.1),p,()):=by
 obtain ⟨z,q,G⟩:=dG (b:=BZ) (λi (_:H)=>(cP,(cP.length:Int),(i:Int),p,())) cP.length (λi _=>(cP.take i).any (λw=>ch w p.1)=false) (λz=>(z=.inr (p,())/\cP.any (λw=>ch w p.1)=false)\/(∃i:Nat,z=.inl ((i:Int),p,())/\cP.any (λw=>ch w p.1)=true)) u
  (λi E _ aN=>by
   have M:=e3 (i:=i) (l:=cP) u;have V:=dR i;have a1:=e6 i u;simp only[BZ,M,V,an,bN,bE,b5 E,TV,ac5,a1];cases h:ch cP[i] p.1
   ·refine .inl ⟨(),?_,rfl⟩;rw[eK E,List.any_append,aN];simp[h]
   ·exact .inr ⟨_,.inr ⟨i,rfl,List.any_eq_true.2 ⟨_,dI E,h⟩⟩,rfl⟩)
  (λ_ aN=>by have M:=fD cP;rw[ew]at aN;exact ⟨_,.inl ⟨rfl,aN⟩,by simp only[BZ,M,ay]⟩) () rfl
 have dr:Qs (cP,(cP.length:Int),0,p,())=some z:=q;rcases G with ⟨rfl,ab⟩|⟨i,rfl,ab⟩
 ·simp only[BX,Hm,dr,ab];rfl
 ·have e:bG ((i:Int)>=(0:Int)):=aX u;simp only[BX,Hm,dr,ab,e]
theorem NY (x:ck) (ax:au) (nD:ax.length<=10^17):D5 (x,ax,())=some (!eb ax x,ax,()):=by simp only[D5,arJ ax x nD];rfl
theorem ako (l:au) (ad:l.length<=10^12):
  (xL (l,())=some ((-1:Int),l,())/\l.filter bZ=l)\/ ∃i:Nat,i<l.length/\xL (l,())=some ((i:Int),l,())/\(l.take (i+1)).filter bZ=l.take i:=by
 obtain ⟨z,q,G⟩:=dG (b:=BY) (λi (_:H)=>((l.length:Int),(i:Int),l,())) l.length (λi _=>(l.take i).filter bZ=l.take i) (λz=>(z=.inr (l,())/\l.filter bZ=l)\/(∃i:Nat,i<l.length/\z=.inl ((i:Int),l,())/\(l.take (i+1)).filter bZ=l.take i)) u
  (λi E _ aN=>by
   have M:=e3 (i:=i) (l:=l) u;have V:=dR i;have a1:=e6 i u;simp only[BY,M,V,an,bN,bE,b5 E,Oe,Bool.not_not,a1];cases aW:bZ l[i]
   ·refine .inr ⟨_,.inr ⟨i,E,rfl,?_⟩,rfl⟩;rw[eK E,List.filter_append,aN];simp[aW]
   ·refine .inl ⟨(),?_,rfl⟩;rw[eK E,List.filter_append,aN];simp[aW])
  (λ_ aN=>by have M:=fD l;rw[ew]at aN;exact ⟨_,.inl ⟨rfl,aN⟩,by simp only[BY,M,ay]⟩) () rfl
 have dr:Qr ((l.length:Int),0,l,())=some z:=q;rcases G with ⟨rfl,ab⟩|⟨i,E,rfl,ab⟩
 ·exact .inl ⟨by simp only[xL,dr],ab⟩
 ·exact .inr ⟨i,E,by simp only[xL,dr],ab⟩
theorem aji (l:au) (ad:l.length<=10^12):BS (l,())=some (l.filter bZ,()):=by
 rcases ako l ad with ⟨q,G⟩|⟨i0,Rj,q,G⟩
 ·have e:bG ((-1:Int)=(-1:Int)):=rfl;simp only[BS,q,cJ,an,G]
 ·have e:(decide ((i0:Int)=(-1:Int)))=false:=bm u;have hZ:=e6 i0 u;have hlen: ∀j,((l.take j).filter bZ).length<=j:=λj=>Nat.le_trans (h0 _ _) (by rw[ev];omega)
  obtain ⟨z,g1,g2⟩:=dG (b:=xJ) (λk (d:au)=>(((((l.take (i0+1+k)).filter bZ).length:Nat):Int),((i0+1+k:Nat):Int),d,())) (l.length-(i0+1))
   (λk d=>d.length=l.length/\d.take ((l.take (i0+1+k)).filter bZ).length=(l.take (i0+1+k)).filter bZ/\d.drop (i0+1+k)=l.drop (i0+1+k)/\((l.take (i0+1+k)).filter bZ).length<i0+1+k)
   (λz=> ∃d:au,z=.inl ((((l.filter bZ).length:Nat):Int),d,())/\d.length=l.length/\d.take (l.filter bZ).length=l.filter bZ) u
   (λk af d ah=>by
    left;obtain ⟨s1,s2,jw,py⟩:=ah;obtain ⟨j,ak⟩: ∃j,i0+1+k=j:=⟨_,rfl⟩;rw[show i0+1+(k+1)=j+1 by omega];rw[ak]at s2 jw py ⊢;have vn:j<l.length:=u;have mm:j<d.length:=u;have CR:d[j]=l[j]:=by have dF:=lZ mm;have a2:=lZ vn;rw[jw,a2]at dF;exact (List.cons.inj dF).1.symm
    have Cq:d.drop (j+1)=l.drop (j+1):=by have dF:=lZ mm;have a2:=lZ vn;rw[jw,a2]at dF;exact (List.cons.inj dF).2.symm
    have M:=e3 (i:=j) (l:=d) u;have V:=dR j;have a1:=e6 j u;obtain ⟨c,aw⟩: ∃c,((l.take j).filter bZ).length=c:=⟨_,rfl⟩;have auD:c<=j:=by rw[<-aw];exact hlen j
    have rl:(l.take (j+1)).filter bZ=(l.take j).filter bZ++[l[j]].filter bZ:=by rw[eK vn,List.filter_append]
    cases aW:bZ l[j] with
    |false=>
     have nK:(l.take (j+1)).filter bZ=(l.take j).filter bZ:=by rw[rl];simp[aW]
     refine ⟨d,⟨s1,by rw[nK];exact s2,Cq,by rw[nK];omega⟩,?_⟩;rw[nK];simp only[xJ,M,V,an,bN,bE,b5 mm,CR,Oe,aW,cU,cL,ay,a1]
    |true=>
     have nK:(l.take (j+1)).filter bZ=(l.take j).filter bZ++[l[j]]:=by rw[rl];simp[aW]
     have h5:((l.take (j+1)).filter bZ).length=c+1:=by rw[nK,eF,aw];rfl
     rw[aw]at s2 py;have bp:=dR c;have cI:bG ((c:Int)<((d.length):Int)):=aX u;have c9:=e6 c u;refine ⟨d.set c l[j],⟨by rw[List.length_set];exact s1,?_,?_,?_⟩,?_⟩
     ·rw[h5,nK];have p0:c<(d.set c l[j]).length:=by rw[List.length_set];omega
      rw[eK p0,List.take_set_of_le (ca _),s2];simp
     ·rw[List.drop_set_of_lt u];exact Cq
     ·rw[h5];omega
     ·rw[h5,aw];simp only[xJ,M,V,bp,cI,an,bN,bE,b5 mm,CR,Oe,aW,cL,cU,a1,c9])
   (λd ah=>by
    obtain ⟨s1,s2,jw,py⟩:=ah;rw[show i0+1+(l.length-(i0+1))=l.length by omega]at s2 jw py ⊢;rw[ew]at s2 py ⊢;have M:(decide (((l.length:Nat):Int)<((d.length):Int)))=false:=bm u;exact ⟨_,⟨d,rfl,s1,s2⟩,by simp only[xJ,M,ay]⟩) l (by
    refine ⟨rfl,?_,rfl,?_⟩
    ·rw[Nat.add_zero,G,ev,Nat.min_eq_left u]
    ·rw[Nat.add_zero,G,ev];omega)
  obtain ⟨d,rfl,s1,s2⟩:=g2;have gE:((((l.take (i0+1+0)).filter bZ).length:Nat):Int)=(i0:Int):=by rw[Nat.add_zero,G,ev,Nat.min_eq_left u]
  have j4:QH ((i0:Int),((i0+1:Nat):Int),l,())=some (.inl ((((l.filter bZ).length:Nat):Int),d,())):=by rw[<-gE];exact g1
  have lO:(l.filter bZ).length<=l.length:=h0 _ _;obtain ⟨c,aw⟩: ∃c,(l.filter bZ).length=c:=⟨_,rfl⟩;rw[aw]at j4 s2 lO;have bp:=dR c;have cI:bG ((c:Int)<=((d.length):Int)):=aX u;have c9:bG (((d.length):Int)<=((d.length):Int)):=aX (Int.le_refl _);have fV: ∀r:au,(decide ((c:Int)<=((List.length (List.take c d++r)):Int)))=true:=λr=>aX (by rw[eF,ev];omega)
  have kK: ∀r:au,List.take c (List.take c d++r)=l.filter bZ:=λr=>by rw[List.take_append_of_le_length (by rw[ev];omega),List.take_take,Nat.min_self,s2]
  simp only[BS,q,e,ay,hZ,j4,bp,cI,cJ,bN,Bool.true_and,an,bE,List.append_assoc,fV,kK,c9]
theorem akn (l:aj) (p:au) (ad:l.length<=10^12) (aT:p.length<=10^17):
  (xV (l,p,())=some ((-1:Int),l,p,())/\l.filter (eb p)=l)\/ ∃i:Nat,i<l.length/\xV (l,p,())=some ((i:Int),l,p,())/\(l.take (i+1)).filter (eb p)=l.take i:=by
 obtain ⟨z,q,G⟩:=dG (b:=BN) (λi (_:H)=>((l.length:Int),(i:Int),l,p,())) l.length (λi _=>(l.take i).filter (eb p)=l.take i) (λz=>(z=.inr (l,p,())/\l.filter (eb p)=l)\/(∃i:Nat,i<l.length/\z=.inl ((i:Int),l,p,())/\(l.take (i+1)).filter (eb p)=l.take i)) u
  (λi E _ aN=>by
   have M:=e3 (i:=i) (l:=l) u;have V:=dR i;have a1:=e6 i u;simp only[BN,M,V,an,bN,bE,b5 E,NY _ _ aT,a1];cases aW:eb p l[i]
   ·refine .inr ⟨_,.inr ⟨i,E,rfl,?_⟩,rfl⟩;rw[eK E,List.filter_append,aN];simp[aW]
   ·refine .inl ⟨(),?_,rfl⟩;rw[eK E,List.filter_append,aN];simp[aW])
  (λ_ aN=>by have M:=fD l;rw[ew]at aN;exact ⟨_,.inl ⟨rfl,aN⟩,by simp only[BN,M,ay]⟩) () rfl
 have dr:QC ((l.length:Int),0,l,p,())=some z:=q;rcases G with ⟨rfl,ab⟩|⟨i,E,rfl,ab⟩
 ·exact .inl ⟨by simp only[xV,dr],ab⟩
 ·exact .inr ⟨i,E,by simp only[xV,dr],ab⟩
theorem ajh (l:aj) (p:au) (ad:l.length<=10^12) (aT:p.length<=10^17):BR (l,p,())=some (p,l.filter (eb p),()):=by
 rcases akn l p ad aT with ⟨q,G⟩|⟨i0,Rj,q,G⟩
 ·have e:bG ((-1:Int)=(-1:Int)):=rfl;simp only[BR,q,cJ,an,G]
 ·have e:(decide ((i0:Int)=(-1:Int)))=false:=bm u;have hZ:=e6 i0 u;have hlen: ∀j,((l.take j).filter (eb p)).length<=j:=λj=>Nat.le_trans (h0 _ _) (by rw[ev];omega)
  obtain ⟨z,g1,g2⟩:=dG (b:=xI) (λk (d:aj)=>(((((l.take (i0+1+k)).filter (eb p)).length:Nat):Int),((i0+1+k:Nat):Int),d,p,())) (l.length-(i0+1))
   (λk d=>d.length=l.length/\d.take ((l.take (i0+1+k)).filter (eb p)).length=(l.take (i0+1+k)).filter (eb p)/\d.drop (i0+1+k)=l.drop (i0+1+k)/\((l.take (i0+1+k)).filter (eb p)).length<i0+1+k)
   (λz=> ∃d:aj,z=.inl ((((l.filter (eb p)).length:Nat):Int),d,p,())/\d.length=l.length/\d.take (l.filter (eb p)).length=l.filter (eb p)) u
   (λk af d ah=>by
    left;obtain ⟨s1,s2,jw,py⟩:=ah;obtain ⟨j,ak⟩: ∃j,i0+1+k=j:=⟨_,rfl⟩;rw[show i0+1+(k+1)=j+1 by omega];rw[ak]at s2 jw py ⊢;have vn:j<l.length:=u;have mm:j<d.length:=u;have CR:d[j]=l[j]:=by have dF:=lZ mm;have a2:=lZ vn;rw[jw,a2]at dF;exact (List.cons.inj dF).1.symm
    have Cq:d.drop (j+1)=l.drop (j+1):=by have dF:=lZ mm;have a2:=lZ vn;rw[jw,a2]at dF;exact (List.cons.inj dF).2.symm
    have M:=e3 (i:=j) (l:=d) u;have V:=dR j;have a1:=e6 j u;obtain ⟨c,aw⟩: ∃c,((l.take j).filter (eb p)).length=c:=⟨_,rfl⟩;have auD:c<=j:=by rw[<-aw];exact hlen j
    have rl:(l.take (j+1)).filter (eb p)=(l.take j).filter (eb p)++[l[j]].filter (eb p):=by rw[eK vn,List.filter_append]
    cases aW:eb p l[j] with
    |false=>
     have nK:(l.take (j+1)).filter (eb p)=(l.take j).filter (eb p):=by rw[rl];simp[aW]
     refine ⟨d,⟨s1,by rw[nK];exact s2,Cq,by rw[nK];omega⟩,?_⟩;rw[nK];simp only[xI,M,V,an,bN,bE,b5 mm,CR,NY _ _ aT,aW,cU,cL,ay,a1]
    |true=>
     have nK:(l.take (j+1)).filter (eb p)=(l.take j).filter (eb p)++[l[j]]:=by rw[rl];simp[aW]
     have h5:((l.take (j+1)).filter (eb p)).length=c+1:=by rw[nK,eF,aw];rfl
     rw[aw]at s2 py;have bp:=dR c;have cI:bG ((c:Int)<((d.length):Int)):=aX u;have c9:=e6 c u;refine ⟨d.set c l[j],⟨by rw[List.length_set];exact s1,?_,?_,?_⟩,?_⟩
     ·rw[h5,nK];have p0:c<(d.set c l[j]).length:=by rw[List.length_set];omega
      rw[eK p0,List.take_set_of_le (ca _),s2];simp
     ·rw[List.drop_set_of_lt u];exact Cq
     ·rw[h5];omega
     ·rw[h5,aw];simp only[xI,M,V,bp,cI,an,bN,bE,b5 mm,CR,NY _ _ aT,aW,cL,cU,a1,c9])
   (λd ah=>by
    obtain ⟨s1,s2,jw,py⟩:=ah;rw[show i0+1+(l.length-(i0+1))=l.length by omega]at s2 jw py ⊢;rw[ew]at s2 py ⊢;have M:(decide (((l.length:Nat):Int)<((d.length):Int)))=false:=bm u;exact ⟨_,⟨d,rfl,s1,s2⟩,by simp only[xI,M,ay]⟩) l (by
    refine ⟨rfl,?_,rfl,?_⟩
    ·rw[Nat.add_zero,G,ev,Nat.min_eq_left u]
    ·rw[Nat.add_zero,G,ev];omega)
  obtain ⟨d,rfl,s1,s2⟩:=g2;have gE:((((l.take (i0+1+0)).filter (eb p)).length:Nat):Int)=(i0:Int):=by rw[Nat.add_zero,G,ev,Nat.min_eq_left u]
  have j4:gc ((i0:Int),((i0+1:Nat):Int),l,p,())=some (.inl ((((l.filter (eb p)).length:Nat):Int),d,p,())):=by rw[<-gE];exact g1
  have lO:(l.filter (eb p)).length<=l.length:=h0 _ _;obtain ⟨c,aw⟩: ∃c,(l.filter (eb p)).length=c:=⟨_,rfl⟩;rw[aw]at j4 s2 lO;have bp:=dR c;have cI:bG ((c:Int)<=((d.length):Int)):=aX u;have c9:bG (((d.length):Int)<=((d.length):Int)):=aX (Int.le_refl _);have fV: ∀r:aj,(decide ((c:Int)<=((List.length (List.take c d++r)):Int)))=true:=λr=>aX (by rw[eF,ev];omega)
  have kK: ∀r:aj,List.take c (List.take c d++r)=l.filter (eb p):=λr=>by rw[List.take_append_of_le_length (by rw[ev];omega),List.take_take,Nat.min_self,s2]
  simp only[BR,q,e,ay,hZ,j4,bp,cI,cJ,bN,Bool.true_and,an,bE,List.append_assoc,fV,kK,c9]
theorem OL (t:aj) (ax:au) (aW:t.length<10^12) (nD:ax.length<=10^17):v6 (t,ax,())=some (t.filter (eb ax),()):=by simp only[v6,F1 t aW,ajh t ax u nD]
def dc (l:au) (k:N):Bool:=l.any λd=>ch d k
theorem nT (a b:au) (k:N):dc (a++b) k=(dc a k||dc b k):=List.any_append
theorem ln (d:aL) (k:N):dc [d] k=ch d k:=by simp[dc]
def fu (B:Nat) (l:au):Prop:= ∀d∈l,d.1.length<=B/\d.2.1.length<=B
abbrev aix (a b:aL):Prop:=a.2.1≠[]/\Op.bytesLess a.2.1 b.1=true
structure n8 (l:au):Prop where
 ne: ∀d∈l,jC d=false
 gp:l.Pairwise aix
theorem Gs {d:aL}:jC d=false↔(d.2.1=[]\/Op.bytesLess d.1 d.2.1=true):=by
 unfold jC;by_cases h:d.2.1=[]
 ·rw[aX h];simp[h]
 ·rw[bm h];rcases ih d.1 d.2.1 with G |G |G
  ·have ab:decide (d.2.1=d.1)=false:=bm (λe=>nj G e.symm);simp[G,j3 G,ab]
  ·simp[h,G,iC]
  ·simp[h,G,j3 G]
theorem abY {d:aL} (h:jC d=true) (k:N):ch d k=false:=by
 cases bg:ch d k
 ·rfl
 ·obtain ⟨q,G⟩:=fT.1 bg;have:jC d=false:=Gs.2 (by
   rcases G with G |G
   ·exact .inl G
   ·right;rcases ih d.1 k with ab |ab |ab
    ·exact gK ab G
    ·rw[ab];exact G
    ·rw[q]at ab;cases ab)
  rw[h]at this;cases this
theorem arB (l:au) (k:N):dc (l.filter bZ) k=dc l k:=by
 unfold dc
 induction l with
 |nil=>rfl
 |cons d l aR=>
  rw[List.filter_cons,List.any_cons];cases h:bZ d
  ·have:jC d=true:=by unfold bZ at h;simpa using h
   rw[if_neg aU,aR,abY this,Bool.false_or]
  ·rw[if_pos rfl,List.any_cons,aR]
theorem asG {a b:au} (h:a.Perm b) (k:N):dc a k=dc b k:=by
 unfold dc;rw[Bool.eq_iff_iff,List.any_eq_true,List.any_eq_true];constructor
 ·rintro ⟨d,ah,af⟩;exact ⟨d,h.mem_iff.1 ah,af⟩
 ·rintro ⟨d,ah,af⟩;exact ⟨d,h.mem_iff.2 ah,af⟩
theorem asQ {a d:aL} (q:Op.bytesLess d.1 a.1=false) (G:Op.bytesLess a.2.1 d.1=false) (ab:iH a.2.1 d.2.1=true) (k:N):ch (a.1,d.2.1,()) k=(ch a k||ch d k):=by
 unfold iH at ab;rw[bQ,eT,decide_eq_false_iff_not,Bool.or_eq_true,dT]at ab;obtain ⟨aE,bf⟩:=ab;rw[Bool.eq_iff_iff,Bool.or_eq_true,fT,fT,fT];show (Op.bytesLess k a.1=false/\(d.2.1=[]\/Op.bytesLess k d.2.1=true))↔_;constructor
 ·rintro ⟨bd,a6⟩;cases af:Op.bytesLess k a.2.1
  ·exact .inr ⟨pr G af,a6⟩
  ·exact .inl ⟨bd,.inr rfl⟩
 ·rintro (⟨bd,a6⟩|⟨bd,a6⟩)
  ·refine ⟨bd,?_⟩;rcases a6 with a6 |a6
   ·exact absurd a6 aE
   ·rcases bf with bf |bf
    ·exact .inl bf
    ·exact .inr (gK a6 bf)
  ·exact ⟨pr q bd,a6⟩
theorem atn {a d:aL} (q:Op.bytesLess d.1 a.1=false) (ab:iH a.2.1 d.2.1=false) (k:N):ch a k=(ch a k||ch d k):=by
 have:ch d k=true->ch a k=true:=by
  intro af;refine Pk ?_ af;unfold u5;rw[q];unfold iH at ab;by_cases e:a.2.1=[]
  ·rw[aX e];rfl
  ·rw[bm e]at ab ⊢;simp only[cU,Bool.true_and,Bool.or_eq_false_iff]at ab;simp[ab.1,ab.2]
 cases h:ch d k
 ·rw[Bool.or_false]
 ·rw[this h];rfl
theorem asT (m:au) (ah:Uy m) (cw: ∀d∈m,jC d=false) (ad:m.length<10^12) (B:Nat) (di:fu B m):
  ∃r,Nz ((m.length:Int),(0:Int),[],m,())=some (.inl (r,()))/\(∀k,dc r k=dc m k)/\r.length<=m.length/\n8 r/\fu B r:=by
 obtain ⟨z,q,r,rfl,G⟩:=dG (b:=ts) (λi (o:au)=>((m.length:Int),(i:Int),o,m,())) m.length
  (λi o=>(∀k,dc o k=dc (m.take i) k)/\o.length<=i/\n8 o/\fu B o/\((i=0/\o=[])\/ ∃p a,o=p++[a]/\ ∃j,∃ak:j<m.length,j<i/\a.1=m[j].1))
  (λz=> ∃r,z=.inl (r,())/\(∀k,dc r k=dc m k)/\r.length<=m.length/\n8 r/\fu B r) u
  (λi E o W=>by
   left;obtain ⟨fH,jJ,yT,qj,Dj⟩:=W;have M:=e3 (i:=i) (l:=m) u;have cl:bG ((0:Int)<=((i:Nat):Int)):=aX u;have w:=fv (j:=i) u;have nF:=dI E;have vA: ∀k,dc (m.take (i+1)) k=(dc (m.take i) k||ch m[i] k):=by intro k;rw[eK E,nT,ln]
   have room: ∀o:au,o.length<=i->(decide ((o.length+List.length ([m[i]]:List (aL)))*32<=am))=true:=λo h=>aX (by rw[ey];simp;omega)
   rcases Dj with ⟨rfl,rfl⟩|⟨p,a,rfl,j,ak,iP,Q3⟩
   ·refine ⟨[m[0]],⟨λk=> ?_,aU,⟨λd ah=> ?_,List.pairwise_singleton _ _⟩,λd ah=> ?_,.inr ⟨[],m[0],rfl,0,E,u,rfl⟩⟩,?_⟩
    ·rw[vA k];simp[dc]
    ·obtain rfl:=gv.1 ah;exact cw _ nF
    ·obtain rfl:=gv.1 ah;exact di _ nF
    ·have V:(!decide ((((List.length ([]:au)):Int):Int)=(0:Int)))=false:=rfl;have aa:=room [] aU;simp only[ts,vP,M,cl,bN,an,bE,b5 E,V,ay,aa,w,List.nil_append]
   ·have yi: ∀I,List.getD (p++[a]) p.length I=a:=λI=>F3 (P:=p) (bA:=[]) rfl
    have hlen:(p++[a]).length=p.length+1:=aU;have V:(!decide ((((List.length (p++[a])):Int):Int)=(0:Int)))=true:=by rw[bm u];rfl
    have dn:i64.wrap (((List.length (p++[a])):Int)-1)=(p.length:Int):=by rw[cR u];omega
    have jo:p.length<(p++[a]).length:=u;have fs:Op.bytesLess m[i].1 a.1=false:=by rw[Q3];exact List.pairwise_iff_getElem.1 ah j i ak E iP
    obtain ⟨ne,gp⟩:=yT;have QL:=List.pairwise_append.1 gp;have app:a.2.1≠[]->Op.bytesLess a.2.1 m[i].1=true->((∀k,dc (p++[a]++[m[i]]) k=dc (m.take (i+1)) k)/\(p++[a]++[m[i]]).length<=i+1/\n8 (p++[a]++[m[i]])/\fu B (p++[a]++[m[i]])/\((i+1=0/\(p++[a]++[m[i]])=[])\/ ∃hp bs,(p++[a]++[m[i]])=hp++[bs]/\ ∃j,∃ak:j<m.length,j<i+1/\bs.1=m[j].1)):=by
     intro g1 g2;refine ⟨λk=>by rw[nT,fH k,ln,vA k],by simp at jJ ⊢;omega,⟨λd ah=> ?_,?_⟩,λd ah=> ?_,.inr ⟨p++[a],m[i],rfl,i,E,u,rfl⟩⟩
     ·rcases dp.1 ah with h |h
      ·exact ne d h
      ·obtain rfl:=gv.1 h;exact cw _ nF
     ·refine List.pairwise_append.2 ⟨gp,List.pairwise_singleton _ _,λx al y bt=> ?_⟩;obtain rfl:=gv.1 bt;rcases dp.1 al with h |h
      ·obtain ⟨bw,bS⟩:=QL.2.2 x h a (gv.2 rfl);refine ⟨bw,?_⟩;rcases ih a.1 m[i].1 with bf |bf |bf
       ·exact gK bS bf
       ·rw[<-bf];exact bS
       ·rw[fs]at bf;cases bf
      ·obtain rfl:=gv.1 h;exact ⟨g1,g2⟩
     ·rcases dp.1 ah with h |h
      ·exact qj d h
      ·obtain rfl:=gv.1 h;exact di _ nF
    have join:(a.2.1=[]\/Op.bytesLess a.2.1 m[i].1=false)-> ∃t,TT (((List.length (p++[a])):Int),(m.length:Int),(i:Int),p++[a],m[i],m,())=some (.inl ((m.length:Int),((i+1:Nat):Int),t,m,()))/\
      ((∀k,dc t k=dc (m.take (i+1)) k)/\t.length<=i+1/\n8 t/\fu B t/\((i+1=0/\t=[])\/ ∃hp bs,t=hp++[bs]/\ ∃j,∃ak:j<m.length,j<i+1/\bs.1=m[j].1)):=by
     intro g;obtain ⟨c,m1,lM⟩:=abg a.2.1 m[i].2.1;simp only[TT,dn,eP jo,an,bE,yi,m1,lM,w];cases hle:iH a.2.1 m[i].2.1
     ·refine ⟨_,rfl,λk=> ?_,u,⟨ne,gp⟩,qj,.inr ⟨p,a,rfl,j,ak,u,Q3⟩⟩;rw[vA k,<-fH k,nT,ln,Bool.or_assoc,<-atn fs hle k]
     ·have g2:Op.bytesLess a.2.1 m[i].1=false:=by
       rcases g with g |g
       ·unfold iH at hle;rw[aX g]at hle;cases hle
       ·exact g
      have lj:(p++[a]).set p.length (a.1,m[i].2.1,a.2.2)=p++[(a.1,m[i].2.1,())]:=aU;refine ⟨p++[(a.1,m[i].2.1,())],by rw[<-lj];rfl,λk=> ?_,by simp at jJ ⊢;omega,⟨λd ah=> ?_,?_⟩,λd ah=> ?_,.inr ⟨p,_,rfl,j,ak,u,Q3⟩⟩
      ·have:=fH k;rw[nT,ln]at this;rw[vA k,<-this,nT,ln,asQ fs g2 hle k,Bool.or_assoc]
      ·rcases dp.1 ah with h |h
       ·exact ne d (List.mem_append_left _ h)
       ·obtain rfl:=gv.1 h;have aV:=Gs.1 (ne a aU);unfold iH at hle;rw[bQ,eT,decide_eq_false_iff_not,Bool.or_eq_true,dT]at hle;refine Gs.2 ?_;rcases hle.2 with bf |bf
        ·exact .inl bf
        ·rcases aV with bF |bF
         ·exact absurd bF hle.1
         ·exact .inr (gK bF bf)
      ·refine List.pairwise_append.2 ⟨QL.1,List.pairwise_singleton _ _,λx al y bt=> ?_⟩;obtain rfl:=gv.1 bt;exact QL.2.2 x al a (gv.2 rfl)
      ·rcases dp.1 ah with h |h
       ·exact qj d (List.mem_append_left _ h)
       ·obtain rfl:=gv.1 h;exact ⟨(qj a aU).1,(di _ nF).2⟩
    have aa:=room (p++[a]) jJ;by_cases bg:a.2.1=[]
    ·obtain ⟨t,t1,t2⟩:=join (.inl bg);have a1:(!decide ((a.2.1:N)=([]:N)))=false:=by rw[aX bg];rfl
     refine ⟨t,t2,?_⟩;simp only[ts,vP,M,cl,bN,an,bE,b5 E,V,dn,eP jo,yi,bg,cJ,cL,ay];exact t1
    ·cases bu:Op.bytesLess a.2.1 m[i].1
     ·obtain ⟨t,t1,t2⟩:=join (.inr bu);refine ⟨t,t2,?_⟩;simp only[ts,vP,M,cl,bN,an,bE,b5 E,V,dn,eP jo,yi,bg,decide_false,cU,bu,ay];exact t1
     ·refine ⟨p++[a]++[m[i]],app bg bu,?_⟩;simp only[ts,vP,M,cl,bN,an,bE,b5 E,V,dn,eP jo,yi,bg,decide_false,cU,bu,aa,w])
  (λo W=>by obtain ⟨fH,jJ,yT,qj,Dj⟩:=W;have M:=fD m;refine ⟨_,⟨o,rfl,λk=> ?_,jJ,yT,qj⟩,by simp only[ts,M,ay]⟩;rw[fH k,ew]) [] ⟨λk=>aU,aU,⟨λd ah=>(by cases ah),List.Pairwise.nil⟩,λd ah=>(by cases ah),.inl ⟨rfl,rfl⟩⟩
 exact ⟨r,q,G⟩
theorem GK (l:au) (ad:l.length<10^12) (B:Nat) (di:fu B l):
  ∃r,wE (l,())=some (r,())/\(∀k,dc r k=dc l k)/\r.length<=l.length/\n8 r/\fu B r:=by
 have M:H6 (l,())=some (l,()):=by
  unfold H6;have:(List.length ([]:au)+l.length)*32<=am:=by rw[ey];simp;omega
  simp only[this,aX,an]
 have V:=aji l u;have lO:(l.filter bZ).length<=l.length:=h0 _ _;obtain ⟨m,a1,aT,ah⟩:=as7 (l.filter bZ) u;have jU:m.length=(l.filter bZ).length:=aT.length_eq;have p5: ∀d∈m,d∈l/\bZ d=true:=λd h=>e8.1 (aT.mem_iff.1 h)
 obtain ⟨r,bp,q,G,ab,aE⟩:=asT m ah (λd h=>by have:=(p5 d h).2;unfold bZ at this;simpa using this) u B (λd h=>di d (p5 d h).1)
 exact ⟨r,by simp only[wE,M,V,a1,bp],λk=>by rw[q,asG aT,arB],u,ab,aE⟩
theorem AG (a b:aL) (k:N):ch (hJ a b) k=(ch a k&&ch b k):=by
 cases h:kh a b
 ·have e:hJ a b=([97],([97],())):=by unfold hJ;rw[h];rfl
  rw[e,abY fm];cases q:ch a k
  ·rfl
  ·cases G:ch b k
   ·rfl
   ·rw[Bg.2 ⟨k,q,G⟩]at h;cases h
 ·rw[Bool.eq_iff_iff,bQ];exact asP h
theorem akt (a b:N):k1 a b=a\/k1 a b=b:=by
 unfold k1;cases Op.bytesLess a b
 ·exact .inl rfl
 ·exact .inr rfl
theorem asM (a b:N):kd a b=a\/kd a b=b:=by
 unfold kd;cases iH b a
 ·exact .inl rfl
 ·exact .inr rfl
theorem aca {a b:aL} {B:Nat} (q:1<=B) (aV:a.1.length<=B/\a.2.1.length<=B) (L:b.1.length<=B/\b.2.1.length<=B):(hJ a b).1.length<=B/\(hJ a b).2.1.length<=B:=by
 unfold hJ;cases kh a b
 ·simp;omega
 ·show (k1 a.1 b.1).length<=B/\(kd a.2.1 b.2.1).length<=B;refine ⟨?_,?_⟩
  ·rcases akt a.1 b.1 with e |e<;>rw[e]
   ·exact aV.1
   ·exact L.1
  ·rcases asM a.2.1 b.2.1 with e |e<;>rw[e]
   ·exact aV.2
   ·exact L.2
theorem aki (r:au) (aO:n8 r) (ad:r.length<10^12) (B:Nat) (di:fu B r):
  ∃g,AM (r,())=some (g,())/\(∀k,dc g k= !dc r k)/\g.length<=r.length+1/\fu B g:=by
 have Iq: ∀k:N,Op.bytesLess k []=false:=λk=>by cases k<;>rfl
 have atv:(∀k,dc ([]:au) k=true↔(dc (r.take 0) k=false/\Op.bytesLess k []=true))/\([]:au).length<=0/\fu B []/\([]:N).length<=B/\(∀d∈r.drop 0,Op.bytesLess d.1 []=false)/\(∀d∈r.take 0,d.2.1≠[]/\Op.bytesLess [] d.2.1=false)/\(0=0->([]:N)=[]):=by refine ⟨λk=> ?_,ca _,λd ah=>(by cases ah),Nat.zero_le _,λd ah=>Iq _,λd ah=>(by simp at ah),λ_=>rfl⟩;rw[Iq k];simp[dc]
 obtain ⟨z,q,G⟩:=dG (b:=tt) (λi (s:N×au)=>(s.1,r,(r.length:Int),(i:Int),s.2,())) r.length
  (λi s=>(∀k,dc s.2 k=true↔(dc (r.take i) k=false/\Op.bytesLess k s.1=true))/\s.2.length<=i/\fu B s.2/\s.1.length<=B/\(∀d∈r.drop i,Op.bytesLess d.1 s.1=false)/\(∀d∈r.take i,d.2.1≠[]/\Op.bytesLess s.1 d.2.1=false)/\(i=0->s.1=[]))
  (λz=>(∃g,z=.inl (g,())/\(∀k,dc g k= !dc r k)/\g.length<=r.length+1/\fu B g)\/(∃aQ g,z=.inr (aQ,g,())/\(∀k,dc (g++[(aQ,[],())]) k= !dc r k)/\g.length<=r.length/\fu B (g++[(aQ,[],())]))) u
  (λi E s aN=>by
   obtain ⟨aQ,o⟩:=s;obtain ⟨bw,bS,dD,du,gq,hy,ng⟩:=aN;simp only at bw bS dD du gq hy ng;have M:=e3 (i:=i) (l:=r) u;have cl:bG ((0:Int)<=((i:Nat):Int)):=aX u;have w:=fv (j:=i) u;have nF:=dI E;have ao:r.drop i=r[i]::r.drop (i+1):=lZ E;have room:bG ((o.length+List.length ([(aQ,r[i].1,())]:List (aL)))*32<=am):=aX (by rw[ey];simp;omega);have fs:Op.bytesLess r[i].1 aQ=false:=gq _ (by rw[ao];exact gI);have cw:=Gs.1 (aO.ne _ nF);have jE: ∀k,dc (r.take (i+1)) k=(dc (r.take i) k||ch r[i] k):=by intro k;rw[eK E,nT,ln]
   have before: ∀k,Op.bytesLess k r[i].1=true->ch r[i] k=false:=by
    intro k af;cases h:ch r[i] k
    ·rfl
    ·rw[(fT.1 h).1]at af;cases af
   have after: ∀k,Op.bytesLess k aQ=false->dc (r.take i) k=false:=by
    intro k af;unfold dc;rw[List.any_eq_false];intro d ah h;obtain ⟨g1,g2⟩:=hy d ah;rcases (fT.1 h).2 with h |h
    ·exact g1 h
    ·have:=pr g2 af;rw[this]at h;cases h
   have agT: ∀k,Op.bytesLess k aQ=true->Op.bytesLess k r[i].1=true:=by
    intro k af;rcases ih aQ r[i].1 with h |h |h
    ·exact gK af h
    ·rw[<-h];exact af
    ·rw[fs]at h;cases h
   have aeh: ∀dV:au,(dV=o++[(aQ,r[i].1,())]/\r[i].1≠[]\/dV=o/\r[i].1=[])-> ∀k,dc dV k=true↔(dc (r.take (i+1)) k=false/\(r[i].2.1=[]\/Op.bytesLess k r[i].2.1=true)):=by
    intro dV iE k;rw[jE k,Bool.or_eq_false_iff];rcases iE with ⟨rfl,avt⟩|⟨rfl,m3⟩
    ·rw[nT,ln,Bool.or_eq_true,bw k,fT];show _\/(Op.bytesLess k aQ=false/\(r[i].1=[]\/Op.bytesLess k r[i].1=true))↔_;constructor
     ·rintro (⟨ab,aE⟩|⟨ab,aE⟩)
      ·have bf:=agT k aE;refine ⟨⟨ab,before k bf⟩,?_⟩;rcases cw with h |h
       ·exact .inl h
       ·exact .inr (gK bf h)
      ·have bf:=aE.resolve_left avt;refine ⟨⟨after k ab,before k bf⟩,?_⟩;rcases cw with h |h
       ·exact .inl h
       ·exact .inr (gK bf h)
     ·rintro ⟨⟨ab,aE⟩,bf⟩;have bF:Op.bytesLess k r[i].1=true:=by
       cases dU:Op.bytesLess k r[i].1
       ·rw[fT.2 ⟨dU,bf⟩]at aE;cases aE
       ·rfl
      cases hh:Op.bytesLess k aQ
      ·exact .inr ⟨rfl,.inr bF⟩
      ·exact .inl ⟨ab,rfl⟩
    ·rw[bw k];have avk: ∀k,Op.bytesLess k aQ=true->False:=by intro k af;have:=agT k af;rw[m3]at this;cases k<;>cases this
     constructor
     ·rintro ⟨ab,aE⟩;exact (avk k aE).elim
     ·rintro ⟨⟨ab,aE⟩,bf⟩;have:ch r[i] k=true:=fT.2 ⟨by rw[m3];cases k<;>rfl,bf⟩;rw[this]at aE;cases aE
   have tail:r[i].2.1=[]->r.take (i+1)=r:=by
    intro h;rcases Nat.lt_or_ge (i+1) r.length with G |G
    ·have:=List.pairwise_iff_getElem.1 aO.gp i (i+1) E G u;exact absurd h this.1
    ·exact ia G
   have done: ∀dV:au,(dV=o++[(aQ,r[i].1,())]/\r[i].1≠[]\/dV=o/\r[i].1=[])->r[i].2.1=[]->(∀k,dc dV k= !dc r k):=by
    intro dV iE h k;have:=aeh dV iE k;rw[tail h]at this;cases af:dc r k
    ·exact this.2 ⟨af,.inl h⟩
    ·cases W:dc dV k
     ·rfl
     ·rw[(this.1 W).1]at af;cases af
   have go: ∀dV:au,(dV=o++[(aQ,r[i].1,())]/\r[i].1≠[]\/dV=o/\r[i].1=[])->r[i].2.1≠[]->(dV.length<=i+1/\fu B dV)->
     ((∀k,dc dV k=true↔(dc (r.take (i+1)) k=false/\Op.bytesLess k r[i].2.1=true))/\dV.length<=i+1/\fu B dV/\r[i].2.1.length<=B/\(∀d∈r.drop (i+1),Op.bytesLess d.1 r[i].2.1=false)/\(∀d∈r.take (i+1),d.2.1≠[]/\Op.bytesLess r[i].2.1 d.2.1=false)/\(i+1=0->r[i].2.1=[])):=by
    intro dV iE h ⟨ab,aE⟩;refine ⟨λk=> ?_,ab,aE,(di _ nF).2,λd ah=> ?_,λd ah=> ?_,λh=>u⟩
    ·rw[aeh dV iE k];constructor
     ·rintro ⟨a,b⟩;exact ⟨a,b.resolve_left h⟩
     ·rintro ⟨a,b⟩;exact ⟨a,.inr b⟩
    ·obtain ⟨j,ak,rfl⟩:=List.mem_iff_getElem.1 ah;rw[List.length_drop]at ak;rw[List.getElem_drop];have:=List.pairwise_iff_getElem.1 aO.gp i (i+1+j) E u u;exact j3 this.2
    ·rw[eK E]at ah;rcases dp.1 ah with ah |ah
     ·obtain ⟨g1,g2⟩:=hy d ah;refine ⟨g1,?_⟩;have bf:=cw.resolve_left h;exact pr g2 (pr fs (j3 bf))
     ·obtain rfl:=gv.1 ah;exact ⟨h,iC _⟩
   by_cases q8:r[i].1=[]
   ·have V:(!decide ((r[i].1:N)=([]:N)))=false:=by rw[aX q8];rfl
    by_cases jm:r[i].2.1=[]
    ·right;refine ⟨_,.inl ⟨o,rfl,done o (.inr ⟨rfl,q8⟩) jm,u,dD⟩,?_⟩;simp only[tt,M,cl,bN,an,bE,b5 E,q8,jm,cJ,cL,ay]
    ·left;refine ⟨(r[i].2.1,o),go o (.inr ⟨rfl,q8⟩) jm ⟨u,dD⟩,?_⟩;simp only[tt,M,cl,bN,an,bE,b5 E,q8,jm,cJ,decide_false,cL,ay,w]
   ·have Cs:fu B (o++[(aQ,r[i].1,())]):=by
     intro d ah;rcases dp.1 ah with h |h
     ·exact dD d h
     ·obtain rfl:=gv.1 h;exact ⟨du,(di _ nF).1⟩
    by_cases jm:r[i].2.1=[]
    ·right;refine ⟨_,.inl ⟨o++[(aQ,r[i].1,())],rfl,done _ (.inl ⟨rfl,q8⟩) jm,by simp;omega,Cs⟩,?_⟩;simp only[tt,M,cl,bN,an,bE,b5 E,q8,jm,cJ,decide_false,cU,ay,room]
    ·left;refine ⟨(r[i].2.1,o++[(aQ,r[i].1,())]),go _ (.inl ⟨rfl,q8⟩) jm ⟨by simp;omega,Cs⟩,?_⟩;simp only[tt,M,cl,bN,an,bE,b5 E,q8,jm,cJ,decide_false,cU,ay,room,w])
  (λs aN=>by
   obtain ⟨aQ,o⟩:=s;obtain ⟨bw,bS,dD,du,gq,hy,ng⟩:=aN;simp only at bw bS dD du gq hy ng;have M:=fD r;rw[ew]at bw hy;refine ⟨_,.inr ⟨aQ,o,rfl,λk=> ?_,bS,λd ah=> ?_⟩,by simp only[tt,M,ay]⟩
   ·rw[nT,ln,Bool.eq_iff_iff,Bool.or_eq_true,bw k,fT,eT];show _\/(Op.bytesLess k aQ=false/\(([]:N)=[]\/_))↔_;constructor
    ·rintro (⟨ab,-⟩|⟨ab,-⟩)
     ·exact ab
     ·unfold dc;rw[List.any_eq_false];intro d ah h;obtain ⟨g1,g2⟩:=hy d ah;rcases (fT.1 h).2 with h |h
      ·exact g1 h
      ·have:=pr g2 ab;rw[this]at h;cases h
    ·intro h;cases af:Op.bytesLess k aQ
     ·exact .inr ⟨rfl,.inl rfl⟩
     ·exact .inl ⟨h,rfl⟩
   ·rcases dp.1 ah with h |h
    ·exact dD d h
    ·obtain rfl:=gv.1 h;exact ⟨du,aU⟩) ([],[]) atv
 have dr:NB (([]:N),r,(r.length:Int),(0:Int),[],())=some z:=q;rcases G with ⟨g,rfl,ab,aE,bf⟩|⟨aQ,g,rfl,ab,aE,bf⟩
 ·exact ⟨g,by simp only[AM,dr],ab,aE,bf⟩
 ·have room:bG ((g.length+List.length ([(aQ,[],())]:List (aL)))*32<=am):=aX (by rw[ey];simp;omega);exact ⟨g++[(aQ,[],())],by simp only[AM,dr,room,an],ab,by simp;omega,bf⟩
theorem OB {α:Type} (ax:List (List α)) (c:Nat) (h: ∀a∈ax,a.length<=c):ax.flatten.length<=ax.length*c:=by
 induction ax with
 |nil=>simp
 |cons a ax aR=>
  rw[List.flatten_cons,eF,iy];have q:=h a gI;have G:=aR (λb L=>h b (gU _ L));rw[Nat.add_mul];omega
theorem ai1 (l g:au) (n i:Nat) (ax:au) (o:au) (x:aL) (gs:au) (ad:l.length<1000000000) (W:o.length+l.length<10^12):
  MT (l,(n:Int),(i:Int),l,(l.length:Int),(0:Int),o,x,gs,())=some (.inl (l,(n:Int),(i:Int),o++l.map (hJ x),gs,())):=by
 obtain ⟨z,q,rfl⟩:=dG (b:=D3) (λj (s:au)=>(l,(n:Int),(i:Int),l,(l.length:Int),(j:Int),s,x,gs,())) l.length (λj s=>s=o++(l.take j).map (hJ x)) (λz=>z=.inl (l,(n:Int),(i:Int),o++l.map (hJ x),gs,())) u
  (λj ak s aN=>by left;have M:=e3 (i:=j) (l:=l) u;have cl:bG ((0:Int)<=((j:Nat):Int)):=aX u;have w:=fv (j:=j) u;have room:bG ((s.length+List.length ([hJ x l[j]]:List (aL)))*32<=am):=aX (by rw[ey,aN];simp;omega);refine ⟨s++[hJ x l[j]],by rw[aN,eK ak,List.map_append,List.append_assoc];rfl,?_⟩;simp only[D3,M,cl,bN,an,bE,b5 ak,Fy,room,w])
  (λs aN=>by have M:=fD l;rw[ew]at aN;exact ⟨_,rfl,by simp only[D3,M,ay,aN]⟩) o aU
 exact q
theorem ai0 (l m:au) (ad:l.length<1000000000) (hm:m.length<100) (B:Nat) (q:1<=B) (di:fu B l) (kp:fu B m):
  ∃r,FV (l,m,())=some (r,())/\(∀k,dc r k=(dc l k&& !dc m k))/\r.length<=(m.length+1)*l.length/\n8 r/\fu B r:=by
 obtain ⟨n,M,dm,ec,n3,n4⟩:=GK m u B kp;obtain ⟨g,V,g1,g2,g3⟩:=aki n n3 u B n4;have hmul:g.length*l.length<=(m.length+1)*l.length:=gV _ u;have azH:(m.length+1)*l.length<=100*l.length:=gV _ u;obtain ⟨z,G,rfl⟩:=dG (b:=D2) (λi (s:au)=>(l,(g.length:Int),(i:Int),s,g,())) g.length (λi s=>s=(g.take i).flatMap λx=>l.map (hJ x)) (λz=>z=.inl (g.flatMap (λx=>l.map (hJ x)),())) u
  (λi E s aN=>by
   left;have M:=e3 (i:=i) (l:=g) u;have cl:bG ((0:Int)<=((i:Nat):Int)):=aX u;have w:=fv (j:=i) u;have afd:s.length<=i*l.length:=by
    rw[aN,List.flatMap_def];have:=OB ((g.take i).map λx=>l.map (hJ x)) l.length (by intro a aV;obtain ⟨x,-,rfl⟩:=List.mem_map.1 aV;simp)
    rw[List.length_map,ev]at this;exact Nat.le_trans this (gV _ u)
   have Rl:i*l.length<=100*l.length:=gV _ u;have a1:=ai1 l g g.length i l s g[i] g ad u;refine ⟨s++l.map (hJ g[i]),by rw[eK E,List.flatMap_append,<-aN];simp,?_⟩;simp only[D2,M,cl,bN,an,bE,b5 E,a1,w])
  (λs aN=>by have M:=fD g;rw[ew]at aN;exact ⟨_,rfl,by simp only[D2,M,ay,aN]⟩) [] aU
 have il:MS (l,(g.length:Int),(0:Int),[],g,())=_:=G;have lO:(g.flatMap λx=>l.map (hJ x)).length<=g.length*l.length:=by
  rw[List.flatMap_def];have:=OB (g.map λx=>l.map (hJ x)) l.length (by intro a aV;obtain ⟨x,-,rfl⟩:=List.mem_map.1 aV;simp)
  rw[List.length_map]at this;exact this
 obtain ⟨r,bp,ag,aS,bP,dz⟩:=GK (g.flatMap λx=>l.map (hJ x)) u B (by intro d ah;obtain ⟨x,al,ah⟩:=List.mem_flatMap.1 ah;obtain ⟨y,bt,rfl⟩:=List.mem_map.1 ah;exact aca q (g3 x al) (di y bt))
 refine ⟨r,by simp only[FV,M,V,il,bp],λk=> ?_,u,bP,dz⟩;rw[ag k,<-dm k,<-g1 k];unfold dc;rw[Bool.eq_iff_iff,bQ,List.any_eq_true,List.any_eq_true,List.any_eq_true];constructor
 ·rintro ⟨d,ah,af⟩;obtain ⟨x,al,ah⟩:=List.mem_flatMap.1 ah;obtain ⟨y,bt,rfl⟩:=List.mem_map.1 ah;rw[AG,bQ]at af;exact ⟨⟨y,bt,af.2⟩,x,al,af.1⟩
 ·rintro ⟨⟨y,bt,ab⟩,x,al,aE⟩;refine ⟨hJ x y,List.mem_flatMap.2 ⟨x,al,List.mem_map.2 ⟨y,bt,rfl⟩⟩,?_⟩;rw[AG,aE,ab];rfl
theorem w7 {p:N} (h:p∈fc):(dW p).2.1≠[]/\(dW p).1=p/\(dW p).2.1.length<=4/\Op.bytesLess p (dW p).2.1=true:=by have q:fc.all (λp=> !decide ((dW p).2.1=[])&&decide ((dW p).2.1.length<=4)&&Op.bytesLess p (dW p).2.1)=true:=aC;have:=fC.1 q p h;rw[bQ,bQ,eT,decide_eq_false_iff_not,dT]at this;exact ⟨this.1.1,rfl,this.1.2,this.2⟩
theorem nS {p:N} (h:p∈fc) (k:N):ch (dW p) k=b7 k p:=by obtain ⟨-,-,ab⟩:=mA p (na p h);exact A6 ab k
theorem ajH {x y:aL} {t f:N} (aW:t∈fc) (aM:f∈fc) (al:x=hJ y (dW t)) (cw:kh y (dW t)=true) {B:Nat} (di:x.1.length<=B/\x.2.1.length<=B) (kp:B<=10^5) (sW:4<=B):
  ∃r,Ev (x,t,f,())=some (r,())/\(r.1.length<=B+4/\r.2.1.length<=B+4)/\ ∀k,ch r k=true↔(b7 k f=true/\ch x (fZ f t k)=true):=by
 obtain ⟨t1,t2,t3,t4⟩:=w7 aW;obtain ⟨f1,f2,f3,f4⟩:=w7 aM;obtain ⟨bd,kO,kv⟩:=Bg.1 cw;have RW:ch x bd=true:=by rw[al,AG,kO,kv];rfl
 have av8: ∀k,ch x k=true->b7 k t=true:=by intro k af;rw[al,AG,bQ]at af;rw[<-nS aW];exact af.2
 have ex:x=(k1 y.1 (dW t).1,(kd y.2.1 (dW t).2.1,())):=by rw[al];unfold hJ;rw[cw];rfl
 have fs:x.1=k1 y.1 t:=by rw[ex];show k1 y.1 (dW t).1=_;rw[t2]
 have jm:x.2.1=kd y.2.1 (dW t).2.1:=by rw[ex]
 obtain ⟨dF,a2⟩:=fT.1 RW;have aem:x.2.1≠[]:=by
  rw[jm];unfold kd;cases ad:iH (dW t).2.1 y.2.1
  ·show y.2.1≠[];intro e;unfold iH at ad;rw[bm t1,e]at ad;cases ad
  ·exact t1
 have a2:=a2.resolve_left aem;have at5:Op.bytesLess (dW t).2.1 x.2.1=false:=by
  rw[jm];unfold kd;cases ad:iH (dW t).2.1 y.2.1
  ·show Op.bytesLess (dW t).2.1 y.2.1=false;unfold iH at ad;rw[bm t1]at ad;simp only[cU,Bool.true_and,Bool.or_eq_false_iff]at ad;exact ad.2
  ·exact iC _
 have aue:Op.bytesLess x.1 t=false:=by rw[fs];have:=(Gl (a:=y.1) (b:=t) (k:=k1 y.1 t)).1 (iC _);exact this.2
 have aen:Op.bytesLess x.1 x.2.1=true:=by
  rcases ih x.1 bd with ab |ab |ab
  ·exact gK ab a2
  ·rw[ab];exact a2
  ·rw[dF]at ab;cases ab
 have QW:b7 x.1 t=true:=av8 x.1 (fT.2 ⟨iC _,.inr aen⟩);obtain ⟨wk,mw⟩:=kb.1 QW;have ahz:=ux t aW;have ad6:=ux f aM;have dH:=OI x.1 t f u;have cV:=OI x.2.1 t f u;obtain ⟨fI,-,-⟩:=mA f (na f aM);rw[QW,an]at dH;have ad7:(fZ t f x.1).length<=B+4:=by have:=PC (t:=t) (f:=f) (k:=x.1) QW;omega
 have fin: ∀k,b7 k f=true-> ∃r,k=f++r/\fZ f t k=t++r:=by intro k af;obtain ⟨r,ar⟩:=kb.1 af;exact ⟨r,ar,by rw[ar,lp]⟩
 have lO: ∀k,Op.bytesLess k (f++wk)=false->Op.bytesLess k f=false:=by
  intro k af;have:Op.bytesLess (f++wk) f=false:=by have h:=Ba f wk;rw[<-nS aM]at h;exact (fT.1 h).1
  exact pr this af
 cases L:b7 x.2.1 t with
 |true=>
  rw[L,an]at cV;obtain ⟨DC,RH⟩:=kb.1 L;refine ⟨(fZ t f x.1,fZ t f x.2.1,()),by simp only[Ev,fI,dH,cV,an],⟨ad7,?_⟩,λk=> ?_⟩
  ·have:=PC (t:=t) (f:=f) (k:=x.2.1) L;show (fZ t f x.2.1).length<=_;omega
  ·have M:fZ t f x.1=f++wk:=by rw[mw,lp]
   have V:fZ t f x.2.1=f++DC:=by rw[RH,lp]
   rw[M,V,fT,fT];show (Op.bytesLess k (f++wk)=false/\(f++DC=[]\/Op.bytesLess k (f++DC)=true))↔_;constructor
   ·rintro ⟨q,G⟩;have G:Op.bytesLess k (f++DC)=true:=by
     rcases G with G |G
     ·obtain ⟨ab,aE⟩:=List.append_eq_nil_iff.1 G;rw[ab]at aM;exact absurd aM fm
     ·exact G
    have p3:b7 k f=true:=by
     rw[<-nS aM];refine fT.2 ⟨lO k q,.inr ?_⟩;have h:=Ba f DC;rw[<-nS aM]at h;rcases (fT.1 h).2 with h |h
     ·exact absurd h f1
     ·exact gK G h
    obtain ⟨r,rfl,ar⟩:=fin k p3;rw[nP]at q G;refine ⟨p3,?_⟩;rw[ar,mw,RH,nP,nP];exact ⟨q,.inr G⟩
   ·rintro ⟨p3,ab,aE⟩;obtain ⟨r,rfl,ar⟩:=fin k p3;have aE:=aE.resolve_left aem;rw[ar,mw,nP]at ab;rw[ar,RH,nP]at aE;rw[nP,nP];exact ⟨ab,.inr aE⟩
 |false=>
  rw[L,ay]at cV;have at4:x.2.1=(dW t).2.1:=by
   rcases ih x.2.1 (dW t).2.1 with h |h |h
   ·have:ch (dW t) x.2.1=true:=fT.2 ⟨pr (by rw[t2];exact aue) (j3 aen),.inr h⟩;rw[nS aW,L]at this;cases this
   ·exact h
   ·rw[at5]at h;cases h
  refine ⟨(fZ t f x.1,(dW f).2.1,()),by simp only[Ev,fI,dH,cV,ay],⟨ad7,by show (dW f).2.1.length<=_;omega⟩,λk=> ?_⟩;have M:fZ t f x.1=f++wk:=by rw[mw,lp]
  rw[M,fT,fT];show (Op.bytesLess k (f++wk)=false/\((dW f).2.1=[]\/Op.bytesLess k (dW f).2.1=true))↔_;constructor
  ·rintro ⟨q,G⟩;have G:=G.resolve_left f1;have p3:b7 k f=true:=by rw[<-nS aM];exact fT.2 ⟨lO k q,.inr G⟩
   obtain ⟨r,rfl,ar⟩:=fin k p3;rw[nP]at q;refine ⟨p3,?_⟩;rw[ar,mw,nP];refine ⟨q,.inr ?_⟩;have h:=Ba t r;rw[<-nS aW]at h;rw[at4];exact ((fT.1 h).2).resolve_left t1
  ·rintro ⟨p3,ab,aE⟩;obtain ⟨r,rfl,ar⟩:=fin k p3;rw[ar,mw,nP]at ab;rw[nP];have h:=p3;rw[<-nS aM]at h;exact ⟨ab,(fT.1 h).2⟩
end D
