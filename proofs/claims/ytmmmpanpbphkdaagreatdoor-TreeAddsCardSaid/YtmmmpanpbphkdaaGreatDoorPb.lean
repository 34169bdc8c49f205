import Derived.Test.YtmmmpanpbphkdaaGreatDoorPa
set_option linter.unusedVariables false
set_option linter.unusedSimpArgs false
set_option maxRecDepth 100000
open Go Go.X
open Go.IntKind (i64)
namespace D
open Go
open Go
theorem asa (t:ak) (f ae:N) {S:aK} (aM:sx f S) (af:cP bT t) (ad:t.length<10^12) (ag: ∀p∈t,ae.length+p.1.length<10^12):
  Gz (t,f,ae,())=some ((t.filter λx=>bL x.1 f).map (hV f ae),()):=by
 have e:(t.filter λx=>cl S x.1)=t.filter λx=>bL x.1 f:=by apply List.filter_congr;intro x _;exact aM.has _
 have ds:=hZ (λx:cp=>bL x.1 f) t;have afH:=ajH t S aM.ok af u;rw[e]at afH;have lo: ∀p∈t.filter (λx=>bL x.1 f),bL p.1 f=true/\ae.length+p.1.length<10^12:=λp aT=>⟨(e8.1 aT).2,ag p (e8.1 aT).1⟩
 generalize t.filter (λx=>bL x.1 f)=src at*;obtain ⟨r,q,G⟩:=dG (b:=zu) (λi (o:ak)=>(f,ae,(src.length:Int),(i:Int),o,())) src.length (λi o=>o=(src.take i).map (hV f ae)++src.drop i)
  (λr=>r=.inl (src.map (hV f ae),())) u
  (λi E o ab=>by
   left;have ao:src.drop i=src[i]::src.drop (i+1):=l2 E;have hlen:((src.take i).map (hV f ae)).length=i:=by rw[List.length_map,eE];omega
   have oF:o.length=src.length:=by rw[ab,et,hlen,List.length_drop];omega
   have bj:((i:Int)<(src.length:Int)):=u;have ba:((0:Int)<=(i:Int)):=u;have bB:o.getD i (([]:N),(([]:N),((0:Int),())))=src[i]:=by rw[ab,ao];exact wK hlen
   have w:=e7 i u;obtain ⟨M,V⟩:=lo _ (dJ E);have hm:=O0 (src[i]).1 f ae V;rw[M,aj]at hm;refine ⟨_,rfl,?_⟩;have ln:o.set i (hV f ae src[i])=(src.take (i+1)).map (hV f ae)++src.drop (i+1):=by rw[ab,ao,eH E,List.map_append,List.append_assoc];rw[List.set_append_right _ _ u,hlen,Nat.sub_self];rfl
   rw[<-ln];unfold zu;simp only[oF,bj,ba,aW,aj,bN,bI,bB,w,hm];rfl)
  (λo ab=>by have bj: ¬((src.length:Int)<(src.length:Int)):=u;rw[eu,List.drop_length,List.append_nil]at ab;subst ab;refine ⟨_,rfl,?_⟩;unfold zu;simp only[bj,bh,av,not_false_eq_true]) src aU
 subst G;have q:b8 zu (f,ae,(src.length:Int),(0:Int),src,())=_:=q;unfold Gz NF;simp only[aM.pre,afH,AV src u,q]
theorem akE {m:bE} {t:ak} (af:cP bT t):cP bT ((hL m t).map (hV m.2.2.2.2.1 m.2.2.2.2.2.1)):=by unfold cP;rw[List.pairwise_map];have h:cP bT (hL m t):=List.Pairwise.filter _ af;refine List.Pairwise.imp_of_mem (λ{a b} aV L gC=> ?_) h;obtain ⟨r,ar⟩:=kd.1 (e8.1 aV).2;obtain ⟨d,af⟩:=kd.1 (e8.1 L).2;have gC:Op.bytesLess a.1 b.1=true:=gC;show Op.bytesLess (ga _ _ a.1) (ga _ _ b.1)=true;rw[ar,af,m7]at gC;rw[ar,af,lu,lu,m7];exact gC
theorem abF (t:ak) (p:N) {S:aK} (aT:sx p S) (af:cP bT t) (ad:t.length<10^12):tQ (t,S,())=some (t.filter (λx=> !bL x.1 p),()):=by rw[A8 t _ aT.ok af ad];congr 2;apply List.filter_congr;intro x _;rw[aT.has]
theorem ON (t:ak) (m:bE) {S Fs:aK} (aM:sx m.2.2.2.2.1 S) (aX:sx m.2.2.2.2.2.1 Fs) (af:cP bT t) (ad:t.length<10^11) (ag: ∀p∈t,m.2.2.2.2.2.1.length+p.1.length<10^12):
  DE (m,t,())=some (kf (t.filter λx=> !bL x.1 m.2.2.2.2.2.1) ((hL m t).map (hV m.2.2.2.2.1 m.2.2.2.2.2.1)),()):=by
 have dH:=hZ (λx:cp=> !bL x.1 m.2.2.2.2.2.1) t;have ds:(hL m t).length<=t.length:=hZ _ _;have eg: ∀p∈(hL m t).map (hV m.2.2.2.2.1 m.2.2.2.2.2.1),hd (key:=bT) p.1 (t.filter λx=> !bL x.1 m.2.2.2.2.2.1)=false:=by intro p aT;obtain ⟨s,aP,rfl⟩:=List.mem_map.1 aT;unfold hd;rw[List.any_eq_false];intro b L;have q:=(e8.1 L).2;intro e;have e:b.1=ga m.2.2.2.2.1 m.2.2.2.2.2.1 s.1:=of_decide_eq_true e;rw[e,u1]at q;cases q
 have avd: ∀p∈t.filter (λx=> !bL x.1 m.2.2.2.2.2.1),∀s∈(hL m t).map (hV m.2.2.2.2.1 m.2.2.2.2.2.1),p.1≠s.1:=by intro p aT s aP e;have:=eg s aP;unfold hd at this;rw[List.any_eq_false]at this;exact this p aT (decide_eq_true e)
 obtain ⟨r,M,V,aY⟩:=akW (t.filter λx=> !bL x.1 m.2.2.2.2.2.1) ((hL m t).map (hV m.2.2.2.2.1 m.2.2.2.2.2.1)) (List.Pairwise.filter _ af) (akE af) avd (by rw[List.length_map];omega);have ar:r=kf (t.filter λx=> !bL x.1 m.2.2.2.2.2.1) ((hL m t).map (hV m.2.2.2.2.1 m.2.2.2.2.2.1)):=
  Hj V (AE _ _ (List.Pairwise.filter _ af)) (λx=>by rw[aY x,DP eg (G2 af)])
 have hm:=asa t m.2.2.2.2.1 m.2.2.2.2.2.1 aM af u ag;unfold hL at M;unfold DE;simp only[aX.pre,abF t _ aX af u,hm,M,ar]
theorem ac3 (t:ak) (m:bE) {S Fs:aK} (oS:sx m.2.2.2.2.1 S) (py:sx m.2.2.2.2.2.1 Fs) (oB: ∀k,bL k m.2.2.2.2.2.1=true->bL k m.2.2.2.2.1=false) (aC:m.1=4) (af:cP bT t) (ad:t.length<10^11) (ag: ∀p∈t,m.2.2.2.2.2.1.length+p.1.length<10^12):
  Kq (m,t,())=some (qO m t,()):=by
 have dH:=hZ (λx:cp=> !bL x.1 m.2.2.2.2.2.1) t;have ds:(hL m t).length<=t.length:=hZ _ _;have au:=ON t m oS py af ad ag;have L:nl m t=(t.filter λx=> !bL x.1 m.2.2.2.2.2.1).filter λx=> !bL x.1 m.2.2.2.2.1:=by unfold nl;rw[aW aC];rfl
 have eg: ∀p∈(hL m t).map (hV m.2.2.2.2.1 m.2.2.2.2.2.1),hd (key:=bT) p.1 (t.filter λx=> !bL x.1 m.2.2.2.2.2.1)=false:=by intro p aT;obtain ⟨s,aP,rfl⟩:=List.mem_map.1 aT;unfold hd;rw[List.any_eq_false];intro b L;have q:=(e8.1 L).2;intro e;have e:b.1=ga m.2.2.2.2.1 m.2.2.2.2.2.1 s.1:=of_decide_eq_true e;rw[e,u1]at q;cases q
 have lV:=AE ((hL m t).map (hV m.2.2.2.2.1 m.2.2.2.2.2.1)) (t.filter λx=> !bL x.1 m.2.2.2.2.2.1) (List.Pairwise.filter _ af);have hlen:=Gc ((hL m t).map (hV m.2.2.2.2.1 m.2.2.2.2.2.1)) (t.filter λx=> !bL x.1 m.2.2.2.2.2.1);rw[List.length_map]at hlen;have ao:=abF (kf (t.filter λx=> !bL x.1 m.2.2.2.2.2.1) ((hL m t).map (hV m.2.2.2.2.1 m.2.2.2.2.2.1))) m.2.2.2.2.1 oS lV u;have he:(kf (t.filter λx=> !bL x.1 m.2.2.2.2.2.1) ((hL m t).map (hV m.2.2.2.2.1 m.2.2.2.2.2.1))).filter (λx=> !bL x.1 m.2.2.2.2.1)=qO m t:=by
  refine Hj (List.Pairwise.filter _ lV) (adH af) (λx=> ?_);unfold qO;rw[e8,DP eg (G2 af),DP acL (G2 af),L];constructor
  ·rintro ⟨q |q,G⟩
   ·exact Or.inl (e8.2 ⟨q,G⟩)
   ·exact Or.inr q
  ·rintro (h |q)
   ·obtain ⟨q,G⟩:=e8.1 h;exact ⟨Or.inl q,G⟩
   ·refine ⟨.inr q,?_⟩;obtain ⟨s,aP,rfl⟩:=List.mem_map.1 q;have:bL (ga m.2.2.2.2.1 m.2.2.2.2.2.1 s.1) m.2.2.2.2.1=false:=oB _ u1;show (!bL (ga m.2.2.2.2.1 m.2.2.2.2.2.1 s.1) m.2.2.2.2.1)=true;rw[this];rfl
 unfold Kq;simp only[au,oS.pre,ao,he]
def iw (m:bE) (p:cp):cp:=bif cl m.2.2.2.1 p.1 then (p.1,p.2.1,m.2.2.2.2.2.2.1,p.2.2.2) else p
theorem ajP (t:ak) (m:bE) (ad:t.length<10^12):Ys ((0:Int),m,t,())=some (.inl (t.map (iw m),())):=by
 obtain ⟨r,q,G⟩:=dG (b:=Kf) (λi (o:ak)=>((i:Int),m,o,())) t.length (λi o=>o=(t.take i).map (iw m)++t.drop i)
  (λr=>r=.inl (t.map (iw m),())) u
  (λi E o ab=>by
   left;have ao:t.drop i=t[i]::t.drop (i+1):=l2 E;have hlen:((t.take i).map (iw m)).length=i:=by rw[List.length_map,eE];omega
   have oF:o.length=t.length:=by rw[ab,et,hlen,List.length_drop];omega
   have bj:((i:Int)<(t.length:Int)):=u;have ba:((0:Int)<=(i:Int)):=u;have bB:o.getD i (([]:N),(([]:N),((0:Int),())))=t[i]:=by rw[ab,ao];exact wK hlen
   have w:=e7 i u;have ln: ∀s,o.set i s=(t.take i).map (iw m)++s::t.drop (i+1):=by intro s;rw[ab,ao,List.set_append_right _ _ u,hlen,Nat.sub_self];rfl
   have gG:(t.take (i+1)).map (iw m)++t.drop (i+1)=(t.take i).map (iw m)++iw m t[i]::t.drop (i+1):=by rw[eH E,List.map_append,List.append_assoc];rfl
   refine ⟨_,rfl,?_⟩;rw[gG];unfold Kf iw;simp only[oF,bj,ba,aW,aj,bN,bI,bB,w,PJ,ln];cases bg:cl m.2.2.2.1 (t[i]).1
   ·simp only[av];rw[ab,ao];rfl
   ·simp only[aj];rfl)
  (λo ab=>by
   have oF:o.length=t.length:=by rw[ab,et,List.length_map,eE,List.length_drop];omega
   have bj: ¬((t.length:Int)<(t.length:Int)):=u;rw[eu,List.drop_length,List.append_nil]at ab;subst ab;refine ⟨_,rfl,?_⟩;unfold Kf;simp only[oF,bj,bh,av,not_false_eq_true]) t aU
 subst G;exact q
theorem adm (d:aK) (k:N):pE (d,k,())=some (cl d k,()):=by have:=PJ d k;unfold A0 at this;unfold pE;exact this
theorem acM (t:ak) (m:bE) (ad:t.length<10^12):Tn ((t.length:Int),(0:Int),m,t,())=some (.inl (t.map (iw m),())):=by
 obtain ⟨r,q,G⟩:=dG (b:=Dr) (λi (o:ak)=>((t.length:Int),(i:Int),m,o,())) t.length (λi o=>o=(t.take i).map (iw m)++t.drop i)
  (λr=>r=.inl (t.map (iw m),())) u
  (λi E o ab=>by
   left;have ao:t.drop i=t[i]::t.drop (i+1):=l2 E;have hlen:((t.take i).map (iw m)).length=i:=by rw[List.length_map,eE];omega
   have oF:o.length=t.length:=by rw[ab,et,hlen,List.length_drop];omega
   have bj:((i:Int)<(t.length:Int)):=u;have ba:((0:Int)<=(i:Int)):=u;have bB:o.getD i (([]:N),(([]:N),((0:Int),())))=t[i]:=by rw[ab,ao];exact wK hlen
   have w:=e7 i u;have ln: ∀s,o.set i s=(t.take i).map (iw m)++s::t.drop (i+1):=by intro s;rw[ab,ao,List.set_append_right _ _ u,hlen,Nat.sub_self];rfl
   have gG:(t.take (i+1)).map (iw m)++t.drop (i+1)=(t.take i).map (iw m)++iw m t[i]::t.drop (i+1):=by rw[eH E,List.map_append,List.append_assoc];rfl
   refine ⟨_,rfl,?_⟩;rw[gG];unfold Dr iw;simp only[oF,bj,ba,aW,aj,bN,bI,bB,w,adm,ln];cases bg:cl m.2.2.2.1 (t[i]).1
   ·simp only[av];rw[ab,ao];rfl
   ·simp only[aj];rfl)
  (λo ab=>by have bj: ¬((t.length:Int)<(t.length:Int)):=u;rw[eu,List.drop_length,List.append_nil]at ab;refine ⟨_,rfl,?_⟩;unfold Dr;simp only[bj,bh,av,not_false_eq_true,ab]) t aU
 subst G;exact q
def apM (t:ak) (m:bE):ak:=
 if m.1=1 then kD t (m.2.1,m.2.2.1,m.2.2.2.2.2.2.1,())
 else if m.1=2 then t.filter λp=> !cl (m.2.1,m.2.1++[0],()) p.1
 else if m.1=3 then t.filter λp=> !cl m.2.2.2.1 p.1
 else if m.1=6 then t.map (iw m)
 else qO m t
theorem adX (k:N) (h:k.length<10^12):oO (k,())=some ((k,k++[0],()),())/\qw (k,())=some ((k,k++[0],()),()):=by
 unfold oO qw;have:k.length+([0]:N).length<=bC:=by rw[ez];simp;omega
 simp only[this,aW,aj,and_self]
theorem adJ (d:aK):(λp:cp=> !([d]:aw).any (λd=>cl d p.1))=λp=> !cl d p.1:=by
 funext p
 simp
theorem O8 (t:ak) (m:bE) (hm:ij m) (af:cP bT t) (ad:t.length<10^11) (ag: ∀p∈t,p.1.length<1000):
  kP (t,m,())=some (apM t m,())/\pi (t,m,())=some (apM t m,()):=by
 have awP:m.1=1\/m.1=2->m.2.1.length<10^12:=λh=>by have hlen:jK.all (λk=>decide (k.length<100))=true:=aD;have:=of_decide_eq_true (fD.1 hlen _ (hm.key h));omega
 have room:(([]:ak).length+t.length)*40<=bC:=by rw[ez];simp;omega
 by_cases q:m.1=1
 ·have d1:decide (m.1=1)=true:=aW q;have M:=ad4 t (m.2.1,m.2.2.1,m.2.2.2.2.2.2.1,()) af u;have V:=abU t (m.2.1,m.2.2.1,m.2.2.2.2.2.2.1,()) af u;unfold kP pi KD apM;rw[if_pos q];simp only[d1,aj,M,V];exact ⟨trivial,rfl⟩
 ·have d1:decide (m.1=1)=false:=bh q;by_cases G:m.1=2
  ·have d2:decide (m.1=2)=true:=aW G;obtain ⟨fI,jh⟩:=adX m.2.1 (awP (.inr G));have M:=A8 t (m.2.1,m.2.1++[0],()) (.inr (Qc _)) af u;have V:=Og t [(m.2.1,m.2.1++[0],())] u aU;rw[adJ]at V;unfold kP pi KA GI apM;rw[if_neg q,if_pos G];simp only[d1,d2,aj,av,fI,jh,M,V,and_self]
  ·have d2:decide (m.1=2)=false:=bh G;by_cases W:m.1=3
   ·have d3:decide (m.1=3)=true:=aW W;have M:=A8 t m.2.2.2.1 (hm.span (.inl W)) af u;have V:=Og t [m.2.2.2.1] u aU;rw[adJ]at V;unfold kP pi wn apM;rw[if_neg q,if_neg G,if_pos W];simp only[d1,d2,d3,aj,av,M,V,and_self]
   ·have d3:decide (m.1=3)=false:=bh W;by_cases bD:m.1=6
    ·have d6:decide (m.1=6)=true:=aW bD;have d4:decide (m.1=4)=false:=bh (by rw[bD];decide);have d5:decide (m.1=5)=false:=bh (by rw[bD];decide);have M:=acM t m u;have V:=ajP t m u;unfold kP pi J5 apM;rw[if_neg q,if_neg G,if_neg W,if_pos bD];simp only[d1,d2,d3,d4,d5,d6,aj,av,AV t (show t.length<10^12 by omega),M,room,aW,List.nil_append,V,and_self]
    ·have lT:I9 m:=by
      rcases hm.kind with h |h |h |h |h |h
      ·exact absurd h q
      ·exact absurd h G
      ·exact absurd h W
      ·exact .inl h
      ·exact .inr h
      ·exact absurd h bD
     have ab:wQ m:=⟨lT,hm.from_ lT,hm.to_ lT,(hm.apart lT).1,(hm.apart lT).2⟩;have oS:=acI (lw _ ab.from_);have py:=acI (lw _ ab.to_);have hlen:fb.all (λp=>decide (p.length<=4))=true:=aD;have lt:=of_decide_eq_true (fD.1 hlen _ ab.to_);have hn: ∀p∈t,m.2.2.2.2.2.1.length+p.1.length<10^12:=λp aT=>by have:=ag p aT;omega
     have V:=asv t m lT oS py af ad hn;have oB:apM t m=qO m t:=by unfold apM;rw[if_neg q,if_neg G,if_neg W,if_neg bD]
     rw[oB];refine ⟨?_,V⟩;unfold kP;simp only[d1,d2,d3,av];rcases lT with aC |bd
     ·simp only[aW aC,aj,ac3 t m oS.o py.o (λk ag=>ab.not_both2 ag) aC af ad hn]
     ·have d4:decide (m.1=4)=false:=bh (by rw[bd];decide);have L:nl m t=t.filter λx=> !bL x.1 m.2.2.2.2.2.1:=by unfold nl;rw[d4];rfl
      have:=ON t m oS.o py.o af ad hn;rw[<-L]at this;simp only[d4,av,aW bd,aj,this];rfl
abbrev dj:iZ:=(false,(false,((0:Int),((([]:List (cp)),(([]:bo),(([]:List (Int)),(([]:List (eV)),(([]:List (bE)),()))))),()))))
theorem Ze (p:cb) (h:p.length<=10^5):AS ((p,()),())=some (p,()):=by
 have M:(decide ((0:Int)<=((p.length):Int))&&decide ((((p.length):Int):Int)<=((p.length):Int))&&decide (((p.length):Int)*(136:Int)<=(bC:Int)))=true:=by rw[aW u,aW (Int.le_refl _),aW (by rw[ez];omega)];rfl
 simp only[AS,M,aj,bI,List.length_replicate,eu,List.take_zero,List.nil_append];have:List.drop (0+p.length) (List.replicate p.length dj)=[]:=aU;rw[this,List.append_nil]
theorem arW {p:cb} {i:Nat} (h:i<p.length):oP ((p,()),(i:Int),())=some (p[i].1,()):=by have bj:bG ((i:Int)>=(0:Int)):=aW u;have ba:bG ((i:Int)<((p.length):Int)):=aW u;have c3:=dZ i;simp only[oP,bj,ba,c3,aj,bN,bI,b5 h]
def iH (a b:N):Bool:= !decide (a=[])&&(decide (b=[])||Op.bytesLess a b)
def kg (a b:N):N:=bif iH b a then b else a
def k4 (a b:N):N:=bif !(Op.bytesLess a b) then a else b
def jH (d:aK):Bool:= !decide (d.2.1=[])&&(Op.bytesLess d.2.1 d.1||decide (d.2.1=d.1))
theorem atX (a b:N):qn (a,b,())=some (iH a b,()):=by simp only[qn,iH];cases decide (a=[])<;>cases decide (b=[])<;>rfl
theorem asJ (d:aK):lK (d,())=some (jH d,()):=by simp only[lK,jH];cases decide (d.2.1=[])<;>rfl
theorem Ez (d:aK):kI (d,())=some (jH d,()):=by simp only[kI,jH];cases decide (d.2.1=[])<;>rfl
def ki (a b:aK):Bool:= !jH (k4 a.1 b.1,(kg a.2.1 b.2.1,()))
def hK (a b:aK):aK:=bif ki a b then (k4 a.1 b.1,(kg a.2.1 b.2.1,())) else ([97],([97],()))
theorem abB (a b:N): ∃c,pZ (a,b,())=some (c,())/\decide (c<0)=iH a b:=by
 have H9: ∀y:N,i9 (y,())=some (false,()):=λy=>by simp[i9]
 simp only[pZ];by_cases gC:a=b
 ·subst gC;refine ⟨0,by simp only[cf,aj],?_⟩;unfold iH;rw[iD];cases decide (a=[])<;>rfl
 ·by_cases aV:a=[]
  ·refine ⟨1,by simp only[bh gC,av,aW aV,aj],?_⟩;unfold iH;rw[aW aV];rfl
  ·by_cases L:b=[]
   ·refine ⟨-1,by simp only[bh gC,av,bh aV,aW L,aj],?_⟩;unfold iH;rw[bh aV,aW L];rfl
   ·cases ad:Op.bytesLess a b with
    |true=>
     refine ⟨-1,by simp only[bh gC,bh aV,bh L,av,Dl,H9,ad,aj],?_⟩;unfold iH;rw[bh aV,bh L,ad];rfl
    |false=>
     refine ⟨1,by simp only[bh gC,bh aV,bh L,av,Dl,H9,ad,Bool.or_false,cH,aj],?_⟩;unfold iH;rw[bh aV,bh L,ad];rfl
theorem akj (a b:N):Gk ([a,b],())=some (kg a b,()):=by
 obtain ⟨c,q,G⟩:=abB b a;have ch:(decide ((((List.length ([a,b]:bo)):Int):Int)<(1:Int)))=false:=rfl;have M:bG ((0:Int)<(List.length ([a,b]:bo):Int)):=rfl;have V:bG ((1:Int)<((List.length ([a,b]:bo)):Int)):=rfl;have aY:bG ((0:Int)<=(1:Int)):=rfl;have bp:(decide ((2:Int)<((List.length ([a,b]:bo)):Int)))=false:=rfl;have g0:List.getD ([a,b]:bo) 0 []=a:=rfl;have g1:List.getD ([a,b]:bo) (Int.toNat 1) []=b:=rfl;have w:i64.wrap ((1:Int)+1)=2:=rfl;have b1:xY ([a,b],a,1,())=some (.inl ([a,b],kg a b,2,())):=by simp only[xY,V,aY,bN,aj,g1,q,G,w];unfold kg;cases iH b a<;>rfl
 have b2:xY ([a,b],kg a b,2,())=some (.inr (.inl (kg a b,()))):=by simp only[xY,bp,av]
 have h:ip ([a,b],a,1,())=some (.inl (kg a b,())):=oQ (n:=2) (by rw[kS];omega) (by simp only[gi,b1,b2]);simp only[Gk,Sz,ch,M,av,aj,g0,h]
theorem F8 (a b:aK):tY (a,b,())=some (hK a b,()):=by simp only[tY,akj,Ez];unfold hK ki k4;cases jH _<;>rfl
theorem Oj (a b:aK):jH (hK a b)= !ki a b:=by
 unfold hK;cases h:ki a b
 ·rfl
 ·rw[aj];unfold ki at h;rw[eS]at h;exact h
theorem GS {a b k:N}:Op.bytesLess k (k4 a b)=false↔Op.bytesLess k a=false/\Op.bytesLess k b=false:=by
 unfold k4;cases h:Op.bytesLess a b
 ·simp only[cH,aj];refine ⟨λq=>⟨q,?_⟩,λq=>q.1⟩;cases G:Op.bytesLess k b
  ·rfl
  ·rcases h0 a b with W |W |W
   ·rw[h]at W;cases W
   ·rw[W,G]at q;cases q
   ·rw[gN G W]at q;cases q
 ·simp only[cK,av];refine ⟨λq=>⟨?_,q⟩,λq=>q.2⟩;cases G:Op.bytesLess k a
  ·rfl
  ·rw[gN G h]at q;cases q
theorem OK {a b k:N}:(kg a b=[]\/Op.bytesLess k (kg a b)=true)↔(a=[]\/Op.bytesLess k a=true)/\(b=[]\/Op.bytesLess k b=true):=by
 unfold kg iH;by_cases L:b=[]
 ·subst L;simp
 ·by_cases aV:a=[]
  ·subst aV;simp[L]
  ·have e:(bif (!decide (b=[])&&(decide (a=[])||Op.bytesLess b a)) then b else a)=(bif Op.bytesLess b a then b else a):=by rw[bh L,bh aV];rfl
   rw[e];cases h:Op.bytesLess b a
   ·simp only[av,aV,L,false_or];refine ⟨λq=>⟨q,?_⟩,λq=>q.1⟩;rcases h0 a b with W |W |W
    ·exact gN q W
    ·rw[<-W];exact q
    ·rw[h]at W;cases W
   ·simp only[aj,aV,L,false_or];exact ⟨λq=>⟨gN q h,q⟩,λq=>q.2⟩
theorem fW {d:aK} {k:N}:cl d k=true↔Op.bytesLess k d.1=false/\(d.2.1=[]\/Op.bytesLess k d.2.1=true):=by unfold cl;simp only[bQ,eS,Bool.or_eq_true,dS]
theorem Bv {a b:aK}:ki a b=true↔ ∃k,cl a k=true/\cl b k=true:=by
 have key: ∀aR E:N,jH (aR,(E,()))=false↔(E=[]\/Op.bytesLess aR E=true):=λaR E=>by
  unfold jH;by_cases h:E=[]
  ·simp[h]
  ·rw[bh h];simp only[cH,Bool.true_and,Bool.or_eq_false_iff,decide_eq_false_iff_not];constructor
   ·rintro ⟨q,G⟩;right;rcases h0 aR E with W |W |W
    ·exact W
    ·exact absurd W.symm G
    ·rw[q]at W;cases W
   ·rintro (q |q)
    ·exact absurd q h
    ·exact ⟨j6 q,λG=>by rw[G,iD]at q;cases q⟩
 unfold ki;rw[eS,key];constructor
 ·intro h;have q:=OK.1 h;have G:=GS.1 (iD (k4 a.1 b.1));exact ⟨k4 a.1 b.1,fW.2 ⟨G.1,q.1⟩,fW.2 ⟨G.2,q.2⟩⟩
 ·rintro ⟨k,q,G⟩;obtain ⟨dr,a2⟩:=fW.1 q;obtain ⟨b1,b2⟩:=fW.1 G;have W:=OK.2 ⟨a2,b2⟩;have aC:=GS.2 ⟨dr,b1⟩;rcases W with W |W
  ·exact .inl W
  ·right;rcases h0 (k4 a.1 b.1) k with bd |bd |bd
   ·exact gN bd W
   ·rw[bd];exact W
   ·rw[aC]at bd;cases bd
theorem ajx {a b:aK} {k:N} (h:ki a b=true):cl (hK a b) k=true↔cl a k=true/\cl b k=true:=by
 unfold hK;rw[h,aj,fW,fW,fW];show (Op.bytesLess k (k4 a.1 b.1)=false/\(kg a.2.1 b.2.1=[]\/_))↔_;rw[GS,OK];constructor
 ·rintro ⟨⟨n2,oV⟩,tZ,EH⟩;exact ⟨⟨n2,tZ⟩,oV,EH⟩
 ·rintro ⟨⟨n2,tZ⟩,oV,EH⟩;exact ⟨⟨n2,oV⟩,tZ,EH⟩
def al5 (m:bE):aw:=((qk (m,())).map (·.1)).getD []
def jO (p:aK) (m:bE):Bool:=(al5 m).any λw=>ki w p
def cnt:List bo->aK->bE->Nat
 |[],_,_=>0
 |P::aI,d,m=>((partsOf d (cM P d)).map λs=>if jO s m=true then 1+cnt aI s m else 0).sum
end D
open Go Go.X
namespace D
def LL:Nat->Nat
 |0=>0
 |I+1=>6*(1+LL I)
def Vy:Nat->Nat
 |0=>0
 |I+1=>5*LL (I+1)+6*Vy I
theorem ajk (l:cD):I8 (l,())=some (l,()):=by have bj:bG ((0:Int)<=(0:Int)):=rfl;have ba:bG (((0:Int):Int)<=((l.length):Int)):=aW u;have c3:bG ((((l.length):Int):Int)<=(l.length:Int)):=aW u;simp only[I8,bj,ba,c3,ca,cf,bN,aj,bI,eu,List.drop_zero]
end D
open Go Go.X
namespace D
def u9 (s d:aK):Bool:= !(Op.bytesLess s.1 d.1)&&(decide (d.2.1=[])||(!decide (s.2.1=[])&& !(Op.bytesLess d.2.1 s.2.1)))
theorem px {a b c:N} (q:Op.bytesLess b a=false) (G:Op.bytesLess c b=false):Op.bytesLess c a=false:=by
 cases h:Op.bytesLess c a
 ·rfl
 ·rcases h0 a b with W |W |W
  ·rw[gN h W]at G;cases G
  ·rw[<-W,h]at G;cases G
  ·rw[q]at W;cases W
theorem Pp {s d:aK} {k:N} (h:u9 s d=true) (ag:cl s k=true):cl d k=true:=by
 unfold u9 at h;rw[bQ,eS]at h;obtain ⟨q,G⟩:=h;obtain ⟨bf,a6⟩:=fW.1 ag;refine fW.2 ⟨px q bf,?_⟩;rw[Bool.or_eq_true,dS,bQ,eS,eS,decide_eq_false_iff_not]at G;rcases G with G |⟨G,W⟩
 ·exact .inl G
 ·right;rcases a6 with a6 |a6
  ·exact absurd a6 G
  ·rcases h0 s.2.1 d.2.1 with aC |aC |aC
   ·exact gN a6 aC
   ·rw[<-aC];exact a6
   ·rw[W]at aC;cases aC
theorem lG: ∀n,n<=2->LL (n+1)<=300/\Vy n<=400
 |0,_=>fc
 |1,_=>fc
 |2,_=>fc
 |n+3,h=>u
end D
open Go Go.X
namespace D
theorem pT {x:Int} (h:(Lit.int .u8 x).wf=true):0<=x/\x<256:=by simp[Lit.wf,IntKind.min,IntKind.max,IntKind.signed,IntKind.bits]at h;omega
abbrev D5:az:=.pair (.int .u8) (.pair (.int .u8) (.pair (.int .u8) .unit))
abbrev rV:az:=.pair (.int .u8) (.pair (.int .u8) (.pair (.int .u8) (.pair (.int .u8) (.pair (.int .u8) (.pair (.int .u8) .unit)))))
abbrev Vf:az:=.pair (.list D5) (.pair (.pair (.list rV) (.pair (.list rV) (.pair (.list rV) (.pair (.list rV) .unit)))) (.pair (.int .u8) .unit))
theorem BD {B:az->Nat} (de:B rV=6) {l:List o0} (h:az.good B (.list rV) l):(∀y∈l,rO y)/\l.length<10^18:=by
 obtain ⟨q,G⟩:=h;refine ⟨λx an=> ?_,?_⟩
 ·have h:=G x an;exact ⟨⟨pT h.1,pT h.2.1,pT h.2.2.1,pT h.2.2.2.1⟩,pT h.2.2.2.2.1,pT h.2.2.2.2.2.1⟩
 ·rw[de]at q;unfold reachBytes at q;omega
theorem akw {B:az->Nat} (de:B D5=3) {l:l6} (h:az.good B (.list D5) l):(∀y∈l,rN y)/\l.length<10^18:=by
 obtain ⟨q,G⟩:=h;refine ⟨λx an=> ?_,?_⟩
 ·have h:=G x an;exact ⟨pT h.1,pT h.2.1,pT h.2.2.1⟩
 ·rw[de]at q;unfold reachBytes at q;omega
theorem al3 {B:az->Nat} (W:B D5=3) (bD:B rV=6) {x:fh} (h:az.good B Vf x):Av x:=
 ⟨⟨BD bD h.2.1.1,BD bD h.2.1.2.1,BD bD h.2.1.2.2.1,BD bD h.2.1.2.2.2.1⟩,akw W h.1,pT h.2.2.1⟩
inductive Src where
 |gen (v:N) (n:Int)
 |gone
 |old (k:N) (st:Option Int)
def ut (m:bE) (k:N):Src:=
 if m.1=1 then (if m.2.1=k then .gen m.2.2.1 m.2.2.2.2.2.2.1 else .old k none)
 else if m.1=2 then (if m.2.1=k then .gone else .old k none)
 else if m.1=3 then (if cl m.2.2.2.1 k=true then .gone else .old k none)
 else if m.1=6 then .old k (if cl m.2.2.2.1 k=true then some m.2.2.2.2.2.2.1 else none)
 else if m.1=4/\bL k m.2.2.2.2.1=true then .gone
 else if bL k m.2.2.2.2.2.1=true then .old (ga m.2.2.2.2.2.1 m.2.2.2.2.1 k) none
 else .old k none
def sn (d:Src) (t:ak) (x:cp):Prop:=
 match d with
 | .gen v n=>x=(x.1,v,n,())
 | .gone=>False
 | .old k st=> ∃y∈t,y.1=k/\x=(x.1,y.2.1,st.getD y.2.2.1,())
theorem A7 {t:ak} {x:cp}:sn (.old x.1 none) t x↔x∈t:=by
 constructor
 ·rintro ⟨y,bu,q,G⟩;have:x=y:=by rw[G,<-q];rfl
  rw[this];exact bu
 ·intro h;exact ⟨x,h,rfl,rfl⟩
theorem He (k x:N):cl (k,k++[0],()) x=decide (x=k):=by
 have ct:k++[0]≠[]:=aU;have key: ∀k x:N,(!Op.bytesLess x k&&Op.bytesLess x (k++[0]))=decide (x=k):=by
  intro k
  induction k with
  |nil=>
   intro x;cases x with
   |nil=>rfl
   |cons b x=>
    have h:Op.bytesLess (b::x) [0]=false:=by cases x<;>simp[Op.bytesLess]
    have G:Op.bytesLess (b::x) []=false:=rfl;show (!Op.bytesLess (b::x) []&&Op.bytesLess (b::x) [0])=_;rw[h,G];simp
  |cons a k aO=>
   intro x;cases x with
   |nil=>rfl
   |cons b x=>
    show (!(decide (b<a)||(b==a&&Op.bytesLess x k))&&(decide (b<a)||(b==a&&Op.bytesLess x (k++[0]))))=_;by_cases q:b<a
    ·have:b≠a:=by intro e;rw[e]at q;exact absurd q (UInt8.lt_irrefl a)
     simp[q,this]
    ·by_cases G:b=a
     ·subst G;have:=aO x;simp only[q,decide_false,Bool.false_or,beq_self_eq_true,Bool.true_and,this,List.cons.injEq,true_and]
     ·simp[q,G]
 have:=key k x;unfold cl;rw[bh ct,Bool.false_or];exact this
theorem ij.mv {m:bE} (hm:ij m) (q:m.1≠1) (G:m.1≠2) (W:m.1≠3) (bD:m.1≠6):wQ m:=by
 have lT:I9 m:=by
  rcases hm.kind with h |h |h |h |h |h
  ·exact absurd h q
  ·exact absurd h G
  ·exact absurd h W
  ·exact .inl h
  ·exact .inr h
  ·exact absurd h bD
 exact ⟨lT,hm.from_ lT,hm.to_ lT,(hm.apart lT).1,(hm.apart lT).2⟩
theorem Hb {t:ak} {m:bE} (hm:ij m) (af:cP bT t) (x:cp):x∈apM t m↔sn (ut m x.1) t x:=by
 unfold apM ut;by_cases q:m.1=1
 ·rw[if_pos q,if_pos q,aks];by_cases ag:m.2.1=x.1
  ·rw[if_pos ag];constructor
   ·rintro (h |⟨-,h⟩)
    ·rw[h];rfl
    ·exact absurd ag.symm h
   ·intro h;have h:x=(x.1,m.2.2.1,m.2.2.2.2.2.2.1,()):=h;left;rw[ag];exact h
  ·rw[if_neg ag,A7];constructor
   ·rintro (h |⟨h,-⟩)
    ·exact absurd (by rw[h]) ag
    ·exact h
   ·intro h;exact .inr ⟨h,λe=>ag e.symm⟩
 ·rw[if_neg q,if_neg q];by_cases G:m.1=2
  ·rw[if_pos G,if_pos G,e8,He];by_cases ag:m.2.1=x.1
   ·rw[if_pos ag];constructor
    ·rintro ⟨-,h⟩;rw[aW ag.symm]at h;cases h
    ·exact False.elim
   ·rw[if_neg ag,A7,bh (λe:x.1=m.2.1=>ag e.symm)];simp
  ·rw[if_neg G,if_neg G];by_cases W:m.1=3
   ·rw[if_pos W,if_pos W,e8];cases bg:cl m.2.2.2.1 x.1
    ·rw[if_neg aU,A7];simp
    ·rw[if_pos rfl];constructor
     ·rintro ⟨-,h⟩;cases h
     ·exact False.elim
   ·rw[if_neg W,if_neg W];by_cases bD:m.1=6
    ·rw[if_pos bD,if_pos bD,List.mem_map];have vt: ∀y:cp,(iw m y).1=y.1:=λy=>by unfold iw;cases cl m.2.2.2.1 y.1<;>rfl
     have vF: ∀y:cp,iw m y=(y.1,y.2.1,(if cl m.2.2.2.1 y.1=true then some m.2.2.2.2.2.2.1 else none).getD y.2.2.1,()):=λy=>by unfold iw;cases cl m.2.2.2.1 y.1<;>rfl
     constructor
     ·rintro ⟨y,bu,rfl⟩;refine ⟨y,bu,(vt y).symm,?_⟩;rw[vt y];exact vF y
     ·rintro ⟨y,bu,M,V⟩;refine ⟨y,bu,?_⟩;rw[vF y,V,M]
    ·rw[if_neg bD,if_neg bD];have ab:=hm.mv q G W bD;unfold qO;rw[DP acL (G2 af)];have L:x∈nl m t↔x∈t/\bL x.1 m.2.2.2.2.2.1=false/\ ¬(m.1=4/\bL x.1 m.2.2.2.2.1=true):=by
      unfold nl;by_cases aC:m.1=4
      ·rw[aW aC,aj,e8,e8];cases bL x.1 m.2.2.2.2.2.1<;>cases bL x.1 m.2.2.2.2.1<;>simp[aC]
      ·rw[bh aC,av,e8];cases bL x.1 m.2.2.2.2.2.1<;>simp[aC]
     have lo:x∈(hL m t).map (hV m.2.2.2.2.1 m.2.2.2.2.2.1)↔bL x.1 m.2.2.2.2.2.1=true/\ ∃y∈t,y.1=ga m.2.2.2.2.2.1 m.2.2.2.2.1 x.1/\x=(x.1,y.2.1,y.2.2.1,()):=by
      rw[List.mem_map];constructor
      ·rintro ⟨y,bu,rfl⟩;obtain ⟨bu,aM⟩:=e8.1 bu;refine ⟨u1,y,bu,?_,rfl⟩;obtain ⟨r,ar⟩:=kd.1 aM;show y.1=ga _ _ (ga _ _ y.1);rw[ar,lu,lu]
      ·rintro ⟨L,y,bu,M,V⟩;obtain ⟨r,ar⟩:=kd.1 L;rw[ar,lu]at M;refine ⟨y,e8.2 ⟨bu,?_⟩,?_⟩
       ·show bL y.1 _=true;rw[M];exact Bs _ _
       ·show (ga _ _ y.1,y.2.1,y.2.2.1,())=x;rw[M,lu,<-ar];exact V.symm
     rw[L,lo];by_cases aC:m.1=4/\bL x.1 m.2.2.2.2.1=true
     ·rw[if_pos aC];constructor
      ·rintro (⟨-,-,h⟩|⟨h,-⟩)
       ·exact absurd aC h
       ·rw[ab.not_both aC.2]at h;cases h
      ·exact False.elim
     ·rw[if_neg aC];cases bg:bL x.1 m.2.2.2.2.2.1
      ·rw[if_neg aU,A7];simp[aC]
      ·rw[if_pos rfl];constructor
       ·rintro (⟨-,h,-⟩|⟨-,h⟩)
        ·cases h
        ·exact h
       ·intro h;exact .inr ⟨rfl,h⟩
theorem G3 {t:ak} {m:bE} (af:cP bT t):cP bT (apM t m):=by
 unfold apM;split
 ·unfold kD;exact cP.ins af.wo (adP _ _)
 ·split
  ·exact List.Pairwise.filter _ af
  ·split
   ·exact List.Pairwise.filter _ af
   ·split
    ·refine List.pairwise_map.2 ?_;refine List.Pairwise.imp (λ{a b} h=> ?_) af;have vt: ∀y:cp,(iw m y).1=y.1:=λy=>by unfold iw;cases cl m.2.2.2.1 y.1<;>rfl
     show Op.bytesLess (iw m a).1 (iw m b).1=true;rw[vt,vt];exact h
    ·exact adH af
theorem ak3 (t:ak) (m:bE):(apM t m).length<=2*t.length+1:=by
 unfold apM;split
 ·have:=ads t (m.2.1,m.2.2.1,m.2.2.2.2.2.2.1,());omega
 ·split
  ·have:=hZ (λp:cp=> !cl (m.2.1,m.2.1++[0],()) p.1) t;omega
  ·split
   ·have:=hZ (λp:cp=> !cl m.2.2.2.1 p.1) t;omega
   ·split
    ·rw[List.length_map];omega
    ·have:=ak0 m t;omega
def xQ (t:ak):cD->ak
 |[]=>t
 |m::r=>apM (xQ t r) m
def allM (t:ak) (l:cD):ak:=l.foldl apM t
theorem Gu (t:ak) (l:cD) (m:bE):allM t (l++[m])=apM (allM t l) m:=by unfold allM;rw[List.foldl_append];rfl
theorem aje (t:ak) (a b:cD):allM t (a++b)=allM (allM t a) b:=by unfold allM;rw[List.foldl_append]
theorem Pz (t:ak): ∀r:cD,xQ t r=allM t r.reverse
 |[]=>rfl
 |m::r=>by rw[List.reverse_cons,Gu,<-Pz t r];rfl
theorem A5 {t:ak} (af:cP bT t): ∀l:cD,cP bT (allM t l):=by
 intro l
 induction l generalizing t with
 |nil=>exact af
 |cons m l aO=>exact aO (G3 af)
theorem GW (l:cD): ∀t:ak,(allM t l).length+1<=2^l.length*(t.length+1):=by
 induction l with
 |nil=>intro t;simp[allM]
 |cons m l aO=>
  intro t;have q:=aO (apM t m);have G:=ak3 t m;have W:2^l.length*((apM t m).length+1)<=2^l.length*(2*t.length+1+1):=Nat.mul_le_mul_left _ u;have aC:2^(m::l).length*(t.length+1)=2^l.length*(2*t.length+1+1):=by rw[ia,Nat.pow_succ,Nat.mul_assoc,show 2*(t.length+1)=2*t.length+1+1 by omega]
  rw[aC];exact Nat.le_trans q W
def sy (st:Option Int):Src->Src
 | .gen v n=>.gen v (st.getD n)
 | .gone=>.gone
 | .old k bb=>.old k (st.or bb)
def iX:cD->N->Src
 |[],k=>.old k none
 |m::r,k=>match ut m k with
  | .gen v n=>.gen v n
  | .gone=>.gone
  | .old eD st=>sy st (iX r eD)
theorem adZ (a b:Option Int) (I:Int):(a.or b).getD I=a.getD (b.getD I):=by cases a<;>cases b<;>rfl
theorem ac0 {t:ak} (af:cP bT t): ∀(r:cD),(∀m∈r,ij m)-> ∀x,x∈xQ t r↔sn (iX r x.1) t x
 |[],_,x=>by show x∈t↔sn (.old x.1 none) t x;rw[A7]
 |m::r,h,x=>by
  have ar:cP bT (xQ t r):=by rw[Pz];exact A5 af _
  have aO:=ac0 af r (λn aN=>h n (gY _ aN));show x∈apM (xQ t r) m↔_;rw[Hb (h m gL) ar];unfold iX;cases hm:ut m x.1 with
  |gen v n=>exact Iff.rfl
  |gone=>exact Iff.rfl
  |old k st=>
   show (∃y∈xQ t r,y.1=k/\x=(x.1,y.2.1,st.getD y.2.2.1,()))↔sn (sy st (iX r k)) t x;cases ar:iX r k with
   |gen v n=>
    show _↔x=(x.1,v,st.getD n,());constructor
    ·rintro ⟨y,bu,M,V⟩;have:=(aO y).1 bu;rw[M,ar]at this;have this:y=(y.1,v,n,()):=this;rw[V,this]
    ·intro e;refine ⟨(k,v,n,()),(aO _).2 ?_,rfl,e⟩;show sn (iX r k) t _;rw[ar];rfl
   |gone=>
    show _↔False;constructor
    ·rintro ⟨y,bu,M,V⟩;have:=(aO y).1 bu;rw[M,ar]at this;exact this
    ·exact False.elim
   |old a6 dM=>
    show _↔ ∃z∈t,z.1=a6/\x=(x.1,z.2.1,(st.or dM).getD z.2.2.1,());constructor
    ·rintro ⟨y,bu,M,V⟩;have:=(aO y).1 bu;rw[M,ar]at this;obtain ⟨z,bK,f1,f2⟩:=this;refine ⟨z,bK,f1,?_⟩;rw[adZ,V,f2]
    ·rintro ⟨z,bK,f1,f2⟩;refine ⟨(k,z.2.1,dM.getD z.2.2.1,()),(aO _).2 ?_,rfl,?_⟩
     ·show sn (iX r k) t _;rw[ar];exact ⟨z,bK,f1,rfl⟩
     ·rw[adZ]at f2;exact f2
theorem acZ {t:ak} (af:cP bT t) {l:cD} (h: ∀m∈l,ij m) (x:cp):x∈allM t l↔sn (iX l.reverse x.1) t x:=by have:=ac0 af l.reverse (λm hm=>h m (List.mem_reverse.1 hm)) x;rw[Pz,List.reverse_reverse]at this;exact this
theorem ab7 {t ae:ak} (af:cP bT t) (hu:cP bT ae) {l:cD} (h: ∀m∈l,ij m) (x:cp)
  (ag: ∀k st,iX l.reverse x.1=.old k st-> ∀y:cp,y.1=k->(y∈t↔y∈ae)):x∈allM t l↔x∈allM ae l:=by
 rw[acZ af h,acZ hu h];cases e:iX l.reverse x.1 with
 |gen v n=>exact Iff.rfl
 |gone=>exact Iff.rfl
 |old k st=>
  constructor
  ·rintro ⟨y,bu,q,G⟩;exact ⟨y,(ag k st e y q).1 bu,q,G⟩
  ·rintro ⟨y,bu,q,G⟩;exact ⟨y,(ag k st e y q).2 bu,q,G⟩
theorem acf {d x:aK} (h:mh (d,x,())=some (true,())) {k:N} (ag:cl x k=true):cl d k=true:=by
 have an:jH x=false:=by
  unfold jH;obtain ⟨bf,a6⟩:=fW.1 ag;rcases a6 with a6 |a6
  ·rw[aW a6];rfl
  ·have:Op.bytesLess x.1 x.2.1=true:=by
    rcases h0 x.1 k with W |W |W
    ·exact gN W a6
    ·rw[W];exact a6
    ·rw[bf]at W;cases W
   have G:decide (x.2.1=x.1)=false:=bh (λe=>nj this e.symm);rw[j6 this,G];simp
 simp only[mh,asJ,an,cH,aj]at h;cases af:jH d with
 |true=>rw[af]at h;simp only[cK,av]at h;cases h
 |false=>
  rw[af]at h;simp only[cH,aj]at h;cases ft:(Op.bytesLess d.1 x.1||decide ((d.1:N)=x.1)) with
  |false=>rw[ft]at h;cases h
  |true=>
   rw[ft]at h;simp only[aj,atX]at h;have IM:Op.bytesLess x.1 d.1=false:=by
    rcases Bool.or_eq_true_iff.1 ft with q |q
    ·exact j6 q
    ·rw[of_decide_eq_true q];exact iD _
   have jr:iH d.2.1 x.2.1=false:=by
    cases ad:iH d.2.1 x.2.1
    ·rfl
    ·rw[ad]at h;cases h
   refine Pp ?_ ag;unfold u9;rw[IM];by_cases e:d.2.1=[]
   ·rw[aW e];rfl
   ·unfold iH at jr;rw[bh e]at jr ⊢;simp only[cH,Bool.true_and,Bool.or_eq_false_iff]at jr;simp[jr.1,jr.2]
theorem uB: ∀p∈fb,p.length<=4:=by have h:fb.all (λp=>decide (p.length<=4))=true:=aD;exact λp aT=>of_decide_eq_true (fD.1 h p aT)
theorem G1 {m:bE} {k v:N} {n:Int} (h:ut m k=.gen v n):m.1=1/\m.2.1=k:=by
 unfold ut at h;by_cases q:m.1=1
 ·rw[if_pos q]at h;by_cases ag:m.2.1=k
  ·exact ⟨q,ag⟩
  ·rw[if_neg ag]at h;cases h
 ·rw[if_neg q]at h;split at h
  ·split at h<;>cases h
  ·split at h
   ·split at h<;>cases h
   ·split at h
    ·cases h
    ·split at h
     ·cases h
     ·split at h<;>cases h
theorem Px {m:bE} {k eD:N} {st:Option Int} (h:ut m k=.old eD st):
  eD=k\/(m.1≠1/\m.1≠2/\m.1≠3/\m.1≠6/\bL k m.2.2.2.2.2.1=true/\eD=ga m.2.2.2.2.2.1 m.2.2.2.2.1 k):=by
 unfold ut at h;by_cases q:m.1=1
 ·rw[if_pos q]at h;split at h
  ·cases h
  ·injection h with M V;exact .inl M.symm
 ·rw[if_neg q]at h;by_cases G:m.1=2
  ·rw[if_pos G]at h;split at h
   ·cases h
   ·injection h with M V;exact .inl M.symm
  ·rw[if_neg G]at h;by_cases W:m.1=3
   ·rw[if_pos W]at h;split at h
    ·cases h
    ·injection h with M V;exact .inl M.symm
   ·rw[if_neg W]at h;by_cases bD:m.1=6
    ·rw[if_pos bD]at h;injection h with M V;exact .inl M.symm
    ·rw[if_neg bD]at h;split at h
     ·cases h
     ·split at h
      ·rename_i L;injection h with M V
       exact .inr ⟨q,G,W,bD,L,M.symm⟩
      ·injection h with M V;exact .inl M.symm
theorem PV {t f k:N} (L:bL k t=true):k.length+f.length=(ga t f k).length+t.length:=by obtain ⟨r,ar⟩:=kd.1 L;rw[ar,lu,et,et];omega
theorem ajf {t:ak} {m:bE} (hm:ij m) (af:cP bT t) {B:Nat} (de:100<=B) (h: ∀p∈t,p.1.length<=B): ∀x∈apM t m,x.1.length<=B+4:=by
 intro x an;have:=(Hb hm af x).1 an;cases e:ut m x.1 with
 |gen v n=>
  obtain ⟨q,G⟩:=G1 e;have:=(uf _ (hm.key (.inl q))).2;rw[G]at this;omega
 |gone=>rw[e]at this;exact this.elim
 |old k st=>
  rw[e]at this;obtain ⟨y,bu,M,V⟩:=this;have bu:=h y bu;rcases Px e with q |⟨q,G,W,bD,L,aC⟩
  ·rw[M,q]at bu;omega
  ·have ab:=hm.mv q G W bD;have dH:=uB _ ab.to_;have:=PV (f:=m.2.2.2.2.1) L;rw[M,aC]at bu;omega
theorem ab6 {l:cD} (h: ∀m∈l,ij m): ∀{t:ak} {B:Nat},cP bT t->100<=B->(∀p∈t,p.1.length<=B)-> ∀x∈allM t l,x.1.length<=B+4*l.length:=by
 induction l with
 |nil=>intro t B _ _ L x an;exact L x an
 |cons m l aO=>
  intro t B af de L x an;have:=aO (λn aN=>h n (gY _ aN)) (G3 (m:=m) af) (B:=B+4) u (ajf (h m gL) af de L) x an;rw[ia];omega
theorem akm {m:bE} {d:aK} (hm:gb m) (ad:jN (m,d,())=some (true,())):
  (m.1=1->cl d m.2.1=true)/\(m.1≠1->m.1≠2->m.1≠3->m.1≠6-> ∀k,bL k m.2.2.2.2.2.1=true->cl d k=true):=by
 have cI:=hm.ok;obtain ⟨-,R,cU,-,kq,-,kr,ar,hw⟩:=Bb hm;have au: ∀x∈cU,mh (d,x,())=some (true,()):=by intro x an;exact aa4 kq kr ar hw ad x (List.mem_append_right _ an)
 constructor
 ·intro q;have ag:=cI.key (.inl q);have:cU=[(m.2.1,m.2.1++[0],())]:=by have d1:decide (m.1=1)=true:=aW q;simp only[lJ,ou,d1,aj,(xx ag).2]at kr;exact (congrArg Prod.fst (eY kr)).symm
  refine acf (au _ (by rw[this];exact gL)) ?_;rw[He];simp
 ·intro q G W bD k ag;have ab:=cI.mv q G W bD;obtain ⟨fJ,fT,nV⟩:=mC _ (lw _ ab.from_);obtain ⟨ah,aS,bV⟩:=mC _ (lw _ ab.to_);have d1:decide (m.1=1)=false:=bh q;have d2:decide (m.1=2)=false:=bh G;have:dW m.2.2.2.2.2.1∈cU:=by
   rcases ab.kind with aC |bd
   ·have d4:decide (m.1=4)=true:=aW aC;simp only[lJ,ou,d1,d2,d4,aj,av,fT,aS]at kr;have:cU=_:=(congrArg Prod.fst (eY kr)).symm;rw[this];simp
   ·have d4:decide (m.1=4)=false:=bh u;have d5:decide (m.1=5)=true:=aW bd;simp only[lJ,ou,d1,d2,d4,d5,aj,av,fT,aS]at kr;have:cU=_:=(congrArg Prod.fst (eY kr)).symm;rw[this];simp
  refine acf (au _ this) ?_;rw[Bo bV];exact ag
def pJ (d:aK) (t:ak):Prop:= ∀p∈t,cl d p.1=true
theorem alK {t:ak} {m:bE} {d:aK} (hm:gb m) (ad:jN (m,d,())=some (true,())) (af:cP bT t) (h:pJ d t):pJ d (apM t m):=by
 intro x an;have:=(Hb hm.ok af x).1 an;obtain ⟨g1,g2⟩:=akm hm ad;cases e:ut m x.1 with
 |gen v n=>
  obtain ⟨q,G⟩:=G1 e;rw[<-G];exact g1 q
 |gone=>rw[e]at this;exact this.elim
 |old k st=>
  rw[e]at this;obtain ⟨y,bu,M,V⟩:=this;rcases Px e with q |⟨q,G,W,bD,L,aC⟩
  ·rw[<-q,<-M];exact h y bu
  ·exact g2 q G W bD _ L
theorem ak2 {l:cD} {d:aK} (h: ∀m∈l,gb m/\jN (m,d,())=some (true,())): ∀{t:ak},cP bT t->pJ d t->pJ d (allM t l):=by
 induction l with
 |nil=>intro t _ aX;exact aX
 |cons m l aO=>
  intro t af aX;have hm:=h m gL;exact aO (λn aN=>h n (gY _ aN)) (G3 af) (alK hm.1 hm.2 af aX)
def vh (E:N):N->bo->aw
 |aR,[]=>[(aR,E,())]
 |aR,p::m=>(aR,p,())::vh E p m
theorem PH (E:N): ∀(m:bo) (aR:N),(vh E aR m).length=m.length+1
 |[],_=>rfl
 |p::m,aR=>by show (vh E p m).length+1=_;rw[PH E m p];rfl
theorem U4 (E:N): ∀(m:bo) (aR:N),∀r∈vh E aR m,r.1=aR\/r.1∈m
 |[],aR,r,h=>by obtain rfl:=gl.1 h;exact .inl rfl
 |p::m,aR,r,h=>by
  rcases fe.1 h with rfl |h
  ·exact .inl rfl
  ·rcases U4 E m p r h with h |h
   ·exact .inr (by rw[h];exact gL)
   ·exact .inr (gY _ h)
abbrev Sep (s r:aK):Prop:=s.2.1≠[]/\Op.bytesLess r.1 s.2.1=false
theorem PI (E:N): ∀(m:bo) (aR:N),(∀p∈m,p≠[])->(m.Pairwise λa b=>Op.bytesLess a b=true)->(vh E aR m).Pairwise Sep
 |[],aR,_,_=>List.pairwise_singleton _ _
 |p::m,aR,q,G=>by
  have W:=List.pairwise_cons.1 G;refine List.pairwise_cons.2 ⟨λr ar=>⟨q p gL,?_⟩,PI E m p (λs aP=>q s (gY _ aP)) W.2⟩;show Op.bytesLess r.1 p=false;rcases U4 E m p r ar with h |h
  ·rw[h];exact iD _
  ·exact j6 (W.1 _ h)
def q2:List bo->aK->Bool
 |[],_=>true
 |P::aI,d=>decide (partsOf d (cM P d)=vh d.2.1 d.1 (cM P d))&&(partsOf d (cM P d)).all λs=>u9 s d&&q2 aI s
theorem ajt: ∀aI∈nn,q2 aI b6=true:=by have h:nn.all (λaI=>q2 aI b6)=true:=aD;exact λaI aT=>fD.1 h aI aT
theorem adl {P:bo} {aI:List bo} {d:aK} (h:q2 (P::aI) d=true):
  partsOf d (cM P d)=vh d.2.1 d.1 (cM P d)/\ ∀s∈partsOf d (cM P d),u9 s d=true/\q2 aI s=true:=by
 unfold q2 at h;rw[bQ,dS]at h;refine ⟨h.1,λs aP=> ?_⟩;have:=fD.1 h.2 s aP;rw[bQ]at this;exact this
theorem adV {P:bo} {d:aK}: ∀p∈cM P d,p≠[]:=by
 intro p aT e;have:=(e8.1 aT).2;rw[e]at this;rw[bQ,eS,Bool.or_eq_false_iff]at this;obtain ⟨⟨q,G⟩,W⟩:=this;have:=(fW.1 W).1;cases af:d.1 with
 |nil=>rw[af]at G;simp at G
 |cons a x=>rw[af]at q;cases q
theorem ac2 {P:bo} (h:P.Pairwise λa b=>Op.bytesLess a b=true) (d:aK):(cM P d).Pairwise λa b=>Op.bytesLess a b=true:=List.Pairwise.filter _ h
theorem adz: ∀(ay:List (ak×aK)),(ay.Pairwise λa b=>Sep a.2 b.2)->(∀a∈ay,cP bT a.1/\pJ a.2 a.1)->cP bT (ay.flatMap (·.1))
 |[],_,_=>List.Pairwise.nil
 |a::ay,q,G=>by
  have W:=List.pairwise_cons.1 q;rw[List.flatMap_cons];refine List.pairwise_append.2 ⟨(G a gL).1,adz ay W.2 (λb L=>G b (gY _ L)),λx an y bu=> ?_⟩;obtain ⟨b,L,bu⟩:=List.mem_flatMap.1 bu;have an:=(G a gL).2 x an;have bu:=(G b (gY _ L)).2 y bu;obtain ⟨s1,s2⟩:=W.1 b L;rcases (fW.1 an).2 with h |h
  ·exact absurd h s1
  ·have bu:=(fW.1 bu).1;have aC:=px s2 bu;rcases h0 x.1 y.1 with bd |bd |bd
   ·exact bd
   ·rw[<-bd,h]at aC;cases aC
   ·rw[gN bd h]at aC;cases aC
abbrev ht:cz:=(([]:ak),(([]:bo),(([]:cC),(([]:hz),(([]:cD),())))))
def cont (Q:cS):List bo->Nat->ak
 |[],i=>(Q.getD i ht).1
 |_::aI,i=>allM ((Q.getD i ht).2.2.1.flatMap λk=>cont Q aI k.toNat) (Q.getD i ht).2.2.2.2.1
def low (Q:cS) (aI:List bo) (ks:dB):ak:=ks.flatMap λk=>cont Q aI k
theorem wd {Q:cS} {i:Nat} {n:cz} (h:Q[i]? =some n):Q.getD i ht=n:=by unfold List.getD;rw[h];rfl
theorem AJ {Q:cS} {i:Nat} {p:ak} {piv:bo} {ks:dB} {sums:hz} {buf:cD} (P:bo) (aI:List bo)
  (h:Q[i]? =some (p,piv,bJ ks,sums,buf,())):cont Q (P::aI) i=allM (low Q aI ks) buf:=by
 show allM ((Q.getD i ht).2.2.1.flatMap λk=>cont Q aI k.toNat) (Q.getD i ht).2.2.2.2.1=_;rw[wd h];show allM ((bJ ks).flatMap λk=>cont Q aI k.toNat) buf=_;unfold bJ low;rw[List.flatMap_map];rfl
def clen:Nat->Nat
 |0=>1000
 |I+1=>32*(6*clen I+1)
structure Hl (d:aK) (I:Nat) (c:ak):Prop where
 srt:cP bT c
 sp:pJ d c
 len:c.length<=clen I
 key: ∀p∈c,p.1.length<=100+20*I
theorem ajq (ay:List ak) (c:Nat) (h: ∀a∈ay,a.length<=c):ay.flatten.length<=ay.length*c:=by
 induction ay with
 |nil=>simp
 |cons a ay aO=>
  rw[List.flatten_cons,et,ia];have q:=h a gL;have G:=aO (λb L=>h b (gY _ L));rw[Nat.add_mul];omega
theorem Vk {Q:cS} {aI:List bo} {ks:dB} {parts:aw} {I:Nat} {d:aK} (ag:ks.length=parts.length) (ad:ks.length<=6)
  (awl:parts.Pairwise Sep) (rm: ∀s∈parts,u9 s d=true) (h: ∀j,j<ks.length->Hl (parts.getD j b6) I (cont Q aI (ks.getD j 0))):
  cP bT (low Q aI ks)/\pJ d (low Q aI ks)/\(low Q aI ks).length<=6*clen I/\ ∀p∈low Q aI ks,p.1.length<=100+20*I:=by
 have p8: ∀x∈low Q aI ks,∃j,j<ks.length/\x∈cont Q aI (ks.getD j 0):=by intro x an;obtain ⟨k,kN,an⟩:=List.mem_flatMap.1 an;obtain ⟨j,al,rfl⟩:=List.mem_iff_getElem.1 kN;exact ⟨j,al,by rw[b5 al];exact an⟩
 refine ⟨?_,?_,?_,?_⟩
 ·have e:low Q aI ks=(List.zip (ks.map λk=>cont Q aI k) parts).flatMap (·.1):=by unfold low;rw[List.flatMap_def,List.flatMap_def];congr 1;rw[List.map_fst_zip (by rw[List.length_map];omega)]
  rw[e];refine adz _ ?_ ?_
  ·have:((List.zip (ks.map λk=>cont Q aI k) parts).map (·.2)).Pairwise Sep:=by rw[List.map_snd_zip (by rw[List.length_map];omega)];exact awl
   exact List.pairwise_map.1 this
  ·intro a aV;obtain ⟨j,al,rfl⟩:=List.mem_iff_getElem.1 aV;have s7:j<ks.length:=by rw[List.length_zip,List.length_map]at al;omega
   have hl:j<parts.length:=u;have:=h j s7;rw[List.getElem_zip];rw[b5 s7,b5 hl]at this;simp only[List.getElem_map];exact ⟨this.srt,this.sp⟩
 ·intro x an;obtain ⟨j,al,an⟩:=p8 x an;have:=(h j al).sp x an;have hl:j<parts.length:=u;rw[b5 hl]at this;exact Pp (rm _ (dJ hl)) this
 ·have e:low Q aI ks=(ks.map λk=>cont Q aI k).flatten:=by unfold low;rw[List.flatMap_def]
  rw[e];have:=ajq (ks.map λk=>cont Q aI k) (clen I) (by intro a aV;obtain ⟨k,kN,rfl⟩:=List.mem_map.1 aV;obtain ⟨j,al,rfl⟩:=List.mem_iff_getElem.1 kN;have:=(h j al).len;rw[b5 al]at this;exact this)
  rw[List.length_map]at this;exact Nat.le_trans this (gZ _ ad)
 ·intro x an;obtain ⟨j,al,an⟩:=p8 x an;exact (h j al).key x an
theorem hE.cont_ok {Q:cS} {t:ak} (aX:cP bT t) (ad:t.length<=1000) (ag: ∀p∈t,p.1.length<=100): ∀{aI:List bo} {d:aK} {i:Nat},
  (∀s∈aI,s.length<=5)->(∀P∈aI,P.Pairwise λa b=>Op.bytesLess a b=true)->q2 aI d=true->hE Q t aI d i->Hl d aI.length (cont Q aI i)
 |[],d,i,_,_,_,h=>by
  have h:Q[i]? =some (inS d t,[],[],[],[],()):=h;have e:cont Q [] i=inS d t:=by show (Q.getD i ht).1=_;rw[wd h]
  rw[e];have l:=sj d t;refine ⟨List.Pairwise.filter _ aX,λp aT=>(e8.1 aT).2,?_,λp aT=> ?_⟩
  ·show _<=1000;omega
  ·have:=ag p (e8.1 aT).1;simp;omega
 |P::aI,d,i,aP,hR,bB,⟨ks,sums,buf,q,G,W,aC,bd,bD,dU,gB⟩=>by
  obtain ⟨g1,g2⟩:=adl bB;have jX:(cM P d).length<=5:=Nat.le_trans (ua P d) (aP P gL);have ju:(partsOf d (cM P d)).length=ks.length:=by rw[g1,PH,G]
  obtain ⟨dH,ds,nQ,rE⟩:=Vk (Q:=Q) (aI:=aI) (ks:=ks) (parts:=partsOf d (cM P d)) (I:=aI.length) (d:=d) ju.symm u
   (by rw[g1];exact PI _ _ _ adV (ac2 (hR P gL) d)) (λs aP=>(g2 s aP).1) (λj al=>by
    have hl:j<(partsOf d (cM P d)).length:=u;have CL:q2 aI (List.getD (partsOf d (cM P d)) j b6)=true:=by rw[b5 hl];exact (g2 _ (dJ hl)).2
    exact hE.cont_ok aX ad ag (λs hU=>aP s (gY _ hU)) (λs hU=>hR s (gY _ hU)) CL (gB j al).1)
  rw[AJ P aI q];have avU: ∀m∈buf,ij m:=λm hm=>(dU m hm).1.ok
  refine ⟨A5 dH buf,ak2 dU dH ds,?_,?_⟩
  ·have:=GW buf (low Q aI ks);have auB:2^buf.length<=2^5:=Nat.pow_le_pow_right u bD;have aC:2^buf.length*((low Q aI ks).length+1)<=2^5*(6*clen aI.length+1):=Nat.mul_le_mul auB u;show _<=32*(6*clen aI.length+1);omega
  ·intro x an;have:=ab6 avU dH u rE x an;rw[ia];omega
def bX (dp k:N) (o:Option Int):ai5:=(false,false,dp,[],0,k,o.isSome,o.getD 0,())
theorem acK (m:bE) (r:cD) (k:N):iX (m::r) k=match ut m k with
  | .gen v n=>.gen v n
  | .gone=>.gone
  | .old eD st=>sy st (iX r eD):=rfl
end D
open Go Go.X
namespace D
theorem lY {S ρ σ:Type} {b:S->Option (S⊕ρ)} (mk:σ->S) (μ:σ->Nat) (Inv:σ->Prop) (bx:σ->ρ->Prop)
  (h: ∀s,Inv s->(∃t,b (mk s)=some (.inl (mk t))/\Inv t/\μ t<μ s/\ ∀r,bx t r->bx s r)\/(∃r,b (mk s)=some (.inr r)/\bx s r)) (s:σ) (aP:Inv s) (hm:μ s<10^20):
  ∃r,b8 b (mk s)=some r/\bx s r:=by
 have key: ∀(a7:Nat) (s:σ),Inv s->μ s<a7-> ∃r,gi b a7 (mk s)=some r/\bx s r:=by
  intro a7
  induction a7 with
  |zero=>intro s _ h;omega
  |succ a7 aO=>
   intro s aP jo;rcases h s aP with ⟨t,q,G,W,aC⟩|⟨r,q,G⟩
   ·obtain ⟨r,bd,bD⟩:=aO t G u;exact ⟨r,by simp only[gi,q,bd],aC r bD⟩
   ·exact ⟨r,by simp only[gi,q],G⟩
 obtain ⟨r,q,G⟩:=key (μ s+1) s aP u;exact ⟨r,oQ (by rw[kS];omega) q,G⟩
abbrev gu:aK:=(([]:N),(([]:N),()))
def bH (x y:aK):Bool:=Op.bytesLess x.1 y.1
theorem alL {a b c:N} (q:Op.bytesLess a b=false) (G:Op.bytesLess b c=false):Op.bytesLess a c=false:=px G q
theorem Az:Sort.SWO bH where
 irrefl:=λx=>iD x.1
 trans:=λx y z q G=>gN q G
 ntrans:=λx y z q G=>alL q G
theorem asj (a b:N):Jn (a,b,())=some (mT a b,()):=by
 have e: ∀a:N,(!decide (a=a))=false:=aU;simp only[Jn,yY,e,av];unfold mT;cases h:Op.bytesLess a b
 ·by_cases gC:a=b
  ·subst gC;simp
  ·simp[gC]
 ·simp
theorem mG (x y:aK):ld (x,y,())=some (mT x.1 y.1,()):=by simp only[ld,asj]
theorem mA (x y:aK):decide (mT x.1 y.1<0)=bH x y:=by
 unfold bH;cases h:Op.bytesLess x.1 y.1
 ·exact bh (by rw[G5,h];simp)
 ·exact aW (G5.2 h)
theorem eR {i n:Nat} (h:i<n):(decide ((0:Int)<=(i:Int))&&decide ((i:Int)<(n:Int)))=true:=by rw[aW u,aW u];rfl
theorem Tz {j:Nat} (h:j<2^62):i64.wrap (((j+1:Nat):Int)-1)=(j:Int):=by rw[cQ u];omega
theorem fx {j:Nat} (h:j<2^62):i64.wrap ((j:Int)+1)=((j+1:Nat):Int):=by rw[cQ u];omega
def gy (l:aw) (i j:Nat):aw:=(l.set i (l.getD j gu)).set j (l.getD i gu)
theorem gU (l:aw) (i j:Nat):(gy l i j).length=l.length:=by simp[gy]
theorem ha (l:aw) (i:Nat):(l.toArray)[i]! =l.getD i gu:=by rw[List.getElem!_toArray,List.getElem!_eq_getElem?_getD];rfl
theorem ly (l:aw) (i j:Nat):Sort.swp l.toArray i j=(gy l i j).toArray:=by unfold Sort.swp gy;simp only[ha,List.setIfInBounds_toArray]
theorem ast (a b i:Nat) (l:aw) (j:Nat) (al:j<l.length) (ad:l.length<2^62):
  H3 ((a:Int),(b:Int),(i:Int),(j:Int),l,())=some (.inl ((a:Int),(b:Int),(i:Int),(Sort.insInner bH a j l.toArray).toList,())):=by
 obtain ⟨r,q,G⟩:=lY (b:=xR) (λs:Nat×aw=>((a:Int),(b:Int),(i:Int),(s.1:Int),s.2,())) (λs=>s.1)
  (λs=>s.1<s.2.length/\s.2.length<2^62) (λs r=>r=.inl ((a:Int),(b:Int),(i:Int),(Sort.insInner bH a s.1 s.2.toArray).toList,()))
  (λs aP=>by
   obtain ⟨j,l⟩:=s;obtain ⟨al,ad⟩:=aP;simp only at al ad;cases j with
   |zero=>
    right;refine ⟨_,?_,rfl⟩;have c: ¬(((0:Nat):Int)>(a:Int)):=u;simp only[xR,BV,bh c,av];rfl
   |succ j=>
    by_cases aV:j+1>a
    ·have c:(((j+1:Nat):Int)>(a:Int)):=u;have w:=Tz (j:=j) u;simp only[xR,BV,aW c,aj,eR al,w,eR (show j<l.length by omega),mG,mA,bI,List.length_set];cases bw:bH (l.getD (j+1) gu) (l.getD j gu)
     ·right;refine ⟨_,rfl,?_⟩;unfold Sort.insInner;rw[ha,ha,bw];simp
     ·left;refine ⟨(j,gy l (j+1) j),rfl,⟨by simp only[gU];omega,by simp only[gU];exact ad⟩,aU,λr ar=> ?_⟩;rw[ar];have:Sort.insInner bH a (j+1) l.toArray=Sort.insInner bH a j (gy l (j+1) j).toArray:=by
       conv=>lhs;unfold Sort.insInner
       rw[ha,ha,bw,ly];simp[aV]
      simp only[this]
    ·right;have c: ¬(((j+1:Nat):Int)>(a:Int)):=u;refine ⟨_,?_,rfl⟩;simp only[xR,BV,bh c,av];have:Sort.insInner bH a (j+1) l.toArray=l.toArray:=by unfold Sort.insInner;simp[aV]
     rw[this]) (j,l) ⟨al,ad⟩ (by simp only;omega)
 rw[show H3 ((a:Int),(b:Int),(i:Int),(j:Int),l,())=some r from q,G]
theorem xm {α:Type} [Inhabited α] (I:Array α) (i j:Nat):(Sort.swp I i j).size=I.size:=by simp[Sort.swp]
theorem Z4 (a:Nat): ∀(j:Nat) (I:Array aK),(Sort.insInner bH a j I).size=I.size
 |0,_=>rfl
 |j+1,I=>by
  unfold Sort.insInner;split
  ·rw[Z4 a j,xm]
  ·rfl
theorem arh (a b:Nat) (l:aw) (L:b<=l.length) (ad:l.length<2^62) (gC:a<=b):
  HR ((a:Int),(b:Int),l,())=some ((Sort.insertionSort bH l.toArray a b).toList,()):=by
 obtain ⟨r,q,G⟩:=lY (b:=Ch) (λs:Nat×aw=>((a:Int),(b:Int),(s.1:Int),s.2,())) (λs=>b-s.1)
  (λs=>b<=s.2.length/\s.2.length<2^62/\s.1<=b+1) (λs r=>r=.inl ((Sort.insOuter bH a b s.1 s.2.toArray).toList,()))
  (λs aP=>by
   obtain ⟨i,l⟩:=s;obtain ⟨L,ad,E⟩:=aP;simp only at L ad E;by_cases js:i<b
   ·left;have c:((i:Int)<(b:Int)):=u;have e:=ast a b i l i u ad;have w:=fx (j:=i) u;simp only[Ch,aW c,aj,e,w];have af:(Sort.insInner bH a i l.toArray).toList.length=l.length:=by rw[iz,Z4];rfl
    refine ⟨(i+1,(Sort.insInner bH a i l.toArray).toList),rfl,⟨by simp only[af];exact L,by simp only[af];exact ad,by simp only;omega⟩,by simp only;omega,λr ar=> ?_⟩;rw[ar];have:Sort.insOuter bH a b i l.toArray=Sort.insOuter bH a b (i+1) (Sort.insInner bH a i l.toArray):=by
     conv=>lhs;unfold Sort.insOuter
     rw[if_pos js]
    simp only[this,Array.toArray_toList]
   ·right;have c: ¬((i:Int)<(b:Int)):=u;refine ⟨_,?_,rfl⟩;have:Sort.insOuter bH a b i l.toArray=l.toArray:=by unfold Sort.insOuter;rw[if_neg js]
    simp only[Ch,bh c,av,this]) (a+1,l) ⟨L,ad,by simp only;omega⟩ (by simp only;omega)
 have w:=fx (j:=a) u;have dt:Qx ((a:Int),(b:Int),((a+1:Nat):Int),l,())=some r:=q;subst G;simp only[HR,w,dt];rfl
theorem EB {i j:Nat} (h:i+j<9223372036854775808):i64.wrap ((i:Int)+(j:Int))=((i+j:Nat):Int):=by rw[cQ u];omega
theorem M5: ∀(n E first root:Nat) (I:Array aK),E-root<=n->(Sort.siftDown bH E first root I).size=I.size:=by
 intro n
 induction n with
 |zero=>
  intro E first root I h
  unfold Sort.siftDown;rw[dif_pos u]
 |succ n aO=>
  intro E first root I h
  unfold Sort.siftDown;split
  ·rfl
  ·split
   ·split
    ·rfl
    ·split
     ·rw[aO _ _ _ _ u,xm]
     ·rfl
   ·split
    ·rfl
    ·rw[aO _ _ _ _ u,xm]
theorem ad7 (aR E first:Nat) (l:aw) (q:first+E<=l.length) (G:l.length<2^62) (W:aR<=l.length):
  Cj ((aR:Int),(E:Int),(first:Int),l,())=some ((Sort.siftDown bH E first aR l.toArray).toList,()):=by
 obtain ⟨r,g1,g2⟩:=lY (b:=va) (λs:Nat×aw=>((E:Int),(first:Int),(s.1:Int),s.2,())) (λs=>E+1-s.1)
  (λs=>first+E<=s.2.length/\s.2.length<2^62/\s.1<=s.2.length)
  (λs r=>r=.inl ((Sort.siftDown bH E first s.1 s.2.toArray).toList,())\/r=.inr ((Sort.siftDown bH E first s.1 s.2.toArray).toList,()))
  (λs aP=>by
   obtain ⟨root,l⟩:=s;obtain ⟨q,G,W⟩:=aP;simp only at q G W;have hX:i64.wrap (i64.wrap ((2:Int)*(root:Int))+1)=((2*root+1:Nat):Int):=by rw[cQ (x:=2*(root:Int)) u,cQ u];omega
   by_cases au:2*root+1>=E
   ·right;have c:(((2*root+1:Nat):Int)>=(E:Int)):=u;refine ⟨_,?_,.inl rfl⟩;have e:Sort.siftDown bH E first root l.toArray=l.toArray:=by unfold Sort.siftDown;rw[dif_pos au]
    simp only[va,hX,aW c,aj,e]
   ·have c: ¬(((2*root+1:Nat):Int)>=(E:Int)):=u;have du:=fx (j:=2*root+1) u;have dc:=EB (i:=first) (j:=2*root+1) u;have gK:=fx (j:=first+(2*root+1)) u;have Es:=EB (i:=first) (j:=root) u;have tail: ∀mg:Nat,mg<E->root<mg->(bH (l.getD (first+root) gu) (l.getD (first+mg) gu)=false->Sort.siftDown bH E first root l.toArray=l.toArray)->
      (bH (l.getD (first+root) gu) (l.getD (first+mg) gu)=true->Sort.siftDown bH E first root l.toArray=Sort.siftDown bH E first mg (gy l (first+root) (first+mg)).toArray)->
      (∃t:Nat×aw,B5 ((E:Int),(first:Int),(root:Int),(mg:Int),l,())=some (.inl ((E:Int),(first:Int),(t.1:Int),t.2,()))/\(first+E<=t.2.length/\t.2.length<2^62/\t.1<=t.2.length)/\E+1-t.1<E+1-root/\
       ∀r,(r=.inl ((Sort.siftDown bH E first t.1 t.2.toArray).toList,())\/r=.inr ((Sort.siftDown bH E first t.1 t.2.toArray).toList,()))->(r=Sum.inl ((Sort.siftDown bH E first root l.toArray).toList,())\/r=Sum.inr ((Sort.siftDown bH E first root l.toArray).toList,())))\/
      (∃r,B5 ((E:Int),(first:Int),(root:Int),(mg:Int),l,())=some (.inr r)/\(r=Sum.inl ((Sort.siftDown bH E first root l.toArray).toList,())\/r=Sum.inr ((Sort.siftDown bH E first root l.toArray).toList,()))):=by
     intro mg nF bw M V;have Tt:=EB (i:=first) (j:=mg) u;simp only[B5,Es,Tt,eR (show first+root<l.length by omega),eR (show first+mg<l.length by omega),aj,bI,mG,mA,List.length_set];cases L:bH (l.getD (first+root) gu) (l.getD (first+mg) gu)
     ·right;refine ⟨_,rfl,.inr ?_⟩;rw[M L]
     ·left;refine ⟨(mg,gy l (first+root) (first+mg)),rfl,⟨by simp only[gU];exact q,by simp only[gU];exact G,by simp only[gU];omega⟩,by simp only;omega,λr ar=> ?_⟩;rw[V L];exact ar
    by_cases lP:2*root+1+1<E
    ·have ba:(((2*root+1+1:Nat):Int)<(E:Int)):=u;cases L:bH (l.getD (first+(2*root+1)) gu) (l.getD (first+(2*root+1)+1) gu)
     ·have:=tail (2*root+1) u u (λeG=>by
       unfold Sort.siftDown;rw[dif_neg au];simp only[ha,L,eG,Bool.and_false,cH,if_true,Bool.false_eq_true,if_false]) (λeG=>by
       conv=>lhs;unfold Sort.siftDown
       rw[dif_neg au];simp only[ha,ly,L,eG,Bool.and_false,cK,Bool.false_eq_true,if_false])
      simp only[va,B6,hX,du,dc,gK,bh c,aW ba,aj,av,eR (show first+(2*root+1)<l.length by omega),eR (show first+(2*root+1)+1<l.length by omega),bI,mG,mA,L];exact this
     ·have:=tail (2*root+1+1) u u (λeG=>by
       unfold Sort.siftDown;rw[dif_neg au];simp only[ha,L,eG,lP,cf,Bool.true_and,cH,if_true]) (λeG=>by
       conv=>lhs;unfold Sort.siftDown
       rw[dif_neg au];simp only[ha,ly,L,eG,lP,cf,Bool.true_and,cK,Bool.false_eq_true,if_false,if_true];exact dif_pos trivial)
      simp only[va,B6,hX,du,dc,gK,bh c,aW ba,aj,av,eR (show first+(2*root+1)<l.length by omega),eR (show first+(2*root+1)+1<l.length by omega),bI,mG,mA,L];exact this
    ·have ba: ¬(((2*root+1+1:Nat):Int)<(E:Int)):=u;have:=tail (2*root+1) u u (λeG=>by
      unfold Sort.siftDown;rw[dif_neg au];simp only[ha,eG,lP,decide_false,Bool.false_and,cH,if_true,Bool.false_eq_true,if_false]) (λeG=>by
      conv=>lhs;unfold Sort.siftDown
      rw[dif_neg au];simp only[ha,ly,eG,lP,decide_false,Bool.false_and,cK,Bool.false_eq_true,if_false])
     simp only[va,B6,hX,du,bh c,bh ba,aj,av];exact this) (aR,l) ⟨q,G,W⟩ (by simp only;omega)
 have j7:Sl ((E:Int),(first:Int),(aR:Int),l,())=some r:=g1;simp only[Cj,j7];rcases g2 with rfl |rfl<;>rfl
theorem X4 (E first:Nat): ∀(k:Nat) (I:Array aK),(Sort.heapBuild bH E first k I).size=I.size
 |0,_=>rfl
 |k+1,I=>by unfold Sort.heapBuild;rw[X4 E first k,M5 (E-k) E first k I (ca _)]
theorem a28 (a b:Nat) (l:aw) (gC:a<b) (L:b<=l.length) (ad:l.length<2^62):
  Is ((a:Int),(b:Int),l,())=some ((Sort.heapSort bH l.toArray a b).toList,()):=by
 obtain ⟨E,jr⟩: ∃E,b-a=E:=⟨_,rfl⟩;have hX:i64.wrap ((b:Int)-(a:Int))=(E:Int):=by rw[cQ u];omega
 have Tr:i64.wrap (Int.tdiv (i64.wrap ((E:Int)-1)) 2)=((((E-1)/2+1:Nat):Int)-1):=by
  have e:i64.wrap ((E:Int)-1)=((E-1:Nat):Int):=by rw[cQ u];omega
  rw[e];have V:Int.tdiv (((E-1:Nat):Int)) 2=(((E-1)/2:Nat):Int):=by rw[Int.tdiv_eq_ediv_of_nonneg u];rfl
  rw[V,cQ u];omega
 obtain ⟨r,g1,g2⟩:=lY (b:=Cl) (λs:Nat×aw=>((a:Int),(0:Int),(E:Int),(s.1:Int)-1,s.2,())) (λs=>s.1)
  (λs=>a+E<=s.2.length/\s.2.length<2^62/\s.1<=s.2.length+1) (λs r=>r=.inl ((a:Int),(0:Int),(E:Int),(Sort.heapBuild bH E a s.1 s.2.toArray).toList,()))
  (λs aP=>by
   obtain ⟨k,l⟩:=s;obtain ⟨q,G,W⟩:=aP;simp only at q G W;cases k with
   |zero=>
    right;have c: ¬(((0:Nat):Int)-1>=0):=u;refine ⟨_,?_,rfl⟩;simp only[Cl,bh c,av];rfl
   |succ k=>
    left;have e:(((k+1:Nat):Int)-1)=(k:Int):=u;have c:((k:Int)>=0):=u;have af:=ad7 k E a l q G u;have w:i64.wrap ((k:Int)-1)=(k:Int)-1:=cQ u;have eb:(Sort.siftDown bH E a k l.toArray).toList.length=l.length:=by rw[iz,M5 (E-k) E a k _ (ca _)];rfl
    simp only[Cl,e,aW c,aj,af,w];refine ⟨(k,(Sort.siftDown bH E a k l.toArray).toList),rfl,⟨by simp only[eb];exact q,by simp only[eb];exact G,by simp only[eb];omega⟩,aU,λr ar=> ?_⟩;rw[ar];simp only[Array.toArray_toList];rfl) ((E-1)/2+1,l) ⟨by simp only;omega,ad,by simp only;omega⟩ (by simp only;omega)
 subst g2;have j7:Sj ((a:Int),(0:Int),(E:Int),((((E-1)/2+1:Nat):Int)-1),l,())=some (.inl ((a:Int),(0:Int),(E:Int),(Sort.heapBuild bH E a ((E-1)/2+1) l.toArray).toList,())):=g1;obtain ⟨m,hm⟩: ∃m,(Sort.heapBuild bH E a ((E-1)/2+1) l.toArray).toList=m:=⟨_,rfl⟩;have jX:m.length=l.length:=by rw[<-hm,iz,X4];rfl
 obtain ⟨r,bf,a6⟩:=lY (b:=Cm) (λs:Nat×aw=>((a:Int),(0:Int),(s.1:Int)-1,s.2,())) (λs=>s.1)
  (λs=>a+s.1<=s.2.length/\s.2.length<2^62) (λs r=>r=.inl ((Sort.heapPop bH a s.1 s.2.toArray).toList,()))
  (λs aP=>by
   obtain ⟨k,l⟩:=s;obtain ⟨q,G⟩:=aP;simp only at q G;cases k with
   |zero=>
    right;have c: ¬(((0:Nat):Int)-1>=0):=u;refine ⟨_,?_,rfl⟩;simp only[Cm,bh c,av];rfl
   |succ k=>
    left;have e:(((k+1:Nat):Int)-1)=(k:Int):=u;have c:((k:Int)>=0):=u;have dc:=EB (i:=a) (j:=k) u;have af:=ad7 0 k a (gy l a (a+k)) (by rw[gU];omega) (by rw[gU];exact G) u;rw[Int.natCast_zero]at af
    conv at af=>lhs;unfold gy
    have w:i64.wrap ((k:Int)-1)=(k:Int)-1:=cQ u;have eb:(Sort.siftDown bH k a 0 (gy l a (a+k)).toArray).toList.length=l.length:=by rw[iz,M5 (k-0) k a 0 _ (ca _)];exact gU _ _ _
    simp only[Cm,e,aW c,aj,dc,eR (show a+k<l.length by omega),eR (show a<l.length by omega),bI,List.length_set,af,w];refine ⟨(k,(Sort.siftDown bH k a 0 (gy l a (a+k)).toArray).toList),rfl,⟨by simp only[eb];omega,by simp only[eb];exact G⟩,aU,λr ar=> ?_⟩;rw[ar];simp only[Array.toArray_toList];show _=Sum.inl ((Sort.heapPop bH a k (Sort.siftDown bH k a 0 (Sort.swp l.toArray a (a+k)))).toList,());rw[ly]) (E,m) ⟨by simp only;omega,by simp only;omega⟩ (by simp only;omega)
 subst a6;have gK:i64.wrap ((E:Int)-1)=(E:Int)-1:=cQ u;have SA:Sk ((a:Int),(0:Int),(E:Int)-1,m,())=some (.inl ((Sort.heapPop bH a E m.toArray).toList,())):=bf;have:Sort.heapSort bH l.toArray a b=Sort.heapPop bH a E m.toArray:=by unfold Sort.heapSort;rw[jr,<-hm,Array.toArray_toList]
 rw[this];unfold Is;dsimp only;rw[hX,Tr,j7,hm];dsimp only;rw[gK,SA]
abbrev uy:Type:=(Int)×(Int)×(Int)×(List (aK))×H
abbrev hs (a i j:Nat) (l:aw):uy:=((a:Int),(i:Int),(j:Int),l,())
theorem Gi (p:aK->Bool) (I:Array aK) (j i:Nat):Sort.scanUp p I j i=if i<=j&&p I[i]! then Sort.scanUp p I j (i+1) else i:=by
 conv=>lhs;unfold Sort.scanUp
theorem PR {b:uy->Option (uy⊕(uy⊕H))} (p:aw->aK->Bool) (a j:Nat) (l:aw) (aV:a<l.length) (al:j<l.length) (ad:l.length<2^62)
  (L: ∀i:Nat,b (hs a i j l)=bif decide ((i:Int)<=(j:Int)) then (bif decide ((0:Int)<=(i:Int))&&decide ((i:Int)<(l.length:Int)) then (bif p l (l.getD i gu) then some (.inl ((a:Int),i64.wrap ((i:Int)+1),(j:Int),l,())) else some (.inr (.inl (hs a i j l)))) else none) else some (.inr (.inl (hs a i j l)))) (i:Nat):
  b8 b (hs a i j l)=some (.inl (hs a (Sort.scanUp (p l) l.toArray j i) j l)):=by
 by_cases Ry:i<=j
 ·obtain ⟨r,q,G⟩:=lY (b:=b) (λi:Nat=>hs a i j l) (λi=>j+1-i) (λi=>i<=j+1) (λi r=>r=.inl (hs a (Sort.scanUp (p l) l.toArray j i) j l))
   (λi E=>by
    simp only[L];by_cases pj:i<=j
    ·have c:((i:Int)<=(j:Int)):=u;have w:=fx (j:=i) u;rw[aW c,aj,eR (show i<l.length by omega),aj,w];cases aT:p l (l.getD i gu)
     ·right;refine ⟨_,rfl,?_⟩;rw[Gi,ha,aT];simp
     ·left;refine ⟨i+1,rfl,u,u,λr ar=> ?_⟩;rw[Gi,ha,aT];simp only[pj,cf,bN,if_true];exact ar
    ·right;have c: ¬((i:Int)<=(j:Int)):=u;rw[bh c,av];refine ⟨_,rfl,?_⟩;rw[Gi];simp[pj]) i u u
  rw[q,G]
 ·have c: ¬((i:Int)<=(j:Int)):=u;have bW:=L i;rw[bh c,av]at bW;have:Sort.scanUp (p l) l.toArray j i=i:=by rw[Gi];simp[Ry]
  rw[this];exact oQ (n:=1) (by rw[kS];omega) (by simp only[gi,bW])
theorem OT {b:uy->Option (uy⊕(uy⊕H))} (p:aw->aK->Bool) (a i:Nat) (l:aw) (aV:a<l.length) (ad:l.length<2^62) (E:1<=i)
  (L: ∀j:Nat,b (hs a i j l)=bif decide ((i:Int)<=(j:Int)) then (bif decide ((0:Int)<=(j:Int))&&decide ((j:Int)<(l.length:Int)) then (bif p l (l.getD j gu) then some (.inl ((a:Int),(i:Int),i64.wrap ((j:Int)-1),l,())) else some (.inr (.inl (hs a i j l)))) else none) else some (.inr (.inl (hs a i j l)))) (j:Nat) (al:j<l.length):
  b8 b (hs a i j l)=some (.inl (hs a i (Sort.scanDown (p l) l.toArray i j) l)):=by
 obtain ⟨r,q,G⟩:=lY (b:=b) (λj:Nat=>hs a i j l) (λj=>j) (λj=>j<l.length) (λj r=>r=.inl (hs a i (Sort.scanDown (p l) l.toArray i j) l))
  (λj al=>by
   simp only[L];cases j with
   |zero=>
    right;have c: ¬((i:Int)<=((0:Nat):Int)):=u;rw[bh c,av];exact ⟨_,rfl,rfl⟩
   |succ j=>
    by_cases pj:i<=j+1
    ·have c:((i:Int)<=((j+1:Nat):Int)):=u;have w:=Tz (j:=j) u;rw[aW c,aj,eR al,aj,w];cases aT:p l (l.getD (j+1) gu)
     ·right;refine ⟨_,rfl,?_⟩;unfold Sort.scanDown;rw[ha,aT];simp
     ·left;refine ⟨j,rfl,u,u,λr ar=> ?_⟩;rw[ar]
      conv=>rhs;unfold Sort.scanDown
      rw[ha,aT];simp only[pj,cf,bN,if_true]
    ·right;have c: ¬((i:Int)<=((j+1:Nat):Int)):=u;rw[bh c,av];refine ⟨_,rfl,?_⟩;unfold Sort.scanDown;simp[pj]) j al u
 rw[q,G]
section
variable {a i j:Nat} {l:aw}
theorem alz (aV:a<l.length) (al:j<l.length) (ad:l.length<2^62):Qs (hs a i j l)=some (.inl (hs a (Sort.scanUp (λx=> !bH (l.toArray)[a]! x) l.toArray j i) j l)):=by
 rw[ha];exact PR (b:=HY) (λl x=> !bH (l.getD a gu) x) a j l aV al ad (λi=>by simp only[HY,eR aV,aj,mG,mA,bI]) i
theorem alA (aV:a<l.length) (al:j<l.length) (ad:l.length<2^62) (E:1<=i):Qt (hs a i j l)=some (.inl (hs a i (Sort.scanDown (λx=>bH (l.toArray)[a]! x) l.toArray i j) l)):=by
 rw[ha];exact OT (b:=HZ) (λl x=>bH (l.getD a gu) x) a i l aV ad E (λj=>by simp only[HZ,eR aV,aj,mG,mA,bI]) j al
theorem alF (aV:a<l.length) (al:j<l.length) (ad:l.length<2^62):St (hs a i j l)=some (.inl (hs a (Sort.scanUp (λx=>bH x (l.toArray)[a]!) l.toArray j i) j l)):=by
 rw[ha];exact PR (b:=Ii) (λl x=>bH x (l.getD a gu)) a j l aV al ad (λi=>by simp only[Ii,eR aV,aj,mG,mA,bI]) i
theorem alX (aV:a<l.length) (al:j<l.length) (ad:l.length<2^62):Sv (hs a i j l)=some (.inl (hs a (Sort.scanUp (λx=>bH x (l.toArray)[a]!) l.toArray j i) j l)):=by
 rw[ha];exact PR (b:=Il) (λl x=>bH x (l.getD a gu)) a j l aV al ad (λi=>by simp only[Il,eR aV,aj,mG,mA,bI]) i
theorem alG (aV:a<l.length) (al:j<l.length) (ad:l.length<2^62) (E:1<=i):Su (hs a i j l)=some (.inl (hs a i (Sort.scanDown (λx=> !bH x (l.toArray)[a]!) l.toArray i j) l)):=by
 rw[ha];exact OT (b:=Ij) (λl x=> !bH x (l.getD a gu)) a i l aV ad E (λj=>by simp only[Ij,eR aV,aj,mG,mA,bI]) j al
theorem alY (aV:a<l.length) (al:j<l.length) (ad:l.length<2^62) (E:1<=i):Sw (hs a i j l)=some (.inl (hs a i (Sort.scanDown (λx=> !bH x (l.toArray)[a]!) l.toArray i j) l)):=by
 rw[ha];exact OT (b:=Im) (λl x=> !bH x (l.getD a gu)) a i l aV ad E (λj=>by simp only[Im,eR aV,aj,mG,mA,bI]) j al
end
theorem asf: ∀(n a i j:Nat) (I:Array aK),j+1-i<=n->(Sort.partLoop bH a i j I).2.size=I.size/\(Sort.partLoop bH a i j I).1<=j:=by
 intro n
 induction n with
 |zero=>
  intro a i j I h;rw[Sort.partLoop_eq];have q:=Sort.scanUp_ge (λx=>bH x I[a]!) I j i;have G:=Sort.scanDown_le (λx=> !bH x I[a]!) I (Sort.scanUp (λx=>bH x I[a]!) I j i) j;rw[if_pos u];exact ⟨rfl,G⟩
 |succ n aO=>
  intro a i j I h;rw[Sort.partLoop_eq];have q:=Sort.scanUp_ge (λx=>bH x I[a]!) I j i;have G:=Sort.scanDown_le (λx=> !bH x I[a]!) I (Sort.scanUp (λx=>bH x I[a]!) I j i) j;split
  ·exact ⟨rfl,G⟩
  ·obtain ⟨W,aC⟩:=aO a (Sort.scanUp (λx=>bH x I[a]!) I j i+1) (Sort.scanDown (λx=> !bH x I[a]!) I (Sort.scanUp (λx=>bH x I[a]!) I j i) j-1) (Sort.swp I (Sort.scanUp (λx=>bH x I[a]!) I j i) (Sort.scanDown (λx=> !bH x I[a]!) I (Sort.scanUp (λx=>bH x I[a]!) I j i) j)) u;rw[xm]at W;exact ⟨W,u⟩
theorem Q3 (i j:Nat):decide ((i:Int)>(j:Int))=decide (i>j):=by
 by_cases h:i>j
 ·rw[aW h,aW u]
 ·rw[bh h,bh u]
theorem akJ (a:Nat) (yk:0<=a) (i j:Nat) (l:aw) (aV:a<i) (al:j<l.length) (oA:a<l.length) (ad:l.length<2^62):
  H0 (hs a i j l)=some (.inl (((Sort.partEqLoop bH a i j l.toArray).1:Int),(Sort.partEqLoop bH a i j l.toArray).2.toList,())):=by
 obtain ⟨r,q,G⟩:=lY (b:=HX) (λs:Nat×Nat×aw=>hs a s.1 s.2.1 s.2.2) (λs=>s.2.1+1-s.1)
  (λs=>a<s.1/\s.2.1<s.2.2.length/\a<s.2.2.length/\s.2.2.length<2^62)
  (λs r=>r=.inl (((Sort.partEqLoop bH a s.1 s.2.1 s.2.2.toArray).1:Int),(Sort.partEqLoop bH a s.1 s.2.1 s.2.2.toArray).2.toList,()))
  (λs aP=>by
   obtain ⟨i,j,l⟩:=s;obtain ⟨aV,al,oA,ad⟩:=aP;simp only at aV al oA ad;obtain ⟨i2,e3⟩: ∃x,Sort.scanUp (λx=> !bH (l.toArray)[a]! x) l.toArray j i=x:=⟨_,rfl⟩;obtain ⟨ep,hl⟩: ∃x,Sort.scanDown (λx=>bH (l.toArray)[a]! x) l.toArray i2 j=x:=⟨_,rfl⟩;have g1:=Sort.scanUp_ge (λx=> !bH (l.toArray)[a]! x) l.toArray j i;have g2:=Sort.scanDown_le (λx=>bH (l.toArray)[a]! x) l.toArray i2 j;rw[e3]at g1;rw[hl]at g2;have M:=alz (a:=a) (i:=i) (j:=j) (l:=l) oA al ad;have V:=alA (a:=a) (i:=i2) (j:=j) (l:=l) oA al ad u;rw[e3]at M;rw[hl]at V;have eq:=Sort.partEqLoop_eq bH a i j l.toArray;rw[e3,hl]at eq;simp only[HX,M,V,Q3 i2 ep];by_cases m4:i2>ep
   ·right;rw[if_pos m4]at eq;rw[aW m4,aj,eq];exact ⟨_,rfl,rfl⟩
   ·left;rw[if_neg m4,ly]at eq;have du:i64.wrap ((ep:Int)-1)=((ep-1:Nat):Int):=by rw[cQ u];omega
    have dc:=fx (j:=i2) u;rw[bh m4,av];simp only[eR (show ep<l.length by omega),eR (show i2<l.length by omega),aj,List.length_set,bI,du,dc];refine ⟨(i2+1,ep-1,gy l i2 ep),rfl,⟨by simp only;omega,by simp only[gU];omega,by simp only[gU];omega,by simp only[gU];omega⟩,by simp only;omega,λr ar=> ?_⟩;rw[eq];exact ar) (i,j,l) ⟨aV,al,oA,ad⟩ (by simp only;omega)
 rw[show H0 (hs a i j l)=some r from q,G]
theorem akM (a:Nat) (i j:Nat) (l:aw) (aV:a<i) (al:j<l.length) (oA:a<l.length) (ad:l.length<2^62):
  Io (hs a i j l)=some (.inl ((a:Int),((Sort.partLoop bH a i j l.toArray).1:Int),(Sort.partLoop bH a i j l.toArray).2.toList,())):=by
 obtain ⟨r,q,G⟩:=lY (b:=Ik) (λs:Nat×Nat×aw=>hs a s.1 s.2.1 s.2.2) (λs=>s.2.1+1-s.1)
  (λs=>a<s.1/\s.2.1<s.2.2.length/\a<s.2.2.length/\s.2.2.length<2^62)
  (λs r=>r=.inl ((a:Int),((Sort.partLoop bH a s.1 s.2.1 s.2.2.toArray).1:Int),(Sort.partLoop bH a s.1 s.2.1 s.2.2.toArray).2.toList,()))
  (λs aP=>by
   obtain ⟨i,j,l⟩:=s;obtain ⟨aV,al,oA,ad⟩:=aP;simp only at aV al oA ad;obtain ⟨i2,e3⟩: ∃x,Sort.scanUp (λx=>bH x (l.toArray)[a]!) l.toArray j i=x:=⟨_,rfl⟩;obtain ⟨ep,hl⟩: ∃x,Sort.scanDown (λx=> !bH x (l.toArray)[a]!) l.toArray i2 j=x:=⟨_,rfl⟩;have g1:=Sort.scanUp_ge (λx=>bH x (l.toArray)[a]!) l.toArray j i;have g2:=Sort.scanDown_le (λx=> !bH x (l.toArray)[a]!) l.toArray i2 j;rw[e3]at g1;rw[hl]at g2;have M:=alX (a:=a) (i:=i) (j:=j) (l:=l) oA al ad;have V:=alY (a:=a) (i:=i2) (j:=j) (l:=l) oA al ad u;rw[e3]at M;rw[hl]at V;have eq:=Sort.partLoop_eq bH a i j l.toArray;rw[e3,hl]at eq;simp only[Ik,M,V,Q3 i2 ep];by_cases m4:i2>ep
   ·right;rw[if_pos m4]at eq;rw[aW m4,aj,eq];exact ⟨_,rfl,rfl⟩
   ·left;rw[if_neg m4,ly]at eq;have du:i64.wrap ((ep:Int)-1)=((ep-1:Nat):Int):=by rw[cQ u];omega
    have dc:=fx (j:=i2) u;rw[bh m4,av];simp only[eR (show ep<l.length by omega),eR (show i2<l.length by omega),aj,List.length_set,bI,du,dc];refine ⟨(i2+1,ep-1,gy l i2 ep),rfl,⟨by simp only;omega,by simp only[gU];omega,by simp only[gU];omega,by simp only[gU];omega⟩,by simp only;omega,λr ar=> ?_⟩;rw[eq];exact ar) (i,j,l) ⟨aV,al,oA,ad⟩ (by simp only;omega)
 rw[show Io (hs a i j l)=some r from q,G]
theorem ajE (a b p:Nat) (l:aw) (gC:a<b) (aT:p<b) (L:b<=l.length) (ad:l.length<2^62):
  B4 ((a:Int),(b:Int),(p:Int),l,())=some (((Sort.partitionEqual bH l.toArray a b p).1:Int),(Sort.partitionEqual bH l.toArray a b p).2.toList,()):=by
 have du:=fx (j:=a) u;have dc:i64.wrap ((b:Int)-1)=((b-1:Nat):Int):=by rw[cQ u];omega
 have e:=akJ a (Nat.zero_le _) (a+1) (b-1) (gy l a p) u (by rw[gU];omega) (by rw[gU];omega) (by rw[gU];exact ad);unfold Sort.partitionEqual;rw[ly]
 conv at e=>lhs;unfold gy
 simp only[B4,eR (show p<l.length by omega),eR (show a<l.length by omega),aj,List.length_set,bI,du,dc,e]
theorem akI (a b p:Nat) (l:aw) (gC:a<b) (aT:p<b) (L:b<=l.length) (ad:l.length<2^62):
  Ci ((a:Int),(b:Int),(p:Int),l,())=some (((Sort.partition bH l.toArray a b p).1:Int),(Sort.partition bH l.toArray a b p).2.1,(Sort.partition bH l.toArray a b p).2.2.toList,()):=by
 have du:=fx (j:=a) u;have dc:i64.wrap ((b:Int)-1)=((b-1:Nat):Int):=by rw[cQ u];omega
 obtain ⟨m,hm⟩: ∃m,gy l a p=m:=⟨_,rfl⟩;have jX:m.length=l.length:=by rw[<-hm,gU]
 obtain ⟨i2,e3⟩: ∃x,Sort.scanUp (λx=>bH x (m.toArray)[a]!) m.toArray (b-1) (a+1)=x:=⟨_,rfl⟩;obtain ⟨ep,hl⟩: ∃x,Sort.scanDown (λx=> !bH x (m.toArray)[a]!) m.toArray i2 (b-1)=x:=⟨_,rfl⟩;have g1:=Sort.scanUp_ge (λx=>bH x (m.toArray)[a]!) m.toArray (b-1) (a+1);have g2:=Sort.scanDown_le (λx=> !bH x (m.toArray)[a]!) m.toArray i2 (b-1);rw[e3]at g1;rw[hl]at g2;have M:=alF (a:=a) (i:=a+1) (j:=b-1) (l:=m) u u u;have V:=alG (a:=a) (i:=i2) (j:=b-1) (l:=m) u u u u;rw[e3]at M;rw[hl]at V;have hR:Sort.partition bH l.toArray a b p=if i2>ep then (ep,true,Sort.swp m.toArray ep a) else ((Sort.partLoop bH a (i2+1) (ep-1) (Sort.swp m.toArray i2 ep)).1,false,Sort.swp (Sort.partLoop bH a (i2+1) (ep-1) (Sort.swp m.toArray i2 ep)).2 (Sort.partLoop bH a (i2+1) (ep-1) (Sort.swp m.toArray i2 ep)).1 a):=by unfold Sort.partition;rw[ly,hm];simp only[e3,hl]
 rw[hR];have CU:(l.set a (l.getD p gu)).set p (l.getD a gu)=m:=hm;simp only[Ci,eR (show p<l.length by omega),eR (show a<l.length by omega),aj,List.length_set,bI,du,dc,CU,M,V,Q3 i2 ep];by_cases m4:i2>ep
 ·rw[aW m4,aj,if_pos m4,ly];simp only[eR (show a<m.length by omega),eR (show ep<m.length by omega),aj,List.length_set,bI];rfl
 ·rw[bh m4,av,if_neg m4,ly];have gK:i64.wrap ((ep:Int)-1)=((ep-1:Nat):Int):=by rw[cQ u];omega
  have kk:=fx (j:=i2) u;have e:=akM a (i2+1) (ep-1) (gy m i2 ep) u (by rw[gU];omega) (by rw[gU];omega) (by rw[gU];omega);obtain ⟨s1,s2⟩:=asf _ a (i2+1) (ep-1) (gy m i2 ep).toArray (ca _);obtain ⟨R,kq⟩: ∃R,Sort.partLoop bH a (i2+1) (ep-1) (gy m i2 ep).toArray=R:=⟨_,rfl⟩;rw[kq]at e s1 s2 ⊢;have jB:R.2.toList.length=l.length:=by rw[iz,s1];show (gy m i2 ep).length=_;rw[gU,jX]
  conv at e=>lhs;unfold gy
  have R1:Sort.swp R.2 R.1 a=(gy R.2.toList R.1 a).toArray:=by rw[<-ly]
  rw[R1];simp only[eR (show ep<m.length by omega),eR (show i2<m.length by omega),aj,List.length_set,bI,gK,kk,e,eR (show R.1<R.2.toList.length by omega),eR (show a<R.2.toList.length by omega)];rfl
theorem Mi (I:Array aK) (b i:Nat):Sort.scanSorted bH I b i=if i<b&& !bH I[i]! I[i-1]! then Sort.scanSorted bH I b (i+1) else i:=by
 conv=>lhs;unfold Sort.scanSorted
theorem aqw: ∀(n b i:Nat) (I:Array aK),b-i<=n->i<=b->i<=Sort.scanSorted bH I b i/\Sort.scanSorted bH I b i<=b:=by
 intro n
 induction n with
 |zero=>
  intro b i I h G;rw[Mi];have: ¬i<b:=u;simp only[this,decide_false,Bool.false_and,Bool.false_eq_true,if_false];omega
 |succ n aO=>
  intro b i I h G;rw[Mi];split
  ·rename_i au;have bw:i<b:=by rw[bQ,dS]at au;exact au.1
   have:=aO b (i+1) I u u;omega
  ·omega
theorem Yu: ∀(j:Nat) (I:Array aK),(Sort.shiftDown bH j I).size=I.size
 |0,_=>rfl
 |j+1,I=>by
  unfold Sort.shiftDown;split
  ·rfl
  ·rw[Yu j,xm]
theorem N2 (b j:Nat) (I:Array aK):Sort.shiftUp bH b j I=if j<b then (if !bH I[j]! I[j-1]! then I else Sort.shiftUp bH b (j+1) (Sort.swp I j (j-1))) else I:=by
 conv=>lhs;unfold Sort.shiftUp
theorem arn: ∀(n b j:Nat) (I:Array aK),b-j<=n->(Sort.shiftUp bH b j I).size=I.size:=by
 intro n
 induction n with
 |zero=>
  intro b j I h;rw[N2,if_neg u]
 |succ n aO=>
  intro b j I h;rw[N2];split
  ·split
   ·rfl
   ·rw[aO _ _ _ u,xm]
  ·rfl
theorem alB (a b d:Nat) (l:aw) (L:b<=l.length) (ad:l.length<2^62) (i:Nat) (E:1<=i) (js:i<=b):
  HH ((a:Int),(b:Int),(i:Int),(d:Int),l,())=some (.inl ((a:Int),(b:Int),((Sort.scanSorted bH l.toArray b i:Nat):Int),(d:Int),l,())):=by
 obtain ⟨r,q,G⟩:=lY (b:=B0) (λi:Nat=>((a:Int),(b:Int),(i:Int),(d:Int),l,())) (λi=>b-i) (λi=>1<=i/\i<=b)
  (λi r=>r=.inl ((a:Int),(b:Int),((Sort.scanSorted bH l.toArray b i:Nat):Int),(d:Int),l,()))
  (λi E=>by
   obtain ⟨q,G⟩:=E;rw[Mi,ha,ha];by_cases js:i<b
   ·have c:((i:Int)<(b:Int)):=u;have w:i64.wrap ((i:Int)-1)=((i-1:Nat):Int):=by rw[cQ u];omega
    have dc:=fx (j:=i) u;simp only[B0,aW c,aj,eR (show i<l.length by omega),w,dc,eR (show i-1<l.length by omega),mG,mA,bI];cases bw:bH (l.getD i gu) (l.getD (i-1) gu)
    ·left;refine ⟨i+1,rfl,u,u,λr ar=> ?_⟩;simp only[js,cf,cH,bN,if_true];exact ar
    ·right;refine ⟨_,rfl,?_⟩;simp
   ·right;have c: ¬((i:Int)<(b:Int)):=u;simp only[B0,bh c,av];refine ⟨_,rfl,?_⟩;simp[js]) i ⟨E,js⟩ u
 rw[show HH ((a:Int),(b:Int),(i:Int),(d:Int),l,())=some r from q,G]
theorem alC (a b i d:Nat) (j:Nat) (l:aw) (al:j<l.length) (ad:l.length<2^62):
  HI ((a:Int),(b:Int),(i:Int),(d:Int),(j:Int),l,())=some (.inl ((a:Int),(b:Int),(i:Int),(d:Int),(Sort.shiftDown bH j l.toArray).toList,())):=by
 obtain ⟨r,q,G⟩:=lY (b:=BR) (λs:Nat×aw=>((a:Int),(b:Int),(i:Int),(d:Int),(s.1:Int),s.2,())) (λs=>s.1) (λs=>s.1<s.2.length/\s.2.length<2^62)
  (λs r=>r=.inl ((a:Int),(b:Int),(i:Int),(d:Int),(Sort.shiftDown bH s.1 s.2.toArray).toList,()))
  (λs aP=>by
   obtain ⟨j,l⟩:=s;obtain ⟨al,ad⟩:=aP;simp only at al ad;cases j with
   |zero=>
    right;refine ⟨_,?_,rfl⟩;have c: ¬(((0:Nat):Int)>=1):=u;simp only[BR,bh c,av];rfl
   |succ j=>
    have c:(((j+1:Nat):Int)>=1):=u;have w:=Tz (j:=j) u;simp only[BR,aW c,aj,eR al,w,eR (show j<l.length by omega),mG,mA,bI,List.length_set];cases bw:bH (l.getD (j+1) gu) (l.getD j gu)
    ·right;refine ⟨_,rfl,?_⟩;unfold Sort.shiftDown;rw[ha,ha,bw];rfl
    ·left;refine ⟨(j,gy l (j+1) j),rfl,⟨by simp only[gU];omega,by simp only[gU];exact ad⟩,aU,λr ar=> ?_⟩;rw[ar];have:Sort.shiftDown bH (j+1) l.toArray=Sort.shiftDown bH j (gy l (j+1) j).toArray:=by
      conv=>lhs;unfold Sort.shiftDown
      rw[ha,ha,bw,ly];rfl
     simp only[this]) (j,l) ⟨al,ad⟩ (by simp only;omega)
 rw[show HI ((a:Int),(b:Int),(i:Int),(d:Int),(j:Int),l,())=some r from q,G]
theorem alD (a b i d:Nat) (j:Nat) (l:aw) (al:1<=j) (CP:j<=b+1) (L:b<=l.length) (ad:l.length<2^62):
  HJ ((a:Int),(b:Int),(i:Int),(d:Int),(j:Int),l,())=some (.inl ((a:Int),(b:Int),(i:Int),(d:Int),(Sort.shiftUp bH b j l.toArray).toList,())):=by
 obtain ⟨r,q,G⟩:=lY (b:=BS) (λs:Nat×aw=>((a:Int),(b:Int),(i:Int),(d:Int),(s.1:Int),s.2,())) (λs=>b-s.1) (λs=>1<=s.1/\s.1<=b+1/\b<=s.2.length/\s.2.length<2^62)
  (λs r=>r=.inl ((a:Int),(b:Int),(i:Int),(d:Int),(Sort.shiftUp bH b s.1 s.2.toArray).toList,()))
  (λs aP=>by
   obtain ⟨j,l⟩:=s;obtain ⟨al,CP,L,ad⟩:=aP;simp only at al CP L ad;have hu:=N2 b j l.toArray;rw[ha,ha,ly]at hu;by_cases bw:j<b
   ·have c:((j:Int)<(b:Int)):=u;have w:i64.wrap ((j:Int)-1)=((j-1:Nat):Int):=by rw[cQ u];omega
    have dc:=fx (j:=j) u;rw[if_pos bw]at hu;simp only[BS,aW c,aj,eR (show j<l.length by omega),w,dc,eR (show j-1<l.length by omega),mG,mA,bI,List.length_set];cases au:bH (l.getD j gu) (l.getD (j-1) gu)
    ·right;refine ⟨_,rfl,?_⟩;rw[au]at hu;rw[hu];rfl
    ·left;rw[au]at hu;refine ⟨(j+1,gy l j (j-1)),rfl,⟨by simp only;omega,by simp only;omega,by simp only[gU];exact L,by simp only[gU];exact ad⟩,by simp only;omega,λr ar=> ?_⟩;rw[ar,hu];rfl
   ·right;have c: ¬((j:Int)<(b:Int)):=u;rw[if_neg bw]at hu;simp only[BS,bh c,av,hu];exact ⟨_,rfl,rfl⟩) (j,l) ⟨al,CP,L,ad⟩ (by simp only;omega)
 rw[show HJ ((a:Int),(b:Int),(i:Int),(d:Int),(j:Int),l,())=some r from q,G]
theorem atk (a b:Nat) (l:aw) (gC:a<b) (L:b<=l.length) (ad:l.length<2^62):
  BU ((a:Int),(b:Int),l,())=some ((Sort.partialInsertionSort bH l.toArray a b).2,(Sort.partialInsertionSort bH l.toArray a b).1.toList,()):=by
 obtain ⟨r,q,G⟩:=lY (b:=BZ) (λs:Nat×Nat×aw=>((a:Int),(b:Int),(s.2.1:Int),((5-s.1:Nat):Int),s.2.2,())) (λs=>s.1)
  (λs=>s.1<=5/\a+1<=s.2.1/\s.2.1<=b/\b<=s.2.2.length/\s.2.2.length<2^62)
  (λs r=>r=.inl ((Sort.partialIns bH a b s.1 s.2.1 s.2.2.toArray).2,(Sort.partialIns bH a b s.1 s.2.1 s.2.2.toArray).1.toList,())\/((Sort.partialIns bH a b s.1 s.2.1 s.2.2.toArray).2=false/\r=.inr ((Sort.partialIns bH a b s.1 s.2.1 s.2.2.toArray).1.toList,())))
  (λs aP=>by
   obtain ⟨k,i,l⟩:=s;obtain ⟨ag,E,js,L,ad⟩:=aP;simp only at ag E js L ad;cases k with
   |zero=>
    right;refine ⟨_,?_,.inr ⟨rfl,rfl⟩⟩;have c: ¬(((5-0:Nat):Int)<5):=u;simp only[BZ,bh c,av];rfl
   |succ k=>
    have c:(((5-(k+1):Nat):Int)<5):=u;have ws:i64.wrap (((5-(k+1):Nat):Int)+1)=((5-k:Nat):Int):=by rw[cQ u];omega
    have M:=alB a b (5-(k+1)) l L ad i u js;obtain ⟨i2,e3⟩: ∃x,Sort.scanSorted bH l.toArray b i=x:=⟨_,rfl⟩;have g:=aqw _ b i l.toArray (ca _) js;rw[e3]at M g;have hR:Sort.partialIns bH a b (k+1) i l.toArray=if i2=b then (l.toArray,true) else if b-a<50 then (l.toArray,false) else
      Sort.partialIns bH a b k i2 (if b-i2>=2 then Sort.shiftUp bH b (i2+1) (if i2-a>=2 then Sort.shiftDown bH (i2-1) (gy l i2 (i2-1)).toArray else (gy l i2 (i2-1)).toArray) else (if i2-a>=2 then Sort.shiftDown bH (i2-1) (gy l i2 (i2-1)).toArray else (gy l i2 (i2-1)).toArray)):=by
     rw[<-ly]
     conv=>lhs;unfold Sort.partialIns
     simp only[e3]
    rw[hR];simp only[BZ,aW c,aj,M];by_cases eG:i2=b
    ·right;have ba:((i2:Int)=(b:Int)):=u;rw[aW ba,aj,if_pos eG];exact ⟨_,rfl,.inl rfl⟩
    ·have ba: ¬((i2:Int)=(b:Int)):=u;have hX:i64.wrap ((b:Int)-(a:Int))=((b-a:Nat):Int):=by rw[cQ u];omega
     rw[bh ba,av,if_neg eG,hX];by_cases Q7:b-a<50
     ·right;have c3:(((b-a:Nat):Int)<50):=u;rw[aW c3,aj,if_pos Q7];exact ⟨_,rfl,.inl rfl⟩
     ·left;have c3: ¬(((b-a:Nat):Int)<50):=u;have du:i64.wrap ((i2:Int)-1)=((i2-1:Nat):Int):=by rw[cQ u];omega
      have dc:i64.wrap ((i2:Int)-(a:Int))=((i2-a:Nat):Int):=by rw[cQ u];omega
      have gK:i64.wrap ((b:Int)-(i2:Int))=((b-i2:Nat):Int):=by rw[cQ u];omega
      have kk:=fx (j:=i2) u;rw[bh c3,av,if_neg Q7];have half: ∀m:aw,m.length=l.length->
        ∃cW:aw,BY ((a:Int),(b:Int),(i2:Int),((5-(k+1):Nat):Int),m,())=some (.inl ((a:Int),(b:Int),(i2:Int),((5-k:Nat):Int),cW,()))/\cW.length=l.length/\
         cW.toArray=(if b-i2>=2 then Sort.shiftUp bH b (i2+1) m.toArray else m.toArray):=by
       intro m hm;by_cases G:b-i2>=2
       ·have c5:(((b-i2:Nat):Int)>=2):=u;have aY:=alD a b i2 (5-(k+1)) (i2+1) m u u u u;refine ⟨(Sort.shiftUp bH b (i2+1) m.toArray).toList,?_,?_,?_⟩
        ·simp only[BY,gK,aW c5,aj,kk,aY,ws]
        ·rw[iz,arn _ _ _ _ (ca _)];exact hm
        ·rw[if_pos G,Array.toArray_toList]
       ·have c5: ¬(((b-i2:Nat):Int)>=2):=u;refine ⟨m,?_,hm,by rw[if_neg G]⟩;simp only[BY,gK,bh c5,av,ws]
      simp only[du,dc,eR (show i2-1<l.length by omega),eR (show i2<l.length by omega),aj,bI,List.length_set];have R1:(l.set i2 (l.getD (i2-1) gu)).set (i2-1) (l.getD i2 gu)=gy l i2 (i2-1):=rfl;rw[R1];by_cases G:i2-a>=2
      ·have gd:(((i2-a:Nat):Int)>=2):=u;have V:=alC a b i2 (5-(k+1)) (i2-1) (gy l i2 (i2-1)) (by rw[gU];omega) (by rw[gU];exact ad);obtain ⟨cW,f1,f2,f3⟩:=half (Sort.shiftDown bH (i2-1) (gy l i2 (i2-1)).toArray).toList (by rw[iz,Yu];exact gU _ _ _);rw[aW gd,aj];simp only[V,f1];refine ⟨(k,i2,cW),rfl,⟨by simp only;omega,by simp only;omega,by simp only;omega,by simp only;omega,by simp only;omega⟩,aU,λr ar=> ?_⟩;rw[if_pos G];simp only[f3,Array.toArray_toList]at ar;exact ar
      ·have gd: ¬(((i2-a:Nat):Int)>=2):=u;obtain ⟨cW,f1,f2,f3⟩:=half (gy l i2 (i2-1)) (gU _ _ _);rw[bh gd,av];simp only[f1];refine ⟨(k,i2,cW),rfl,⟨by simp only;omega,by simp only;omega,by simp only;omega,by simp only;omega,by simp only;omega⟩,aU,λr ar=> ?_⟩;rw[if_neg G];simp only[f3]at ar;exact ar) (5,a+1,l) ⟨aU,aU,by simp only;omega,L,ad⟩ aU
 have w:=fx (j:=a) u;have dt:Qj ((a:Int),(b:Int),((a+1:Nat):Int),(0:Int),l,())=some r:=q;unfold BU;dsimp only;rw[w,dt];rcases G with rfl |⟨W,rfl⟩
 ·rfl
 ·have W:(Sort.partialInsertionSort bH l.toArray a b).2=false:=W;rw[W];rfl
theorem O2 (a b:Nat) (l:aw) (d:Int) (aV:a<l.length) (L:b<l.length):
  ∃x y:Nat,∃gJ:Int,ya ((a:Int),(b:Int),l,d,())=some ((x:Int),(y:Int),l,gJ,())/\((x=a/\y=b)\/(x=b/\y=a)):=by
 simp only[ya,eR L,eR aV,aj,bI,mG,mA];cases bH (l.getD b gu) (l.getD a gu)
 ·exact ⟨a,b,_,rfl,.inl ⟨rfl,rfl⟩⟩
 ·exact ⟨b,a,_,rfl,.inr ⟨rfl,rfl⟩⟩
theorem acx (a b c:Nat) (l:aw) (d:Int) (aV:a<l.length) (L:b<l.length) (au:c<l.length):
  ∃x:Nat,∃gJ:Int,Cn ((a:Int),(b:Int),(c:Int),l,d,())=some ((x:Int),l,gJ,())/\(x=a\/x=b\/x=c):=by
 obtain ⟨n2,iV,s1,M,q⟩:=O2 a b l d aV L;obtain ⟨oV,kW,s2,V,G⟩:=O2 iV c l s1 u au;obtain ⟨tZ,y3,jB,aY,W⟩:=O2 n2 oV l s2 u u;simp only[Cn,M,V,aY];exact ⟨y3,_,rfl,u⟩
theorem OZ (a:Nat) (l:aw) (d:Int) (aV:1<=a) (L:a+1<l.length) (ad:l.length<2^62):
  ∃x:Nat,∃gJ:Int,xW ((a:Int),l,d,())=some ((x:Int),l,gJ,())/\a-1<=x/\x<=a+1:=by
 have du:i64.wrap ((a:Int)-1)=((a-1:Nat):Int):=by rw[cQ u];omega
 have dc:=fx (j:=a) u;obtain ⟨x,gJ,e,h⟩:=acx (a-1) a (a+1) l d u u L;simp only[xW,du,dc,e];exact ⟨x,_,rfl,u,u⟩
theorem VA (n:Nat) (h:n<2^62):i64.wrap (Int.tdiv (n:Int) 4)=((n/4:Nat):Int):=by
 have V:Int.tdiv ((n:Nat):Int) 4=((n/4:Nat):Int):=by rw[Int.tdiv_eq_ediv_of_nonneg u];omega
 rw[V,cQ u]
theorem ajY (a b:Nat) (l:aw) (gC:a+12<b) (L:b<=l.length) (ad:l.length<2^62):
  ∃x:Nat,∃h:Int,H8 ((a:Int),(b:Int),l,())=some ((x:Int),h,l,())/\a<=x/\x<b:=by
 have hX:i64.wrap ((b:Int)-(a:Int))=((b-a:Nat):Int):=by rw[cQ u];omega
 obtain ⟨n,aN⟩: ∃n,b-a=n:=⟨_,rfl⟩;rw[aN]at hX;have s:=VA n u;have M: ∀k:Nat,k<=3->i64.wrap ((a:Int)+i64.wrap (((n/4:Nat):Int)*(k:Int)))=((a+n/4*k:Nat):Int):=by
  intro k ag;have ku:n/4*k<=n:=by have:n/4*k<=n/4*3:=Nat.mul_le_mul_left _ ag;omega
  have e:((n/4:Nat):Int)*(k:Int)=((n/4*k:Nat):Int):=by rw[Int.natCast_mul]
  rw[e,cQ (x:=((n/4*k:Nat):Int)) u,cQ u];omega
 have f1:i64.wrap ((a:Int)+i64.wrap (((n/4:Nat):Int)*1))=((a+n/4*1:Nat):Int):=M 1 u;have f2:i64.wrap ((a:Int)+i64.wrap (((n/4:Nat):Int)*2))=((a+n/4*2:Nat):Int):=M 2 u;have f3:i64.wrap ((a:Int)+i64.wrap (((n/4:Nat):Int)*3))=((a+n/4*3:Nat):Int):=M 3 u;have vd:((n:Int)>=8):=u;have fin: ∀(i j k:Nat) (d:Int),a<=i->a<=j->a<=k->i<b->j<b->k<b-> ∃x:Nat,∃h:Int,HP ((i:Int),(j:Int),(k:Int),l,d,())=some ((x:Int),h,l,())/\a<=x/\x<b:=by
  intro i j k d q G W aC bd bD;obtain ⟨x,gJ,e,h⟩:=acx i j k l d u u u;simp only[HP,e];cases decide (gJ=0)
  ·cases decide (gJ=12)
   ·exact ⟨x,_,rfl,u,u⟩
   ·exact ⟨x,_,rfl,u,u⟩
  ·exact ⟨x,_,rfl,u,u⟩
 simp only[H8,hX,s,f1,f2,f3,aW vd,aj];by_cases Q7:n>=50
 ·have Qf:((n:Int)>=50):=u;obtain ⟨n2,s1,g1,g2,g3⟩:=OZ (a+n/4*1) l 0 u u ad;obtain ⟨oV,s2,bf,a6,cq⟩:=OZ (a+n/4*2) l s1 u u ad;obtain ⟨tZ,jB,dI,cW,eX⟩:=OZ (a+n/4*3) l s2 u u ad;simp only[aW Qf,aj,g1,bf,dI];exact fin n2 oV tZ jB u u u u u u
 ·have Qf: ¬((n:Int)>=50):=u;simp only[bh Qf,av];exact fin _ _ _ 0 u u u u u u
theorem aoK (i j:Nat) (I:Array aK):Sort.reverseLoop i j I=if i<j then Sort.reverseLoop (i+1) (j-1) (Sort.swp I i j) else I:=by
 conv=>lhs;unfold Sort.reverseLoop
theorem atn (a b:Nat) (l:aw) (gC:a<b) (L:b<=l.length) (ad:l.length<2^62):
  Ca ((a:Int),(b:Int),l,())=some ((Sort.reverseRange l.toArray a b).toList,()):=by
 obtain ⟨r,q,G⟩:=lY (b:=B2) (λs:Nat×Nat×aw=>((s.1:Int),(s.2.1:Int),s.2.2,())) (λs=>s.2.1-s.1) (λs=>s.1<=s.2.2.length/\s.2.1<s.2.2.length/\s.2.2.length<2^62)
  (λs r=>r=.inl ((Sort.reverseLoop s.1 s.2.1 s.2.2.toArray).toList,()))
  (λs aP=>by
   obtain ⟨i,j,l⟩:=s;obtain ⟨E,al,ad⟩:=aP;simp only at E al ad;have hu:=aoK i j l.toArray;rw[ly]at hu;by_cases bw:i<j
   ·left;have c:((i:Int)<(j:Int)):=u;have du:i64.wrap ((j:Int)-1)=((j-1:Nat):Int):=by rw[cQ u];omega
    have dc:=fx (j:=i) u;rw[if_pos bw]at hu;simp only[B2,aW c,aj,eR al,eR (show i<l.length by omega),bI,List.length_set,du,dc];refine ⟨(i+1,j-1,gy l i j),rfl,⟨by simp only[gU];omega,by simp only[gU];omega,by simp only[gU];exact ad⟩,by simp only;omega,λr ar=> ?_⟩;rw[ar,hu]
   ·right;have c: ¬((i:Int)<(j:Int)):=u;rw[if_neg bw]at hu;simp only[B2,bh c,av,hu];exact ⟨_,rfl,rfl⟩) (a,b-1,l) ⟨by simp only;omega,by simp only;omega,ad⟩ (by simp only;omega)
 have w:i64.wrap ((b:Int)-1)=((b-1:Nat):Int):=by rw[cQ u];omega
 have dt:Q1 ((a:Int),((b-1:Nat):Int),l,())=some r:=q;unfold Ca;dsimp only;rw[w,dt,G];rfl
def Vi (k n:Nat):Bool:=match yL ((n:Int),(k:Int),()) with
 |some (v,_)=>decide ((k:Int)<=v)&&decide (v<=(k+8:Nat))&&(decide (n=0)||decide (2^(v-k).toNat<=2*n))
 |none=>false
theorem akk:((List.range 8).all λk=>(List.range 256).all (Vi (8*k)))=true:=aD
theorem al1 (n:Nat) (h:n<256) (k:Nat) (ag:k<8): ∃v:Nat,yL ((n:Int),((8*k:Nat):Int),())=some (((8*k+v:Nat):Int),())/\(n≠0->2^v<=2*n)/\v<=8:=by
 have q:=fD.1 (fD.1 akk k (List.mem_range.2 ag)) n (List.mem_range.2 h);unfold Vi at q;cases e:yL ((n:Int),((8*k:Nat):Int),()) with
 |none=>rw[e]at q;cases q
 |some r=>
  obtain ⟨v,ae⟩:=r;rw[e]at q;have q:(decide (((8*k:Nat):Int)<=v)&&decide (v<=(8*k+8:Nat))&&(decide (n=0)||decide (2^(v-((8*k:Nat):Int)).toNat<=2*n)))=true:=q;rw[bQ,bQ,Bool.or_eq_true,dS,dS,dS,dS]at q;obtain ⟨⟨G,W⟩,aC⟩:=q;refine ⟨(v-((8*k:Nat):Int)).toNat,?_,λaN=>aC.resolve_left aN,u⟩;have:((8*k+(v-((8*k:Nat):Int)).toNat:Nat):Int)=v:=u;rw[this]
theorem Pj (n k:Nat) (ag:k<=64):Int.fdiv (n:Int) (2^(min (Int.toNat (k:Int)) IntKind.u64.bits))=((n/2^k:Nat):Int):=by
 have:min (Int.toNat (k:Int)) IntKind.u64.bits=k:=by show min k 64=k;omega
 rw[this,Int.fdiv_eq_ediv_of_nonneg _ (by exact Int.le_of_lt (Int.pow_pos u))];rw[Int.natCast_ediv,Int.natCast_pow];rfl
theorem Vj (n:Nat) (h:n<2^62) (bW:n≠0): ∃v:Nat,zn ((n:Int),())=some ((v:Int),())/\2^v<=2*n/\v<=64:=by
 have shift: ∀(m k d v:Nat),2^v<=2^(k+d)*(2*(m/2^d))->2^v<=2^k*(2*m):=by
  intro m k d v a8;refine Nat.le_trans a8 ?_;rw[Nat.pow_add,Nat.mul_assoc];have q:2^d*(m/2^d)<=m:=Nat.mul_div_le m (2^d);have G:2^d*(2*(m/2^d))=2*(2^d*(m/2^d)):=by rw[Nat.mul_left_comm]
  rw[G];exact Nat.mul_le_mul_left _ u
 have dM: ∀(m k:Nat),m≠0->m<256->k<8-> ∃v:Nat,yL ((m:Int),((8*k:Nat):Int),())=some ((v:Int),())/\2^v<=2^(8*k)*(2*m)/\v<=8*k+8:=by intro m k bW hm ag;obtain ⟨v,e,q,G⟩:=al1 m hm k ag;refine ⟨8*k+v,e,?_,u⟩;rw[Nat.pow_add];exact Nat.mul_le_mul_left _ (q bW)
 have cj: ∀(m k:Nat),m≠0->m<65536->k<7-> ∃v:Nat,Jo ((m:Int),((8*k:Nat):Int),())=some ((v:Int),())/\2^v<=2^(8*k)*(2*m)/\v<=8*k+16:=by
  intro m k bW hm ag;unfold Jo;dsimp only;by_cases q:m>=256
  ·have c:((m:Int)>=256):=u;have w:i64.wrap (((8*k:Nat):Int)+8)=((8*(k+1):Nat):Int):=by rw[cQ u];omega
   have I:=Pj m 8 u;have I:Int.fdiv (m:Int) (2^(min (Int.toNat (8:Int)) IntKind.u64.bits))=((m/2^8:Nat):Int):=I;obtain ⟨v,e,G,W⟩:=dM (m/2^8) (k+1) u u u;rw[aW c,aj,I,w,e];exact ⟨v,rfl,shift m (8*k) 8 v G,u⟩
  ·have c: ¬((m:Int)>=256):=u;obtain ⟨v,e,G,W⟩:=dM m k bW u u;rw[bh c,av,e];exact ⟨v,rfl,G,u⟩
 have gT: ∀(m k:Nat),m≠0->m<4294967296->k<5-> ∃v:Nat,yK ((m:Int),((8*k:Nat):Int),())=some ((v:Int),())/\2^v<=2^(8*k)*(2*m)/\v<=8*k+32:=by
  intro m k bW hm ag;unfold yK;dsimp only;by_cases q:m>=65536
  ·have c:((m:Int)>=65536):=u;have w:i64.wrap (((8*k:Nat):Int)+16)=((8*(k+2):Nat):Int):=by rw[cQ u];omega
   have I:Int.fdiv (m:Int) (2^(min (Int.toNat (16:Int)) IntKind.u64.bits))=((m/2^16:Nat):Int):=Pj m 16 u;obtain ⟨v,e,G,W⟩:=cj (m/2^16) (k+2) u u u;rw[aW c,aj,I,w,e];exact ⟨v,rfl,shift m (8*k) 16 v G,u⟩
  ·have c: ¬((m:Int)>=65536):=u;obtain ⟨v,e,G,W⟩:=cj m k bW u u;rw[bh c,av,e];exact ⟨v,rfl,G,u⟩
 unfold zn TX;dsimp only;by_cases q:n>=4294967296
 ·have c:((n:Int)>=4294967296):=u;have I:Int.fdiv (n:Int) (2^(min (Int.toNat (32:Int)) IntKind.u64.bits))=((n/2^32:Nat):Int):=Pj n 32 u;obtain ⟨v,e,G,W⟩:=gT (n/2^32) 4 u u u;have e:yK (((n/2^32:Nat):Int),(32:Int),())=some ((v:Int),()):=e;rw[aW c,aj,I,e];refine ⟨v,rfl,?_,u⟩;have:=shift n 0 32 v G;simpa using this
 ·have c: ¬((n:Int)>=4294967296):=u;obtain ⟨v,e,G,W⟩:=gT n 0 bW u u;have e:yK ((n:Int),(0:Int),())=some ((v:Int),()):=e;rw[bh c,av,e];refine ⟨v,rfl,?_,u⟩;simpa using G
theorem ajG (l m:aw) (a b i j:Nat) (h:Sort.PermIn a b l.toArray m.toArray) (E:a<=i/\i<b) (al:a<=j/\j<b) (L:b<=m.length):Sort.PermIn a b l.toArray (gy m i j).toArray:=by rw[<-ly];exact Sort.permIn_trans _ _ _ a b h (Sort.swp_permIn _ a b i j E.1 E.2 al.1 al.2 (by simpa using L))
theorem ajh (a b:Nat) (l:aw) (gC:a+12<b) (L:b<=l.length) (ad:l.length<2^62):
  ∃m:aw,HQ ((a:Int),(b:Int),l,())=some (m,())/\Sort.PermIn a b l.toArray m.toArray:=by
 have hX:i64.wrap ((b:Int)-(a:Int))=((b-a:Nat):Int):=by rw[cQ u];omega
 obtain ⟨n,aN⟩: ∃n,b-a=n:=⟨_,rfl⟩;rw[aN]at hX;have s:=VA n u;have vd:((n:Int)>=8):=u;obtain ⟨v,db,a8,R8⟩:=Vj n u u;have hu:IntKind.u64.wrap (n:Int)=(n:Int):=by show (n:Int)%2^64=_;omega
 have aT:2^v<9223372036854775808:=u;have vy:1<=2^v:=Nat.one_le_two_pow;have lN:Jf ((n:Int),())=some (((2^v:Nat):Int),()):=by
  have c: ¬((v:Int)<0):=u;have RJ:min (Int.toNat (v:Int)) IntKind.u64.bits=v:=by show min v 64=v;omega
  simp only[Jf,hu,db,bh c,av,RJ];have e:(1:Int)*2^v=((2^v:Nat):Int):=by rw[Int.one_mul,Int.natCast_pow];rfl
  rw[e];have:IntKind.u64.wrap ((2^v:Nat):Int)=((2^v:Nat):Int):=by show ((2^v:Nat):Int)%2^64=_;omega
  rw[this]
 have V:i64.wrap ((a:Int)+i64.wrap (((n/4:Nat):Int)*2))=((a+n/4*2:Nat):Int):=by have e:((n/4:Nat):Int)*2=((n/4*2:Nat):Int):=u;rw[e,cQ (x:=((n/4*2:Nat):Int)) u,cQ u];omega
 have gK:i64.wrap (((a+n/4*2:Nat):Int)-1)=((a+n/4*2-1:Nat):Int):=by rw[cQ u];omega
 have kk:i64.wrap (((a+n/4*2:Nat):Int)+1)=((a+n/4*2+1:Nat):Int):=by rw[cQ u];omega
 obtain ⟨r,q,m,rfl,avS,jf⟩:=lY (b:=co) (λs:Nat×aw×Int=>((a:Int),(n:Int),((2^v:Nat):Int),(s.1:Int),s.2.1,s.2.2,())) (λs=>b-s.1)
  (λs=>a<=s.1/\s.1<=a+n/4*2+2/\s.2.1.length=l.length/\Sort.PermIn a b l.toArray s.2.1.toArray)
  (λs r=> ∃m:aw,r=.inl (m,())/\m.length=l.length/\Sort.PermIn a b l.toArray m.toArray)
  (λs aP=>by
   obtain ⟨i,m,aAr⟩:=s;obtain ⟨q,G,W,aC⟩:=aP;simp only at q G W aC;by_cases E:i<=a+n/4*2+1
   ·left;have c:((i:Int)<=((a+n/4*2+1:Nat):Int)):=u;have Ko:=fx (j:=i) u;have azl:IntKind.u64.wrap (((2^v:Nat):Int)-1)=((2^v-1:Nat):Int):=by show (((2^v:Nat):Int)-1)%2^64=_;omega
    have fin: ∀(o:Nat) (S7:Int),o<n-> ∃t:Nat×aw×Int,HF ((a:Int),(n:Int),((2^v:Nat):Int),(i:Int),(o:Int),m,S7,())=some (.inl ((a:Int),(n:Int),((2^v:Nat):Int),(t.1:Int),t.2.1,t.2.2,()))/\
      (a<=t.1/\t.1<=a+n/4*2+2/\t.2.1.length=l.length/\Sort.PermIn a b l.toArray t.2.1.toArray)/\b-t.1<b-i/\ ∀r:(aw×H)⊕H,(∃m:aw,r=.inl (m,())/\m.length=l.length/\Sort.PermIn a b l.toArray m.toArray)->(∃m:aw,r=.inl (m,())/\m.length=l.length/\Sort.PermIn a b l.toArray m.toArray):=by
     intro o S7 ab;have wo:=EB (i:=a) (j:=o) u;simp only[HF,wo,eR (show a+o<m.length by omega),eR (show i<m.length by omega),aj,bI,List.length_set,Ko];refine ⟨(i+1,gy m i (a+o),S7),rfl,⟨by simp only;omega,by simp only;omega,by simp only[gU];exact W,ajG l m a b i (a+o) aC ⟨q,u⟩ ⟨u,u⟩ u⟩,by simp only;omega,λr ar=>ar⟩
    simp only[co,s,V,kk,aW c,aj,Ta,azl];generalize IntKind.u64.wrap ((BitVec.ofInt IntKind.u64.bits _ ^^^ BitVec.ofInt IntKind.u64.bits (IntKind.u64.wrap (_*2^(min (Int.toNat (17:Int)) IntKind.u64.bits)))).toNat:Int)=R;obtain ⟨o,ab⟩: ∃o:Nat,(BitVec.ofInt IntKind.u64.bits R &&& BitVec.ofInt IntKind.u64.bits ((2^v-1:Nat):Int)).toNat=o:=⟨_,rfl⟩;have dC:o<=2^v-1:=by rw[<-ab,BitVec.toNat_and];refine Nat.le_trans Nat.and_le_right ?_;rw[BitVec.toNat_ofInt];show ((((2^v-1:Nat):Int)%((2^64:Nat):Int)).toNat)<=_;omega
    rw[ab];have azn:IntKind.u64.wrap (o:Int)=(o:Int):=by show (o:Int)%2^64=_;omega
    have azm:i64.wrap (o:Int)=(o:Int):=cQ u;rw[azn,azm];by_cases av4:o>=n
    ·have ba:((o:Int)>=(n:Int)):=u;have Es:i64.wrap ((o:Int)-(n:Int))=((o-n:Nat):Int):=by rw[cQ u];omega
     rw[aW ba,aj,Es];exact fin (o-n) R u
    ·have ba: ¬((o:Int)>=(n:Int)):=u;rw[bh ba,av];exact fin o R u
   ·right;have c: ¬((i:Int)<=((a+n/4*2+1:Nat):Int)):=u;simp only[co,s,V,kk,bh c,av];exact ⟨_,rfl,m,rfl,W,aC⟩) (a+n/4*2-1,l,(n:Int)) ⟨by simp only;omega,by simp only;omega,rfl,Sort.permIn_refl _ a b⟩ (by simp only;omega)
 have dt:Qv ((a:Int),(n:Int),((2^v:Nat):Int),((a+n/4*2-1:Nat):Int),l,(n:Int),())=some (.inl (m,())):=q;refine ⟨m,?_,jf⟩;simp only[HQ,hX,aW vd,aj,hu,lN,s,V,gK,dt]
def r9 (a b:Nat) (l m:aw):Prop:=Sort.PermIn a b l.toArray m.toArray/\Sort.SortedIn bH a b m.toArray
theorem PermIn.len {a b:Nat} {l m:aw} (h:Sort.PermIn a b l.toArray m.toArray):m.length=l.length:=by simpa using h.1
abbrev ui:Type:=((Int)×(Int)×(Int)×(List (aK))×H)->Option ((List (aK))×H)
abbrev K2:Type:=(Int)×(Int)×(Int)×(Bool)×(Bool)×(List (aK))×H
def sr (r:ui) (a7:Nat):Prop:= ∀(a b:Nat) (lim:Int) (l:aw),a<=b->b<=l.length->l.length<2^62->b-a<a7->Sort.Below bH a b l.toArray->
 ∃m,r ((a:Int),(b:Int),lim,l,())=some (m,())/\r9 a b l m
structure Next (a b:Nat) (l:aw) (d:K2):Prop where
 ex: ∃(bt bZ:Nat) (lim:Int) (ix wp:Bool) (m:aw),d=((bt:Int),(bZ:Int),lim,ix,wp,m,())/\bt<=bZ/\bZ<=m.length/\m.length=l.length/\Sort.Below bH bt bZ m.toArray/\bZ-bt<b-a/\ ∀x,r9 bt bZ m x->r9 a b l x
theorem Next.pre {a b:Nat} {l m:aw} {d:K2} (h:Next a b m d) (aT:Sort.PermIn a b l.toArray m.toArray):Next a b l d:=by obtain ⟨bt,bZ,lim,ix,wp,x,q,G,W,aC,bd,bD,dU⟩:=h.ex;exact ⟨bt,bZ,lim,ix,wp,x,q,G,W,aC.trans (PermIn.len aT),bd,bD,λy bu=>⟨Sort.permIn_trans _ _ _ a b aT (dU y bu).1,(dU y bu).2⟩⟩
theorem alP (r:ui) (a b a7 p:Nat) (lim len:Int) (l:aw) (ar:sr r a7) (jo:b-a<=a7) (vy:a<=p) (ll:p<b) (L:b<=l.length) (ad:l.length<2^62) (de:Sort.Below bH a b l.toArray):
  ∃d,qW r ((a:Int),(b:Int),lim,len,(p:Int),l,())=some (.inl d)/\Next a b l d:=by
 have e:=akI a b p l u ll L ad;obtain ⟨jz,ap,d4,an⟩: ∃jz ap d4,Sort.partition bH l.toArray a b p=(jz,ap,d4):=⟨_,_,_,rfl⟩;obtain ⟨m,rfl⟩: ∃m:aw,d4=m.toArray:=⟨d4.toList,aU⟩;obtain ⟨q,G,W,aC,bd,bD,dU⟩:=Sort.round_part Az (Sort.partition_holds bH) vy ll (by simpa using L) de an;have jX:m.length=l.length:=by simpa using W
 rw[an]at e;have e:Ci ((a:Int),(b:Int),(p:Int),l,())=some ((jz:Int),ap,m,()):=e;have du:i64.wrap ((jz:Int)-(a:Int))=((jz-a:Nat):Int):=by rw[cQ u];omega
 have dc:i64.wrap ((b:Int)-(jz:Int))=((b-jz:Nat):Int):=by rw[cQ u];omega
 have gK:=fx (j:=jz) u;simp only[qW,e,du,dc,gK];by_cases au:jz-a<b-jz
 ·have c:(((jz-a:Nat):Int)<((b-jz:Nat):Int)):=u;obtain ⟨ay,f1,f2,f3⟩:=ar a jz lim m q u u u aC;obtain ⟨bf,a6⟩:=bD ay.toArray f2 f3;rw[aW c,aj,f1];have Rd:ay.length=l.length:=(PermIn.len f2).trans jX;exact ⟨_,rfl,⟨jz+1,b,_,_,_,ay,rfl,u,u,Rd,bf,u,λx an=>a6 x.toArray an.1 an.2⟩⟩
 ·have c: ¬(((jz-a:Nat):Int)<((b-jz:Nat):Int)):=u;obtain ⟨ay,f1,f2,f3⟩:=ar (jz+1) b lim m u u u u bd;obtain ⟨bf,a6⟩:=dU ay.toArray f2 f3;rw[bh c,av,f1];have Rd:ay.length=l.length:=(PermIn.len f2).trans jX;exact ⟨_,rfl,⟨a,jz,_,_,_,ay,rfl,u,u,Rd,bf,u,λx an=>a6 x.toArray an.1 an.2⟩⟩
theorem alO (r:ui) (a b a7 p:Nat) (lim len:Int) (ix wp:Bool) (l:aw) (ar:sr r a7) (jo:b-a<=a7) (vy:a<=p) (ll:p<b) (L:b<=l.length) (ad:l.length<2^62) (de:Sort.Below bH a b l.toArray):
  ∃d,(ma r ((a:Int),(b:Int),lim,ix,wp,len,(p:Int),l,())=some (.inl d)\/ma r ((a:Int),(b:Int),lim,ix,wp,len,(p:Int),l,())=some (.inr d))/\Next a b l d:=by
 obtain ⟨d,g1,g2⟩:=alP r a b a7 p lim len l ar jo vy ll L ad de;by_cases aV:a>0
 ·have c:((a:Int)>0):=u;have du:i64.wrap ((a:Int)-1)=((a-1:Nat):Int):=by rw[cQ u];omega
  simp only[ma,aW c,aj,du,eR (show a-1<l.length by omega),eR (show p<l.length by omega),bI,mG,mA];cases bw:bH (l.getD (a-1) gu) (l.getD p gu)
  ·have e:=ajE a b p l u ll L ad;obtain ⟨jz,d4,an⟩: ∃jz d4,Sort.partitionEqual bH l.toArray a b p=(jz,d4):=⟨_,_,rfl⟩;obtain ⟨m,rfl⟩: ∃m:aw,d4=m.toArray:=⟨d4.toList,aU⟩;have iq:bH (l.toArray)[a-1]! (l.toArray)[p]! =false:=by rw[ha,ha];exact bw
   obtain ⟨q,G,W,aC,bd⟩:=Sort.round_eq Az (Sort.partitionEqual_holds bH) aV vy ll (by simpa using L) de iq an;have jX:m.length=l.length:=by simpa using W
   rw[an]at e;have e:B4 ((a:Int),(b:Int),(p:Int),l,())=some ((jz:Int),m,()):=e;simp only[pP,cH,aj,e];exact ⟨_,.inr rfl,⟨jz,b,_,_,_,m,rfl,u,u,jX,aC,u,λx an=>bd x.toArray an.1 an.2⟩⟩
  ·simp only[pP,cK,av,g1];exact ⟨_,.inl rfl,g2⟩
 ·have c: ¬((a:Int)>0):=u;simp only[ma,bh c,av,pP,g1];exact ⟨_,.inl rfl,g2⟩
def FI (a b:Nat) (l:aw) (x:Option (K2⊕(((List (aK))×H)⊕(H)))):Prop:=
 (∃d,x=some (.inl d)/\Next a b l d)\/(∃m,x=some (.inr (.inl (m,())))/\r9 a b l m)
theorem Vr (r:ui) (a b a7 p:Nat) (lim len hint:Int) (ix wp:Bool) (l:aw) (ar:sr r a7) (jo:b-a<=a7) (vy:a<=p) (ll:p<b) (L:b<=l.length) (ad:l.length<2^62) (de:Sort.Below bH a b l.toArray):
  FI a b l (HT r ((a:Int),(b:Int),lim,ix,wp,len,(p:Int),hint,l,())):=by
 have flag: ∀f:Bool,(∃m,nu r ((a:Int),(b:Int),lim,ix,wp,len,(p:Int),f,l,())=some (.inl ((a:Int),(b:Int),lim,ix,wp,len,(p:Int),m,()))/\Sort.PermIn a b l.toArray m.toArray)\/
   (∃m,nu r ((a:Int),(b:Int),lim,ix,wp,len,(p:Int),f,l,())=some (.inr (m,()))/\r9 a b l m):=by
  intro f;cases f with
  |false=>
   left;exact ⟨l,by simp only[nu,av],Sort.permIn_refl _ a b⟩
  |true=>
   have e:=atk a b l u L ad;obtain ⟨q,G⟩:=Sort.partialInsertionSort_holds (lt:=bH) Az l.toArray a b u (by simpa using L) de;obtain ⟨I,f2,an⟩: ∃I f2,Sort.partialInsertionSort bH l.toArray a b=(I,f2):=⟨_,_,rfl⟩;obtain ⟨m,rfl⟩: ∃m:aw,I=m.toArray:=⟨I.toList,aU⟩;rw[an]at e q G;have e:BU ((a:Int),(b:Int),l,())=some (f2,m,()):=e;simp only[nu,aj,e];cases f2 with
   |true=>exact .inr ⟨m,rfl,q,G rfl⟩
   |false=>exact .inl ⟨m,rfl,q⟩
 have go: ∀m,Sort.PermIn a b l.toArray m.toArray-> ∃d,(ma r ((a:Int),(b:Int),lim,ix,wp,len,(p:Int),m,())=some (.inl d)\/ma r ((a:Int),(b:Int),lim,ix,wp,len,(p:Int),m,())=some (.inr d))/\Next a b l d:=by intro m hm;have jX:=PermIn.len hm;obtain ⟨d,q,G⟩:=alO r a b a7 p lim len ix wp m ar jo vy ll u u (de.perm (by simpa using L) hm);exact ⟨d,q,G.pre hm⟩
 unfold HT;dsimp only;have fin: ∀f:Bool,FI a b l (match nu r ((a:Int),(b:Int),lim,ix,wp,len,(p:Int),f,l,()) with
   |none=>none
   |some (.inl aF)=>
    match ma r (aF.1,aF.2.1,aF.2.2.1,aF.2.2.2.1,aF.2.2.2.2.1,aF.2.2.2.2.2.1,aF.2.2.2.2.2.2.1,aF.2.2.2.2.2.2.2.1,()) with
    |none=>none
    |some (.inl z2)=>
     some (.inl (z2.1,z2.2.1,z2.2.2.1,z2.2.2.2.1,z2.2.2.2.2.1,z2.2.2.2.2.2.1,()))
    |some (.inr z2)=>
     some (.inl (z2.1,z2.2.1,z2.2.2.1,z2.2.2.2.1,z2.2.2.2.2.1,z2.2.2.2.2.2.1,()))
   |some (.inr aF)=>
    some (.inr (.inl (aF.1,())))):=by
  intro f;rcases flag f with ⟨m,e,hm⟩|⟨m,e,hm⟩
  ·rw[e];obtain ⟨d,q |q,G⟩:=go m hm
   ·dsimp only;rw[q];exact .inl ⟨d,rfl,G⟩
   ·dsimp only;rw[q];exact .inl ⟨d,rfl,G⟩
  ·rw[e];exact .inr ⟨m,rfl,hm⟩
 cases ix with
 |false=>exact fin false
 |true=>
  cases wp with
  |false=>exact fin false
  |true=>exact fin _
theorem Vq (r:ui) (a b a7:Nat) (lim len:Int) (ix wp:Bool) (l:aw) (ar:sr r a7) (jo:b-a<=a7) (gC:a+12<b) (L:b<=l.length) (ad:l.length<2^62) (de:Sort.Below bH a b l.toArray):
  FI a b l (HS r ((a:Int),(b:Int),lim,ix,wp,len,l,())):=by
 obtain ⟨p,h,e,q,G⟩:=ajY a b l gC L ad;simp only[HS,e];cases au:decide (h=2)
 ·simp only[av];exact Vr r a b a7 p lim len h ix wp l ar jo q G L ad de
 ·have V:=atn a b l u L ad;have aT:=Sort.reverseRange_holds l.toArray a b u (by simpa using L);obtain ⟨m,hm⟩: ∃m:aw,Sort.reverseRange l.toArray a b=m.toArray:=⟨(Sort.reverseRange l.toArray a b).toList,aU⟩;rw[hm]at V aT;have jX:=PermIn.len aT;have V:Ca ((a:Int),(b:Int),l,())=some (m,()):=V;have du:i64.wrap ((b:Int)-1)=((b-1:Nat):Int):=by rw[cQ u];omega
  have dc:i64.wrap ((p:Int)-(a:Int))=((p-a:Nat):Int):=by rw[cQ u];omega
  have gK:i64.wrap (((b-1:Nat):Int)-((p-a:Nat):Int))=((b-1-(p-a):Nat):Int):=by rw[cQ u];omega
  simp only[aj,V,du,dc,gK];have:=Vr r a b a7 (b-1-(p-a)) lim len 1 ix wp m ar jo u u u u (de.perm (by simpa using L) aT);rcases this with ⟨d,bf,a6⟩|⟨x,bf,a6⟩
  ·exact .inl ⟨d,bf,a6.pre aT⟩
  ·exact .inr ⟨x,bf,Sort.permIn_trans _ _ _ a b aT a6.1,a6.2⟩
theorem alq (r:ui) (a b a7:Nat) (lim:Int) (ix wp:Bool) (l:aw) (ar:sr r a7) (jo:b-a<=a7) (gC:a<=b) (L:b<=l.length) (ad:l.length<2^62) (de:Sort.Below bH a b l.toArray):
  FI a b l (x7 r ((a:Int),(b:Int),lim,ix,wp,l,())):=by
 have hX:i64.wrap ((b:Int)-(a:Int))=((b-a:Nat):Int):=by rw[cQ u];omega
 unfold x7;dsimp only;rw[hX];by_cases azW:b-a<=12
 ·have c:(((b-a:Nat):Int)<=12):=u;rw[aW c,aj,arh a b l L ad gC];have:=Sort.insertionSort_holds (lt:=bH) Az l.toArray a b gC (by simpa using L);refine .inr ⟨(Sort.insertionSort bH l.toArray a b).toList,rfl,?_⟩;unfold r9;rw[Array.toArray_toList];exact this
 ·have c: ¬(((b-a:Nat):Int)<=12):=u;rw[bh c,av];cases aAa:decide (lim=0)
  ·rw[av];cases ix with
   |true=>
    simp only[cK,av];exact Vq r a b a7 lim _ true wp l ar jo u L ad de
   |false=>
    obtain ⟨m,e,aT⟩:=ajh a b l u L ad;have jX:=PermIn.len aT;simp only[cH,aj,e];have:=Vq r a b a7 (i64.wrap (lim-1)) ((b-a:Nat):Int) false wp m ar jo u u u (de.perm (by simpa using L) aT);rcases this with ⟨d,bf,a6⟩|⟨x,bf,a6⟩
    ·exact .inl ⟨d,bf,a6.pre aT⟩
    ·exact .inr ⟨x,bf,Sort.permIn_trans _ _ _ a b aT a6.1,a6.2⟩
  ·rw[aj,a28 a b l u L ad];have:=Sort.heapSort_holds (lt:=bH) Az l.toArray a b gC (by simpa using L);refine .inr ⟨(Sort.heapSort bH l.toArray a b).toList,rfl,?_⟩;unfold r9;rw[Array.toArray_toList];exact this
theorem akP (r:ui) (a7:Nat) (ar:sr r a7) (jo:a7<2^62):sr (B9 r) (a7+1):=by
 intro a b lim l gC L ad aN de;obtain ⟨x,q,m,rfl,G⟩:=lY (b:=x7 r) (λs:Nat×Nat×Int×Bool×Bool×aw=>((s.1:Int),(s.2.1:Int),s.2.2.1,s.2.2.2.1,s.2.2.2.2.1,s.2.2.2.2.2,())) (λs=>s.2.1-s.1)
  (λs=>s.1<=s.2.1/\s.2.1<=s.2.2.2.2.2.length/\s.2.2.2.2.2.length<2^62/\s.2.1-s.1<=a7/\Sort.Below bH s.1 s.2.1 s.2.2.2.2.2.toArray)
  (λs x=> ∃m,x=.inl (m,())/\r9 s.1 s.2.1 s.2.2.2.2.2 m)
  (λs aP=>by
   obtain ⟨a,b,lim,ix,wp,l⟩:=s;obtain ⟨q,G,W,aC,bd⟩:=aP;simp only at q G W aC bd;rcases alq r a b a7 lim ix wp l ar aC q G W bd with ⟨d,bf,a6⟩|⟨x,bf,a6⟩
   ·left;obtain ⟨bt,bZ,awW,azk,azo,m,rfl,dI,cW,eX,lZ,qj,ahq⟩:=a6.ex;exact ⟨(bt,bZ,awW,azk,azo,m),bf,⟨dI,cW,by simp only;omega,by simp only;omega,lZ⟩,qj,λx ⟨y,bu,af⟩=>⟨y,bu,ahq y af⟩⟩
   ·right;exact ⟨_,bf,x,rfl,a6⟩) (a,b,lim,true,true,l) ⟨gC,L,ad,by simp only;omega,de⟩ (by simp only;omega)
 have dt:Ie r ((a:Int),(b:Int),lim,true,true,l,())=some (.inl (m,())):=q;exact ⟨m,by simp only[B9,dt],G⟩
theorem akv: ∀a7:Nat,a7<2^62-> ∀n,a7<=n->sr (H5 n) a7:=by
 intro a7
 induction a7 with
 |zero=>
  intro _ n _ a b lim l _ _ _ h _;omega
 |succ a7 aO=>
  intro jo n aN;obtain ⟨n,rfl⟩: ∃k,n=k+1:=⟨n-1,u⟩;exact akP _ a7 (aO u n u) u
def UI (l:aw):Prop:=l.Pairwise λa b=>Op.bytesLess b.1 a.1=false
theorem ajN (l:aw) (ad:l.length<10^12): ∃m,Ic (l,())=some (m,())/\m.Perm l/\UI m:=by
 have hu:IntKind.u64.wrap (l.length:Int)=(l.length:Int):=by show (l.length:Int)%2^64=_;omega
 obtain ⟨v,a8⟩: ∃v,zn ((l.length:Int),())=some (v,()):=by
  by_cases bW:l.length=0
  ·rw[bW];exact ⟨0,by rfl⟩
  ·obtain ⟨v,e,-⟩:=Vj l.length u bW;exact ⟨_,e⟩
 obtain ⟨m,e,aT,af⟩:=akv (l.length+1) u jl (by rw[kS];omega) 0 l.length v l (Nat.zero_le _) (ca _) u u (.inl rfl);have e:SG ((0:Int),(l.length:Int),v,l,())=some (m,()):=e;have jX:=PermIn.len aT;refine ⟨m,by simp only[Ic,hu,a8,e],?_,?_⟩
 ·have:=aT.2.2;have M:(m.toArray.extract 0 l.length).toList=m:=by rw[<-jX];simp
  have V:(l.toArray.extract 0 l.length).toList=l:=aU;rw[M,V]at this;exact this
 ·refine List.pairwise_iff_getElem.2 λi j E al pj=> ?_
  have:=af i j (Nat.zero_le _) pj u;rw[ha,ha,b5 E,b5 al]at this;exact this
def b4 (x:aK):Bool:= !jH x
theorem Oy (x:aK):kI (x,())=some (!b4 x,()):=by rw[Ez];unfold b4;simp
def ed (ay:aw) (x:cp):Bool:=ay.any λd=>cl d x.1
theorem asD (cU:aw) (p:aK) (ad:cU.length<=10^17):ce (cU,p,())=some (cU.any (λw=>ki w p),cU,p,()):=by
 obtain ⟨z,q,G⟩:=dG (b:=ci) (λi (_:H)=>((cU.length:Int),(i:Int),cU,p,())) cU.length (λi _=>(cU.take i).any (λw=>ki w p)=false) (λz=>(z=.inr (cU,p,())/\cU.any (λw=>ki w p)=false)\/(∃i:Nat,z=.inl ((i:Int),cU,p,())/\cU.any (λw=>ki w p)=true)) u
  (λi E _ aP=>by
   have M:=e5 (i:=i) (l:=cU) u;have V:=dZ i;have aY:=e7 i u;simp only[ci,M,V,aj,bN,bI,b5 E,S9,F8,Ez,Oj,Bool.not_not,aY];cases h:ki cU[i] p
   ·refine .inl ⟨(),?_,rfl⟩;rw[eH E,List.any_append,aP];simp[h]
   ·exact .inr ⟨_,.inr ⟨i,rfl,List.any_eq_true.2 ⟨_,dJ E,h⟩⟩,rfl⟩)
  (λ_ aP=>by have M:=fE cU;rw[eu]at aP;exact ⟨_,.inl ⟨rfl,aP⟩,by simp only[ci,M,av]⟩) () rfl
 have dt:QL ((cU.length:Int),0,cU,p,())=some z:=q;rcases G with ⟨rfl,W⟩|⟨i,rfl,W⟩
 ·simp only[ce,HO,dt,W];rfl
 ·have e:bG ((i:Int)>=(0:Int)):=aW u;simp only[ce,HO,dt,W,e]
theorem asC (cU:aw) (p:cp) (ad:cU.length<=10^17):Cc (cU,p,())=some (cU.any (λw=>cl w p.1),p,()):=by
 obtain ⟨z,q,G⟩:=dG (b:=Ce) (λi (_:H)=>(cU,(cU.length:Int),(i:Int),p,())) cU.length (λi _=>(cU.take i).any (λw=>cl w p.1)=false) (λz=>(z=.inr (p,())/\cU.any (λw=>cl w p.1)=false)\/(∃i:Nat,z=.inl ((i:Int),p,())/\cU.any (λw=>cl w p.1)=true)) u
  (λi E _ aP=>by
   have M:=e5 (i:=i) (l:=cU) u;have V:=dZ i;have aY:=e7 i u;simp only[Ce,M,V,aj,bN,bI,b5 E,T8,adm,aY];cases h:cl cU[i] p.1
   ·refine .inl ⟨(),?_,rfl⟩;rw[eH E,List.any_append,aP];simp[h]
   ·exact .inr ⟨_,.inr ⟨i,rfl,List.any_eq_true.2 ⟨_,dJ E,h⟩⟩,rfl⟩)
  (λ_ aP=>by have M:=fE cU;rw[eu]at aP;exact ⟨_,.inl ⟨rfl,aP⟩,by simp only[Ce,M,av]⟩) () rfl
 have dt:QK (cU,(cU.length:Int),0,p,())=some z:=q;rcases G with ⟨rfl,W⟩|⟨i,rfl,W⟩
 ·simp only[Cc,HN,dt,W];rfl
 ·have e:bG ((i:Int)>=(0:Int)):=aW u;simp only[Cc,HN,dt,W,e]
theorem Of (x:cp) (ay:aw) (nE:ay.length<=10^17):En (x,ay,())=some (!ed ay x,ay,()):=by simp only[En,asC ay x nE];rfl
theorem akA (l:aw) (ad:l.length<=10^12):
  (xV (l,())=some ((-1:Int),l,())/\l.filter b4=l)\/ ∃i:Nat,i<l.length/\xV (l,())=some ((i:Int),l,())/\(l.take (i+1)).filter b4=l.take i:=by
 obtain ⟨z,q,G⟩:=dG (b:=Cd) (λi (_:H)=>((l.length:Int),(i:Int),l,())) l.length (λi _=>(l.take i).filter b4=l.take i) (λz=>(z=.inr (l,())/\l.filter b4=l)\/(∃i:Nat,i<l.length/\z=.inl ((i:Int),l,())/\(l.take (i+1)).filter b4=l.take i)) u
  (λi E _ aP=>by
   have M:=e5 (i:=i) (l:=l) u;have V:=dZ i;have aY:=e7 i u;simp only[Cd,M,V,aj,bN,bI,b5 E,Oy,Bool.not_not,aY];cases aX:b4 l[i]
   ·refine .inr ⟨_,.inr ⟨i,E,rfl,?_⟩,rfl⟩;rw[eH E,List.filter_append,aP];simp[aX]
   ·refine .inl ⟨(),?_,rfl⟩;rw[eH E,List.filter_append,aP];simp[aX])
  (λ_ aP=>by have M:=fE l;rw[eu]at aP;exact ⟨_,.inl ⟨rfl,aP⟩,by simp only[Cd,M,av]⟩) () rfl
 have dt:QJ ((l.length:Int),0,l,())=some z:=q;rcases G with ⟨rfl,W⟩|⟨i,E,rfl,W⟩
 ·exact .inl ⟨by simp only[xV,dt],W⟩
 ·exact .inr ⟨i,E,by simp only[xV,dt],W⟩
theorem ajn (l:aw) (ad:l.length<=10^12):B8 (l,())=some (l.filter b4,()):=by
 rcases akA l ad with ⟨q,G⟩|⟨i0,Ry,q,G⟩
 ·have e:bG ((-1:Int)=(-1:Int)):=rfl;simp only[B8,q,cf,aj,G]
 ·have e:(decide ((i0:Int)=(-1:Int)))=false:=bh u;have hX:=e7 i0 u;have hlen: ∀j,((l.take j).filter b4).length<=j:=λj=>Nat.le_trans (hZ _ _) (by rw[eE];omega)
  obtain ⟨z,g1,g2⟩:=dG (b:=xT) (λk (d:aw)=>(((((l.take (i0+1+k)).filter b4).length:Nat):Int),((i0+1+k:Nat):Int),d,())) (l.length-(i0+1))
   (λk d=>d.length=l.length/\d.take ((l.take (i0+1+k)).filter b4).length=(l.take (i0+1+k)).filter b4/\d.drop (i0+1+k)=l.drop (i0+1+k)/\((l.take (i0+1+k)).filter b4).length<i0+1+k)
   (λz=> ∃d:aw,z=.inl ((((l.filter b4).length:Nat):Int),d,())/\d.length=l.length/\d.take (l.filter b4).length=l.filter b4) u
   (λk ag d af=>by
    left;obtain ⟨s1,s2,jB,pD⟩:=af;obtain ⟨j,al⟩: ∃j,i0+1+k=j:=⟨_,rfl⟩;rw[show i0+1+(k+1)=j+1 by omega];rw[al]at s2 jB pD ⊢;have vs:j<l.length:=u;have mo:j<d.length:=u;have C4:d[j]=l[j]:=by have dr:=l2 mo;have a2:=l2 vs;rw[jB,a2]at dr;exact (List.cons.inj dr).1.symm
    have CD:d.drop (j+1)=l.drop (j+1):=by have dr:=l2 mo;have a2:=l2 vs;rw[jB,a2]at dr;exact (List.cons.inj dr).2.symm
    have M:=e5 (i:=j) (l:=d) u;have V:=dZ j;have aY:=e7 j u;obtain ⟨c,au⟩: ∃c,((l.take j).filter b4).length=c:=⟨_,rfl⟩;have au9:c<=j:=by rw[<-au];exact hlen j
    have rn:(l.take (j+1)).filter b4=(l.take j).filter b4++[l[j]].filter b4:=by rw[eH vs,List.filter_append]
    cases aX:b4 l[j] with
    |false=>
     have nL:(l.take (j+1)).filter b4=(l.take j).filter b4:=by rw[rn];simp[aX]
     refine ⟨d,⟨s1,by rw[nL];exact s2,CD,by rw[nL];omega⟩,?_⟩;rw[nL];simp only[xT,M,V,aj,bN,bI,b5 mo,C4,Oy,aX,cH,cK,av,aY]
    |true=>
     have nL:(l.take (j+1)).filter b4=(l.take j).filter b4++[l[j]]:=by rw[rn];simp[aX]
     have im:((l.take (j+1)).filter b4).length=c+1:=by rw[nL,et,au];rfl
     rw[au]at s2 pD;have bp:=dZ c;have cV:bG ((c:Int)<((d.length):Int)):=aW u;have da:=e7 c u;refine ⟨d.set c l[j],⟨by rw[List.length_set];exact s1,?_,?_,?_⟩,?_⟩
     ·rw[im,nL];have nG:c<(d.set c l[j]).length:=by rw[List.length_set];omega
      rw[eH nG,List.take_set_of_le (ca _),s2];simp
     ·rw[List.drop_set_of_lt u];exact CD
     ·rw[im];omega
     ·rw[im,au];simp only[xT,M,V,bp,cV,aj,bN,bI,b5 mo,C4,Oy,aX,cK,cH,aY,da])
   (λd af=>by
    obtain ⟨s1,s2,jB,pD⟩:=af;rw[show i0+1+(l.length-(i0+1))=l.length by omega]at s2 jB pD ⊢;rw[eu]at s2 pD ⊢;have M:(decide (((l.length:Nat):Int)<((d.length):Int)))=false:=bh u;exact ⟨_,⟨d,rfl,s1,s2⟩,by simp only[xT,M,av]⟩) l (by
    refine ⟨rfl,?_,rfl,?_⟩
    ·rw[Nat.add_zero,G,eE,Nat.min_eq_left u]
    ·rw[Nat.add_zero,G,eE];omega)
  obtain ⟨d,rfl,s1,s2⟩:=g2;have gG:((((l.take (i0+1+0)).filter b4).length:Nat):Int)=(i0:Int):=by rw[Nat.add_zero,G,eE,Nat.min_eq_left u]
  have j7:QZ ((i0:Int),((i0+1:Nat):Int),l,())=some (.inl ((((l.filter b4).length:Nat):Int),d,())):=by rw[<-gG];exact g1
  have lR:(l.filter b4).length<=l.length:=hZ _ _;obtain ⟨c,au⟩: ∃c,(l.filter b4).length=c:=⟨_,rfl⟩;rw[au]at j7 s2 lR;have bp:=dZ c;have cV:bG ((c:Int)<=((d.length):Int)):=aW u;have da:bG (((d.length):Int)<=((d.length):Int)):=aW (Int.le_refl _);have gr: ∀r:aw,(decide ((c:Int)<=((List.length (List.take c d++r)):Int)))=true:=λr=>aW (by rw[et,eE];omega)
  have kH: ∀r:aw,List.take c (List.take c d++r)=l.filter b4:=λr=>by rw[List.take_append_of_le_length (by rw[eE];omega),List.take_take,Nat.min_self,s2]
  simp only[B8,q,e,av,hX,j7,bp,cV,cf,bN,Bool.true_and,aj,bI,List.append_assoc,gr,kH,da]
theorem akz (l:ak) (p:aw) (ad:l.length<=10^12) (aT:p.length<=10^17):
  (x3 (l,p,())=some ((-1:Int),l,p,())/\l.filter (ed p)=l)\/ ∃i:Nat,i<l.length/\x3 (l,p,())=some ((i:Int),l,p,())/\(l.take (i+1)).filter (ed p)=l.take i:=by
 obtain ⟨z,q,G⟩:=dG (b:=B3) (λi (_:H)=>((l.length:Int),(i:Int),l,p,())) l.length (λi _=>(l.take i).filter (ed p)=l.take i) (λz=>(z=.inr (l,p,())/\l.filter (ed p)=l)\/(∃i:Nat,i<l.length/\z=.inl ((i:Int),l,p,())/\(l.take (i+1)).filter (ed p)=l.take i)) u
  (λi E _ aP=>by
   have M:=e5 (i:=i) (l:=l) u;have V:=dZ i;have aY:=e7 i u;simp only[B3,M,V,aj,bN,bI,b5 E,Of _ _ aT,aY];cases aX:ed p l[i]
   ·refine .inr ⟨_,.inr ⟨i,E,rfl,?_⟩,rfl⟩;rw[eH E,List.filter_append,aP];simp[aX]
   ·refine .inl ⟨(),?_,rfl⟩;rw[eH E,List.filter_append,aP];simp[aX])
  (λ_ aP=>by have M:=fE l;rw[eu]at aP;exact ⟨_,.inl ⟨rfl,aP⟩,by simp only[B3,M,av]⟩) () rfl
 have dt:QS ((l.length:Int),0,l,p,())=some z:=q;rcases G with ⟨rfl,W⟩|⟨i,E,rfl,W⟩
 ·exact .inl ⟨by simp only[x3,dt],W⟩
 ·exact .inr ⟨i,E,by simp only[x3,dt],W⟩
theorem ajm (l:ak) (p:aw) (ad:l.length<=10^12) (aT:p.length<=10^17):B7 (l,p,())=some (p,l.filter (ed p),()):=by
 rcases akz l p ad aT with ⟨q,G⟩|⟨i0,Ry,q,G⟩
 ·have e:bG ((-1:Int)=(-1:Int)):=rfl;simp only[B7,q,cf,aj,G]
 ·have e:(decide ((i0:Int)=(-1:Int)))=false:=bh u;have hX:=e7 i0 u;have hlen: ∀j,((l.take j).filter (ed p)).length<=j:=λj=>Nat.le_trans (hZ _ _) (by rw[eE];omega)
  obtain ⟨z,g1,g2⟩:=dG (b:=xS) (λk (d:ak)=>(((((l.take (i0+1+k)).filter (ed p)).length:Nat):Int),((i0+1+k:Nat):Int),d,p,())) (l.length-(i0+1))
   (λk d=>d.length=l.length/\d.take ((l.take (i0+1+k)).filter (ed p)).length=(l.take (i0+1+k)).filter (ed p)/\d.drop (i0+1+k)=l.drop (i0+1+k)/\((l.take (i0+1+k)).filter (ed p)).length<i0+1+k)
   (λz=> ∃d:ak,z=.inl ((((l.filter (ed p)).length:Nat):Int),d,p,())/\d.length=l.length/\d.take (l.filter (ed p)).length=l.filter (ed p)) u
   (λk ag d af=>by
    left;obtain ⟨s1,s2,jB,pD⟩:=af;obtain ⟨j,al⟩: ∃j,i0+1+k=j:=⟨_,rfl⟩;rw[show i0+1+(k+1)=j+1 by omega];rw[al]at s2 jB pD ⊢;have vs:j<l.length:=u;have mo:j<d.length:=u;have C4:d[j]=l[j]:=by have dr:=l2 mo;have a2:=l2 vs;rw[jB,a2]at dr;exact (List.cons.inj dr).1.symm
    have CD:d.drop (j+1)=l.drop (j+1):=by have dr:=l2 mo;have a2:=l2 vs;rw[jB,a2]at dr;exact (List.cons.inj dr).2.symm
    have M:=e5 (i:=j) (l:=d) u;have V:=dZ j;have aY:=e7 j u;obtain ⟨c,au⟩: ∃c,((l.take j).filter (ed p)).length=c:=⟨_,rfl⟩;have au9:c<=j:=by rw[<-au];exact hlen j
    have rn:(l.take (j+1)).filter (ed p)=(l.take j).filter (ed p)++[l[j]].filter (ed p):=by rw[eH vs,List.filter_append]
    cases aX:ed p l[j] with
    |false=>
     have nL:(l.take (j+1)).filter (ed p)=(l.take j).filter (ed p):=by rw[rn];simp[aX]
     refine ⟨d,⟨s1,by rw[nL];exact s2,CD,by rw[nL];omega⟩,?_⟩;rw[nL];simp only[xS,M,V,aj,bN,bI,b5 mo,C4,Of _ _ aT,aX,cH,cK,av,aY]
    |true=>
     have nL:(l.take (j+1)).filter (ed p)=(l.take j).filter (ed p)++[l[j]]:=by rw[rn];simp[aX]
     have im:((l.take (j+1)).filter (ed p)).length=c+1:=by rw[nL,et,au];rfl
     rw[au]at s2 pD;have bp:=dZ c;have cV:bG ((c:Int)<((d.length):Int)):=aW u;have da:=e7 c u;refine ⟨d.set c l[j],⟨by rw[List.length_set];exact s1,?_,?_,?_⟩,?_⟩
     ·rw[im,nL];have nG:c<(d.set c l[j]).length:=by rw[List.length_set];omega
      rw[eH nG,List.take_set_of_le (ca _),s2];simp
     ·rw[List.drop_set_of_lt u];exact CD
     ·rw[im];omega
     ·rw[im,au];simp only[xS,M,V,bp,cV,aj,bN,bI,b5 mo,C4,Of _ _ aT,aX,cK,cH,aY,da])
   (λd af=>by
    obtain ⟨s1,s2,jB,pD⟩:=af;rw[show i0+1+(l.length-(i0+1))=l.length by omega]at s2 jB pD ⊢;rw[eu]at s2 pD ⊢;have M:(decide (((l.length:Nat):Int)<((d.length):Int)))=false:=bh u;exact ⟨_,⟨d,rfl,s1,s2⟩,by simp only[xS,M,av]⟩) l (by
    refine ⟨rfl,?_,rfl,?_⟩
    ·rw[Nat.add_zero,G,eE,Nat.min_eq_left u]
    ·rw[Nat.add_zero,G,eE];omega)
  obtain ⟨d,rfl,s1,s2⟩:=g2;have gG:((((l.take (i0+1+0)).filter (ed p)).length:Nat):Int)=(i0:Int):=by rw[Nat.add_zero,G,eE,Nat.min_eq_left u]
  have j7:QY ((i0:Int),((i0+1:Nat):Int),l,p,())=some (.inl ((((l.filter (ed p)).length:Nat):Int),d,p,())):=by rw[<-gG];exact g1
  have lR:(l.filter (ed p)).length<=l.length:=hZ _ _;obtain ⟨c,au⟩: ∃c,(l.filter (ed p)).length=c:=⟨_,rfl⟩;rw[au]at j7 s2 lR;have bp:=dZ c;have cV:bG ((c:Int)<=((d.length):Int)):=aW u;have da:bG (((d.length):Int)<=((d.length):Int)):=aW (Int.le_refl _);have gr: ∀r:ak,(decide ((c:Int)<=((List.length (List.take c d++r)):Int)))=true:=λr=>aW (by rw[et,eE];omega)
  have kH: ∀r:ak,List.take c (List.take c d++r)=l.filter (ed p):=λr=>by rw[List.take_append_of_le_length (by rw[eE];omega),List.take_take,Nat.min_self,s2]
  simp only[B7,q,e,av,hX,j7,bp,cV,cf,bN,Bool.true_and,aj,bI,List.append_assoc,gr,kH,da]
theorem OX (t:ak) (ay:aw) (aX:t.length<10^12) (nE:ay.length<=10^17):zC (t,ay,())=some (t.filter (ed ay),()):=by simp only[zC,AV t aX,ajm t ay u nE]
def dd (l:aw) (k:N):Bool:=l.any λd=>cl d k
theorem nT (a b:aw) (k:N):dd (a++b) k=(dd a k||dd b k):=List.any_append
theorem lq (d:aK) (k:N):dd [d] k=cl d k:=by simp[dd]
def fv (B:Nat) (l:aw):Prop:= ∀d∈l,d.1.length<=B/\d.2.1.length<=B
abbrev ai6 (a b:aK):Prop:=a.2.1≠[]/\Op.bytesLess a.2.1 b.1=true
structure n7 (l:aw):Prop where
 ne: ∀d∈l,jH d=false
 gp:l.Pairwise ai6
theorem GL {d:aK}:jH d=false↔(d.2.1=[]\/Op.bytesLess d.1 d.2.1=true):=by
 unfold jH;by_cases h:d.2.1=[]
 ·rw[aW h];simp[h]
 ·rw[bh h];rcases h0 d.1 d.2.1 with G |G |G
  ·have W:decide (d.2.1=d.1)=false:=bh (λe=>nj G e.symm);simp[G,j6 G,W]
  ·simp[h,G,iD]
  ·simp[h,G,j6 G]
theorem ach {d:aK} (h:jH d=true) (k:N):cl d k=false:=by
 cases bg:cl d k
 ·rfl
 ·obtain ⟨q,G⟩:=fW.1 bg;have:jH d=false:=GL.2 (by
   rcases G with G |G
   ·exact .inl G
   ·right;rcases h0 d.1 k with W |W |W
    ·exact gN W G
    ·rw[W];exact G
    ·rw[q]at W;cases W)
  rw[h]at this;cases this
theorem asr (l:aw) (k:N):dd (l.filter b4) k=dd l k:=by
 unfold dd
 induction l with
 |nil=>rfl
 |cons d l aO=>
  rw[List.filter_cons,List.any_cons];cases h:b4 d
  ·have:jH d=true:=by unfold b4 at h;simpa using h
   rw[if_neg aU,aO,ach this,Bool.false_or]
  ·rw[if_pos rfl,List.any_cons,aO]
theorem atP {a b:aw} (h:a.Perm b) (k:N):dd a k=dd b k:=by
 unfold dd;rw[Bool.eq_iff_iff,List.any_eq_true,List.any_eq_true];constructor
 ·rintro ⟨d,af,ag⟩;exact ⟨d,h.mem_iff.1 af,ag⟩
 ·rintro ⟨d,af,ag⟩;exact ⟨d,h.mem_iff.2 af,ag⟩
theorem ajy {a d:aK} (q:Op.bytesLess d.1 a.1=false) (G:Op.bytesLess a.2.1 d.1=false) (W:iH a.2.1 d.2.1=true) (k:N):cl (a.1,d.2.1,()) k=(cl a k||cl d k):=by
 unfold iH at W;rw[bQ,eS,decide_eq_false_iff_not,Bool.or_eq_true,dS]at W;obtain ⟨aC,bd⟩:=W;rw[Bool.eq_iff_iff,Bool.or_eq_true,fW,fW,fW];show (Op.bytesLess k a.1=false/\(d.2.1=[]\/Op.bytesLess k d.2.1=true))↔_;constructor
 ·rintro ⟨bf,a6⟩;cases ag:Op.bytesLess k a.2.1
  ·exact .inr ⟨px G ag,a6⟩
  ·exact .inl ⟨bf,.inr rfl⟩
 ·rintro (⟨bf,a6⟩|⟨bf,a6⟩)
  ·refine ⟨bf,?_⟩;rcases a6 with a6 |a6
   ·exact absurd a6 aC
   ·rcases bd with bd |bd
    ·exact .inl bd
    ·exact .inr (gN a6 bd)
  ·exact ⟨px q bf,a6⟩
theorem atE {a d:aK} (q:Op.bytesLess d.1 a.1=false) (W:iH a.2.1 d.2.1=false) (k:N):cl a k=(cl a k||cl d k):=by
 have:cl d k=true->cl a k=true:=by
  intro ag;refine Pp ?_ ag;unfold u9;rw[q];unfold iH at W;by_cases e:a.2.1=[]
  ·rw[aW e];rfl
  ·rw[bh e]at W ⊢;simp only[cH,Bool.true_and,Bool.or_eq_false_iff]at W;simp[W.1,W.2]
 cases h:cl d k
 ·rw[Bool.or_false]
 ·rw[this h];rfl
theorem ajB (m:aw) (af:UI m) (ct: ∀d∈m,jH d=false) (ad:m.length<10^12) (B:Nat) (de:fv B m):
  ∃r,Nz ((m.length:Int),(0:Int),[],m,())=some (.inl (r,()))/\(∀k,dd r k=dd m k)/\r.length<=m.length/\n7 r/\fv B r:=by
 obtain ⟨z,q,r,rfl,G⟩:=dG (b:=tu) (λi (o:aw)=>((m.length:Int),(i:Int),o,m,())) m.length
  (λi o=>(∀k,dd o k=dd (m.take i) k)/\o.length<=i/\n7 o/\fv B o/\((i=0/\o=[])\/ ∃p a,o=p++[a]/\ ∃j,∃al:j<m.length,j<i/\a.1=m[j].1))
  (λz=> ∃r,z=.inl (r,())/\(∀k,dd r k=dd m k)/\r.length<=m.length/\n7 r/\fv B r) u
  (λi E o ab=>by
   left;obtain ⟨fI,jh,za,qm,Dw⟩:=ab;have M:=e5 (i:=i) (l:=m) u;have ch:bG ((0:Int)<=((i:Nat):Int)):=aW u;have w:=fx (j:=i) u;have nH:=dJ E;have tc: ∀k,dd (m.take (i+1)) k=(dd (m.take i) k||cl m[i] k):=by intro k;rw[eH E,nT,lq]
   have room: ∀o:aw,o.length<=i->(decide ((o.length+List.length ([m[i]]:List (aK)))*32<=bC))=true:=λo h=>aW (by rw[ez];simp;omega)
   rcases Dw with ⟨rfl,rfl⟩|⟨p,a,rfl,j,al,iN,Rj⟩
   ·refine ⟨[m[0]],⟨λk=> ?_,aU,⟨λd af=> ?_,List.pairwise_singleton _ _⟩,λd af=> ?_,.inr ⟨[],m[0],rfl,0,E,u,rfl⟩⟩,?_⟩
    ·rw[tc k];simp[dd]
    ·obtain rfl:=gl.1 af;exact ct _ nH
    ·obtain rfl:=gl.1 af;exact de _ nH
    ·have V:(!decide ((((List.length ([]:aw)):Int):Int)=(0:Int)))=false:=rfl;have aa:=room [] aU;simp only[tu,vS,M,ch,bN,aj,bI,b5 E,V,av,aa,w,List.nil_append]
   ·have yt: ∀I,List.getD (p++[a]) p.length I=a:=λI=>wK (P:=p) (bx:=[]) rfl
    have hlen:(p++[a]).length=p.length+1:=aU;have V:(!decide ((((List.length (p++[a])):Int):Int)=(0:Int)))=true:=by rw[bh u];rfl
    have du:i64.wrap (((List.length (p++[a])):Int)-1)=(p.length:Int):=by rw[cQ u];omega
    have ju:p.length<(p++[a]).length:=u;have ft:Op.bytesLess m[i].1 a.1=false:=by rw[Rj];exact List.pairwise_iff_getElem.1 af j i al E iN
    obtain ⟨ne,gp⟩:=za;have Q2:=List.pairwise_append.1 gp;have app:a.2.1≠[]->Op.bytesLess a.2.1 m[i].1=true->((∀k,dd (p++[a]++[m[i]]) k=dd (m.take (i+1)) k)/\(p++[a]++[m[i]]).length<=i+1/\n7 (p++[a]++[m[i]])/\fv B (p++[a]++[m[i]])/\((i+1=0/\(p++[a]++[m[i]])=[])\/ ∃hv bt,(p++[a]++[m[i]])=hv++[bt]/\ ∃j,∃al:j<m.length,j<i+1/\bt.1=m[j].1)):=by
     intro g1 g2;refine ⟨λk=>by rw[nT,fI k,lq,tc k],by simp at jh ⊢;omega,⟨λd af=> ?_,?_⟩,λd af=> ?_,.inr ⟨p++[a],m[i],rfl,i,E,u,rfl⟩⟩
     ·rcases dn.1 af with h |h
      ·exact ne d h
      ·obtain rfl:=gl.1 h;exact ct _ nH
     ·refine List.pairwise_append.2 ⟨gp,List.pairwise_singleton _ _,λx an y bu=> ?_⟩;obtain rfl:=gl.1 bu;rcases dn.1 an with h |h
      ·obtain ⟨bq,bU⟩:=Q2.2.2 x h a (gl.2 rfl);refine ⟨bq,?_⟩;rcases h0 a.1 m[i].1 with bd |bd |bd
       ·exact gN bU bd
       ·rw[<-bd];exact bU
       ·rw[ft]at bd;cases bd
      ·obtain rfl:=gl.1 h;exact ⟨g1,g2⟩
     ·rcases dn.1 af with h |h
      ·exact qm d h
      ·obtain rfl:=gl.1 h;exact de _ nH
    have join:(a.2.1=[]\/Op.bytesLess a.2.1 m[i].1=false)-> ∃t,T6 (((List.length (p++[a])):Int),(m.length:Int),(i:Int),p++[a],m[i],m,())=some (.inl ((m.length:Int),((i+1:Nat):Int),t,m,()))/\
      ((∀k,dd t k=dd (m.take (i+1)) k)/\t.length<=i+1/\n7 t/\fv B t/\((i+1=0/\t=[])\/ ∃hv bt,t=hv++[bt]/\ ∃j,∃al:j<m.length,j<i+1/\bt.1=m[j].1)):=by
     intro g;obtain ⟨c,m0,lP⟩:=abB a.2.1 m[i].2.1;simp only[T6,du,eR ju,aj,bI,yt,m0,lP,w];cases hle:iH a.2.1 m[i].2.1
     ·refine ⟨_,rfl,λk=> ?_,u,⟨ne,gp⟩,qm,.inr ⟨p,a,rfl,j,al,u,Rj⟩⟩;rw[tc k,<-fI k,nT,lq,Bool.or_assoc,<-atE ft hle k]
     ·have g2:Op.bytesLess a.2.1 m[i].1=false:=by
       rcases g with g |g
       ·unfold iH at hle;rw[aW g]at hle;cases hle
       ·exact g
      have ln:(p++[a]).set p.length (a.1,m[i].2.1,a.2.2)=p++[(a.1,m[i].2.1,())]:=aU;refine ⟨p++[(a.1,m[i].2.1,())],by rw[<-ln];rfl,λk=> ?_,by simp at jh ⊢;omega,⟨λd af=> ?_,?_⟩,λd af=> ?_,.inr ⟨p,_,rfl,j,al,u,Rj⟩⟩
      ·have:=fI k;rw[nT,lq]at this;rw[tc k,<-this,nT,lq,ajy ft g2 hle k,Bool.or_assoc]
      ·rcases dn.1 af with h |h
       ·exact ne d (List.mem_append_left _ h)
       ·obtain rfl:=gl.1 h;have aV:=GL.1 (ne a aU);unfold iH at hle;rw[bQ,eS,decide_eq_false_iff_not,Bool.or_eq_true,dS]at hle;refine GL.2 ?_;rcases hle.2 with bd |bd
        ·exact .inl bd
        ·rcases aV with bD |bD
         ·exact absurd bD hle.1
         ·exact .inr (gN bD bd)
      ·refine List.pairwise_append.2 ⟨Q2.1,List.pairwise_singleton _ _,λx an y bu=> ?_⟩;obtain rfl:=gl.1 bu;exact Q2.2.2 x an a (gl.2 rfl)
      ·rcases dn.1 af with h |h
       ·exact qm d (List.mem_append_left _ h)
       ·obtain rfl:=gl.1 h;exact ⟨(qm a aU).1,(de _ nH).2⟩
    have aa:=room (p++[a]) jh;by_cases bg:a.2.1=[]
    ·obtain ⟨t,t1,t2⟩:=join (.inl bg);have aY:(!decide ((a.2.1:N)=([]:N)))=false:=by rw[aW bg];rfl
     refine ⟨t,t2,?_⟩;simp only[tu,vS,M,ch,bN,aj,bI,b5 E,V,du,eR ju,yt,bg,cf,cK,av];exact t1
    ·cases bw:Op.bytesLess a.2.1 m[i].1
     ·obtain ⟨t,t1,t2⟩:=join (.inr bw);refine ⟨t,t2,?_⟩;simp only[tu,vS,M,ch,bN,aj,bI,b5 E,V,du,eR ju,yt,bg,decide_false,cH,bw,av];exact t1
     ·refine ⟨p++[a]++[m[i]],app bg bw,?_⟩;simp only[tu,vS,M,ch,bN,aj,bI,b5 E,V,du,eR ju,yt,bg,decide_false,cH,bw,aa,w])
  (λo ab=>by obtain ⟨fI,jh,za,qm,Dw⟩:=ab;have M:=fE m;refine ⟨_,⟨o,rfl,λk=> ?_,jh,za,qm⟩,by simp only[tu,M,av]⟩;rw[fI k,eu]) [] ⟨λk=>aU,aU,⟨λd af=>(by cases af),List.Pairwise.nil⟩,λd af=>(by cases af),.inl ⟨rfl,rfl⟩⟩
 exact ⟨r,q,G⟩
theorem Hd (l:aw) (ad:l.length<10^12) (B:Nat) (de:fv B l):
  ∃r,wH (l,())=some (r,())/\(∀k,dd r k=dd l k)/\r.length<=l.length/\n7 r/\fv B r:=by
 have M:Iv (l,())=some (l,()):=by
  unfold Iv;have:(List.length ([]:aw)+l.length)*32<=bC:=by rw[ez];simp;omega
  simp only[this,aW,aj]
 have V:=ajn l u;have lR:(l.filter b4).length<=l.length:=hZ _ _;obtain ⟨m,aY,aT,af⟩:=ajN (l.filter b4) u;have jX:m.length=(l.filter b4).length:=aT.length_eq;have p8: ∀d∈m,d∈l/\b4 d=true:=λd h=>e8.1 (aT.mem_iff.1 h)
 obtain ⟨r,bp,q,G,W,aC⟩:=ajB m af (λd h=>by have:=(p8 d h).2;unfold b4 at this;simpa using this) u B (λd h=>de d (p8 d h).1)
 exact ⟨r,by simp only[wH,M,V,aY,bp],λk=>by rw[q,atP aT,asr],u,W,aC⟩
theorem AX (a b:aK) (k:N):cl (hK a b) k=(cl a k&&cl b k):=by
 cases h:ki a b
 ·have e:hK a b=([97],([97],())):=by unfold hK;rw[h];rfl
  rw[e,ach fc];cases q:cl a k
  ·rfl
  ·cases G:cl b k
   ·rfl
   ·rw[Bv.2 ⟨k,q,G⟩]at h;cases h
 ·rw[Bool.eq_iff_iff,bQ];exact ajx h
theorem akF (a b:N):k4 a b=a\/k4 a b=b:=by
 unfold k4;cases Op.bytesLess a b
 ·exact .inl rfl
 ·exact .inr rfl
theorem atV (a b:N):kg a b=a\/kg a b=b:=by
 unfold kg;cases iH b a
 ·exact .inl rfl
 ·exact .inr rfl
theorem acy {a b:aK} {B:Nat} (q:1<=B) (aV:a.1.length<=B/\a.2.1.length<=B) (L:b.1.length<=B/\b.2.1.length<=B):(hK a b).1.length<=B/\(hK a b).2.1.length<=B:=by
 unfold hK;cases ki a b
 ·simp;omega
 ·show (k4 a.1 b.1).length<=B/\(kg a.2.1 b.2.1).length<=B;refine ⟨?_,?_⟩
  ·rcases akF a.1 b.1 with e |e<;>rw[e]
   ·exact aV.1
   ·exact L.1
  ·rcases atV a.2.1 b.2.1 with e |e<;>rw[e]
   ·exact aV.2
   ·exact L.2
theorem a24 (r:aw) (aN:n7 r) (ad:r.length<10^12) (B:Nat) (de:fv B r):
  ∃g,A3 (r,())=some (g,())/\(∀k,dd g k= !dd r k)/\g.length<=r.length+1/\fv B g:=by
 have IS: ∀k:N,Op.bytesLess k []=false:=λk=>by cases k<;>rfl
 have at3:(∀k,dd ([]:aw) k=true↔(dd (r.take 0) k=false/\Op.bytesLess k []=true))/\([]:aw).length<=0/\fv B []/\([]:N).length<=B/\(∀d∈r.drop 0,Op.bytesLess d.1 []=false)/\(∀d∈r.take 0,d.2.1≠[]/\Op.bytesLess [] d.2.1=false)/\(0=0->([]:N)=[]):=by refine ⟨λk=> ?_,ca _,λd af=>(by cases af),Nat.zero_le _,λd af=>IS _,λd af=>(by simp at af),λ_=>rfl⟩;rw[IS k];simp[dd]
 obtain ⟨z,q,G⟩:=dG (b:=tv) (λi (s:N×aw)=>(s.1,r,(r.length:Int),(i:Int),s.2,())) r.length
  (λi s=>(∀k,dd s.2 k=true↔(dd (r.take i) k=false/\Op.bytesLess k s.1=true))/\s.2.length<=i/\fv B s.2/\s.1.length<=B/\(∀d∈r.drop i,Op.bytesLess d.1 s.1=false)/\(∀d∈r.take i,d.2.1≠[]/\Op.bytesLess s.1 d.2.1=false)/\(i=0->s.1=[]))
  (λz=>(∃g,z=.inl (g,())/\(∀k,dd g k= !dd r k)/\g.length<=r.length+1/\fv B g)\/(∃aR g,z=.inr (aR,g,())/\(∀k,dd (g++[(aR,[],())]) k= !dd r k)/\g.length<=r.length/\fv B (g++[(aR,[],())]))) u
  (λi E s aP=>by
   obtain ⟨aR,o⟩:=s;obtain ⟨bq,bU,dD,dx,gw,hC,ng⟩:=aP;simp only at bq bU dD dx gw hC ng;have M:=e5 (i:=i) (l:=r) u;have ch:bG ((0:Int)<=((i:Nat):Int)):=aW u;have w:=fx (j:=i) u;have nH:=dJ E;have ao:r.drop i=r[i]::r.drop (i+1):=l2 E;have room:bG ((o.length+List.length ([(aR,r[i].1,())]:List (aK)))*32<=bC):=aW (by rw[ez];simp;omega);have ft:Op.bytesLess r[i].1 aR=false:=gw _ (by rw[ao];exact gL);have ct:=GL.1 (aN.ne _ nH);have jJ: ∀k,dd (r.take (i+1)) k=(dd (r.take i) k||cl r[i] k):=by intro k;rw[eH E,nT,lq]
   have before: ∀k,Op.bytesLess k r[i].1=true->cl r[i] k=false:=by
    intro k ag;cases h:cl r[i] k
    ·rfl
    ·rw[(fW.1 h).1]at ag;cases ag
   have after: ∀k,Op.bytesLess k aR=false->dd (r.take i) k=false:=by
    intro k ag;unfold dd;rw[List.any_eq_false];intro d af h;obtain ⟨g1,g2⟩:=hC d af;rcases (fW.1 h).2 with h |h
    ·exact g1 h
    ·have:=px g2 ag;rw[this]at h;cases h
   have ahp: ∀k,Op.bytesLess k aR=true->Op.bytesLess k r[i].1=true:=by
    intro k ag;rcases h0 aR r[i].1 with h |h |h
    ·exact gN ag h
    ·rw[<-h];exact ag
    ·rw[ft]at h;cases h
   have aeK: ∀dV:aw,(dV=o++[(aR,r[i].1,())]/\r[i].1≠[]\/dV=o/\r[i].1=[])-> ∀k,dd dV k=true↔(dd (r.take (i+1)) k=false/\(r[i].2.1=[]\/Op.bytesLess k r[i].2.1=true)):=by
    intro dV iG k;rw[jJ k,Bool.or_eq_false_iff];rcases iG with ⟨rfl,avY⟩|⟨rfl,m2⟩
    ·rw[nT,lq,Bool.or_eq_true,bq k,fW];show _\/(Op.bytesLess k aR=false/\(r[i].1=[]\/Op.bytesLess k r[i].1=true))↔_;constructor
     ·rintro (⟨W,aC⟩|⟨W,aC⟩)
      ·have bd:=ahp k aC;refine ⟨⟨W,before k bd⟩,?_⟩;rcases ct with h |h
       ·exact .inl h
       ·exact .inr (gN bd h)
      ·have bd:=aC.resolve_left avY;refine ⟨⟨after k W,before k bd⟩,?_⟩;rcases ct with h |h
       ·exact .inl h
       ·exact .inr (gN bd h)
     ·rintro ⟨⟨W,aC⟩,bd⟩;have bD:Op.bytesLess k r[i].1=true:=by
       cases dU:Op.bytesLess k r[i].1
       ·rw[fW.2 ⟨dU,bd⟩]at aC;cases aC
       ·rfl
      cases gB:Op.bytesLess k aR
      ·exact .inr ⟨rfl,.inr bD⟩
      ·exact .inl ⟨W,rfl⟩
    ·rw[bq k];have avO: ∀k,Op.bytesLess k aR=true->False:=by intro k ag;have:=ahp k ag;rw[m2]at this;cases k<;>cases this
     constructor
     ·rintro ⟨W,aC⟩;exact (avO k aC).elim
     ·rintro ⟨⟨W,aC⟩,bd⟩;have:cl r[i] k=true:=fW.2 ⟨by rw[m2];cases k<;>rfl,bd⟩;rw[this]at aC;cases aC
   have tail:r[i].2.1=[]->r.take (i+1)=r:=by
    intro h;rcases Nat.lt_or_ge (i+1) r.length with G |G
    ·have:=List.pairwise_iff_getElem.1 aN.gp i (i+1) E G u;exact absurd h this.1
    ·exact ic G
   have done: ∀dV:aw,(dV=o++[(aR,r[i].1,())]/\r[i].1≠[]\/dV=o/\r[i].1=[])->r[i].2.1=[]->(∀k,dd dV k= !dd r k):=by
    intro dV iG h k;have:=aeK dV iG k;rw[tail h]at this;cases ag:dd r k
    ·exact this.2 ⟨ag,.inl h⟩
    ·cases ab:dd dV k
     ·rfl
     ·rw[(this.1 ab).1]at ag;cases ag
   have go: ∀dV:aw,(dV=o++[(aR,r[i].1,())]/\r[i].1≠[]\/dV=o/\r[i].1=[])->r[i].2.1≠[]->(dV.length<=i+1/\fv B dV)->
     ((∀k,dd dV k=true↔(dd (r.take (i+1)) k=false/\Op.bytesLess k r[i].2.1=true))/\dV.length<=i+1/\fv B dV/\r[i].2.1.length<=B/\(∀d∈r.drop (i+1),Op.bytesLess d.1 r[i].2.1=false)/\(∀d∈r.take (i+1),d.2.1≠[]/\Op.bytesLess r[i].2.1 d.2.1=false)/\(i+1=0->r[i].2.1=[])):=by
    intro dV iG h ⟨W,aC⟩;refine ⟨λk=> ?_,W,aC,(de _ nH).2,λd af=> ?_,λd af=> ?_,λh=>u⟩
    ·rw[aeK dV iG k];constructor
     ·rintro ⟨a,b⟩;exact ⟨a,b.resolve_left h⟩
     ·rintro ⟨a,b⟩;exact ⟨a,.inr b⟩
    ·obtain ⟨j,al,rfl⟩:=List.mem_iff_getElem.1 af;rw[List.length_drop]at al;rw[List.getElem_drop];have:=List.pairwise_iff_getElem.1 aN.gp i (i+1+j) E u u;exact j6 this.2
    ·rw[eH E]at af;rcases dn.1 af with af |af
     ·obtain ⟨g1,g2⟩:=hC d af;refine ⟨g1,?_⟩;have bd:=ct.resolve_left h;exact px g2 (px ft (j6 bd))
     ·obtain rfl:=gl.1 af;exact ⟨h,iD _⟩
   by_cases rb:r[i].1=[]
   ·have V:(!decide ((r[i].1:N)=([]:N)))=false:=by rw[aW rb];rfl
    by_cases jr:r[i].2.1=[]
    ·right;refine ⟨_,.inl ⟨o,rfl,done o (.inr ⟨rfl,rb⟩) jr,u,dD⟩,?_⟩;simp only[tv,M,ch,bN,aj,bI,b5 E,rb,jr,cf,cK,av]
    ·left;refine ⟨(r[i].2.1,o),go o (.inr ⟨rfl,rb⟩) jr ⟨u,dD⟩,?_⟩;simp only[tv,M,ch,bN,aj,bI,b5 E,rb,jr,cf,decide_false,cK,av,w]
   ·have CF:fv B (o++[(aR,r[i].1,())]):=by
     intro d af;rcases dn.1 af with h |h
     ·exact dD d h
     ·obtain rfl:=gl.1 h;exact ⟨dx,(de _ nH).1⟩
    by_cases jr:r[i].2.1=[]
    ·right;refine ⟨_,.inl ⟨o++[(aR,r[i].1,())],rfl,done _ (.inl ⟨rfl,rb⟩) jr,by simp;omega,CF⟩,?_⟩;simp only[tv,M,ch,bN,aj,bI,b5 E,rb,jr,cf,decide_false,cH,av,room]
    ·left;refine ⟨(r[i].2.1,o++[(aR,r[i].1,())]),go _ (.inl ⟨rfl,rb⟩) jr ⟨by simp;omega,CF⟩,?_⟩;simp only[tv,M,ch,bN,aj,bI,b5 E,rb,jr,cf,decide_false,cH,av,room,w])
  (λs aP=>by
   obtain ⟨aR,o⟩:=s;obtain ⟨bq,bU,dD,dx,gw,hC,ng⟩:=aP;simp only at bq bU dD dx gw hC ng;have M:=fE r;rw[eu]at bq hC;refine ⟨_,.inr ⟨aR,o,rfl,λk=> ?_,bU,λd af=> ?_⟩,by simp only[tv,M,av]⟩
   ·rw[nT,lq,Bool.eq_iff_iff,Bool.or_eq_true,bq k,fW,eS];show _\/(Op.bytesLess k aR=false/\(([]:N)=[]\/_))↔_;constructor
    ·rintro (⟨W,-⟩|⟨W,-⟩)
     ·exact W
     ·unfold dd;rw[List.any_eq_false];intro d af h;obtain ⟨g1,g2⟩:=hC d af;rcases (fW.1 h).2 with h |h
      ·exact g1 h
      ·have:=px g2 W;rw[this]at h;cases h
    ·intro h;cases ag:Op.bytesLess k aR
     ·exact .inr ⟨rfl,.inl rfl⟩
     ·exact .inl ⟨h,rfl⟩
   ·rcases dn.1 af with h |h
    ·exact dD d h
    ·obtain rfl:=gl.1 h;exact ⟨dx,aU⟩) ([],[]) at3
 have dt:NB (([]:N),r,(r.length:Int),(0:Int),[],())=some z:=q;rcases G with ⟨g,rfl,W,aC,bd⟩|⟨aR,g,rfl,W,aC,bd⟩
 ·exact ⟨g,by simp only[A3,dt],W,aC,bd⟩
 ·have room:bG ((g.length+List.length ([(aR,[],())]:List (aK)))*32<=bC):=aW (by rw[ez];simp;omega);exact ⟨g++[(aR,[],())],by simp only[A3,dt,room,aj],W,by simp;omega,bd⟩
theorem OP {α:Type} (ay:List (List α)) (c:Nat) (h: ∀a∈ay,a.length<=c):ay.flatten.length<=ay.length*c:=by
 induction ay with
 |nil=>simp
 |cons a ay aO=>
  rw[List.flatten_cons,et,ia];have q:=h a gL;have G:=aO (λb L=>h b (gY _ L));rw[Nat.add_mul];omega
theorem aku (l g:aw) (n i:Nat) (ay:aw) (o:aw) (x:aK) (gs:aw) (ad:l.length<1000000000) (ab:o.length+l.length<10^12):
  M8 (l,(n:Int),(i:Int),l,(l.length:Int),(0:Int),o,x,gs,())=some (.inl (l,(n:Int),(i:Int),o++l.map (hK x),gs,())):=by
 obtain ⟨z,q,rfl⟩:=dG (b:=El) (λj (s:aw)=>(l,(n:Int),(i:Int),l,(l.length:Int),(j:Int),s,x,gs,())) l.length (λj s=>s=o++(l.take j).map (hK x)) (λz=>z=.inl (l,(n:Int),(i:Int),o++l.map (hK x),gs,())) u
  (λj al s aP=>by left;have M:=e5 (i:=j) (l:=l) u;have ch:bG ((0:Int)<=((j:Nat):Int)):=aW u;have w:=fx (j:=j) u;have room:bG ((s.length+List.length ([hK x l[j]]:List (aK)))*32<=bC):=aW (by rw[ez,aP];simp;omega);refine ⟨s++[hK x l[j]],by rw[aP,eH al,List.map_append,List.append_assoc];rfl,?_⟩;simp only[El,M,ch,bN,aj,bI,b5 al,F8,room,w])
  (λs aP=>by have M:=fE l;rw[eu]at aP;exact ⟨_,rfl,by simp only[El,M,av,aP]⟩) o aU
 exact q
theorem akt (l m:aw) (ad:l.length<1000000000) (hm:m.length<100) (B:Nat) (q:1<=B) (de:fv B l) (kp:fv B m):
  ∃r,Gj (l,m,())=some (r,())/\(∀k,dd r k=(dd l k&& !dd m k))/\r.length<=(m.length+1)*l.length/\n7 r/\fv B r:=by
 obtain ⟨n,M,cG,dq,n3,n4⟩:=Hd m u B kp;obtain ⟨g,V,g1,g2,g3⟩:=a24 n n3 u B n4;have hmul:g.length*l.length<=(m.length+1)*l.length:=gZ _ u;have aAc:(m.length+1)*l.length<=100*l.length:=gZ _ u;obtain ⟨z,G,rfl⟩:=dG (b:=Ek) (λi (s:aw)=>(l,(g.length:Int),(i:Int),s,g,())) g.length (λi s=>s=(g.take i).flatMap λx=>l.map (hK x)) (λz=>z=.inl (g.flatMap (λx=>l.map (hK x)),())) u
  (λi E s aP=>by
   left;have M:=e5 (i:=i) (l:=g) u;have ch:bG ((0:Int)<=((i:Nat):Int)):=aW u;have w:=fx (j:=i) u;have afG:s.length<=i*l.length:=by
    rw[aP,List.flatMap_def];have:=OP ((g.take i).map λx=>l.map (hK x)) l.length (by intro a aV;obtain ⟨x,-,rfl⟩:=List.mem_map.1 aV;simp)
    rw[List.length_map,eE]at this;exact Nat.le_trans this (gZ _ u)
   have RA:i*l.length<=100*l.length:=gZ _ u;have aY:=aku l g g.length i l s g[i] g ad u;refine ⟨s++l.map (hK g[i]),by rw[eH E,List.flatMap_append,<-aP];simp,?_⟩;simp only[Ek,M,ch,bN,aj,bI,b5 E,aY,w])
  (λs aP=>by have M:=fE g;rw[eu]at aP;exact ⟨_,rfl,by simp only[Ek,M,av,aP]⟩) [] aU
 have il:M7 (l,(g.length:Int),(0:Int),[],g,())=_:=G;have lR:(g.flatMap λx=>l.map (hK x)).length<=g.length*l.length:=by
  rw[List.flatMap_def];have:=OP (g.map λx=>l.map (hK x)) l.length (by intro a aV;obtain ⟨x,-,rfl⟩:=List.mem_map.1 aV;simp)
  rw[List.length_map]at this;exact this
 obtain ⟨r,bp,ah,aS,bV,dE⟩:=Hd (g.flatMap λx=>l.map (hK x)) u B (by intro d af;obtain ⟨x,an,af⟩:=List.mem_flatMap.1 af;obtain ⟨y,bu,rfl⟩:=List.mem_map.1 af;exact acy q (g3 x an) (de y bu))
 refine ⟨r,by simp only[Gj,M,V,il,bp],λk=> ?_,u,bV,dE⟩;rw[ah k,<-cG k,<-g1 k];unfold dd;rw[Bool.eq_iff_iff,bQ,List.any_eq_true,List.any_eq_true,List.any_eq_true];constructor
 ·rintro ⟨d,af,ag⟩;obtain ⟨x,an,af⟩:=List.mem_flatMap.1 af;obtain ⟨y,bu,rfl⟩:=List.mem_map.1 af;rw[AX,bQ]at ag;exact ⟨⟨y,bu,ag.2⟩,x,an,ag.1⟩
 ·rintro ⟨⟨y,bu,W⟩,x,an,aC⟩;refine ⟨hK x y,List.mem_flatMap.2 ⟨x,an,List.mem_map.2 ⟨y,bu,rfl⟩⟩,?_⟩;rw[AX,aC,W];rfl
theorem xj {p:N} (h:p∈fb):(dW p).2.1≠[]/\(dW p).1=p/\(dW p).2.1.length<=4/\Op.bytesLess p (dW p).2.1=true:=by have q:fb.all (λp=> !decide ((dW p).2.1=[])&&decide ((dW p).2.1.length<=4)&&Op.bytesLess p (dW p).2.1)=true:=aD;have:=fD.1 q p h;rw[bQ,bQ,eS,decide_eq_false_iff_not,dS]at this;exact ⟨this.1.1,rfl,this.1.2,this.2⟩
theorem nS {p:N} (h:p∈fb) (k:N):cl (dW p) k=bL k p:=by obtain ⟨-,-,W⟩:=mC p (lw p h);exact Bo W k
theorem ajU {x y:aK} {t f:N} (aX:t∈fb) (aM:f∈fb) (an:x=hK y (dW t)) (ct:ki y (dW t)=true) {B:Nat} (de:x.1.length<=B/\x.2.1.length<=B) (kp:B<=10^5) (sZ:4<=B):
  ∃r,ER (x,t,f,())=some (r,())/\(r.1.length<=B+4/\r.2.1.length<=B+4)/\ ∀k,cl r k=true↔(bL k f=true/\cl x (ga f t k)=true):=by
 obtain ⟨t1,t2,t3,t4⟩:=xj aX;obtain ⟨f1,f2,f3,f4⟩:=xj aM;obtain ⟨bf,kN,ku⟩:=Bv.1 ct;have Sa:cl x bf=true:=by rw[an,AX,kN,ku];rfl
 have awE: ∀k,cl x k=true->bL k t=true:=by intro k ag;rw[an,AX,bQ]at ag;rw[<-nS aX];exact ag.2
 have ex:x=(k4 y.1 (dW t).1,(kg y.2.1 (dW t).2.1,())):=by rw[an];unfold hK;rw[ct];rfl
 have ft:x.1=k4 y.1 t:=by rw[ex];show k4 y.1 (dW t).1=_;rw[t2]
 have jr:x.2.1=kg y.2.1 (dW t).2.1:=by rw[ex]
 obtain ⟨dr,a2⟩:=fW.1 Sa;have aeP:x.2.1≠[]:=by
  rw[jr];unfold kg;cases ad:iH (dW t).2.1 y.2.1
  ·show y.2.1≠[];intro e;unfold iH at ad;rw[bh t1,e]at ad;cases ad
  ·exact t1
 have a2:=a2.resolve_left aeP;have auG:Op.bytesLess (dW t).2.1 x.2.1=false:=by
  rw[jr];unfold kg;cases ad:iH (dW t).2.1 y.2.1
  ·show Op.bytesLess (dW t).2.1 y.2.1=false;unfold iH at ad;rw[bh t1]at ad;simp only[cH,Bool.true_and,Bool.or_eq_false_iff]at ad;exact ad.2
  ·exact iD _
 have auN:Op.bytesLess x.1 t=false:=by rw[ft];have:=(GS (a:=y.1) (b:=t) (k:=k4 y.1 t)).1 (iD _);exact this.2
 have aeQ:Op.bytesLess x.1 x.2.1=true:=by
  rcases h0 x.1 bf with W |W |W
  ·exact gN W a2
  ·rw[W];exact a2
  ·rw[dr]at W;cases W
 have Rc:bL x.1 t=true:=awE x.1 (fW.2 ⟨iD _,.inr aeQ⟩);obtain ⟨wy,my⟩:=kd.1 Rc;have ah6:=uB t aX;have aey:=uB f aM;have dI:=O0 x.1 t f u;have cW:=O0 x.2.1 t f u;obtain ⟨fJ,-,-⟩:=mC f (lw f aM);rw[Rc,aj]at dI;have aez:(ga t f x.1).length<=B+4:=by have:=PV (t:=t) (f:=f) (k:=x.1) Rc;omega
 have fin: ∀k,bL k f=true-> ∃r,k=f++r/\ga f t k=t++r:=by intro k ag;obtain ⟨r,ar⟩:=kd.1 ag;exact ⟨r,ar,by rw[ar,lu]⟩
 have lR: ∀k,Op.bytesLess k (f++wy)=false->Op.bytesLess k f=false:=by
  intro k ag;have:Op.bytesLess (f++wy) f=false:=by have h:=Bs f wy;rw[<-nS aM]at h;exact (fW.1 h).1
  exact px this ag
 cases L:bL x.2.1 t with
 |true=>
  rw[L,aj]at cW;obtain ⟨DW,RX⟩:=kd.1 L;refine ⟨(ga t f x.1,ga t f x.2.1,()),by simp only[ER,fJ,dI,cW,aj],⟨aez,?_⟩,λk=> ?_⟩
  ·have:=PV (t:=t) (f:=f) (k:=x.2.1) L;show (ga t f x.2.1).length<=_;omega
  ·have M:ga t f x.1=f++wy:=by rw[my,lu]
   have V:ga t f x.2.1=f++DW:=by rw[RX,lu]
   rw[M,V,fW,fW];show (Op.bytesLess k (f++wy)=false/\(f++DW=[]\/Op.bytesLess k (f++DW)=true))↔_;constructor
   ·rintro ⟨q,G⟩;have G:Op.bytesLess k (f++DW)=true:=by
     rcases G with G |G
     ·obtain ⟨W,aC⟩:=List.append_eq_nil_iff.1 G;rw[W]at aM;exact absurd aM fc
     ·exact G
    have p5:bL k f=true:=by
     rw[<-nS aM];refine fW.2 ⟨lR k q,.inr ?_⟩;have h:=Bs f DW;rw[<-nS aM]at h;rcases (fW.1 h).2 with h |h
     ·exact absurd h f1
     ·exact gN G h
    obtain ⟨r,rfl,ar⟩:=fin k p5;rw[m7]at q G;refine ⟨p5,?_⟩;rw[ar,my,RX,m7,m7];exact ⟨q,.inr G⟩
   ·rintro ⟨p5,W,aC⟩;obtain ⟨r,rfl,ar⟩:=fin k p5;have aC:=aC.resolve_left aeP;rw[ar,my,m7]at W;rw[ar,RX,m7]at aC;rw[m7,m7];exact ⟨W,.inr aC⟩
 |false=>
  rw[L,av]at cW;have auF:x.2.1=(dW t).2.1:=by
   rcases h0 x.2.1 (dW t).2.1 with h |h |h
   ·have:cl (dW t) x.2.1=true:=fW.2 ⟨px (by rw[t2];exact auN) (j6 aeQ),.inr h⟩;rw[nS aX,L]at this;cases this
   ·exact h
   ·rw[auG]at h;cases h
  refine ⟨(ga t f x.1,(dW f).2.1,()),by simp only[ER,fJ,dI,cW,av],⟨aez,by show (dW f).2.1.length<=_;omega⟩,λk=> ?_⟩;have M:ga t f x.1=f++wy:=by rw[my,lu]
  rw[M,fW,fW];show (Op.bytesLess k (f++wy)=false/\((dW f).2.1=[]\/Op.bytesLess k (dW f).2.1=true))↔_;constructor
  ·rintro ⟨q,G⟩;have G:=G.resolve_left f1;have p5:bL k f=true:=by rw[<-nS aM];exact fW.2 ⟨lR k q,.inr G⟩
   obtain ⟨r,rfl,ar⟩:=fin k p5;rw[m7]at q;refine ⟨p5,?_⟩;rw[ar,my,m7];refine ⟨q,.inr ?_⟩;have h:=Bs t r;rw[<-nS aX]at h;rw[auF];exact ((fW.1 h).2).resolve_left t1
  ·rintro ⟨p5,W,aC⟩;obtain ⟨r,rfl,ar⟩:=fin k p5;rw[ar,my,m7]at W;rw[m7];have h:=p5;rw[<-nS aM]at h;exact ⟨W,(fW.1 h).2⟩
def UQ (m:bE) (l r:aw):Prop:= ∀k,dd r k=true↔ ∃dp st,dd l dp=true/\ut m dp=.old k st
theorem Ho (l m:aw) (ad:l.length<1000000000) (hm:m.length<100) (B:Nat) (q:1<=B) (de:fv B l) (kp:fv B m):
  ∃r,zr (m,l,())=some (l,r,())/\(∀k,dd r k=(dd l k&& !dd m k))/\r.length<=(m.length+1)*l.length/\n7 r/\fv B r:=by
 obtain ⟨r,e,h⟩:=akt l m ad hm B q de kp;exact ⟨r,by simp only[zr,e],h⟩
theorem akT (m:bE) (aM:m.2.2.2.2.1∈fb) (aX:m.2.2.2.2.2.1∈fb) (l out:aw) (ad:l.length<1000000000) (ab:out.length<10^11) (B:Nat) (de:fv B l) (kp:B<=10^5) (sZ:4<=B) (c:Int):
  ∃w,SZ ((l.length:Int),(0:Int),c,l,m,dW m.2.2.2.2.2.1,out,())=some (.inl (c,l,out++w,()))/\w.length<=l.length/\fv (B+4) w/\
   ∀k,dd w k=true↔(bL k m.2.2.2.2.1=true/\dd l (ga m.2.2.2.2.1 m.2.2.2.2.2.1 k)=true):=by
 have IX:=xj aX;have ah6:=uB _ aX;obtain ⟨z,q,w,rfl,G⟩:=dG (b:=yG) (λi (w:aw)=>((l.length:Int),(i:Int),c,l,m,dW m.2.2.2.2.2.1,out++w,())) l.length
  (λi w=>w.length<=i/\fv (B+4) w/\ ∀k,dd w k=true↔(bL k m.2.2.2.2.1=true/\dd (l.take i) (ga m.2.2.2.2.1 m.2.2.2.2.2.1 k)=true))
  (λz=> ∃w,z=.inl (c,l,out++w,())/\w.length<=l.length/\fv (B+4) w/\ ∀k,dd w k=true↔(bL k m.2.2.2.2.1=true/\dd l (ga m.2.2.2.2.1 m.2.2.2.2.2.1 k)=true)) u
  (λi E w hw=>by
   left;obtain ⟨du,dc,gK⟩:=hw;have M:=e5 (i:=i) (l:=l) u;have ch:bG ((0:Int)<=((i:Nat):Int)):=aW u;have Ko:=fx (j:=i) u;have nH:=dJ E;have jJ: ∀k,dd (l.take (i+1)) k=(dd (l.take i) k||cl l[i] k):=by intro k;rw[eH E,nT,lq]
   have Cx: ∀k,bL k m.2.2.2.2.1=true->bL (ga m.2.2.2.2.1 m.2.2.2.2.2.1 k) m.2.2.2.2.2.1=true:=λk _=>u1
   cases C6:ki l[i] (dW m.2.2.2.2.2.1)
   ·have he:jH (hK l[i] (dW m.2.2.2.2.2.1))=true:=by rw[Oj,C6];rfl
    refine ⟨w,⟨u,dc,λk=> ?_⟩,?_⟩
    ·rw[gK k,jJ,Bool.or_eq_true];constructor
     ·rintro ⟨W,aC⟩;exact ⟨W,.inl aC⟩
     ·rintro ⟨W,aC |aC⟩
      ·exact ⟨W,aC⟩
      ·have bd:=Cx k W;rw[<-nS aX]at bd;rw[Bv.2 ⟨_,aC,bd⟩]at C6;cases C6
    ·simp only[yG,M,ch,bN,aj,bI,b5 E,F8,Ez,he,cK,av,Ko]
   ·have he:jH (hK l[i] (dW m.2.2.2.2.2.1))=false:=by rw[Oj,C6];rfl
    obtain ⟨r,ah,aS,bV⟩:=ajU (x:=hK l[i] (dW m.2.2.2.2.2.1)) aX aM rfl C6 (B:=B) (acy u (de _ nH) ⟨by rw[IX.2.1];omega,u⟩) kp sZ;have room:bG ((List.length (out++w)+List.length ([r]:List (aK)))*32<=bC):=aW (by rw[ez];simp;omega);refine ⟨w++[r],⟨by simp;omega,λd af=> ?_,λk=> ?_⟩,?_⟩
    ·rcases dn.1 af with h |h
     ·exact dc d h
     ·obtain rfl:=gl.1 h;exact aS
    ·rw[nT,lq,Bool.or_eq_true,gK k,bV k,jJ,AX,Bool.or_eq_true,bQ];constructor
     ·rintro (⟨W,aC⟩|⟨W,aC,-⟩)
      ·exact ⟨W,.inl aC⟩
      ·exact ⟨W,.inr aC⟩
     ·rintro ⟨W,aC |aC⟩
      ·exact .inl ⟨W,aC⟩
      ·refine .inr ⟨W,aC,?_⟩;rw[nS aX];exact Cx k W
    ·rw[<-List.append_assoc];simp only[yG,M,ch,bN,aj,bI,b5 E,F8,Ez,he,cH,ah,room,Ko])
  (λw hw=>by have M:=fE l;rw[eu]at hw;exact ⟨_,⟨w,rfl,hw⟩,by simp only[yG,M,av]⟩) [] ⟨ca _,λd af=>(by cases af),λk=>(by simp[dd])⟩
 rw[List.append_nil]at q;exact ⟨w,q,G⟩
theorem alk (i:Int) (m:bE) (hm:ij m) (vC:m.1=3->m.2.2.2.1.1.length<=200/\m.2.2.2.1.2.1.length<=200) (l:aw) (ad:l.length<10^8) (B:Nat) (de:fv B l) (kp:B<=10000) (sZ:200<=B) (mr:n7 l):
  ∃r,pY (i,m,(0:Int),l,())=some (true,0,r,())/\UQ m l r/\r.length<=4*l.length/\fv (B+4) r/\n7 r:=by
 have Co: ∀r:aw,fv B r->fv (B+4) r:=λr h d af=>by have:=h d af;omega
 have Cq:bG ((-1:Int)= -1):=rfl;have one: ∀k∈jK,qw (k,())=some ((k,k++[0],()),())/\fv B [(k,k++[0],())]:=by
  intro k ag;refine ⟨(xx ag).1,λd af=> ?_⟩;obtain rfl:=gl.1 af;have:=(uf k ag).2;constructor
  ·show k.length<=B;omega
  ·show (k++[0]).length<=B;simp;omega
 by_cases q:m.1=1
 ·obtain ⟨fI,jh⟩:=one m.2.1 (hm.key (.inl q));obtain ⟨r,e,g1,g2,g3,g4⟩:=Ho l [(m.2.1,m.2.1++[0],())] u aU B u de jh;refine ⟨r,by simp only[pY,sI,q,cf,aj,fI,e,Cq],λk=> ?_,by simp at g2;omega,Co r g4,g3⟩;rw[g1 k,lq,He,bQ,eS,decide_eq_false_iff_not];unfold ut;simp only[q,if_true];constructor
  ·rintro ⟨G,W⟩;exact ⟨k,none,G,by rw[if_neg (λe=>W e.symm)]⟩
  ·rintro ⟨dp,st,G,W⟩;by_cases e:m.2.1=dp
   ·rw[if_pos e]at W;cases W
   ·rw[if_neg e]at W;injection W with M V
    rw[<-M];exact ⟨G,λh=>e h.symm⟩
 ·have d1:decide (m.1=1)=false:=bh q;by_cases G:m.1=2
  ·obtain ⟨fI,jh⟩:=one m.2.1 (hm.key (.inr G));obtain ⟨r,e,g1,g2,g3,g4⟩:=Ho l [(m.2.1,m.2.1++[0],())] u aU B u de jh;refine ⟨r,by simp only[pY,sI,G,d1,cf,aj,av,fI,e,Cq,show decide ((2:Int)=1)=false from rfl],λk=> ?_,by simp at g2;omega,Co r g4,g3⟩;rw[g1 k,lq,He,bQ,eS,decide_eq_false_iff_not];constructor
   ·rintro ⟨aC,W⟩;refine ⟨k,none,aC,?_⟩;unfold ut;rw[if_neg q,if_pos G,if_neg (λe=>W e.symm)]
   ·rintro ⟨dp,st,aC,W⟩;unfold ut at W;rw[if_neg q,if_pos G]at W;by_cases e:m.2.1=dp
    ·rw[if_pos e]at W;cases W
    ·rw[if_neg e]at W;injection W with M V
     rw[<-M];exact ⟨aC,λh=>e h.symm⟩
  ·have d2:decide (m.1=2)=false:=bh G;by_cases W:m.1=3
   ·obtain ⟨r,e,g1,g2,g3,g4⟩:=Ho l [m.2.2.2.1] u aU B u de (λd af=>by obtain rfl:=gl.1 af;have:=vC W;omega)
    refine ⟨r,by simp only[pY,sI,W,cf,aj,av,e,Cq,show decide ((3:Int)=1)=false from rfl,show decide ((3:Int)=2)=false from rfl],λk=> ?_,by simp at g2;omega,Co r g4,g3⟩;rw[g1 k,lq,bQ,eS];constructor
    ·rintro ⟨aC,bd⟩;refine ⟨k,none,aC,?_⟩;unfold ut;rw[if_neg q,if_neg G,if_pos W,if_neg (by rw[bd];simp)]
    ·rintro ⟨dp,st,aC,bd⟩;unfold ut at bd;rw[if_neg q,if_neg G,if_pos W]at bd;by_cases e:cl m.2.2.2.1 dp=true
     ·rw[if_pos e]at bd;cases bd
     ·rw[if_neg e]at bd;injection bd with M V
      rw[<-M];exact ⟨aC,by simpa using e⟩
   ·have d3:decide (m.1=3)=false:=bh W;by_cases bD:m.1=6
    ·refine ⟨l,by simp only[pY,sI,Dm,bD,cf,aj,av,Cq,show decide ((6:Int)=1)=false from rfl,show decide ((6:Int)=2)=false from rfl,show decide ((6:Int)=3)=false from rfl,show decide ((6:Int)=4)=false from rfl,show decide ((6:Int)=5)=false from rfl],λk=> ?_,u,Co l de,mr⟩;constructor
     ·intro aC;refine ⟨k,(if cl m.2.2.2.1 k=true then some m.2.2.2.2.2.2.1 else none),aC,?_⟩;unfold ut;rw[if_neg q,if_neg G,if_neg W,if_pos bD]
     ·rintro ⟨dp,st,aC,bd⟩;unfold ut at bd;rw[if_neg q,if_neg G,if_neg W,if_pos bD]at bd;injection bd with M V
      rw[<-M];exact aC
    ·have ab:=hm.mv q G W bD;obtain ⟨oS,-,-⟩:=mC _ (lw _ ab.from_);obtain ⟨py,-,-⟩:=mC _ (lw _ ab.to_);obtain ⟨azT,azU,azV,-⟩:=xj ab.from_;obtain ⟨aAt,aAu,aAv,-⟩:=xj ab.to_;have aey:=uB _ ab.from_;have ah6:=uB _ ab.to_;have rest: ∀gone:aw,gone.length<=2->fv B gone->(∀k,dd gone k=true↔(bL k m.2.2.2.2.2.1=true\/(m.1=4/\bL k m.2.2.2.2.1=true)))->
       ∃r,Dn ((-1:Int),l,m,dW m.2.2.2.2.2.1,gone,())=some (true,0,r,())/\UQ m l r/\r.length<=4*l.length/\fv (B+4) r/\n7 r:=by
      intro gone afh avo afi;obtain ⟨a,M,dr,a2,a3,a4⟩:=Ho l gone u u B u de avo;have auV:(gone.length+1)*l.length<=3*l.length:=gZ _ u;obtain ⟨w,V,du,dc,gK⟩:=akT m ab.from_ ab.to_ l a u u B de u u (-1);obtain ⟨r,aY,ah,aS,bV,dE⟩:=Hd (a++w) (by rw[et];omega) (B+4) (by
       intro d af;rcases dn.1 af with h |h
       ·exact Co a a4 d h
       ·exact dc d h)
      rw[et]at aS;refine ⟨r,by simp only[Dn,M,V,aY,Cq,cf,aj],λk=> ?_,u,dE,bV⟩;rw[ah k,nT,Bool.or_eq_true,gK k,dr k,bQ,eS];have avq:dd gone k=false↔ ¬(bL k m.2.2.2.2.2.1=true\/(m.1=4/\bL k m.2.2.2.2.1=true)):=by rw[<-afi k];simp
      constructor
      ·rintro (⟨aC,bd⟩|⟨aC,bd⟩)
       ·have kK:=avq.1 bd;refine ⟨k,none,aC,?_⟩;unfold ut;rw[if_neg q,if_neg G,if_neg W,if_neg bD,if_neg (λh=>kK (.inr h)),if_neg (λh=>kK (.inl h))]
       ·refine ⟨ga m.2.2.2.2.1 m.2.2.2.2.2.1 k,none,bd,?_⟩;have L:bL (ga m.2.2.2.2.1 m.2.2.2.2.2.1 k) m.2.2.2.2.2.1=true:=u1;unfold ut;rw[if_neg q,if_neg G,if_neg W,if_neg bD,if_neg (λh=>by have:=ab.not_both h.2;rw[L]at this;cases this),if_pos L];obtain ⟨x,an⟩:=kd.1 aC;rw[an,lu,lu]
      ·rintro ⟨dp,st,aC,bd⟩;unfold ut at bd;rw[if_neg q,if_neg G,if_neg W,if_neg bD]at bd;by_cases bj:m.1=4/\bL dp m.2.2.2.2.1=true
       ·rw[if_pos bj]at bd;cases bd
       ·rw[if_neg bj]at bd;by_cases ba:bL dp m.2.2.2.2.2.1=true
        ·rw[if_pos ba]at bd;injection bd with M V
         obtain ⟨x,an⟩:=kd.1 ba;rw[an,lu]at M;right;rw[<-M,lu,<-an];exact ⟨Bs _ _,aC⟩
        ·rw[if_neg ba]at bd;injection bd with M V
         left;rw[<-M];exact ⟨aC,(by
          have: ¬(bL dp m.2.2.2.2.2.1=true\/(m.1=4/\bL dp m.2.2.2.2.1=true)):=λh=>h.elim ba bj
          rw[<-afi dp]at this;simpa using this)⟩
     have Qn: ∀p∈fb,(dW p).1.length<=B/\(dW p).2.1.length<=B:=by intro p aT;obtain ⟨-,bU,dD,-⟩:=xj aT;have:=uB p aT;rw[bU];omega
     rcases ab.kind with aC |bd
     ·have room:bG ((List.length ([dW m.2.2.2.2.2.1]:List (aK))+List.length ([dW m.2.2.2.2.1]:List (aK)))*32<=bC):=by rw[ez];rfl
      obtain ⟨r,e,ar⟩:=rest [dW m.2.2.2.2.2.1,dW m.2.2.2.2.1] aU (λd af=>by
       rcases fe.1 af with rfl |af
       ·exact Qn _ ab.to_
       ·obtain rfl:=gl.1 af;exact Qn _ ab.from_) (λk=>by
       have:dd [dW m.2.2.2.2.2.1,dW m.2.2.2.2.1] k=(bL k m.2.2.2.2.2.1||bL k m.2.2.2.2.1):=by simp[dd,nS ab.to_,nS ab.from_]
       rw[this,Bool.or_eq_true];constructor
       ·rintro (h |h)
        ·exact .inl h
        ·exact .inr ⟨aC,h⟩
       ·rintro (h |⟨-,h⟩)
        ·exact .inl h
        ·exact .inr h)
      have ee:Dn ((-1:Int),l,m,dW m.2.2.2.2.2.1,([dW m.2.2.2.2.2.1]:aw)++[dW m.2.2.2.2.1],())=some (true,0,r,()):=e;have d4:decide (m.1=4)=true:=aW aC;exact ⟨r,by simp only[pY,sI,Dm,d1,d2,d3,d4,cf,aj,av,py,oS,room,ee],ar⟩
     ·obtain ⟨r,e,ar⟩:=rest [dW m.2.2.2.2.2.1] aU (λd af=>by
       obtain rfl:=gl.1 af;exact Qn _ ab.to_) (λk=>by
       rw[lq,nS ab.to_];constructor
       ·exact λh=>.inl h
       ·rintro (h |⟨h,-⟩)
        ·exact h
        ·rw[bd]at h;exact absurd h fc)
      have d4:decide (m.1=4)=false:=bh u;have d5:decide (m.1=5)=true:=aW bd;exact ⟨r,by simp only[pY,sI,Dm,d1,d2,d3,d4,d5,cf,aj,av,py,e],ar⟩
end D
