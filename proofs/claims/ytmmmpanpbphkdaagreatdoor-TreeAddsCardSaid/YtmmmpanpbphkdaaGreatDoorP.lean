import Derived.Test.YtmmmpanpbphkdaaGreatDoorPb
set_option linter.unusedVariables false
set_option linter.unusedSimpArgs false
set_option maxRecDepth 100000
open Go Go.X
open Go.IntKind (i64)
namespace D
open Go
open Go
theorem GK {st:Option Int} {x:Src} {k:N}:(∃s2,sy st x=.old k s2)↔ ∃s1,x=.old k s1:=by
 cases x with
 |gen v n=>exact ⟨λ⟨_,h⟩=>(by cases h),λ⟨_,h⟩=>(by cases h)⟩
 |gone=>exact ⟨λ⟨_,h⟩=>(by cases h),λ⟨_,h⟩=>(by cases h)⟩
 |old eD gJ=>
  constructor
  ·rintro ⟨s2,h⟩;injection h with q G
   exact ⟨gJ,by rw[q]⟩
  ·rintro ⟨s1,h⟩;injection h with q G
   exact ⟨st.or gJ,by rw[q];rfl⟩
theorem aux (m:bE) (k:N): ∀(r:cD) (dp:N),(∃st,iX (r++[m]) dp=.old k st)↔ ∃eD s1 s2,iX r dp=.old eD s1/\ut m eD=.old k s2
 |[],dp=>by
  show (∃st,iX [m] dp=.old k st)↔_;rw[show iX [m] dp=(match ut m dp with
   | .gen v n=>.gen v n
   | .gone=>.gone
   | .old eD st=>sy st (iX [] eD)) from rfl]
  cases e:ut m dp with
  |gen v n=>
   constructor
   ·rintro ⟨_,h⟩;cases h
   ·rintro ⟨eD,s1,s2,q,G⟩;injection q with W aC
    rw[<-W,e]at G;cases G
  |gone=>
   constructor
   ·rintro ⟨_,h⟩;cases h
   ·rintro ⟨eD,s1,s2,q,G⟩;injection q with W aC
    rw[<-W,e]at G;cases G
  |old bf st=>
   show (∃d,sy st (.old bf none)=.old k d)↔_;rw[GK];constructor
   ·rintro ⟨s1,h⟩;injection h with W aC
    exact ⟨dp,none,st,rfl,by rw[e,W]⟩
   ·rintro ⟨eD,s1,s2,q,G⟩;injection q with W aC
    rw[<-W,e]at G;injection G with bd bD
    exact ⟨none,by rw[bd]⟩
 |a::r,dp=>by
  show (∃st,iX (a::(r++[m])) dp=.old k st)↔_;rw[acK]
  conv=>rhs;rw[acK]
  cases e:ut a dp with
  |gen v n=>
   constructor
   ·rintro ⟨_,h⟩;cases h
   ·rintro ⟨eD,s1,s2,q,G⟩;cases q
  |gone=>
   constructor
   ·rintro ⟨_,h⟩;cases h
   ·rintro ⟨eD,s1,s2,q,G⟩;cases q
  |old bf st=>
   show (∃d,sy st (iX (r++[m]) bf)=.old k d)↔ ∃eD s1 s2,sy st (iX r bf)=.old eD s1/\ut m eD=.old k s2;rw[GK,aux m k r bf];constructor
   ·rintro ⟨eD,s1,s2,q,G⟩;obtain ⟨jB,W⟩:=GK.2 ⟨s1,q⟩;exact ⟨eD,jB,s2,W,G⟩
   ·rintro ⟨eD,s1,s2,q,G⟩;obtain ⟨jB,W⟩:=GK.1 ⟨s1,q⟩;exact ⟨eD,jB,s2,W,G⟩
theorem gb.ends {m:bE} (h:gb m):m.2.2.2.1.1.length<=200/\m.2.2.2.1.2.1.length<=200:=by
 obtain ⟨s,k,v,f,t,d,n,rfl,aP,aN,lV,rk⟩:=h.form;have Cb:s=0\/s=1\/s=2\/s=3\/s=4\/s=5:=u;rcases Cb with rfl |rfl |rfl |rfl |rfl |rfl
 ·exact ⟨Nat.zero_le _,Nat.zero_le _⟩
 ·exact ⟨Nat.zero_le _,Nat.zero_le _⟩
 ·exact ⟨lV,rk⟩
 ·exact ⟨Nat.zero_le _,Nat.zero_le _⟩
 ·exact ⟨Nat.zero_le _,Nat.zero_le _⟩
 ·exact ⟨lV,rk⟩
theorem al2 {j:Nat} (h:j<13):4^j<10^8:=by have:4^j<=4^12:=Nat.pow_le_pow_right u u;omega
theorem aj8 (d:aK) (l:cD) (ad: ∀m∈l,gb m) (aN:l.length<=13) (B:Nat) (af:d.1.length<=B/\d.2.1.length<=B) (de:B<=5000) (sZ:200<=B):
  ∃r,EP (d,l,())=some (r,())/\(∀k,dd r k=true↔ ∃dp st,cl d dp=true/\iX l.reverse dp=.old k st)/\r.length<=4^l.length/\fv (B+4*l.length) r:=by
 obtain ⟨n,M,cG,dq,n3,n4⟩:=Hd [d] aU B (λx an=>by obtain rfl:=gl.1 an;exact af)
 have ch:i64.wrap (((l.length):Int)-1)=((l.length:Int)-1):=by rw[cQ u]
 obtain ⟨z,q,r,rfl,G⟩:=dG (b:=BX) (λj (s:aw)=>(((l.length:Int)-1-(j:Int)),(0:Int),l,s,())) l.length
  (λj s=>(∀k,dd s k=true↔ ∃dp st,cl d dp=true/\iX (l.reverse.take j) dp=.old k st)/\s.length<=4^j/\fv (B+4*j) s/\n7 s)
  (λz=> ∃r,z=.inr ((0:Int),l,r,())/\(∀k,dd r k=true↔ ∃dp st,cl d dp=true/\iX l.reverse dp=.old k st)/\r.length<=4^l.length/\fv (B+4*l.length) r) u
  (λj al s aP=>by
   left;obtain ⟨bq,bU,dD,dx⟩:=aP;obtain ⟨i,E⟩: ∃i:Nat,l.length-1-j=i:=⟨_,rfl⟩;have RA:i<l.length:=u;have avE:j<l.reverse.length:=by rw[List.length_reverse];exact al
   have I0:l.reverse[j]=l[i]:=by rw[List.getElem_reverse];congr 1
   have dQ:((l.length:Int)-1-(j:Int))=(i:Int):=u;have bj:bG ((i:Int)>=(0:Int)):=aW u;have ba:=dZ i;have c3:bG ((i:Int)<(l.length:Int)):=aW u;have gd:i64.wrap ((i:Int)-1)=((l.length:Int)-1-((j+1:Nat):Int)):=by rw[cQ u];omega
   have hm:=ad _ (dJ RA);have p9:=al2 (j:=j) u;obtain ⟨r,g1,g2,g3,g4,g5⟩:=alk (i:Int) l[i] hm.ok (λ_=>hm.ends) s u (B+4*j) dD u u dx;refine ⟨r,⟨λk=> ?_,?_,?_,g5⟩,?_⟩
   ·rw[g2 k];have I1:=λdp=>aux l[i] k (l.reverse.take j) dp
    rw[<-I0]at I1 ⊢;simp only[<-eH avE]at I1;constructor
    ·rintro ⟨bf,st,W,aC⟩;obtain ⟨dp,iT,bd,bD⟩:=(bq bf).1 W;obtain ⟨s2,dU⟩:=(I1 dp).2 ⟨bf,iT,st,bD,aC⟩;exact ⟨dp,s2,bd,dU⟩
    ·rintro ⟨dp,st,W,aC⟩;obtain ⟨bf,s1,s2,bd,bD⟩:=(I1 dp).1 ⟨st,aC⟩;exact ⟨bf,s2,(bq bf).2 ⟨dp,s1,W,bd⟩,bD⟩
   ·rw[Nat.pow_succ];omega
   ·rw[show B+4*(j+1)=B+4*j+4 by omega];exact g4
   ·rw[dQ];simp only[BX,bj,ba,c3,aj,bN,bI,b5 RA,g1,cK,av,gd])
  (λs aP=>by
   obtain ⟨bq,bU,dD,dx⟩:=aP;have dQ:((l.length:Int)-1-((l.length:Nat):Int))= -1:=u;have M:(decide ((-1:Int)>=(0:Int)))=false:=rfl;rw[ic (by rw[List.length_reverse];exact ca _)]at bq;rw[dQ];exact ⟨_,⟨s,rfl,bq,bU,dD⟩,by simp only[BX,M,av]⟩) n ⟨λk=>by
    rw[cG k,lq];constructor
    ·intro h;exact ⟨k,none,h,rfl⟩
    ·rintro ⟨dp,st,W,aC⟩;injection aC with bd bD
     rw[<-bd];exact W,by simpa using dq,by simpa using n4,n3⟩
 have dt:QI (((l.length:Int)-1),(0:Int),l,n,())=some (.inr ((0:Int),l,r,())):=by have:=q;simp only[Int.natCast_zero,Int.sub_zero]at this;exact this
 refine ⟨r,?_,G⟩;simp only[EP,M,Ip,QR,ch,dt,cf,aj]
theorem GD {n m:Nat} (h:n<=13) (G:m<=1200000):2^n*(m+1)<=10^11:=by have W:2^n<=2^13:=Nat.pow_le_pow_right u h;have aC:2^n*(m+1)<=2^13*1200001:=Nat.mul_le_mul W u;omega
theorem Gv {t:ak} {l:cD} (af:cP bT t) (h: ∀m∈l,ij m) (ad:2^l.length*(t.length+1)<=10^11) (aN:l.length<=13) {B:Nat} (de:100<=B) (kp:B<=900) (ag: ∀p∈t,p.1.length<=B) (i:Nat) (E:i<=l.length):
  cP bT (allM t (l.take i))/\(allM t (l.take i)).length<10^11/\ ∀p∈allM t (l.take i),p.1.length<1000:=by
 have cy: ∀m∈l.take i,ij m:=λm hm=>h m (List.mem_of_mem_take hm)
 have hlen:(l.take i).length=i:=by rw[eE];omega
 refine ⟨A5 af _,?_,λp aT=> ?_⟩
 ·have q:=GW (l.take i) t;rw[hlen]at q;have G:2^i<=2^l.length:=Nat.pow_le_pow_right u E;have W:=gZ (t.length+1) G;omega
 ·have:=ab6 cy af de ag p aT;omega
theorem U0 {t:ak} {l:cD} (af:cP bT t) (h: ∀m∈l,ij m) (ad:2^l.length*(t.length+1)<=10^11) (aN:l.length<=13) {B:Nat} (de:100<=B) (kp:B<=900) (ag: ∀p∈t,p.1.length<=B):
  uQ (t,l,())=some (allM t l,()):=by
 obtain ⟨z,q,rfl⟩:=dG (b:=AP) (λi (s:ak)=>(s,l,(l.length:Int),(i:Int),())) l.length (λi s=>s=allM t (l.take i)) (λz=>z=.inl (allM t l,())) u
  (λi E s aP=>by left;have M:=e5 (i:=i) (l:=l) u;have ch:bG ((0:Int)<=((i:Nat):Int)):=aW u;have w:=fx (j:=i) u;obtain ⟨dr,a2,a3⟩:=Gv af h ad aN de kp ag i u;rw[<-aP]at dr a2 a3;have V:=(O8 s l[i] (h _ (dJ E)) dr a2 a3).1;refine ⟨apM s l[i],by rw[aP,eH E,Gu],?_⟩;simp only[AP,M,ch,bN,aj,bI,b5 E,V,w])
  (λs aP=>by have M:=fE l;rw[eu]at aP;exact ⟨_,rfl,by simp only[AP,M,av,aP]⟩) t rfl
 have dt:Om (t,l,(l.length:Int),(0:Int),())=some (.inl (allM t l,())):=q;simp only[uQ,dt]
abbrev w3:Type:=((cz)×(aK)×(List (aK))×(bF)×(Int)×H)->Option ((List (cp))×(bF)×(Int)×H)
theorem ajs (r:w3) (id:Int) (d:aK) (l:aw) (p:bF) (found out:ak) (ad:out.length+found.length<=10^12):
  x9 r ((found.length:Int),(0:Int),(0:Int),id,d,l,p,(0:Int),found,out,())=some (.inr ((0:Int),id,d,l,p,(0:Int),out++found,())):=by
 obtain ⟨z,q,rfl⟩:=dG (b:=sG r) (λi (s:ak)=>((found.length:Int),(i:Int),(0:Int),id,d,l,p,(0:Int),found,s,())) found.length (λi s=>s=out++found.take i) (λz=>z=.inr ((0:Int),id,d,l,p,(0:Int),out++found,())) u
  (λi E s aP=>by left;have M:=e5 (i:=i) (l:=found) u;have ch:bG ((0:Int)<=((i:Nat):Int)):=aW u;have w:=fx (j:=i) u;have room:bG ((s.length+List.length ([found[i]]:List (cp)))*40<=bC):=aW (by rw[ez,aP];simp;omega);refine ⟨s++[found[i]],by rw[aP,eH E,List.append_assoc],?_⟩;simp only[sG,Ix,i5,M,ch,bN,aj,bI,b5 E,cf,cK,cH,av,room,w])
  (λs aP=>by have M:=fE found;rw[eu]at aP;exact ⟨_,rfl,by simp only[sG,M,av,aP]⟩) out aU
 exact q
theorem atM (r:w3) (id:Int) (d:aK) (l:aw) (p:bF) (found out:ak) (e:Int) (he:e≠0):
  x9 r ((found.length:Int),(0:Int),(0:Int),id,d,l,p,e,found,out,())=some (.inl ((0:Int),id,d,l,p,e,out,()))\/
  x9 r ((found.length:Int),(0:Int),(0:Int),id,d,l,p,e,found,out,())=some (.inr ((0:Int),id,d,l,p,e,out,())):=by
 cases found with
 |nil=>
  right;exact oQ (n:=1) (by rw[kS];omega) (by have M:(decide ((0:Int)<((List.length ([]:ak)):Int)))=false:=rfl;simp only[gi,sG,M,av])
 |cons x found=>
  left;exact oQ (n:=1) (by rw[kS];omega) (by have M:bG ((0:Int)<((List.length (x::found)):Int)):=aW (by rw[ia];omega);have V:(decide (e=0))=false:=bh he;simp only[gi,sG,Ix,M,V,Int.le_refl,cf,bN,aj,cH,cK,av])
theorem ac6 (r:w3) (id:Int) (d:aK) (l:aw) (p:bF) (t out:ak) (e:Int) (aX:t.length<10^11) (ab:out.length<=10^11) (ad:l.length<=10^17):
  x8 r (t,(0:Int),id,d,l,p,e,out,())=some ((0:Int),id,d,l,p,e,out++(if e=0 then t.filter (ed l) else []),()):=by
 have M:=OX t l u ad;have aM:(t.filter (ed l)).length<=t.length:=hZ _ _;by_cases he:e=0
 ·subst he;rw[if_pos rfl];have V:=ajs r id d l p (t.filter (ed l)) out u;simp only[x8,M,V]
 ·rw[if_neg he,List.append_nil];rcases atM r id d l p (t.filter (ed l)) out e he with V |V
  ·simp only[x8,M,V]
  ·simp only[x8,M,V]
def so (e:Int):Prop:=e=0\/e=112
def kB (buf:cD) (ay:N->Prop):N->Prop:=λk=> ∃dp st,ay dp/\iX buf.reverse dp=.old k st
def jm (l:aw):N->Prop:=λk=>dd l k=true
def adG (r:w3) (p:bF) (i:Nat) (d:aK) (c:ak) (wO:(N->Prop)->Prop) (B dP:Nat):Prop:=
 ∀(l:aw) (e:Int) (out:ak),l.length<=dP->fv B l->so e->out.length<=10^10->
  ∃ee,sJ r ((0:Int),(i:Int),d,l,p,e,out,())=some ((0:Int),(i:Int),d,l,p,ee,out++(if ee=0 then c.filter (ed l) else []),())/\so ee/\(e≠0->ee≠0)/\(e=0->(ee≠0↔wO (jm l)))
theorem akH (r:w3) (a7:cz) (d:aK) (l:aw) (p:bF) (e:Int) (B dP:Nat) (L: ∀m∈a7.2.2.2.2.1,gb m) (aN:a7.2.2.2.2.1.length<=13) (ad:l.length<=dP) (de:fv B l) (kp:B<=5000) (sZ:200<=B) (lN:dP*4^a7.2.2.2.2.1.length<=10^11):
  ∃eJ,Jg r ([],l,(l.length:Int),(0:Int),p,e,a7,d,[],())=some (.inl ([],p,e,a7,d,eJ,()))/\eJ.length<=dP*4^a7.2.2.2.2.1.length/\fv (B+4*a7.2.2.2.2.1.length) eJ/\ ∀k,dd eJ k=true↔kB a7.2.2.2.2.1 (jm l) k:=by
 have aT:1<=4^a7.2.2.2.2.1.length:=Nat.one_le_pow _ _ u;have aeS:dP*1<=dP*4^a7.2.2.2.2.1.length:=Nat.mul_le_mul_left _ aT;obtain ⟨z,q,eJ,rfl,G⟩:=dG (b:=yH r) (λi (s:aw)=>(([]:ak),l,(l.length:Int),(i:Int),p,e,a7,d,s,())) l.length
  (λi s=>s.length<=i*4^a7.2.2.2.2.1.length/\fv (B+4*a7.2.2.2.2.1.length) s/\ ∀k,dd s k=true↔kB a7.2.2.2.2.1 (jm (l.take i)) k)
  (λz=> ∃eJ,z=.inl ([],p,e,a7,d,eJ,())/\eJ.length<=dP*4^a7.2.2.2.2.1.length/\fv (B+4*a7.2.2.2.2.1.length) eJ/\ ∀k,dd eJ k=true↔kB a7.2.2.2.2.1 (jm l) k) u
  (λi E s aP=>by
   left;obtain ⟨bq,bU,dD⟩:=aP;have M:=e5 (i:=i) (l:=l) u;have ch:bG ((0:Int)<=((i:Nat):Int)):=aW u;have w:=fx (j:=i) u;have nH:=dJ E;obtain ⟨a,dr,a2,a3,a4⟩:=aj8 l[i] a7.2.2.2.2.1 L aN B (de _ nH) kp sZ;have awc:(i+1)*4^a7.2.2.2.2.1.length<=dP*4^a7.2.2.2.2.1.length:=gZ _ u;rw[Nat.add_mul,Nat.one_mul]at awc;have room:bG ((s.length+a.length)*32<=bC):=aW (by rw[ez];omega);refine ⟨s++a,⟨by rw[et,Nat.add_mul,Nat.one_mul];omega,λd af=> ?_,λk=> ?_⟩,?_⟩
   ·rcases dn.1 af with h |h
    ·exact bU d h
    ·exact a4 d h
   ·rw[nT,Bool.or_eq_true,dD k,a2 k];have jJ: ∀k,dd (l.take (i+1)) k=(dd (l.take i) k||cl l[i] k):=by intro k;rw[eH E,nT,lq]
    constructor
    ·rintro (⟨dp,st,W,aC⟩|⟨dp,st,W,aC⟩)
     ·exact ⟨dp,st,by unfold jm at W ⊢;rw[jJ,W];rfl,aC⟩
     ·exact ⟨dp,st,by unfold jm;rw[jJ,W,Bool.or_true],aC⟩
    ·rintro ⟨dp,st,W,aC⟩;unfold jm at W;rw[jJ,Bool.or_eq_true]at W;rcases W with W |W
     ·exact .inl ⟨dp,st,W,aC⟩
     ·exact .inr ⟨dp,st,W,aC⟩
   ·simp only[yH,M,ch,bN,aj,bI,b5 E,dr,room,w])
  (λs aP=>by
   obtain ⟨bq,bU,dD⟩:=aP;have M:=fE l;rw[eu]at dD;have:l.length*4^a7.2.2.2.2.1.length<=dP*4^a7.2.2.2.2.1.length:=gZ _ ad;exact ⟨_,⟨s,rfl,u,bU,dD⟩,by simp only[yH,M,av]⟩) [] ⟨aU,λd af=>(by cases af),λk=>(by
    constructor
    ·intro h;simp[dd]at h
    ·rintro ⟨dp,st,W,aC⟩;simp[jm,dd]at W)⟩
 exact ⟨eJ,q,G⟩
def sq (ay:N->Prop) (s:aK):Prop:= ∃k,ay k/\cl s k=true
theorem at1 (eJ:aw) (s:aK):(eJ.any λw=>ki w s)=true↔sq (jm eJ) s:=by
 rw[List.any_eq_true];constructor
 ·rintro ⟨w,hw,h⟩;obtain ⟨k,q,G⟩:=Bv.1 h;exact ⟨k,List.any_eq_true.2 ⟨w,hw,q⟩,G⟩
 ·rintro ⟨k,q,G⟩;obtain ⟨w,hw,W⟩:=List.any_eq_true.1 q;exact ⟨w,hw,Bv.2 ⟨k,W,G⟩⟩
theorem abx (r:w3) (p:bF) (a7:cz) (d:aK) (parts:aw) (ks:dB) (C:Nat->ak) (wO:Nat->aK->(N->Prop)->Prop) (B dP:Nat)
  (ag:a7.2.2.1=bJ ks) (aT:parts.length=ks.length) (kN:1<=ks.length) (az7:ks.length<=6) (vC:rU (d,a7.2.1,())=some (parts,())) (L: ∀m∈a7.2.2.2.2.1,gb m) (aN:a7.2.2.2.2.1.length<=13)
  (kp:B<=5000) (sZ:200<=B) (lN:dP*4^a7.2.2.2.2.1.length<=10^11)
  (eM: ∀j,j<ks.length->pJ (parts.getD j b6) (C (ks.getD j 0))/\(C (ks.getD j 0)).length<=200000)
  (ar: ∀j,j<ks.length->adG r p (ks.getD j 0) (parts.getD j b6) (C (ks.getD j 0)) (wO (ks.getD j 0) (parts.getD j b6)) (B+4*a7.2.2.2.2.1.length) (dP*4^a7.2.2.2.2.1.length))
  (l:aw) (e:Int) (ad:l.length<=dP) (de:fv B l) (he:so e):
  ∃eJ ee j,Di r (a7,d,l,p,e,())=some (((ks.take j).flatMap C).filter (ed eJ),p,ee,())/\(∀k,dd eJ k=true↔kB a7.2.2.2.2.1 (jm l) k)/\so ee/\j<=ks.length/\(ee=0->j=ks.length)/\(e≠0->ee≠0)/\
   (e=0->(ee≠0↔ ∃j,j<ks.length/\sq (kB a7.2.2.2.2.1 (jm l)) (parts.getD j b6)/\wO (ks.getD j 0) (parts.getD j b6) (kB a7.2.2.2.2.1 (jm l)))):=by
 obtain ⟨eJ,cG,dq,n3,n4⟩:=akH r a7 d l p e B dP L aN ad de kp sZ lN;have ln:jm eJ=kB a7.2.2.2.2.1 (jm l):=by
  funext k
  exact propext (n4 k)
 have bW:a7.2.2.1≠[]:=by rw[ag];exact PT u
 have IU:=NG bW vC;have avm: ∀j,j<=ks.length->((ks.take j).flatMap C).length<=j*200000:=by
  intro j al;have:=OP ((ks.take j).map C) 200000 (by intro a aV;obtain ⟨k,ag,rfl⟩:=List.mem_map.1 aV;obtain ⟨i,E,rfl⟩:=List.mem_iff_getElem.1 ag;rw[eE]at E;rw[List.getElem_take];have:=(eM i u).2;rw[b5 u]at this;exact this)
  rw[List.length_map,eE,Nat.min_eq_left al]at this;rw[List.flatMap_def];exact this
 obtain ⟨z,q,ee,j,rfl,G,W,aC,bd,bD⟩:=dG (b:=vi r) (λi (s:Int×ak)=>(([]:ak),(parts.length:Int),(i:Int),p,s.1,a7,eJ,parts,s.2,())) parts.length
  (λi s=> ∃j,j<=i/\s.2=((ks.take j).flatMap C).filter (ed eJ)/\so s.1/\(s.1=0->j=i)/\(e≠0->s.1≠0)/\(e=0->(s.1≠0↔ ∃j,j<i/\sq (kB a7.2.2.2.2.1 (jm l)) (parts.getD j b6)/\wO (ks.getD j 0) (parts.getD j b6) (kB a7.2.2.2.2.1 (jm l)))))
  (λz=> ∃ee j,z=.inr (p,ee,((ks.take j).flatMap C).filter (ed eJ),())/\so ee/\j<=ks.length/\(ee=0->j=ks.length)/\(e≠0->ee≠0)/\(e=0->(ee≠0↔ ∃j,j<ks.length/\sq (kB a7.2.2.2.2.1 (jm l)) (parts.getD j b6)/\wO (ks.getD j 0) (parts.getD j b6) (kB a7.2.2.2.2.1 (jm l))))) u
  (λi E s aP=>by
   left;obtain ⟨mi,out⟩:=s;obtain ⟨j,oL,ep,oM,vL,vM,ry⟩:=aP;simp only at ep oM vL vM ry;have je:i<ks.length:=u;have M:=e5 (i:=i) (l:=parts) u;have ch:bG ((0:Int)<=((i:Nat):Int)):=aW u;have w:=fx (j:=i) u;have IG:=asD eJ parts[i] u;have RL:=at1 eJ parts[i];rw[ln]at RL;have yy:parts.getD i b6=parts[i]:=b5 E;cases IE:(eJ.any λw=>ki w parts[i])
   ·rw[IE]at IG;have IT: ¬sq (kB a7.2.2.2.2.1 (jm l)) parts[i]:=λh=>by have:=RL.2 h;rw[IE]at this;cases this
    refine ⟨(mi,out),?_,?_⟩
    ·by_cases oD:mi=0
     ·refine ⟨i+1,u,?_,oM,λ_=>rfl,vM,λh=> ?_⟩
      ·rw[vL oD]at ep;have IS:(C ks[i]).filter (ed eJ)=[]:=by rw[List.filter_eq_nil_iff];intro x an h;have:=(eM i je).1;rw[b5 je,yy]at this;exact IT ⟨x.1,by rw[<-ln];exact h,this x an⟩
       rw[eH je,List.flatMap_append,List.filter_append];simp only[List.flatMap_cons,List.flatMap_nil,List.append_nil,IS];exact ep
      ·rw[ry h];constructor
       ·rintro ⟨gh,a,b⟩;exact ⟨gh,u,b⟩
       ·rintro ⟨gh,a,b,c⟩;rcases Nat.lt_succ_iff_lt_or_eq.1 a with a |a
        ·exact ⟨gh,a,b,c⟩
        ·subst a;rw[yy]at b;exact absurd b IT
     ·refine ⟨j,u,ep,oM,λh=>absurd h oD,vM,λh=> ?_⟩;constructor
      ·intro _;obtain ⟨gh,a,b⟩:=(ry h).1 oD;exact ⟨gh,u,b⟩
      ·exact λ_=>oD
    ·simp only[vi,M,ch,bN,aj,bI,b5 E,IG,cH,w]
   ·rw[IE]at IG;have hm:sq (kB a7.2.2.2.2.1 (jm l)) parts[i]:=RL.1 IE;have RR:out.length<=10^10:=by rw[ep];have a:=hZ (ed eJ) ((ks.take j).flatMap C);have b:=avm j u;omega
    obtain ⟨V,f1,f2,f3,f4⟩:=ar i je eJ mi out dq n3 oM RR;rw[b5 je,yy]at f1 f4;rw[ln]at f4;have aY:bG (((i:Nat):Int)<((a7.2.2.1.length):Int)):=aW (by rw[ag,fP];omega);have bp:a7.2.2.1.getD i 0=((ks[i]:Nat):Int):=by rw[ag,lf je]
    refine ⟨(V,out++(if V=0 then (C ks[i]).filter (ed eJ) else [])),?_,?_⟩
    ·by_cases kM:V=0
     ·have oD:mi=0:=by
       rcases Classical.em (mi=0) with h |h
       ·exact h
       ·exact absurd kM (f3 h)
      refine ⟨i+1,u,?_,f2,λ_=>rfl,λh=>absurd oD (vM h),λh=> ?_⟩
      ·rw[vL oD]at ep;rw[eH je,List.flatMap_append,List.filter_append,if_pos kM,ep];simp only[List.flatMap_cons,List.flatMap_nil,List.append_nil]
      ·constructor
       ·intro cy;exact absurd kM cy
       ·rintro ⟨gh,a,b,c⟩;rcases Nat.lt_succ_iff_lt_or_eq.1 a with a |a
        ·exact absurd oD ((ry h).2 ⟨gh,a,b,c⟩)
        ·subst a;rw[b5 je,yy]at c;exact absurd kM ((f4 oD).2 c)
     ·refine ⟨j,u,?_,f2,λh=>absurd h kM,λ_=>kM,λh=> ?_⟩
      ·show out++(if V=0 then _ else [])=_;rw[if_neg kM,List.append_nil];exact ep
      ·constructor
       ·intro _;by_cases oD:mi=0
        ·refine ⟨i,u,by rw[yy];exact hm,?_⟩;rw[b5 je,yy];exact (f4 oD).1 kM
        ·obtain ⟨gh,a,b⟩:=(ry h).1 oD;exact ⟨gh,u,b⟩
       ·exact λ_=>kM
    ·simp only[vi,M,ch,bN,aj,bI,b5 E,IG,cK,av,aY,bp,qZ,f1,cf,w])
  (λs aP=>by obtain ⟨mi,out⟩:=s;obtain ⟨j,oL,ep,oM,vL,vM,ry⟩:=aP;simp only at ep oM vL vM ry;have M:=fE parts;rw[aT]at oL vL ry;exact ⟨_,⟨mi,j,by rw[<-ep],oM,oL,vL,vM,ry⟩,by simp only[vi,M,av]⟩) (e,[]) ⟨0,ca _,aU,he,λ_=>rfl,id,λh=>⟨λcy=>absurd h cy,λ⟨j,a,_⟩=>absurd a u⟩⟩
 have dt:Jh r ([],(parts.length:Int),(0:Int),p,e,a7,eJ,parts,[],())=some (.inr (p,ee,((ks.take j).flatMap C).filter (ed eJ),())):=q;refine ⟨eJ,ee,j,?_,n4,G,W,aC,bd,bD⟩;simp only[Di,cG,IU,dt]
theorem acH {low:ak} {eJ l:aw} {buf:cD} (af:cP bT low) (L: ∀m∈buf,ij m) (aN: ∀k,dd eJ k=true↔kB buf (jm l) k):
  (allM (low.filter (ed eJ)) buf).filter (ed l)=(allM low buf).filter (ed l):=by
 have rk:cP bT (low.filter (ed eJ)):=List.Pairwise.filter _ af;refine Hj (List.Pairwise.filter _ (A5 rk buf)) (List.Pairwise.filter _ (A5 af buf)) (λx=> ?_);rw[e8,e8];constructor
 ·rintro ⟨q,G⟩;refine ⟨(ab7 rk af L x (λk st ag y bu=> ?_)).1 q,G⟩;rw[e8];refine ⟨λh=>h.1,λh=>⟨h,?_⟩⟩;show dd eJ y.1=true;rw[bu];exact (aN k).2 ⟨x.1,st,G,ag⟩
 ·rintro ⟨q,G⟩;refine ⟨(ab7 rk af L x (λk st ag y bu=> ?_)).2 q,G⟩;rw[e8];refine ⟨λh=>h.1,λh=>⟨h,?_⟩⟩;show dd eJ y.1=true;rw[bu];exact (aN k).2 ⟨x.1,st,G,ag⟩
def od (p:bF) (Q:cS) (b x:Nat):Prop:= ∀i n,i<b->Q[i]? =some n->d9 (p,(i:Int),())=some (if i=x then (ht,112,()) else (n,0,()))
def xK (Q:cS) (i:Nat):cD:=(Q.getD i ht).2.2.2.2.1
def Hy (Q:cS) (i j:Nat):Nat:=(List.getD (Q.getD i ht).2.2.1 j 0).toNat
def u4 (Q:cS) (x:Nat):List bo->aK->Nat->(N->Prop)->Prop
 |[],_,i,_=>i=x
 |P::aI,d,i,ay=>i=x\/ ∃j,j<(partsOf d (cM P d)).length/\sq (kB (xK Q i) ay) (List.getD (partsOf d (cM P d)) j b6)/\u4 Q x aI (List.getD (partsOf d (cM P d)) j b6) (Hy Q i j) (kB (xK Q i) ay)
theorem qu {Q:cS} {i:Nat} {p:ak} {piv:bo} {ks:dB} {sums:hz} {buf:cD} (h:Q[i]? =some (p,piv,bJ ks,sums,buf,())) {j:Nat} (al:j<ks.length):Hy Q i j=ks.getD j 0:=by unfold Hy;rw[wd h];show (List.getD (bJ ks) j 0).toNat=_;rw[lf al,b5 al];rfl
theorem acS {Q:cS} {i:Nat} {n:cz} (h:Q[i]? =some n):xK Q i=n.2.2.2.2.1:=by unfold xK;rw[wd h]
theorem acX (Q:cS) (aI:List bo) (ks:dB) (j:Nat) (eJ:aw):(((ks.take j).flatMap λk=>cont Q aI k).filter (ed eJ)).Sublist (low Q aI ks):=by
 refine List.Sublist.trans List.filter_sublist ?_;unfold low;have:ks=ks.take j++ks.drop j:=(List.take_append_drop j ks).symm
 conv=>rhs;rw[this]
 rw[List.flatMap_append];exact List.sublist_append_left _ _
theorem OG {I:Nat} (h:I<=1):clen I<=192032:=by
 rcases Nat.le_one_iff_eq_zero_or_eq_one.1 h with rfl |rfl
 ·decide
 ·decide
structure ns (Q:cS) (t:ak) (aI:List bo) (d:aK) (i:Nat):Prop where
 tree:hE Q t aI d i
 five: ∀s∈aI,s.length<=5
 srt: ∀P∈aI,P.Pairwise λa b=>Op.bytesLess a b=true
 gx:q2 aI d=true
 gs:q1 aI d=true
structure o2 (t:ak):Prop where
 srt:cP bT t
 len:t.length<=1000
 key: ∀p∈t,p.1.length<=100
theorem ns.cont {Q:cS} {t:ak} {aI:List bo} {d:aK} {i:Nat} (aX:o2 t) (h:ns Q t aI d i):Hl d aI.length (D.cont Q aI i):=
 hE.cont_ok aX.srt aX.len aX.key h.five h.srt h.gx h.tree
structure ug (Q:cS) (t:ak) (P:bo) (aI:List bo) (d:aK) (a7:cz) (ks:dB):Prop where
 kids:a7.2.2.1=bJ ks
 piv:a7.2.1=cM P d
 parts:(partsOf d (cM P d)).length=ks.length
 one:1<=ks.length
 six:ks.length<=6
 span:rU (d,a7.2.1,())=some (partsOf d (cM P d),())
 buf: ∀m∈a7.2.2.2.2.1,gb m
 few:a7.2.2.2.2.1.length<=13
 good: ∀j,j<ks.length->ns Q t aI (List.getD (partsOf d (cM P d)) j b6) (ks.getD j 0)
 low:cP bT (low Q aI ks)/\pJ d (D.low Q aI ks)/\(D.low Q aI ks).length<=6*clen aI.length/\ ∀p∈D.low Q aI ks,p.1.length<=100+20*aI.length
theorem ns.inner {Q:cS} {t:ak} {P:bo} {aI:List bo} {d:aK} {i:Nat} (aX:o2 t) (h:ns Q t (P::aI) d i):
  ∃ks sums buf,Q[i]? =some ([],cM P d,bJ ks,sums,buf,())/\ug Q t P aI d ([],cM P d,bJ ks,sums,buf,()) ks/\buf.length<=5/\(∀k∈ks,k<i)/\ks.Nodup/\(∀m∈buf,jN (m,d,())=some (true,())):=by
 obtain ⟨ks,sums,buf,q,G,W,aC,bd,bD,dU,gB⟩:=h.tree;obtain ⟨g1,g2⟩:=adl h.gx;obtain ⟨bf,a6⟩:=OI h.gs;have jX:(cM P d).length<=5:=Nat.le_trans (ua P d) (h.five P gL);have ju:(partsOf d (cM P d)).length=ks.length:=by rw[g1,PH,G]
 have good: ∀j,j<ks.length->ns Q t aI (List.getD (partsOf d (cM P d)) j b6) (ks.getD j 0):=by
  intro j al;have hl:j<(partsOf d (cM P d)).length:=u;refine ⟨(gB j al).1,λs aP=>h.five s (gY _ aP),λs aP=>h.srt s (gY _ aP),?_,?_⟩
  ·rw[b5 hl];exact (g2 _ (dJ hl)).2
  ·rw[b5 hl];exact a6 _ (dJ hl)
 refine ⟨ks,sums,buf,q,⟨rfl,rfl,ju,u,u,bf,λm hm=>(dU m hm).1,by show buf.length<=13;omega,good,?_⟩,bD,bd,aC,λm hm=>(dU m hm).2⟩;exact Vk ju.symm u (by rw[g1];exact PI _ _ _ adV (ac2 (h.srt P gL) d)) (λs aP=>(g2 s aP).1) (λj al=>(good j al).cont aX)
theorem ug.contents {Q:cS} {t:ak} {P:bo} {aI:List bo} {d:aK} {a7:cz} {ks:dB} (aX:o2 t) (ao:aI.length<=1) (h:ug Q t P aI d a7 ks):
  ∀j,j<ks.length->pJ (List.getD (partsOf d (cM P d)) j b6) (D.cont Q aI (ks.getD j 0))/\(D.cont Q aI (ks.getD j 0)).length<=200000:=by
 intro j al;have:=(h.good j al).cont aX;have G:=OG ao;have W:=this.len;exact ⟨this.sp,u⟩
theorem ug.all {Q:cS} {t:ak} {P:bo} {aI:List bo} {d:aK} {a7:cz} {ks:dB} (ao:aI.length<=1) (h:ug Q t P aI d a7 ks) (j:Nat) (eJ:aw):
  uQ (((ks.take j).flatMap λk=>D.cont Q aI k).filter (ed eJ),a7.2.2.2.2.1,())=some (allM (((ks.take j).flatMap λk=>D.cont Q aI k).filter (ed eJ)) a7.2.2.2.2.1,())/\(allM (((ks.take j).flatMap λk=>D.cont Q aI k).filter (ed eJ)) a7.2.2.2.2.1).length<10^11:=by
 obtain ⟨dH,ds,nQ,rE⟩:=h.low;have rm:=acX Q aI ks j eJ;have au:=OG ao;have af:cP bT (((ks.take j).flatMap λk=>D.cont Q aI k).filter (ed eJ)):=List.Pairwise.sublist rm dH;have ad:=rm.length_le;have L: ∀m∈a7.2.2.2.2.1,ij m:=λm hm=>(h.buf m hm).ok
 have ag: ∀p∈((ks.take j).flatMap λk=>D.cont Q aI k).filter (ed eJ),p.1.length<=140:=λp aT=>by have:=rE p (rm.subset aT);omega
 refine ⟨U0 af L (GD h.few u) h.few (B:=140) u u ag,?_⟩;have:=(Gv af L (GD h.few u) h.few (B:=140) u u ag a7.2.2.2.2.1.length (ca _)).2.1;rw[eu]at this;exact this
theorem abL {Q:cS} {t:ak} (aX:o2 t) {p:bF} {b x:Nat} (aT:od p Q b x): ∀(aI:List bo) (d:aK) (i:Nat),aI.length<=2->ns Q t aI d i->i<b->
  ∀(n B dP:Nat),aI.length<=n->B+20*aI.length<=4000->200<=B->dP*1024^aI.length<=10^11->adG (qX n) p i d (D.cont Q aI i) (u4 Q x aI d i) B dP
 |[],d,i,ao,bB,js=>by
  intro n B dP aN aeM kp lN l e out ad de he ab;have q:Q[i]? =some (inS d t,[],[],[],[],()):=bB.tree;have bR:=aT i _ js q;have au:D.cont Q [] i=inS d t:=by show (Q.getD i ht).1=_;rw[wd q]
  by_cases an:i=x
  ·rw[if_pos an]at bR;refine ⟨112,?_,.inr rfl,λ_=>fc,λ_=>⟨λ_=>an,λ_=>fc⟩⟩;have M:(decide ((112:Int)=0))=false:=rfl;rw[if_neg fc,List.append_nil];simp only[sJ,bR,M,cH,aj]
  ·rw[if_neg an]at bR;refine ⟨e,?_,he,id,λh=>⟨λcy=>absurd h cy,λcy=>absurd cy an⟩⟩;have hlen:=sj d t;have I2:=aX.len;have aeR:dP<=10^11:=by simpa using lN
   have V:=ac6 (qX n) (i:Int) d l p (inS d t) out e u u u;have aY:bG ((((List.length ([]:cC)):Int):Int)=(0:Int)):=rfl;rw[au];simp only[sJ,bR,cf,cK,av,nZ,aY,V]
 |P::aI,d,i,ao,bB,js=>by
  intro n B dP aN aeM kp lN l e out ad de he ab;obtain ⟨ks,sums,buf,q,dT,q5,bw,-⟩:=bB.inner aX;have bR:=aT i _ js q;have m1:aI.length<=1:=by simp at ao;omega
  have au:=AJ (Q:=Q) P aI q;obtain ⟨n,rfl⟩: ∃k,n=k+1:=⟨n-1,by simp at aN;omega⟩;by_cases an:i=x
  ·rw[if_pos an]at bR;refine ⟨112,?_,.inr rfl,λ_=>fc,λ_=>⟨λ_=>.inl an,λ_=>fc⟩⟩;have M:(decide ((112:Int)=0))=false:=rfl;rw[if_neg fc,List.append_nil];simp only[sJ,bR,M,cH,aj]
  ·rw[if_neg an]at bR;simp only[ia]at aeM aN lN;have aC:4^buf.length<=1024:=by have:4^buf.length<=4^5:=Nat.pow_le_pow_right u q5;omega
   have aeS:dP*4^buf.length<=dP*1024:=Nat.mul_le_mul_left _ aC;have auO:dP*4^buf.length*1024^aI.length<=10^11:=by refine Nat.le_trans (gZ _ aeS) ?_;rw[Nat.mul_assoc,show 1024*1024^aI.length=1024^(aI.length+1) by rw[Nat.pow_succ,Nat.mul_comm]];exact lN
   have auP:dP*4^buf.length<=10^11:=by have:dP*4^buf.length*1<=dP*4^buf.length*1024^aI.length:=Nat.mul_le_mul_left _ (Nat.one_le_pow _ _ u);omega
   have kids:=λj (al:j<ks.length)=>abL aX aT aI (List.getD (partsOf d (cM P d)) j b6) (ks.getD j 0) u (dT.good j al) (by have:ks.getD j 0<i:=bw _ (by rw[b5 al];exact dJ al);omega) n (B+4*buf.length) (dP*4^buf.length) u u u auO
   obtain ⟨eJ,ee,j,f1,f2,f3,f4,f5,f6,f7⟩:=abx (qX n) p _ d _ ks (λk=>D.cont Q aI k) (λk s ay=>u4 Q x aI s k ay) B dP dT.kids dT.parts dT.one dT.six dT.span dT.buf dT.few u kp auP (dT.contents aX m1) kids l e ad de he;obtain ⟨g1,g2⟩:=dT.all m1 j eJ;have aeR:l.length<=10^17:=by have:dP*1<=dP*4^buf.length:=Nat.mul_le_mul_left _ (Nat.one_le_pow _ _ u);omega
   have g3:=ac6 (qX (n+1)) (i:Int) d l p _ out ee g2 u aeR;refine ⟨ee,?_,f3,f6,λh=> ?_⟩
   ·have aY:(decide ((((List.length (bJ ks)):Int):Int)=(0:Int)))=false:=bh (by have:=dT.one;rw[fP];omega);have Cp:qX (n+1) (([],cM P d,bJ ks,sums,buf,()),d,l,p,e,())=_:=f1;have avA:(if ee=0 then (D.cont Q (P::aI) i).filter (ed l) else [])=(if ee=0 then (allM (((ks.take j).flatMap λk=>D.cont Q aI k).filter (ed eJ)) buf).filter (ed l) else []):=by
     by_cases j8:ee=0
     ·rw[if_pos j8,if_pos j8,au,f5 j8,eu];exact (acH (low:=low Q aI ks) dT.low.1 (λm hm=>(dT.buf m hm).ok) f2).symm
     ·rw[if_neg j8,if_neg j8]
    rw[avA];simp only[sJ,bR,cf,cK,av,nZ,aY,cH,aj,Cp,g1,g3]
   ·rw[f7 h];have vp:xK Q i=buf:=acS q;constructor
    ·rintro ⟨j,a,b,c⟩;refine .inr ⟨j,by rw[dT.parts];exact a,?_,?_⟩
     ·rw[vp];exact b
     ·rw[vp,qu q a];exact c
    ·rintro (cy |⟨j,a,b,c⟩)
     ·exact absurd cy an
     ·rw[dT.parts]at a;rw[vp]at b c;rw[qu q a]at c;exact ⟨j,a,b,c⟩
theorem acq (id:Int) (d:aK) (l:aw) (p:bF) (found:ak) (ad:found.length<=10^12):
  ye ((found.length:Int),(0:Int),(0:Int),id,d,l,p,(0:Int),found,[],())=some (.inr ((0:Int),id,d,l,p,(0:Int),found,())):=by
 obtain ⟨z,q,rfl⟩:=dG (b:=vf) (λi (s:ak)=>((found.length:Int),(i:Int),(0:Int),id,d,l,p,(0:Int),found,s,())) found.length (λi s=>s=found.take i) (λz=>z=.inr ((0:Int),id,d,l,p,(0:Int),found,())) u
  (λi E s aP=>by left;have M:=e5 (i:=i) (l:=found) u;have ch:bG ((0:Int)<=((i:Nat):Int)):=aW u;have w:=fx (j:=i) u;have room:bG ((s.length+List.length ([found[i]]:List (cp)))*40<=bC):=aW (by rw[ez,aP];simp;omega);refine ⟨s++[found[i]],by rw[aP,eH E],?_⟩;simp only[vf,Jb,Jk,M,ch,bN,aj,bI,b5 E,cf,cK,cH,av,room,w])
  (λs aP=>by have M:=fE found;rw[eu]at aP;exact ⟨_,rfl,by simp only[vf,M,av,aP]⟩) [] aU
 exact q
theorem asK (id:Int) (d:aK) (l:aw) (p:bF) (found:ak) (e:Int) (he:e≠0):
  ye ((found.length:Int),(0:Int),(0:Int),id,d,l,p,e,found,[],())=some (.inl ((0:Int),id,d,l,p,e,[],()))\/
  ye ((found.length:Int),(0:Int),(0:Int),id,d,l,p,e,found,[],())=some (.inr ((0:Int),id,d,l,p,e,[],())):=by
 cases found with
 |nil=>
  right;exact oQ (n:=1) (by rw[kS];omega) (by have M:(decide ((0:Int)<((List.length ([]:ak)):Int)))=false:=rfl;simp only[gi,vf,M,av])
 |cons x found=>
  left;exact oQ (n:=1) (by rw[kS];omega) (by have M:bG ((0:Int)<((List.length (x::found)):Int)):=aW (by rw[ia];omega);have V:(decide (e=0))=false:=bh he;simp only[gi,vf,Jb,M,V,Int.le_refl,cf,bN,aj,cH,cK,av])
def pV (d:aK) (p:cp):Bool:=cl d p.1
theorem adR (d:aK):ed [d]=pV d:=by
 funext p
 simp[ed,pV]
theorem ak4 (d:aK):jm [d]=λk=>cl d k=true:=by
 funext k
 unfold jm;rw[lq]
theorem acG (T:c1) (n:cz) (bR:d9 (T.1,T.2.1,())=some (n,112,())) (d:aK):kQ (T,d,())=some (112,[],()):=by have M:(decide ((112:Int)=0))=false:=rfl;simp only[kQ,qZ,vl,bR,M,cH,aj,cf]
theorem acF (T:c1) (a7:cz) (ag:a7.2.2.1=[]) (bR:d9 (T.1,T.2.1,())=some (a7,0,())) (ad:a7.1.length<10^12) (d:aK):kQ (T,d,())=some (0,a7.1.filter (pV d),()):=by have M:=OX a7.1 [d] ad aU;rw[adR]at M;have aM:(a7.1.filter (pV d)).length<=a7.1.length:=hZ _ _;have V:=acq T.2.1 (([]:N),(([]:N),())) [d] T.1 (a7.1.filter (pV d)) u;have aY:bG ((((a7.2.2.1.length):Int):Int)=(0:Int)):=aW (by rw[ag];rfl);simp only[kQ,qZ,vl,bR,cf,cK,av,nZ,aY,M,V,aj]
def alp (Q:cS) (x:Nat) (P:bo) (aI:List bo) (ks:dB) (buf:cD) (ay:N->Prop):Prop:=
 ∃j,j<ks.length/\sq (kB buf ay) (List.getD (partsOf b6 (cM P b6)) j b6)/\u4 Q x aI (List.getD (partsOf b6 (cM P b6)) j b6) (ks.getD j 0) (kB buf ay)
theorem ab5 {Q:cS} {t:ak} (aX:o2 t) {b x:Nat} {P:bo} {aI:List bo} {a7:cz} {ks:dB} (ao:aI.length<=1) (T:c1) (aT:od T.1 Q b x) (dT:ug Q t P aI b6 a7 ks) (ho: ∀k∈ks,k<b)
  (bR:d9 (T.1,T.2.1,())=some (a7,0,())) (d:aK) (af:d.1.length<=200/\d.2.1.length<=200):
  ∃ee,kQ (T,d,())=some (ee,(if ee=0 then (allM (low Q aI ks) a7.2.2.2.2.1).filter (pV d) else []),())/\so ee/\(ee≠0↔alp Q x P aI ks a7.2.2.2.2.1 (λk=>cl d k=true)):=by
 have bK:jl=999999999999999999999999+1:=rfl;have aC:4^a7.2.2.2.2.1.length<=67108864:=by have:4^a7.2.2.2.2.1.length<=4^13:=Nat.pow_le_pow_right u dT.few;omega
 have lN:1*4^a7.2.2.2.2.1.length*1024^aI.length<=10^11:=by have bd:1024^aI.length<=1024^1:=Nat.pow_le_pow_right u ao;have:=Nat.mul_le_mul (show 1*4^a7.2.2.2.2.1.length<=67108864 by omega) bd;omega
 have afb:=dT.few;have kids:=λj (al:j<ks.length)=>abL aX aT aI (List.getD (partsOf b6 (cM P b6)) j b6) (ks.getD j 0) u (dT.good j al) (by rw[b5 al];exact ho _ (dJ al)) 999999999999999999999999 (200+4*a7.2.2.2.2.1.length) (1*4^a7.2.2.2.2.1.length) u u u lN
 obtain ⟨eJ,ee,j,f1,f2,f3,f4,f5,f6,f7⟩:=abx (qX 999999999999999999999999) T.1 a7 b6 _ ks (λk=>D.cont Q aI k) (λk s ay=>u4 Q x aI s k ay) 200 1 dT.kids dT.parts dT.one dT.six dT.span dT.buf dT.few u u u (dT.contents aX ao) kids [d] 0 aU (λy bu=>by obtain rfl:=gl.1 bu;exact af) (.inl rfl)
 obtain ⟨g1,g2⟩:=dT.all ao j eJ;obtain ⟨F,fj⟩: ∃F,allM (((ks.take j).flatMap λk=>D.cont Q aI k).filter (ed eJ)) a7.2.2.2.2.1=F:=⟨_,rfl⟩;rw[fj]at g1 g2;have M:=OX F [d] u aU;have lR:(F.filter (ed [d])).length<=F.length:=hZ _ _;have aY:(decide ((((a7.2.2.1.length):Int):Int)=(0:Int)))=false:=bh (by have:=dT.one;rw[dT.kids,fP];omega);have Cp:Jq (a7,(([]:N),(([]:N),())),[d],T.1,(0:Int),())=some (((ks.take j).flatMap λk=>D.cont Q aI k).filter (ed eJ),T.1,ee,()):=by unfold Jq;rw[bK];exact f1
 refine ⟨ee,?_,f3,?_⟩
 ·by_cases j8:ee=0
  ·have al:=f5 j8;have awa:=acH (low:=low Q aI ks) (l:=[d]) dT.low.1 (λm hm=>(dT.buf m hm).ok) f2;have auE:F.filter (ed [d])=(allM (low Q aI ks) a7.2.2.2.2.1).filter (pV d):=by rw[<-fj,al,eu,<-adR];exact awa
   have V:=acq T.2.1 (([]:N),(([]:N),())) [d] T.1 (F.filter (ed [d])) u;rw[if_pos j8,<-auE];subst j8;simp only[kQ,qZ,vl,bR,cf,cK,av,nZ,aY,cH,aj,Cp,g1,M,V]
  ·have d0:decide (ee=0)=false:=bh j8;rw[if_neg j8];rcases asK T.2.1 (([]:N),(([]:N),())) [d] T.1 (F.filter (ed [d])) ee j8 with V |V
   ·simp only[kQ,qZ,vl,bR,cf,cK,av,nZ,aY,cH,aj,Cp,g1,M,V,d0]
   ·simp only[kQ,qZ,vl,bR,cf,cK,av,nZ,aY,cH,aj,Cp,g1,M,V,d0]
 ·rw[f7 rfl,ak4];exact Iff.rfl
end D
open Go Go.X
namespace D
theorem akd (x:fh) (h:Av x):o2 (ny x):=by
 have awf: ∀y∈x.1.take 40,rN y:=λy bu=>h.t.1 y (List.mem_of_mem_take bu)
 have hlen:=A4 (x.1.take 40);rw[eE]at hlen;refine ⟨acn _,?_,λp aT=> ?_⟩
 ·unfold ny;omega
 ·obtain ⟨y,bu,rfl⟩:=OV _ p aT;have q:=awf y bu;have:=(OJ y.1 q.1.1 q.1.2).2.1;show (l3 y.1).length<=100;omega
theorem ajT (x:fh) {Q:cS} {root:Nat} (h:hE Q (ny x) (mb x) b6 root):ns Q (ny x) (mb x) b6 root:=by have hm:=P9 x;have af:=Pe _ hm;exact ⟨h,af.2,atZ _ hm,ajt _ hm,akx _ hm⟩
theorem Vm (x:fh):(mb x).length<=2:=(Pe _ (P9 x)).1
theorem U5 (Q:cS):od (mk Q (λ_=>1),()) Q Q.length Q.length:=by intro i n E aN;obtain ⟨q,G⟩:=iJ.1 aN;rw[if_neg u,ar9 E,G]
theorem PK {Q:cS} {t:ak} (aX:o2 t) {x:Nat}: ∀{aI:List bo} {d:aK} {i:Nat} {ay:N->Prop},ns Q t aI d i->u4 Q x aI d i ay->x<=i
 |[],d,i,ay,_,h=>by have h:i=x:=h;omega
 |P::aI,d,i,ay,bB,h=>by
  obtain ⟨ks,sums,buf,q,dT,q5,bw,-⟩:=bB.inner aX;rcases h with h |⟨j,a,b,c⟩
  ·omega
  ·rw[dT.parts]at a;rw[qu q a]at c;have G:=PK aX (dT.good j a) c;have:ks.getD j 0<i:=bw _ (by rw[b5 a];exact dJ a);omega
structure l9 (Q:cS) (t:ak) (aI:List bo) (root:Nat):Prop where
 tab:o2 t
 good:ns Q t aI b6 root
 two:aI.length<=2
 lt:root<Q.length
theorem l9.made (x:fh) (h:Av x) {Q:cS} {root:Nat} (aX:hE Q (ny x) (mb x) b6 root):l9 Q (ny x) (mb x) root:=
 ⟨akd x h,ajT x aX,Vm x,aX.lt⟩
theorem l9.content {Q:cS} {t:ak} {aI:List bo} {root:Nat} (h:l9 Q t aI root):Hl b6 aI.length (cont Q aI root):=h.good.cont h.tab
theorem alu {I:Nat} (h:I<=2):clen I<=36870176:=by have:I=0\/I=1\/I=2:=u;rcases this with rfl |rfl |rfl<;>decide
theorem l9.clen {Q:cS} {t:ak} {aI:List bo} {root:Nat} (h:l9 Q t aI root):(cont Q aI root).length<=36870176:=Nat.le_trans h.content.len (alu h.two)
theorem l9.scanX {Q:cS} {t:ak} {aI:List bo} {root:Nat} (h:l9 Q t aI root) (T:c1) {b x:Nat} (aT:od T.1 Q b x) (L:root<b) (ar:T.2.1=(root:Int)) (d:aK) (af:d.1.length<=200/\d.2.1.length<=200):
  ∃e,kQ (T,d,())=some (e,(if e=0 then (cont Q aI root).filter (pV d) else []),())/\so e/\(e≠0↔u4 Q x aI b6 root (λk=>cl d k=true)):=by
 match aI,h with
 |[],h=>
  have q:Q[root]? =some (inS b6 t,[],[],[],[],()):=h.good.tree;have bR:=aT root _ L q;rw[<-ar]at bR;have au:cont Q [] root=inS b6 t:=by show (Q.getD root ht).1=_;rw[wd q]
  by_cases an:root=x
  ·rw[if_pos an]at bR;exact ⟨112,acG T ht bR d,.inr rfl,⟨λ_=>an,λ_=>fc⟩⟩
  ·rw[if_neg an]at bR;have ad:=sj b6 t;have im:=h.tab.len;refine ⟨0,?_,.inl rfl,⟨λcy=>absurd rfl cy,λcy=>absurd cy an⟩⟩;rw[if_pos rfl,au];exact acF T (inS b6 t,[],[],[],[],()) rfl bR (by show (inS b6 t).length<_;omega) d
 |P::aI,h=>
  obtain ⟨ks,sums,buf,q,dT,q5,bw,-⟩:=h.good.inner h.tab;have bR:=aT root _ L q;rw[<-ar]at bR;have ao:aI.length<=1:=by have:=h.two;simp at this;omega
  by_cases an:root=x
  ·rw[if_pos an]at bR;exact ⟨112,acG T ht bR d,.inr rfl,⟨λ_=>.inl an,λ_=>fc⟩⟩
  ·rw[if_neg an]at bR;obtain ⟨e,M,V,aY⟩:=ab5 h.tab ao T aT dT (λk ag=>by have:=bw k ag;omega) bR d af;refine ⟨e,?_,V,?_⟩
   ·rw[AJ P aI q];exact M
   ·rw[aY];have vp:xK Q root=buf:=acS q;constructor
    ·rintro ⟨j,a,b,c⟩;refine .inr ⟨j,by rw[dT.parts];exact a,by rw[vp];exact b,by rw[vp,qu q a];exact c⟩
    ·rintro (cy |⟨j,a,b,c⟩)
     ·exact absurd cy an
     ·rw[dT.parts]at a;rw[vp]at b c;rw[qu q a]at c;exact ⟨j,a,b,c⟩
theorem l9.scan {Q:cS} {t:ak} {aI:List bo} {root:Nat} (h:l9 Q t aI root) (sh:bi) (d:aK) (af:d.1.length<=200/\d.2.1.length<=200):
  kQ (((D.mk Q (λ_=>1),()),((root:Int),(sh,()))),d,())=some (0,(cont Q aI root).filter (pV d),()):=by
 obtain ⟨e,M,V,aY⟩:=h.scanX ((D.mk Q (λ_=>1),()),((root:Int),(sh,()))) (U5 Q) h.lt rfl d af;have:e=0:=by
  rcases Classical.em (e=0) with cy |cy
  ·exact cy
  ·have:=PK h.tab h.good (aY.1 cy);have:=h.lt;omega
 subst this;rw[if_pos rfl]at M;exact M
theorem atp (l:ak) (ad:l.length<=10^12):zL (l,l,())=some (true,()):=by
 obtain ⟨z,q,rfl⟩:=dG (b:=Eh) (λi (_:H)=>(l,l,(i:Int),())) l.length (λi _=>True) (λz=>z=.inr ()) u
  (λi E _ _=>by left;have M:=e5 (i:=i) (l:=l) u;have ch:bG ((0:Int)<=((i:Nat):Int)):=aW u;have w:=fx (j:=i) u;exact ⟨(),trivial,by simp only[Eh,M,ch,bN,aj,bI,pA,cK,av,w]⟩)
  (λ_ _=>by have M:=fE l;exact ⟨_,rfl,by simp only[Eh,M,av]⟩) () trivial
 have dt:M0 (l,l,(0:Int),())=some (.inr ()):=q;simp only[zL,cf,cK,av,dt]
theorem ak1 {t:ak} {l:cD} (af:cP bT t) (h: ∀m∈l,ij m) (ad:t.length<=1200000) (aN:l.length<=13) {B:Nat} (de:100<=B) (kp:B<=900) (ag: ∀p∈t,p.1.length<=B):
  O4 (t,l,())=some (allM t l,()):=by
 obtain ⟨z,q,rfl⟩:=dG (b:=FL) (λi (s:ak)=>(s,l,(i:Int),())) l.length (λi s=>s=allM t (l.take i)) (λz=>z=.inl (allM t l,())) u
  (λi E s aP=>by left;have M:=e5 (i:=i) (l:=l) u;have ch:bG ((0:Int)<=((i:Nat):Int)):=aW u;have w:=fx (j:=i) u;obtain ⟨dr,a2,a3⟩:=Gv af h (GD aN ad) aN de kp ag i u;rw[<-aP]at dr a2 a3;have V:=(O8 s l[i] (h _ (dJ E)) dr a2 a3).2;refine ⟨apM s l[i],by rw[aP,eH E,Gu],?_⟩;simp only[FL,M,ch,bN,aj,bI,b5 E,V,w])
  (λs aP=>by have M:=fE l;rw[eu]at aP;exact ⟨_,rfl,by simp only[FL,M,av,aP]⟩) t rfl
 have dt:aaS (t,l,(0:Int),())=some (.inl (allM t l,())):=q;simp only[O4,dt]
theorem abC {Q:cS} {t:ak} (aX:o2 t): ∀(aI:List bo) (d:aK) (i:Nat),aI.length<=2->ns Q t aI d i-> ∀n,aI.length+1<=n->
  Ds n ((mk Q (λ_=>1),()),(i:Int),())=some (cont Q aI i,())
 |[],d,i,ao,bB,n,aN=>by
  obtain ⟨n,rfl⟩: ∃k,n=k+1:=⟨n-1,by simp at aN;omega⟩;have q:Q[i]? =some (inS d t,[],[],[],[],()):=bB.tree;obtain ⟨bw,G⟩:=iJ.1 q;have bR:=Ol (Q:=Q) (r:=λ_=>1) bw;rw[G]at bR;have au:cont Q [] i=inS d t:=by show (Q.getD i ht).1=_;rw[wd q]
  have aY:bG ((((List.length ([]:cC)):Int):Int)=(0:Int)):=rfl;rw[au];show Dt _ _=_;simp only[Dt,bR,aY,aj]
 |P::aI,d,i,ao,bB,n,aN=>by
  obtain ⟨n,rfl⟩: ∃k,n=k+1:=⟨n-1,by simp at aN;omega⟩;obtain ⟨ks,sums,buf,q,dT,q5,bw,-⟩:=bB.inner aX;have m1:aI.length<=1:=by simp at ao;omega
  obtain ⟨p7,G⟩:=iJ.1 q;have bR:=Ol (Q:=Q) (r:=λ_=>1) p7;rw[G]at bR;have kids:=λj (al:j<ks.length)=>abC aX aI (List.getD (partsOf d (cM P d)) j b6) (ks.getD j 0) u (dT.good j al) n (by simp at aN;omega)
  have nG:=dT.contents aX m1;have jd:=OG m1;obtain ⟨dH,ds,nQ,rE⟩:=dT.low;obtain ⟨z,g1,rfl⟩:=dG (b:=JW (Ds n)) (λi (s:ak)=>((i:Int),(mk Q (λ_=>1),()),(([],cM P d,bJ ks,sums,buf,()):cz),s,())) ks.length (λi s=>s=(ks.take i).flatMap λk=>cont Q aI k) (λz=>z=.inl ((([],cM P d,bJ ks,sums,buf,()):cz),low Q aI ks,())) (by have:=dT.six;omega)
   (λj al s aP=>by
    left;have M:bG (((j:Nat):Int)<((List.length (bJ ks)):Int)):=aW (by rw[fP];omega);have ch:bG ((0:Int)<=((j:Nat):Int)):=aW u;have w:=fx (j:=j) (by have:=dT.six;omega);have V:=kids j al;rw[b5 al]at V;have au:=(nG j al).2;rw[b5 al]at au;have afG:s.length<=1200000:=by
     have:=(acX Q aI ks j [b6]).length_le;have rm:((ks.take j).flatMap λk=>cont Q aI k).length<=(low Q aI ks).length:=by
      unfold low;have:ks=ks.take j++ks.drop j:=(List.take_append_drop j ks).symm
      conv=>rhs;rw[this]
      rw[List.flatMap_append,et];omega
     rw[aP];omega
    have room:bG ((s.length+List.length (cont Q aI ks[j]))*40<=bC):=aW (by rw[ez];omega);refine ⟨s++cont Q aI ks[j],by rw[aP,eH al,List.flatMap_append];simp,?_⟩;simp only[JW,M,ch,bN,aj,bI,lf al,V,room,w])
   (λs aP=>by have M:(decide (((ks.length:Nat):Int)<((List.length (bJ ks)):Int)))=false:=bh (by rw[fP];omega);rw[eu]at aP;refine ⟨_,rfl,?_⟩;simp only[JW,M,av,aP];rfl) [] aU
  have j7:WY (Ds n) ((0:Int),(mk Q (λ_=>1),()),(([],cM P d,bJ ks,sums,buf,()):cz),[],())=some (.inl ((([],cM P d,bJ ks,sums,buf,()):cz),low Q aI ks,())):=g1;have aY:(decide ((((List.length (bJ ks)):Int):Int)=(0:Int)))=false:=bh (by have:=dT.one;rw[fP];omega);have bp:=ak1 dH (λm hm=>(dT.buf m hm).ok) u dT.few (B:=140) u u (λp aT=>by have:=rE p aT;omega);rw[AJ P aI q];show Dt _ _=_;simp only[Dt,bR,aY,av,j7,bp]
theorem l9.all {Q:cS} {t:ak} {aI:List bo} {root:Nat} (h:l9 Q t aI root) (sh:bi):acC (((D.mk Q (λ_=>1),()),((root:Int),(sh,()))),())=some (cont Q aI root,()):=by have:=abC h.tab aI b6 root h.two h.good jl (by have:=h.two;rw[kS];omega);have this:Zz ((D.mk Q (λ_=>1),()),(root:Int),())=some (cont Q aI root,()):=this;simp only[acC,this]
theorem Pn (C:ak):C.filter (pV b6)=C:=by rw[List.filter_eq_self];intro p aT;exact fW.2 ⟨by cases p.1<;>rfl,.inl rfl⟩
def o3 (s:cb) (k:Nat) (I:Int):cb:=s.set k ((s.getD k dj).1,((s.getD k dj).2.1,((s.getD k dj).2.2.1+I,(s.getD k dj).2.2.2)))
def kC (I:Int) (ks:dB) (s:cb):cb:=ks.foldl (λs k=>o3 s k I) s
theorem aby (s:cb) (k:Nat) (I:Int):(o3 s k I).length=s.length:=by simp[o3]
theorem GN (I:Int) (ks:dB): ∀s:cb,(kC I ks s).length=s.length:=by
 unfold kC
 induction ks with
 |nil=>intro s;rfl
 |cons k ks aO=>intro s;rw[List.foldl_cons,aO,aby]
theorem acs (I:Int) (ks:dB) (k:Nat) (s:cb):kC I (ks++[k]) s=o3 (kC I ks s) k I:=by unfold kC;rw[List.foldl_append];rfl
theorem wm {α:Type} {l:List α} {i:Nat} {v I:α} (h:i<l.length):List.getD (l.set i v) i I=v:=by rw[b5 (by rw[List.length_set];exact h)];simp
theorem tz {α:Type} {l:List α} {i j:Nat} {v I:α} (h:i≠j):List.getD (l.set i v) j I=l.getD j I:=by unfold List.getD;rw[List.getElem?_set_ne h]
theorem ab9 {s:cb} {k i:Nat} {I:Int} (h:k≠i):List.getD (o3 s k I) i dj=s.getD i dj:=tz h
theorem atv {s:cb} {k:Nat} {I:Int} (h:k<s.length):List.getD (o3 s k I) k dj=((s.getD k dj).1,((s.getD k dj).2.1,((s.getD k dj).2.2.1+I,(s.getD k dj).2.2.2))):=wm h
theorem sk (I:Int) {i:Nat}: ∀(ks:dB) (s:cb),i∉ks->List.getD (kC I ks s) i dj=s.getD i dj
 |[],s,_=>rfl
 |k::ks,s,h=>by
  have q:k≠i:=λe=>h (by rw[e];exact gL)
  have:=sk I ks (o3 s k I) (λhm=>h (gY _ hm));show List.getD (kC I ks (o3 s k I)) i dj=_;rw[this,ab9 q]
theorem Po (I:Int) {i:Nat}: ∀(ks:dB) (s:cb),ks.Nodup->i∈ks->i<s.length->
  List.getD (kC I ks s) i dj=((s.getD i dj).1,((s.getD i dj).2.1,((s.getD i dj).2.2.1+I,(s.getD i dj).2.2.2)))
 |k::ks,s,aN,h,E=>by
  have RM:=List.nodup_cons.1 aN;show List.getD (kC I ks (o3 s k I)) i dj=_;rcases fe.1 h with rfl |h
  ·rw[sk I ks _ RM.1,atv E]
  ·have q:k≠i:=λe=>RM.1 (by rw[e];exact h)
   rw[Po I ks _ RM.2 h (by rw[aby];exact E),ab9 q]
theorem Od {p:cb} {i:Nat} (h:i<p.length):oP ((p,()),(i:Int),())=some ((p.getD i dj).1,()):=by rw[arW h,b5 h]
def put (p:cb) (id:Nat) (d:iZ):cb:=if id=p.length then p++[d] else p.set id d
def PZ (p:cb) (id:Nat):Prop:=(∀i,i<id->i<p.length/\(p.getD i dj).1=true)/\(id=p.length\/(id<p.length/\(p.getD id dj).1=false))
theorem ajX {p:cb} {id:Nat} (h:PZ p id) (ad:p.length<=1000):Ck (p,())=some ((if id=p.length then (-1:Int) else (id:Int)),()):=by
 have hle:id<=p.length:=by rcases h.2 with h |h<;>omega
 obtain ⟨z,q,G⟩:=dG (b:=xU) (λi (_:H)=>(p,(p.length:Int),(i:Int),())) id (λ_ _=>True) (λz=>(id=p.length/\z=.inr ())\/(id≠p.length/\z=.inl ((id:Int),()))) u
  (λi E _ _=>by left;obtain ⟨W,aC⟩:=h.1 i E;have M:=e5 (i:=i) (l:=p) u;have V:=dZ i;have aY:=fx (j:=i) u;have Q6:(p.getD i (false,(false,((0:Int),((([]:List (cp)),(([]:bo),(([]:List (Int)),(([]:List (eV)),(([]:List (bE)),()))))),()))))).1=true:=aC;exact ⟨(),trivial,by simp only[xU,M,V,aj,av,bN,bI,Gn,Q6,cK,aY]⟩)
  (λ_ _=>by
   rcases h.2 with W |⟨W,aC⟩
   ·have M:(decide (((id:Nat):Int)<((p.length):Int)))=false:=bh u;exact ⟨_,.inl ⟨W,rfl⟩,by simp only[xU,M,av]⟩
   ·have M:=e5 (i:=id) (l:=p) u;have V:=dZ id;have Q6:(p.getD id (false,(false,((0:Int),((([]:List (cp)),(([]:bo),(([]:List (Int)),(([]:List (eV)),(([]:List (bE)),()))))),()))))).1=false:=aC;exact ⟨_,.inr ⟨u,rfl⟩,by simp only[xU,M,V,aj,bN,bI,Gn,Q6,cH]⟩) () trivial
 have dt:QT (p,(p.length:Int),0,())=some z:=q;rcases G with ⟨W,rfl⟩|⟨W,rfl⟩
 ·rw[if_pos W];simp only[Ck,dt]
 ·rw[if_neg W];simp only[Ck,dt]
theorem ad5 {p:cb} {id:Nat} {d:iZ} (h:id<=p.length):(put p id d).length=if id=p.length then p.length+1 else p.length:=by unfold put;split<;>simp
theorem Vb {p:cb} {id i:Nat} {d:iZ} (h:i≠id) (E:i<p.length):List.getD (put p id d) i dj=p.getD i dj:=by
 unfold put;split
 ·rw[NT E]
 ·rw[tz (Ne.symm h)]
theorem ali {p:cb} {id:Nat} {d:iZ} (h:id<=p.length):List.getD (put p id d) id dj=d:=by
 unfold put;split
 ·rename_i e;exact F0 e
 ·rw[wm u]
theorem alg {p:cb} {n:cz} {ks:dB} {id:Nat} (ag:n.2.2.1=bJ ks) (hu: ∀k∈ks,k<p.length/\(p.getD k dj).1=true) (ar: ∀k∈ks,0<=(p.getD k dj).2.2.1/\(p.getD k dj).2.2.1<=10^6) (aN:ks.Nodup) (ad:ks.length<=1000) (aT:p.length<=900) (hid:PZ p id):
  kR ((p,()),n,())=some ((kC 1 ks (put p id (true,(false,((1:Int),(n,()))))),()),(id:Int),(0:Int),()):=by
 have hle:id<=p.length:=by rcases hid.2 with h |h<;>omega
 have IL: ∀k∈ks,k≠id:=by
  intro k ag e;obtain ⟨q,G⟩:=hu k ag;rcases hid.2 with h |⟨h,W⟩
  ·omega
  ·rw[e,W]at G;cases G
 obtain ⟨P,hR⟩: ∃P,put p id (true,(false,((1:Int),(n,()))))=P:=⟨_,rfl⟩;have azY:p.length<=P.length:=by rw[<-hR,ad5 hle];split<;>omega
 have yM:Oc (bJ ks,((bJ ks).length:Int),0,(p,()),n,[],())=some (.inr ((p,()),n,[],())):=by
  obtain ⟨z,q,rfl⟩:=dG (b:=EJ) (λi (_:H)=>(bJ ks,((bJ ks).length:Int),(i:Int),(p,()),n,[],())) ks.length (λ_ _=>True) (λz=>z=.inr ((p,()),n,[],())) u
   (λi E _ _=>by left;have M:bG (((i:Nat):Int)<((List.length (bJ ks)):Int)):=aW (by rw[fP];omega);have V:=dZ i;have aY:=fx (j:=i) u;obtain ⟨q,G⟩:=hu _ (dJ E);exact ⟨(),trivial,by simp only[EJ,M,V,aj,bN,bI,lf E,Od q,G,cK,av,aY]⟩)
   (λ_ _=>by have M:(decide (((ks.length:Nat):Int)<((List.length (bJ ks)):Int)))=false:=bh (by rw[fP];omega);exact ⟨_,rfl,by simp only[EJ,M,av]⟩) () trivial
  exact q
 have dH:aig ((id:Int),bJ ks,((bJ ks).length:Int),0,[],P,())=some (.inl ((id:Int),[],kC 1 ks P,())):=by
  obtain ⟨z,q,G⟩:=dG (b:=EK) (λi (l:cb)=>((id:Int),bJ ks,((bJ ks).length:Int),(i:Int),[],l,())) ks.length (λi l=>l=kC 1 (ks.take i) P) (λz=>z=.inl ((id:Int),[],kC 1 ks P,())) u
   (λi E l ad=>by
    left;have CR:=dJ E;obtain ⟨q,G⟩:=hu _ CR;obtain ⟨ah,aS⟩:=ar _ CR;have RF:l.length=P.length:=by rw[ad,GN]
    have M:bG (((i:Nat):Int)<((List.length (bJ ks)):Int)):=aW (by rw[fP];omega);have V:=dZ i;have aY:=fx (j:=i) u;have bp:bG ((0:Int)<=((ks[i]:Nat):Int)):=aW u;have cV:bG (((ks[i]:Nat):Int)<(l.length:Int)):=aW u;have mu:ks[i]∉ks.take i:=λhm=>by have G:=eH E;have dL:(ks.take (i+1)).Nodup:=aN.sublist (List.take_sublist _ _);rw[G,List.nodup_append]at dL;exact dL.2.2 _ hm _ aU rfl
    have bB:l.getD ks[i] dj=p.getD ks[i] dj:=by rw[ad,sk 1 _ _ mu,<-hR,Vb (IL _ CR) q]
    have w:i64.wrap ((l.getD ks[i] dj).2.2.1+1)=(l.getD ks[i] dj).2.2.1+1:=by rw[bB,cQ u]
    refine ⟨o3 l ks[i] 1,by rw[eH E,acs,<-ad],?_⟩;have aq:i64.wrap ((l.getD ks[i] (false,(false,((0:Int),((([]:List (cp)),(([]:bo),(([]:List (Int)),(([]:List (eV)),(([]:List (bE)),()))))),()))))).2.2.1+1)=(l.getD ks[i] dj).2.2.1+1:=w;simp only[EK,M,V,aj,bN,bI,lf E,bp,cV,aq,aY];rfl)
   (λl ad=>by subst ad;have M:(decide (((ks.length:Nat):Int)<((List.length (bJ ks)):Int)))=false:=bh (by rw[fP];omega);exact ⟨_,rfl,by simp only[EK,M,av,eu]⟩) P rfl
  subst G;exact q
 have M:=ajX hid u;have V:=Ze p u;by_cases ao:id=p.length
 ·rw[if_pos ao]at M;have bj:bG ((-1:Int)<(0:Int)):=rfl;have ba:(decide (((p.length):Int)>=4096))=false:=bh u;have c3:bG ((p.length+List.length ([dj]:List (iZ)))*136<=bC):=aW (by rw[ez];simp;omega);have gd:bG ((0:Int)<=((p.length):Int)):=aW u;have c5:bG (((p.length):Int)<(List.length (p++[dj]):Int)):=aW (by simp;omega);have nA:List.set (p++[dj]) p.length (true,(false,((1:Int),(n,()))))=P:=by rw[<-hR];unfold put;rw[if_pos ao,List.set_append_right _ _ (ca _)];simp
  rw[hR];rw[ao]at dH ⊢;simp only[kR,ag,yM,M,bj,aj,acl,ba,av,V,cf,c3,F4,gd,c5,bN,bI,nA,dH]
 ·rw[if_neg ao]at M;have bj:(decide (((id:Nat):Int)<(0:Int)))=false:=bh u;have ba:(decide (((id:Nat):Int)>=4096))=false:=bh u;have c3:(decide (((id:Nat):Int)=((p.length):Int)))=false:=bh u;have gd:bG ((0:Int)<=((id:Nat):Int)):=aW u;have c5:bG (((id:Nat):Int)<(p.length:Int)):=aW u;have nA:List.set p id (true,(false,((1:Int),(n,()))))=P:=by rw[<-hR];unfold put;rw[if_neg ao]
  rw[hR];simp only[kR,ag,yM,M,bj,aj,acl,ba,av,V,c3,F4,gd,c5,bN,bI,nA,dH]
theorem ajW {p:cb} {root:Nat} {ks:dB} (ar:root<p.length) (hu:(p.getD root dj).1=true) (G:(p.getD root dj).2.2.1=1) (ag:(p.getD root dj).2.2.2.1.2.2.1=bJ ks)
  (ho: ∀k∈ks,k<p.length/\2<=(p.getD k dj).2.2.1/\(p.getD k dj).2.2.1<=10^6) (ct:root∉ks) (aN:ks.Nodup) (ad:ks.length<=1000) (aT:p.length<=1000):
  nb ((p,()),(root:Int),())=some ((kC (-1) ks.reverse (p.set root dj),()),(0:Int),()):=by
 have kV:=Od ar;rw[hu]at kV;have bj:=Ze p u;obtain ⟨bx,IC⟩: ∃bx,p.set root dj=bx:=⟨_,rfl⟩;have auQ:bx.length=p.length:=by rw[<-IC,List.length_set]
 have M:bG ((((List.length ([(root:Int)]:cC)):Int):Int)>(0:Int)):=rfl;have du:i64.wrap (((List.length ([(root:Int)]:cC)):Int)-1)=0:=rfl;have aY:bG ((0:Int)<((List.length ([(root:Int)]:cC)):Int)):=rfl;have Ql:bG ((0:Int)<=((List.length ([(root:Int)]:cC)):Int)):=rfl;have g1:List.getD ([(root:Int)]:cC) 0 0=(root:Int):=rfl;have bp:=dZ root;have cV:bG ((root:Int)<(p.length:Int)):=aW u;have dc:i64.wrap ((p.getD root dj).2.2.1-1)=0:=by rw[G];rfl
 have first:wh ([],[(root:Int)],p,())=some (.inl ([],bJ ks,bx,())):=by
  have Ts:i64.wrap ((p.getD root (false,(false,((0:Int),((([]:List (cp)),(([]:bo),(([]:List (Int)),(([]:List (eV)),(([]:List (bE)),()))))),()))))).2.2.1-1)=0:=dc;have eA:(p.getD root (false,(false,((0:Int),((([]:List (cp)),(([]:bo),(([]:List (Int)),(([]:List (eV)),(([]:List (bE)),()))))),()))))).2.2.2.1.2.2.1=bJ ks:=ag;have g2: ∀v I:iZ,List.getD (p.set root v) root I=v:=λv I=>wm ar
  have da:(decide ((0:Int)>(0:Int)))=false:=rfl;have gr:bG ((List.length ([]:cC)+List.length (bJ ks))*8<=bC):=aW (by rw[ez,fP];simp;omega);have g3: ∀v:iZ,(p.set root v).set root dj=bx:=λv=>by rw[<-IC];exact List.set_set _
  have auv: ∀v:iZ,(p.set root v).set root (false,(false,((0:Int),((([]:List (cp)),(([]:bo),(([]:List (Int)),(([]:List (eV)),(([]:List (bE)),()))))),()))))=bx:=g3;simp only[wh,M,aj,du,aY,Ql,Int.le_refl,cf,bN,Int.toNat_zero,g1,bp,cV,bI,Ts,g2,da,av,eA,gr,auv,List.take_zero,List.nil_append]
 have yr:NH ([],[(root:Int)],p,())=some (.inl ([],kC (-1) ks.reverse bx,())):=by
  obtain ⟨z,q,G⟩:=dG (b:=wh) (λi (s:cb)=>([],(if i=0 then [(root:Int)] else bJ (ks.take (ks.length+1-i))),s,())) (ks.length+1) (λi s=>if i=0 then s=p else s=kC (-1) (ks.reverse.take (i-1)) bx)
   (λz=>z=.inl ([],kC (-1) ks.reverse bx,())) u
   (λi E s aP=>by
    left;cases i with
    |zero=>
     rw[if_pos rfl]at aP;subst aP;refine ⟨bx,?_,?_⟩
     ·rw[if_neg u];rfl
     ·rw[if_pos rfl,if_neg u,show ks.length+1-(0+1)=ks.length by omega,eu];exact first
    |succ i=>
    rw[if_neg u]at aP;rw[if_neg u,if_neg u];have E:i<ks.length:=u;rw[show ks.length+1-(i+1)=ks.length-i by omega];rw[show i+1-1=i by omega]at aP;obtain ⟨j,al⟩: ∃j,ks.length-i=j+1:=⟨ks.length-i-1,u⟩;have lS:j<ks.length:=u;rw[al];have q9:i<ks.reverse.length:=by rw[List.length_reverse];exact E
    have I0:ks.reverse[i]=ks[j]:=by rw[List.getElem_reverse];congr 1;omega
    have jJ:bJ (ks.take (j+1))=bJ (ks.take j)++[((ks[j]:Nat):Int)]:=by unfold bJ;rw[eH lS,List.map_append];rfl
    have yB:(bJ (ks.take (j+1))).length=j+1:=by rw[fP,eE];omega
    have gR:=dJ lS;obtain ⟨bf,a6,cq⟩:=ho _ gR;have p6:ks[j]≠root:=λh=>ct (h▸gR)
    have av1:ks.reverse.Nodup:=(List.reverse_perm ks).nodup_iff.2 aN;have mu:ks[j]∉ks.reverse.take i:=λhm=>by have dL:(ks.reverse.take (i+1)).Nodup:=av1.sublist (List.take_sublist _ _);rw[eH q9,I0,List.nodup_append]at dL;exact dL.2.2 _ hm _ aU rfl
    have afG:s.length=p.length:=by rw[aP,GN,auQ]
    have bB:s.getD ks[j] dj=p.getD ks[j] dj:=by rw[aP,sk _ _ _ mu,<-IC,tz (Ne.symm p6)]
    have M:bG ((((List.length (bJ (ks.take (j+1)))):Int):Int)>(0:Int)):=aW (by rw[yB];omega);have du:i64.wrap (((List.length (bJ (ks.take (j+1)))):Int)-1)=(j:Int):=by rw[yB,cQ u];omega
    have V:=dZ j;have aY:bG ((j:Int)<((List.length (bJ (ks.take (j+1)))):Int)):=aW (by rw[yB];omega);have Ql:bG ((j:Int)<=((List.length (bJ (ks.take (j+1)))):Int)):=aW (by rw[yB];omega);have g1:List.getD (bJ (ks.take (j+1))) j 0=((ks[j]:Nat):Int):=by rw[jJ];exact F0 (by rw[fP,eE];omega)
    have bp:bG ((0:Int)<=((ks[j]:Nat):Int)):=aW u;have cV:bG (((ks[j]:Nat):Int)<(s.length:Int)):=aW u;have dc:i64.wrap ((s.getD ks[j] dj).2.2.1-1)=(s.getD ks[j] dj).2.2.1+(-1):=by rw[bB,cQ u];omega
    have Ts:i64.wrap ((s.getD ks[j] (false,(false,((0:Int),((([]:List (cp)),(([]:bo),(([]:List (Int)),(([]:List (eV)),(([]:List (bE)),()))))),()))))).2.2.1-1)=(s.getD ks[j] dj).2.2.1+(-1):=dc;have g2: ∀v I:iZ,List.getD (s.set ks[j] v) ks[j] I=v:=λv I=>wm u
    have da:bG ((s.getD ks[j] dj).2.2.1+(-1)>(0:Int)):=aW (by rw[bB];omega);have awu:List.take j (bJ (ks.take (j+1)))=bJ (ks.take j):=by rw[jJ,List.take_append_of_le_length (by rw[fP,eE];omega),ic (by rw[fP,eE];omega)]
    refine ⟨o3 s ks[j] (-1),by rw[if_neg u,show i+1+1-1=i+1 by omega,eH q9,I0,acs,<-aP],?_⟩;rw[show ks.length+1-(i+1+1)=j by omega];simp only[wh,M,aj,du,V,aY,Ql,bN,bI,g1,bp,cV,Ts,awu,g2,da];rfl)
   (λs aP=>by rw[if_neg u,show ks.length+1-1=ks.length by omega,ic (by rw[List.length_reverse];exact ca _)]at aP;rw[if_neg u,show ks.length+1-(ks.length+1)=0 by omega];have M:(decide ((((List.length (bJ (ks.take 0))):Int):Int)>(0:Int)))=false:=rfl;exact ⟨_,rfl,by simp only[wh,M,av,aP]⟩) p (by rw[if_pos rfl])
  rw[if_pos rfl]at q;rw[G]at q;exact q
 rw[IC];simp only[nb,kV,cK,av,bj,yr]
def jS (Q:cS) (x:Nat):List bo->aK->Nat->Prop
 |[],_,i=>i=x
 |P::aI,d,i=>i=x\/ ∃j,j<(partsOf d (cM P d)).length/\jS Q x aI (List.getD (partsOf d (cM P d)) j b6) (Hy Q i j)
theorem jS.root (Q:cS) (aI:List bo) (d:aK) (i:Nat):jS Q i aI d i:=by
 cases aI with
 |nil=>exact rfl
 |cons P aI=>exact .inl rfl
theorem Vg {Q:cS} {t:ak} (aX:o2 t) {x:Nat}: ∀{aI:List bo} {d:aK} {i:Nat},ns Q t aI d i->jS Q x aI d i->x<=i
 |[],d,i,_,h=>by have h:i=x:=h;omega
 |P::aI,d,i,bB,h=>by
  obtain ⟨ks,sums,buf,q,dT,q5,bw,-⟩:=bB.inner aX;rcases h with h |⟨j,a,c⟩
  ·omega
  ·rw[dT.parts]at a;rw[qu q a]at c;have G:=Vg aX (dT.good j a) c;have:ks.getD j 0<i:=bw _ (by rw[b5 a];exact dJ a);omega
theorem jS.kids {Q:cS} {t:ak} (aX:o2 t) {x:Nat}: ∀{aI:List bo} {d:aK} {i:Nat},ns Q t aI d i->jS Q x aI d i->
  ∃n ks,Q[x]? =some n/\n.2.2.1=bJ ks/\ks.length<=6/\ ∀k∈ks,jS Q k aI d i
 |[],d,i,bB,h=>by have h:i=x:=h;subst h;exact ⟨_,[],bB.tree,rfl,aU,aU⟩
 |P::aI,d,i,bB,h=>by
  obtain ⟨ks,sums,buf,q,dT,q5,bw,-⟩:=bB.inner aX;have kid: ∀k j,∀a:j<ks.length,jS Q k aI (List.getD (partsOf d (cM P d)) j b6) (ks.getD j 0)->jS Q k (P::aI) d i:=λk j a ag=>
   .inr ⟨j,by rw[dT.parts];exact a,by rw[qu q a];exact ag⟩
  rcases h with rfl |⟨j,a,c⟩
  ·refine ⟨_,ks,q,rfl,dT.six,λk ag=> ?_⟩;obtain ⟨j,al,rfl⟩:=List.mem_iff_getElem.1 ag;refine kid _ j al ?_;rw[b5 al];exact jS.root _ _ _ _
  ·rw[dT.parts]at a;rw[qu q a]at c;obtain ⟨n,awS,M,V,aY,bp⟩:=jS.kids aX (dT.good j a) c;exact ⟨n,awS,M,V,aY,λk ag=>kid k j a (bp k ag)⟩
theorem adQ {Q:cS} {t:ak} (aX:cT t) {p:bF} {b x:Nat} (aT:od p Q b x) (ae2:b<=900): ∀(aI:List bo) (d:aK) (i:Nat) (f:Nat) (nc:Nat),(∀s∈aI,s.length<=5)->(∀P∈aI,P.Pairwise λa b=>Op.bytesLess a b=true)->q1 aI d=true->hE Q t aI d i->i<b->aI.length+1<=f->aI.length+1<=nc->nc<=64->
  ∃v:Int,bv f (p,(i:Int),d,(nc:Int),())=some (v,())/\(jS Q x aI d i->v=0)/\(¬jS Q x aI d i->v=((aI.length+1:Nat):Int))
 |_,_,_,0,_,_,_,_,_,_,h,_,_=>u
 |[],d,i,f+1,nc,_,_,_,b9,js,_,G,W=>by
  have M:=aT i _ js b9;by_cases an:i=x
  ·rw[if_pos an]at M;have ch:(decide ((112:Int)=(0:Int)))=false:=rfl;refine ⟨0,?_,λ_=>rfl,λh=>absurd an h⟩;show k7 (bv f) _=_;simp only[k7,M,ch,cK,cH,aj,av,qg]
  ·rw[if_neg an]at M;have aY:(decide ((nc:Int)=(0:Int)))=false:=bh (by have:([]:List bo).length=0:=rfl;omega);have bp:=as6 aX d;refine ⟨_,?_,λh=>absurd h an,λ_=>rfl⟩;show k7 (bv f) _=_;simp only[k7,M,cf,cK,cH,aj,aY,bp,qg,av,nZ];rfl
 |P::aI,d,i,f+1,nc,aP,C5,bB,⟨ks,sums,buf,q,G,W,aC,bd,bD,dU,gB⟩,js,aM,avS,jf=>by
  have M:=aT i _ js q;by_cases an:i=x
  ·rw[if_pos an]at M;have ch:(decide ((112:Int)=(0:Int)))=false:=rfl;refine ⟨0,?_,λ_=>rfl,λh=>absurd (.inl an) h⟩;show k7 (bv f) _=_;simp only[k7,M,ch,cK,cH,aj,av,qg]
  rw[if_neg an]at M;have hlen:(P::aI).length=aI.length+1:=rfl;have jX:=ua P d;have hR:=aP P gL;have hU: ∀s∈aI,s.length<=5:=λs hU=>aP s (gY _ hU)
  have pn: ∀s∈aI,s.Pairwise λa b=>Op.bytesLess a b=true:=λs hU=>C5 s (gY _ hU)
  have aY:(decide ((nc:Int)=(0:Int)))=false:=bh u;have ea: ∀s∈sums,jR s:=by intro s C1;obtain ⟨j,al,rfl⟩:=List.mem_iff_getElem.1 C1;obtain ⟨bj,n,ba,c3⟩:=gB j u;obtain ⟨dq,bU,d1,d2,d3,d4⟩:=Bg aX hU bj;obtain rfl:=eY (ba.symm.trans d1);rw[b5 al]at c3;have:=eY (c3.symm.trans d3);have s7:sums[j]=bU:=congrArg Prod.fst this;rw[s7];exact d4
  have bp:=aa3 (piv:=cM P d) (ks:=ks) (sums:=sums) (buf:=buf) (d:=d) G W u (adW (C5 P gL) d) (λk ag=>by have:=bd k ag;omega) ea dU u;obtain ⟨fJ,fT⟩:=OI bB;have ju:=(GV d (cM P d) u).2;have Rb:jS Q x (P::aI) d i↔ ∃j,j<(partsOf d (cM P d)).length/\jS Q x aI (List.getD (partsOf d (cM P d)) j b6) (ks.getD j 0):=by
   constructor
   ·rintro (h |⟨j,a,b⟩)
    ·exact absurd h an
    ·refine ⟨j,a,?_⟩;rw[qu q u]at b;exact b
   ·rintro ⟨j,a,b⟩;refine .inr ⟨j,a,?_⟩;rw[qu q u];exact b
  obtain ⟨parts,ri⟩: ∃p,partsOf d (cM P d)=p:=⟨_,rfl⟩;have cV:=NG (n:=([],cM P d,bJ ks,sums,buf,())) (d:=d) (PT u) fJ;rw[ri]at cV fT ju Rb;have da:(decide ((((List.length (bJ ks)):Int):Int)=(0:Int)))=false:=bh (by rw[fP];omega);obtain ⟨a7,jo⟩: ∃a7:cz,([],cM P d,bJ ks,sums,buf,())=a7:=⟨_,rfl⟩;have s0:a7.2.2.1=bJ ks:=by rw[<-jo]
  have Rf:a7.2.2.2.1=sums:=by rw[<-jo]
  rw[jo]at M bp cV;obtain ⟨z,g1,bK⟩:=dG (b:=qf (bv f)) (λj (_:H)=>((nc:Int),((if j=0 then 0 else aI.length+1:Nat):Int),(parts.length:Int),(j:Int),p,a7,parts,())) parts.length (λj _=> ∀gh,gh<j-> ¬jS Q x aI (parts.getD gh b6) (ks.getD gh 0))
   (λz=>(z=.inl ((0:Int),())/\ ∃j,j<parts.length/\jS Q x aI (parts.getD j b6) (ks.getD j 0))\/(z=.inr (((aI.length+1:Nat):Int),())/\ ∀j,j<parts.length-> ¬jS Q x aI (parts.getD j b6) (ks.getD j 0))) u
   (λj al _ RT=>by
    have lS:j<ks.length:=u;have mo:j<sums.length:=u;obtain ⟨bj,n,ba,c3⟩:=gB j lS;rw[ri]at bj;rw[b5 al]at bj;have ho:ks.getD j 0=ks[j]:=b5 lS;rw[ho]at bj ba;have yq:ks[j]<b:=by have:=bd _ (dJ lS);omega
    obtain ⟨v,aO,v0,v1⟩:=adQ aX aT ae2 aI parts[j] ks[j] f (nc-1) hU pn (fT _ (dJ al)) bj yq u u u;have du:i64.wrap ((nc:Int)-1)=((nc-1:Nat):Int):=by rw[cQ u];omega
    have M:=e5 (i:=j) (l:=parts) u;have gA:bG (((j:Nat):Int)<(parts.length:Int)):=M;have V:=dZ j;have gr:bG (((j:Nat):Int)<((List.length (bJ ks):Nat):Int)):=aW (by rw[fP];omega);by_cases CN:jS Q x aI parts[j] ks[j]
    ·right;have a8:=v0 CN;subst a8;refine ⟨_,.inl ⟨rfl,j,al,by rw[b5 al,ho];exact CN⟩,?_⟩;simp only[qf,s0,M,V,gr,aj,bN,bI,b5 al,lf lS,du,aO,cf,cK,av]
    ·left;have a8:=v1 CN;subst a8;obtain ⟨dq,bU,d1,d2,d3,d4⟩:=Bg aX hU bj;obtain rfl:=eY (ba.symm.trans d1);rw[b5 mo]at c3;have p9:sums[j]=bU:=congrArg Prod.fst (eY (c3.symm.trans d3));have f1:=aT _ _ yq ba;rw[if_neg (λh=>CN (by rw[h];exact jS.root _ _ _ _))]at f1;have kH:bG (((j:Nat):Int)<((sums.length:Nat):Int)):=aW u;have nD:=e7 j u;have vg:(decide (((aI.length+1:Nat):Int)=(0:Int)))=false:=bh u;have vr:yP (bv f) ((nc:Int),(j:Int),((aI.length+1:Nat):Int),(parts.length:Int),(j:Int),p,a7,parts,())=some (.inl ((nc:Int),((aI.length+1:Nat):Int),(parts.length:Int),((j+1:Nat):Int),p,a7,parts,())):=by simp only[yP,s0,Rf,V,gr,kH,aj,bN,bI,lf lS,f1,d2,b5 mo,p9,pA,cK,av,nD]
     refine ⟨(),λgh iF=> ?_,?_⟩
     ·by_cases avD:gh=j
      ·subst avD;rw[b5 al,ho];exact CN
      ·exact RT gh u
     rw[if_neg (by omega: ¬j+1=0)];simp only[qf,s0,M,V,gr,aj,bN,bI,b5 al,lf lS,du,aO,vg,cH];by_cases bW:j=0
     ·have qY:(decide (((j:Nat):Int)>(0:Int)))=false:=bh u;simp only[qY,av,vr]
     ·have qY:bG (((j:Nat):Int)>(0:Int)):=aW u;rw[if_neg bW];simp only[qY,aj,cf,cK,av,vr])
   (λ_ RT=>by have M:=fE parts;have rh: ¬parts.length=0:=u;exact ⟨_,.inr ⟨rfl,RT⟩,by simp only[qf,M,av];rw[if_neg rh]⟩) () (λgh h=>absurd h u)
  have j7:DZ (bv f) ((nc:Int),(0:Int),(parts.length:Int),(0:Int),p,a7,parts,())=some z:=g1;have gr:(decide ((((a7.2.2.1.length):Int):Int)=(0:Int)))=false:=by rw[s0];exact da
  rcases bK with ⟨rfl,bK⟩|⟨rfl,bK⟩
  ·refine ⟨0,?_,λ_=>rfl,λh=>absurd (Rb.2 bK) h⟩;show k7 (bv f) _=_;simp only[k7,M,cf,cK,cH,aj,aY,bp,qg,av,nZ,gr,cV,j7]
  ·have dc:i64.wrap (((aI.length+1:Nat):Int)+1)=(((P::aI).length+1:Nat):Int):=by rw[cQ u];omega
   refine ⟨_,?_,λh=> ?_,λ_=>rfl⟩
   ·show k7 (bv f) _=_;simp only[k7,M,cf,cK,cH,aj,aY,bp,qg,av,nZ,gr,cV,j7,dc]
   ·obtain ⟨j,a,b⟩:=Rb.1 h;exact absurd b (bK j a)
theorem aeb {p eK bx:cb} {wi:ak} {piv:bo} {ks:dB} {sums:hz} {buf:cD} {root id:Nat} (sh:bi) {m:bE}
  (bB:d9 ((p,()),(root:Int),())=some ((wi,piv,bJ ks,sums,buf,()),0,())) (bW:ks≠[]) (a8:h1 (m,())=some (true,())) (L:buf.length<=1000)
  (dr:kR ((p,()),(wi,piv,bJ ks,sums,buf++[m],()),())=some ((eK,()),(id:Int),0,())) (a2:nb ((eK,()),(root:Int),())=some ((bx,()),0,())):
  nf (((p,()),((root:Int),(sh,()))),m,())=some (((bx,()),((id:Int),(sh,()))),0,()):=by
 have M:(decide ((((List.length (bJ ks)):Int):Int)=(0:Int)))=false:=bh (by rw[fP];have:=List.length_pos_iff.2 bW;omega);have V:(decide (0<List.length ([m]:List (bE)))&&decide ((buf.length+List.length ([m]:List (bE)))*112<=bC))=true:=by rw[aW aU,aW (by rw[ez];simp;omega)];rfl
 simp only[nf,a8,cK,av,bB,cf,nZ,M,ajk,V,aj,dr,a2]
theorem aec {p eK bx:cb} {t r:ak} {root id:Nat} (sh:bi) {m:bE} (bB:d9 ((p,()),(root:Int),())=some ((t,[],[],[],[],()),0,())) (a8:h1 (m,())=some (true,())) (aV:kP (t,m,())=some (r,()))
  (dr:kR ((p,()),(r,[],[],[],[],()),())=some ((eK,()),(id:Int),0,())) (a2:nb ((eK,()),(root:Int),())=some ((bx,()),0,())):
  nf (((p,()),((root:Int),(sh,()))),m,())=some (((bx,()),((id:Int),(sh,()))),0,()):=by
 have M:bG ((((List.length ([]:cC)):Int):Int)=(0:Int)):=rfl;simp only[nf,a8,cK,av,bB,cf,nZ,M,aV,aj,dr,a2]
def gz (p:cb) (i:Nat):Bool:=(p.getD i dj).1
structure BB (p:cb) (er:Nat->dB):Prop where
 len:p.length<=900
 kids: ∀i,i<p.length->gz p i=true->(p.getD i dj).2.2.2.1.2.2.1=bJ (er i)
 below: ∀i,i<p.length->gz p i=true-> ∀k∈er i,k<i/\gz p k=true
 free: ∀i,i<p.length->gz p i=false->p.getD i dj=dj
 few: ∀i,(er i).length<=100
def h9 (n:Nat) (c:Nat->Nat):cC:=(List.range n).map λi=>((c i:Nat):Int)
theorem Pb (n:Nat) (c:Nat->Nat):(h9 n c).length=n:=by simp[h9]
theorem ada {n:Nat} {c:Nat->Nat} {k:Nat} (h:k<n) (I:Int):List.getD (h9 n c) k I=(c k:Int):=by rw[b5 (by rw[Pb];exact h)];simp[h9]
theorem ajl {n:Nat} {c:Nat->Nat} {k:Nat}:(h9 n c).set k ((c k+1:Nat):Int)=h9 n (λi=>c i+if k=i then 1 else 0):=by
 refine List.ext_getElem (by simp[h9]) (λi q G=> ?_);rw[List.getElem_set];by_cases h:k=i
 ·subst h;rw[if_pos rfl];simp[h9]
 ·rw[if_neg h];simp[h9,h]
theorem atz (n:Nat):List.replicate n (0:Int)=h9 n (λ_=>0):=by refine List.ext_getElem (by simp[h9]) (λi q G=> ?_);simp[h9]
theorem Vu {p:cb} {i:Nat} (h:i<p.length):oP ((p,()),(i:Int),())=some (gz p i,()):=Od h
theorem ad8 {p:cb} (ks:dB) (c:Nat->Nat) (aT:p.length<=900) (ag: ∀k∈ks,k<p.length/\gz p k=true) (ad:ks.length<=1000) (au: ∀i,c i<=10^6):
  ED (bJ ks,(p,()),h9 p.length c,())=some (true,(p,()),h9 p.length (λi=>c i+ks.count i),()):=by
 obtain ⟨z,q,rfl⟩:=dG (b:=DF) (λi (_:H)=>(bJ ks,((bJ ks).length:Int),(i:Int),(p,()),h9 p.length (λj=>c j+(ks.take i).count j),())) ks.length (λ_ _=>True) (λz=>z=.inr ((p,()),h9 p.length (λi=>c i+ks.count i),())) u
  (λi E _ _=>by
   left;obtain ⟨bf,a6⟩:=ag _ (dJ E);have M:bG (((i:Nat):Int)<((bJ ks).length:Int)):=aW (by rw[fP];omega);have V:=dZ i;have aY:=fx (j:=i) u;have bp:bG ((0:Int)<=((ks[i]:Nat):Int)):=aW u;have cV: ∀f,(decide (((ks[i]:Nat):Int)<(List.length (h9 p.length f):Int)))=true:=λf=>aW (by rw[Pb];omega)
   have jd:(ks.take i).count ks[i]<=1000:=by have:=List.count_le_length (a:=ks[i]) (l:=ks.take i);rw[eE]at this;omega
   have ae5:=au ks[i];have w:i64.wrap (((c ks[i]+(ks.take i).count ks[i]:Nat):Int)+1)=((c ks[i]+(ks.take i).count ks[i]+1:Nat):Int):=by rw[cQ u];omega
   have da:h9 p.length (λj=>c j+(ks.take i).count j+if ks[i]=j then 1 else 0)=h9 p.length (λj=>c j+(ks.take (i+1)).count j):=by
    congr 1
    funext j
    rw[eH E,List.count_append];by_cases h:ks[i]=j
    ·rw[if_pos h,h];simp;omega
    ·rw[if_neg h];have:List.count j [ks[i]]=0:=List.count_eq_zero.2 (by simp;exact λbg=>h bg.symm);omega
   refine ⟨(),trivial,?_⟩;have gr:=ajl (n:=p.length) (c:=λj=>c j+(ks.take i).count j) (k:=ks[i]);simp only[DF,M,V,aj,bN,bI,lf E,Vu bf,a6,cK,av,bp,cV,ada bf,w,gr,da,aY])
  (λ_ _=>by have M:(decide (((ks.length:Nat):Int)<((bJ ks).length:Int)))=false:=bh (by rw[fP];omega);exact ⟨_,rfl,by simp only[DF,M,av,eu]⟩) () trivial
 have dt:T2 (bJ ks,((bJ ks).length:Int),(0:Int),(p,()),h9 p.length (λi=>c i),())=some (.inr ((p,()),h9 p.length (λi=>c i+ks.count i),())):=q;simp only[ED,dt]
theorem akD (p:cb) (aT:p.length<=900):GC ((p,()),())=some (((p.countP λd=>d.1:Nat):Int),()):=by
 obtain ⟨z,q,rfl⟩:=dG (b:=zv) (λi (_:H)=>((((p.take i).countP λd=>d.1:Nat):Int),p,(p.length:Int),(i:Int),())) p.length (λ_ _=>True) (λz=>z=.inl (((p.countP λd=>d.1:Nat):Int),())) u
  (λi E _ _=>by
   left;have M:bG (((i:Nat):Int)<(p.length:Int)):=aW u;have gA:bG (((i:Nat):Int)<(p.length:Int)):=M;have V:=dZ i;have aY:=fx (j:=i) u;have jd:=List.countP_le_length (p:=λd:iZ=>d.1) (l:=p.take i);rw[eE]at jd;refine ⟨(),trivial,?_⟩;rw[eH E,List.countP_append];cases hu:p[i].1 with
   |true=>
    have bp:List.countP (λd:iZ=>d.1) [p[i]]=1:=by simp[hu]
    have w:i64.wrap ((((p.take i).countP λd=>d.1:Nat):Int)+1)=(((p.take i).countP (λd=>d.1)+1:Nat):Int):=by rw[cQ u];omega
    rw[bp];simp only[zv,M,V,aj,bN,bI,b5 E,hu,aY,w]
   |false=>
    have bp:List.countP (λd:iZ=>d.1) [p[i]]=0:=by simp[hu]
    rw[bp];simp only[zv,M,V,aj,av,bN,bI,b5 E,hu,aY,Nat.add_zero])
  (λ_ _=>by have M:(decide (((p.length:Nat):Int)<(p.length:Int)))=false:=bh u;exact ⟨_,rfl,by simp only[zv,M,av,eu]⟩) () trivial
 have dt:NI ((0:Int),p,(p.length:Int),(0:Int),())=some (.inl (((p.countP λd=>d.1:Nat):Int),())):=q;simp only[GC,dt]
structure mL (p:cb) (er:Nat->dB) (st bb:cC):Prop where
 len:bb.length=p.length
 clo: ∀j,st.getD j 0=2->bb.getD j 0=2
 opn: ∀j,st.getD j 0=1↔bb.getD j 0=1
 new: ∀j,bb.getD j 0=2->st.getD j 0=2\/(j<p.length/\gz p j=true/\ ∀k∈er j,bb.getD k 0=2)
theorem mL.refl {p:cb} {er:Nat->dB} {st:cC} (h:st.length=p.length):mL p er st st:=⟨h,λ_ h=>h,λ_=>Iff.rfl,λ_ h=>.inl h⟩
theorem mL.trans {p:cb} {er:Nat->dB} {a b c:cC} (q:mL p er a b) (G:mL p er b c):mL p er a c:=
 ⟨G.len,λj h=>G.clo j (q.clo j h),λj=>(q.opn j).trans (G.opn j),λj h=>by
  rcases G.new j h with h |h
  ·rcases q.new j h with h |⟨M,V,aY⟩
   ·exact .inl h
   ·exact .inr ⟨M,V,λk ag=>G.clo k (aY k ag)⟩
  ·exact .inr h⟩
theorem abD {st:cC} {i:Nat} (v:Int) (E:i<st.length) (h:st.getD i 0≠2):(st.set i v).count 2=st.count 2+if v=2 then 1 else 0:=by
 rw[b5 E]at h;rw[List.count_set E];have M:(st[i]==2)=false:=by simpa using h
 rw[M];by_cases a8:v=2
 ·subst a8;simp
 ·have V:(v==2)=false:=by simpa using a8
  rw[V,if_neg a8];simp
theorem aef {p:cb} {er:Nat->dB} (h:BB p er): ∀(f id:Nat) (st:cC),id<f->id<p.length->gz p id=true->st.length=p.length->(∀j,j<=id->st.getD j 0≠1)->
  ∃bb,sV f ((id:Int),(p,()),true,st,((st.count 2:Nat):Int),())=some ((p,()),true,bb,((bb.count 2:Nat):Int),())/\mL p er st bb/\bb.getD id 0=2
 |0,_,_,aM,_,_,_,_=>u
 |f+1,id,st,aM,E,hu,ad,ab=>by
  have kV:=Vu E;rw[hu]at kV;have V:=dZ id;have aY: ∀d:cC,d.length=p.length->(decide ((id:Int)<(d.length:Int)))=true:=λd af=>aW u
  by_cases G:st.getD id 0=2
  ·refine ⟨st,?_,mL.refl ad,G⟩;show vN (sV f) _=_;simp only[vN,kV,cK,cH,aj,V,aY st ad,bN,bI,G,cf,J6]
  ·have q:=ab id (ca _);obtain ⟨ks,ho⟩: ∃ks,er id=ks:=⟨_,rfl⟩;have IL:=h.kids id E hu;have aeZ:=h.below id E hu;have afb:=h.few id;have ju:=h.len;rw[ho]at IL aeZ afb;obtain ⟨cj,vD⟩: ∃cj,st.set id (1:Int)=cj:=⟨_,rfl⟩;have dH:cj.length=p.length:=by rw[<-vD,List.length_set,ad]
   have g1:cj.getD id 0=1:=by rw[<-vD,wm u]
   have Iu: ∀j,j≠id->cj.getD j 0=st.getD j 0:=λj al=>by rw[<-vD,tz (Ne.symm al)]
   have m0:cj.count 2=st.count 2:=by rw[<-vD,abD 1 u G];simp
   obtain ⟨z,dI,dM,rfl,cW,eX⟩:=dG (b:=y9 (sV f)) (λi (d:cC)=>((id:Int),bJ ks,((bJ ks).length:Int),(i:Int),(p,()),true,d,((d.count 2:Nat):Int),())) ks.length
    (λi d=>mL p er cj d/\ ∀k∈ks.take i,d.getD k 0=2)
    (λz=> ∃d:cC,z=.inl ((id:Int),(p,()),true,d,((d.count 2:Nat):Int),())/\mL p er cj d/\ ∀k∈ks,d.getD k 0=2) u
    (λi je d af=>by
     left;obtain ⟨s1,s2⟩:=af;have gR:=dJ je;obtain ⟨b1,b2⟩:=aeZ _ gR;have bj:bG (((i:Nat):Int)<((bJ ks).length:Int)):=aW (by rw[fP];omega);have ba:=dZ i;have c3:=fx (j:=i) u;obtain ⟨gJ,dr,a2,a3⟩:=aef h f ks[i] d u u b2 s1.len (λj al bg=>by have bg:=(s1.opn j).2 bg;rw[Iu j u]at bg;exact ab j u bg)
     refine ⟨gJ,⟨s1.trans a2,λk ag=> ?_⟩,?_⟩
     ·rw[eH je]at ag;rcases dn.1 ag with ag |ag
      ·exact a2.clo k (s2 k ag)
      ·obtain rfl:=gl.1 ag;exact a3
     ·simp only[y9,bj,ba,aj,bN,bI,lf je,dr,c3])
    (λd af=>by have bj:(decide (((ks.length:Nat):Int)<((bJ ks).length:Int)))=false:=bh (by rw[fP];omega);rw[eu]at af;exact ⟨_,⟨d,rfl,af.1,af.2⟩,by simp only[y9,bj,av]⟩) cj ⟨mL.refl dH,aU⟩
   have yR:J7 (sV f) ((id:Int),bJ ks,((bJ ks).length:Int),(0:Int),(p,()),true,cj,((cj.count 2:Nat):Int),())=some (.inl ((id:Int),(p,()),true,dM,((dM.count 2:Nat):Int),())):=dI;rw[m0]at yR;have ds:=cW.len;have g2:dM.getD id 0=1:=(cW.opn id).1 g1;have lP:(dM.set id (2:Int)).count 2=dM.count 2+1:=by rw[abD 2 u (by rw[g2];decide)];simp
   have jd:dM.count 2<=900:=by have:=List.count_le_length (a:=(2:Int)) (l:=dM);omega
   have w:i64.wrap (((dM.count 2:Nat):Int)+1)=((dM.count 2+1:Nat):Int):=by rw[cQ u];omega
   obtain ⟨n0,rl⟩: ∃n0,dM.set id (2:Int)=n0:=⟨_,rfl⟩;rw[rl]at lP;have nQ:n0.length=p.length:=by rw[<-rl,List.length_set,ds]
   have g3:n0.getD id 0=2:=by rw[<-rl,wm u]
   have QP: ∀j,j≠id->n0.getD j 0=dM.getD j 0:=λj al=>by rw[<-rl,tz (Ne.symm al)]
   have up: ∀j,dM.getD j 0=2->n0.getD j 0=2:=λj al=>by
    by_cases iN:j=id
    ·rw[iN];exact g3
    ·rw[QP j iN];exact al
   refine ⟨n0,?_,⟨nQ,λj al=> ?_,λj=> ?_,λj al=> ?_⟩,g3⟩
   ·show vN (sV f) _=_;have bp:(decide (st.getD id 0=(2:Int)))=false:=bh G;have cV:(decide (st.getD id 0=(1:Int)))=false:=bh q;have da:bG ((id:Int)<(p.length:Int)):=aW u;have gr:(p.getD id (false,(false,((0:Int),((([]:List (cp)),(([]:bo),(([]:List (Int)),(([]:List (eV)),(([]:List (bE)),()))))),()))))).2.2.2.1.2.2.1=bJ ks:=IL;simp only[vN,kV,cK,cH,aj,av,V,aY st ad,bN,bI,bp,J6,cV,vD,da,gr,yR,aY dM ds,rl,NJ,w,lP]
   ·by_cases iN:j=id
    ·rw[iN];exact g3
    ·exact up j (cW.clo j (by rw[Iu j iN];exact al))
   ·by_cases iN:j=id
    ·rw[iN,g3];constructor
     ·intro bg;exact absurd bg q
     ·intro bg;exact absurd bg fc
    ·rw[QP j iN,<-cW.opn j,Iu j iN]
   ·by_cases iN:j=id
    ·subst iN;exact .inr ⟨E,hu,λk ag=>up k (eX k (ho▸ag))⟩
    ·rw[QP j iN]at al;rcases cW.new j al with al |⟨cG,dq,n3⟩
     ·rw[Iu j iN]at al;exact .inl al
     ·exact .inr ⟨cG,dq,λk ag=>up k (n3 k ag)⟩
theorem akY {p:cb} {er:Nat->dB} (h:BB p er) (roots:dB) (ar: ∀r∈roots,r<p.length/\gz p r=true) (my:roots.length<=100):
  ∃st:cC,Gq ((p,()),bJ roots,(0:Int),())=some (true,((st.count 2:Nat):Int),())/\st.length=p.length/\(∀r∈roots,st.getD r 0=2)/\ ∀j,st.getD j 0=2->j<p.length/\gz p j=true/\ ∀k∈er j,st.getD k 0=2:=by
 have ju:=h.len;have bK: ∀j,List.getD (List.replicate p.length (0:Int)) j 0=0:=by intro j;unfold List.getD;by_cases al:j<p.length<;>simp[List.getElem?_replicate,al]
 have Sd:(List.replicate p.length (0:Int)).count 2=0:=by rw[List.count_eq_zero];intro bg;have:=List.eq_of_mem_replicate bg;cases this
 obtain ⟨z,dI,st,rfl,cW,eX⟩:=dG (b:=Eg) (λi (d:cC)=>(bJ roots,((bJ roots).length:Int),(i:Int),((d.count 2:Nat):Int),true,(p,()),d,())) roots.length
  (λi d=>mL p er (List.replicate p.length (0:Int)) d/\ ∀k∈roots.take i,d.getD k 0=2)
  (λz=> ∃d:cC,z=.inl (((d.count 2:Nat):Int),true,())/\mL p er (List.replicate p.length (0:Int)) d/\ ∀k∈roots,d.getD k 0=2) u
  (λi E d af=>by
   left;obtain ⟨s1,s2⟩:=af;obtain ⟨b1,b2⟩:=ar _ (dJ E);have bj:bG (((i:Nat):Int)<((bJ roots).length:Int)):=aW (by rw[fP];omega);have ba:=dZ i;have c3:=fx (j:=i) u;obtain ⟨gJ,dr,a2,a3⟩:=aef h jl roots[i] d (by rw[kS];omega) b1 b2 s1.len (λj al bg=>by have bg:=(s1.opn j).2 bg;rw[bK]at bg;cases bg)
   have dr:NK ((roots[i]:Int),(p,()),true,d,((d.count 2:Nat):Int),())=some ((p,()),true,gJ,((gJ.count 2:Nat):Int),()):=dr;refine ⟨gJ,⟨s1.trans a2,λk ag=> ?_⟩,?_⟩
   ·rw[eH E]at ag;rcases dn.1 ag with ag |ag
    ·exact a2.clo k (s2 k ag)
    ·obtain rfl:=gl.1 ag;exact a3
   ·simp only[Eg,bj,ba,aj,bN,bI,lf E,dr,c3])
  (λd af=>by have bj:(decide (((roots.length:Nat):Int)<((bJ roots).length:Int)))=false:=bh (by rw[fP];omega);rw[eu]at af;exact ⟨_,⟨d,rfl,af.1,af.2⟩,by simp only[Eg,bj,av]⟩) (List.replicate p.length (0:Int)) ⟨mL.refl aU,aU⟩
 have yR:KH (bJ roots,((bJ roots).length:Int),(0:Int),(0:Int),true,(p,()),List.replicate p.length (0:Int),())=some (.inl (((st.count 2:Nat):Int),true,())):=by have dI:KH (bJ roots,((bJ roots).length:Int),(0:Int),(((List.replicate p.length (0:Int)).count 2:Nat):Int),true,(p,()),List.replicate p.length (0:Int),())=_:=dI;rw[Sd]at dI;exact dI
 have ah:bG ((0:Int)<=((p.length):Int)):=aW u;have aS:bG ((((p.length):Int):Int)<=((p.length):Int)):=aW u;have bV:bG (((p.length):Int)*(8:Int)<=(bC:Int)):=aW (by rw[ez];omega);refine ⟨st,?_,cW.len,eX,λj al=> ?_⟩
 ·simp only[Gq,ah,aS,bV,bN,aj,bI,yR]
 ·rcases cW.new j al with al |al
  ·rw[bK]at al;cases al
  ·exact al
def gI (p:cb) (er:Nat->dB) (n:Nat):dB:=(List.range n).flatMap λi=>if gz p i then er i else []
theorem xb (p:cb) (er:Nat->dB) (n:Nat):gI p er (n+1)=gI p er n++(if gz p n then er n else []):=by unfold gI;rw[List.range_succ,List.flatMap_append];simp
theorem acP {p:cb} {er:Nat->dB} {n k:Nat}:k∈gI p er n↔ ∃i,i<n/\gz p i=true/\k∈er i:=by
 unfold gI;rw[List.mem_flatMap];constructor
 ·rintro ⟨i,q,G⟩;cases hu:gz p i with
  |true=>rw[hu,if_pos rfl]at G;exact ⟨i,List.mem_range.1 q,hu,G⟩
  |false=>rw[hu,if_neg fc]at G;cases G
 ·rintro ⟨i,q,G,W⟩;exact ⟨i,List.mem_range.2 q,by rw[G,if_pos rfl];exact W⟩
theorem acO {p:cb} {er:Nat->dB} (h: ∀i,(er i).length<=100): ∀n,(gI p er n).length<=100*n
 |0=>by simp[gI]
 |n+1=>by
  rw[xb,et];have:=acO (p:=p) h n;have G:=h n;split
  ·omega
  ·simp;omega
theorem atD {p:cb} {st:cC} (ad:st.length=p.length) (h: ∀j,j<p.length->(st.getD j 0=2↔gz p j=true)):st.count 2=p.countP λd=>d.1:=by
 have e:st.map (λv=>v==2)=p.map (λd=>d.1):=by
  refine List.ext_getElem (by simp[ad]) (λi q G=> ?_);simp only[List.getElem_map];have E:i<p.length:=by simpa using G
  have bg:=h i E;unfold gz at bg;rw[b5 u,b5 E]at bg;rw[Bool.eq_iff_iff,<-bg];simp
 have V:(st.map (λv=>v==2)).countP id=(p.map (λd=>d.1)).countP id:=by rw[e]
 rw[List.countP_map,List.countP_map]at V;exact V
theorem adx {p:cb} {er:Nat->dB} (h:BB p er) (roots:dB) (ar: ∀r∈roots,r<p.length/\gz p r=true) (my:roots.length<=100)
  (awh: ∀i,i<p.length->gz p i=true->(p.getD i dj).2.2.1=((roots.count i+(gI p er p.length).count i:Nat):Int)) (tb: ∀i,i<p.length->gz p i=true->0<roots.count i+(gI p er p.length).count i):
  wC ((p,()),bJ roots,())=some (true,()):=by
 have ju:=h.len;obtain ⟨st,v1,v2,v3,v4⟩:=akY h roots ar my;have up: ∀I i,i+I=p.length->i<p.length->gz p i=true->st.getD i 0=2:=by
  intro I
  induction I using Nat.strongRecOn with
  |ind I aO=>
   intro i ao E hu;have:=tb i E hu;by_cases au:0<roots.count i
   ·exact v3 i (List.count_pos_iff.1 au)
   ·have au:0<(gI p er p.length).count i:=u;obtain ⟨j,oL,ep,oM⟩:=acP.1 (List.count_pos_iff.1 au);have pj:=(h.below j oL ep i oM).1;have:=aO (p.length-j) u j u oL ep;exact (v4 j this).2.2 i oM
 have ava:=atD v2 (λj al=>⟨λbg=>(v4 j bg).2.1,λbg=>up (p.length-j) j u al bg⟩);have x2: ∀n i,n<=p.length->roots.count i+(gI p er n).count i<=10^6:=λn i aN=>by have q:=List.count_le_length (a:=i) (l:=roots);have G:=List.count_le_length (a:=i) (l:=gI p er n);have W:=acO (p:=p) h.few n;omega
 have s1:=ad8 (p:=p) roots (λ_=>0) ju ar u (λ_=>u);simp only[Nat.zero_add]at s1;obtain ⟨z,dI,rfl⟩:=dG (b:=zo) (λi (_:H)=>(p,(p.length:Int),(i:Int),(p,()),h9 p.length (λj=>roots.count j+(gI p er i).count j),())) p.length (λ_ _=>True) (λz=>z=.inr ((p,()),h9 p.length (λj=>roots.count j+(gI p er p.length).count j),())) u
  (λi E _ _=>by
   left;refine ⟨(),trivial,?_⟩;have M:bG (((i:Nat):Int)<(p.length:Int)):=aW u;have V:=dZ i;have aY:=fx (j:=i) u;rw[xb];cases hu:gz p i with
   |true=>
    have nM:(p.getD i (false,(false,((0:Int),((([]:List (cp)),(([]:bo),(([]:List (Int)),(([]:List (eV)),(([]:List (bE)),()))))),()))))).1=true:=hu;have ag:(p.getD i (false,(false,((0:Int),((([]:List (cp)),(([]:bo),(([]:List (Int)),(([]:List (eV)),(([]:List (bE)),()))))),()))))).2.2.2.1.2.2.1=bJ (er i):=h.kids i E hu;have s2:=ad8 (p:=p) (er i) (λj=>roots.count j+(gI p er i).count j) ju (λk ag=>⟨by have:=(h.below i E hu k ag).1;omega,(h.below i E hu k ag).2⟩) (by have:=h.few i;omega) (λj=>x2 i j u);have bp:(λj=>roots.count j+(gI p er i++if true=true then er i else []).count j)=λj=>roots.count j+(gI p er i).count j+(er i).count j:=by
     funext j
     rw[if_pos rfl,List.count_append];omega
    rw[bp];simp only[zo,M,V,aj,bN,bI,nM,ag,s2,cK,cH,av,aY]
   |false=>
    have af:p.getD i (false,(false,((0:Int),((([]:List (cp)),(([]:bo),(([]:List (Int)),(([]:List (eV)),(([]:List (bE)),()))))),()))))=dj:=h.free i E hu;have bp:(λj=>roots.count j+(gI p er i++if false=true then er i else []).count j)=λj=>roots.count j+(gI p er i).count j:=by
     funext j
     rw[if_neg fc,List.append_nil]
    have he:Gp (dj,())=some (true,()):=rfl;rw[bp];simp only[zo,M,V,aj,bN,bI,af,he,cK,cH,av,aY])
  (λ_ _=>by have M:(decide (((p.length:Nat):Int)<(p.length:Int)))=false:=bh u;exact ⟨_,rfl,by simp only[zo,M,av]⟩) () trivial
 have yR:MY (p,(p.length:Int),(0:Int),(p,()),h9 p.length (λj=>roots.count j),())=some (.inr ((p,()),h9 p.length (λj=>roots.count j+(gI p er p.length).count j),())):=dI;have refs: ∀i,i<p.length->(p.getD i dj).2.2.1=((roots.count i+(gI p er p.length).count i:Nat):Int):=by
  intro i E;cases hu:gz p i with
  |true=>exact awh i E hu
  |false=>
   rw[h.free i E hu];have aF:roots.count i=0:=List.count_eq_zero.2 (λbg=>by have:=(ar i bg).2;rw[hu]at this;cases this);have z2:(gI p er p.length).count i=0:=List.count_eq_zero.2 (λbg=>by obtain ⟨j,oL,ep,oM⟩:=acP.1 bg;have:=(h.below j oL ep i oM).2;rw[hu]at this;cases this)
   rw[aF,z2];rfl
 obtain ⟨z,cW,rfl⟩:=dG (b:=Ef) (λi (_:H)=>(p,(p.length:Int),(i:Int),h9 p.length (λj=>roots.count j+(gI p er p.length).count j),())) p.length (λ_ _=>True) (λz=>z=.inr ()) u
  (λi E _ _=>by
   left;refine ⟨(),trivial,?_⟩;have M:bG (((i:Nat):Int)<(p.length:Int)):=aW u;have V:=dZ i;have aY:=fx (j:=i) u;have bp: ∀f,(decide ((i:Int)<(List.length (h9 p.length f):Int)))=true:=λf=>aW (by rw[Pb];omega)
   have cV:(p.getD i (false,(false,((0:Int),((([]:List (cp)),(([]:bo),(([]:List (Int)),(([]:List (eV)),(([]:List (bE)),()))))),()))))).2.2.1=((roots.count i+(gI p er p.length).count i:Nat):Int):=refs i E;simp only[Ef,M,V,aj,bN,bI,bp,ada E,cV,cf,cK,av,aY])
  (λ_ _=>by have M:(decide (((p.length:Nat):Int)<(p.length:Int)))=false:=bh u;exact ⟨_,rfl,by simp only[Ef,M,av]⟩) () trivial
 have aw2:MZ (p,(p.length:Int),(0:Int),h9 p.length (λj=>roots.count j+(gI p er p.length).count j),())=some (.inr ()):=cW;have ah:bG ((0:Int)<=((p.length):Int)):=aW u;have aS:bG ((((p.length):Int):Int)<=((p.length):Int)):=aW u;have bV:bG (((p.length):Int)*(8:Int)<=(bC:Int)):=aW (by rw[ez];omega);have e4:=akD p ju;rw[<-ava]at e4;simp only[wC,ah,aS,bV,bN,aj,bI,atz,s1,cK,cH,av,v1,e4,cf,MX,yR,aw2]
def h8 (n:cz):dB:=n.2.2.1.map Int.toNat
theorem uY (ks:dB):(bJ ks).map Int.toNat=ks:=by
 unfold bJ;rw[List.map_map];have:(Int.toNat∘λk:Nat=>(k:Int))=id:=by funext k;rfl
 rw[this,List.map_id]
theorem asl {ks:dB} (h:ks.Nodup) (k:Nat):ks.count k=if k∈ks then 1 else 0:=by
 induction ks with
 |nil=>rfl
 |cons a ks aO=>
  have G:=List.nodup_cons.1 h;rw[List.count_cons,aO G.2];by_cases Rk:a=k
  ·subst Rk;rw[if_neg G.1];simp
  ·have avH: ¬k=a:=λe=>Rk e.symm
   have M:(a==k)=false:=by simpa using Rk
   rw[M];by_cases ag:k∈ks
   ·simp[ag]
   ·simp[ag,avH]
def Bp (r:r2) (t:ak) (x:fh) (aI:List bo) (c:Nat):Prop:=
 ∀(Q:cS) (d:aK),Q.length+c<=900->
  ∃l i,r ((mk Q (λ_=>1),()),t,d,aI,x,())=some (((mk (Q++l) (λ_=>1),()),((i:Nat):Int),()),())/\l.length<=c/\Q.length<=i/\hE (Q++l) t aI d i/\tR aI d<=l.length/\(∀n∈l,xF n)/\(∀k,(l.flatMap h8).count k=if Q.length<=k/\k<Q.length+l.length/\k≠i then 1 else 0)/\(∀j n,l[j]? =some n-> ∃ks,n.2.2.1=bJ ks/\ks.length<=6/\ ∀k∈ks,k<Q.length+j)
theorem atu (r:r2) (t:ak) (aX:w2 t) (x:fh) (P:bo) (aI:List bo) (aP: ∀s∈aI,s.length<=5) (c:Nat) (ar:Bp r t x aI c) (Q:cS) (d:aK) (parts:aw) (fR:bo) (aT:parts.length<=6) (aN:Q.length+parts.length*c<=900) (awb:aI.length<=100):
  ∃s:KW,Km r (t,P::aI,0,(mk Q (λ_=>1),()),d,x,[],0,[],[],parts,fR,[],[],())=some (.inl ((mk (Q++s.l) (λ_=>1),()),d,x,[],0,[],[],fR,bJ s.ks,s.sums,()))/\
   s.l.length<=parts.length*c/\s.ks.length=parts.length/\s.sums.length=parts.length/\s.ks.Nodup/\(∀k∈s.ks,k<(Q++s.l).length)/\(∀j,j<parts.length->hE (Q++s.l) t aI (parts.getD j b6) (s.ks.getD j 0)/\qF (Q++s.l) (s.ks.getD j 0) (s.sums.getD j n1))/\(parts.map (tR aI)).sum<=s.l.length/\(∀n∈s.l,xF n)/\(∀k∈s.ks,Q.length<=k)/\(∀k,(s.l.flatMap h8).count k=if Q.length<=k/\k<Q.length+s.l.length/\k∉s.ks then 1 else 0)/\(∀j n,s.l[j]? =some n-> ∃ks,n.2.2.1=bJ ks/\ks.length<=6/\ ∀k∈ks,k<Q.length+j):=by
 obtain ⟨z,q,s,rfl,G⟩:=dG (b:=vW r) (λi (s:KW)=>(t,P::aI,(i:Int),(mk (Q++s.l) (λ_=>1),()),d,x,[],0,[],[],parts,fR,bJ s.ks,s.sums,())) parts.length
  (λi s=>s.l.length<=i*c/\s.ks.length=i/\s.sums.length=i/\s.ks.Nodup/\(∀k∈s.ks,k<(Q++s.l).length)/\(∀j,j<i->hE (Q++s.l) t aI (parts.getD j b6) (s.ks.getD j 0)/\qF (Q++s.l) (s.ks.getD j 0) (s.sums.getD j n1))/\((parts.take i).map (tR aI)).sum<=s.l.length/\(∀n∈s.l,xF n)/\(∀k∈s.ks,Q.length<=k)/\(∀k,(s.l.flatMap h8).count k=if Q.length<=k/\k<Q.length+s.l.length/\k∉s.ks then 1 else 0)/\(∀j n,s.l[j]? =some n-> ∃ks,n.2.2.1=bJ ks/\ks.length<=6/\ ∀k∈ks,k<Q.length+j))
  (λz=> ∃s:KW,z=.inl ((mk (Q++s.l) (λ_=>1),()),d,x,[],0,[],[],fR,bJ s.ks,s.sums,())/\s.l.length<=parts.length*c/\s.ks.length=parts.length/\s.sums.length=parts.length/\s.ks.Nodup/\(∀k∈s.ks,k<(Q++s.l).length)/\(∀j,j<parts.length->hE (Q++s.l) t aI (parts.getD j b6) (s.ks.getD j 0)/\qF (Q++s.l) (s.ks.getD j 0) (s.sums.getD j n1))/\(parts.map (tR aI)).sum<=s.l.length/\(∀n∈s.l,xF n)/\(∀k∈s.ks,Q.length<=k)/\(∀k,(s.l.flatMap h8).count k=if Q.length<=k/\k<Q.length+s.l.length/\k∉s.ks then 1 else 0)/\(∀j n,s.l[j]? =some n-> ∃ks,n.2.2.1=bJ ks/\ks.length<=6/\ ∀k∈ks,k<Q.length+j)) u
  (λi E s p9=>by
   left;obtain ⟨dr,a2,a3,a4,a5,om,AD,LN,a9,LA,LB⟩:=p9;have hmul:i*c+c<=parts.length*c:=by have:(i+1)*c<=parts.length*c:=gZ c E;rw[Nat.add_mul]at this;omega
   have M:=e5 (i:=i) (l:=parts) u;have V:=dZ i;have aY:=e7 i u;have bp:(decide (((1:Int):Int)<=(List.length (P::aI):Int))&&decide (((List.length (P::aI):Int):Int)<=(List.length (P::aI):Int)))=true:=by rw[aW (by simp;omega),aW (Int.le_refl _)];rfl
   have cV:List.drop (Int.toNat (1:Int)) (List.take (List.length (P::aI)) (P::aI))=aI:=by rw[eu];rfl
   obtain ⟨l,j,b1,b2,b3,hH,hO,j4,HA,Qe⟩:=ar (Q++s.l) parts[i] (by simp;omega);have al:=hH.lt;have da:=Ol (r:=λ_=>1) al;obtain ⟨JX,h6⟩:=(hH.ok aX aP).sum _ (hx al);have gr:bG ((List.length (bJ s.ks)+List.length ([((j:Nat):Int)]:List (Int)))*8<=bC):=aW (by rw[fP,ez];simp;omega);have kH: ∀y:eV,(decide ((s.sums.length+List.length ([y]:List (eV)))*32<=bC))=true:=λy=>aW (by rw[ez];simp;omega)
   have nD:bJ s.ks++[((j:Nat):Int)]=bJ (s.ks++[j]):=by simp[bJ]
   refine ⟨⟨s.l++l,s.ks++[j],s.sums++[JX.1]⟩,⟨by simp only[et];rw[Nat.add_mul];omega,by simp[a2],by simp[a3],?_,?_,?_,?_,λn aN=>(dn.1 aN).elim (LN n) (j4 n),?_,?_,?_⟩,?_⟩
   ·rw[List.nodup_append];refine ⟨a4,aU,?_⟩;intro a aV b L;have:=a5 a aV;simp only[gl]at L;omega
   ·intro k ag;rw[<-List.append_assoc];rcases dn.1 ag with ag |ag
    ·have:=a5 k ag;rw[et];omega
    ·rw[gl.1 ag];exact al
   ·intro k ag;rw[<-List.append_assoc];show hE _ t aI _ (List.getD (s.ks++[j]) k 0)/\qF _ (List.getD (s.ks++[j]) k 0) (List.getD (s.sums++[JX.1]) k n1);rcases Nat.lt_or_ge k i with h |h
    ·rw[NT u,NT u];exact ⟨(om k h).1.app l,(om k h).2.app l⟩
    ·have CR:k=i:=u;subst CR;rw[F0 u,F0 u,b5 E];exact ⟨hH,_,hx al,h6⟩
   ·rw[eH E,List.map_append,List.sum_append];simp only[List.map_cons,List.map_nil,List.sum_cons,List.sum_nil,et];omega
   ·intro k ag;rcases dn.1 ag with ag |ag
    ·exact a9 k ag
    ·rw[gl.1 ag];rw[et]at b3;omega
   ·intro k;show ((s.l++l).flatMap h8).count k=if Q.length<=k/\k<Q.length+(s.l++l).length/\k∉s.ks++[j] then 1 else 0
    have avF:=al;rw[et,et]at avF;rw[et]at b3;rw[List.flatMap_append,List.count_append,LA,HA,et,et];have hm:k∉s.ks++[j]↔k∉s.ks/\k≠j:=aU;by_cases ag:k∈s.ks
    ·have:=a5 k ag;rw[et]at this;rw[if_neg (λbg=>bg.2.2 ag),if_neg (λbg=>u),if_neg (λbg=>(hm.1 bg.2.2).1 ag)]
    ·by_cases q:k<Q.length+s.l.length
     ·rw[if_neg (c:=Q.length+s.l.length<=k/\_) (λbg=>u)];by_cases bW:Q.length<=k
      ·rw[if_pos ⟨bW,q,ag⟩,if_pos ⟨bW,u,hm.2 ⟨ag,u⟩⟩]
      ·rw[if_neg (λbg=>bW bg.1),if_neg (λbg=>bW bg.1)]
     ·rw[if_neg (c:=Q.length<=k/\k<Q.length+s.l.length/\_) (λbg=>q bg.2.1)];by_cases G:Q.length+s.l.length<=k/\k<Q.length+s.l.length+l.length/\k≠j
      ·rw[if_pos G,if_pos ⟨u,u,hm.2 ⟨ag,G.2.2⟩⟩]
      ·rw[if_neg G,if_neg (λbg=>G ⟨u,u,(hm.1 bg.2.2).2⟩)]
   ·intro gh n ka;have ka:(s.l++l)[gh]? =some n:=ka;rcases Nat.lt_or_ge gh s.l.length with iF |iF
    ·rw[List.getElem?_append_left iF]at ka;exact LB gh n ka
    ·rw[List.getElem?_append_right iF]at ka;obtain ⟨ks,bf,a6,cq⟩:=Qe _ n ka;refine ⟨ks,bf,a6,λk ag=> ?_⟩;have:=cq k ag;rw[et]at this;omega
   ·have vg:na ((Q++s.l++l)[j],())=some (JX.1,()):=h6;show vW r _=some (Sum.inl (t,P::aI,((i+1:Nat):Int),(mk (Q++(s.l++l)) (λ_=>1),()),d,x,[],0,[],[],parts,fR,bJ (s.ks++[j]),s.sums++[JX.1],()));rw[show Q++(s.l++l)=Q++s.l++l from (List.append_assoc _ _ _).symm];simp only[vW,M,V,bp,cV,aj,bN,bI,b5 E,b1,da,gr,vg,kH,aY,nD])
  (λs p9=>by have M:=fE parts;obtain ⟨dr,a2,a3,a4,a5,om,AD,LN,a9,LA,LB⟩:=p9;rw[eu]at AD;exact ⟨_,⟨s,rfl,dr,a2,a3,a4,a5,om,AD,LN,a9,LA,LB⟩,by simp only[vW,M,av]⟩) ⟨[],[],[]⟩ ⟨aU,rfl,rfl,List.nodup_nil,aU,λj al=>u,aU,aU,aU,λk=>aU,λj n aN=>by simp at aN⟩
 refine ⟨s,?_,G⟩;have dt:=q;simp only[List.append_nil]at dt;exact dt
theorem arb (r:r2) (t:ak) (x:fh) (aX:w2 t):Bp (vQ r) t x [] 1:=by
 intro Q d aN;have ch:(decide ((((List.length ([]:List bo)):Int):Int)>(0:Int)))=false:=rfl;have M:bG ((((List.length ([]:List bo)):Int):Int)=(0:Int)):=rfl;have V:=aj3 t d (by have:=aX.len;omega);have aY:=UZ (Q:=Q) (n:=(inS d t,[],[],[],[],())) (ks:=[]) rfl aU List.nodup_nil aU u;have bp:mk (Q++[(inS d t,[],[],[],[],())]) (λj=>if j∈([]:dB) then 2 else 1)=mk (Q++[(inS d t,[],[],[],[],())]) (λ_=>1):=Bd λj _=>aU
 rw[bp]at aY;refine ⟨[(inS d t,[],[],[],[],())],Q.length,?_,aU,ca _,?_,by simp[tR],λn aN=> ?_,λk=> ?_,λj n aN=> ?_⟩
 ·simp only[vQ,ch,av,Kk,M,aj,V,aY]
 ·show (Q++[_])[Q.length]? =_;simp
 ·rw[gl.1 aN];have:=sj d t;have:=aX.len;exact ⟨by show (inS d t).length<=1000;omega,aU,aU,aU,aU⟩
 ·show (([]:dB)++[]).count k=_;rw[if_neg (λbg=>by simp at bg;omega)];rfl
 ·have al:j=0:=by have:=(iJ.1 aN).1;simp at this;omega
  subst al;have:n=_:=(eY aN).symm;exact ⟨[],by rw[this];rfl,aU,aU⟩
theorem arc (r:r2) (t:ak) (aX:w2 t) (x:fh) (an:FD x) (P:bo) (aI:List bo) (hR:P.length<=5) (aP: ∀s∈aI,s.length<=5) (ju:aI.length<=100) (c:Nat) (ar:Bp r t x aI c):Bp (vQ r) t x (P::aI) (1+6*c):=by
 intro Q d aN;have ch:bG ((((List.length (P::aI)):Int):Int)>(0:Int)):=aW aU;have M:(decide ((((List.length (P::aI)):Int):Int)=(0:Int)))=false:=bh (by simp;omega);have dI:=att r t (P::aI) (mk Q (λ_=>1),()) d x aU (by show P.length<=100;omega);have bB:List.getD (P::aI) 0 []=P:=rfl;rw[bB]at dI;have hm:(cM P d).length<=5:=Nat.le_trans (ua P d) hR;obtain ⟨fR,CV⟩: ∃m,cM P d=m:=⟨_,rfl⟩;rw[CV]at dI hm;have V:i64.wrap (((fR.length):Int)+1)=((fR.length+1:Nat):Int):=by rw[cQ u];omega
 have aY:(decide ((0:Int)<=((fR.length+1:Nat):Int))&&decide (((fR.length+1:Nat):Int)<=((fR.length+1:Nat):Int))&&decide (((fR.length+1:Nat):Int)*(8:Int)<=(bC:Int)))=true:=by rw[aW u,aW u,aW (by rw[ez];omega)];rfl
 have fJ:=alj ([],fR,List.replicate (fR.length+1) (0:Int),[],[],()) d (by simp[List.replicate_succ]) (by show fR.length<=10^5;omega);have fJ:EN (([],fR,List.replicate (fR.length+1) (0:Int),[],[],()),d,())=some (partsOf d fR,()):=fJ;have fT:=(GV d fR u).2;obtain ⟨parts,ri⟩: ∃p,partsOf d fR=p:=⟨_,rfl⟩;rw[ri]at fJ fT;have hmul:parts.length*c<=6*c:=gZ c u;obtain ⟨s,bq,bU,dD,dx,gw,hC,ng,zl,axH,axF,ahQ,SY⟩:=atu r t aX x P aI aP c ar Q d parts fR u u ju;have fin: ∀w:Nat,w<4-> ∃l i,DU r ((w:Int),(mk (Q++s.l) (λ_=>1),()),d,x,[],0,[],[],fR,bJ s.ks,s.sums,())=some (((mk (Q++l) (λ_=>1),()),((i:Nat):Int),()),())/\l.length<=1+6*c/\Q.length<=i/\hE (Q++l) t (P::aI) d i/\tR (P::aI) d<=l.length/\(∀n∈l,xF n)/\(∀k,(l.flatMap h8).count k=if Q.length<=k/\k<Q.length+l.length/\k≠i then 1 else 0)/\(∀j n,l[j]? =some n-> ∃ks,n.2.2.1=bJ ks/\ks.length<=6/\ ∀k∈ks,k<Q.length+j):=by
  intro w hw;obtain ⟨buf,b1,b2,b3⟩:=ats r x an w hw (mk (Q++s.l) (λ_=>1),()) d fR (bJ s.ks) s.sums;have hH:=aji r (Q++s.l) s.ks hC gw (by simp;omega) u fR s.sums buf;refine ⟨s.l++[([],fR,bJ s.ks,s.sums,buf,())],(Q++s.l).length,?_,by simp;omega,aU,?_,?_,?_,?_,?_⟩
  ·rw[b3,hH,List.append_assoc]
  ·rw[<-List.append_assoc];refine ⟨s.ks,s.sums,buf,by rw[CV,List.getElem?_append_right (ca _)];simp,by rw[CV];omega,u,gw,hC,b1,b2,λj al=> ?_⟩;rw[CV,ri];exact ⟨(ng j u).1.app _,(ng j u).2.app _⟩
  ·show 1+_<=_;rw[CV,ri];simp;omega
  ·intro n aN;rcases dn.1 aN with aN |aN
   ·exact axH n aN
   ·rw[gl.1 aN];exact ⟨aU,by show fR.length<=1000;omega,by show (bJ s.ks).length<=1000;rw[fP];omega,by show s.sums.length<=1000;omega,by show buf.length<=1000;omega⟩
  ·intro k;have hlen:(Q++s.l).length=Q.length+s.l.length:=et;have M:h8 ([],fR,bJ s.ks,s.sums,buf,())=s.ks:=uY s.ks;rw[List.flatMap_append,List.count_append,ahQ,hlen];have V:List.flatMap h8 [([],fR,bJ s.ks,s.sums,buf,())]=s.ks:=by simp[M]
   rw[V,asl gw,et];by_cases ag:k∈s.ks
   ·have q:=hC k ag;have G:=axF k ag;rw[hlen]at q;rw[if_neg (λbg=>bg.2.2 ag),if_pos ag,if_pos ⟨G,by simp;omega,u⟩]
   ·rw[if_neg ag];by_cases q:Q.length<=k/\k<Q.length+s.l.length
    ·rw[if_pos ⟨q.1,q.2,ag⟩,if_pos ⟨q.1,by simp;omega,u⟩]
    ·rw[if_neg (λbg=>q ⟨bg.1,bg.2.1⟩),if_neg (λbg=>q ⟨bg.1,by have:=bg.2.1;simp at this;omega⟩)]
  ·intro j n ka;rcases Nat.lt_or_ge j s.l.length with iF |iF
   ·rw[List.getElem?_append_left iF]at ka;exact SY j n ka
   ·rw[List.getElem?_append_right iF]at ka;have bw:=(iJ.1 ka).1;have vr:j-s.l.length=0:=by simp at bw;omega
    rw[vr]at ka;have ct:n=_:=(eY ka).symm;refine ⟨s.ks,by rw[ct],u,λk ag=> ?_⟩;have:=hC k ag;rw[et]at this;omega
 have hw:Int.tmod ((d.1.length):Int) 3=((d.1.length%3:Nat):Int):=by rw[Int.tmod_eq_emod_of_nonneg u];omega
 have bp:i64.wrap ((1:Int)+((d.1.length%3:Nat):Int))=((1+d.1.length%3:Nat):Int):=by rw[cQ u];omega
 simp only[vQ,ch,aj,dI,Kk,M,av,V,aY,bI,fJ,bq,hw,bp];cases (!(az.eqb ac d (([]:N),(([]:N),()))))
 ·exact fin 0 u
 ·exact fin _ u
theorem aaL (t:ak) (x:fh) (aX:w2 t) (an:FD x): ∀(aI:List bo) (n:Nat),aI.length+1<=n->aI.length<=100->(∀s∈aI,s.length<=5)->Bp (yS n) t x aI (cap aI.length)
 |_,0,h,_,_=>u
 |[],n+1,_,_,_=>arb (yS n) t x aX
 |P::aI,n+1,h,q,G=>arc (yS n) t aX x an P aI (G P gL) (λs aP=>G s (gY _ aP)) (by simp at q;omega) (cap aI.length) (aaL t x aX an aI n (by simp at h;omega) (by simp at q;omega) (λs aP=>G s (gY _ aP)))
theorem akU (x:fh) (h:Av x): ∃Q root,Gt (x,())=some (((mk Q (λ_=>1),()),(((root:Nat):Int),(zx x.2.2.1,()))),())/\hE Q (ny x) (mb x) b6 root/\Q.length<=43/\tR (mb x) b6<=Q.length/\(∀n∈Q,xF n)/\(∀k,(Q.flatMap h8).count k=if k<Q.length/\k≠root then 1 else 0)/\(∀j n,Q[j]? =some n-> ∃ks,n.2.2.1=bJ ks/\ks.length<=6/\ ∀k∈ks,k<j):=by
 have ch:=atY x.1 h.t.1 h.t.2;have aX:=alZ x.1 h.t.1;obtain ⟨dH,ds⟩:=Pe _ (P9 x);have M:i64.wrap (Int.tmod x.2.2.1 (4:Int))=((x.2.2.1.toNat%4:Nat):Int):=by have:=h.w;rw[Int.tmod_eq_emod_of_nonneg this.1,cQ u];omega
 have R9:x.2.2.1.toNat%4<4:=Nat.mod_lt _ fc;have au:cap (mb x).length<=43:=by
  match (mb x).length,dH with
  |0,_=>decide
  |1,_=>decide
  |2,_=>decide
 obtain ⟨l,i,b1,b2,b3,hH,hO,j4,HA,Qe⟩:=aaL (ny x) x aX h.xok (mb x) jl (by rw[kS];omega) u ds [] b6 (by simp;omega);have aeg:F7 ((([]:List (iZ)),()),ny x,b6,mb x,x,())=some (((mk ([]++l) (λ_=>1),()),((i:Nat):Int),()),()):=b1;have V:bG ((0:Int)<=((x.2.2.1.toNat%4:Nat):Int)):=aW u;have aY:bG (((x.2.2.1.toNat%4:Nat):Int)<(nn.length:Int)):=aW (by have:nn.length=4:=rfl;omega);refine ⟨[]++l,i,?_,hH,by simp;omega,by simpa using hO,by simpa using j4,by simpa using HA,by simpa using Qe⟩;unfold mb ny at aeg;rw[akq];simp only[ch,M,V,aY,bN,aj,bI,aeg]
theorem asF (x:aK):mh (b6,x,())=some (true,()):=by
 obtain ⟨r,ar⟩:=OH b6 x;rw[ar];unfold mh at ar;have M:lK (b6,())=some (false,()):=rfl;have V:(Op.bytesLess b6.1 x.1||decide ((b6.1:N)=x.1))=true:=by
  cases h:x.1 with
  |nil=>rfl
  |cons a l=>rfl
 have aY:qn (b6.2.1,x.2.1,())=some (false,()):=rfl;cases h:lK (x,()) with
 |none=>simp only[h]at ar;cases ar
 |some s=>
  obtain ⟨b,ae⟩:=s;cases b
  ·simp only[h,M,V,aY,cH,aj]at ar;exact ar.symm
  ·simp only[h,cK,av]at ar;exact ar.symm
theorem akn {m:bE} (hm:gb m):jN (m,b6,())=some (true,()):=by
 obtain ⟨-,R,cU,-,kq,-,kr,ar,hw⟩:=Bb hm;have M:bG ((List.length ([]:List (aK))+R.length)*32<=bC):=aW (by rw[ez];simp;omega);have V:bG ((List.length (([]:List (aK))++R)+cU.length)*32<=bC):=aW (by rw[ez];simp;omega);obtain ⟨l,ad⟩: ∃l,([]++R)++cU=l:=⟨_,rfl⟩;have RF:l.length<=4:=by rw[<-ad];simp;omega
 obtain ⟨z,q,rfl⟩:=dG (b:=pr) (λi (_:H)=>((i:Int),b6,l,())) l.length (λi _=>True) (λz=>z=.inr ()) u
  (λi E _ _=>by left;have M:=e5 (i:=i) (l:=l) u;have V:=dZ i;have aY:=fx (j:=i) u;exact ⟨(),trivial,by simp only[pr,M,V,aj,bN,bI,b5 E,asF,cK,av,aY]⟩)
  (λ_ _=>by have M:=fE l;exact ⟨_,rfl,by simp only[pr,M,av]⟩) () trivial
 have dt:Ei (0,b6,l,())=some (.inr ()):=q;simp only[jN,kq,kr,M,V,aj,ad,dt]
structure Kept (Q:cS) (ks:dB) (p:cb) (id:Nat) (aE:cz):Prop where
 len:Q.length<=p.length/\p.length<=Q.length+2
 at_:Q.length<=id/\id<p.length
 old: ∀i,i<Q.length->p.getD i dj=(true,(false,((if i∈ks then 2 else 1:Int),(Q.getD i ht,()))))
 new:p.getD id dj=(true,(false,((1:Int),(aE,()))))
 rest: ∀i,Q.length<=i->i<p.length->i≠id->p.getD i dj=dj
structure uh (Q:cS) (root:Nat):Prop where
 len:Q.length<=100
 lt:root<Q.length
 cnt: ∀k,(Q.flatMap h8).count k=if k<Q.length/\k≠root then 1 else 0
 kid: ∀j n,Q[j]? =some n-> ∃ks,n.2.2.1=bJ ks/\ks.length<=6/\ ∀k∈ks,k<j
theorem uh.at_ {Q:cS} {root:Nat} (h:uh Q root) {i:Nat} (E:i<Q.length):(Q.getD i ht).2.2.1=bJ (h8 (Q.getD i ht))/\(h8 (Q.getD i ht)).length<=6/\ ∀k∈h8 (Q.getD i ht),k<i:=by
 obtain ⟨ks,bf,a6,cq⟩:=h.kid i _ (hx E);rw[b5 E];have e:h8 Q[i]=ks:=by unfold h8;rw[bf,uY]
 rw[e];exact ⟨bf,a6,cq⟩
def pW (Q:cS) (ks:dB) (id i:Nat):dB:=if i<Q.length then h8 (Q.getD i ht) else if i=id then ks else []
theorem O5 {p:cb} {Q:cS} {ks:dB} {id:Nat} (hu: ∀i,i<Q.length->gz p i=true): ∀n,n<=Q.length->gI p (pW Q ks id) n=(Q.take n).flatMap h8
 |0,_=>by simp[gI]
 |n+1,h=>by have aN:n<Q.length:=u;rw[xb,O5 hu n u,hu n aN,if_pos rfl,eH aN,List.flatMap_append];unfold pW;rw[if_pos aN,b5 aN];simp
theorem Kept.used {Q:cS} {ks:dB} {p:cb} {id:Nat} {n:cz} (h:Kept Q ks p id n) {i:Nat} (E:i<p.length):gz p i=true↔i<Q.length\/i=id:=by
 unfold gz;by_cases q:i<Q.length
 ·rw[h.old i q];simp[q]
 ·by_cases G:i=id
  ·rw[G,h.new];simp
  ·rw[h.rest i u E G];simp[q,G]
theorem Kept.all {Q:cS} {ks:dB} {p:cb} {id:Nat} {n:cz} (h:Kept Q ks p id n) (k:Nat):(gI p (pW Q ks id) p.length).count k=(Q.flatMap h8).count k+ks.count k:=by
 obtain ⟨dH,ds⟩:=h.len;obtain ⟨i1,i2⟩:=h.at_;have base:=O5 (p:=p) (ks:=ks) (id:=id) (λi E=>(h.used u).2 (.inl E)) Q.length (ca _);rw[eu]at base;have step: ∀I,Q.length+I<=p.length->(gI p (pW Q ks id) (Q.length+I)).count k=(Q.flatMap h8).count k+if id<Q.length+I then ks.count k else 0:=by
  intro I
  induction I with
  |zero=>intro _;rw[Nat.add_zero,base,if_neg u];omega
  |succ I aO=>
   intro ao;rw[<-Nat.add_assoc,xb,List.count_append,aO u];have hu:=h.used (i:=Q.length+I) u;by_cases he:Q.length+I=id
   ·rw[hu.2 (.inr he),if_pos rfl,if_neg u,if_pos u];unfold pW;rw[if_neg u,if_pos he];omega
   ·have aM:gz p (Q.length+I)=false:=by
     cases bg:gz p (Q.length+I) with
     |false=>rfl
     |true=>
      rcases hu.1 bg with q |q
      ·omega
      ·exact absurd q he
    rw[aM];simp only[Bool.false_eq_true,if_false,List.count_nil];by_cases bw:id<Q.length+I
    ·rw[if_pos bw,if_pos u];omega
    ·rw[if_neg bw,if_neg u]
 have:=step (p.length-Q.length) u;rw[show Q.length+(p.length-Q.length)=p.length by omega,if_pos i2]at this;exact this
structure qz (t:ak):Prop where
 srt:cP bT t
 key: ∀p∈t,1<=p.1.length
 val: ∀p∈t,p.2.1.length<=64
 stamp: ∀p∈t,0<=p.2.2.1/\p.2.2.1<=1000000000
theorem ata {m:bE} (hm:gb m):0<=m.2.2.2.2.2.2.1/\m.2.2.2.2.2.2.1<=1000000000:=by obtain ⟨a,k,v,f,t,d,n,rfl,-,aN,-,-⟩:=hm.form;unfold jy;cases decide (a=0)<;>cases decide (a=1)<;>cases decide (a=2)<;>cases decide (a=3)<;>cases decide (a=4)<;>simp only[aj,av]<;>omega
theorem acJ {m:bE} {k:N}:(∀v n,ut m k=.gen v n->v=m.2.2.1/\n=m.2.2.2.2.2.2.1)/\(∀eD st,ut m k=.old eD st->st=none\/st=some m.2.2.2.2.2.2.1):=by
 constructor
 ·intro v n h;unfold ut at h;split at h
  ·split at h
   ·cases h;exact ⟨rfl,rfl⟩
   ·cases h
  ·repeat' split at h
   all_goals cases h
 ·intro eD st h;unfold ut at h
  repeat' split at h
  all_goals first
   |cases h;exact .inl rfl
   |cases h;exact .inr rfl
   |cases h
theorem ajp: ∀p∈fb,1<=p.length:=by have h:fb.all (λp=>decide (1<=p.length))=true:=aD;exact λp aT=>of_decide_eq_true (fD.1 h p aT)
theorem qz.apM {t:ak} {m:bE} (h:qz t) (hm:gb m):qz (D.apM t m):=by
 have cI:=hm.ok;have gG:=ata hm;refine ⟨G3 h.srt,λx an=> ?_,λx an=> ?_,λx an=> ?_⟩<;>have au:=(Hb cI h.srt x).1 an<;>cases e:ut m x.1 with
 |gen v n=>
  first
  |obtain ⟨q,G⟩:=G1 e
   have:=(uf _ (cI.key (.inl q))).1;rw[G]at this;exact this
  |rw[e]at au
   have au:x=(x.1,v,n,()):=au;obtain ⟨q,G⟩:=G1 e;obtain ⟨M,V⟩:=acJ.1 v n e;have a8:=cI.val q;rw[au]
   first
   |show v.length<=64
    rw[M];omega
   |show 0<=n/\n<=1000000000
    rw[V];exact gG
 |gone=>rw[e]at au;exact au.elim
 |old k st=>
  rw[e]at au;obtain ⟨y,bu,M,V⟩:=au
  first
  |have bu:=h.key y bu
   rcases Px e with q |⟨q,G,W,bD,L,aC⟩
   ·rw[M,q]at bu;exact bu
   ·have ab:=cI.mv q G W bD;have dH:=ajp _ ab.to_;unfold bL at L;rw[bQ]at L;have:=of_decide_eq_true L.1;omega
  |rw[V]
   first
   |exact h.val y bu
   |have af:=h.stamp y bu
    rcases acJ.2 k st e with rfl |rfl
    ·exact af
    ·exact gG
theorem qz.allM {l:cD}: ∀{t:ak},qz t->(∀m∈l,gb m)->qz (D.allM t l):=by
 induction l with
 |nil=>intro t h _;exact h
 |cons m l aO=>intro t h hm;exact aO (h.apM (hm m gL)) (λn aN=>hm n (gY _ aN))
theorem cT.pairs {t:ak} (h:cT t):qz t:=⟨h.srt,λp aT=>(h.key p aT).1,h.val,h.stamp⟩
theorem aju (k:N):cl b6 k=true:=fW.2 ⟨by cases k<;>rfl,.inl rfl⟩
theorem ar4 {T:ak} (h:qz T) (ad:T.length<=10^6) (ag: ∀p∈T,p.1.length<=65535):tH ((T,[],[],[],[],()),b6,())=some (true,()):=by
 obtain ⟨z,q,rfl⟩:=dG (b:=sg) (λi (_:H)=>(T,(T.length:Int),(i:Int),b6,())) T.length (λ_ _=>True) (λz=>z=.inr (b6,())) u
  (λi E _ _=>by left;have M:=e5 (i:=i) (l:=T) u;have V:=dZ i;have aY:=fx (j:=i) u;have hm:=dJ E;have bp:=abm ⟨h.key _ hm,ag _ hm⟩ (h.val _ hm) (h.stamp _ hm);exact ⟨(),trivial,by simp only[sg,M,V,aj,av,bN,bI,b5 E,KU,bp,cK,cH,zQ,aju,aY]⟩)
  (λ_ _=>by have M:=fE T;exact ⟨_,rfl,by simp only[sg,M,av]⟩) () trivial
 have dt:HW (T,(T.length:Int),0,b6,())=some (.inr (b6,())):=q;have G:=ZF T h.srt u;have ch:bG ((((List.length ([]:cC)):Int):Int)=(0:Int)):=rfl;have M:bG (i64.wrap (i64.wrap (((List.length ([]:bo)):Int)+((List.length ([]:hz)):Int))+((List.length ([]:cD)):Int))=(0:Int)):=rfl;have V:(decide ((-1:Int)>=(0:Int)))=false:=rfl;simp only[tH,ch,M,aj,G,HK,HL,dt,V,cH]
theorem ass {p:bF} {id:Nat} {T:ak} (bB:d9 (p,(id:Int),())=some ((T,[],[],[],[],()),0,())) (h:qz T) (ad:T.length<=10^6) (ag: ∀p∈T,p.1.length<=65535):ES (p,(id:Int),b6,(64:Int),())=some ((1:Int),()):=by have aY:(decide ((64:Int)=(0:Int)))=false:=rfl;have bp:=ar4 h ad ag;have cV:bG ((((List.length ([]:cC)):Int):Int)=(0:Int)):=rfl;show k7 (bv (jl-1)) _=_;simp only[k7,bB,cf,cK,cH,aj,aY,bp,qg,av,nZ,cV]
theorem akO {Q:cS} {t:ak} {P:bo} {aI:List bo} {root:Nat} (h:l9 Q t (P::aI) root) (aX:cT t) (aN:Q.length<=100):
  ∃(ks:dB) (sums:hz) (buf:cD),Q[root]? =some ([],cM P b6,bJ ks,sums,buf,())/\ks≠[]/\(∀k∈ks,k<root)/\ks.Nodup/\ks.length<=6/\buf.length<=5/\(∀m∈buf,gb m)/\
   ∀(p:bF) (id:Nat) (vb:cD),od p Q root root->d9 (p,(id:Int),())=some (([],cM P b6,bJ ks,sums,vb,()),0,())->(∀m∈vb,gb m)->vb.length<=100->
    ES (p,(id:Int),b6,(64:Int),())=some (((aI.length+2:Nat):Int),()):=by
 have bB:=h.good;have aP:=bB.five;have C5:=bB.srt;obtain ⟨jY,ayt,at5,g1,dT,-,-,-⟩:=bB.inner h.tab;obtain ⟨ks,sums,buf,q,G,W,aC,bd,bD,dU,gB⟩:=bB.tree;have RC:jY=ks:=by
  have e:=eY (g1.symm.trans q);have V:bJ jY=bJ ks:=congrArg (λn:cz=>n.2.2.1) e;have aY:=congrArg (List.map Int.toNat) V
  rwa [uY,uY]at aY
 subst RC;have aAi:=h.lt;have jX:=ua P b6;have hR:=aP P gL;have awb:aI.length<=1:=by have:=h.two;simp at this;omega
 refine ⟨jY,sums,buf,q,λe=> ?_,bd,aC,dT.six,bD,λm hm=>(dU m hm).1,?_⟩
 ·rw[e]at G;simp at G
 intro p id vb aT bR L vo;have avt:=bB.gs;obtain ⟨f,aM,IH⟩: ∃f,jl=f+1/\100<=f:=⟨jl-1,by rw[kS],by rw[kS];omega⟩;have hU: ∀s∈aI,s.length<=5:=λs hU=>aP s (gY _ hU)
 have pn: ∀s∈aI,s.Pairwise λa b=>Op.bytesLess a b=true:=λs hU=>C5 s (gY _ hU)
 have aY:(decide ((64:Int)=(0:Int)))=false:=rfl;have ea: ∀s∈sums,jR s:=by intro s C1;obtain ⟨j,al,rfl⟩:=List.mem_iff_getElem.1 C1;obtain ⟨bj,n,ba,c3⟩:=gB j u;obtain ⟨dq,bU,d1,d2,d3,d4⟩:=Bg aX hU bj;obtain rfl:=eY (ba.symm.trans d1);rw[b5 al]at c3;have:=eY (c3.symm.trans d3);have s7:sums[j]=bU:=congrArg Prod.fst this;rw[s7];exact d4
 have bp:=aa3 (piv:=cM P b6) (ks:=jY) (sums:=sums) (buf:=vb) (d:=b6) G W u (adW (C5 P gL) b6) (λk ag=>by have:=bd k ag;omega) ea (λm hm=>⟨L m hm,akn (L m hm)⟩) vo;obtain ⟨fJ,fT⟩:=OI avt;have ju:=(GV b6 (cM P b6) u).2;have afl:=dT.good;obtain ⟨parts,ri⟩: ∃p,partsOf b6 (cM P b6)=p:=⟨_,rfl⟩;have cV:=NG (n:=([],cM P b6,bJ jY,sums,vb,())) (d:=b6) (PT u) fJ;rw[ri]at cV fT ju afl;have da:(decide ((((List.length (bJ jY)):Int):Int)=(0:Int)))=false:=bh (by rw[fP];omega);obtain ⟨a7,jo⟩: ∃a7:cz,([],cM P b6,bJ jY,sums,vb,())=a7:=⟨_,rfl⟩;have s0:a7.2.2.1=bJ jY:=by rw[<-jo]
 have Rf:a7.2.2.2.1=sums:=by rw[<-jo]
 rw[jo]at bR bp cV;obtain ⟨z,g1,rfl⟩:=dG (b:=qf (bv f)) (λj (_:H)=>((64:Int),((if j=0 then 0 else aI.length+1:Nat):Int),(parts.length:Int),(j:Int),p,a7,parts,())) parts.length (λj _=>True)
  (λz=>z=.inr (((aI.length+1:Nat):Int),())) u
  (λj al _ _=>by
   left;have lS:j<jY.length:=u;have mo:j<sums.length:=u;obtain ⟨bj,n,ba,c3⟩:=gB j lS;rw[ri]at bj;have CL:=afl j lS;rw[b5 al]at bj CL;have ho:jY.getD j 0=jY[j]:=b5 lS;rw[ho]at bj ba CL;have yq:jY[j]<root:=bd _ (dJ lS);obtain ⟨v,aO,-,v1⟩:=adQ aX aT u aI parts[j] jY[j] f 63 hU pn (fT _ (dJ al)) bj yq u u u;have mu: ¬jS Q root aI parts[j] jY[j]:=λbg=>by have:=Vg h.tab CL bg;omega
   have a8:=v1 mu;subst a8;have du:i64.wrap ((64:Int)-1)=((63:Nat):Int):=rfl;have M:=e5 (i:=j) (l:=parts) u;have V:=dZ j;have gr:bG (((j:Nat):Int)<((List.length (bJ jY):Nat):Int)):=aW (by rw[fP];omega);obtain ⟨dq,bU,d1,d2,d3,d4⟩:=Bg aX hU bj;obtain rfl:=eY (ba.symm.trans d1);rw[b5 mo]at c3;have p9:sums[j]=bU:=congrArg Prod.fst (eY (c3.symm.trans d3));have f1:=aT _ _ yq ba;rw[if_neg u]at f1;have kH:bG (((j:Nat):Int)<((sums.length:Nat):Int)):=aW u;have nD:=e7 j u;have vg:(decide (((aI.length+1:Nat):Int)=(0:Int)))=false:=bh u;have vr:yP (bv f) ((64:Int),(j:Int),((aI.length+1:Nat):Int),(parts.length:Int),(j:Int),p,a7,parts,())=some (.inl ((64:Int),((aI.length+1:Nat):Int),(parts.length:Int),((j+1:Nat):Int),p,a7,parts,())):=by simp only[yP,s0,Rf,V,gr,kH,aj,bN,bI,lf lS,f1,d2,b5 mo,p9,pA,cK,av,nD]
   refine ⟨(),trivial,?_⟩;rw[if_neg (by omega: ¬j+1=0)];simp only[qf,s0,M,V,gr,aj,bN,bI,b5 al,lf lS,du,aO,vg,cH];by_cases bW:j=0
   ·have qY:(decide (((j:Nat):Int)>(0:Int)))=false:=bh u;simp only[qY,av,vr]
   ·have qY:bG (((j:Nat):Int)>(0:Int)):=aW u;rw[if_neg bW];simp only[qY,aj,cf,cK,av,vr])
  (λ_ _=>by have M:=fE parts;have rh: ¬parts.length=0:=u;exact ⟨_,rfl,by simp only[qf,M,av];rw[if_neg rh]⟩) () trivial
 have j7:DZ (bv f) ((64:Int),(0:Int),(parts.length:Int),(0:Int),p,a7,parts,())=some (.inr (((aI.length+1:Nat):Int),())):=g1;have gr:(decide ((((a7.2.2.1.length):Int):Int)=(0:Int)))=false:=by rw[s0];exact da
 have dc:i64.wrap (((aI.length+1:Nat):Int)+1)=((aI.length+2:Nat):Int):=by rw[cQ u];omega
 show bv jl _=_;rw[aM];show k7 (bv f) _=_;simp only[k7,bR,cf,cK,cH,aj,aY,bp,qg,av,nZ,gr,cV,j7,dc]
theorem od.cut {p:bF} {Q:cS} {b r:Nat} (h:od p Q b b) (ar:r<=b):od p Q r r:=λi n E aN=>by have:=h i n u aN;rw[if_neg u]at this ⊢;exact this
theorem adk {p:cb} {i:Nat} {r:Int} {n:cz} (E:i<p.length) (h:p.getD i dj=(true,(false,(r,(n,()))))):d9 ((p,()),(i:Int),())=some (n,0,()):=by rw[b5 E]at h;rw[abP E (by rw[h]) (by rw[h]),h]
structure Left (Q:cS) (root:Nat) (p:cb) (id:Nat) (aE:cz):Prop where
 len:p.length=Q.length+1
 at_:id=root\/id=Q.length
 old: ∀i,i<Q.length->i≠root->p.getD i dj=(true,(false,((1:Int),(Q.getD i ht,()))))
 new:p.getD id dj=(true,(false,((1:Int),(aE,()))))
 rest: ∀i,(i=root\/i=Q.length)->i≠id->p.getD i dj=dj
theorem OS {Q:cS} {ks:dB} {root:Nat} {p:cb} {id lL:Nat} {n aE:cz} (ar:root<Q.length) (aN:Q.length<=100) (ag:n.2.2.1=bJ ks) (eA:aE.2.2.1=bJ ks) (ho: ∀k∈ks,k<root) (dL:ks.Nodup) (bD:ks.length<=6)
  (ad:p.length=Q.length\/p.length=Q.length+1) (hold: ∀i,i<Q.length->i≠root->p.getD i dj=(true,(false,((1:Int),(Q.getD i ht,()))))) (hid:id<p.length) (re:p.getD id dj=(true,(false,((1:Int),(n,()))))) (q9:id=root\/id=Q.length)
  (f1:PZ p lL) (f2:(id=root/\lL=Q.length)\/(id=Q.length/\lL=root)):
  ∃eK bx,kR ((p,()),aE,())=some ((eK,()),((lL:Nat):Int),0,())/\nb ((eK,()),(id:Int),())=some ((bx,()),0,())/\Left Q root bx lL aE:=by
 have lR:lL<=p.length:=by rcases f1.2 with bg |bg<;>omega
 have p6: ∀k∈ks,p.getD k dj=(true,(false,((1:Int),(Q.getD k ht,())))):=λk ag=>by have:=ho k ag;exact hold k u u
 have M:=alg (p:=p) (n:=aE) (ks:=ks) (id:=lL) eA (λk ag=>⟨by have:=ho k ag;omega,by rw[p6 k ag]⟩) (λk ag=>by rw[p6 k ag];exact ⟨by show (0:Int)<=1;decide,by show (1:Int)<=10^6;decide⟩) dL u u f1;obtain ⟨r4,IA⟩: ∃r4,put p lL (true,(false,((1:Int),(aE,()))))=r4:=⟨_,rfl⟩;have yM:r4.length=Q.length+1:=by
  rw[<-IA,ad5 lR];split
  ·omega
  ·rcases f1.2 with bg |bg<;>omega
 have g0: ∀i,i<p.length->i≠lL->r4.getD i dj=p.getD i dj:=λi E ct=>by rw[<-IA];exact Vb ct E
 have aut:r4.getD lL dj=(true,(false,((1:Int),(aE,())))):=by rw[<-IA];exact ali lR
 rw[IA]at M;obtain ⟨eK,IB⟩: ∃eK,kC 1 ks r4=eK:=⟨_,rfl⟩;have dH:eK.length=r4.length:=by rw[<-IB,GN]
 have aeh: ∀i,root<=i->i∉ks:=λi E bg=>by have:=ho _ bg;omega
 have g1: ∀i,i∉ks->eK.getD i dj=r4.getD i dj:=λi E=>by rw[<-IB];exact sk 1 _ _ E
 have aeC: ∀k∈ks,eK.getD k dj=(true,(false,((2:Int),(Q.getD k ht,())))):=λk ag=>by have:=ho k ag;rw[<-IB,Po 1 _ _ dL ag u,g0 k u u,p6 k ag];rfl
 have js:id∉ks:=aeh id u;have yo:lL∉ks:=aeh lL u;have ct:id≠lL:=u;have QO:eK.getD id dj=(true,(false,((1:Int),(n,())))):=by rw[g1 id js,g0 id hid ct,re]
 rw[IB]at M;have V:=ajW (p:=eK) (root:=id) (ks:=ks) u (by rw[QO]) (by rw[QO]) (by rw[QO];exact ag)
  (λk ag=>by rw[aeC k ag];exact ⟨by have:=ho k ag;omega,by show (2:Int)<=2;decide,by show (2:Int)<=10^6;decide⟩) js dL u u
 have avW:ks.reverse.Nodup:=(List.reverse_perm ks).nodup_iff.2 dL;have s9: ∀i,i∈ks.reverse↔i∈ks:=λi=>List.mem_reverse
 have qc:(eK.set id dj).length=eK.length:=List.length_set;refine ⟨eK,_,M,V,⟨by rw[GN,qc];omega,u,λi E avX=> ?_,?_,λi q W=> ?_⟩⟩
 ·by_cases je:i∈ks
  ·rw[Po (-1) _ _ avW ((s9 i).2 je) (by rw[qc];omega),tz (by have:=ho i je;omega),aeC i je];rfl
  ·rw[sk (-1) _ _ (λbg=>je ((s9 i).1 bg)),tz u,g1 i je,g0 i u u,hold i E avX]
 ·rw[sk (-1) _ _ (λbg=>yo ((s9 _).1 bg)),tz ct,g1 _ yo,aut]
 ·have E:i=id:=u;rw[E,sk (-1) _ _ (λbg=>js ((s9 _).1 bg)),wm u]
theorem as7 {Q:cS} {ks:dB} {root:Nat} {n aE:cz} (ar:root<Q.length) (aN:Q.length<=100) (bW:Q[root]? =some n) (ag:n.2.2.1=bJ ks) (eA:aE.2.2.1=bJ ks) (ho: ∀k∈ks,k<root) (dL:ks.Nodup) (bD:ks.length<=6):
  ∃eK bx h7,kR ((mk Q (λ_=>1),()),aE,())=some ((eK,()),((h7:Nat):Int),0,())/\nb ((eK,()),(root:Int),())=some ((bx,()),0,())/\Left Q root bx h7 aE:=by
 have ad:(mk Q (λ_=>1)).length=Q.length:=l0 _ _;have bB: ∀i,i<Q.length->List.getD (mk Q (λ_=>1)) i dj=(true,(false,((1:Int),(Q.getD i ht,())))):=λi E=>by rw[Bn E,b5 E]
 obtain ⟨eK,bx,a,b,c⟩:=OS (p:=mk Q (λ_=>1)) (id:=root) (lL:=Q.length) (n:=n) (aE:=aE) ar aN ag eA ho dL bD (.inl ad) (λi E _=>bB i E) u (by rw[bB root ar,wd bW]) (.inl rfl) ⟨λi E=>⟨u,by rw[bB i E]⟩,.inl ad.symm⟩ (.inl ⟨rfl,rfl⟩);exact ⟨eK,bx,_,a,b,c⟩
theorem atW {Q:cS} {ks:dB} {root:Nat} {p:cb} {id:Nat} {n aE:cz} (h:Left Q root p id n) (ar:root<Q.length) (aN:Q.length<=100) (ag:n.2.2.1=bJ ks) (eA:aE.2.2.1=bJ ks) (ho: ∀k∈ks,k<root) (dL:ks.Nodup) (bD:ks.length<=6):
  ∃eK bx h7,kR ((p,()),aE,())=some ((eK,()),((h7:Nat):Int),0,())/\nb ((eK,()),(id:Int),())=some ((bx,()),0,())/\Left Q root bx h7 aE:=by
 have ad:=h.len;have re:=h.new;have hold:=h.old;rcases h.at_ with e |e
 ·subst e;obtain ⟨eK,bx,a,b,c⟩:=OS (p:=p) (id:=id) (lL:=Q.length) (n:=n) (aE:=aE) ar aN ag eA ho dL bD (.inr ad) hold u re (.inl rfl) ⟨λi E=>⟨u,by
   by_cases e3:i=id
   ·rw[e3,re]
   ·rw[hold i E e3]⟩,.inr ⟨u,by rw[h.rest _ (.inr rfl) u]⟩⟩ (.inl ⟨rfl,rfl⟩)
  exact ⟨eK,bx,_,a,b,c⟩
 ·subst e;obtain ⟨eK,bx,a,b,c⟩:=OS (p:=p) (id:=Q.length) (lL:=root) (n:=n) (aE:=aE) ar aN ag eA ho dL bD (.inr ad) hold u re (.inr rfl) ⟨λi E=>⟨u,by rw[hold i u u]⟩,.inr ⟨u,by rw[h.rest _ (.inl rfl) u]⟩⟩ (.inr ⟨rfl,rfl⟩);exact ⟨eK,bx,_,a,b,c⟩
def m8 (Q:cS) (ks:dB) (root id i:Nat):dB:=if i=id then ks else if i<Q.length/\i≠root then h8 (Q.getD i ht) else []
theorem Left.used {Q:cS} {root:Nat} {p:cb} {id:Nat} {n:cz} (h:Left Q root p id n) {i:Nat} (E:i<p.length):gz p i=true↔(i<Q.length/\i≠root)\/i=id:=by
 have ad:=h.len;unfold gz;by_cases G:i=id
 ·rw[G,h.new];simp
 ·by_cases q:i<Q.length/\i≠root
  ·rw[h.old i q.1 q.2];simp[q]
  ·rw[h.rest i u G];constructor
   ·intro bg;cases bg
   ·rintro (bg |bg)
    ·exact absurd bg q
    ·exact absurd bg G
theorem Left.all {Q:cS} {ks:dB} {root:Nat} {p:cb} {id:Nat} {n:cz} (h:Left Q root p id n) (ar:root<Q.length) (p6:h8 (Q.getD root ht)=ks) (k:Nat):(gI p (m8 Q ks root id) p.length).count k=(Q.flatMap h8).count k:=by
 have ad:=h.len;have gg:=h.at_;have step: ∀m,m<=Q.length->(gI p (m8 Q ks root id) m).count k+(if root<m/\id≠root then ks.count k else 0)=((Q.take m).flatMap h8).count k:=by
  intro m
  induction m with
  |zero=>intro _;rw[if_neg u];simp[gI]
  |succ m aO=>
   intro hm;have aO:=aO u;have IN:m<Q.length:=u;have af:([Q[m]]:cS).flatMap h8=h8 (Q.getD m ht):=by rw[b5 IN];simp
   rw[xb,List.count_append,eH IN,List.flatMap_append,List.count_append,af];obtain ⟨X,ID⟩: ∃X,(gI p (m8 Q ks root id) m).count k=X:=⟨_,rfl⟩;obtain ⟨Y,yj⟩: ∃Y,((Q.take m).flatMap h8).count k=Y:=⟨_,rfl⟩;rw[ID,yj]at aO;rw[ID,yj];have hu:=h.used (i:=m) u;by_cases s9:m=root
   ·subst s9;rw[if_neg (c:=m<m/\id≠m) u]at aO;by_cases hid:id=m
    ·rw[hu.2 (.inr hid.symm),if_pos rfl,p6,if_neg (c:=m<m+1/\id≠m) (λbg=>bg.2 hid)];unfold m8;rw[if_pos hid.symm];omega
    ·have aM:gz p m=false:=by
      cases bg:gz p m with
      |false=>rfl
      |true=>
       rcases hu.1 bg with q |q
       ·exact absurd rfl q.2
       ·exact absurd q.symm hid
     rw[aM,p6,if_neg fc,if_pos (c:=m<m+1/\id≠m) ⟨u,hid⟩,List.count_nil];omega
   ·have ct:m≠id:=u;rw[hu.2 (.inl ⟨IN,s9⟩),if_pos rfl];unfold m8;rw[if_neg ct,if_pos (c:=m<Q.length/\m≠root) ⟨IN,s9⟩];by_cases au:root<m/\id≠root
    ·rw[if_pos au]at aO;rw[if_pos (c:=root<m+1/\id≠root) ⟨u,au.2⟩];omega
    ·rw[if_neg au]at aO;rw[if_neg (c:=root<m+1/\id≠root) (λbg=>au ⟨u,bg.2⟩)];omega
 have d:=step Q.length (ca _);rw[eu]at d;rw[ad,xb,List.count_append,<-d];have hu:=h.used (i:=Q.length) u;obtain ⟨X,ID⟩: ∃X,(gI p (m8 Q ks root id) Q.length).count k=X:=⟨_,rfl⟩;rw[ID];by_cases hid:id=Q.length
 ·rw[hu.2 (.inr hid.symm),if_pos rfl,if_pos (c:=root<Q.length/\id≠root) ⟨ar,u⟩];unfold m8;rw[if_pos hid.symm]
 ·have aM:gz p Q.length=false:=by
   cases bg:gz p Q.length with
   |false=>rfl
   |true=>
    rcases hu.1 bg with q |q
    ·exact absurd q.1 u
    ·exact absurd q.symm hid
  rw[aM,if_neg fc,if_neg (c:=root<Q.length/\id≠root) (λbg=>u)];simp
theorem as8 {Q:cS} {ks:dB} {p:cb} {id root:Nat} {n:cz} (h:Left Q root p id n) (ab:uh Q root) (p6:h8 (Q.getD root ht)=ks) (ag:n.2.2.1=bJ ks) (ho: ∀k∈ks,k<root) (bD:ks.length<=6):
  wC ((p,()),([(id:Int)]:cC),())=some (true,()):=by
 have ad:=h.len;have ar:=ab.lt;have aN:=ab.len;have gg:=h.at_;have hid:id<p.length:=u;have hR:BB p (m8 Q ks root id):=by
  refine ⟨u,λi E hu=> ?_,λi E hu k eA=> ?_,λi E hu=> ?_,λi=> ?_⟩
  ·by_cases G:i=id
   ·subst G;rw[h.new];unfold m8;rw[if_pos rfl];exact ag
   ·have q:i<Q.length/\i≠root:=by
     rcases (h.used E).1 hu with q |q
     ·exact q
     ·exact absurd q G
    rw[h.old i q.1 q.2];unfold m8;rw[if_neg G,if_pos q];exact (ab.at_ q.1).1
  ·by_cases G:i=id
   ·subst G;unfold m8 at eA;rw[if_pos rfl]at eA;have:=ho k eA;exact ⟨u,(h.used u).2 (.inl ⟨u,u⟩)⟩
   ·have q:i<Q.length/\i≠root:=by
     rcases (h.used E).1 hu with q |q
     ·exact q
     ·exact absurd q G
    unfold m8 at eA;rw[if_neg G,if_pos q]at eA;have W:=(ab.at_ q.1).2.2 k eA;have aC:k≠root:=by
     intro e;have au:=ab.cnt k;rw[if_neg (λbg=>bg.2 e)]at au;refine List.count_eq_zero.1 au (List.mem_flatMap.2 ⟨Q[i]'q.1,dJ q.1,?_⟩)
     rwa [b5 q.1]at eA
    exact ⟨W,(h.used u).2 (.inl ⟨u,aC⟩)⟩
  ·have ct: ¬((i<Q.length/\i≠root)\/i=id):=λbg=>by rw[(h.used E).2 bg]at hu;cases hu
   exact h.rest i u u
  ·unfold m8;split
   ·omega
   ·split
    ·rename_i q;have:=(ab.at_ q.1).2.1;omega
    ·simp
 have Ec: ∀i,i<p.length->gz p i=true->(p.getD i dj).2.2.1=((([id]:dB).count i+(gI p (m8 Q ks root id) p.length).count i:Nat):Int):=by
  intro i E hu;rw[h.all ar p6,ab.cnt];by_cases G:i=id
  ·subst G;rw[h.new,if_neg (c:=i<Q.length/\i≠root) u];simp
  ·have q:i<Q.length/\i≠root:=by
    rcases (h.used E).1 hu with q |q
    ·exact q
    ·exact absurd q G
   have au:([id]:dB).count i=0:=List.count_eq_zero.2 (by simp;exact G);rw[h.old i q.1 q.2,if_pos q,au];rfl
 exact adx hR [id] (λr vA=>by
  obtain rfl:=gl.1 vA;exact ⟨hid,(h.used hid).2 (.inr rfl)⟩) aU Ec (λi E hu=>by
   have aX:=Ec i E hu;have aT:(p.getD i dj).2.2.1=1:=by
    rcases (h.used E).1 hu with q |q
    ·rw[h.old i q.1 q.2]
    ·subst q;rw[h.new]
   rw[aX]at aT;omega)
theorem Left.gets {Q:cS} {root:Nat} {p:cb} {id:Nat} {n:cz} (h:Left Q root p id n) (ar:root<Q.length):od (p,()) Q root root:=by intro i m E hm;rw[if_neg u,adk (by have:=h.len;omega) (h.old i u u),wd hm]
theorem akZ {Q:cS} {t:ak} {aI:List bo} {root:Nat} (h:l9 Q t aI root) (cI:cT t) (aN:Q.length<=100) (hlen:t.length<=100) (sh:bi) (ms:cD) (ta: ∀m∈ms,gb m) (jX:ms.length<=8):
  ∃(ks:dB) (iR:Nat->cz),(∀k∈ks,k<root)/\ks.Nodup/\ks.length<=6/\(∀i,(iR i).2.2.1=bJ ks)/\Q[root]? =some (iR 0)/\
   (∀i (E:i<ms.length) (p eK bx:cb) (id h7:Nat),d9 ((p,()),(id:Int),())=some (iR i,0,())->kR ((p,()),iR (i+1),())=some ((eK,()),(h7:Int),0,())->nb ((eK,()),(id:Int),())=some ((bx,()),0,())->
    nf (((p,()),((id:Int),(sh,()))),ms[i],())=some (((bx,()),((h7:Int),(sh,()))),0,()))/\
   (∀(p:bF) (id:Nat),od p Q root root->d9 (p,(id:Int),())=some (iR ms.length,0,())-> ∃h:Int,0<h/\ES (p,(id:Int),b6,(64:Int),())=some (h,())/\kQ ((p,((id:Int),(sh,()))),b6,())=some (0,allM (cont Q aI root) ms,()))/\
   ∀m,h1 (m,())=some (true,())->(∀t:ak,cP bT t->t.length<10^11->(∀p∈t,p.1.length<1000)-> ∃r,kP (t,m,())=some (r,()))->
    ∃aE,aE.2.2.1=bJ ks/\ ∀(p eK bx:cb) (id h7:Nat),d9 ((p,()),(id:Int),())=some (iR ms.length,0,())->kR ((p,()),aE,())=some ((eK,()),(h7:Int),0,())->nb ((eK,()),(id:Int),())=some ((bx,()),0,())->
     nf (((p,()),((id:Int),(sh,()))),m,())=some (((bx,()),((h7:Int),(sh,()))),0,()):=by
 match aI,h with
 |[],h=>
  have q:Q[root]? =some (inS b6 t,[],[],[],[],()):=h.good.tree;have au:cont Q [] root=inS b6 t:=by show (Q.getD root ht).1=_;rw[wd q]
  have b9:=cI.inS b6;have azZ:=sj b6 t;have vt: ∀p∈inS b6 t,p.1.length<=100:=λp aT=>h.tab.key p (e8.1 aT).1
  have tc:=λi (E:i<=ms.length)=>Gv (t:=inS b6 t) (l:=ms) b9.srt (λm hm=>(ta m hm).ok) (GD u u) u (B:=100) u u vt i E
  refine ⟨[],λi=>(allM (inS b6 t) (ms.take i),[],[],[],[],()),aU,List.nodup_nil,aU,λi=>rfl,q,?_,?_,?_⟩
  ·intro i E p eK bx id h7 bB dr a2;obtain ⟨b1,b2,b3⟩:=tc i u;have av2:allM (inS b6 t) (ms.take (i+1))=apM (allM (inS b6 t) (ms.take i)) ms[i]:=by rw[eH E,Gu]
   have dr:kR ((p,()),(allM (inS b6 t) (ms.take (i+1)),[],[],[],[],()),())=some ((eK,()),(h7:Int),0,()):=dr;rw[av2]at dr;exact aec sh bB (Bb (ta _ (dJ E))).1 (O8 _ _ (ta _ (dJ E)).ok b1 b2 b3).1 dr a2
  ·intro p id aT bB;have bB:d9 (p,(id:Int),())=some ((allM (inS b6 t) (ms.take ms.length),[],[],[],[],()),0,()):=bB;obtain ⟨b1,b2,b3⟩:=tc ms.length (ca _);have ad:=GW (ms.take ms.length) (inS b6 t);rw[eu]at ad bB b3 b2;have auz:2^ms.length<=256:=Nat.le_trans (Nat.pow_le_pow_right u jX) fc;have hmul:2^ms.length*((inS b6 t).length+1)<=256*101:=Nat.mul_le_mul auz u;have af:=acF (p,((id:Int),(sh,()))) (allM (inS b6 t) ms,[],[],[],[],()) rfl bB (by show (allM (inS b6 t) ms).length<_;omega) b6;rw[Pn]at af;exact ⟨1,fc,ass bB (b9.pairs.allM ta) u (λp aT=>by have:=b3 p aT;omega),by rw[au];exact af⟩
  ·intro m a8 oB;obtain ⟨b1,b2,b3⟩:=tc ms.length (ca _);obtain ⟨r,ar⟩:=oB _ b1 b2 b3;exact ⟨(r,[],[],[],[],()),rfl,λp eK bx id h7 bB dr a2=>aec sh bB a8 ar dr a2⟩
 |P::aI,h=>
  obtain ⟨ks,sums,buf,q,G,W,aC,bd,bD,dU,gB⟩:=akO h cI aN;obtain ⟨jY,ayt,at5,g1,dT,-⟩:=h.good.inner h.tab;have he:=eY (g1.symm.trans q);have RC:jY=ks:=by
   have V:bJ jY=bJ ks:=congrArg (λn:cz=>n.2.2.1) he;have aY:=congrArg (List.map Int.toNat) V
   rwa [uY,uY]at aY
  have ao:aI.length<=1:=by have:=h.two;simp at this;omega
  refine ⟨ks,λi=>([],cM P b6,bJ ks,sums,buf++ms.take i,()),W,aC,bd,λi=>rfl,?_,?_,?_,?_⟩
  ·rw[q];simp
  ·intro i E p eK bx id h7 bB dr a2;have dr:kR ((p,()),([],cM P b6,bJ ks,sums,buf++ms.take (i+1),()),())=some ((eK,()),(h7:Int),0,()):=dr;rw[eH E,<-List.append_assoc]at dr;exact aeb sh bB G (Bb (ta _ (dJ E))).1 (by rw[et,eE];omega) dr a2
  ·intro p id aT bB;have L: ∀m∈buf++ms,gb m:=λm hm=>by
    rcases dn.1 hm with hm |hm
    ·exact dU m hm
    ·exact ta m hm
   have bB:d9 (p,(id:Int),())=some (([],cM P b6,bJ ks,sums,buf++ms.take ms.length,()),0,()):=bB;rw[eu]at bB;have vo:(buf++ms).length<=13:=by rw[et];omega
   refine ⟨_,?_,gB p id (buf++ms) aT bB L u,?_⟩
   ·omega
   ·subst RC;have auH:ug Q t P aI b6 ([],cM P b6,bJ jY,sums,buf++ms,()) jY:=⟨rfl,rfl,dT.parts,dT.one,dT.six,dT.span,L,vo,dT.good,dT.low⟩;obtain ⟨ee,s1,-,s2⟩:=ab5 h.tab ao (p,((id:Int),(sh,()))) aT auH W bB b6 ⟨Nat.zero_le _,Nat.zero_le _⟩;have ch:ee=0:=by
     rcases Classical.em (ee=0) with cy |cy
     ·exact cy
     ·obtain ⟨j,oL,-,ep⟩:=s2.1 cy;have:=PK h.tab (dT.good j oL) ep;rw[b5 oL]at this;have:=W _ (dJ oL);omega
    rw[if_pos ch,Pn,ch]at s1;have s1:kQ ((p,((id:Int),(sh,()))),b6,())=some (0,allM (low Q aI jY) (buf++ms),()):=s1;rw[s1,AJ P aI q,aje]
  ·intro m a8 _;exact ⟨([],cM P b6,bJ ks,sums,buf++ms++[m],()),rfl,λp eK bx id h7 bB dr a2=>by have bB:d9 ((p,()),(id:Int),())=some (([],cM P b6,bJ ks,sums,buf++ms.take ms.length,()),0,()):=bB;rw[eu]at bB;exact aeb sh bB G a8 (by rw[et];omega) dr a2⟩
theorem O9 (x I:UInt8) (k p:N):bL (x::k) (I::p)=(decide (x=I)&&bL k p):=by unfold bL;simp only[ia,List.take_succ_cons,List.cons.injEq,Nat.add_le_add_iff_right,Bool.decide_and];cases decide (p.length<=k.length)<;>simp
theorem xv (x I:UInt8) (k p:N):Op.bytesLess (x::k) (I::p)=(decide (x<I)||(x==I&&Op.bytesLess k p)):=rfl
theorem Vl (k:N):Op.bytesLess k []=false:=by cases k<;>rfl
theorem PQ: ∀(j:Nat) (k:N),(!Op.bytesLess k (List.replicate j 255))=bL k (List.replicate j 255)
 |0,k=>by show (!Op.bytesLess k [])=_;rw[Vl];simp[bL]
 |j+1,[]=>rfl
 |j+1,x::k=>by
  rw[List.replicate_succ,xv,O9,<-PQ j k];by_cases h:x=255
  ·subst h;simp
  ·have G:x<255:=by
    rw[UInt8.lt_iff_toNat_lt];have:x.toNat≠255:=λe=>h (UInt8.toNat_inj.1 e)
    have:=x.toNat_lt;show x.toNat<255;omega
   rw[aW G,bh h];rfl
theorem aed {c:UInt8} (h:c≠255):(c+1).toNat=c.toNat+1:=by
 have:c.toNat≠255:=λe=>h (UInt8.toNat_inj.1 e)
 have:=c.toNat_lt;rw[UInt8.toNat_add];show (c.toNat+1)%256=_;omega
theorem Vt {c:UInt8} (au:c≠255) (j:Nat): ∀s k:N,(!Op.bytesLess k (s++c::List.replicate j 255)&&Op.bytesLess k (s++[c+1]))=bL k (s++c::List.replicate j 255)
 |[],[]=>rfl
 |[],x::k=>by
  have af:=aed au;rw[List.nil_append,List.nil_append,xv,xv,O9,Vl,Bool.and_false,Bool.or_false,<-PQ];have q:decide (x<c+1)=(decide (x<c)||decide (x=c)):=by rw[Bool.eq_iff_iff];simp only[Bool.or_eq_true,dS,UInt8.lt_iff_toNat_lt,<-UInt8.toNat_inj];omega
  rw[q];by_cases h:x=c
  ·subst h;have: ¬x<x:=by rw[UInt8.lt_iff_toNat_lt];omega
   rw[bh this];simp
  ·have W:(x==c)=false:=by simpa using h
   rw[W,bh h];cases decide (x<c)<;>rfl
 |I::s,[]=>rfl
 |I::s,x::k=>by
  have aO:=Vt au j s k;rw[List.cons_append,List.cons_append,xv,xv,O9,<-aO];by_cases q:x=I
  ·subst q;have: ¬x<x:=by rw[UInt8.lt_iff_toNat_lt];omega
   rw[bh this];simp
  ·have W:(x==I)=false:=by simpa using q
   simp only[W,Bool.false_and,Bool.or_false,bh q];cases decide (x<I)<;>rfl
theorem adB: ∀(n:Nat) (p:N),p.length=n-> ∃(s:N) (j:Nat),p=s++List.replicate j 255/\(s=[]\/ ∃r c,s=r++[c]/\c≠255)
 |0,p,h=>⟨[],0,by rw[List.length_eq_zero_iff.1 h];rfl,.inl rfl⟩
 |n+1,p,h=>by
  have ct:p≠[]:=λe=>by rw[e]at h;cases h
  have aT:=(List.dropLast_concat_getLast ct).symm;by_cases ad:p.getLast ct=255
  ·obtain ⟨s,j,q,G⟩:=adB n p.dropLast (by rw[List.length_dropLast];omega);refine ⟨s,j+1,?_,G⟩;rw[aT,ad,q,List.replicate_succ',List.append_assoc]
  ·exact ⟨p,0,aU,.inr ⟨_,_,aT,ad⟩⟩
theorem AU (a b:N):fl (a++b)=fl a++fl b:=by simp[fl]
theorem wJ (a:N):(fl a).length=a.length:=by simp[fl]
theorem asx (a:N):qv (fl a)=a:=by
 unfold qv fl;rw[List.map_map];have:((λn:Int=>UInt8.ofNat n.toNat)∘λb:UInt8=>(b.toNat:Int))=id:=by
  funext b
  show UInt8.ofNat ((b.toNat:Int)).toNat=b;rw[bI];exact UInt8.ofNat_toNat
 rw[this,List.map_id]
theorem aj1 (p:N) (B:cC) (de:B.length<=10^6):zg (p,[],[],B++[255],())=some (.inl (p,[],[],B,())):=by
 have ad:(B++[(255:Int)]).length=B.length+1:=aU;have M:bG ((((List.length (B++[(255:Int)])):Int):Int)>(0:Int)):=aW u;have w:i64.wrap (((List.length (B++[(255:Int)])):Int)-(1:Int))=(B.length:Int):=by rw[ad,cQ u];omega
 have V:bG ((0:Int)<=(B.length:Int)):=aW u;have aY:bG ((B.length:Int)<(List.length (B++[(255:Int)]):Int)):=aW u;have bp:bG ((B.length:Int)<=(List.length (B++[(255:Int)]):Int)):=aW u;have g:List.getD (B++[(255:Int)]) B.length (0:Int)=255:=wK rfl;have Tg:List.take B.length (B++[(255:Int)])=B:=List.take_left' rfl;simp only[zg,M,aj,w,V,aY,bN,bI,g,cf,JJ,bp,Tg]
theorem ad0 (p:N) (aT:p.length<=10^5): ∃S,sx p S:=by
 obtain ⟨s,j,q,G⟩:=adB _ p rfl;have hlen:p.length=s.length+j:=by rw[q];simp
 obtain ⟨z,g1,rfl⟩:=dG (b:=zg) (λi (_:H)=>(p,([]:N),([]:N),fl (s++List.replicate (j-i) 255),())) j (λ_ _=>True) (λz=>z=.inl (p,[],[],fl s,())) u
  (λi E _ _=>by
   left;refine ⟨(),trivial,?_⟩;have e:s++List.replicate (j-i) 255=(s++List.replicate (j-(i+1)) 255)++[255]:=by rw[show j-i=j-(i+1)+1 by omega,List.replicate_succ',List.append_assoc]
   rw[e,AU];exact aj1 p _ (by rw[wJ,et,List.length_replicate];omega))
  (λ_ _=>by
   refine ⟨_,rfl,?_⟩;rw[Nat.sub_self,List.replicate_zero,List.append_nil];rcases G with rfl |⟨r,c,rfl,au⟩
   ·rfl
   ·have ad:(fl (r++[c])).length=r.length+1:=by rw[wJ];simp
    have M:bG ((((List.length (fl (r++[c]))):Int):Int)>(0:Int)):=aW u;rw[et,List.length_singleton]at hlen;have w:i64.wrap (((List.length (fl (r++[c]))):Int)-(1:Int))=(r.length:Int):=by rw[ad,cQ u];omega
    have V:bG ((0:Int)<=(r.length:Int)):=aW u;have aY:bG ((r.length:Int)<(List.length (fl (r++[c])):Int)):=aW u;have g:List.getD (fl (r++[c])) r.length (0:Int)=(c.toNat:Int):=by rw[AU];exact wK (wJ r)
    have aN:(decide ((c.toNat:Int)=(255:Int)))=false:=bh (λe=>au (UInt8.toNat_inj.1 (by show c.toNat=255;omega)));simp only[zg,M,aj,w,V,aY,bN,bI,g,aN,JJ,av]) () trivial
 have g2:Mj (p,[],[],fl p,())=some (.inl (p,[],[],fl s,())):=by rw[Nat.sub_zero,<-q]at g1;exact g1
 have room:bG (p.length<=bC):=aW (by rw[ez];omega);rcases G with rfl |⟨r,c,rfl,au⟩
 ·refine ⟨(p,[],()),by simp only[kU,room,aj,g2];rfl,λk=> ?_,.inl rfl⟩;rw[List.nil_append]at q;show (!Op.bytesLess k p&&(decide (([]:N)=[])||Op.bytesLess k []))=_;rw[q,PQ];simp
 ·have ad:(fl (r++[c])).length=r.length+1:=by rw[wJ];simp
  have M:bG ((((List.length (fl (r++[c]))):Int):Int)>(0:Int)):=aW u;rw[et,List.length_singleton]at hlen;have w:i64.wrap (((List.length (fl (r++[c]))):Int)-(1:Int))=(r.length:Int):=by rw[ad,cQ u];omega
  have V:bG ((0:Int)<=(r.length:Int)):=aW u;have aY:bG ((r.length:Int)<(List.length (fl (r++[c])):Int)):=aW u;have g:List.getD (fl (r++[c])) r.length (0:Int)=(c.toNat:Int):=by rw[AU];exact wK (wJ r)
  have af:=aed au;have jd:=(c+1).toNat_lt;have azg:IntKind.u8.wrap ((c.toNat:Int)+1)=((c+1).toNat:Int):=by rw[af];show (((c.toNat:Int)+1)%256:Int)=_;omega
  have st:List.set (fl (r++[c])) r.length (((c+1).toNat:Nat):Int)=fl (r++[c+1]):=by rw[AU,AU,List.set_append_right _ _ (by rw[wJ];exact ca _),wJ,Nat.sub_self];rfl
  have ll:p=r++c::List.replicate j 255:=by rw[q,List.append_assoc];rfl
  refine ⟨(p,r++[c+1],()),by simp only[kU,room,aj,g2,M,w,V,aY,bN,bI,g,azg,st,asx],λk=> ?_,.inr ?_⟩
  ·have ct: ¬r++[c+1]=[]:=aU;show (!Op.bytesLess k p&&(decide (r++[c+1]=[])||Op.bytesLess k (r++[c+1])))=_;rw[bh ct,Bool.false_or,ll,Vt au]
  ·show Op.bytesLess p (r++[c+1])=true;have:c<c+1:=by rw[UInt8.lt_iff_toNat_lt];omega
   rw[ll,m7,xv,aW this,Bool.true_or]
theorem uA: ∀(t:az) (x y:t.den),az.eqb t x y=az.eqb t y x
 | .bool,x,y=>by show ((x:Bool)==y)=((y:Bool)==x);exact Bool.beq_comm
 | .int _,x,y=>decide_eq_decide.2 ⟨Eq.symm,Eq.symm⟩
 | .str,x,y=>decide_eq_decide.2 ⟨Eq.symm,Eq.symm⟩
 | .pair a b,x,y=>by show (a.eqb x.1 y.1&&b.eqb x.2 y.2)=(a.eqb y.1 x.1&&b.eqb y.2 x.2);rw[uA a,uA b]
 | .list _,_,_=>rfl
 | .unit,_,_=>rfl
 | .opq,_,_=>rfl
structure Vo (m:bE):Prop where
 kind:m.1=1\/m.1=2\/m.1=3\/m.1=4\/m.1=5\/m.1=6
 key:m.1=1\/m.1=2->m.2.1.length<=65535
 span:m.1=3\/m.1=6->mD m.2.2.2.1
 mv:m.1=4\/m.1=5->m.2.2.2.2.1.length<=200/\m.2.2.2.2.2.1.length<=200/\bL m.2.2.2.2.1 m.2.2.2.2.2.1=false/\bL m.2.2.2.2.2.1 m.2.2.2.2.1=false
def iu (a b c:Int):Bool:=decide (b<=a)&&decide (a<=c)
theorem PL {a b c:Int}:iu a b c=true↔b<=a/\a<=c:=by simp[iu]
theorem oJ (a b c:Int):o4 (a,b,c,())=some (iu a b c,()):=by unfold iu;cases h:decide (b<=a)<;>simp only[o4,h,aj,av,Bool.true_and,Bool.false_and]
theorem lp (a b c:Int):xk (a,b,c,())=some (iu a b c,()):=oJ a b c
theorem U2 (d:aK): ∃b,y6 (d,())=some (b,())/\tJ (d,())=some (b,())/\(b=true->mD d):=by
 obtain ⟨e,he⟩:=xc d;have kM:kI (d,())=some (e,()):=he;cases e with
 |true=>exact ⟨false,by simp only[y6,kM,cK,av],by simp only[tJ,he,cK,av],λh=>by cases h⟩
 |false=>
  refine ⟨decide ((if ((d.1.length:Int))<((d.2.1.length:Int)) then ((d.2.1.length):Int) else ((d.1.length):Int))<=(65535:Int)),by simp only[y6,kM,cH,aj],?_,λ_=> ?_⟩
  ·by_cases q:(d.1.length:Int)<=65535
   ·by_cases G:(d.2.1.length:Int)<=65535
    ·have aY:bG ((if ((d.1.length:Int))<((d.2.1.length:Int)) then ((d.2.1.length):Int) else ((d.1.length):Int))<=(65535:Int)):=aW (by split<;>omega);simp only[tJ,he,cH,aj,aW q,aW G,aY]
    ·have aY:(decide ((if ((d.1.length:Int))<((d.2.1.length:Int)) then ((d.2.1.length):Int) else ((d.1.length):Int))<=(65535:Int)))=false:=bh (by split<;>omega);simp only[tJ,he,cH,aj,aW q,bh G,aY]
   ·have aY:(decide ((if ((d.1.length:Int))<((d.2.1.length:Int)) then ((d.2.1.length):Int) else ((d.1.length):Int))<=(65535:Int)))=false:=bh (by split<;>omega);simp only[tJ,he,cH,aj,bh q,av,aY]
  ·unfold lK at he;by_cases h:d.2.1=[]
   ·exact .inl h
   ·simp only[bh h,cH,aj,bM,c0,and_true,Bool.or_eq_false_iff,decide_eq_false_iff_not]at he;rcases h0 d.1 d.2.1 with q |q |q
    ·exact .inr q
    ·exact absurd q.symm he.2
    ·rw[he.1]at q;cases q
theorem adK (f t:N):rT (f,t,())=some ((iu f.length 1 200&&iu t.length 1 200)&&(!bL f t&& !bL t f),()):=by
 cases q:iu f.length 1 200
 ·simp only[rT,oJ,q,av,Bool.false_and]
 ·cases G:iu t.length 1 200
  ·simp only[rT,oJ,q,G,aj,av,Bool.and_false,Bool.false_and]
  ·cases W:bL f t<;>simp only[rT,oJ,q,G,aj,yO,adr,W,cK,cH,av,bN,Bool.true_and,Bool.false_and]
theorem U8 (s:Int) (r:Bool) (m:bE) (hm:m=(s,m.2.1,m.2.2.1,m.2.2.2.1,m.2.2.2.2.1,m.2.2.2.2.2.1,m.2.2.2.2.2.2.1,())):
  ox (r,s,true,m,())=some (bif (iu m.2.2.2.2.1.length 1 200&&iu m.2.2.2.2.2.1.length 1 200)&&(!bL m.2.2.2.2.1 m.2.2.2.2.2.1&& !bL m.2.2.2.2.2.1 m.2.2.2.2.1) then az.eqb am (m.1,[],[],([],[],()),m.2.2.2.2.1,m.2.2.2.2.2.1,0,()) m else false,()):=by
 cases W:bL m.2.2.2.2.1 m.2.2.2.2.2.1
 ·cases aC:bL m.2.2.2.2.2.1 m.2.2.2.2.1
  ·cases q:iu m.2.2.2.2.1.length 1 200
   ·simp only[ox,tT,W,aC,cH,aj,vV,lp,q,av,Bool.false_and]
   ·cases G:iu m.2.2.2.2.2.1.length 1 200
    ·simp only[ox,tT,W,aC,cH,aj,vV,lp,q,G,av,Bool.and_false,Bool.false_and]
    ·simp only[ox,tT,W,aC,cH,aj,vV,lp,q,G,bN];rw[uA]
  ·simp only[ox,tT,W,aC,cH,cK,aj,vV,av,Bool.and_false]
 ·simp only[ox,tT,W,cK,av,aj,vV,Bool.false_and,Bool.and_false]
theorem akR (m:bE): ∃b,h1 (m,())=some (b,())/\lb (m,())=some (b,())/\(b=true->Vo m):=by
 obtain ⟨s,k,v,d,f,t,n,ae⟩:=m;by_cases q:s=1
 ·subst q;cases a:iu k.length 1 65535
  ·exact ⟨false,by simp only[h1,v8,cf,aj,oJ,a,av],by simp only[lb,lp,a,cf,aj,av],λh=>by cases h⟩
  ·cases b:decide (((v.length:Int):Int)<=64)
   ·exact ⟨false,by simp only[h1,v8,cf,aj,oJ,a,b,av],by simp only[lb,lp,a,b,cf,aj,av],λh=>by cases h⟩
   ·cases c:iu n 0 1000000000
    ·exact ⟨false,by simp only[h1,v8,cf,aj,oJ,a,b,c,av],by simp only[lb,lp,a,b,c,cf,aj,av],λh=>by cases h⟩
    ·exact ⟨az.eqb am (1,k,v,([],[],()),[],[],n,()) (1,k,v,d,f,t,n,ae),by simp only[h1,v8,cf,aj,oJ,a,b,c,KT],by simp only[lb,lp,a,b,c,cf,aj];rw[uA],λ_=>⟨.inl rfl,λ_=>by have:=(PL.1 a).2;show k.length<=65535;omega,λh=>(by rcases h with h |h<;>cases h),λh=>(by rcases h with h |h<;>cases h)⟩⟩
 ·have cG:(decide (s=1))=false:=bh q;by_cases G:s=2
  ·subst G;cases a:iu k.length 1 65535
   ·exact ⟨false,by simp only[h1,Eb,cG,cf,aj,oJ,a,av],by simp only[lb,lp,a,cG,cf,aj,av],λh=>by cases h⟩
   ·exact ⟨az.eqb am (2,k,[],([],[],()),[],[],0,()) (2,k,v,d,f,t,n,ae),by simp only[h1,Eb,cG,cf,aj,av,oJ,a,KS],by simp only[lb,lp,a,cG,cf,aj,av];rw[uA],λ_=>⟨.inr (.inl rfl),λ_=>by have:=(PL.1 a).2;show k.length<=65535;omega,λh=>(by rcases h with h |h<;>cases h),λh=>(by rcases h with h |h<;>cases h)⟩⟩
  ·have dq:(decide (s=2))=false:=bh G;by_cases W:s=3
   ·subst W;obtain ⟨b,M,V,aY⟩:=U2 d;cases b
    ·exact ⟨false,by simp only[h1,DQ,cG,dq,cf,aj,M,av],by simp only[lb,lp,V,cG,dq,cf,aj,av],λh=>by cases h⟩
    ·exact ⟨az.eqb am (3,[],[],d,[],[],0,()) (3,k,v,d,f,t,n,ae),by simp only[h1,DQ,cG,dq,cf,aj,av,M,KB],by simp only[lb,lp,V,cG,dq,cf,aj,av];rw[uA],λ_=>⟨.inr (.inr (.inl rfl)),λh=>(by rcases h with h |h<;>cases h),λ_=>aY rfl,λh=>(by rcases h with h |h<;>cases h)⟩⟩
   ·have n3:(decide (s=3))=false:=bh W;have ahA: ∀cO:Bool,(bif (iu f.length 1 200&&iu t.length 1 200)&&(!bL f t&& !bL t f) then cO else false)=true->f.length<=200/\t.length<=200/\bL f t=false/\bL t f=false:=by
     intro cO h;cases au:(iu f.length 1 200&&iu t.length 1 200)&&(!bL f t&& !bL t f)
     ·rw[au]at h;cases h
     ·simp only[bQ,eS,PL]at au;exact ⟨u,u,au.2.1,au.2.2⟩
    by_cases aC:s=4
    ·subst aC;have al:=U8 4 (iu n 0 1000000000) (4,k,v,d,f,t,n,ae) rfl;refine ⟨_,?_,by simp only[lb,lp,cG,dq,n3,cf,aj,av];exact al,λh=>⟨.inr (.inr (.inr (.inl rfl))),λh=>(by rcases h with h |h<;>cases h),λh=>(by rcases h with h |h<;>cases h),λ_=>ahA _ h⟩⟩;cases au:(iu f.length 1 200&&iu t.length 1 200)&&(!bL f t&& !bL t f)<;>simp only[h1,wt,cG,dq,n3,cf,aj,av,adK,au,KC]
    ·have n4:(decide (s=4))=false:=bh aC;by_cases bd:s=5
     ·subst bd;have al:=U8 5 (iu n 0 1000000000) (5,k,v,d,f,t,n,ae) rfl;refine ⟨_,?_,by simp only[lb,lp,cG,dq,n3,n4,cf,aj,av];exact al,λh=>⟨.inr (.inr (.inr (.inr (.inl rfl)))),λh=>(by rcases h with h |h<;>cases h),λh=>(by rcases h with h |h<;>cases h),λ_=>ahA _ h⟩⟩;cases au:(iu f.length 1 200&&iu t.length 1 200)&&(!bL f t&& !bL t f)<;>simp only[h1,J4,cG,dq,n3,n4,cf,aj,av,adK,au,wl]
     ·have ke:(decide (s=5))=false:=bh bd;by_cases bD:s=6
      ·subst bD;obtain ⟨b,M,V,aY⟩:=U2 d;cases b
       ·exact ⟨false,by simp only[h1,y8,cG,dq,n3,n4,ke,cf,aj,M,av],by simp only[lb,ox,lp,V,cG,dq,n3,n4,ke,cf,aj,av],λh=>by cases h⟩
       ·cases c:iu n 0 1000000000
        ·exact ⟨false,by simp only[h1,y8,cG,dq,n3,n4,ke,cf,aj,M,oJ,c,av],by simp only[lb,ox,lp,c,V,cG,dq,n3,n4,ke,cf,aj,av],λh=>by cases h⟩
        ·exact ⟨az.eqb am (6,[],[],d,[],[],n,()) (6,k,v,d,f,t,n,ae),by simp only[h1,y8,cG,dq,n3,n4,ke,cf,aj,av,M,oJ,c,Kr],by simp only[lb,ox,lp,c,V,cG,dq,n3,n4,ke,cf,aj,av];rw[uA],λ_=>⟨.inr (.inr (.inr (.inr (.inr rfl)))),λh=>(by rcases h with h |h<;>cases h),λ_=>aY rfl,λh=>(by rcases h with h |h<;>cases h)⟩⟩
      ·have n6:(decide (s=6))=false:=bh bD;exact ⟨false,by simp only[h1,cG,dq,n3,n4,ke,n6,av],by simp only[lb,ox,lp,cG,dq,n3,n4,ke,n6,av],λh=>by cases h⟩
theorem atq {m:bE} (hm:Vo m) (t:ak) (af:cP bT t) (ad:t.length<10^11) (ag: ∀p∈t,p.1.length<1000): ∃r,kP (t,m,())=some (r,()):=by
 by_cases q:m.1=1
 ·have d1:decide (m.1=1)=true:=aW q;have M:=ad4 t (m.2.1,m.2.2.1,m.2.2.2.2.2.2.1,()) af u;exact ⟨_,by simp only[kP,KD,d1,aj,M];rfl⟩
 ·have d1:decide (m.1=1)=false:=bh q;by_cases G:m.1=2
  ·have d2:decide (m.1=2)=true:=aW G;have jh:=(adX m.2.1 (by have:=hm.key (.inr G);omega)).2;have M:=A8 t (m.2.1,m.2.1++[0],()) (.inr (Qc _)) af u;exact ⟨_,by simp only[kP,KA,GI,d1,d2,aj,av,jh,M];rfl⟩
  ·have d2:decide (m.1=2)=false:=bh G;by_cases W:m.1=3
   ·have d3:decide (m.1=3)=true:=aW W;have M:=A8 t m.2.2.2.1 (hm.span (.inl W)) af u;exact ⟨_,by simp only[kP,wn,d1,d2,d3,aj,av,M];rfl⟩
   ·have d3:decide (m.1=3)=false:=bh W;by_cases bD:m.1=6
    ·have d6:decide (m.1=6)=true:=aW bD;have d4:decide (m.1=4)=false:=bh (by rw[bD];decide);have d5:decide (m.1=5)=false:=bh (by rw[bD];decide);have M:=acM t m u;exact ⟨_,by simp only[kP,J5,d1,d2,d3,d4,d5,d6,aj,av,AV t (show t.length<10^12 by omega),M];rfl⟩
    ·have lT:m.1=4\/m.1=5:=by
      rcases hm.kind with h |h |h |h |h |h
      ·exact absurd h q
      ·exact absurd h G
      ·exact absurd h W
      ·exact .inl h
      ·exact .inr h
      ·exact absurd h bD
     obtain ⟨dr,a2,a3,a4⟩:=hm.mv lT;obtain ⟨S,oS⟩:=ad0 m.2.2.2.2.1 u;obtain ⟨Fs,py⟩:=ad0 m.2.2.2.2.2.1 u;have hn: ∀p∈t,m.2.2.2.2.2.1.length+p.1.length<10^12:=λp aT=>by have:=ag p aT;omega
     rcases lT with aC |bd
     ·have e:=ac3 t m oS py (λk eA=>by
       cases h:bL k m.2.2.2.2.1
       ·rfl
       ·rcases adL h eA with cy |cy
        ·rw[a3]at cy;cases cy
        ·rw[a4]at cy;cases cy) aC af ad hn
      exact ⟨_,by simp only[kP,d1,d2,d3,av,aW aC,aj,e];rfl⟩
     ·have d4:decide (m.1=4)=false:=bh (by rw[bd];decide);have e:=ON t m oS py af ad hn;exact ⟨_,by simp only[kP,d1,d2,d3,d4,av,aW bd,aj,e];rfl⟩
def Au (Q:cS) (root:Nat) (iR:Nat->cz) (i:Nat) (s:cb×Nat):Prop:=
 (i=0/\s.1=mk Q (λ_=>1)/\s.2=root)\/Left Q root s.1 s.2 (iR i)
theorem ac5 {Q:cS} {root:Nat} {iR:Nat->cz} {i:Nat} {s:cb×Nat} (ar:root<Q.length) (bW:Q[root]? =some (iR 0)) (h:Au Q root iR i s):od (s.1,()) Q root root/\d9 ((s.1,()),(s.2:Int),())=some (iR i,0,()):=by
 rcases h with ⟨rfl,q,G⟩|h
 ·rw[q,G];have bB:=U5 Q;refine ⟨bB.cut u,?_⟩;have:=bB root _ ar bW;rw[if_neg u]at this;exact this
 ·exact ⟨h.gets ar,adk (by have:=h.len;have:=h.at_;omega) h.new⟩
theorem ac4 {Q:cS} {ks:dB} {root:Nat} {iR:Nat->cz} (ab:uh Q root) (ho: ∀k∈ks,k<root) (dL:ks.Nodup) (bD:ks.length<=6) (ag: ∀i,(iR i).2.2.1=bJ ks) (bW:Q[root]? =some (iR 0)) {i:Nat} {s:cb×Nat} (h:Au Q root iR i s) {aE:cz} (eA:aE.2.2.1=bJ ks):
  ∃eK bx h7,kR ((s.1,()),aE,())=some ((eK,()),((h7:Nat):Int),0,())/\nb ((eK,()),(s.2:Int),())=some ((bx,()),0,())/\Left Q root bx h7 aE:=by
 have ar:=ab.lt;have aN:=ab.len;rcases h with ⟨rfl,q,G⟩|h
 ·rw[q,G];exact as7 ar aN bW (ag 0) eA ho dL bD
 ·exact atW h ar aN (ag i) eA ho dL bD
theorem at0 {Q:cS} {ks:dB} {root:Nat} {iR:Nat->cz} (ab:uh Q root) (ho: ∀k∈ks,k<root) (dL:ks.Nodup) (bD:ks.length<=6) (ag: ∀i,(iR i).2.2.1=bJ ks) (bW:Q[root]? =some (iR 0)) (sh:bi) (ms:cD) (jX:ms.length<=100)
  (qd: ∀i (E:i<ms.length) (p eK bx:cb) (id h7:Nat),d9 ((p,()),(id:Int),())=some (iR i,0,())->kR ((p,()),iR (i+1),())=some ((eK,()),(h7:Int),0,())->nb ((eK,()),(id:Int),())=some ((bx,()),0,())->
   nf (((p,()),((id:Int),(sh,()))),ms[i],())=some (((bx,()),((h7:Int),(sh,()))),0,())) (bad:bE) (C:ak):
  ∃s:cb×Nat,Au Q root iR ms.length s/\Tx (true,(0:Int),bad,C,ms,((mk Q (λ_=>1),()),((root:Int),(sh,()))),())=some (.inr (true,bad,C,ms,((s.1,()),((s.2:Int),(sh,()))),())):=by
 have ar:=ab.lt;obtain ⟨z,dI,s,cW,rfl⟩:=dG (b:=Du) (λi (s:cb×Nat)=>(true,(i:Int),bad,C,ms,((s.1,()),((s.2:Int),(sh,()))),())) ms.length (λi s=>Au Q root iR i s)
  (λz=> ∃s:cb×Nat,Au Q root iR ms.length s/\z=.inr (true,bad,C,ms,((s.1,()),((s.2:Int),(sh,()))),())) u
  (λi E s aP=>by left;have M:=e5 (i:=i) (l:=ms) u;have V:=dZ i;have aY:=fx (j:=i) u;obtain ⟨eK,bx,h7,dr,a2,a3⟩:=ac4 ab ho dL bD ag bW aP (ag (i+1));have a4:=qd i E s.1 eK bx s.2 h7 (ac5 ar bW aP).2 dr a2;refine ⟨(bx,h7),.inr a3,?_⟩;simp only[Du,M,V,aj,bN,bI,b5 E,a4,cf,cK,av,aY])
  (λs aP=>by have M:=fE ms;exact ⟨_,⟨s,aP,rfl⟩,by simp only[Du,M,av]⟩) (mk Q (λ_=>1),root) (.inl ⟨rfl,rfl,rfl⟩)
 exact ⟨s,cW,dI⟩
theorem a12 {Q:cS} {root:Nat} (ab:uh Q root):wC ((mk Q (λ_=>1),()),([(root:Int)]:cC),())=some (true,()):=by
 have ad:(mk Q (λ_=>1)).length=Q.length:=l0 _ _;have ar:=ab.lt;have aN:=ab.len;have bB: ∀i,i<Q.length->List.getD (mk Q (λ_=>1)) i dj=(true,(false,((1:Int),(Q.getD i ht,())))):=λi E=>by rw[Bn E,b5 E]
 have hu: ∀i,i<Q.length->gz (mk Q (λ_=>1)) i=true:=λi E=>by unfold gz;rw[bB i E]
 have fQ:=O5 (p:=mk Q (λ_=>1)) (ks:=[]) (id:=0) hu Q.length (ca _);rw[eu]at fQ;have hR:BB (mk Q (λ_=>1)) (pW Q [] 0):=by
  refine ⟨u,λi E _=> ?_,λi E _ k eA=> ?_,λi E nM=> ?_,λi=> ?_⟩
  ·rw[bB i u];unfold pW;rw[if_pos (c:=i<Q.length) u];exact (ab.at_ u).1
  ·unfold pW at eA;rw[if_pos (c:=i<Q.length) u]at eA;have:=(ab.at_ u).2.2 k eA;exact ⟨this,hu k u⟩
  ·rw[hu i u]at nM;cases nM
  ·unfold pW;split
   ·rename_i q;have:=(ab.at_ q).2.1;omega
   ·split<;>simp
 have Ec: ∀i,i<(mk Q (λ_=>1)).length->gz (mk Q (λ_=>1)) i=true->(List.getD (mk Q (λ_=>1)) i dj).2.2.1=((([root]:dB).count i+(gI (mk Q (λ_=>1)) (pW Q [] 0) (mk Q (λ_=>1)).length).count i:Nat):Int):=by
  intro i E _;rw[ad]at E;rw[ad,fQ,ab.cnt,bB i E];by_cases q9:i=root
  ·subst q9;rw[if_neg (c:=i<Q.length/\i≠i) (λbg=>bg.2 rfl)];simp
  ·have:([root]:dB).count i=0:=List.count_eq_zero.2 (by simp;exact q9);rw[this,if_pos (c:=i<Q.length/\i≠root) ⟨E,q9⟩];rfl
 exact adx hR [root] (λr vA=>by
  obtain rfl:=gl.1 vA;exact ⟨u,hu r ar⟩) aU Ec (λi E nM=>by have aX:=Ec i E nM;rw[bB i u]at aX;have aX:(1:Int)=_:=aX;omega)
theorem aqD (x:fh) (l:List o0) (bad:bE) (an:Av x) (ad:(∀y∈l,rO y)/\l.length<10^18):zd (x,l,bad,())=some (true,()):=by
 obtain ⟨Q,root,q,G,W,aC,bd,bD,dU⟩:=akU x an;have b9:=l9.made x an G;have ab:uh Q root:=⟨u,b9.lt,bD,dU⟩;have cI:cT (ny x):=akc _ (λy bu=>an.t.1 y (List.mem_of_mem_take bu)) (by simp;omega);have yB:(ny x).length<=100:=by have:=A4 (x.1.take 40);rw[eE]at this;unfold ny;omega
 obtain ⟨ms,dI,cW,eX⟩:=adU l ad.1 8 u ad.2;have dI:zM (l,(8:Int),())=some (ms,()):=dI;have afI:=ajL x.2.2.1 an.w;obtain ⟨sh,awm⟩: ∃sh,zx x.2.2.1=sh:=⟨_,rfl⟩;rw[awm]at q afI;obtain ⟨ks,iR,bf,a6,cq,ef,gS,iv,rC,agB⟩:=akZ b9 cI u yB sh ms eX u;have iT:=b9.scan sh b6 ⟨Nat.zero_le _,Nat.zero_le _⟩;rw[Pn]at iT;have jd:=b9.clen;have nG:=b9.content.srt;have ae6:=b9.content.key;obtain ⟨C,eM⟩: ∃C,cont Q (mb x) root=C:=⟨_,rfl⟩;rw[eM]at iT jd nG ae6 rC;obtain ⟨s,bq,bU⟩:=at0 ab bf a6 cq ef gS sh ms u iv bad C;obtain ⟨g1,g2⟩:=ac5 b9.lt gS bq;have awo:wC ((s.1,()),([(s.2:Int)]:cC),())=some (true,()):=by
  rcases bq with ⟨-,M,V⟩|bq
  ·rw[M,V];exact a12 ab
  ·exact as8 bq ab (by unfold h8;rw[wd gS,ef,uY]) (ef _) bf cq
 obtain ⟨v,v1,v2,v3⟩:=rC (s.1,()) s.2 g1 g2;have dc:zR (((s.1,()),((s.2:Int),(sh,()))),())=some (true,()):=by have V:bG (v>(0:Int)):=aW v1;simp only[zR,afI,aj,v2,V]
 have gF:=Vm x;have fQ:=U0 (t:=C) (l:=ms) nG (λm hm=>(eX m hm).ok) (by have gB:2^ms.length<=2^8:=Nat.pow_le_pow_right u cW;have:=Nat.mul_le_mul gB (show C.length+1<=36870177 by omega);omega) u (B:=140) u u (λp aT=>by have:=ae6 p aT;omega)
 have oA:=GW ms C;have gB:2^ms.length<=2^8:=Nat.pow_le_pow_right u cW;have pc:=Nat.mul_le_mul gB (show C.length+1<=36870177 by omega);have same:=atp (allM C ms) u;obtain ⟨b,b1,b2,b3⟩:=akR bad;obtain ⟨e,U,M,V⟩: ∃(e:Int) (U:c1),nf (((s.1,()),((s.2:Int),(sh,()))),bad,())=some (U,e,())/\(decide (e=(50:Int))== !b)=true:=by
  cases b with
  |false=>exact ⟨50,((s.1,()),((s.2:Int),(sh,()))),by simp only[nf,b1,cH,aj],rfl⟩
  |true=>
   obtain ⟨aE,cG,dq⟩:=agB bad b1 (λt dr a2 a3=>atq (b3 rfl) t dr a2 a3);obtain ⟨eK,bx,h7,dr,a2,-⟩:=ac4 ab bf a6 cq ef gS bq cG;exact ⟨0,_,dq s.1 eK bx s.2 h7 g2 dr a2,rfl⟩
 unfold zd;rw[aj7];simp only[q,iT,cf,cK,av,dI,bU,v3,M,aj,dc,awo,fQ,same,b2,V]
theorem arx {B:az->Nat} (W:B D5=3) (bD:B rV=6) (oa:fh) (iV:List o0) (kW:bE) (g0:az.good B Vf oa) (g1:az.good B (.list rV) iV) (_:az.good B am kW):zd (oa,iV,kW,())=some (true,()):=
 aqD oa iV kW (al3 W bD g0) (BD bD g1)
end D
