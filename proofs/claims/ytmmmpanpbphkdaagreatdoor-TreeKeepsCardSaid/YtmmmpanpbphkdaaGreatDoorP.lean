import Derived.Test.YtmmmpanpbphkdaaGreatDoorPb
set_option linter.unusedVariables false
set_option linter.unusedSimpArgs false
set_option maxRecDepth 100000
open Go Go.X
open Go.IntKind (i64)
namespace D
open Go
open Go
def UE (m:bH) (l r:au):Prop:= ∀k,dc r k=true↔ ∃dq st,dc l dq=true/\hq m dq=.old k st
theorem GZ (l m:au) (ad:l.length<1000000000) (hm:m.length<100) (B:Nat) (q:1<=B) (di:fu B l) (kp:fu B m):
  ∃r,zb (m,l,())=some (l,r,())/\(∀k,dc r k=(dc l k&& !dc m k))/\r.length<=(m.length+1)*l.length/\n8 r/\fu B r:=by
 obtain ⟨r,e,h⟩:=ai0 l m ad hm B q di kp;exact ⟨r,by simp only[zb,e],h⟩
theorem ajq (m:bH) (aM:m.2.2.2.2.1∈fc) (aW:m.2.2.2.2.2.1∈fc) (l out:au) (ad:l.length<1000000000) (W:out.length<10^11) (B:Nat) (di:fu B l) (kp:B<=10^5) (sW:4<=B) (c:Int):
  ∃w,SJ ((l.length:Int),(0:Int),c,l,m,dW m.2.2.2.2.2.1,out,())=some (.inl (c,l,out++w,()))/\w.length<=l.length/\fu (B+4) w/\
   ∀k,dc w k=true↔(b7 k m.2.2.2.2.1=true/\dc l (fZ m.2.2.2.2.1 m.2.2.2.2.2.1 k)=true):=by
 have Iv:=w7 aW;have ahz:=ux _ aW;obtain ⟨z,q,w,rfl,G⟩:=dG (b:=ya) (λi (w:au)=>((l.length:Int),(i:Int),c,l,m,dW m.2.2.2.2.2.1,out++w,())) l.length
  (λi w=>w.length<=i/\fu (B+4) w/\ ∀k,dc w k=true↔(b7 k m.2.2.2.2.1=true/\dc (l.take i) (fZ m.2.2.2.2.1 m.2.2.2.2.2.1 k)=true))
  (λz=> ∃w,z=.inl (c,l,out++w,())/\w.length<=l.length/\fu (B+4) w/\ ∀k,dc w k=true↔(b7 k m.2.2.2.2.1=true/\dc l (fZ m.2.2.2.2.1 m.2.2.2.2.2.1 k)=true)) u
  (λi E w hw=>by
   left;obtain ⟨dn,da,gH⟩:=hw;have M:=e3 (i:=i) (l:=l) u;have cl:bG ((0:Int)<=((i:Nat):Int)):=aX u;have JT:=fv (j:=i) u;have nF:=dI E;have jE: ∀k,dc (l.take (i+1)) k=(dc (l.take i) k||ch l[i] k):=by intro k;rw[eK E,nT,ln]
   have Ck: ∀k,b7 k m.2.2.2.2.1=true->b7 (fZ m.2.2.2.2.1 m.2.2.2.2.2.1 k) m.2.2.2.2.2.1=true:=λk _=>uX
   cases CT:kh l[i] (dW m.2.2.2.2.2.1)
   ·have he:jC (hJ l[i] (dW m.2.2.2.2.2.1))=true:=by rw[Ov,CT];rfl
    refine ⟨w,⟨u,da,λk=> ?_⟩,?_⟩
    ·rw[gH k,jE,Bool.or_eq_true];constructor
     ·rintro ⟨ab,aE⟩;exact ⟨ab,.inl aE⟩
     ·rintro ⟨ab,aE |aE⟩
      ·exact ⟨ab,aE⟩
      ·have bf:=Ck k ab;rw[<-nS aW]at bf;rw[Bg.2 ⟨_,aE,bf⟩]at CT;cases CT
    ·simp only[ya,M,cl,bN,an,bE,b5 E,Fy,Ec,he,cL,ay,JT]
   ·have he:jC (hJ l[i] (dW m.2.2.2.2.2.1))=false:=by rw[Ov,CT];rfl
    obtain ⟨r,ag,aS,bP⟩:=ajH (x:=hJ l[i] (dW m.2.2.2.2.2.1)) aW aM rfl CT (B:=B) (aca u (di _ nF) ⟨by rw[Iv.2.1];omega,u⟩) kp sW;have room:bG ((List.length (out++w)+List.length ([r]:List (aL)))*32<=am):=aX (by rw[ey];simp;omega);refine ⟨w++[r],⟨by simp;omega,λd ah=> ?_,λk=> ?_⟩,?_⟩
    ·rcases dp.1 ah with h |h
     ·exact da d h
     ·obtain rfl:=gv.1 h;exact aS
    ·rw[nT,ln,Bool.or_eq_true,gH k,bP k,jE,AG,Bool.or_eq_true,bQ];constructor
     ·rintro (⟨ab,aE⟩|⟨ab,aE,-⟩)
      ·exact ⟨ab,.inl aE⟩
      ·exact ⟨ab,.inr aE⟩
     ·rintro ⟨ab,aE |aE⟩
      ·exact .inl ⟨ab,aE⟩
      ·refine .inr ⟨ab,aE,?_⟩;rw[nS aW];exact Ck k ab
    ·rw[<-List.append_assoc];simp only[ya,M,cl,bN,an,bE,b5 E,Fy,Ec,he,cU,ag,room,JT])
  (λw hw=>by have M:=fD l;rw[ew]at hw;exact ⟨_,⟨w,rfl,hw⟩,by simp only[ya,M,ay]⟩) [] ⟨ca _,λd ah=>(by cases ah),λk=>(by simp[dc])⟩
 rw[List.append_nil]at q;exact ⟨w,q,G⟩
theorem alb (i:Int) (m:bH) (hm:ig m) (vx:m.1=3->m.2.2.2.1.1.length<=200/\m.2.2.2.1.2.1.length<=200) (l:au) (ad:l.length<10^8) (B:Nat) (di:fu B l) (kp:B<=10000) (sW:200<=B) (mo:n8 l):
  ∃r,pS (i,m,(0:Int),l,())=some (true,0,r,())/\UE m l r/\r.length<=4*l.length/\fu (B+4) r/\n8 r:=by
 have B8: ∀r:au,fu B r->fu (B+4) r:=λr h d ah=>by have:=h d ah;omega
 have Cb:bG ((-1:Int)= -1):=rfl;have one: ∀k∈jF,qq (k,())=some ((k,k++[0],()),())/\fu B [(k,k++[0],())]:=by
  intro k af;refine ⟨(xh af).1,λd ah=> ?_⟩;obtain rfl:=gv.1 ah;have:=(uc k af).2;constructor
  ·show k.length<=B;omega
  ·show (k++[0]).length<=B;simp;omega
 by_cases q:m.1=1
 ·obtain ⟨fH,jJ⟩:=one m.2.1 (hm.key (.inl q));obtain ⟨r,e,g1,g2,g3,g4⟩:=GZ l [(m.2.1,m.2.1++[0],())] u aU B u di jJ;refine ⟨r,by simp only[pS,sF,q,cJ,an,fH,e,Cb],λk=> ?_,by simp at g2;omega,B8 r g4,g3⟩;rw[g1 k,ln,GL,bQ,eT,decide_eq_false_iff_not];unfold hq;simp only[q,if_true];constructor
  ·rintro ⟨G,ab⟩;exact ⟨k,none,G,by rw[if_neg (λe=>ab e.symm)]⟩
  ·rintro ⟨dq,st,G,ab⟩;by_cases e:m.2.1=dq
   ·rw[if_pos e]at ab;cases ab
   ·rw[if_neg e]at ab;injection ab with M V
    rw[<-M];exact ⟨G,λh=>e h.symm⟩
 ·have d1:decide (m.1=1)=false:=bm q;by_cases G:m.1=2
  ·obtain ⟨fH,jJ⟩:=one m.2.1 (hm.key (.inr G));obtain ⟨r,e,g1,g2,g3,g4⟩:=GZ l [(m.2.1,m.2.1++[0],())] u aU B u di jJ;refine ⟨r,by simp only[pS,sF,G,d1,cJ,an,ay,fH,e,Cb,show decide ((2:Int)=1)=false from rfl],λk=> ?_,by simp at g2;omega,B8 r g4,g3⟩;rw[g1 k,ln,GL,bQ,eT,decide_eq_false_iff_not];constructor
   ·rintro ⟨aE,ab⟩;refine ⟨k,none,aE,?_⟩;unfold hq;rw[if_neg q,if_pos G,if_neg (λe=>ab e.symm)]
   ·rintro ⟨dq,st,aE,ab⟩;unfold hq at ab;rw[if_neg q,if_pos G]at ab;by_cases e:m.2.1=dq
    ·rw[if_pos e]at ab;cases ab
    ·rw[if_neg e]at ab;injection ab with M V
     rw[<-M];exact ⟨aE,λh=>e h.symm⟩
  ·have d2:decide (m.1=2)=false:=bm G;by_cases ab:m.1=3
   ·obtain ⟨r,e,g1,g2,g3,g4⟩:=GZ l [m.2.2.2.1] u aU B u di (λd ah=>by obtain rfl:=gv.1 ah;have:=vx ab;omega)
    refine ⟨r,by simp only[pS,sF,ab,cJ,an,ay,e,Cb,show decide ((3:Int)=1)=false from rfl,show decide ((3:Int)=2)=false from rfl],λk=> ?_,by simp at g2;omega,B8 r g4,g3⟩;rw[g1 k,ln,bQ,eT];constructor
    ·rintro ⟨aE,bf⟩;refine ⟨k,none,aE,?_⟩;unfold hq;rw[if_neg q,if_neg G,if_pos ab,if_neg (by rw[bf];simp)]
    ·rintro ⟨dq,st,aE,bf⟩;unfold hq at bf;rw[if_neg q,if_neg G,if_pos ab]at bf;by_cases e:ch m.2.2.2.1 dq=true
     ·rw[if_pos e]at bf;cases bf
     ·rw[if_neg e]at bf;injection bf with M V
      rw[<-M];exact ⟨aE,by simpa using e⟩
   ·have d3:decide (m.1=3)=false:=bm ab;by_cases bF:m.1=6
    ·refine ⟨l,by simp only[pS,sF,C7,bF,cJ,an,ay,Cb,show decide ((6:Int)=1)=false from rfl,show decide ((6:Int)=2)=false from rfl,show decide ((6:Int)=3)=false from rfl,show decide ((6:Int)=4)=false from rfl,show decide ((6:Int)=5)=false from rfl],λk=> ?_,u,B8 l di,mo⟩;constructor
     ·intro aE;refine ⟨k,(if ch m.2.2.2.1 k=true then some m.2.2.2.2.2.2.1 else none),aE,?_⟩;unfold hq;rw[if_neg q,if_neg G,if_neg ab,if_pos bF]
     ·rintro ⟨dq,st,aE,bf⟩;unfold hq at bf;rw[if_neg q,if_neg G,if_neg ab,if_pos bF]at bf;injection bf with M V
      rw[<-M];exact aE
    ·have W:=hm.mv q G ab bF;obtain ⟨rK,-,-⟩:=mA _ (na _ W.from_);obtain ⟨tE,-,-⟩:=mA _ (na _ W.to_);obtain ⟨azo,azp,azq,-⟩:=w7 W.from_;obtain ⟨az0,az1,az2,-⟩:=w7 W.to_;have ad6:=ux _ W.from_;have ahz:=ux _ W.to_;have rest: ∀gone:au,gone.length<=2->fu B gone->(∀k,dc gone k=true↔(b7 k m.2.2.2.2.2.1=true\/(m.1=4/\b7 k m.2.2.2.2.1=true)))->
       ∃r,Da ((-1:Int),l,m,dW m.2.2.2.2.2.1,gone,())=some (true,0,r,())/\UE m l r/\r.length<=4*l.length/\fu (B+4) r/\n8 r:=by
      intro gone aeO auS aeP;obtain ⟨a,M,dF,a2,a3,a4⟩:=GZ l gone u u B u di auS;have auo:(gone.length+1)*l.length<=3*l.length:=gV _ u;obtain ⟨w,V,dn,da,gH⟩:=ajq m W.from_ W.to_ l a u u B di u u (-1);obtain ⟨r,a1,ag,aS,bP,dz⟩:=GK (a++w) (by rw[eF];omega) (B+4) (by
       intro d ah;rcases dp.1 ah with h |h
       ·exact B8 a a4 d h
       ·exact da d h)
      rw[eF]at aS;refine ⟨r,by simp only[Da,M,V,a1,Cb,cJ,an],λk=> ?_,u,dz,bP⟩;rw[ag k,nT,Bool.or_eq_true,gH k,dF k,bQ,eT];have auU:dc gone k=false↔ ¬(b7 k m.2.2.2.2.2.1=true\/(m.1=4/\b7 k m.2.2.2.2.1=true)):=by rw[<-aeP k];simp
      constructor
      ·rintro (⟨aE,bf⟩|⟨aE,bf⟩)
       ·have kN:=auU.1 bf;refine ⟨k,none,aE,?_⟩;unfold hq;rw[if_neg q,if_neg G,if_neg ab,if_neg bF,if_neg (λh=>kN (.inr h)),if_neg (λh=>kN (.inl h))]
       ·refine ⟨fZ m.2.2.2.2.1 m.2.2.2.2.2.1 k,none,bf,?_⟩;have L:b7 (fZ m.2.2.2.2.1 m.2.2.2.2.2.1 k) m.2.2.2.2.2.1=true:=uX;unfold hq;rw[if_neg q,if_neg G,if_neg ab,if_neg bF,if_neg (λh=>by have:=W.not_both h.2;rw[L]at this;cases this),if_pos L];obtain ⟨x,al⟩:=kb.1 aE;rw[al,lp,lp]
      ·rintro ⟨dq,st,aE,bf⟩;unfold hq at bf;rw[if_neg q,if_neg G,if_neg ab,if_neg bF]at bf;by_cases bh:m.1=4/\b7 dq m.2.2.2.2.1=true
       ·rw[if_pos bh]at bf;cases bf
       ·rw[if_neg bh]at bf;by_cases ba:b7 dq m.2.2.2.2.2.1=true
        ·rw[if_pos ba]at bf;injection bf with M V
         obtain ⟨x,al⟩:=kb.1 ba;rw[al,lp]at M;right;rw[<-M,lp,<-al];exact ⟨Ba _ _,aE⟩
        ·rw[if_neg ba]at bf;injection bf with M V
         left;rw[<-M];exact ⟨aE,(by
          have: ¬(b7 dq m.2.2.2.2.2.1=true\/(m.1=4/\b7 dq m.2.2.2.2.1=true)):=λh=>h.elim ba bh
          rw[<-aeP dq]at this;simpa using this)⟩
     have P8: ∀p∈fc,(dW p).1.length<=B/\(dW p).2.1.length<=B:=by intro p aT;obtain ⟨-,bS,dD,-⟩:=w7 aT;have:=ux p aT;rw[bS];omega
     rcases W.kind with aE |bf
     ·have room:bG ((List.length ([dW m.2.2.2.2.2.1]:List (aL))+List.length ([dW m.2.2.2.2.1]:List (aL)))*32<=am):=by rw[ey];rfl
      obtain ⟨r,e,ar⟩:=rest [dW m.2.2.2.2.2.1,dW m.2.2.2.2.1] aU (λd ah=>by
       rcases e7.1 ah with rfl |ah
       ·exact P8 _ W.to_
       ·obtain rfl:=gv.1 ah;exact P8 _ W.from_) (λk=>by
       have:dc [dW m.2.2.2.2.2.1,dW m.2.2.2.2.1] k=(b7 k m.2.2.2.2.2.1||b7 k m.2.2.2.2.1):=by simp[dc,nS W.to_,nS W.from_]
       rw[this,Bool.or_eq_true];constructor
       ·rintro (h |h)
        ·exact .inl h
        ·exact .inr ⟨aE,h⟩
       ·rintro (h |⟨-,h⟩)
        ·exact .inl h
        ·exact .inr h)
      have ei:Da ((-1:Int),l,m,dW m.2.2.2.2.2.1,([dW m.2.2.2.2.2.1]:au)++[dW m.2.2.2.2.1],())=some (true,0,r,()):=e;have d4:decide (m.1=4)=true:=aX aE;exact ⟨r,by simp only[pS,sF,C7,d1,d2,d3,d4,cJ,an,ay,tE,rK,room,ei],ar⟩
     ·obtain ⟨r,e,ar⟩:=rest [dW m.2.2.2.2.2.1] aU (λd ah=>by
       obtain rfl:=gv.1 ah;exact P8 _ W.to_) (λk=>by
       rw[ln,nS W.to_];constructor
       ·exact λh=>.inl h
       ·rintro (h |⟨h,-⟩)
        ·exact h
        ·rw[bf]at h;exact absurd h fm)
      have d4:decide (m.1=4)=false:=bm u;have d5:decide (m.1=5)=true:=aX bf;exact ⟨r,by simp only[pS,sF,C7,d1,d2,d3,d4,d5,cJ,an,ay,tE,e],ar⟩
theorem Gr {st:Option Int} {x:Src} {k:N}:(∃s2,sv st x=.old k s2)↔ ∃s1,x=.old k s1:=by
 cases x with
 |gen v n=>exact ⟨λ⟨_,h⟩=>(by cases h),λ⟨_,h⟩=>(by cases h)⟩
 |gone=>exact ⟨λ⟨_,h⟩=>(by cases h),λ⟨_,h⟩=>(by cases h)⟩
 |old eB gG=>
  constructor
  ·rintro ⟨s2,h⟩;injection h with q G
   exact ⟨gG,by rw[q]⟩
  ·rintro ⟨s1,h⟩;injection h with q G
   exact ⟨st.or gG,by rw[q];rfl⟩
theorem acp (m:bH) (k:N): ∀(r:cD) (dq:N),(∃st,jd (r++[m]) dq=.old k st)↔ ∃eB s1 s2,jd r dq=.old eB s1/\hq m eB=.old k s2
 |[],dq=>by
  show (∃st,jd [m] dq=.old k st)↔_;rw[show jd [m] dq=(match hq m dq with
   | .gen v n=>.gen v n
   | .gone=>.gone
   | .old eB st=>sv st (jd [] eB)) from rfl]
  cases e:hq m dq with
  |gen v n=>
   constructor
   ·rintro ⟨_,h⟩;cases h
   ·rintro ⟨eB,s1,s2,q,G⟩;injection q with ab aE
    rw[<-ab,e]at G;cases G
  |gone=>
   constructor
   ·rintro ⟨_,h⟩;cases h
   ·rintro ⟨eB,s1,s2,q,G⟩;injection q with ab aE
    rw[<-ab,e]at G;cases G
  |old bd st=>
   show (∃d,sv st (.old bd none)=.old k d)↔_;rw[Gr];constructor
   ·rintro ⟨s1,h⟩;injection h with ab aE
    exact ⟨dq,none,st,rfl,by rw[e,ab]⟩
   ·rintro ⟨eB,s1,s2,q,G⟩;injection q with ab aE
    rw[<-ab,e]at G;injection G with bf bF
    exact ⟨none,by rw[bf]⟩
 |a::r,dq=>by
  show (∃st,jd (a::(r++[m])) dq=.old k st)↔_;rw[aco]
  conv=>rhs;rw[aco]
  cases e:hq a dq with
  |gen v n=>
   constructor
   ·rintro ⟨_,h⟩;cases h
   ·rintro ⟨eB,s1,s2,q,G⟩;cases q
  |gone=>
   constructor
   ·rintro ⟨_,h⟩;cases h
   ·rintro ⟨eB,s1,s2,q,G⟩;cases q
  |old bd st=>
   show (∃d,sv st (jd (r++[m]) bd)=.old k d)↔ ∃eB s1 s2,sv st (jd r bd)=.old eB s1/\hq m eB=.old k s2;rw[Gr,acp m k r bd];constructor
   ·rintro ⟨eB,s1,s2,q,G⟩;obtain ⟨jw,ab⟩:=Gr.2 ⟨s1,q⟩;exact ⟨eB,jw,s2,ab,G⟩
   ·rintro ⟨eB,s1,s2,q,G⟩;obtain ⟨jw,ab⟩:=Gr.1 ⟨s1,q⟩;exact ⟨eB,jw,s2,ab,G⟩
theorem gj.ends {m:bH} (h:gj m):m.2.2.2.1.1.length<=200/\m.2.2.2.1.2.1.length<=200:=by
 obtain ⟨s,k,v,f,t,d,n,rfl,aN,aO,lR,ri⟩:=h.form;have BW:s=0\/s=1\/s=2\/s=3\/s=4\/s=5:=u;rcases BW with rfl |rfl |rfl |rfl |rfl |rfl
 ·exact ⟨Nat.zero_le _,Nat.zero_le _⟩
 ·exact ⟨Nat.zero_le _,Nat.zero_le _⟩
 ·exact ⟨lR,ri⟩
 ·exact ⟨Nat.zero_le _,Nat.zero_le _⟩
 ·exact ⟨Nat.zero_le _,Nat.zero_le _⟩
 ·exact ⟨lR,ri⟩
theorem akS {j:Nat} (h:j<13):4^j<10^8:=by have:4^j<=4^12:=Nat.pow_le_pow_right u u;omega
theorem a12 (d:aL) (l:cD) (ad: ∀m∈l,gj m) (aO:l.length<=13) (B:Nat) (ah:d.1.length<=B/\d.2.1.length<=B) (di:B<=5000) (sW:200<=B):
  ∃r,Eu (d,l,())=some (r,())/\(∀k,dc r k=true↔ ∃dq st,ch d dq=true/\jd l.reverse dq=.old k st)/\r.length<=4^l.length/\fu (B+4*l.length) r:=by
 obtain ⟨n,M,dm,ec,n3,n4⟩:=GK [d] aU B (λx al=>by obtain rfl:=gv.1 al;exact ah)
 have cl:i64.wrap (((l.length):Int)-1)=((l.length:Int)-1):=by rw[cR u]
 obtain ⟨z,q,r,rfl,G⟩:=dG (b:=BG) (λj (s:au)=>(((l.length:Int)-1-(j:Int)),(0:Int),l,s,())) l.length
  (λj s=>(∀k,dc s k=true↔ ∃dq st,ch d dq=true/\jd (l.reverse.take j) dq=.old k st)/\s.length<=4^j/\fu (B+4*j) s/\n8 s)
  (λz=> ∃r,z=.inr ((0:Int),l,r,())/\(∀k,dc r k=true↔ ∃dq st,ch d dq=true/\jd l.reverse dq=.old k st)/\r.length<=4^l.length/\fu (B+4*l.length) r) u
  (λj ak s aN=>by
   left;obtain ⟨bw,bS,dD,du⟩:=aN;obtain ⟨i,E⟩: ∃i:Nat,l.length-1-j=i:=⟨_,rfl⟩;have Rl:i<l.length:=u;have au9:j<l.reverse.length:=by rw[List.length_reverse];exact ak
   have Iy:l.reverse[j]=l[i]:=by rw[List.getElem_reverse];congr 1
   have dO:((l.length:Int)-1-(j:Int))=(i:Int):=u;have bh:bG ((i:Int)>=(0:Int)):=aX u;have ba:=dR i;have c3:bG ((i:Int)<(l.length:Int)):=aX u;have ga:i64.wrap ((i:Int)-1)=((l.length:Int)-1-((j+1:Nat):Int)):=by rw[cR u];omega
   have hm:=ad _ (dI Rl);have p7:=akS (j:=j) u;obtain ⟨r,g1,g2,g3,g4,g5⟩:=alb (i:Int) l[i] hm.ok (λ_=>hm.ends) s u (B+4*j) dD u u du;refine ⟨r,⟨λk=> ?_,?_,?_,g5⟩,?_⟩
   ·rw[g2 k];have Iz:=λdq=>acp l[i] k (l.reverse.take j) dq
    rw[<-Iy]at Iz ⊢;simp only[<-eK au9]at Iz;constructor
    ·rintro ⟨bd,st,ab,aE⟩;obtain ⟨dq,iI,bf,bF⟩:=(bw bd).1 ab;obtain ⟨s2,dU⟩:=(Iz dq).2 ⟨bd,iI,st,bF,aE⟩;exact ⟨dq,s2,bf,dU⟩
    ·rintro ⟨dq,st,ab,aE⟩;obtain ⟨bd,s1,s2,bf,bF⟩:=(Iz dq).1 ⟨st,aE⟩;exact ⟨bd,s2,(bw bd).2 ⟨dq,s1,ab,bf⟩,bF⟩
   ·rw[Nat.pow_succ];omega
   ·rw[show B+4*(j+1)=B+4*j+4 by omega];exact g4
   ·rw[dO];simp only[BG,bh,ba,c3,an,bN,bE,b5 Rl,g1,cL,ay,ga])
  (λs aN=>by
   obtain ⟨bw,bS,dD,du⟩:=aN;have dO:((l.length:Int)-1-((l.length:Nat):Int))= -1:=u;have M:(decide ((-1:Int)>=(0:Int)))=false:=rfl;rw[ia (by rw[List.length_reverse];exact ca _)]at bw;rw[dO];exact ⟨_,⟨s,rfl,bw,bS,dD⟩,by simp only[BG,M,ay]⟩) n ⟨λk=>by
    rw[dm k,ln];constructor
    ·intro h;exact ⟨k,none,h,rfl⟩
    ·rintro ⟨dq,st,ab,aE⟩;injection aE with bf bF
     rw[<-bf];exact ab,by simpa using ec,by simpa using n4,n3⟩
 have dr:Qq (((l.length:Int)-1),(0:Int),l,n,())=some (.inr ((0:Int),l,r,())):=by have:=q;simp only[Int.natCast_zero,Int.sub_zero]at this;exact this
 refine ⟨r,?_,G⟩;simp only[Eu,M,HV,QP,cl,dr,cJ,an]
theorem Gb {n m:Nat} (h:n<=13) (G:m<=1200000):2^n*(m+1)<=10^11:=by have ab:2^n<=2^13:=Nat.pow_le_pow_right u h;have aE:2^n*(m+1)<=2^13*1200001:=Nat.mul_le_mul ab u;omega
theorem FZ {t:aj} {l:cD} (ah:cO bT t) (h: ∀m∈l,ig m) (ad:2^l.length*(t.length+1)<=10^11) (aO:l.length<=13) {B:Nat} (di:100<=B) (kp:B<=900) (af: ∀p∈t,p.1.length<=B) (i:Nat) (E:i<=l.length):
  cO bT (allM t (l.take i))/\(allM t (l.take i)).length<10^11/\ ∀p∈allM t (l.take i),p.1.length<1000:=by
 have cB: ∀m∈l.take i,ig m:=λm hm=>h m (List.mem_of_mem_take hm)
 have hlen:(l.take i).length=i:=by rw[ev];omega
 refine ⟨AX ah _,?_,λp aT=> ?_⟩
 ·have q:=O3 (l.take i) t;rw[hlen]at q;have G:2^i<=2^l.length:=Nat.pow_le_pow_right u E;have ab:=gV (t.length+1) G;omega
 ·have:=abO cB ah di af p aT;omega
theorem aj5 {t:aj} {l:cD} (ah:cO bT t) (h: ∀m∈l,ig m) (ad:2^l.length*(t.length+1)<=10^11) (aO:l.length<=13) {B:Nat} (di:100<=B) (kp:B<=900) (af: ∀p∈t,p.1.length<=B):
  xg (t,l,())=some (allM t l,()):=by
 obtain ⟨z,q,rfl⟩:=dG (b:=Au) (λi (s:aj)=>(s,l,(l.length:Int),(i:Int),())) l.length (λi s=>s=allM t (l.take i)) (λz=>z=.inl (allM t l,())) u
  (λi E s aN=>by left;have M:=e3 (i:=i) (l:=l) u;have cl:bG ((0:Int)<=((i:Nat):Int)):=aX u;have w:=fv (j:=i) u;obtain ⟨dF,a2,a3⟩:=FZ ah h ad aO di kp af i u;rw[<-aN]at dF a2 a3;have V:=(OS s l[i] (h _ (dI E)) dF a2 a3).1;refine ⟨apM s l[i],by rw[aN,eK E,FY],?_⟩;simp only[Au,M,cl,bN,an,bE,b5 E,V,w])
  (λs aN=>by have M:=fD l;rw[ew]at aN;exact ⟨_,rfl,by simp only[Au,M,ay,aN]⟩) t rfl
 have dr:N6 (t,l,(l.length:Int),(0:Int),())=some (.inl (allM t l,())):=q;simp only[xg,dr]
abbrev wZ:Type:=((cE)×(aL)×(List (aL))×(bB)×(Int)×H)->Option ((List (ck))×(bB)×(Int)×H)
theorem aiH (r:wZ) (id:Int) (d:aL) (l:au) (p:bB) (found out:aj) (ad:out.length+found.length<=10^12):
  x0 r ((found.length:Int),(0:Int),(0:Int),id,d,l,p,(0:Int),found,out,())=some (.inr ((0:Int),id,d,l,p,(0:Int),out++found,())):=by
 obtain ⟨z,q,rfl⟩:=dG (b:=sD r) (λi (s:aj)=>((found.length:Int),(i:Int),(0:Int),id,d,l,p,(0:Int),found,s,())) found.length (λi s=>s=out++found.take i) (λz=>z=.inr ((0:Int),id,d,l,p,(0:Int),out++found,())) u
  (λi E s aN=>by left;have M:=e3 (i:=i) (l:=found) u;have cl:bG ((0:Int)<=((i:Nat):Int)):=aX u;have w:=fv (j:=i) u;have room:bG ((s.length+List.length ([found[i]]:List (ck)))*40<=am):=aX (by rw[ey,aN];simp;omega);refine ⟨s++[found[i]],by rw[aN,eK E,List.append_assoc],?_⟩;simp only[sD,H5,IH,M,cl,bN,an,bE,b5 E,cJ,cL,cU,ay,room,w])
  (λs aN=>by have M:=fD found;rw[ew]at aN;exact ⟨_,rfl,by simp only[sD,M,ay,aN]⟩) out aU
 exact q
theorem asC (r:wZ) (id:Int) (d:aL) (l:au) (p:bB) (found out:aj) (e:Int) (he:e≠0):
  x0 r ((found.length:Int),(0:Int),(0:Int),id,d,l,p,e,found,out,())=some (.inl ((0:Int),id,d,l,p,e,out,()))\/
  x0 r ((found.length:Int),(0:Int),(0:Int),id,d,l,p,e,found,out,())=some (.inr ((0:Int),id,d,l,p,e,out,())):=by
 cases found with
 |nil=>
  right;exact nU (n:=1) (by rw[kc];omega) (by have M:(decide ((0:Int)<((List.length ([]:aj)):Int)))=false:=rfl;simp only[fY,sD,M,ay])
 |cons x found=>
  left;exact nU (n:=1) (by rw[kc];omega) (by have M:bG ((0:Int)<((List.length (x::found)):Int)):=aX (by rw[iy];omega);have V:(decide (e=0))=false:=bm he;simp only[fY,sD,H5,M,V,Int.le_refl,cJ,bN,an,cU,cL,ay])
theorem acN (r:wZ) (id:Int) (d:aL) (l:au) (p:bB) (t out:aj) (e:Int) (aW:t.length<10^11) (W:out.length<=10^11) (ad:l.length<=10^17):
  xZ r (t,(0:Int),id,d,l,p,e,out,())=some ((0:Int),id,d,l,p,e,out++(if e=0 then t.filter (eb l) else []),()):=by
 have M:=OL t l u ad;have aM:(t.filter (eb l)).length<=t.length:=h0 _ _;by_cases he:e=0
 ·subst he;rw[if_pos rfl];have V:=aiH r id d l p (t.filter (eb l)) out u;simp only[xZ,M,V]
 ·rw[if_neg he,List.append_nil];rcases asC r id d l p (t.filter (eb l)) out e he with V |V
  ·simp only[xZ,M,V]
  ·simp only[xZ,M,V]
def sm (e:Int):Prop:=e=0\/e=112
def kE (buf:cD) (ax:N->Prop):N->Prop:=λk=> ∃dq st,ax dq/\jd buf.reverse dq=.old k st
def ji (l:au):N->Prop:=λk=>dc l k=true
def adl (r:wZ) (p:bB) (i:Nat) (d:aL) (c:aj) (wJ:(N->Prop)->Prop) (B dQ:Nat):Prop:=
 ∀(l:au) (e:Int) (out:aj),l.length<=dQ->fu B l->sm e->out.length<=10^10->
  ∃ei,sG r ((0:Int),(i:Int),d,l,p,e,out,())=some ((0:Int),(i:Int),d,l,p,ei,out++(if ei=0 then c.filter (eb l) else []),())/\sm ei/\(e≠0->ei≠0)/\(e=0->(ei≠0↔wJ (ji l)))
theorem akv (r:wZ) (a7:cE) (d:aL) (l:au) (p:bB) (e:Int) (B dQ:Nat) (L: ∀m∈a7.2.2.2.2.1,gj m) (aO:a7.2.2.2.2.1.length<=13) (ad:l.length<=dQ) (di:fu B l) (kp:B<=5000) (sW:200<=B) (lK:dQ*4^a7.2.2.2.2.1.length<=10^11):
  ∃eI,IP r ([],l,(l.length:Int),(0:Int),p,e,a7,d,[],())=some (.inl ([],p,e,a7,d,eI,()))/\eI.length<=dQ*4^a7.2.2.2.2.1.length/\fu (B+4*a7.2.2.2.2.1.length) eI/\ ∀k,dc eI k=true↔kE a7.2.2.2.2.1 (ji l) k:=by
 have aT:1<=4^a7.2.2.2.2.1.length:=Nat.one_le_pow _ _ u;have aep:dQ*1<=dQ*4^a7.2.2.2.2.1.length:=Nat.mul_le_mul_left _ aT;obtain ⟨z,q,eI,rfl,G⟩:=dG (b:=yb r) (λi (s:au)=>(([]:aj),l,(l.length:Int),(i:Int),p,e,a7,d,s,())) l.length
  (λi s=>s.length<=i*4^a7.2.2.2.2.1.length/\fu (B+4*a7.2.2.2.2.1.length) s/\ ∀k,dc s k=true↔kE a7.2.2.2.2.1 (ji (l.take i)) k)
  (λz=> ∃eI,z=.inl ([],p,e,a7,d,eI,())/\eI.length<=dQ*4^a7.2.2.2.2.1.length/\fu (B+4*a7.2.2.2.2.1.length) eI/\ ∀k,dc eI k=true↔kE a7.2.2.2.2.1 (ji l) k) u
  (λi E s aN=>by
   left;obtain ⟨bw,bS,dD⟩:=aN;have M:=e3 (i:=i) (l:=l) u;have cl:bG ((0:Int)<=((i:Nat):Int)):=aX u;have w:=fv (j:=i) u;have nF:=dI E;obtain ⟨a,dF,a2,a3,a4⟩:=a12 l[i] a7.2.2.2.2.1 L aO B (di _ nF) kp sW;have avH:(i+1)*4^a7.2.2.2.2.1.length<=dQ*4^a7.2.2.2.2.1.length:=gV _ u;rw[Nat.add_mul,Nat.one_mul]at avH;have room:bG ((s.length+a.length)*32<=am):=aX (by rw[ey];omega);refine ⟨s++a,⟨by rw[eF,Nat.add_mul,Nat.one_mul];omega,λd ah=> ?_,λk=> ?_⟩,?_⟩
   ·rcases dp.1 ah with h |h
    ·exact bS d h
    ·exact a4 d h
   ·rw[nT,Bool.or_eq_true,dD k,a2 k];have jE: ∀k,dc (l.take (i+1)) k=(dc (l.take i) k||ch l[i] k):=by intro k;rw[eK E,nT,ln]
    constructor
    ·rintro (⟨dq,st,ab,aE⟩|⟨dq,st,ab,aE⟩)
     ·exact ⟨dq,st,by unfold ji at ab ⊢;rw[jE,ab];rfl,aE⟩
     ·exact ⟨dq,st,by unfold ji;rw[jE,ab,Bool.or_true],aE⟩
    ·rintro ⟨dq,st,ab,aE⟩;unfold ji at ab;rw[jE,Bool.or_eq_true]at ab;rcases ab with ab |ab
     ·exact .inl ⟨dq,st,ab,aE⟩
     ·exact .inr ⟨dq,st,ab,aE⟩
   ·simp only[yb,M,cl,bN,an,bE,b5 E,dF,room,w])
  (λs aN=>by
   obtain ⟨bw,bS,dD⟩:=aN;have M:=fD l;rw[ew]at dD;have:l.length*4^a7.2.2.2.2.1.length<=dQ*4^a7.2.2.2.2.1.length:=gV _ ad;exact ⟨_,⟨s,rfl,u,bS,dD⟩,by simp only[yb,M,ay]⟩) [] ⟨aU,λd ah=>(by cases ah),λk=>(by
    constructor
    ·intro h;simp[dc]at h
    ·rintro ⟨dq,st,ab,aE⟩;simp[ji,dc]at ab)⟩
 exact ⟨eI,q,G⟩
def sn (ax:N->Prop) (s:aL):Prop:= ∃k,ax k/\ch s k=true
theorem as9 (eI:au) (s:aL):(eI.any λw=>kh w s)=true↔sn (ji eI) s:=by
 rw[List.any_eq_true];constructor
 ·rintro ⟨w,hw,h⟩;obtain ⟨k,q,G⟩:=Bg.1 h;exact ⟨k,List.any_eq_true.2 ⟨w,hw,q⟩,G⟩
 ·rintro ⟨k,q,G⟩;obtain ⟨w,hw,ab⟩:=List.any_eq_true.1 q;exact ⟨w,hw,Bg.2 ⟨k,ab,G⟩⟩
theorem abd (r:wZ) (p:bB) (a7:cE) (d:aL) (parts:au) (ks:dA) (C:Nat->aj) (wJ:Nat->aL->(N->Prop)->Prop) (B dQ:Nat)
  (af:a7.2.2.1=bM ks) (aT:parts.length=ks.length) (kO:1<=ks.length) (azC:ks.length<=6) (vx:rR (d,a7.2.1,())=some (parts,())) (L: ∀m∈a7.2.2.2.2.1,gj m) (aO:a7.2.2.2.2.1.length<=13)
  (kp:B<=5000) (sW:200<=B) (lK:dQ*4^a7.2.2.2.2.1.length<=10^11)
  (eG: ∀j,j<ks.length->pE (parts.getD j cb) (C (ks.getD j 0))/\(C (ks.getD j 0)).length<=200000)
  (ar: ∀j,j<ks.length->adl r p (ks.getD j 0) (parts.getD j cb) (C (ks.getD j 0)) (wJ (ks.getD j 0) (parts.getD j cb)) (B+4*a7.2.2.2.2.1.length) (dQ*4^a7.2.2.2.2.1.length))
  (l:au) (e:Int) (ad:l.length<=dQ) (di:fu B l) (he:sm e):
  ∃eI ei j,C5 r (a7,d,l,p,e,())=some (((ks.take j).flatMap C).filter (eb eI),p,ei,())/\(∀k,dc eI k=true↔kE a7.2.2.2.2.1 (ji l) k)/\sm ei/\j<=ks.length/\(ei=0->j=ks.length)/\(e≠0->ei≠0)/\
   (e=0->(ei≠0↔ ∃j,j<ks.length/\sn (kE a7.2.2.2.2.1 (ji l)) (parts.getD j cb)/\wJ (ks.getD j 0) (parts.getD j cb) (kE a7.2.2.2.2.1 (ji l)))):=by
 obtain ⟨eI,dm,ec,n3,n4⟩:=akv r a7 d l p e B dQ L aO ad di kp sW lK;have lj:ji eI=kE a7.2.2.2.2.1 (ji l):=by
  funext k
  exact propext (n4 k)
 have bY:a7.2.2.1≠[]:=by rw[af];exact PB u
 have Is:=Nc bY vx;have auQ: ∀j,j<=ks.length->((ks.take j).flatMap C).length<=j*200000:=by
  intro j ak;have:=OB ((ks.take j).map C) 200000 (by intro a aV;obtain ⟨k,af,rfl⟩:=List.mem_map.1 aV;obtain ⟨i,E,rfl⟩:=List.mem_iff_getElem.1 af;rw[ev]at E;rw[List.getElem_take];have:=(eG i u).2;rw[b5 u]at this;exact this)
  rw[List.length_map,ev,Nat.min_eq_left ak]at this;rw[List.flatMap_def];exact this
 obtain ⟨z,q,ei,j,rfl,G,ab,aE,bf,bF⟩:=dG (b:=vg r) (λi (s:Int×aj)=>(([]:aj),(parts.length:Int),(i:Int),p,s.1,a7,eI,parts,s.2,())) parts.length
  (λi s=> ∃j,j<=i/\s.2=((ks.take j).flatMap C).filter (eb eI)/\sm s.1/\(s.1=0->j=i)/\(e≠0->s.1≠0)/\(e=0->(s.1≠0↔ ∃j,j<i/\sn (kE a7.2.2.2.2.1 (ji l)) (parts.getD j cb)/\wJ (ks.getD j 0) (parts.getD j cb) (kE a7.2.2.2.2.1 (ji l)))))
  (λz=> ∃ei j,z=.inr (p,ei,((ks.take j).flatMap C).filter (eb eI),())/\sm ei/\j<=ks.length/\(ei=0->j=ks.length)/\(e≠0->ei≠0)/\(e=0->(ei≠0↔ ∃j,j<ks.length/\sn (kE a7.2.2.2.2.1 (ji l)) (parts.getD j cb)/\wJ (ks.getD j 0) (parts.getD j cb) (kE a7.2.2.2.2.1 (ji l))))) u
  (λi E s aN=>by
   left;obtain ⟨mf,out⟩:=s;obtain ⟨j,tc,eu,oI,vG,vH,ru⟩:=aN;simp only at eu oI vG vH ru;have gf:i<ks.length:=u;have M:=e3 (i:=i) (l:=parts) u;have cl:bG ((0:Int)<=((i:Nat):Int)):=aX u;have w:=fv (j:=i) u;have Ie:=arK eI parts[i] u;have Ru:=as9 eI parts[i];rw[lj]at Ru;have yn:parts.getD i cb=parts[i]:=b5 E;cases Ib:(eI.any λw=>kh w parts[i])
   ·rw[Ib]at Ie;have Ir: ¬sn (kE a7.2.2.2.2.1 (ji l)) parts[i]:=λh=>by have:=Ru.2 h;rw[Ib]at this;cases this
    refine ⟨(mf,out),?_,?_⟩
    ·by_cases oA:mf=0
     ·refine ⟨i+1,u,?_,oI,λ_=>rfl,vH,λh=> ?_⟩
      ·rw[vG oA]at eu;have Iq:(C ks[i]).filter (eb eI)=[]:=by rw[List.filter_eq_nil_iff];intro x al h;have:=(eG i gf).1;rw[b5 gf,yn]at this;exact Ir ⟨x.1,by rw[<-lj];exact h,this x al⟩
       rw[eK gf,List.flatMap_append,List.filter_append];simp only[List.flatMap_cons,List.flatMap_nil,List.append_nil,Iq];exact eu
      ·rw[ru h];constructor
       ·rintro ⟨gg,a,b⟩;exact ⟨gg,u,b⟩
       ·rintro ⟨gg,a,b,c⟩;rcases Nat.lt_succ_iff_lt_or_eq.1 a with a |a
        ·exact ⟨gg,a,b,c⟩
        ·subst a;rw[yn]at b;exact absurd b Ir
     ·refine ⟨j,u,eu,oI,λh=>absurd h oA,vH,λh=> ?_⟩;constructor
      ·intro _;obtain ⟨gg,a,b⟩:=(ru h).1 oA;exact ⟨gg,u,b⟩
      ·exact λ_=>oA
    ·simp only[vg,M,cl,bN,an,bE,b5 E,Ie,cU,w]
   ·rw[Ib]at Ie;have hm:sn (kE a7.2.2.2.2.1 (ji l)) parts[i]:=Ru.1 Ib;have RB:out.length<=10^10:=by rw[eu];have a:=h0 (eb eI) ((ks.take j).flatMap C);have b:=auQ j u;omega
    obtain ⟨V,f1,f2,f3,f4⟩:=ar i gf eI mf out ec n3 oI RB;rw[b5 gf,yn]at f1 f4;rw[lj]at f4;have a1:bG (((i:Nat):Int)<((a7.2.2.1.length):Int)):=aX (by rw[af,fO];omega);have bp:a7.2.2.1.getD i 0=((ks[i]:Nat):Int):=by rw[af,k9 gf]
    refine ⟨(V,out++(if V=0 then (C ks[i]).filter (eb eI) else [])),?_,?_⟩
    ·by_cases mj:V=0
     ·have oA:mf=0:=by
       rcases Classical.em (mf=0) with h |h
       ·exact h
       ·exact absurd mj (f3 h)
      refine ⟨i+1,u,?_,f2,λ_=>rfl,λh=>absurd oA (vH h),λh=> ?_⟩
      ·rw[vG oA]at eu;rw[eK gf,List.flatMap_append,List.filter_append,if_pos mj,eu];simp only[List.flatMap_cons,List.flatMap_nil,List.append_nil]
      ·constructor
       ·intro cB;exact absurd mj cB
       ·rintro ⟨gg,a,b,c⟩;rcases Nat.lt_succ_iff_lt_or_eq.1 a with a |a
        ·exact absurd oA ((ru h).2 ⟨gg,a,b,c⟩)
        ·subst a;rw[b5 gf,yn]at c;exact absurd mj ((f4 oA).2 c)
     ·refine ⟨j,u,?_,f2,λh=>absurd h mj,λ_=>mj,λh=> ?_⟩
      ·show out++(if V=0 then _ else [])=_;rw[if_neg mj,List.append_nil];exact eu
      ·constructor
       ·intro _;by_cases oA:mf=0
        ·refine ⟨i,u,by rw[yn];exact hm,?_⟩;rw[b5 gf,yn];exact (f4 oA).1 mj
        ·obtain ⟨gg,a,b⟩:=(ru h).1 oA;exact ⟨gg,u,b⟩
       ·exact λ_=>mj
    ·simp only[vg,M,cl,bN,an,bE,b5 E,Ie,cL,ay,a1,bp,qU,f1,cJ,w])
  (λs aN=>by obtain ⟨mf,out⟩:=s;obtain ⟨j,tc,eu,oI,vG,vH,ru⟩:=aN;simp only at eu oI vG vH ru;have M:=fD parts;rw[aT]at tc vG ru;exact ⟨_,⟨mf,j,by rw[<-eu],oI,tc,vG,vH,ru⟩,by simp only[vg,M,ay]⟩) (e,[]) ⟨0,ca _,aU,he,λ_=>rfl,id,λh=>⟨λcB=>absurd h cB,λ⟨j,a,_⟩=>absurd a u⟩⟩
 have dr:IQ r ([],(parts.length:Int),(0:Int),p,e,a7,eI,parts,[],())=some (.inr (p,ei,((ks.take j).flatMap C).filter (eb eI),())):=q;refine ⟨eI,ei,j,?_,n4,G,ab,aE,bf,bF⟩;simp only[C5,dm,Is,dr]
theorem ack {low:aj} {eI l:au} {buf:cD} (ah:cO bT low) (L: ∀m∈buf,ig m) (aO: ∀k,dc eI k=true↔kE buf (ji l) k):
  (allM (low.filter (eb eI)) buf).filter (eb l)=(allM low buf).filter (eb l):=by
 have ri:cO bT (low.filter (eb eI)):=List.Pairwise.filter _ ah;refine GQ (List.Pairwise.filter _ (AX ri buf)) (List.Pairwise.filter _ (AX ah buf)) (λx=> ?_);rw[e8,e8];constructor
 ·rintro ⟨q,G⟩;refine ⟨(abP ri ah L x (λk st af y bt=> ?_)).1 q,G⟩;rw[e8];refine ⟨λh=>h.1,λh=>⟨h,?_⟩⟩;show dc eI y.1=true;rw[bt];exact (aO k).2 ⟨x.1,st,G,af⟩
 ·rintro ⟨q,G⟩;refine ⟨(abP ri ah L x (λk st af y bt=> ?_)).2 q,G⟩;rw[e8];refine ⟨λh=>h.1,λh=>⟨h,?_⟩⟩;show dc eI y.1=true;rw[bt];exact (aO k).2 ⟨x.1,st,G,af⟩
def l2 (p:bB) (Q:cK) (b x:Nat):Prop:= ∀i n,i<b->Q[i]? =some n->ik (p,(i:Int),())=some (if i=x then (h7,112,()) else (n,0,()))
def xy (Q:cK) (i:Nat):cD:=(Q.getD i h7).2.2.2.2.1
def G6 (Q:cK) (i j:Nat):Nat:=(List.getD (Q.getD i h7).2.2.1 j 0).toNat
def u3 (Q:cK) (x:Nat):List bo->aL->Nat->(N->Prop)->Prop
 |[],_,i,_=>i=x
 |P::aI,d,i,ax=>i=x\/ ∃j,j<(partsOf d (cS P d)).length/\sn (kE (xy Q i) ax) (List.getD (partsOf d (cS P d)) j cb)/\u3 Q x aI (List.getD (partsOf d (cS P d)) j cb) (G6 Q i j) (kE (xy Q i) ax)
theorem qp {Q:cK} {i:Nat} {p:aj} {piv:bo} {ks:dA} {sums:hs} {buf:cD} (h:Q[i]? =some (p,piv,bM ks,sums,buf,())) {j:Nat} (ak:j<ks.length):G6 Q i j=ks.getD j 0:=by unfold G6;rw[sg h];show (List.getD (bM ks) j 0).toNat=_;rw[k9 ak,b5 ak];rfl
theorem acA {Q:cK} {i:Nat} {n:cE} (h:Q[i]? =some n):xy Q i=n.2.2.2.2.1:=by unfold xy;rw[sg h]
theorem acH (Q:cK) (aI:List bo) (ks:dA) (j:Nat) (eI:au):(((ks.take j).flatMap λk=>cont Q aI k).filter (eb eI)).Sublist (low Q aI ks):=by
 refine List.Sublist.trans List.filter_sublist ?_;unfold low;have:ks=ks.take j++ks.drop j:=(List.take_append_drop j ks).symm
 conv=>rhs;rw[this]
 rw[List.flatMap_append];exact List.sublist_append_left _ _
theorem Om {I:Nat} (h:I<=1):clen I<=192032:=by
 rcases Nat.le_one_iff_eq_zero_or_eq_one.1 h with rfl |rfl
 ·decide
 ·decide
structure nr (Q:cK) (t:aj) (aI:List bo) (d:aL) (i:Nat):Prop where
 tree:hD Q t aI d i
 five: ∀s∈aI,s.length<=5
 srt: ∀P∈aI,P.Pairwise λa b=>Op.bytesLess a b=true
 gx:qW aI d=true
 gs:qV aI d=true
structure oY (t:aj):Prop where
 srt:cO bT t
 len:t.length<=1000
 key: ∀p∈t,p.1.length<=100
theorem nr.cont {Q:cK} {t:aj} {aI:List bo} {d:aL} {i:Nat} (aW:oY t) (h:nr Q t aI d i):GX d aI.length (D.cont Q aI i):=
 hD.cont_ok aW.srt aW.len aW.key h.five h.srt h.gx h.tree
structure wK (Q:cK) (t:aj) (P:bo) (aI:List bo) (d:aL) (a7:cE) (ks:dA):Prop where
 kids:a7.2.2.1=bM ks
 piv:a7.2.1=cS P d
 parts:(partsOf d (cS P d)).length=ks.length
 one:1<=ks.length
 six:ks.length<=6
 span:rR (d,a7.2.1,())=some (partsOf d (cS P d),())
 buf: ∀m∈a7.2.2.2.2.1,gj m
 few:a7.2.2.2.2.1.length<=13
 good: ∀j,j<ks.length->nr Q t aI (List.getD (partsOf d (cS P d)) j cb) (ks.getD j 0)
 low:cO bT (low Q aI ks)/\pE d (D.low Q aI ks)/\(D.low Q aI ks).length<=6*clen aI.length/\ ∀p∈D.low Q aI ks,p.1.length<=100+20*aI.length
theorem nr.inner {Q:cK} {t:aj} {P:bo} {aI:List bo} {d:aL} {i:Nat} (aW:oY t) (h:nr Q t (P::aI) d i):
  ∃ks sums buf,Q[i]? =some ([],cS P d,bM ks,sums,buf,())/\wK Q t P aI d ([],cS P d,bM ks,sums,buf,()) ks/\buf.length<=5/\(∀k∈ks,k<i)/\ks.Nodup/\(∀m∈buf,jK (m,d,())=some (true,())):=by
 obtain ⟨ks,sums,buf,q,G,ab,aE,bf,bF,dU,hh⟩:=h.tree;obtain ⟨g1,g2⟩:=ac3 h.gx;obtain ⟨bd,a6⟩:=Oo h.gs;have jU:(cS P d).length<=5:=Nat.le_trans (ud P d) (h.five P gI);have jo:(partsOf d (cS P d)).length=ks.length:=by rw[g1,Pt,G]
 have good: ∀j,j<ks.length->nr Q t aI (List.getD (partsOf d (cS P d)) j cb) (ks.getD j 0):=by
  intro j ak;have hj:j<(partsOf d (cS P d)).length:=u;refine ⟨(hh j ak).1,λs aN=>h.five s (gU _ aN),λs aN=>h.srt s (gU _ aN),?_,?_⟩
  ·rw[b5 hj];exact (g2 _ (dI hj)).2
  ·rw[b5 hj];exact a6 _ (dI hj)
 refine ⟨ks,sums,buf,q,⟨rfl,rfl,jo,u,u,bd,λm hm=>(dU m hm).1,by show buf.length<=13;omega,good,?_⟩,bF,bf,aE,λm hm=>(dU m hm).2⟩;exact UR jo.symm u (by rw[g1];exact Pu _ _ _ adA (acM (h.srt P gI) d)) (λs aN=>(g2 s aN).1) (λj ak=>(good j ak).cont aW)
theorem wK.contents {Q:cK} {t:aj} {P:bo} {aI:List bo} {d:aL} {a7:cE} {ks:dA} (aW:oY t) (ao:aI.length<=1) (h:wK Q t P aI d a7 ks):
  ∀j,j<ks.length->pE (List.getD (partsOf d (cS P d)) j cb) (D.cont Q aI (ks.getD j 0))/\(D.cont Q aI (ks.getD j 0)).length<=200000:=by
 intro j ak;have:=(h.good j ak).cont aW;have G:=Om ao;have ab:=this.len;exact ⟨this.sp,u⟩
theorem wK.all {Q:cK} {t:aj} {P:bo} {aI:List bo} {d:aL} {a7:cE} {ks:dA} (ao:aI.length<=1) (h:wK Q t P aI d a7 ks) (j:Nat) (eI:au):
  xg (((ks.take j).flatMap λk=>D.cont Q aI k).filter (eb eI),a7.2.2.2.2.1,())=some (allM (((ks.take j).flatMap λk=>D.cont Q aI k).filter (eb eI)) a7.2.2.2.2.1,())/\(allM (((ks.take j).flatMap λk=>D.cont Q aI k).filter (eb eI)) a7.2.2.2.2.1).length<10^11:=by
 obtain ⟨dy,de,nQ,rB⟩:=h.low;have rk:=acH Q aI ks j eI;have aw:=Om ao;have ah:cO bT (((ks.take j).flatMap λk=>D.cont Q aI k).filter (eb eI)):=List.Pairwise.sublist rk dy;have ad:=rk.length_le;have L: ∀m∈a7.2.2.2.2.1,ig m:=λm hm=>(h.buf m hm).ok
 have af: ∀p∈((ks.take j).flatMap λk=>D.cont Q aI k).filter (eb eI),p.1.length<=140:=λp aT=>by have:=rB p (rk.subset aT);omega
 refine ⟨aj5 ah L (Gb h.few u) h.few (B:=140) u u af,?_⟩;have:=(FZ ah L (Gb h.few u) h.few (B:=140) u u af a7.2.2.2.2.1.length (ca _)).2.1;rw[ew]at this;exact this
theorem abF {Q:cK} {t:aj} (aW:oY t) {p:bB} {b x:Nat} (aT:l2 p Q b x): ∀(aI:List bo) (d:aL) (i:Nat),aI.length<=2->nr Q t aI d i->i<b->
  ∀(n B dQ:Nat),aI.length<=n->B+20*aI.length<=4000->200<=B->dQ*1024^aI.length<=10^11->adl (qS n) p i d (D.cont Q aI i) (u3 Q x aI d i) B dQ
 |[],d,i,ao,bC,ku=>by
  intro n B dQ aO aej kp lK l e out ad di he W;have q:Q[i]? =some (inS d t,[],[],[],[],()):=bC.tree;have bO:=aT i _ ku q;have aw:D.cont Q [] i=inS d t:=by show (Q.getD i h7).1=_;rw[sg q]
  by_cases al:i=x
  ·rw[if_pos al]at bO;refine ⟨112,?_,.inr rfl,λ_=>fm,λ_=>⟨λ_=>al,λ_=>fm⟩⟩;have M:(decide ((112:Int)=0))=false:=rfl;rw[if_neg fm,List.append_nil];simp only[sG,bO,M,cU,an]
  ·rw[if_neg al]at bO;refine ⟨e,?_,he,id,λh=>⟨λcB=>absurd h cB,λcB=>absurd cB al⟩⟩;have hlen:=si d t;have IA:=aW.len;have aeo:dQ<=10^11:=by simpa using lK
   have V:=acN (qS n) (i:Int) d l p (inS d t) out e u u u;have a1:bG ((((List.length ([]:ct)):Int):Int)=(0:Int)):=rfl;rw[aw];simp only[sG,bO,cJ,cL,ay,n0,a1,V]
 |P::aI,d,i,ao,bC,ku=>by
  intro n B dQ aO aej kp lK l e out ad di he W;obtain ⟨ks,sums,buf,q,ej,q2,bu,-⟩:=bC.inner aW;have bO:=aT i _ ku q;have m2:aI.length<=1:=by simp at ao;omega
  have aw:=FH (Q:=Q) P aI q;obtain ⟨n,rfl⟩: ∃k,n=k+1:=⟨n-1,by simp at aO;omega⟩;by_cases al:i=x
  ·rw[if_pos al]at bO;refine ⟨112,?_,.inr rfl,λ_=>fm,λ_=>⟨λ_=>.inl al,λ_=>fm⟩⟩;have M:(decide ((112:Int)=0))=false:=rfl;rw[if_neg fm,List.append_nil];simp only[sG,bO,M,cU,an]
  ·rw[if_neg al]at bO;simp only[iy]at aej aO lK;have aE:4^buf.length<=1024:=by have:4^buf.length<=4^5:=Nat.pow_le_pow_right u q2;omega
   have aep:dQ*4^buf.length<=dQ*1024:=Nat.mul_le_mul_left _ aE;have auf:dQ*4^buf.length*1024^aI.length<=10^11:=by refine Nat.le_trans (gV _ aep) ?_;rw[Nat.mul_assoc,show 1024*1024^aI.length=1024^(aI.length+1) by rw[Nat.pow_succ,Nat.mul_comm]];exact lK
   have aug:dQ*4^buf.length<=10^11:=by have:dQ*4^buf.length*1<=dQ*4^buf.length*1024^aI.length:=Nat.mul_le_mul_left _ (Nat.one_le_pow _ _ u);omega
   have kids:=λj (ak:j<ks.length)=>abF aW aT aI (List.getD (partsOf d (cS P d)) j cb) (ks.getD j 0) u (ej.good j ak) (by have:ks.getD j 0<i:=bu _ (by rw[b5 ak];exact dI ak);omega) n (B+4*buf.length) (dQ*4^buf.length) u u u auf
   obtain ⟨eI,ei,j,f1,f2,f3,f4,f5,f6,f7⟩:=abd (qS n) p _ d _ ks (λk=>D.cont Q aI k) (λk s ax=>u3 Q x aI s k ax) B dQ ej.kids ej.parts ej.one ej.six ej.span ej.buf ej.few u kp aug (ej.contents aW m2) kids l e ad di he;obtain ⟨g1,g2⟩:=ej.all m2 j eI;have aeo:l.length<=10^17:=by have:dQ*1<=dQ*4^buf.length:=Nat.mul_le_mul_left _ (Nat.one_le_pow _ _ u);omega
   have g3:=acN (qS (n+1)) (i:Int) d l p _ out ei g2 u aeo;refine ⟨ei,?_,f3,f6,λh=> ?_⟩
   ·have a1:(decide ((((List.length (bM ks)):Int):Int)=(0:Int)))=false:=bm (by have:=ej.one;rw[fO];omega);have B9:qS (n+1) (([],cS P d,bM ks,sums,buf,()),d,l,p,e,())=_:=f1;have au5:(if ei=0 then (D.cont Q (P::aI) i).filter (eb l) else [])=(if ei=0 then (allM (((ks.take j).flatMap λk=>D.cont Q aI k).filter (eb eI)) buf).filter (eb l) else []):=by
     by_cases j5:ei=0
     ·rw[if_pos j5,if_pos j5,aw,f5 j5,ew];exact (ack (low:=low Q aI ks) ej.low.1 (λm hm=>(ej.buf m hm).ok) f2).symm
     ·rw[if_neg j5,if_neg j5]
    rw[au5];simp only[sG,bO,cJ,cL,ay,n0,a1,cU,an,B9,g1,g3]
   ·rw[f7 h];have vk:xy Q i=buf:=acA q;constructor
    ·rintro ⟨j,a,b,c⟩;refine .inr ⟨j,by rw[ej.parts];exact a,?_,?_⟩
     ·rw[vk];exact b
     ·rw[vk,qp q a];exact c
    ·rintro (cB |⟨j,a,b,c⟩)
     ·exact absurd cB al
     ·rw[ej.parts]at a;rw[vk]at b c;rw[qp q a]at c;exact ⟨j,a,b,c⟩
theorem ab3 (id:Int) (d:aL) (l:au) (p:bB) (found:aj) (ad:found.length<=10^12):
  x5 ((found.length:Int),(0:Int),(0:Int),id,d,l,p,(0:Int),found,[],())=some (.inr ((0:Int),id,d,l,p,(0:Int),found,())):=by
 obtain ⟨z,q,rfl⟩:=dG (b:=vb) (λi (s:aj)=>((found.length:Int),(i:Int),(0:Int),id,d,l,p,(0:Int),found,s,())) found.length (λi s=>s=found.take i) (λz=>z=.inr ((0:Int),id,d,l,p,(0:Int),found,())) u
  (λi E s aN=>by left;have M:=e3 (i:=i) (l:=found) u;have cl:bG ((0:Int)<=((i:Nat):Int)):=aX u;have w:=fv (j:=i) u;have room:bG ((s.length+List.length ([found[i]]:List (ck)))*40<=am):=aX (by rw[ey,aN];simp;omega);refine ⟨s++[found[i]],by rw[aN,eK E],?_⟩;simp only[vb,jp,IV,M,cl,bN,an,bE,b5 E,cJ,cL,cU,ay,room,w])
  (λs aN=>by have M:=fD found;rw[ew]at aN;exact ⟨_,rfl,by simp only[vb,M,ay,aN]⟩) [] aU
 exact q
theorem arR (id:Int) (d:aL) (l:au) (p:bB) (found:aj) (e:Int) (he:e≠0):
  x5 ((found.length:Int),(0:Int),(0:Int),id,d,l,p,e,found,[],())=some (.inl ((0:Int),id,d,l,p,e,[],()))\/
  x5 ((found.length:Int),(0:Int),(0:Int),id,d,l,p,e,found,[],())=some (.inr ((0:Int),id,d,l,p,e,[],())):=by
 cases found with
 |nil=>
  right;exact nU (n:=1) (by rw[kc];omega) (by have M:(decide ((0:Int)<((List.length ([]:aj)):Int)))=false:=rfl;simp only[fY,vb,M,ay])
 |cons x found=>
  left;exact nU (n:=1) (by rw[kc];omega) (by have M:bG ((0:Int)<((List.length (x::found)):Int)):=aX (by rw[iy];omega);have V:(decide (e=0))=false:=bm he;simp only[fY,vb,jp,M,V,Int.le_refl,cJ,bN,an,cU,cL,ay])
def pQ (d:aL) (p:ck):Bool:=ch d p.1
theorem adv (d:aL):eb [d]=pQ d:=by
 funext p
 simp[eb,pQ]
theorem ajA (d:aL):ji [d]=λk=>ch d k=true:=by
 funext k
 unfold ji;rw[ln]
theorem acj (T:cQ) (n:cE) (bO:ik (T.1,T.2.1,())=some (n,112,())) (d:aL):ll (T,d,())=some (112,[],()):=by have M:(decide ((112:Int)=0))=false:=rfl;simp only[ll,qU,vh,bO,M,cU,an,cJ]
theorem as6 (T:cQ) (a7:cE) (af:a7.2.2.1=[]) (bO:ik (T.1,T.2.1,())=some (a7,0,())) (ad:a7.1.length<10^12) (d:aL):ll (T,d,())=some (0,a7.1.filter (pQ d),()):=by have M:=OL a7.1 [d] ad aU;rw[adv]at M;have aM:(a7.1.filter (pQ d)).length<=a7.1.length:=h0 _ _;have V:=ab3 T.2.1 (([]:N),(([]:N),())) [d] T.1 (a7.1.filter (pQ d)) u;have a1:bG ((((a7.2.2.1.length):Int):Int)=(0:Int)):=aX (by rw[af];rfl);simp only[ll,qU,vh,bO,cJ,cL,ay,n0,a1,M,V,an]
def alf (Q:cK) (x:Nat) (P:bo) (aI:List bo) (ks:dA) (buf:cD) (ax:N->Prop):Prop:=
 ∃j,j<ks.length/\sn (kE buf ax) (List.getD (partsOf cb (cS P cb)) j cb)/\u3 Q x aI (List.getD (partsOf cb (cS P cb)) j cb) (ks.getD j 0) (kE buf ax)
theorem ast {Q:cK} {t:aj} (aW:oY t) {b x:Nat} {P:bo} {aI:List bo} {a7:cE} {ks:dA} (ao:aI.length<=1) (T:cQ) (aT:l2 T.1 Q b x) (ej:wK Q t P aI cb a7 ks) (gD: ∀k∈ks,k<b)
  (bO:ik (T.1,T.2.1,())=some (a7,0,())) (d:aL) (ah:d.1.length<=200/\d.2.1.length<=200):
  ∃ei,ll (T,d,())=some (ei,(if ei=0 then (allM (low Q aI ks) a7.2.2.2.2.1).filter (pQ d) else []),())/\sm ei/\(ei≠0↔alf Q x P aI ks a7.2.2.2.2.1 (λk=>ch d k=true)):=by
 have bI:jf=999999999999999999999999+1:=rfl;have aE:4^a7.2.2.2.2.1.length<=67108864:=by have:4^a7.2.2.2.2.1.length<=4^13:=Nat.pow_le_pow_right u ej.few;omega
 have lK:1*4^a7.2.2.2.2.1.length*1024^aI.length<=10^11:=by have bf:1024^aI.length<=1024^1:=Nat.pow_le_pow_right u ao;have:=Nat.mul_le_mul (show 1*4^a7.2.2.2.2.1.length<=67108864 by omega) bf;omega
 have aeI:=ej.few;have kids:=λj (ak:j<ks.length)=>abF aW aT aI (List.getD (partsOf cb (cS P cb)) j cb) (ks.getD j 0) u (ej.good j ak) (by rw[b5 ak];exact gD _ (dI ak)) 999999999999999999999999 (200+4*a7.2.2.2.2.1.length) (1*4^a7.2.2.2.2.1.length) u u u lK
 obtain ⟨eI,ei,j,f1,f2,f3,f4,f5,f6,f7⟩:=abd (qS 999999999999999999999999) T.1 a7 cb _ ks (λk=>D.cont Q aI k) (λk s ax=>u3 Q x aI s k ax) 200 1 ej.kids ej.parts ej.one ej.six ej.span ej.buf ej.few u u u (ej.contents aW ao) kids [d] 0 aU (λy bt=>by obtain rfl:=gv.1 bt;exact ah) (.inl rfl)
 obtain ⟨g1,g2⟩:=ej.all ao j eI;obtain ⟨F,fj⟩: ∃F,allM (((ks.take j).flatMap λk=>D.cont Q aI k).filter (eb eI)) a7.2.2.2.2.1=F:=⟨_,rfl⟩;rw[fj]at g1 g2;have M:=OL F [d] u aU;have lO:(F.filter (eb [d])).length<=F.length:=h0 _ _;have a1:(decide ((((a7.2.2.1.length):Int):Int)=(0:Int)))=false:=bm (by have:=ej.one;rw[ej.kids,fO];omega);have B9:I2 (a7,(([]:N),(([]:N),())),[d],T.1,(0:Int),())=some (((ks.take j).flatMap λk=>D.cont Q aI k).filter (eb eI),T.1,ei,()):=by unfold I2;rw[bI];exact f1
 refine ⟨ei,?_,f3,?_⟩
 ·by_cases j5:ei=0
  ·have ak:=f5 j5;have avF:=ack (low:=low Q aI ks) (l:=[d]) ej.low.1 (λm hm=>(ej.buf m hm).ok) f2;have at3:F.filter (eb [d])=(allM (low Q aI ks) a7.2.2.2.2.1).filter (pQ d):=by rw[<-fj,ak,ew,<-adv];exact avF
   have V:=ab3 T.2.1 (([]:N),(([]:N),())) [d] T.1 (F.filter (eb [d])) u;rw[if_pos j5,<-at3];subst j5;simp only[ll,qU,vh,bO,cJ,cL,ay,n0,a1,cU,an,B9,g1,M,V]
  ·have d0:decide (ei=0)=false:=bm j5;rw[if_neg j5];rcases arR T.2.1 (([]:N),(([]:N),())) [d] T.1 (F.filter (eb [d])) ei j5 with V |V
   ·simp only[ll,qU,vh,bO,cJ,cL,ay,n0,a1,cU,an,B9,g1,M,V,d0]
   ·simp only[ll,qU,vh,bO,cJ,cL,ay,n0,a1,cU,an,B9,g1,M,V,d0]
 ·rw[f7 rfl,ajA];exact Iff.rfl
end D
open Go Go.X
namespace D
theorem ajo (x:fg) (h:Ai x):oY (nv x):=by
 have avK: ∀y∈x.1.take 40,rL y:=λy bt=>h.t.1 y (List.mem_of_mem_take bt)
 have hlen:=AN (x.1.take 40);rw[ev]at hlen;refine ⟨acs _,?_,λp aT=> ?_⟩
 ·unfold nv;omega
 ·obtain ⟨y,bt,rfl⟩:=OP _ p aT;have q:=avK y bt;have:=(Oq y.1 q.1.1 q.1.2).2.1;show (l0 y.1).length<=100;omega
theorem ai8 (x:fg) {Q:cK} {root:Nat} (h:hD Q (nv x) (lB x) cb root):nr Q (nv x) (lB x) cb root:=by have hm:=GW x;have ah:=Gq _ hm;exact ⟨h,ah.2,abN _ hm,aiI _ hm,ads _ hm⟩
theorem ak2 (x:fg):(lB x).length<=2:=(Gq _ (GW x)).1
theorem akY (Q:cK):l2 (mk Q (λ_=>1),()) Q Q.length Q.length:=by intro i n E aO;obtain ⟨q,G⟩:=iK.1 aO;rw[if_neg u,ari E,G]
theorem Px {Q:cK} {t:aj} (aW:oY t) {x:Nat}: ∀{aI:List bo} {d:aL} {i:Nat} {ax:N->Prop},nr Q t aI d i->u3 Q x aI d i ax->x<=i
 |[],d,i,ax,_,h=>by have h:i=x:=h;omega
 |P::aI,d,i,ax,bC,h=>by
  obtain ⟨ks,sums,buf,q,ej,q2,bu,-⟩:=bC.inner aW;rcases h with h |⟨j,a,b,c⟩
  ·omega
  ·rw[ej.parts]at a;rw[qp q a]at c;have G:=Px aW (ej.good j a) c;have:ks.getD j 0<i:=bu _ (by rw[b5 a];exact dI a);omega
structure l7 (Q:cK) (t:aj) (aI:List bo) (root:Nat):Prop where
 tab:oY t
 good:nr Q t aI cb root
 two:aI.length<=2
 lt:root<Q.length
theorem l7.made (x:fg) (h:Ai x) {Q:cK} {root:Nat} (aW:hD Q (nv x) (lB x) cb root):l7 Q (nv x) (lB x) root:=
 ⟨ajo x h,ai8 x aW,ak2 x,aW.lt⟩
theorem l7.content {Q:cK} {t:aj} {aI:List bo} {root:Nat} (h:l7 Q t aI root):GX cb aI.length (cont Q aI root):=h.good.cont h.tab
theorem a31 {I:Nat} (h:I<=2):clen I<=36870176:=by have:I=0\/I=1\/I=2:=u;rcases this with rfl |rfl |rfl<;>decide
theorem l7.clen {Q:cK} {t:aj} {aI:List bo} {root:Nat} (h:l7 Q t aI root):(cont Q aI root).length<=36870176:=Nat.le_trans h.content.len (a31 h.two)
theorem l7.scanX {Q:cK} {t:aj} {aI:List bo} {root:Nat} (h:l7 Q t aI root) (T:cQ) {b x:Nat} (aT:l2 T.1 Q b x) (L:root<b) (ar:T.2.1=(root:Int)) (d:aL) (ah:d.1.length<=200/\d.2.1.length<=200):
  ∃e,ll (T,d,())=some (e,(if e=0 then (cont Q aI root).filter (pQ d) else []),())/\sm e/\(e≠0↔u3 Q x aI cb root (λk=>ch d k=true)):=by
 match aI,h with
 |[],h=>
  have q:Q[root]? =some (inS cb t,[],[],[],[],()):=h.good.tree;have bO:=aT root _ L q;rw[<-ar]at bO;have aw:cont Q [] root=inS cb t:=by show (Q.getD root h7).1=_;rw[sg q]
  by_cases al:root=x
  ·rw[if_pos al]at bO;exact ⟨112,acj T h7 bO d,.inr rfl,⟨λ_=>al,λ_=>fm⟩⟩
  ·rw[if_neg al]at bO;have ad:=si cb t;have h5:=h.tab.len;refine ⟨0,?_,.inl rfl,⟨λcB=>absurd rfl cB,λcB=>absurd cB al⟩⟩;rw[if_pos rfl,aw];exact as6 T (inS cb t,[],[],[],[],()) rfl bO (by show (inS cb t).length<_;omega) d
 |P::aI,h=>
  obtain ⟨ks,sums,buf,q,ej,q2,bu,-⟩:=h.good.inner h.tab;have bO:=aT root _ L q;rw[<-ar]at bO;have ao:aI.length<=1:=by have:=h.two;simp at this;omega
  by_cases al:root=x
  ·rw[if_pos al]at bO;exact ⟨112,acj T h7 bO d,.inr rfl,⟨λ_=>.inl al,λ_=>fm⟩⟩
  ·rw[if_neg al]at bO;obtain ⟨e,M,V,a1⟩:=ast h.tab ao T aT ej (λk af=>by have:=bu k af;omega) bO d ah;refine ⟨e,?_,V,?_⟩
   ·rw[FH P aI q];exact M
   ·rw[a1];have vk:xy Q root=buf:=acA q;constructor
    ·rintro ⟨j,a,b,c⟩;refine .inr ⟨j,by rw[ej.parts];exact a,by rw[vk];exact b,by rw[vk,qp q a];exact c⟩
    ·rintro (cB |⟨j,a,b,c⟩)
     ·exact absurd cB al
     ·rw[ej.parts]at a;rw[vk]at b c;rw[qp q a]at c;exact ⟨j,a,b,c⟩
theorem l7.scan {Q:cK} {t:aj} {aI:List bo} {root:Nat} (h:l7 Q t aI root) (sh:bi) (d:aL) (ah:d.1.length<=200/\d.2.1.length<=200):
  ll (((D.mk Q (λ_=>1),()),((root:Int),(sh,()))),d,())=some (0,(cont Q aI root).filter (pQ d),()):=by
 obtain ⟨e,M,V,a1⟩:=h.scanX ((D.mk Q (λ_=>1),()),((root:Int),(sh,()))) (akY Q) h.lt rfl d ah;have:e=0:=by
  rcases Classical.em (e=0) with cB |cB
  ·exact cB
  ·have:=Px h.tab h.good (a1.1 cB);have:=h.lt;omega
 subst this;rw[if_pos rfl]at M;exact M
theorem ass (l:aj) (ad:l.length<=10^12):wy (l,l,())=some (true,()):=by
 obtain ⟨z,q,rfl⟩:=dG (b:=DX) (λi (_:H)=>(l,l,(i:Int),())) l.length (λi _=>True) (λz=>z=.inr ()) u
  (λi E _ _=>by left;have M:=e3 (i:=i) (l:=l) u;have cl:bG ((0:Int)<=((i:Nat):Int)):=aX u;have w:=fv (j:=i) u;exact ⟨(),trivial,by simp only[DX,M,cl,bN,an,bE,px,cL,ay,w]⟩)
  (λ_ _=>by have M:=fD l;exact ⟨_,rfl,by simp only[DX,M,ay]⟩) () trivial
 have dr:Mz (l,l,(0:Int),())=some (.inr ()):=q;simp only[wy,cJ,cL,ay,dr]
theorem ajx {t:aj} {l:cD} (ah:cO bT t) (h: ∀m∈l,ig m) (ad:t.length<=1200000) (aO:l.length<=13) {B:Nat} (di:100<=B) (kp:B<=900) (af: ∀p∈t,p.1.length<=B):
  OM (t,l,())=some (allM t l,()):=by
 obtain ⟨z,q,rfl⟩:=dG (b:=Km) (λi (s:aj)=>(s,l,(i:Int),())) l.length (λi s=>s=allM t (l.take i)) (λz=>z=.inl (allM t l,())) u
  (λi E s aN=>by left;have M:=e3 (i:=i) (l:=l) u;have cl:bG ((0:Int)<=((i:Nat):Int)):=aX u;have w:=fv (j:=i) u;obtain ⟨dF,a2,a3⟩:=FZ ah h (Gb aO ad) aO di kp af i u;rw[<-aN]at dF a2 a3;have V:=(OS s l[i] (h _ (dI E)) dF a2 a3).2;refine ⟨apM s l[i],by rw[aN,eK E,FY],?_⟩;simp only[Km,M,cl,bN,an,bE,b5 E,V,w])
  (λs aN=>by have M:=fD l;rw[ew]at aN;exact ⟨_,rfl,by simp only[Km,M,ay,aN]⟩) t rfl
 have dr:aam (t,l,(0:Int),())=some (.inl (allM t l,())):=q;simp only[OM,dr]
theorem abh {Q:cK} {t:aj} (aW:oY t): ∀(aI:List bo) (d:aL) (i:Nat),aI.length<=2->nr Q t aI d i-> ∀n,aI.length+1<=n->
  De n ((mk Q (λ_=>1),()),(i:Int),())=some (cont Q aI i,())
 |[],d,i,ao,bC,n,aO=>by
  obtain ⟨n,rfl⟩: ∃k,n=k+1:=⟨n-1,by simp at aO;omega⟩;have q:Q[i]? =some (inS d t,[],[],[],[],()):=bC.tree;obtain ⟨bu,G⟩:=iK.1 q;have bO:=Ow (Q:=Q) (r:=λ_=>1) bu;rw[G]at bO;have aw:cont Q [] i=inS d t:=by show (Q.getD i h7).1=_;rw[sg q]
  have a1:bG ((((List.length ([]:ct)):Int):Int)=(0:Int)):=rfl;rw[aw];show Df _ _=_;simp only[Df,bO,a1,an]
 |P::aI,d,i,ao,bC,n,aO=>by
  obtain ⟨n,rfl⟩: ∃k,n=k+1:=⟨n-1,by simp at aO;omega⟩;obtain ⟨ks,sums,buf,q,ej,q2,bu,-⟩:=bC.inner aW;have m2:aI.length<=1:=by simp at ao;omega
  obtain ⟨p4,G⟩:=iK.1 q;have bO:=Ow (Q:=Q) (r:=λ_=>1) p4;rw[G]at bO;have kids:=λj (ak:j<ks.length)=>abh aW aI (List.getD (partsOf d (cS P d)) j cb) (ks.getD j 0) u (ej.good j ak) n (by simp at aO;omega)
  have p0:=ej.contents aW m2;have jl:=Om m2;obtain ⟨dy,de,nQ,rB⟩:=ej.low;obtain ⟨z,g1,rfl⟩:=dG (b:=Jv (De n)) (λi (s:aj)=>((i:Int),(mk Q (λ_=>1),()),(([],cS P d,bM ks,sums,buf,()):cE),s,())) ks.length (λi s=>s=(ks.take i).flatMap λk=>cont Q aI k) (λz=>z=.inl ((([],cS P d,bM ks,sums,buf,()):cE),low Q aI ks,())) (by have:=ej.six;omega)
   (λj ak s aN=>by
    left;have M:bG (((j:Nat):Int)<((List.length (bM ks)):Int)):=aX (by rw[fO];omega);have cl:bG ((0:Int)<=((j:Nat):Int)):=aX u;have w:=fv (j:=j) (by have:=ej.six;omega);have V:=kids j ak;rw[b5 ak]at V;have aw:=(p0 j ak).2;rw[b5 ak]at aw;have afd:s.length<=1200000:=by
     have:=(acH Q aI ks j [cb]).length_le;have rk:((ks.take j).flatMap λk=>cont Q aI k).length<=(low Q aI ks).length:=by
      unfold low;have:ks=ks.take j++ks.drop j:=(List.take_append_drop j ks).symm
      conv=>rhs;rw[this]
      rw[List.flatMap_append,eF];omega
     rw[aN];omega
    have room:bG ((s.length+List.length (cont Q aI ks[j]))*40<=am):=aX (by rw[ey];omega);refine ⟨s++cont Q aI ks[j],by rw[aN,eK ak,List.flatMap_append];simp,?_⟩;simp only[Jv,M,cl,bN,an,bE,k9 ak,V,room,w])
   (λs aN=>by have M:(decide (((ks.length:Nat):Int)<((List.length (bM ks)):Int)))=false:=bm (by rw[fO];omega);rw[ew]at aN;refine ⟨_,rfl,?_⟩;simp only[Jv,M,ay,aN];rfl) [] aU
  have j4:WD (De n) ((0:Int),(mk Q (λ_=>1),()),(([],cS P d,bM ks,sums,buf,()):cE),[],())=some (.inl ((([],cS P d,bM ks,sums,buf,()):cE),low Q aI ks,())):=g1;have a1:(decide ((((List.length (bM ks)):Int):Int)=(0:Int)))=false:=bm (by have:=ej.one;rw[fO];omega);have bp:=ajx dy (λm hm=>(ej.buf m hm).ok) u ej.few (B:=140) u u (λp aT=>by have:=rB p aT;omega);rw[FH P aI q];show Df _ _=_;simp only[Df,bO,a1,ay,j4,bp]
theorem l7.all {Q:cK} {t:aj} {aI:List bo} {root:Nat} (h:l7 Q t aI root) (sh:bi):acg (((D.mk Q (λ_=>1),()),((root:Int),(sh,()))),())=some (cont Q aI root,()):=by have:=abh h.tab aI cb root h.two h.good jf (by have:=h.two;rw[kc];omega);have this:Zf ((D.mk Q (λ_=>1),()),(root:Int),())=some (cont Q aI root,()):=this;simp only[acg,this]
theorem ac4 (C:aj):C.filter (pQ cb)=C:=by rw[List.filter_eq_self];intro p aT;exact fT.2 ⟨by cases p.1<;>rfl,.inl rfl⟩
def kf (s:b9) (k:Nat) (I:Int):b9:=s.set k ((s.getD k cW).1,((s.getD k cW).2.1,((s.getD k cW).2.2.1+I,(s.getD k cW).2.2.2)))
def kn (I:Int) (ks:dA) (s:b9):b9:=ks.foldl (λs k=>kf s k I) s
theorem zB (s:b9) (k:Nat) (I:Int):(kf s k I).length=s.length:=by simp[kf]
theorem uz (I:Int) (ks:dA): ∀s:b9,(kn I ks s).length=s.length:=by
 unfold kn
 induction ks with
 |nil=>intro s;rfl
 |cons k ks aR=>intro s;rw[List.foldl_cons,aR,zB]
theorem ab5 (I:Int) (ks:dA) (k:Nat) (s:b9):kn I (ks++[k]) s=kf (kn I ks s) k I:=by unfold kn;rw[List.foldl_append];rfl
theorem wg {α:Type} {l:List α} {i:Nat} {v I:α} (h:i<l.length):List.getD (l.set i v) i I=v:=by rw[b5 (by rw[List.length_set];exact h)];simp
theorem rJ {α:Type} {l:List α} {i j:Nat} {v I:α} (h:i≠j):List.getD (l.set i v) j I=l.getD j I:=by unfold List.getD;rw[List.getElem?_set_ne h]
theorem AD {s:b9} {k i:Nat} {I:Int} (h:k≠i):List.getD (kf s k I) i cW=s.getD i cW:=rJ h
theorem F0 {s:b9} {k:Nat} {I:Int} (h:k<s.length):List.getD (kf s k I) k cW=((s.getD k cW).1,((s.getD k cW).2.1,((s.getD k cW).2.2.1+I,(s.getD k cW).2.2.2))):=wg h
theorem rW (I:Int) {i:Nat}: ∀(ks:dA) (s:b9),i∉ks->List.getD (kn I ks s) i cW=s.getD i cW
 |[],s,_=>rfl
 |k::ks,s,h=>by
  have q:k≠i:=λe=>h (by rw[e];exact gI)
  have:=rW I ks (kf s k I) (λhm=>h (gU _ hm));show List.getD (kn I ks (kf s k I)) i cW=_;rw[this,AD q]
theorem Gg (I:Int) {i:Nat}: ∀(ks:dA) (s:b9),ks.Nodup->i∈ks->i<s.length->
  List.getD (kn I ks s) i cW=((s.getD i cW).1,((s.getD i cW).2.1,((s.getD i cW).2.2.1+I,(s.getD i cW).2.2.2)))
 |k::ks,s,aO,h,E=>by
  have Rv:=List.nodup_cons.1 aO;show List.getD (kn I ks (kf s k I)) i cW=_;rcases e7.1 h with rfl |h
  ·rw[rW I ks _ Rv.1,F0 E]
  ·have q:k≠i:=λe=>Rv.1 (by rw[e];exact h)
   rw[Gg I ks _ Rv.2 h (by rw[zB];exact E),AD q]
theorem Fu {p:b9} {i:Nat} (h:i<p.length):mt ((p,()),(i:Int),())=some ((p.getD i cW).1,()):=by rw[aq2 h,b5 h]
def put (p:b9) (id:Nat) (d:iM):b9:=if id=p.length then p++[d] else p.set id d
def GY (p:b9) (id:Nat):Prop:=(∀i,i<id->i<p.length/\(p.getD i cW).1=true)/\(id=p.length\/(id<p.length/\(p.getD id cW).1=false))
theorem ajL {p:b9} {id:Nat} (h:GY p id) (ad:p.length<=1000):BV (p,())=some ((if id=p.length then (-1:Int) else (id:Int)),()):=by
 have hle:id<=p.length:=by rcases h.2 with h |h<;>omega
 obtain ⟨z,q,G⟩:=dG (b:=xK) (λi (_:H)=>(p,(p.length:Int),(i:Int),())) id (λ_ _=>True) (λz=>(id=p.length/\z=.inr ())\/(id≠p.length/\z=.inl ((id:Int),()))) u
  (λi E _ _=>by left;obtain ⟨ab,aE⟩:=h.1 i E;have M:=e3 (i:=i) (l:=p) u;have V:=dR i;have a1:=fv (j:=i) u;have QQ:(p.getD i (false,(false,((0:Int),((([]:List (ck)),(([]:bo),(([]:List (Int)),(([]:List (eR)),(([]:List (bH)),()))))),()))))).1=true:=aE;exact ⟨(),trivial,by simp only[xK,M,V,an,ay,bN,bE,FK,QQ,cL,a1]⟩)
  (λ_ _=>by
   rcases h.2 with ab |⟨ab,aE⟩
   ·have M:(decide (((id:Nat):Int)<((p.length):Int)))=false:=bm u;exact ⟨_,.inl ⟨ab,rfl⟩,by simp only[xK,M,ay]⟩
   ·have M:=e3 (i:=id) (l:=p) u;have V:=dR id;have QQ:(p.getD id (false,(false,((0:Int),((([]:List (ck)),(([]:bo),(([]:List (Int)),(([]:List (eR)),(([]:List (bH)),()))))),()))))).1=false:=aE;exact ⟨_,.inr ⟨u,rfl⟩,by simp only[xK,M,V,an,bN,bE,FK,QQ,cU]⟩) () trivial
 have dr:QD (p,(p.length:Int),0,())=some z:=q;rcases G with ⟨ab,rfl⟩|⟨ab,rfl⟩
 ·rw[if_pos ab];simp only[BV,dr]
 ·rw[if_neg ab];simp only[BV,dr]
theorem PG {p:b9} {id:Nat} {d:iM} (h:id<=p.length):(put p id d).length=if id=p.length then p.length+1 else p.length:=by unfold put;split<;>simp
theorem PU {p:b9} {id i:Nat} {d:iM} (h:i≠id) (E:i<p.length):List.getD (put p id d) i cW=p.getD i cW:=by
 unfold put;split
 ·rw[NF E]
 ·rw[rJ (Ne.symm h)]
theorem U7 {p:b9} {id:Nat} {d:iM} (h:id<=p.length):List.getD (put p id d) id cW=d:=by
 unfold put;split
 ·rename_i e;exact Fq e
 ·rw[wg u]
theorem U5 {p:b9} {n:cE} {ks:dA} {id:Nat} (af:n.2.2.1=bM ks) (hu: ∀k∈ks,k<p.length/\(p.getD k cW).1=true) (ar: ∀k∈ks,0<=(p.getD k cW).2.2.1/\(p.getD k cW).2.2.1<=10^6) (aO:ks.Nodup) (ad:ks.length<=1000) (aT:p.length<=900) (hid:GY p id):
  lV ((p,()),n,())=some ((kn 1 ks (put p id (true,(false,((1:Int),(n,()))))),()),(id:Int),(0:Int),()):=by
 have hle:id<=p.length:=by rcases hid.2 with h |h<;>omega
 have Ik: ∀k∈ks,k≠id:=by
  intro k af e;obtain ⟨q,G⟩:=hu k af;rcases hid.2 with h |⟨h,ab⟩
  ·omega
  ·rw[e,ab]at G;cases G
 obtain ⟨P,hQ⟩: ∃P,put p id (true,(false,((1:Int),(n,()))))=P:=⟨_,rfl⟩;have azt:p.length<=P.length:=by rw[<-hQ,PG hle];split<;>omega
 have th:NN (bM ks,((bM ks).length:Int),0,(p,()),n,[],())=some (.inr ((p,()),n,[],())):=by
  obtain ⟨z,q,rfl⟩:=dG (b:=Ey) (λi (_:H)=>(bM ks,((bM ks).length:Int),(i:Int),(p,()),n,[],())) ks.length (λ_ _=>True) (λz=>z=.inr ((p,()),n,[],())) u
   (λi E _ _=>by left;have M:bG (((i:Nat):Int)<((List.length (bM ks)):Int)):=aX (by rw[fO];omega);have V:=dR i;have a1:=fv (j:=i) u;obtain ⟨q,G⟩:=hu _ (dI E);exact ⟨(),trivial,by simp only[Ey,M,V,an,bN,bE,k9 E,Fu q,G,cL,ay,a1]⟩)
   (λ_ _=>by have M:(decide (((ks.length:Nat):Int)<((List.length (bM ks)):Int)))=false:=bm (by rw[fO];omega);exact ⟨_,rfl,by simp only[Ey,M,ay]⟩) () trivial
  exact q
 have dy:NO ((id:Int),bM ks,((bM ks).length:Int),0,[],P,())=some (.inl ((id:Int),[],kn 1 ks P,())):=by
  obtain ⟨z,q,G⟩:=dG (b:=Ez) (λi (l:b9)=>((id:Int),bM ks,((bM ks).length:Int),(i:Int),[],l,())) ks.length (λi l=>l=kn 1 (ks.take i) P) (λz=>z=.inl ((id:Int),[],kn 1 ks P,())) u
   (λi E l ad=>by
    left;have CE:=dI E;obtain ⟨q,G⟩:=hu _ CE;obtain ⟨ag,aS⟩:=ar _ CE;have Rp:l.length=P.length:=by rw[ad,uz]
    have M:bG (((i:Nat):Int)<((List.length (bM ks)):Int)):=aX (by rw[fO];omega);have V:=dR i;have a1:=fv (j:=i) u;have bp:bG ((0:Int)<=((ks[i]:Nat):Int)):=aX u;have cI:bG (((ks[i]:Nat):Int)<(l.length:Int)):=aX u;have mq:ks[i]∉ks.take i:=λhm=>by have G:=eK E;have dK:(ks.take (i+1)).Nodup:=aO.sublist (List.take_sublist _ _);rw[G,List.nodup_append]at dK;exact dK.2.2 _ hm _ aU rfl
    have bC:l.getD ks[i] cW=p.getD ks[i] cW:=by rw[ad,rW 1 _ _ mq,<-hQ,PU (Ik _ CE) q]
    have w:i64.wrap ((l.getD ks[i] cW).2.2.1+1)=(l.getD ks[i] cW).2.2.1+1:=by rw[bC,cR u]
    refine ⟨kf l ks[i] 1,by rw[eK E,ab5,<-ad],?_⟩;have aq:i64.wrap ((l.getD ks[i] (false,(false,((0:Int),((([]:List (ck)),(([]:bo),(([]:List (Int)),(([]:List (eR)),(([]:List (bH)),()))))),()))))).2.2.1+1)=(l.getD ks[i] cW).2.2.1+1:=w;simp only[Ez,M,V,an,bN,bE,k9 E,bp,cI,aq,a1];rfl)
   (λl ad=>by subst ad;have M:(decide (((ks.length:Nat):Int)<((List.length (bM ks)):Int)))=false:=bm (by rw[fO];omega);exact ⟨_,rfl,by simp only[Ez,M,ay,ew]⟩) P rfl
  subst G;exact q
 have M:=ajL hid u;have V:=J7 p u;by_cases ao:id=p.length
 ·rw[if_pos ao]at M;have bh:bG ((-1:Int)<(0:Int)):=rfl;have ba:(decide (((p.length):Int)>=4096))=false:=bm u;have c3:bG ((p.length+List.length ([cW]:List (iM)))*136<=am):=aX (by rw[ey];simp;omega);have ga:bG ((0:Int)<=((p.length):Int)):=aX u;have c5:bG (((p.length):Int)<(List.length (p++[cW]):Int)):=aX (by simp;omega);have nz:List.set (p++[cW]) p.length (true,(false,((1:Int),(n,()))))=P:=by rw[<-hQ];unfold put;rw[if_pos ao,List.set_append_right _ _ (ca _)];simp
  rw[hQ];rw[ao]at dy ⊢;simp only[lV,af,th,M,bh,an,Fs,ba,ay,V,cJ,c3,Ft,ga,c5,bN,bE,nz,dy]
 ·rw[if_neg ao]at M;have bh:(decide (((id:Nat):Int)<(0:Int)))=false:=bm u;have ba:(decide (((id:Nat):Int)>=4096))=false:=bm u;have c3:(decide (((id:Nat):Int)=((p.length):Int)))=false:=bm u;have ga:bG ((0:Int)<=((id:Nat):Int)):=aX u;have c5:bG (((id:Nat):Int)<(p.length:Int)):=aX u;have nz:List.set p id (true,(false,((1:Int),(n,()))))=P:=by rw[<-hQ];unfold put;rw[if_neg ao]
  rw[hQ];simp only[lV,af,th,M,bh,an,Fs,ba,ay,V,c3,Ft,ga,c5,bN,bE,nz,dy]
theorem ajK {p:b9} {root:Nat} (ar:root<p.length) (hu:(p.getD root cW).1=true) (G:2<=(p.getD root cW).2.2.1) (ab:(p.getD root cW).2.2.1<=10^6) (aT:p.length<=1000):
  nb ((p,()),(root:Int),())=some ((kf p root (-1),()),(0:Int),()):=by
 have jW:=Fu ar;rw[hu]at jW;have bh:=J7 p u;have M:bG ((((List.length ([(root:Int)]:ct)):Int):Int)>(0:Int)):=rfl;have dn:i64.wrap (((List.length ([(root:Int)]:ct)):Int)-1)=0:=rfl;have a1:bG ((0:Int)<((List.length ([(root:Int)]:ct)):Int)):=rfl;have B6:bG ((0:Int)<=((List.length ([(root:Int)]:ct)):Int)):=rfl;have g1:List.getD ([(root:Int)]:ct) 0 0=(root:Int):=rfl;have bp:=dR root;have cI:bG ((root:Int)<(p.length:Int)):=aX u;have da:i64.wrap ((p.getD root cW).2.2.1-1)=(p.getD root cW).2.2.1+(-1):=by rw[cR u];omega
 have g2:=F0 (I:= -1) ar;unfold kf at g2;have c9:bG ((p.getD root cW).2.2.1+(-1)>(0:Int)):=aX u;have s6:Kk ([],[(root:Int)],p,())=some (.inl ([],kf p root (-1),())):=by
  refine nU (n:=2) (by rw[kc];omega) ?_;have s1:pj ([],[(root:Int)],p,())=some (.inl ([],[],kf p root (-1),())):=by have Ea:i64.wrap ((p.getD root (false,(false,((0:Int),((([]:List (ck)),(([]:bo),(([]:List (Int)),(([]:List (eR)),(([]:List (bH)),()))))),()))))).2.2.1-1)=(p.getD root cW).2.2.1+(-1):=da;simp only[pj,M,an,dn,a1,B6,Int.le_refl,cJ,bN,Int.toNat_zero,g1,bp,cI,bE,Ea,g2,c9,List.take_zero];rfl
  have s2:pj ([],[],kf p root (-1),())=some (.inr (.inl ([],kf p root (-1),()))):=by have fV:(decide ((((List.length ([]:ct)):Int):Int)>(0:Int)))=false:=rfl;simp only[pj,fV,ay]
  simp only[fY,s1,s2]
 simp only[nb,jW,cL,ay,bh,s6]
theorem ajJ {p:b9} {root:Nat} {ks:dA} (ar:root<p.length) (hu:(p.getD root cW).1=true) (G:(p.getD root cW).2.2.1=1) (af:(p.getD root cW).2.2.2.1.2.2.1=bM ks)
  (gD: ∀k∈ks,k<p.length/\2<=(p.getD k cW).2.2.1/\(p.getD k cW).2.2.1<=10^6) (cw:root∉ks) (aO:ks.Nodup) (ad:ks.length<=1000) (aT:p.length<=1000):
  nb ((p,()),(root:Int),())=some ((kn (-1) ks.reverse (p.set root cW),()),(0:Int),()):=by
 have jW:=Fu ar;rw[hu]at jW;have bh:=J7 p u;obtain ⟨bA,H9⟩: ∃bA,p.set root cW=bA:=⟨_,rfl⟩;have auh:bA.length=p.length:=by rw[<-H9,List.length_set]
 have M:bG ((((List.length ([(root:Int)]:ct)):Int):Int)>(0:Int)):=rfl;have dn:i64.wrap (((List.length ([(root:Int)]:ct)):Int)-1)=0:=rfl;have a1:bG ((0:Int)<((List.length ([(root:Int)]:ct)):Int)):=rfl;have B6:bG ((0:Int)<=((List.length ([(root:Int)]:ct)):Int)):=rfl;have g1:List.getD ([(root:Int)]:ct) 0 0=(root:Int):=rfl;have bp:=dR root;have cI:bG ((root:Int)<(p.length:Int)):=aX u;have da:i64.wrap ((p.getD root cW).2.2.1-1)=0:=by rw[G];rfl
 have first:pj ([],[(root:Int)],p,())=some (.inl ([],bM ks,bA,())):=by
  have Ea:i64.wrap ((p.getD root (false,(false,((0:Int),((([]:List (ck)),(([]:bo),(([]:List (Int)),(([]:List (eR)),(([]:List (bH)),()))))),()))))).2.2.1-1)=0:=da;have e1:(p.getD root (false,(false,((0:Int),((([]:List (ck)),(([]:bo),(([]:List (Int)),(([]:List (eR)),(([]:List (bH)),()))))),()))))).2.2.2.1.2.2.1=bM ks:=af;have g2: ∀v I:iM,List.getD (p.set root v) root I=v:=λv I=>wg ar
  have c9:(decide ((0:Int)>(0:Int)))=false:=rfl;have fV:bG ((List.length ([]:ct)+List.length (bM ks))*8<=am):=aX (by rw[ey,fO];simp;omega);have g3: ∀v:iM,(p.set root v).set root cW=bA:=λv=>by rw[<-H9];exact List.set_set _
  have atV: ∀v:iM,(p.set root v).set root (false,(false,((0:Int),((([]:List (ck)),(([]:bo),(([]:List (Int)),(([]:List (eR)),(([]:List (bH)),()))))),()))))=bA:=g3;simp only[pj,M,an,dn,a1,B6,Int.le_refl,cJ,bN,Int.toNat_zero,g1,bp,cI,bE,Ea,g2,c9,ay,e1,fV,atV,List.take_zero,List.nil_append]
 have s6:Kk ([],[(root:Int)],p,())=some (.inl ([],kn (-1) ks.reverse bA,())):=by
  obtain ⟨z,q,G⟩:=dG (b:=pj) (λi (s:b9)=>([],(if i=0 then [(root:Int)] else bM (ks.take (ks.length+1-i))),s,())) (ks.length+1) (λi s=>if i=0 then s=p else s=kn (-1) (ks.reverse.take (i-1)) bA)
   (λz=>z=.inl ([],kn (-1) ks.reverse bA,())) u
   (λi E s aN=>by
    left;cases i with
    |zero=>
     rw[if_pos rfl]at aN;subst aN;refine ⟨bA,?_,?_⟩
     ·rw[if_neg u];rfl
     ·rw[if_pos rfl,if_neg u,show ks.length+1-(0+1)=ks.length by omega,ew];exact first
    |succ i=>
    rw[if_neg u]at aN;rw[if_neg u,if_neg u];have E:i<ks.length:=u;rw[show ks.length+1-(i+1)=ks.length-i by omega];rw[show i+1-1=i by omega]at aN;obtain ⟨j,ak⟩: ∃j,ks.length-i=j+1:=⟨ks.length-i-1,u⟩;have lP:j<ks.length:=u;rw[ak];have lg:i<ks.reverse.length:=by rw[List.length_reverse];exact E
    have Iy:ks.reverse[i]=ks[j]:=by rw[List.getElem_reverse];congr 1;omega
    have jE:bM (ks.take (j+1))=bM (ks.take j)++[((ks[j]:Nat):Int)]:=by unfold bM;rw[eK lP,List.map_append];rfl
    have yq:(bM (ks.take (j+1))).length=j+1:=by rw[fO,ev];omega
    have gO:=dI lP;obtain ⟨bd,a6,cp⟩:=gD _ gO;have q6:ks[j]≠root:=λh=>cw (h▸gO)
    have avw:ks.reverse.Nodup:=(List.reverse_perm ks).nodup_iff.2 aO;have mq:ks[j]∉ks.reverse.take i:=λhm=>by have dK:(ks.reverse.take (i+1)).Nodup:=avw.sublist (List.take_sublist _ _);rw[eK lg,Iy,List.nodup_append]at dK;exact dK.2.2 _ hm _ aU rfl
    have afd:s.length=p.length:=by rw[aN,uz,auh]
    have bC:s.getD ks[j] cW=p.getD ks[j] cW:=by rw[aN,rW _ _ _ mq,<-H9,rJ (Ne.symm q6)]
    have M:bG ((((List.length (bM (ks.take (j+1)))):Int):Int)>(0:Int)):=aX (by rw[yq];omega);have dn:i64.wrap (((List.length (bM (ks.take (j+1)))):Int)-1)=(j:Int):=by rw[yq,cR u];omega
    have V:=dR j;have a1:bG ((j:Int)<((List.length (bM (ks.take (j+1)))):Int)):=aX (by rw[yq];omega);have B6:bG ((j:Int)<=((List.length (bM (ks.take (j+1)))):Int)):=aX (by rw[yq];omega);have g1:List.getD (bM (ks.take (j+1))) j 0=((ks[j]:Nat):Int):=by rw[jE];exact Fq (by rw[fO,ev];omega)
    have bp:bG ((0:Int)<=((ks[j]:Nat):Int)):=aX u;have cI:bG (((ks[j]:Nat):Int)<(s.length:Int)):=aX u;have da:i64.wrap ((s.getD ks[j] cW).2.2.1-1)=(s.getD ks[j] cW).2.2.1+(-1):=by rw[bC,cR u];omega
    have Ea:i64.wrap ((s.getD ks[j] (false,(false,((0:Int),((([]:List (ck)),(([]:bo),(([]:List (Int)),(([]:List (eR)),(([]:List (bH)),()))))),()))))).2.2.1-1)=(s.getD ks[j] cW).2.2.1+(-1):=da;have g2: ∀v I:iM,List.getD (s.set ks[j] v) ks[j] I=v:=λv I=>wg u
    have c9:bG ((s.getD ks[j] cW).2.2.1+(-1)>(0:Int)):=aX (by rw[bC];omega);have avY:List.take j (bM (ks.take (j+1)))=bM (ks.take j):=by rw[jE,List.take_append_of_le_length (by rw[fO,ev];omega),ia (by rw[fO,ev];omega)]
    refine ⟨kf s ks[j] (-1),by rw[if_neg u,show i+1+1-1=i+1 by omega,eK lg,Iy,ab5,<-aN],?_⟩;rw[show ks.length+1-(i+1+1)=j by omega];simp only[pj,M,an,dn,V,a1,B6,bN,bE,g1,bp,cI,Ea,avY,g2,c9];rfl)
   (λs aN=>by rw[if_neg u,show ks.length+1-1=ks.length by omega,ia (by rw[List.length_reverse];exact ca _)]at aN;rw[if_neg u,show ks.length+1-(ks.length+1)=0 by omega];have M:(decide ((((List.length (bM (ks.take 0))):Int):Int)>(0:Int)))=false:=rfl;exact ⟨_,rfl,by simp only[pj,M,ay,aN]⟩) p (by rw[if_pos rfl])
  rw[if_pos rfl]at q;rw[G]at q;exact q
 rw[H9];simp only[nb,jW,cL,ay,bh,s6]
def jP (Q:cK) (x:Nat):List bo->aL->Nat->Prop
 |[],_,i=>i=x
 |P::aI,d,i=>i=x\/ ∃j,j<(partsOf d (cS P d)).length/\jP Q x aI (List.getD (partsOf d (cS P d)) j cb) (G6 Q i j)
theorem jP.root (Q:cK) (aI:List bo) (d:aL) (i:Nat):jP Q i aI d i:=by
 cases aI with
 |nil=>exact rfl
 |cons P aI=>exact .inl rfl
theorem PJ {Q:cK} {t:aj} (aW:oY t) {x:Nat}: ∀{aI:List bo} {d:aL} {i:Nat},nr Q t aI d i->jP Q x aI d i->x<=i
 |[],d,i,_,h=>by have h:i=x:=h;omega
 |P::aI,d,i,bC,h=>by
  obtain ⟨ks,sums,buf,q,ej,q2,bu,-⟩:=bC.inner aW;rcases h with h |⟨j,a,c⟩
  ·omega
  ·rw[ej.parts]at a;rw[qp q a]at c;have G:=PJ aW (ej.good j a) c;have:ks.getD j 0<i:=bu _ (by rw[b5 a];exact dI a);omega
theorem jP.kids {Q:cK} {t:aj} (aW:oY t) {x:Nat}: ∀{aI:List bo} {d:aL} {i:Nat},nr Q t aI d i->jP Q x aI d i->
  ∃n ks,Q[x]? =some n/\n.2.2.1=bM ks/\ks.length<=6/\ ∀k∈ks,jP Q k aI d i
 |[],d,i,bC,h=>by have h:i=x:=h;subst h;exact ⟨_,[],bC.tree,rfl,aU,aU⟩
 |P::aI,d,i,bC,h=>by
  obtain ⟨ks,sums,buf,q,ej,q2,bu,-⟩:=bC.inner aW;have kid: ∀k j,∀a:j<ks.length,jP Q k aI (List.getD (partsOf d (cS P d)) j cb) (ks.getD j 0)->jP Q k (P::aI) d i:=λk j a af=>
   .inr ⟨j,by rw[ej.parts];exact a,by rw[qp q a];exact af⟩
  rcases h with rfl |⟨j,a,c⟩
  ·refine ⟨_,ks,q,rfl,ej.six,λk af=> ?_⟩;obtain ⟨j,ak,rfl⟩:=List.mem_iff_getElem.1 af;refine kid _ j ak ?_;rw[b5 ak];exact jP.root _ _ _ _
  ·rw[ej.parts]at a;rw[qp q a]at c;obtain ⟨n,awm,M,V,a1,bp⟩:=jP.kids aW (ej.good j a) c;exact ⟨n,awm,M,V,a1,λk af=>kid k j a (bp k af)⟩
theorem Pw {Q:cK} {t:aj} (aW:cN t) {p:bB} {b x:Nat} (aT:l2 p Q b x) (aeA:b<=900): ∀(aI:List bo) (d:aL) (i:Nat) (f:Nat) (nd:Nat),(∀s∈aI,s.length<=5)->(∀P∈aI,P.Pairwise λa b=>Op.bytesLess a b=true)->qV aI d=true->hD Q t aI d i->i<b->aI.length+1<=f->aI.length+1<=nd->nd<=64->
  ∃v:Int,kI f (p,(i:Int),d,(nd:Int),())=some (v,())/\(jP Q x aI d i->v=0)/\(¬jP Q x aI d i->v=((aI.length+1:Nat):Int))
 |_,_,_,0,_,_,_,_,_,_,h,_,_=>u
 |[],d,i,f+1,nd,_,_,_,bW,ku,_,G,ab=>by
  have M:=aT i _ ku bW;by_cases al:i=x
  ·rw[if_pos al]at M;have cl:(decide ((112:Int)=(0:Int)))=false:=rfl;refine ⟨0,?_,λ_=>rfl,λh=>absurd al h⟩;show k4 (kI f) _=_;simp only[k4,M,cl,cL,cU,an,ay,ip]
  ·rw[if_neg al]at M;have a1:(decide ((nd:Int)=(0:Int)))=false:=bm (by have:([]:List bo).length=0:=rfl;omega);have bp:=ar0 aW d;refine ⟨_,?_,λh=>absurd h al,λ_=>rfl⟩;show k4 (kI f) _=_;simp only[k4,M,cJ,cL,cU,an,a1,bp,ip,ay,n0];rfl
 |P::aI,d,i,f+1,nd,aN,CS,bC,⟨ks,sums,buf,q,G,ab,aE,bf,bF,dU,hh⟩,ku,aM,avo,ja=>by
  have M:=aT i _ ku q;by_cases al:i=x
  ·rw[if_pos al]at M;have cl:(decide ((112:Int)=(0:Int)))=false:=rfl;refine ⟨0,?_,λ_=>rfl,λh=>absurd (.inl al) h⟩;show k4 (kI f) _=_;simp only[k4,M,cl,cL,cU,an,ay,ip]
  rw[if_neg al]at M;have hlen:(P::aI).length=aI.length+1:=rfl;have jU:=ud P d;have hQ:=aN P gI;have hV: ∀s∈aI,s.length<=5:=λs hV=>aN s (gU _ hV)
  have pe: ∀s∈aI,s.Pairwise λa b=>Op.bytesLess a b=true:=λs hV=>CS s (gU _ hV)
  have a1:(decide ((nd:Int)=(0:Int)))=false:=bm u;have dS: ∀s∈sums,jO s:=by intro s CO;obtain ⟨j,ak,rfl⟩:=List.mem_iff_getElem.1 CO;obtain ⟨bh,n,ba,c3⟩:=hh j u;obtain ⟨ec,bS,d1,d2,d3,d4⟩:=AY aW hV bh;obtain rfl:=eW (ba.symm.trans d1);rw[b5 ak]at c3;have:=eW (c3.symm.trans d3);have s4:sums[j]=bS:=congrArg Prod.fst this;rw[s4];exact d4
  have bp:=aaK (piv:=cS P d) (ks:=ks) (sums:=sums) (buf:=buf) (d:=d) G ab u (adB (CS P gI) d) (λk af=>by have:=bf k af;omega) dS dU u;obtain ⟨fI,gh⟩:=Oo bC;have jo:=(Gn d (cS P d) u).2;have QV:jP Q x (P::aI) d i↔ ∃j,j<(partsOf d (cS P d)).length/\jP Q x aI (List.getD (partsOf d (cS P d)) j cb) (ks.getD j 0):=by
   constructor
   ·rintro (h |⟨j,a,b⟩)
    ·exact absurd h al
    ·refine ⟨j,a,?_⟩;rw[qp q u]at b;exact b
   ·rintro ⟨j,a,b⟩;refine .inr ⟨j,a,?_⟩;rw[qp q u];exact b
  obtain ⟨parts,ra⟩: ∃p,partsOf d (cS P d)=p:=⟨_,rfl⟩;have cI:=Nc (n:=([],cS P d,bM ks,sums,buf,())) (d:=d) (PB u) fI;rw[ra]at cI gh jo QV;have c9:(decide ((((List.length (bM ks)):Int):Int)=(0:Int)))=false:=bm (by rw[fO];omega);obtain ⟨a7,jj⟩: ∃a7:cE,([],cS P d,bM ks,sums,buf,())=a7:=⟨_,rfl⟩;have sX:a7.2.2.1=bM ks:=by rw[<-jj]
  have QZ:a7.2.2.2.1=sums:=by rw[<-jj]
  rw[jj]at M bp cI;obtain ⟨z,g1,bI⟩:=dG (b:=io (kI f)) (λj (_:H)=>((nd:Int),((if j=0 then 0 else aI.length+1:Nat):Int),(parts.length:Int),(j:Int),p,a7,parts,())) parts.length (λj _=> ∀gg,gg<j-> ¬jP Q x aI (parts.getD gg cb) (ks.getD gg 0))
   (λz=>(z=.inl ((0:Int),())/\ ∃j,j<parts.length/\jP Q x aI (parts.getD j cb) (ks.getD j 0))\/(z=.inr (((aI.length+1:Nat):Int),())/\ ∀j,j<parts.length-> ¬jP Q x aI (parts.getD j cb) (ks.getD j 0))) u
   (λj ak _ RD=>by
    have lP:j<ks.length:=u;have mm:j<sums.length:=u;obtain ⟨bh,n,ba,c3⟩:=hh j lP;rw[ra]at bh;rw[b5 ak]at bh;have gD:ks.getD j 0=ks[j]:=b5 lP;rw[gD]at bh ba;have yh:ks[j]<b:=by have:=bf _ (dI lP);omega
    obtain ⟨v,aR,v0,v1⟩:=Pw aW aT aeA aI parts[j] ks[j] f (nd-1) hV pe (gh _ (dI ak)) bh yh u u u;have dn:i64.wrap ((nd:Int)-1)=((nd-1:Nat):Int):=by rw[cR u];omega
    have M:=e3 (i:=j) (l:=parts) u;have gy:bG (((j:Nat):Int)<(parts.length:Int)):=M;have V:=dR j;have fV:bG (((j:Nat):Int)<((List.length (bM ks):Nat):Int)):=aX (by rw[fO];omega);by_cases CA:jP Q x aI parts[j] ks[j]
    ·right;have a8:=v0 CA;subst a8;refine ⟨_,.inl ⟨rfl,j,ak,by rw[b5 ak,gD];exact CA⟩,?_⟩;simp only[io,sX,M,V,fV,an,bN,bE,b5 ak,k9 lP,dn,aR,cJ,cL,ay]
    ·left;have a8:=v1 CA;subst a8;obtain ⟨ec,bS,d1,d2,d3,d4⟩:=AY aW hV bh;obtain rfl:=eW (ba.symm.trans d1);rw[b5 mm]at c3;have p7:sums[j]=bS:=congrArg Prod.fst (eW (c3.symm.trans d3));have f1:=aT _ _ yh ba;rw[if_neg (λh=>CA (by rw[h];exact jP.root _ _ _ _))]at f1;have kK:bG (((j:Nat):Int)<((sums.length:Nat):Int)):=aX u;have nC:=e6 j u;have vc:(decide (((aI.length+1:Nat):Int)=(0:Int)))=false:=bm u;have vm:yC (kI f) ((nd:Int),(j:Int),((aI.length+1:Nat):Int),(parts.length:Int),(j:Int),p,a7,parts,())=some (.inl ((nd:Int),((aI.length+1:Nat):Int),(parts.length:Int),((j+1:Nat):Int),p,a7,parts,())):=by simp only[yC,sX,QZ,V,fV,kK,an,bN,bE,k9 lP,f1,d2,b5 mm,p7,px,cL,ay,nC]
     refine ⟨(),λgg iD=> ?_,?_⟩
     ·by_cases au8:gg=j
      ·subst au8;rw[b5 ak,gD];exact CA
      ·exact RD gg u
     rw[if_neg (by omega: ¬j+1=0)];simp only[io,sX,M,V,fV,an,bN,bE,b5 ak,k9 lP,dn,aR,vc,cU];by_cases bY:j=0
     ·have qT:(decide (((j:Nat):Int)>(0:Int)))=false:=bm u;simp only[qT,ay,vm]
     ·have qT:bG (((j:Nat):Int)>(0:Int)):=aX u;rw[if_neg bY];simp only[qT,an,cJ,cL,ay,vm])
   (λ_ RD=>by have M:=fD parts;have q9: ¬parts.length=0:=u;exact ⟨_,.inr ⟨rfl,RD⟩,by simp only[io,M,ay];rw[if_neg q9]⟩) () (λgg h=>absurd h u)
  have j4:DJ (kI f) ((nd:Int),(0:Int),(parts.length:Int),(0:Int),p,a7,parts,())=some z:=g1;have fV:(decide ((((a7.2.2.1.length):Int):Int)=(0:Int)))=false:=by rw[sX];exact c9
  rcases bI with ⟨rfl,bI⟩|⟨rfl,bI⟩
  ·refine ⟨0,?_,λ_=>rfl,λh=>absurd (QV.2 bI) h⟩;show k4 (kI f) _=_;simp only[k4,M,cJ,cL,cU,an,a1,bp,ip,ay,n0,fV,cI,j4]
  ·have da:i64.wrap (((aI.length+1:Nat):Int)+1)=(((P::aI).length+1:Nat):Int):=by rw[cR u];omega
   refine ⟨_,?_,λh=> ?_,λ_=>rfl⟩
   ·show k4 (kI f) _=_;simp only[k4,M,cJ,cL,cU,an,a1,bp,ip,ay,n0,fV,cI,j4,da]
   ·obtain ⟨j,a,b⟩:=QV.1 h;exact absurd b (bI j a)
theorem ajZ {p fa bA:b9} {wb:aj} {piv:bo} {ks:dA} {sums:hs} {buf:cD} {root id:Nat} (sh:bi) {m:bH}
  (bC:ik ((p,()),(root:Int),())=some ((wb,piv,bM ks,sums,buf,()),0,())) (bY:ks≠[]) (a8:oK (m,())=some (true,())) (L:buf.length<=1000)
  (dF:lV ((p,()),(wb,piv,bM ks,sums,buf++[m],()),())=some ((fa,()),(id:Int),0,())) (a2:nb ((fa,()),(root:Int),())=some ((bA,()),0,())):
  un (((p,()),((root:Int),(sh,()))),m,())=some (((bA,()),((id:Int),(sh,()))),0,()):=by
 have M:(decide ((((List.length (bM ks)):Int):Int)=(0:Int)))=false:=bm (by rw[fO];have:=List.length_pos_iff.2 bY;omega);have V:(decide (0<List.length ([m]:List (bH)))&&decide ((buf.length+List.length ([m]:List (bH)))*112<=am))=true:=by rw[aX aU,aX (by rw[ey];simp;omega)];rfl
 simp only[un,a8,cL,ay,bC,cJ,n0,M,ajf,V,an,dF,a2]
theorem aj0 {p fa bA:b9} {t r:aj} {root id:Nat} (sh:bi) {m:bH} (bC:ik ((p,()),(root:Int),())=some ((t,[],[],[],[],()),0,())) (a8:oK (m,())=some (true,())) (aV:qk (t,m,())=some (r,()))
  (dF:lV ((p,()),(r,[],[],[],[],()),())=some ((fa,()),(id:Int),0,())) (a2:nb ((fa,()),(root:Int),())=some ((bA,()),0,())):
  un (((p,()),((root:Int),(sh,()))),m,())=some (((bA,()),((id:Int),(sh,()))),0,()):=by
 have M:bG ((((List.length ([]:ct)):Int):Int)=(0:Int)):=rfl;simp only[un,a8,cL,ay,bC,cJ,n0,M,aV,an,dF,a2]
def hA (p:b9) (i:Nat):Bool:=(p.getD i cW).1
structure Bl (p:b9) (ep:Nat->dA):Prop where
 len:p.length<=900
 kids: ∀i,i<p.length->hA p i=true->(p.getD i cW).2.2.2.1.2.2.1=bM (ep i)
 below: ∀i,i<p.length->hA p i=true-> ∀k∈ep i,k<i/\hA p k=true
 free: ∀i,i<p.length->hA p i=false->p.getD i cW=cW
 few: ∀i,(ep i).length<=100
def h8 (n:Nat) (c:Nat->Nat):ct:=(List.range n).map λi=>((c i:Nat):Int)
theorem OU (n:Nat) (c:Nat->Nat):(h8 n c).length=n:=by simp[h8]
theorem acD {n:Nat} {c:Nat->Nat} {k:Nat} (h:k<n) (I:Int):List.getD (h8 n c) k I=(c k:Int):=by rw[b5 (by rw[OU];exact h)];simp[h8]
theorem ajg {n:Nat} {c:Nat->Nat} {k:Nat}:(h8 n c).set k ((c k+1:Nat):Int)=h8 n (λi=>c i+if k=i then 1 else 0):=by
 refine List.ext_getElem (by simp[h8]) (λi q G=> ?_);rw[List.getElem_set];by_cases h:k=i
 ·subst h;rw[if_pos rfl];simp[h8]
 ·rw[if_neg h];simp[h8,h]
theorem ath (n:Nat):List.replicate n (0:Int)=h8 n (λ_=>0):=by refine List.ext_getElem (by simp[h8]) (λi q G=> ?_);simp[h8]
theorem U0 {p:b9} {i:Nat} (h:i<p.length):mt ((p,()),(i:Int),())=some (hA p i,()):=Fu h
theorem adK {p:b9} (ks:dA) (c:Nat->Nat) (aT:p.length<=900) (af: ∀k∈ks,k<p.length/\hA p k=true) (ad:ks.length<=1000) (aw: ∀i,c i<=10^6):
  wd (bM ks,(p,()),h8 p.length c,())=some (true,(p,()),h8 p.length (λi=>c i+ks.count i),()):=by
 obtain ⟨z,q,rfl⟩:=dG (b:=Dt) (λi (_:H)=>(bM ks,((bM ks).length:Int),(i:Int),(p,()),h8 p.length (λj=>c j+(ks.take i).count j),())) ks.length (λ_ _=>True) (λz=>z=.inr ((p,()),h8 p.length (λi=>c i+ks.count i),())) u
  (λi E _ _=>by
   left;obtain ⟨bd,a6⟩:=af _ (dI E);have M:bG (((i:Nat):Int)<((bM ks).length:Int)):=aX (by rw[fO];omega);have V:=dR i;have a1:=fv (j:=i) u;have bp:bG ((0:Int)<=((ks[i]:Nat):Int)):=aX u;have cI: ∀f,(decide (((ks[i]:Nat):Int)<(List.length (h8 p.length f):Int)))=true:=λf=>aX (by rw[OU];omega)
   have jl:(ks.take i).count ks[i]<=1000:=by have:=List.count_le_length (a:=ks[i]) (l:=ks.take i);rw[ev]at this;omega
   have aeD:=aw ks[i];have w:i64.wrap (((c ks[i]+(ks.take i).count ks[i]:Nat):Int)+1)=((c ks[i]+(ks.take i).count ks[i]+1:Nat):Int):=by rw[cR u];omega
   have c9:h8 p.length (λj=>c j+(ks.take i).count j+if ks[i]=j then 1 else 0)=h8 p.length (λj=>c j+(ks.take (i+1)).count j):=by
    congr 1
    funext j
    rw[eK E,List.count_append];by_cases h:ks[i]=j
    ·rw[if_pos h,h];simp;omega
    ·rw[if_neg h];have:List.count j [ks[i]]=0:=List.count_eq_zero.2 (by simp;exact λbg=>h bg.symm);omega
   refine ⟨(),trivial,?_⟩;have fV:=ajg (n:=p.length) (c:=λj=>c j+(ks.take i).count j) (k:=ks[i]);simp only[Dt,M,V,an,bN,bE,k9 E,U0 bd,a6,cL,ay,bp,cI,acD bd,w,fV,c9,a1])
  (λ_ _=>by have M:(decide (((ks.length:Nat):Int)<((bM ks).length:Int)))=false:=bm (by rw[fO];omega);exact ⟨_,rfl,by simp only[Dt,M,ay,ew]⟩) () trivial
 have dr:TP (bM ks,((bM ks).length:Int),(0:Int),(p,()),h8 p.length (λi=>c i),())=some (.inr ((p,()),h8 p.length (λi=>c i+ks.count i),())):=q;simp only[wd,dr]
theorem akr (p:b9) (aT:p.length<=900):Ga ((p,()),())=some (((p.countP λd=>d.1:Nat):Int),()):=by
 obtain ⟨z,q,rfl⟩:=dG (b:=ze) (λi (_:H)=>((((p.take i).countP λd=>d.1:Nat):Int),p,(p.length:Int),(i:Int),())) p.length (λ_ _=>True) (λz=>z=.inl (((p.countP λd=>d.1:Nat):Int),())) u
  (λi E _ _=>by
   left;have M:bG (((i:Nat):Int)<(p.length:Int)):=aX u;have gy:bG (((i:Nat):Int)<(p.length:Int)):=M;have V:=dR i;have a1:=fv (j:=i) u;have jl:=List.countP_le_length (p:=λd:iM=>d.1) (l:=p.take i);rw[ev]at jl;refine ⟨(),trivial,?_⟩;rw[eK E,List.countP_append];cases hu:p[i].1 with
   |true=>
    have bp:List.countP (λd:iM=>d.1) [p[i]]=1:=by simp[hu]
    have w:i64.wrap ((((p.take i).countP λd=>d.1:Nat):Int)+1)=(((p.take i).countP (λd=>d.1)+1:Nat):Int):=by rw[cR u];omega
    rw[bp];simp only[ze,M,V,an,bN,bE,b5 E,hu,a1,w]
   |false=>
    have bp:List.countP (λd:iM=>d.1) [p[i]]=0:=by simp[hu]
    rw[bp];simp only[ze,M,V,an,ay,bN,bE,b5 E,hu,a1,Nat.add_zero])
  (λ_ _=>by have M:(decide (((p.length:Nat):Int)<(p.length:Int)))=false:=bm u;exact ⟨_,rfl,by simp only[ze,M,ay,ew]⟩) () trivial
 have dr:Nd ((0:Int),p,(p.length:Int),(0:Int),())=some (.inl (((p.countP λd=>d.1:Nat):Int),())):=q;simp only[Ga,dr]
structure mK (p:b9) (ep:Nat->dA) (st bb:ct):Prop where
 len:bb.length=p.length
 clo: ∀j,st.getD j 0=2->bb.getD j 0=2
 opn: ∀j,st.getD j 0=1↔bb.getD j 0=1
 new: ∀j,bb.getD j 0=2->st.getD j 0=2\/(j<p.length/\hA p j=true/\ ∀k∈ep j,bb.getD k 0=2)
theorem mK.refl {p:b9} {ep:Nat->dA} {st:ct} (h:st.length=p.length):mK p ep st st:=⟨h,λ_ h=>h,λ_=>Iff.rfl,λ_ h=>.inl h⟩
theorem mK.trans {p:b9} {ep:Nat->dA} {a b c:ct} (q:mK p ep a b) (G:mK p ep b c):mK p ep a c:=
 ⟨G.len,λj h=>G.clo j (q.clo j h),λj=>(q.opn j).trans (G.opn j),λj h=>by
  rcases G.new j h with h |h
  ·rcases q.new j h with h |⟨M,V,a1⟩
   ·exact .inl h
   ·exact .inr ⟨M,V,λk af=>G.clo k (a1 k af)⟩
  ·exact .inr h⟩
theorem abi {st:ct} {i:Nat} (v:Int) (E:i<st.length) (h:st.getD i 0≠2):(st.set i v).count 2=st.count 2+if v=2 then 1 else 0:=by
 rw[b5 E]at h;rw[List.count_set E];have M:(st[i]==2)=false:=by simpa using h
 rw[M];by_cases a8:v=2
 ·subst a8;simp
 ·have V:(v==2)=false:=by simpa using a8
  rw[V,if_neg a8];simp
theorem adO {p:b9} {ep:Nat->dA} (h:Bl p ep): ∀(f id:Nat) (st:ct),id<f->id<p.length->hA p id=true->st.length=p.length->(∀j,j<=id->st.getD j 0≠1)->
  ∃bb,sU f ((id:Int),(p,()),true,st,((st.count 2:Nat):Int),())=some ((p,()),true,bb,((bb.count 2:Nat):Int),())/\mK p ep st bb/\bb.getD id 0=2
 |0,_,_,aM,_,_,_,_=>u
 |f+1,id,st,aM,E,hu,ad,W=>by
  have jW:=U0 E;rw[hu]at jW;have V:=dR id;have a1: ∀d:ct,d.length=p.length->(decide ((id:Int)<(d.length:Int)))=true:=λd ah=>aX u
  by_cases G:st.getD id 0=2
  ·refine ⟨st,?_,mK.refl ad,G⟩;show vI (sU f) _=_;simp only[vI,jW,cL,cU,an,V,a1 st ad,bN,bE,G,cJ,JF]
  ·have q:=W id (ca _);obtain ⟨ks,gD⟩: ∃ks,ep id=ks:=⟨_,rfl⟩;have Ik:=h.kids id E hu;have aex:=h.below id E hu;have aeI:=h.few id;have jo:=h.len;rw[gD]at Ik aex aeI;obtain ⟨cd,vy⟩: ∃cd,st.set id (1:Int)=cd:=⟨_,rfl⟩;have dy:cd.length=p.length:=by rw[<-vy,List.length_set,ad]
   have g1:cd.getD id 0=1:=by rw[<-vy,wg u]
   have H2: ∀j,j≠id->cd.getD j 0=st.getD j 0:=λj ak=>by rw[<-vy,rJ (Ne.symm ak)]
   have m1:cd.count 2=st.count 2:=by rw[<-vy,abi 1 u G];simp
   obtain ⟨z,dH,dL,rfl,cV,eV⟩:=dG (b:=yQ (sU f)) (λi (d:ct)=>((id:Int),bM ks,((bM ks).length:Int),(i:Int),(p,()),true,d,((d.count 2:Nat):Int),())) ks.length
    (λi d=>mK p ep cd d/\ ∀k∈ks.take i,d.getD k 0=2)
    (λz=> ∃d:ct,z=.inl ((id:Int),(p,()),true,d,((d.count 2:Nat):Int),())/\mK p ep cd d/\ ∀k∈ks,d.getD k 0=2) u
    (λi gf d ah=>by
     left;obtain ⟨s1,s2⟩:=ah;have gO:=dI gf;obtain ⟨b1,b2⟩:=aex _ gO;have bh:bG (((i:Nat):Int)<((bM ks).length:Int)):=aX (by rw[fO];omega);have ba:=dR i;have c3:=fv (j:=i) u;obtain ⟨gG,dF,a2,a3⟩:=adO h f ks[i] d u u b2 s1.len (λj ak bg=>by have bg:=(s1.opn j).2 bg;rw[H2 j u]at bg;exact W j u bg)
     refine ⟨gG,⟨s1.trans a2,λk af=> ?_⟩,?_⟩
     ·rw[eK gf]at af;rcases dp.1 af with af |af
      ·exact a2.clo k (s2 k af)
      ·obtain rfl:=gv.1 af;exact a3
     ·simp only[yQ,bh,ba,an,bN,bE,k9 gf,dF,c3])
    (λd ah=>by have bh:(decide (((ks.length:Nat):Int)<((bM ks).length:Int)))=false:=bm (by rw[fO];omega);rw[ew]at ah;exact ⟨_,⟨d,rfl,ah.1,ah.2⟩,by simp only[yQ,bh,ay]⟩) cd ⟨mK.refl dy,aU⟩
   have yD:JG (sU f) ((id:Int),bM ks,((bM ks).length:Int),(0:Int),(p,()),true,cd,((cd.count 2:Nat):Int),())=some (.inl ((id:Int),(p,()),true,dL,((dL.count 2:Nat):Int),())):=dH;rw[m1]at yD;have de:=cV.len;have g2:dL.getD id 0=1:=(cV.opn id).1 g1;have lM:(dL.set id (2:Int)).count 2=dL.count 2+1:=by rw[abi 2 u (by rw[g2];decide)];simp
   have jl:dL.count 2<=900:=by have:=List.count_le_length (a:=(2:Int)) (l:=dL);omega
   have w:i64.wrap (((dL.count 2:Nat):Int)+1)=((dL.count 2+1:Nat):Int):=by rw[cR u];omega
   obtain ⟨n2,rj⟩: ∃n2,dL.set id (2:Int)=n2:=⟨_,rfl⟩;rw[rj]at lM;have nQ:n2.length=p.length:=by rw[<-rj,List.length_set,de]
   have g3:n2.getD id 0=2:=by rw[<-rj,wg u]
   have QB: ∀j,j≠id->n2.getD j 0=dL.getD j 0:=λj ak=>by rw[<-rj,rJ (Ne.symm ak)]
   have up: ∀j,dL.getD j 0=2->n2.getD j 0=2:=λj ak=>by
    by_cases iP:j=id
    ·rw[iP];exact g3
    ·rw[QB j iP];exact ak
   refine ⟨n2,?_,⟨nQ,λj ak=> ?_,λj=> ?_,λj ak=> ?_⟩,g3⟩
   ·show vI (sU f) _=_;have bp:(decide (st.getD id 0=(2:Int)))=false:=bm G;have cI:(decide (st.getD id 0=(1:Int)))=false:=bm q;have c9:bG ((id:Int)<(p.length:Int)):=aX u;have fV:(p.getD id (false,(false,((0:Int),((([]:List (ck)),(([]:bo),(([]:List (Int)),(([]:List (eR)),(([]:List (bH)),()))))),()))))).2.2.2.1.2.2.1=bM ks:=Ik;simp only[vI,jW,cL,cU,an,ay,V,a1 st ad,bN,bE,bp,JF,cI,vy,c9,fV,yD,a1 dL de,rj,Nf,w,lM]
   ·by_cases iP:j=id
    ·rw[iP];exact g3
    ·exact up j (cV.clo j (by rw[H2 j iP];exact ak))
   ·by_cases iP:j=id
    ·rw[iP,g3];constructor
     ·intro bg;exact absurd bg q
     ·intro bg;exact absurd bg fm
    ·rw[QB j iP,<-cV.opn j,H2 j iP]
   ·by_cases iP:j=id
    ·subst iP;exact .inr ⟨E,hu,λk af=>up k (eV k (gD▸af))⟩
    ·rw[QB j iP]at ak;rcases cV.new j ak with ak |⟨dm,ec,n3⟩
     ·rw[H2 j iP]at ak;exact .inl ak
     ·exact .inr ⟨dm,ec,λk af=>up k (n3 k af)⟩
theorem ajv {p:b9} {ep:Nat->dA} (h:Bl p ep) (roots:dA) (ar: ∀r∈roots,r<p.length/\hA p r=true) (mw:roots.length<=100):
  ∃st:ct,FO ((p,()),bM roots,(0:Int),())=some (true,((st.count 2:Nat):Int),())/\st.length=p.length/\(∀r∈roots,st.getD r 0=2)/\ ∀j,st.getD j 0=2->j<p.length/\hA p j=true/\ ∀k∈ep j,st.getD k 0=2:=by
 have jo:=h.len;have bI: ∀j,List.getD (List.replicate p.length (0:Int)) j 0=0:=by intro j;unfold List.getD;by_cases ak:j<p.length<;>simp[List.getElem?_replicate,ak]
 have RZ:(List.replicate p.length (0:Int)).count 2=0:=by rw[List.count_eq_zero];intro bg;have:=List.eq_of_mem_replicate bg;cases this
 obtain ⟨z,dH,st,rfl,cV,eV⟩:=dG (b:=DW) (λi (d:ct)=>(bM roots,((bM roots).length:Int),(i:Int),((d.count 2:Nat):Int),true,(p,()),d,())) roots.length
  (λi d=>mK p ep (List.replicate p.length (0:Int)) d/\ ∀k∈roots.take i,d.getD k 0=2)
  (λz=> ∃d:ct,z=.inl (((d.count 2:Nat):Int),true,())/\mK p ep (List.replicate p.length (0:Int)) d/\ ∀k∈roots,d.getD k 0=2) u
  (λi E d ah=>by
   left;obtain ⟨s1,s2⟩:=ah;obtain ⟨b1,b2⟩:=ar _ (dI E);have bh:bG (((i:Nat):Int)<((bM roots).length:Int)):=aX (by rw[fO];omega);have ba:=dR i;have c3:=fv (j:=i) u;obtain ⟨gG,dF,a2,a3⟩:=adO h jf roots[i] d (by rw[kc];omega) b1 b2 s1.len (λj ak bg=>by have bg:=(s1.opn j).2 bg;rw[bI]at bg;cases bg)
   have dF:Ns ((roots[i]:Int),(p,()),true,d,((d.count 2:Nat):Int),())=some ((p,()),true,gG,((gG.count 2:Nat):Int),()):=dF;refine ⟨gG,⟨s1.trans a2,λk af=> ?_⟩,?_⟩
   ·rw[eK E]at af;rcases dp.1 af with af |af
    ·exact a2.clo k (s2 k af)
    ·obtain rfl:=gv.1 af;exact a3
   ·simp only[DW,bh,ba,an,bN,bE,k9 E,dF,c3])
  (λd ah=>by have bh:(decide (((roots.length:Nat):Int)<((bM roots).length:Int)))=false:=bm (by rw[fO];omega);rw[ew]at ah;exact ⟨_,⟨d,rfl,ah.1,ah.2⟩,by simp only[DW,bh,ay]⟩) (List.replicate p.length (0:Int)) ⟨mK.refl aU,aU⟩
 have yD:J8 (bM roots,((bM roots).length:Int),(0:Int),(0:Int),true,(p,()),List.replicate p.length (0:Int),())=some (.inl (((st.count 2:Nat):Int),true,())):=by have dH:J8 (bM roots,((bM roots).length:Int),(0:Int),(((List.replicate p.length (0:Int)).count 2:Nat):Int),true,(p,()),List.replicate p.length (0:Int),())=_:=dH;rw[RZ]at dH;exact dH
 have ag:bG ((0:Int)<=((p.length):Int)):=aX u;have aS:bG ((((p.length):Int):Int)<=((p.length):Int)):=aX u;have bP:bG (((p.length):Int)*(8:Int)<=(am:Int)):=aX (by rw[ey];omega);refine ⟨st,?_,cV.len,eV,λj ak=> ?_⟩
 ·simp only[FO,ag,aS,bP,bN,an,bE,yD]
 ·rcases cV.new j ak with ak |ak
  ·rw[bI]at ak;cases ak
  ·exact ak
def hz (p:b9) (ep:Nat->dA) (n:Nat):dA:=(List.range n).flatMap λi=>if hA p i then ep i else []
theorem FX (p:b9) (ep:Nat->dA) (n:Nat):hz p ep (n+1)=hz p ep n++(if hA p n then ep n else []):=by unfold hz;rw[List.range_succ,List.flatMap_append];simp
theorem acx {p:b9} {ep:Nat->dA} {n k:Nat}:k∈hz p ep n↔ ∃i,i<n/\hA p i=true/\k∈ep i:=by
 unfold hz;rw[List.mem_flatMap];constructor
 ·rintro ⟨i,q,G⟩;cases hu:hA p i with
  |true=>rw[hu,if_pos rfl]at G;exact ⟨i,List.mem_range.1 q,hu,G⟩
  |false=>rw[hu,if_neg fm]at G;cases G
 ·rintro ⟨i,q,G,ab⟩;exact ⟨i,List.mem_range.2 q,by rw[G,if_pos rfl];exact ab⟩
theorem acw {p:b9} {ep:Nat->dA} (h: ∀i,(ep i).length<=100): ∀n,(hz p ep n).length<=100*n
 |0=>by simp[hz]
 |n+1=>by
  rw[FX,eF];have:=acw (p:=p) h n;have G:=h n;split
  ·omega
  ·simp;omega
theorem atm {p:b9} {st:ct} (ad:st.length=p.length) (h: ∀j,j<p.length->(st.getD j 0=2↔hA p j=true)):st.count 2=p.countP λd=>d.1:=by
 have e:st.map (λv=>v==2)=p.map (λd=>d.1):=by
  refine List.ext_getElem (by simp[ad]) (λi q G=> ?_);simp only[List.getElem_map];have E:i<p.length:=by simpa using G
  have bg:=h i E;unfold hA at bg;rw[b5 u,b5 E]at bg;rw[Bool.eq_iff_iff,<-bg];simp
 have V:(st.map (λv=>v==2)).countP id=(p.map (λd=>d.1)).countP id:=by rw[e]
 rw[List.countP_map,List.countP_map]at V;exact V
theorem acU {p:b9} {ep:Nat->dA} (h:Bl p ep) (roots:dA) (ar: ∀r∈roots,r<p.length/\hA p r=true) (mw:roots.length<=100)
  (avM: ∀i,i<p.length->hA p i=true->(p.getD i cW).2.2.1=((roots.count i+(hz p ep p.length).count i:Nat):Int)) (p6: ∀i,i<p.length->hA p i=true->0<roots.count i+(hz p ep p.length).count i):
  tI ((p,()),bM roots,())=some (true,()):=by
 have jo:=h.len;obtain ⟨st,v1,v2,v3,v4⟩:=ajv h roots ar mw;have up: ∀I i,i+I=p.length->i<p.length->hA p i=true->st.getD i 0=2:=by
  intro I
  induction I using Nat.strongRecOn with
  |ind I aR=>
   intro i ao E hu;have:=p6 i E hu;by_cases aw:0<roots.count i
   ·exact v3 i (List.count_pos_iff.1 aw)
   ·have aw:0<(hz p ep p.length).count i:=u;obtain ⟨j,tc,eu,oI⟩:=acx.1 (List.count_pos_iff.1 aw);have pc:=(h.below j tc eu i oI).1;have:=aR (p.length-j) u j u tc eu;exact (v4 j this).2.2 i oI
 have auE:=atm v2 (λj ak=>⟨λbg=>(v4 j bg).2.1,λbg=>up (p.length-j) j u ak bg⟩);have xU: ∀n i,n<=p.length->roots.count i+(hz p ep n).count i<=10^6:=λn i aO=>by have q:=List.count_le_length (a:=i) (l:=roots);have G:=List.count_le_length (a:=i) (l:=hz p ep n);have ab:=acw (p:=p) h.few n;omega
 have s1:=adK (p:=p) roots (λ_=>0) jo ar u (λ_=>u);simp only[Nat.zero_add]at s1;obtain ⟨z,dH,rfl⟩:=dG (b:=y8) (λi (_:H)=>(p,(p.length:Int),(i:Int),(p,()),h8 p.length (λj=>roots.count j+(hz p ep i).count j),())) p.length (λ_ _=>True) (λz=>z=.inr ((p,()),h8 p.length (λj=>roots.count j+(hz p ep p.length).count j),())) u
  (λi E _ _=>by
   left;refine ⟨(),trivial,?_⟩;have M:bG (((i:Nat):Int)<(p.length:Int)):=aX u;have V:=dR i;have a1:=fv (j:=i) u;rw[FX];cases hu:hA p i with
   |true=>
    have nL:(p.getD i (false,(false,((0:Int),((([]:List (ck)),(([]:bo),(([]:List (Int)),(([]:List (eR)),(([]:List (bH)),()))))),()))))).1=true:=hu;have af:(p.getD i (false,(false,((0:Int),((([]:List (ck)),(([]:bo),(([]:List (Int)),(([]:List (eR)),(([]:List (bH)),()))))),()))))).2.2.2.1.2.2.1=bM (ep i):=h.kids i E hu;have s2:=adK (p:=p) (ep i) (λj=>roots.count j+(hz p ep i).count j) jo (λk af=>⟨by have:=(h.below i E hu k af).1;omega,(h.below i E hu k af).2⟩) (by have:=h.few i;omega) (λj=>xU i j u);have bp:(λj=>roots.count j+(hz p ep i++if true=true then ep i else []).count j)=λj=>roots.count j+(hz p ep i).count j+(ep i).count j:=by
     funext j
     rw[if_pos rfl,List.count_append];omega
    rw[bp];simp only[y8,M,V,an,bN,bE,nL,af,s2,cL,cU,ay,a1]
   |false=>
    have ah:p.getD i (false,(false,((0:Int),((([]:List (ck)),(([]:bo),(([]:List (Int)),(([]:List (eR)),(([]:List (bH)),()))))),()))))=cW:=h.free i E hu;have bp:(λj=>roots.count j+(hz p ep i++if false=true then ep i else []).count j)=λj=>roots.count j+(hz p ep i).count j:=by
     funext j
     rw[if_neg fm,List.append_nil]
    have he:FL (cW,())=some (true,()):=rfl;rw[bp];simp only[y8,M,V,an,bN,bE,ah,he,cL,cU,ay,a1])
  (λ_ _=>by have M:(decide (((p.length:Nat):Int)<(p.length:Int)))=false:=bm u;exact ⟨_,rfl,by simp only[y8,M,ay]⟩) () trivial
 have yD:Mw (p,(p.length:Int),(0:Int),(p,()),h8 p.length (λj=>roots.count j),())=some (.inr ((p,()),h8 p.length (λj=>roots.count j+(hz p ep p.length).count j),())):=dH;have refs: ∀i,i<p.length->(p.getD i cW).2.2.1=((roots.count i+(hz p ep p.length).count i:Nat):Int):=by
  intro i E;cases hu:hA p i with
  |true=>exact avM i E hu
  |false=>
   rw[h.free i E hu];have aD:roots.count i=0:=List.count_eq_zero.2 (λbg=>by have:=(ar i bg).2;rw[hu]at this;cases this);have z2:(hz p ep p.length).count i=0:=List.count_eq_zero.2 (λbg=>by obtain ⟨j,tc,eu,oI⟩:=acx.1 bg;have:=(h.below j tc eu i oI).2;rw[hu]at this;cases this)
   rw[aD,z2];rfl
 obtain ⟨z,cV,rfl⟩:=dG (b:=DV) (λi (_:H)=>(p,(p.length:Int),(i:Int),h8 p.length (λj=>roots.count j+(hz p ep p.length).count j),())) p.length (λ_ _=>True) (λz=>z=.inr ()) u
  (λi E _ _=>by
   left;refine ⟨(),trivial,?_⟩;have M:bG (((i:Nat):Int)<(p.length:Int)):=aX u;have V:=dR i;have a1:=fv (j:=i) u;have bp: ∀f,(decide ((i:Int)<(List.length (h8 p.length f):Int)))=true:=λf=>aX (by rw[OU];omega)
   have cI:(p.getD i (false,(false,((0:Int),((([]:List (ck)),(([]:bo),(([]:List (Int)),(([]:List (eR)),(([]:List (bH)),()))))),()))))).2.2.1=((roots.count i+(hz p ep p.length).count i:Nat):Int):=refs i E;simp only[DV,M,V,an,bN,bE,bp,acD E,cI,cJ,cL,ay,a1])
  (λ_ _=>by have M:(decide (((p.length:Nat):Int)<(p.length:Int)))=false:=bm u;exact ⟨_,rfl,by simp only[DV,M,ay]⟩) () trivial
 have aww:Mx (p,(p.length:Int),(0:Int),h8 p.length (λj=>roots.count j+(hz p ep p.length).count j),())=some (.inr ()):=cV;have ag:bG ((0:Int)<=((p.length):Int)):=aX u;have aS:bG ((((p.length):Int):Int)<=((p.length):Int)):=aX u;have bP:bG (((p.length):Int)*(8:Int)<=(am:Int)):=aX (by rw[ey];omega);have e2:=akr p jo;rw[<-auE]at e2;simp only[tI,ag,aS,bP,bN,an,bE,ath,s1,cL,cU,ay,v1,e2,cJ,Mv,yD,aww]
def ky (n:cE):dA:=n.2.2.1.map Int.toNat
theorem GV (ks:dA):(bM ks).map Int.toNat=ks:=by
 unfold bM;rw[List.map_map];have:(Int.toNat∘λk:Nat=>(k:Int))=id:=by funext k;rfl
 rw[this,List.map_id]
theorem aaI {ks:dA} (h:ks.Nodup) (k:Nat):ks.count k=if k∈ks then 1 else 0:=by
 induction ks with
 |nil=>rfl
 |cons a ks aR=>
  have G:=List.nodup_cons.1 h;rw[List.count_cons,aR G.2];by_cases Q4:a=k
  ·subst Q4;rw[if_neg G.1];simp
  ·have avc: ¬k=a:=λe=>Q4 e.symm
   have M:(a==k)=false:=by simpa using Q4
   rw[M];by_cases af:k∈ks
   ·simp[af]
   ·simp[af,avc]
def A7 (r:r0) (t:aj) (x:fg) (aI:List bo) (c:Nat):Prop:=
 ∀(Q:cK) (d:aL),Q.length+c<=900->
  ∃l i,r ((mk Q (λ_=>1),()),t,d,aI,x,())=some (((mk (Q++l) (λ_=>1),()),((i:Nat):Int),()),())/\l.length<=c/\Q.length<=i/\hD (Q++l) t aI d i/\tR aI d<=l.length/\(∀n∈l,xx n)/\(∀k,(l.flatMap ky).count k=if Q.length<=k/\k<Q.length+l.length/\k≠i then 1 else 0)/\(∀j n,l[j]? =some n-> ∃ks,n.2.2.1=bM ks/\ks.length<=6/\ ∀k∈ks,k<Q.length+j)
theorem atd (r:r0) (t:aj) (aW:wY t) (x:fg) (P:bo) (aI:List bo) (aN: ∀s∈aI,s.length<=5) (c:Nat) (ar:A7 r t x aI c) (Q:cK) (d:aL) (parts:au) (fP:bo) (aT:parts.length<=6) (aO:Q.length+parts.length*c<=900) (avG:aI.length<=100):
  ∃s:KA,JO r (t,P::aI,0,(mk Q (λ_=>1),()),d,x,[],0,[],[],parts,fP,[],[],())=some (.inl ((mk (Q++s.l) (λ_=>1),()),d,x,[],0,[],[],fP,bM s.ks,s.sums,()))/\
   s.l.length<=parts.length*c/\s.ks.length=parts.length/\s.sums.length=parts.length/\s.ks.Nodup/\(∀k∈s.ks,k<(Q++s.l).length)/\(∀j,j<parts.length->hD (Q++s.l) t aI (parts.getD j cb) (s.ks.getD j 0)/\qA (Q++s.l) (s.ks.getD j 0) (s.sums.getD j n5))/\(parts.map (tR aI)).sum<=s.l.length/\(∀n∈s.l,xx n)/\(∀k∈s.ks,Q.length<=k)/\(∀k,(s.l.flatMap ky).count k=if Q.length<=k/\k<Q.length+s.l.length/\k∉s.ks then 1 else 0)/\(∀j n,s.l[j]? =some n-> ∃ks,n.2.2.1=bM ks/\ks.length<=6/\ ∀k∈ks,k<Q.length+j):=by
 obtain ⟨z,q,s,rfl,G⟩:=dG (b:=vS r) (λi (s:KA)=>(t,P::aI,(i:Int),(mk (Q++s.l) (λ_=>1),()),d,x,[],0,[],[],parts,fP,bM s.ks,s.sums,())) parts.length
  (λi s=>s.l.length<=i*c/\s.ks.length=i/\s.sums.length=i/\s.ks.Nodup/\(∀k∈s.ks,k<(Q++s.l).length)/\(∀j,j<i->hD (Q++s.l) t aI (parts.getD j cb) (s.ks.getD j 0)/\qA (Q++s.l) (s.ks.getD j 0) (s.sums.getD j n5))/\((parts.take i).map (tR aI)).sum<=s.l.length/\(∀n∈s.l,xx n)/\(∀k∈s.ks,Q.length<=k)/\(∀k,(s.l.flatMap ky).count k=if Q.length<=k/\k<Q.length+s.l.length/\k∉s.ks then 1 else 0)/\(∀j n,s.l[j]? =some n-> ∃ks,n.2.2.1=bM ks/\ks.length<=6/\ ∀k∈ks,k<Q.length+j))
  (λz=> ∃s:KA,z=.inl ((mk (Q++s.l) (λ_=>1),()),d,x,[],0,[],[],fP,bM s.ks,s.sums,())/\s.l.length<=parts.length*c/\s.ks.length=parts.length/\s.sums.length=parts.length/\s.ks.Nodup/\(∀k∈s.ks,k<(Q++s.l).length)/\(∀j,j<parts.length->hD (Q++s.l) t aI (parts.getD j cb) (s.ks.getD j 0)/\qA (Q++s.l) (s.ks.getD j 0) (s.sums.getD j n5))/\(parts.map (tR aI)).sum<=s.l.length/\(∀n∈s.l,xx n)/\(∀k∈s.ks,Q.length<=k)/\(∀k,(s.l.flatMap ky).count k=if Q.length<=k/\k<Q.length+s.l.length/\k∉s.ks then 1 else 0)/\(∀j n,s.l[j]? =some n-> ∃ks,n.2.2.1=bM ks/\ks.length<=6/\ ∀k∈ks,k<Q.length+j)) u
  (λi E s p7=>by
   left;obtain ⟨dF,a2,a3,a4,a5,om,An,Lp,a9,Ld,Le⟩:=p7;have hmul:i*c+c<=parts.length*c:=by have:(i+1)*c<=parts.length*c:=gV c E;rw[Nat.add_mul]at this;omega
   have M:=e3 (i:=i) (l:=parts) u;have V:=dR i;have a1:=e6 i u;have bp:(decide (((1:Int):Int)<=(List.length (P::aI):Int))&&decide (((List.length (P::aI):Int):Int)<=(List.length (P::aI):Int)))=true:=by rw[aX (by simp;omega),aX (Int.le_refl _)];rfl
   have cI:List.drop (Int.toNat (1:Int)) (List.take (List.length (P::aI)) (P::aI))=aI:=by rw[ew];rfl
   obtain ⟨l,j,b1,b2,b3,hG,hN,j1,Hb,PY⟩:=ar (Q++s.l) parts[i] (by simp;omega);have ak:=hG.lt;have c9:=Ow (r:=λ_=>1) ak;obtain ⟨Jw,h6⟩:=(hG.ok aW aN).sum _ (hr ak);have fV:bG ((List.length (bM s.ks)+List.length ([((j:Nat):Int)]:List (Int)))*8<=am):=aX (by rw[fO,ey];simp;omega);have kK: ∀y:eR,(decide ((s.sums.length+List.length ([y]:List (eR)))*32<=am))=true:=λy=>aX (by rw[ey];simp;omega)
   have nC:bM s.ks++[((j:Nat):Int)]=bM (s.ks++[j]):=by simp[bM]
   refine ⟨⟨s.l++l,s.ks++[j],s.sums++[Jw.1]⟩,⟨by simp only[eF];rw[Nat.add_mul];omega,by simp[a2],by simp[a3],?_,?_,?_,?_,λn aO=>(dp.1 aO).elim (Lp n) (j1 n),?_,?_,?_⟩,?_⟩
   ·rw[List.nodup_append];refine ⟨a4,aU,?_⟩;intro a aV b L;have:=a5 a aV;simp only[gv]at L;omega
   ·intro k af;rw[<-List.append_assoc];rcases dp.1 af with af |af
    ·have:=a5 k af;rw[eF];omega
    ·rw[gv.1 af];exact ak
   ·intro k af;rw[<-List.append_assoc];show hD _ t aI _ (List.getD (s.ks++[j]) k 0)/\qA _ (List.getD (s.ks++[j]) k 0) (List.getD (s.sums++[Jw.1]) k n5);rcases Nat.lt_or_ge k i with h |h
    ·rw[NF u,NF u];exact ⟨(om k h).1.app l,(om k h).2.app l⟩
    ·have CE:k=i:=u;subst CE;rw[Fq u,Fq u,b5 E];exact ⟨hG,_,hr ak,h6⟩
   ·rw[eK E,List.map_append,List.sum_append];simp only[List.map_cons,List.map_nil,List.sum_cons,List.sum_nil,eF];omega
   ·intro k af;rcases dp.1 af with af |af
    ·exact a9 k af
    ·rw[gv.1 af];rw[eF]at b3;omega
   ·intro k;show ((s.l++l).flatMap ky).count k=if Q.length<=k/\k<Q.length+(s.l++l).length/\k∉s.ks++[j] then 1 else 0
    have ava:=ak;rw[eF,eF]at ava;rw[eF]at b3;rw[List.flatMap_append,List.count_append,Ld,Hb,eF,eF];have hm:k∉s.ks++[j]↔k∉s.ks/\k≠j:=aU;by_cases af:k∈s.ks
    ·have:=a5 k af;rw[eF]at this;rw[if_neg (λbg=>bg.2.2 af),if_neg (λbg=>u),if_neg (λbg=>(hm.1 bg.2.2).1 af)]
    ·by_cases q:k<Q.length+s.l.length
     ·rw[if_neg (c:=Q.length+s.l.length<=k/\_) (λbg=>u)];by_cases bY:Q.length<=k
      ·rw[if_pos ⟨bY,q,af⟩,if_pos ⟨bY,u,hm.2 ⟨af,u⟩⟩]
      ·rw[if_neg (λbg=>bY bg.1),if_neg (λbg=>bY bg.1)]
     ·rw[if_neg (c:=Q.length<=k/\k<Q.length+s.l.length/\_) (λbg=>q bg.2.1)];by_cases G:Q.length+s.l.length<=k/\k<Q.length+s.l.length+l.length/\k≠j
      ·rw[if_pos G,if_pos ⟨u,u,hm.2 ⟨af,G.2.2⟩⟩]
      ·rw[if_neg G,if_neg (λbg=>G ⟨u,u,(hm.1 bg.2.2).2⟩)]
   ·intro gg n j7;have j7:(s.l++l)[gg]? =some n:=j7;rcases Nat.lt_or_ge gg s.l.length with iD |iD
    ·rw[List.getElem?_append_left iD]at j7;exact Le gg n j7
    ·rw[List.getElem?_append_right iD]at j7;obtain ⟨ks,bd,a6,cp⟩:=PY _ n j7;refine ⟨ks,bd,a6,λk af=> ?_⟩;have:=cp k af;rw[eF]at this;omega
   ·have vc:nc ((Q++s.l++l)[j],())=some (Jw.1,()):=h6;show vS r _=some (Sum.inl (t,P::aI,((i+1:Nat):Int),(mk (Q++(s.l++l)) (λ_=>1),()),d,x,[],0,[],[],parts,fP,bM (s.ks++[j]),s.sums++[Jw.1],()));rw[show Q++(s.l++l)=Q++s.l++l from (List.append_assoc _ _ _).symm];simp only[vS,M,V,bp,cI,an,bN,bE,b5 E,b1,c9,fV,vc,kK,a1,nC])
  (λs p7=>by have M:=fD parts;obtain ⟨dF,a2,a3,a4,a5,om,An,Lp,a9,Ld,Le⟩:=p7;rw[ew]at An;exact ⟨_,⟨s,rfl,dF,a2,a3,a4,a5,om,An,Lp,a9,Ld,Le⟩,by simp only[vS,M,ay]⟩) ⟨[],[],[]⟩ ⟨aU,rfl,rfl,List.nodup_nil,aU,λj ak=>u,aU,aU,aU,λk=>aU,λj n aO=>by simp at aO⟩
 refine ⟨s,?_,G⟩;have dr:=q;simp only[List.append_nil]at dr;exact dr
theorem aql (r:r0) (t:aj) (x:fg) (aW:wY t):A7 (vM r) t x [] 1:=by
 intro Q d aO;have cl:(decide ((((List.length ([]:List bo)):Int):Int)>(0:Int)))=false:=rfl;have M:bG ((((List.length ([]:List bo)):Int):Int)=(0:Int)):=rfl;have V:=ajR t d (by have:=aW.len;omega);have a1:=UT (Q:=Q) (n:=(inS d t,[],[],[],[],())) (ks:=[]) rfl aU List.nodup_nil aU u;have bp:mk (Q++[(inS d t,[],[],[],[],())]) (λj=>if j∈([]:dA) then 2 else 1)=mk (Q++[(inS d t,[],[],[],[],())]) (λ_=>1):=AV λj _=>aU
 rw[bp]at a1;refine ⟨[(inS d t,[],[],[],[],())],Q.length,?_,aU,ca _,?_,by simp[tR],λn aO=> ?_,λk=> ?_,λj n aO=> ?_⟩
 ·simp only[vM,cl,ay,JM,M,an,V,a1]
 ·show (Q++[_])[Q.length]? =_;simp
 ·rw[gv.1 aO];have:=si d t;have:=aW.len;exact ⟨by show (inS d t).length<=1000;omega,aU,aU,aU,aU⟩
 ·show (([]:dA)++[]).count k=_;rw[if_neg (λbg=>by simp at bg;omega)];rfl
 ·have ak:j=0:=by have:=(iK.1 aO).1;simp at this;omega
  subst ak;have:n=_:=(eW aO).symm;exact ⟨[],by rw[this];rfl,aU,aU⟩
theorem aqm (r:r0) (t:aj) (aW:wY t) (x:fg) (al:Fe x) (P:bo) (aI:List bo) (hQ:P.length<=5) (aN: ∀s∈aI,s.length<=5) (jo:aI.length<=100) (c:Nat) (ar:A7 r t x aI c):A7 (vM r) t x (P::aI) (1+6*c):=by
 intro Q d aO;have cl:bG ((((List.length (P::aI)):Int):Int)>(0:Int)):=aX aU;have M:(decide ((((List.length (P::aI)):Int):Int)=(0:Int)))=false:=bm (by simp;omega);have dH:=atc r t (P::aI) (mk Q (λ_=>1),()) d x aU (by show P.length<=100;omega);have bC:List.getD (P::aI) 0 []=P:=rfl;rw[bC]at dH;have hm:(cS P d).length<=5:=Nat.le_trans (ud P d) hQ;obtain ⟨fP,CI⟩: ∃m,cS P d=m:=⟨_,rfl⟩;rw[CI]at dH hm;have V:i64.wrap (((fP.length):Int)+1)=((fP.length+1:Nat):Int):=by rw[cR u];omega
 have a1:(decide ((0:Int)<=((fP.length+1:Nat):Int))&&decide (((fP.length+1:Nat):Int)<=((fP.length+1:Nat):Int))&&decide (((fP.length+1:Nat):Int)*(8:Int)<=(am:Int)))=true:=by rw[aX u,aX u,aX (by rw[ey];omega)];rfl
 have fI:=ala ([],fP,List.replicate (fP.length+1) (0:Int),[],[],()) d (by simp[List.replicate_succ]) (by show fP.length<=10^5;omega);have fI:EC (([],fP,List.replicate (fP.length+1) (0:Int),[],[],()),d,())=some (partsOf d fP,()):=fI;have gh:=(Gn d fP u).2;obtain ⟨parts,ra⟩: ∃p,partsOf d fP=p:=⟨_,rfl⟩;rw[ra]at fI gh;have hmul:parts.length*c<=6*c:=gV c u;obtain ⟨s,bw,bS,dD,du,gq,hy,ng,y7,axc,axa,ahi,SI⟩:=atd r t aW x P aI aN c ar Q d parts fP u u jo;have fin: ∀w:Nat,w<4-> ∃l i,DA r ((w:Int),(mk (Q++s.l) (λ_=>1),()),d,x,[],0,[],[],fP,bM s.ks,s.sums,())=some (((mk (Q++l) (λ_=>1),()),((i:Nat):Int),()),())/\l.length<=1+6*c/\Q.length<=i/\hD (Q++l) t (P::aI) d i/\tR (P::aI) d<=l.length/\(∀n∈l,xx n)/\(∀k,(l.flatMap ky).count k=if Q.length<=k/\k<Q.length+l.length/\k≠i then 1 else 0)/\(∀j n,l[j]? =some n-> ∃ks,n.2.2.1=bM ks/\ks.length<=6/\ ∀k∈ks,k<Q.length+j):=by
  intro w hw;obtain ⟨buf,b1,b2,b3⟩:=atb r x al w hw (mk (Q++s.l) (λ_=>1),()) d fP (bM s.ks) s.sums;have hG:=ajd r (Q++s.l) s.ks hy gq (by simp;omega) u fP s.sums buf;refine ⟨s.l++[([],fP,bM s.ks,s.sums,buf,())],(Q++s.l).length,?_,by simp;omega,aU,?_,?_,?_,?_,?_⟩
  ·rw[b3,hG,List.append_assoc]
  ·rw[<-List.append_assoc];refine ⟨s.ks,s.sums,buf,by rw[CI,List.getElem?_append_right (ca _)];simp,by rw[CI];omega,u,gq,hy,b1,b2,λj ak=> ?_⟩;rw[CI,ra];exact ⟨(ng j u).1.app _,(ng j u).2.app _⟩
  ·show 1+_<=_;rw[CI,ra];simp;omega
  ·intro n aO;rcases dp.1 aO with aO |aO
   ·exact axc n aO
   ·rw[gv.1 aO];exact ⟨aU,by show fP.length<=1000;omega,by show (bM s.ks).length<=1000;rw[fO];omega,by show s.sums.length<=1000;omega,by show buf.length<=1000;omega⟩
  ·intro k;have hlen:(Q++s.l).length=Q.length+s.l.length:=eF;have M:ky ([],fP,bM s.ks,s.sums,buf,())=s.ks:=GV s.ks;rw[List.flatMap_append,List.count_append,ahi,hlen];have V:List.flatMap ky [([],fP,bM s.ks,s.sums,buf,())]=s.ks:=by simp[M]
   rw[V,aaI gq,eF];by_cases af:k∈s.ks
   ·have q:=hy k af;have G:=axa k af;rw[hlen]at q;rw[if_neg (λbg=>bg.2.2 af),if_pos af,if_pos ⟨G,by simp;omega,u⟩]
   ·rw[if_neg af];by_cases q:Q.length<=k/\k<Q.length+s.l.length
    ·rw[if_pos ⟨q.1,q.2,af⟩,if_pos ⟨q.1,by simp;omega,u⟩]
    ·rw[if_neg (λbg=>q ⟨bg.1,bg.2.1⟩),if_neg (λbg=>q ⟨bg.1,by have:=bg.2.1;simp at this;omega⟩)]
  ·intro j n j7;rcases Nat.lt_or_ge j s.l.length with iD |iD
   ·rw[List.getElem?_append_left iD]at j7;exact SI j n j7
   ·rw[List.getElem?_append_right iD]at j7;have bu:=(iK.1 j7).1;have vm:j-s.l.length=0:=by simp at bu;omega
    rw[vm]at j7;have cw:n=_:=(eW j7).symm;refine ⟨s.ks,by rw[cw],u,λk af=> ?_⟩;have:=hy k af;rw[eF]at this;omega
 have hw:Int.tmod ((d.1.length):Int) 3=((d.1.length%3:Nat):Int):=by rw[Int.tmod_eq_emod_of_nonneg u];omega
 have bp:i64.wrap ((1:Int)+((d.1.length%3:Nat):Int))=((1+d.1.length%3:Nat):Int):=by rw[cR u];omega
 simp only[vM,cl,an,dH,JM,M,ay,V,a1,bE,fI,bw,hw,bp];cases (!(aB.eqb ac d (([]:N),(([]:N),()))))
 ·exact fin 0 u
 ·exact fin _ u
theorem aav (t:aj) (x:fg) (aW:wY t) (al:Fe x): ∀(aI:List bo) (n:Nat),aI.length+1<=n->aI.length<=100->(∀s∈aI,s.length<=5)->A7 (yL n) t x aI (cap aI.length)
 |_,0,h,_,_=>u
 |[],n+1,_,_,_=>aql (yL n) t x aW
 |P::aI,n+1,h,q,G=>aqm (yL n) t aW x al P aI (G P gI) (λs aN=>G s (gU _ aN)) (by simp at q;omega) (cap aI.length) (aav t x aW al aI n (by simp at h;omega) (by simp at q;omega) (λs aN=>G s (gU _ aN)))
theorem ajr (x:fg) (h:Ai x): ∃Q root,FR (x,())=some (((mk Q (λ_=>1),()),(((root:Nat):Int),(zj x.2.2.1,()))),())/\hD Q (nv x) (lB x) cb root/\Q.length<=43/\tR (lB x) cb<=Q.length/\(∀n∈Q,xx n)/\(∀k,(Q.flatMap ky).count k=if k<Q.length/\k≠root then 1 else 0)/\(∀j n,Q[j]? =some n-> ∃ks,n.2.2.1=bM ks/\ks.length<=6/\ ∀k∈ks,k<j):=by
 have cl:=asO x.1 h.t.1 h.t.2;have aW:=akP x.1 h.t.1;obtain ⟨dy,de⟩:=Gq _ (GW x);have M:i64.wrap (Int.tmod x.2.2.1 (4:Int))=((x.2.2.1.toNat%4:Nat):Int):=by have:=h.w;rw[Int.tmod_eq_emod_of_nonneg this.1,cR u];omega
 have RV:x.2.2.1.toNat%4<4:=Nat.mod_lt _ fm;have aw:cap (lB x).length<=43:=by
  match (lB x).length,dy with
  |0,_=>decide
  |1,_=>decide
  |2,_=>decide
 obtain ⟨l,i,b1,b2,b3,hG,hN,j1,Hb,PY⟩:=aav (nv x) x aW h.xok (lB x) jf (by rw[kc];omega) u de [] cb (by simp;omega);have adP:Fx ((([]:List (iM)),()),nv x,cb,lB x,x,())=some (((mk ([]++l) (λ_=>1),()),((i:Nat):Int),()),()):=b1;have V:bG ((0:Int)<=((x.2.2.1.toNat%4:Nat):Int)):=aX u;have a1:bG (((x.2.2.1.toNat%4:Nat):Int)<(nk.length:Int)):=aX (by have:nk.length=4:=rfl;omega);refine ⟨[]++l,i,?_,hG,by simp;omega,by simpa using hN,by simpa using j1,by simpa using Hb,by simpa using PY⟩;unfold lB nv at adP;rw[aiX];simp only[cl,M,V,a1,bN,an,bE,adP]
theorem arM (x:aL):me (cb,x,())=some (true,()):=by
 obtain ⟨r,ar⟩:=On cb x;rw[ar];unfold me at ar;have M:mZ (cb,())=some (false,()):=rfl;have V:(Op.bytesLess cb.1 x.1||decide ((cb.1:N)=x.1))=true:=by
  cases h:x.1 with
  |nil=>rfl
  |cons a l=>rfl
 have a1:qg (cb.2.1,x.2.1,())=some (false,()):=rfl;cases h:mZ (x,()) with
 |none=>simp only[h]at ar;cases ar
 |some s=>
  obtain ⟨b,ae⟩:=s;cases b
  ·simp only[h,M,V,a1,cU,an]at ar;exact ar.symm
  ·simp only[h,cL,ay]at ar;exact ar.symm
theorem aiU {m:bH} (hm:gj m):jK (m,cb,())=some (true,()):=by
 obtain ⟨-,R,cP,-,kq,-,kr,ar,hw⟩:=AT hm;have M:bG ((List.length ([]:List (aL))+R.length)*32<=am):=aX (by rw[ey];simp;omega);have V:bG ((List.length (([]:List (aL))++R)+cP.length)*32<=am):=aX (by rw[ey];simp;omega);obtain ⟨l,ad⟩: ∃l,([]++R)++cP=l:=⟨_,rfl⟩;have Rp:l.length<=4:=by rw[<-ad];simp;omega
 obtain ⟨z,q,rfl⟩:=dG (b:=pg) (λi (_:H)=>((i:Int),cb,l,())) l.length (λi _=>True) (λz=>z=.inr ()) u
  (λi E _ _=>by left;have M:=e3 (i:=i) (l:=l) u;have V:=dR i;have a1:=fv (j:=i) u;exact ⟨(),trivial,by simp only[pg,M,V,an,bN,bE,b5 E,arM,cL,ay,a1]⟩)
  (λ_ _=>by have M:=fD l;exact ⟨_,rfl,by simp only[pg,M,ay]⟩) () trivial
 have dr:DY (0,cb,l,())=some (.inr ()):=q;simp only[jK,kq,kr,M,V,an,ad,dr]
structure Kept (Q:cK) (ks:dA) (p:b9) (id:Nat) (aJ:cE):Prop where
 len:Q.length<=p.length/\p.length<=Q.length+2
 at_:Q.length<=id/\id<p.length
 old: ∀i,i<Q.length->p.getD i cW=(true,(false,((if i∈ks then 2 else 1:Int),(Q.getD i h7,()))))
 new:p.getD id cW=(true,(false,((1:Int),(aJ,()))))
 rest: ∀i,Q.length<=i->i<p.length->i≠id->p.getD i cW=cW
abbrev iG (Q:cK) (root:Nat):b9:=kf (mk Q (λ_=>1)) root 1
theorem OD (Q:cK) (root:Nat):(iG Q root).length=Q.length:=by rw[zB,lq]
theorem OC {Q:cK} {root i:Nat} (ar:root<Q.length) (E:i<Q.length):List.getD (iG Q root) i cW=(true,(false,((if i=root then 2 else 1:Int),(Q.getD i h7,())))):=by
 by_cases h:i=root
 ·subst h;rw[if_pos rfl,F0 (by rw[lq];exact E),xe E,b5 E];rfl
 ·rw[if_neg h,AD (Ne.symm h),xe E,b5 E]
theorem akm {Q:cK} {root:Nat} (ar:root<Q.length) (aO:Q.length<=100):F9 ((mk Q (λ_=>1),()),(root:Int),())=some ((iG Q root,()),(0:Int),()):=by
 have ad:(mk Q (λ_=>1)).length=Q.length:=lq _ _;have ae:=aaR (p:=mk Q (λ_=>1)) (i:=root) u;rw[mE]at ae;have c:=J7 (mk Q (λ_=>1)) u;have M:=dR root;have V:bG ((root:Int)<(List.length (mk Q (λ_=>1)):Int)):=aX u;have g: ∀I:iM,List.getD (mk Q (λ_=>1)) root I=(true,false,1,Q[root],()):=λI=>xe ar I
 have w:i64.wrap ((1:Int)+1)=1+1:=rfl;have a1:iG Q root=(mk Q (λ_=>1)).set root (true,(false,((1:Int)+1,(Q[root],())))):=by show kf _ _ _=_;unfold kf;rw[g]
 rw[a1];simp only[F9,ae,cL,ay,c,M,V,bN,an,bE,g,w]
theorem arW {Q:cK} {ks:dA} {root:Nat} {aJ:cE} (ar:root<Q.length) (aO:Q.length<=100) (e1:aJ.2.2.1=bM ks) (gD: ∀k∈ks,k<root) (dK:ks.Nodup) (bF:ks.length<=6):
  ∃fa bA id,lV ((iG Q root,()),aJ,())=some ((fa,()),((id:Nat):Int),0,())/\nb ((fa,()),(root:Int),())=some ((bA,()),0,())/\Kept Q ks bA id aJ:=by
 have ad:=OD Q root;have bC:=λi (E:i<Q.length)=>OC ar E
 have rh:root∉ks:=λh=>Nat.lt_irrefl _ (gD _ h)
 have free:GY (iG Q root) Q.length:=⟨λi E=>⟨u,by rw[bC i E]⟩,.inl ad.symm⟩;have q6: ∀k∈ks,List.getD (iG Q root) k cW=(true,(false,((1:Int),(Q.getD k h7,())))):=λk af=>by have:=gD k af;rw[bC k u,if_neg u]
 have M:=U5 (p:=iG Q root) (n:=aJ) (ks:=ks) (id:=Q.length) e1 (λk af=>⟨by have:=gD k af;omega,by rw[q6 k af]⟩) (λk af=>by rw[q6 k af];exact ⟨by show (0:Int)<=1;decide,by show (1:Int)<=10^6;decide⟩) dK u u free;obtain ⟨kC,qZ⟩: ∃kC,put (iG Q root) Q.length (true,(false,((1:Int),(aJ,()))))=kC:=⟨_,rfl⟩;have th:kC.length=Q.length+1:=by rw[<-qZ,PG u,if_pos ad.symm,ad]
 have g0: ∀i,i<Q.length->kC.getD i cW=List.getD (iG Q root) i cW:=λi E=>by rw[<-qZ];exact PU u u
 have Qz:kC.getD Q.length cW=(true,(false,((1:Int),(aJ,())))):=by rw[<-qZ];exact U7 u
 rw[qZ]at M;obtain ⟨fa,q0⟩: ∃fa,kn 1 ks kC=fa:=⟨_,rfl⟩;have dy:fa.length=Q.length+1:=by rw[<-q0,uz,th]
 have g1: ∀i,i∉ks->fa.getD i cW=kC.getD i cW:=λi E=>by rw[<-q0];exact rW 1 _ _ E
 have H0: ∀k∈ks,fa.getD k cW=(true,(false,((2:Int),(Q.getD k h7,())))):=λk af=>by have:=gD k af;rw[<-q0,Gg 1 _ _ dK af u,g0 k u,q6 k af];rfl
 have H3:fa.getD root cW=(true,(false,((2:Int),(Q.getD root h7,())))):=by rw[g1 root rh,g0 root ar,bC root ar,if_pos rfl]
 rw[q0]at M;have V:=ajK (p:=fa) (root:=root) u (by rw[H3]) (by rw[H3];show (2:Int)<=2;decide) (by rw[H3];show (2:Int)<=10^6;decide) u;have aud:Q.length∉ks:=λh=>by have:=gD _ h;omega
 refine ⟨fa,_,Q.length,M,V,⟨by rw[zB];omega,by rw[zB];omega,λi E=> ?_,?_,λi q G ab=> ?_⟩⟩
 ·by_cases lg:i=root
  ·subst lg;rw[F0 u,H3,if_neg rh];rfl
  ·rw[AD (Ne.symm lg)];by_cases gf:i∈ks
   ·rw[if_pos gf,H0 i gf]
   ·rw[if_neg gf,g1 i gf,g0 i E,bC i E,if_neg lg]
 ·rw[AD u,g1 _ aud,Qz]
 ·rw[zB]at G;omega
theorem asK {Q:cK} {ks:dA} {p:b9} {id:Nat} {n aJ:cE} (h:Kept Q ks p id n) (aO:Q.length<=100) (af:n.2.2.1=bM ks) (e1:aJ.2.2.1=bM ks) (gD: ∀k∈ks,k<Q.length) (dK:ks.Nodup) (bF:ks.length<=6):
  ∃fa bA kQ,lV ((p,()),aJ,())=some ((fa,()),((kQ:Nat):Int),0,())/\nb ((fa,()),(id:Int),())=some ((bA,()),0,())/\Kept Q ks bA kQ aJ:=by
 obtain ⟨vp,h5⟩:=h.len;obtain ⟨hT,e5⟩:=h.at_;have hold:=h.old;obtain ⟨mV,f1,f2,f3,f4⟩: ∃mV,GY p mV/\mV≠id/\Q.length<=mV/\mV<=Q.length+1:=by
  by_cases hid:id=Q.length
  ·refine ⟨Q.length+1,⟨λi E=>⟨u,?_⟩,?_⟩,u,u,u⟩
   ·by_cases dS:i<Q.length
    ·rw[hold i dS]
    ·have:i=id:=u;rw[this,h.new]
   ·by_cases aT:p.length=Q.length+1
    ·exact .inl aT.symm
    ·exact .inr ⟨u,by rw[h.rest _ u u u]⟩
  ·exact ⟨Q.length,⟨λi E=>⟨u,by rw[hold i E]⟩,.inr ⟨u,by rw[h.rest _ u u u]⟩⟩,u,u,u⟩
 have lO:mV<=p.length:=by rcases f1.2 with bg |bg<;>omega
 have q6: ∀k∈ks,p.getD k cW=(true,(false,((2:Int),(Q.getD k h7,())))):=λk af=>by rw[hold k (gD k af),if_pos af]
 have M:=U5 (p:=p) (n:=aJ) (ks:=ks) (id:=mV) e1 (λk af=>⟨by have:=gD k af;omega,by rw[q6 k af]⟩) (λk af=>by rw[q6 k af];exact ⟨by show (0:Int)<=2;decide,by show (2:Int)<=10^6;decide⟩) dK u u f1;obtain ⟨kC,qZ⟩: ∃kC,put p mV (true,(false,((1:Int),(aJ,()))))=kC:=⟨_,rfl⟩;have th:p.length<=kC.length/\kC.length<=Q.length+2/\mV<kC.length:=by
  rw[<-qZ,PG lO];split
  ·omega
  ·omega
 have g0: ∀i,i<p.length->i≠mV->kC.getD i cW=p.getD i cW:=λi E cw=>by rw[<-qZ];exact PU cw E
 have Qz:kC.getD mV cW=(true,(false,((1:Int),(aJ,())))):=by rw[<-qZ];exact U7 lO
 rw[qZ]at M;obtain ⟨fa,q0⟩: ∃fa,kn 1 ks kC=fa:=⟨_,rfl⟩;have dy:fa.length=kC.length:=by rw[<-q0,uz]
 have g1: ∀i,i∉ks->fa.getD i cW=kC.getD i cW:=λi E=>by rw[<-q0];exact rW 1 _ _ E
 have H0: ∀k∈ks,fa.getD k cW=(true,(false,((3:Int),(Q.getD k h7,())))):=λk af=>by have:=gD k af;rw[<-q0,Gg 1 _ _ dK af u,g0 k u u,q6 k af];rfl
 have xR: ∀i,Q.length<=i->i∉ks:=λi E bg=>by have:=gD _ bg;omega
 have QA:fa.getD id cW=(true,(false,((1:Int),(n,())))):=by rw[g1 id (xR id hT),g0 id e5 (Ne.symm f2),h.new]
 rw[q0]at M;have V:=ajJ (p:=fa) (root:=id) (ks:=ks) u (by rw[QA]) (by rw[QA]) (by rw[QA];exact af)
  (λk af=>by rw[H0 k af];exact ⟨by have:=gD k af;omega,by show (2:Int)<=3;decide,by show (3:Int)<=10^6;decide⟩) (xR id hT) dK u u
 have avs:ks.reverse.Nodup:=(List.reverse_perm ks).nodup_iff.2 dK;have Io: ∀i,i∈ks.reverse↔i∈ks:=λi=>List.mem_reverse
 have oF:(fa.set id cW).length=fa.length:=List.length_set;refine ⟨fa,_,mV,M,V,⟨by rw[uz,oF];omega,by rw[uz,oF];omega,λi E=> ?_,?_,λi q G ab=> ?_⟩⟩
 ·by_cases gf:i∈ks
  ·rw[Gg (-1) _ _ avs ((Io i).2 gf) (by rw[oF];omega),rJ u,H0 i gf,if_pos gf];rfl
  ·rw[rW (-1) _ _ (λbg=>gf ((Io i).1 bg)),rJ u,if_neg gf,g1 i gf,g0 i u u,hold i E,if_neg gf]
 ·rw[rW (-1) _ _ (λbg=>xR mV f3 ((Io _).1 bg)),rJ (Ne.symm f2),g1 _ (xR mV f3),Qz]
 ·rw[uz,oF]at G;rw[rW (-1) _ _ (λbg=>xR i q ((Io _).1 bg))];by_cases hid:i=id
  ·rw[hid,wg u]
  ·rw[rJ (Ne.symm hid),g1 _ (xR i q)];have:i<p.length:=u;rw[g0 i this ab,h.rest i q this hid]
structure r2 (Q:cK) (root:Nat):Prop where
 len:Q.length<=100
 lt:root<Q.length
 cnt: ∀k,(Q.flatMap ky).count k=if k<Q.length/\k≠root then 1 else 0
 kid: ∀j n,Q[j]? =some n-> ∃ks,n.2.2.1=bM ks/\ks.length<=6/\ ∀k∈ks,k<j
theorem r2.at_ {Q:cK} {root:Nat} (h:r2 Q root) {i:Nat} (E:i<Q.length):(Q.getD i h7).2.2.1=bM (ky (Q.getD i h7))/\(ky (Q.getD i h7)).length<=6/\ ∀k∈ky (Q.getD i h7),k<i:=by
 obtain ⟨ks,bd,a6,cp⟩:=h.kid i _ (hr E);rw[b5 E];have e:ky Q[i]=ks:=by unfold ky;rw[bd,GV]
 rw[e];exact ⟨bd,a6,cp⟩
def k0 (Q:cK) (ks:dA) (id i:Nat):dA:=if i<Q.length then ky (Q.getD i h7) else if i=id then ks else []
theorem O2 {p:b9} {Q:cK} {ks:dA} {id:Nat} (hu: ∀i,i<Q.length->hA p i=true): ∀n,n<=Q.length->hz p (k0 Q ks id) n=(Q.take n).flatMap ky
 |0,_=>by simp[hz]
 |n+1,h=>by have aO:n<Q.length:=u;rw[FX,O2 hu n u,hu n aO,if_pos rfl,eK aO,List.flatMap_append];unfold k0;rw[if_pos aO,b5 aO];simp
theorem Kept.used {Q:cK} {ks:dA} {p:b9} {id:Nat} {n:cE} (h:Kept Q ks p id n) {i:Nat} (E:i<p.length):hA p i=true↔i<Q.length\/i=id:=by
 unfold hA;by_cases q:i<Q.length
 ·rw[h.old i q];simp[q]
 ·by_cases G:i=id
  ·rw[G,h.new];simp
  ·rw[h.rest i u E G];simp[q,G]
theorem Kept.all {Q:cK} {ks:dA} {p:b9} {id:Nat} {n:cE} (h:Kept Q ks p id n) (k:Nat):(hz p (k0 Q ks id) p.length).count k=(Q.flatMap ky).count k+ks.count k:=by
 obtain ⟨dy,de⟩:=h.len;obtain ⟨i1,i2⟩:=h.at_;have base:=O2 (p:=p) (ks:=ks) (id:=id) (λi E=>(h.used u).2 (.inl E)) Q.length (ca _);rw[ew]at base;have step: ∀I,Q.length+I<=p.length->(hz p (k0 Q ks id) (Q.length+I)).count k=(Q.flatMap ky).count k+if id<Q.length+I then ks.count k else 0:=by
  intro I
  induction I with
  |zero=>intro _;rw[Nat.add_zero,base,if_neg u];omega
  |succ I aR=>
   intro ao;rw[<-Nat.add_assoc,FX,List.count_append,aR u];have hu:=h.used (i:=Q.length+I) u;by_cases he:Q.length+I=id
   ·rw[hu.2 (.inr he),if_pos rfl,if_neg u,if_pos u];unfold k0;rw[if_neg u,if_pos he];omega
   ·have aM:hA p (Q.length+I)=false:=by
     cases bg:hA p (Q.length+I) with
     |false=>rfl
     |true=>
      rcases hu.1 bg with q |q
      ·omega
      ·exact absurd q he
    rw[aM];simp only[Bool.false_eq_true,if_false,List.count_nil];by_cases bu:id<Q.length+I
    ·rw[if_pos bu,if_pos u];omega
    ·rw[if_neg bu,if_neg u]
 have:=step (p.length-Q.length) u;rw[show Q.length+(p.length-Q.length)=p.length by omega,if_pos i2]at this;exact this
theorem Kept.pool {Q:cK} {ks:dA} {p:b9} {id root:Nat} {n:cE} (h:Kept Q ks p id n) (W:r2 Q root) (af:n.2.2.1=bM ks) (gD: ∀k∈ks,k<Q.length) (bF:ks.length<=6):Bl p (k0 Q ks id):=by
 obtain ⟨dy,de⟩:=h.len;obtain ⟨i1,i2⟩:=h.at_;have aO:=W.len;refine ⟨u,λi E hu=> ?_,λi E hu k e1=> ?_,λi E hu=> ?_,λi=> ?_⟩
 ·rcases (h.used E).1 hu with q |q
  ·rw[h.old i q];unfold k0;rw[if_pos q];exact (W.at_ q).1
  ·subst q;rw[h.new];unfold k0;rw[if_neg u,if_pos rfl];exact af
 ·rcases (h.used E).1 hu with q |q
  ·unfold k0 at e1;rw[if_pos q]at e1;have:=(W.at_ q).2.2 k e1;exact ⟨this,(h.used u).2 (.inl u)⟩
  ·subst q;unfold k0 at e1;rw[if_neg u,if_pos rfl]at e1;have:=gD k e1;exact ⟨u,(h.used u).2 (.inl this)⟩
 ·have cw: ¬(i<Q.length\/i=id):=λbg=>by rw[(h.used E).2 bg]at hu;cases hu
  exact h.rest i u E u
 ·unfold k0;split
  ·rename_i q;have:=(W.at_ q).2.1;omega
  ·split
   ·omega
   ·simp
theorem arX {Q:cK} {ks:dA} {p:b9} {id root:Nat} {n:cE} (h:Kept Q ks p id n) (W:r2 Q root) (af:n.2.2.1=bM ks) (gD: ∀k∈ks,k<root) (dK:ks.Nodup) (bF:ks.length<=6):
  tI ((p,()),([(root:Int),(id:Int)]:ct),())=some (true,()):=by
 obtain ⟨dy,de⟩:=h.len;obtain ⟨i1,i2⟩:=h.at_;have ar:=W.lt;have hQ:=h.pool W af (λk af=>by have:=gD k af;omega) bF;have atE: ∀i,([root,id]:dA).count i=(if root=i then 1 else 0)+if id=i then 1 else 0:=λi=>by rw[List.count_cons,List.count_cons,List.count_nil];by_cases q:root=i<;>by_cases G:id=i<;>simp[q,G]
 have D0: ∀i,i<p.length->hA p i=true->(p.getD i cW).2.2.1=((([root,id]:dA).count i+(hz p (k0 Q ks id) p.length).count i:Nat):Int):=by
  intro i E hu;rw[atE,h.all,W.cnt,aaI dK];rcases (h.used E).1 hu with q |q
  ·rw[h.old i q,if_neg (by omega: ¬id=i)];by_cases lg:root=i
   ·subst lg;have rh:root∉ks:=λbg=>Nat.lt_irrefl _ (gD _ bg)
    rw[if_neg rh,if_neg rh,if_pos rfl,if_neg (λbg=>bg.2 rfl)];rfl
   ·rw[if_neg lg,if_pos (c:=i<Q.length/\i≠root) ⟨q,λe=>lg e.symm⟩];by_cases gf:i∈ks
    ·rw[if_pos gf,if_pos gf];rfl
    ·rw[if_neg gf,if_neg gf];rfl
  ·subst q;have gf:i∉ks:=λbg=>by have:=gD _ bg;omega
   rw[h.new,if_neg u,if_pos rfl,if_neg (λbg=>u),if_neg gf];rfl
 have key:=acU hQ [root,id] (λr rb=>by
  rcases e7.1 rb with rfl |rb
  ·exact ⟨u,(h.used u).2 (.inl ar)⟩
  ·obtain rfl:=gv.1 rb;exact ⟨i2,(h.used i2).2 (.inr rfl)⟩) aU D0 (λi E hu=>by
   have aW:=D0 i E hu;have aT:0<(p.getD i cW).2.2.1:=by
    rcases (h.used E).1 hu with q |q
    ·rw[h.old i q];show (0:Int)<if i∈ks then 2 else 1
     split<;>decide
    ·subst q;rw[h.new];show (0:Int)<1
     decide
   rw[aW]at aT;omega)
 exact key
theorem arT {Q:cK} {root:Nat} (W:r2 Q root):tI ((iG Q root,()),([(root:Int),(root:Int)]:ct),())=some (true,()):=by
 have ad:=OD Q root;have ar:=W.lt;have aO:=W.len;have bC:=λi (E:i<Q.length)=>OC ar E
 have hu: ∀i,i<Q.length->hA (iG Q root) i=true:=λi E=>by unfold hA;rw[bC i E]
 have gd:=O2 (p:=iG Q root) (ks:=[]) (id:=0) hu Q.length (ca _);rw[ew]at gd;have hQ:Bl (iG Q root) (k0 Q [] 0):=by
  refine ⟨u,λi E _=> ?_,λi E _ k e1=> ?_,λi E nL=> ?_,λi=> ?_⟩
  ·rw[bC i u];unfold k0;rw[if_pos (c:=i<Q.length) u];exact (W.at_ u).1
  ·unfold k0 at e1;rw[if_pos (c:=i<Q.length) u]at e1;have:=(W.at_ u).2.2 k e1;exact ⟨this,hu k u⟩
  ·rw[hu i u]at nL;cases nL
  ·unfold k0;split
   ·rename_i q;have:=(W.at_ q).2.1;omega
   ·split<;>simp
 have D0: ∀i,i<(iG Q root).length->hA (iG Q root) i=true->(List.getD (iG Q root) i cW).2.2.1=((([root,root]:dA).count i+(hz (iG Q root) (k0 Q [] 0) (iG Q root).length).count i:Nat):Int):=by
  intro i E _;rw[ad]at E;rw[ad,gd,W.cnt,bC i E];by_cases lg:i=root
  ·subst lg;rw[if_neg (c:=i<Q.length/\i≠i) (λbg=>bg.2 rfl),if_pos rfl];simp
  ·have:([root,root]:dA).count i=0:=List.count_eq_zero.2 (by simp;exact lg);rw[this,if_pos (c:=i<Q.length/\i≠root) ⟨E,lg⟩,if_neg lg];rfl
 exact acU hQ [root,root] (λr rb=>by
  have:r=root:=by simpa using rb
  rw[this];exact ⟨u,hu root ar⟩) aU D0 (λi E nL=>by
   have aW:=D0 i E nL;have aT:0<(List.getD (iG Q root) i cW).2.2.1:=by
    rw[bC i u];show (0:Int)<if i=root then 2 else 1
    split<;>decide
   rw[aW]at aT;omega)
structure qu (t:aj):Prop where
 srt:cO bT t
 key: ∀p∈t,1<=p.1.length
 val: ∀p∈t,p.2.1.length<=64
 stamp: ∀p∈t,0<=p.2.2.1/\p.2.2.1<=1000000000
theorem ar2 {m:bH} (hm:gj m):0<=m.2.2.2.2.2.2.1/\m.2.2.2.2.2.2.1<=1000000000:=by obtain ⟨a,k,v,f,t,d,n,rfl,-,aO,-,-⟩:=hm.form;unfold jt;cases decide (a=0)<;>cases decide (a=1)<;>cases decide (a=2)<;>cases decide (a=3)<;>cases decide (a=4)<;>simp only[an,ay]<;>omega
theorem acn {m:bH} {k:N}:(∀v n,hq m k=.gen v n->v=m.2.2.1/\n=m.2.2.2.2.2.2.1)/\(∀eB st,hq m k=.old eB st->st=none\/st=some m.2.2.2.2.2.2.1):=by
 constructor
 ·intro v n h;unfold hq at h;split at h
  ·split at h
   ·cases h;exact ⟨rfl,rfl⟩
   ·cases h
  ·repeat' split at h
   all_goals cases h
 ·intro eB st h;unfold hq at h
  repeat' split at h
  all_goals first
   |cases h;exact .inl rfl
   |cases h;exact .inr rfl
   |cases h
theorem aiE: ∀p∈fc,1<=p.length:=by have h:fc.all (λp=>decide (1<=p.length))=true:=aC;exact λp aT=>of_decide_eq_true (fC.1 h p aT)
theorem qu.apM {t:aj} {m:bH} (h:qu t) (hm:gj m):qu (D.apM t m):=by
 have cC:=hm.ok;have gE:=ar2 hm;refine ⟨Gz h.srt,λx al=> ?_,λx al=> ?_,λx al=> ?_⟩<;>have aw:=(GI cC h.srt x).1 al<;>cases e:hq m x.1 with
 |gen v n=>
  first
  |obtain ⟨q,G⟩:=Gv e
   have:=(uc _ (cC.key (.inl q))).1;rw[G]at this;exact this
  |rw[e]at aw
   have aw:x=(x.1,v,n,()):=aw;obtain ⟨q,G⟩:=Gv e;obtain ⟨M,V⟩:=acn.1 v n e;have a8:=cC.val q;rw[aw]
   first
   |show v.length<=64
    rw[M];omega
   |show 0<=n/\n<=1000000000
    rw[V];exact gE
 |gone=>rw[e]at aw;exact aw.elim
 |old k st=>
  rw[e]at aw;obtain ⟨y,bt,M,V⟩:=aw
  first
  |have bt:=h.key y bt
   rcases Ph e with q |⟨q,G,ab,bF,L,aE⟩
   ·rw[M,q]at bt;exact bt
   ·have W:=cC.mv q G ab bF;have dy:=aiE _ W.to_;unfold b7 at L;rw[bQ]at L;have:=of_decide_eq_true L.1;omega
  |rw[V]
   first
   |exact h.val y bt
   |have ah:=h.stamp y bt
    rcases acn.2 k st e with rfl |rfl
    ·exact ah
    ·exact gE
theorem qu.allM {l:cD}: ∀{t:aj},qu t->(∀m∈l,gj m)->qu (D.allM t l):=by
 induction l with
 |nil=>intro t h _;exact h
 |cons m l aR=>intro t h hm;exact aR (h.apM (hm m gI)) (λn aO=>hm n (gU _ aO))
theorem cN.pairs {t:aj} (h:cN t):qu t:=⟨h.srt,λp aT=>(h.key p aT).1,h.val,h.stamp⟩
theorem aiJ (k:N):ch cb k=true:=fT.2 ⟨by cases k<;>rfl,.inl rfl⟩
theorem arF {T:aj} (h:qu T) (ad:T.length<=10^6) (af: ∀p∈T,p.1.length<=65535):tH ((T,[],[],[],[],()),cb,())=some (true,()):=by
 obtain ⟨z,q,rfl⟩:=dG (b:=se) (λi (_:H)=>(T,(T.length:Int),(i:Int),cb,())) T.length (λ_ _=>True) (λz=>z=.inr (cb,())) u
  (λi E _ _=>by left;have M:=e3 (i:=i) (l:=T) u;have V:=dR i;have a1:=fv (j:=i) u;have hm:=dI E;have bp:=aa4 ⟨h.key _ hm,af _ hm⟩ (h.val _ hm) (h.stamp _ hm);exact ⟨(),trivial,by simp only[se,M,V,an,ay,bN,bE,b5 E,Ki,bp,cL,cU,zI,aiJ,a1]⟩)
  (λ_ _=>by have M:=fD T;exact ⟨_,rfl,by simp only[se,M,ay]⟩) () trivial
 have dr:Hw (T,(T.length:Int),0,cb,())=some (.inr (cb,())):=q;have G:=Zl T h.srt u;have cl:bG ((((List.length ([]:ct)):Int):Int)=(0:Int)):=rfl;have M:bG (i64.wrap (i64.wrap (((List.length ([]:bo)):Int)+((List.length ([]:hs)):Int))+((List.length ([]:cD)):Int))=(0:Int)):=rfl;have V:(decide ((-1:Int)>=(0:Int)))=false:=rfl;simp only[tH,cl,M,an,G,Hk,Hl,dr,V,cU]
theorem arC {p:bB} {id:Nat} {T:aj} (bC:ik (p,(id:Int),())=some ((T,[],[],[],[],()),0,())) (h:qu T) (ad:T.length<=10^6) (af: ∀p∈T,p.1.length<=65535):wv (p,(id:Int),cb,(64:Int),())=some ((1:Int),()):=by have a1:(decide ((64:Int)=(0:Int)))=false:=rfl;have bp:=arF h ad af;have cI:bG ((((List.length ([]:ct)):Int):Int)=(0:Int)):=rfl;show k4 (kI (jf-1)) _=_;simp only[k4,bC,cJ,cL,cU,an,a1,bp,ip,ay,n0,cI]
theorem ajY {Q:cK} {t:aj} {P:bo} {aI:List bo} {root:Nat} (h:l7 Q t (P::aI) root) (aW:cN t) (aO:Q.length<=100):
  ∃(ks:dA) (sums:hs) (buf:cD),Q[root]? =some ([],cS P cb,bM ks,sums,buf,())/\ks≠[]/\(∀k∈ks,k<root)/\ks.Nodup/\ks.length<=6/\buf.length<=5/\(∀m∈buf,gj m)/\
   ∀(p:bB) (id:Nat) (u7:cD),l2 p Q root root->ik (p,(id:Int),())=some (([],cS P cb,bM ks,sums,u7,()),0,())->(∀m∈u7,gj m)->u7.length<=100->
    wv (p,(id:Int),cb,(64:Int),())=some (((aI.length+2:Nat):Int),()):=by
 have bC:=h.good;have aN:=bC.five;have CS:=bC.srt;obtain ⟨my,azY,aze,g1,ej,-,-,-⟩:=bC.inner h.tab;obtain ⟨ks,sums,buf,q,G,ab,aE,bf,bF,dU,hh⟩:=bC.tree;have avd:my=ks:=by
  have e:=eW (g1.symm.trans q);have V:bM my=bM ks:=congrArg (λn:cE=>n.2.2.1) e;have a1:=congrArg (List.map Int.toNat) V
  rwa [GV,GV]at a1
 subst avd;have azN:=h.lt;have jU:=ud P cb;have hQ:=aN P gI;have avG:aI.length<=1:=by have:=h.two;simp at this;omega
 refine ⟨my,sums,buf,q,λe=> ?_,bf,aE,ej.six,bF,λm hm=>(dU m hm).1,?_⟩
 ·rw[e]at G;simp at G
 intro p id u7 aT bO L Cj;have auX:=bC.gs;obtain ⟨f,aM,Ig⟩: ∃f,jf=f+1/\100<=f:=⟨jf-1,by rw[kc],by rw[kc];omega⟩;have hV: ∀s∈aI,s.length<=5:=λs hV=>aN s (gU _ hV)
 have pe: ∀s∈aI,s.Pairwise λa b=>Op.bytesLess a b=true:=λs hV=>CS s (gU _ hV)
 have a1:(decide ((64:Int)=(0:Int)))=false:=rfl;have dS: ∀s∈sums,jO s:=by intro s CO;obtain ⟨j,ak,rfl⟩:=List.mem_iff_getElem.1 CO;obtain ⟨bh,n,ba,c3⟩:=hh j u;obtain ⟨ec,bS,d1,d2,d3,d4⟩:=AY aW hV bh;obtain rfl:=eW (ba.symm.trans d1);rw[b5 ak]at c3;have:=eW (c3.symm.trans d3);have s4:sums[j]=bS:=congrArg Prod.fst this;rw[s4];exact d4
 have bp:=aaK (piv:=cS P cb) (ks:=my) (sums:=sums) (buf:=u7) (d:=cb) G ab u (adB (CS P gI) cb) (λk af=>by have:=bf k af;omega) dS (λm hm=>⟨L m hm,aiU (L m hm)⟩) Cj;obtain ⟨fI,gh⟩:=Oo auX;have jo:=(Gn cb (cS P cb) u).2;have aeS:=ej.good;obtain ⟨parts,ra⟩: ∃p,partsOf cb (cS P cb)=p:=⟨_,rfl⟩;have cI:=Nc (n:=([],cS P cb,bM my,sums,u7,())) (d:=cb) (PB u) fI;rw[ra]at cI gh jo aeS;have c9:(decide ((((List.length (bM my)):Int):Int)=(0:Int)))=false:=bm (by rw[fO];omega);obtain ⟨a7,jj⟩: ∃a7:cE,([],cS P cb,bM my,sums,u7,())=a7:=⟨_,rfl⟩;have sX:a7.2.2.1=bM my:=by rw[<-jj]
 have QZ:a7.2.2.2.1=sums:=by rw[<-jj]
 rw[jj]at bO bp cI;obtain ⟨z,g1,rfl⟩:=dG (b:=io (kI f)) (λj (_:H)=>((64:Int),((if j=0 then 0 else aI.length+1:Nat):Int),(parts.length:Int),(j:Int),p,a7,parts,())) parts.length (λj _=>True)
  (λz=>z=.inr (((aI.length+1:Nat):Int),())) u
  (λj ak _ _=>by
   left;have lP:j<my.length:=u;have mm:j<sums.length:=u;obtain ⟨bh,n,ba,c3⟩:=hh j lP;rw[ra]at bh;have Cy:=aeS j lP;rw[b5 ak]at bh Cy;have gD:my.getD j 0=my[j]:=b5 lP;rw[gD]at bh ba Cy;have yh:my[j]<root:=bf _ (dI lP);obtain ⟨v,aR,-,v1⟩:=Pw aW aT u aI parts[j] my[j] f 63 hV pe (gh _ (dI ak)) bh yh u u u;have mq: ¬jP Q root aI parts[j] my[j]:=λbg=>by have:=PJ h.tab Cy bg;omega
   have a8:=v1 mq;subst a8;have dn:i64.wrap ((64:Int)-1)=((63:Nat):Int):=rfl;have M:=e3 (i:=j) (l:=parts) u;have V:=dR j;have fV:bG (((j:Nat):Int)<((List.length (bM my):Nat):Int)):=aX (by rw[fO];omega);obtain ⟨ec,bS,d1,d2,d3,d4⟩:=AY aW hV bh;obtain rfl:=eW (ba.symm.trans d1);rw[b5 mm]at c3;have p7:sums[j]=bS:=congrArg Prod.fst (eW (c3.symm.trans d3));have f1:=aT _ _ yh ba;rw[if_neg u]at f1;have kK:bG (((j:Nat):Int)<((sums.length:Nat):Int)):=aX u;have nC:=e6 j u;have vc:(decide (((aI.length+1:Nat):Int)=(0:Int)))=false:=bm u;have vm:yC (kI f) ((64:Int),(j:Int),((aI.length+1:Nat):Int),(parts.length:Int),(j:Int),p,a7,parts,())=some (.inl ((64:Int),((aI.length+1:Nat):Int),(parts.length:Int),((j+1:Nat):Int),p,a7,parts,())):=by simp only[yC,sX,QZ,V,fV,kK,an,bN,bE,k9 lP,f1,d2,b5 mm,p7,px,cL,ay,nC]
   refine ⟨(),trivial,?_⟩;rw[if_neg (by omega: ¬j+1=0)];simp only[io,sX,M,V,fV,an,bN,bE,b5 ak,k9 lP,dn,aR,vc,cU];by_cases bY:j=0
   ·have qT:(decide (((j:Nat):Int)>(0:Int)))=false:=bm u;simp only[qT,ay,vm]
   ·have qT:bG (((j:Nat):Int)>(0:Int)):=aX u;rw[if_neg bY];simp only[qT,an,cJ,cL,ay,vm])
  (λ_ _=>by have M:=fD parts;have q9: ¬parts.length=0:=u;exact ⟨_,rfl,by simp only[io,M,ay];rw[if_neg q9]⟩) () trivial
 have j4:DJ (kI f) ((64:Int),(0:Int),(parts.length:Int),(0:Int),p,a7,parts,())=some (.inr (((aI.length+1:Nat):Int),())):=g1;have fV:(decide ((((a7.2.2.1.length):Int):Int)=(0:Int)))=false:=by rw[sX];exact c9
 have da:i64.wrap (((aI.length+1:Nat):Int)+1)=((aI.length+2:Nat):Int):=by rw[cR u];omega
 show kI jf _=_;rw[aM];show k4 (kI f) _=_;simp only[k4,bO,cJ,cL,cU,an,a1,bp,ip,ay,n0,fV,cI,j4,da]
theorem l2.cut {p:bB} {Q:cK} {b r:Nat} (h:l2 p Q b b) (ar:r<=b):l2 p Q r r:=λi n E aO=>by have:=h i n u aO;rw[if_neg u]at this ⊢;exact this
theorem ac2 {p:b9} {i:Nat} {r:Int} {n:cE} (E:i<p.length) (h:p.getD i cW=(true,(false,(r,(n,()))))):ik ((p,()),(i:Int),())=some (n,0,()):=by rw[b5 E]at h;rw[abr E (by rw[h]) (by rw[h]),h]
theorem abn {p:b9} {Q:cK} (r:Nat->Int) (ad:Q.length<=p.length) (h: ∀i,i<Q.length->p.getD i cW=(true,(false,(r i,(Q.getD i h7,()))))):l2 (p,()) Q Q.length Q.length:=by intro i n E aO;rw[if_neg u,ac2 u (h i E),sg aO]
theorem Kept.gets {Q:cK} {ks:dA} {p:b9} {id:Nat} {n:cE} (h:Kept Q ks p id n):l2 (p,()) Q Q.length Q.length:=
 abn (λi=>if i∈ks then 2 else 1) h.len.1 h.old
theorem asD {Q:cK} {root:Nat} (ar:root<Q.length):l2 (iG Q root,()) Q Q.length Q.length:=
 abn (λi=>if i=root then 2 else 1) (by rw[OD];exact ca _) (λi E=>OC ar E)
def Bp (Q:cK) (ks:dA) (root:Nat) (iF:Nat->cE) (i:Nat) (s:b9×Nat):Prop:=
 (i=0/\s.1=iG Q root/\s.2=root)\/Kept Q ks s.1 s.2 (iF i)
theorem adC {Q:cK} {ks:dA} {root:Nat} {iF:Nat->cE} {i:Nat} {s:b9×Nat} (ar:root<Q.length) (bY:Q[root]? =some (iF 0)) (h:Bp Q ks root iF i s):l2 (s.1,()) Q Q.length Q.length/\ik ((s.1,()),(s.2:Int),())=some (iF i,0,()):=by
 rcases h with ⟨rfl,q,G⟩|h
 ·rw[q,G];have bC:=asD ar;refine ⟨bC,?_⟩;have:=bC root _ ar bY;rw[if_neg u]at this;exact this
 ·exact ⟨h.gets,ac2 h.at_.2 h.new⟩
theorem arV {Q:cK} {ks:dA} {root:Nat} {iF:Nat->cE} (W:r2 Q root) (gD: ∀k∈ks,k<root) (dK:ks.Nodup) (bF:ks.length<=6) (af: ∀i,(iF i).2.2.1=bM ks) (bY:Q[root]? =some (iF 0)) (sh:bi) (ms:cD) (jU:ms.length<=100)
  (qa: ∀i (E:i<ms.length) (p fa bA:b9) (id kQ:Nat),ik ((p,()),(id:Int),())=some (iF i,0,())->lV ((p,()),iF (i+1),())=some ((fa,()),(kQ:Int),0,())->nb ((fa,()),(id:Int),())=some ((bA,()),0,())->
   un (((p,()),((id:Int),(sh,()))),ms[i],())=some (((bA,()),((kQ:Int),(sh,()))),0,())) (T:cQ) (C:aj):
  ∃s:b9×Nat,Bp Q ks root iF ms.length s/\IZ (true,(0:Int),T,C,ms,((iG Q root,()),((root:Int),(sh,()))),())=some (.inr (true,T,C,((s.1,()),((s.2:Int),(sh,()))),())):=by
 have ar:=W.lt;have aO:=W.len;obtain ⟨z,dH,s,cV,rfl⟩:=dG (b:=Dc) (λi (s:b9×Nat)=>(true,(i:Int),T,C,ms,((s.1,()),((s.2:Int),(sh,()))),())) ms.length (λi s=>Bp Q ks root iF i s)
  (λz=> ∃s:b9×Nat,Bp Q ks root iF ms.length s/\z=.inr (true,T,C,((s.1,()),((s.2:Int),(sh,()))),())) u
  (λi E s aN=>by
   left;have M:=e3 (i:=i) (l:=ms) u;have V:=dR i;have a1:=fv (j:=i) u;obtain ⟨p,id⟩:=s;have bO:=(adC ar bY aN).2;obtain ⟨fa,bA,kQ,dF,a2,a3⟩: ∃fa bA kQ,lV ((p,()),iF (i+1),())=some ((fa,()),((kQ:Nat):Int),0,())/\nb ((fa,()),(id:Int),())=some ((bA,()),0,())/\Kept Q ks bA kQ (iF (i+1)):=by
    rcases aN with ⟨-,q,G⟩|aN
    ·have q:p=iG Q root:=q;have G:id=root:=G;rw[q,G];exact arW ar aO (af _) gD dK bF
    ·exact asK aN aO (af _) (af _) (λk af=>by have:=gD k af;omega) dK bF
   have a4:=qa i E p fa bA id kQ bO dF a2;refine ⟨(bA,kQ),.inr a3,?_⟩;simp only[Dc,M,V,an,bN,bE,b5 E,a4,cJ,cL,ay,a1])
  (λs aN=>by have M:=fD ms;exact ⟨_,⟨s,aN,rfl⟩,by simp only[Dc,M,ay]⟩) (iG Q root,root) (.inl ⟨rfl,rfl,rfl⟩)
 exact ⟨s,cV,dH⟩
theorem asU {Q:cK} {ks:dA} {root:Nat} {iF:Nat->cE} (W:r2 Q root) (gD: ∀k∈ks,k<root) (dK:ks.Nodup) (bF:ks.length<=6) (af: ∀i,(iF i).2.2.1=bM ks) {i:Nat} {s:b9×Nat} (h:Bp Q ks root iF i s):
  tI ((s.1,()),([(root:Int),(s.2:Int)]:ct),())=some (true,()):=by
 rcases h with ⟨-,q,G⟩|h
 ·rw[q,G];exact arT W
 ·exact arX h W (af i) gD dK bF
theorem adj {T:cQ} {h:Int} (ar:wB (T.2.2.1,())=some (true,())) (bg:wv (T.1,T.2.1,cb,(64:Int),())=some (h,())) (aT:0<h):wA (T,())=some (true,()):=by have V:bG (h>(0:Int)):=aX aT;simp only[wA,ar,an,bg,V]
theorem ajV {Q:cK} {t:aj} {aI:List bo} {root:Nat} (h:l7 Q t aI root) (cC:cN t) (aO:Q.length<=100) (hlen:t.length<=100) (sh:bi) (ms:cD) (s7: ∀m∈ms,gj m) (jU:ms.length<=8):
  ∃(ks:dA) (iF:Nat->cE),(∀k∈ks,k<root)/\ks.Nodup/\ks.length<=6/\(∀i,(iF i).2.2.1=bM ks)/\Q[root]? =some (iF 0)/\
   (∀i (E:i<ms.length) (p fa bA:b9) (id kQ:Nat),ik ((p,()),(id:Int),())=some (iF i,0,())->lV ((p,()),iF (i+1),())=some ((fa,()),(kQ:Int),0,())->nb ((fa,()),(id:Int),())=some ((bA,()),0,())->
    un (((p,()),((id:Int),(sh,()))),ms[i],())=some (((bA,()),((kQ:Int),(sh,()))),0,()))/\
   ∀(p:bB) (id:Nat),l2 p Q root root->ik (p,(id:Int),())=some (iF ms.length,0,())-> ∃h:Int,0<h/\wv (p,(id:Int),cb,(64:Int),())=some (h,()):=by
 match aI,h with
 |[],h=>
  have q:Q[root]? =some (inS cb t,[],[],[],[],()):=h.good.tree;have bW:=cC.inS cb;have azu:=si cb t;have vo: ∀p∈inS cb t,p.1.length<=100:=λp aT=>h.tab.key p (e8.1 aT).1
  have vA:=λi (E:i<=ms.length)=>FZ (t:=inS cb t) (l:=ms) bW.srt (λm hm=>(s7 m hm).ok) (Gb u u) u (B:=100) u u vo i E
  refine ⟨[],λi=>(allM (inS cb t) (ms.take i),[],[],[],[],()),aU,List.nodup_nil,aU,λi=>rfl,q,?_,?_⟩
  ·intro i E p fa bA id kQ bC dF a2;obtain ⟨b1,b2,b3⟩:=vA i u;have avx:allM (inS cb t) (ms.take (i+1))=apM (allM (inS cb t) (ms.take i)) ms[i]:=by rw[eK E,FY]
   have dF:lV ((p,()),(allM (inS cb t) (ms.take (i+1)),[],[],[],[],()),())=some ((fa,()),(kQ:Int),0,()):=dF;rw[avx]at dF;exact aj0 sh bC (AT (s7 _ (dI E))).1 (OS _ _ (s7 _ (dI E)).ok b1 b2 b3).1 dF a2
  ·intro p id aT bC;have bC:ik (p,(id:Int),())=some ((allM (inS cb t) (ms.take ms.length),[],[],[],[],()),0,()):=bC;obtain ⟨b1,b2,b3⟩:=vA ms.length (ca _);have ad:=O3 (ms.take ms.length) (inS cb t);rw[ew]at ad bC b3;have atY:2^ms.length<=256:=Nat.le_trans (Nat.pow_le_pow_right u jU) fm;have hmul:2^ms.length*((inS cb t).length+1)<=256*101:=Nat.mul_le_mul atY u;exact ⟨1,fm,arC bC (bW.pairs.allM s7) u (λp aT=>by have:=b3 p aT;omega)⟩
 |P::aI,h=>
  obtain ⟨ks,sums,buf,q,G,ab,aE,bf,bF,dU,hh⟩:=ajY h cC aO;refine ⟨ks,λi=>([],cS P cb,bM ks,sums,buf++ms.take i,()),ab,aE,bf,λi=>rfl,?_,?_,?_⟩
  ·rw[q];simp
  ·intro i E p fa bA id kQ bC dF a2;have dF:lV ((p,()),([],cS P cb,bM ks,sums,buf++ms.take (i+1),()),())=some ((fa,()),(kQ:Int),0,()):=dF;rw[eK E,<-List.append_assoc]at dF;exact ajZ sh bC G (AT (s7 _ (dI E))).1 (by rw[eF,ev];omega) dF a2
  ·intro p id aT bC;refine ⟨_,?_,hh p id (buf++ms.take ms.length) aT bC (λm hm=> ?_) ?_⟩
   ·omega
   ·rw[ew]at hm;rcases dp.1 hm with hm |hm
    ·exact dU m hm
    ·exact s7 m hm
   ·rw[eF,ev];omega
theorem ao8 (x:fg) (l:List oV) (al:Ai x) (ad:(∀y∈l,rM y)/\l.length<10^18):nl (x,l,())=some (true,()):=by
 obtain ⟨Q,root,q,G,ab,aE,bf,bF,dU⟩:=ajr x al;have bW:=l7.made x al G;have W:r2 Q root:=⟨u,bW.lt,bF,dU⟩;have hm:=GW x;obtain ⟨dy,de⟩:=Gq _ hm;have cC:cN (nv x):=ajn _ (λy bt=>al.t.1 y (List.mem_of_mem_take bt)) (by simp;omega);have yq:(nv x).length<=100:=by have:=AN (x.1.take 40);rw[ev]at this;unfold nv;omega
 obtain ⟨ms,dH,cV,eV⟩:=adz l ad.1 6 u ad.2;have dH:zE (l,(6:Int),())=some (ms,()):=dH;have RJ:=as4 x.2.2.1 al.w;obtain ⟨sh,avR⟩: ∃sh,zj x.2.2.1=sh:=⟨_,rfl⟩;rw[avR]at q RJ;obtain ⟨ks,iF,bd,a6,cp,eh,gZ,ir,td⟩:=ajV bW cC u yq sh ms eV u;have iI:=bW.scan sh cb ⟨Nat.zero_le _,Nat.zero_le _⟩;rw[ac4]at iI;have jl:=bW.clen;obtain ⟨C,eG⟩: ∃C,cont Q (lB x) root=C:=⟨_,rfl⟩;have au3:=akm bW.lt u;obtain ⟨T,Ia⟩: ∃T:cQ,((mk Q (λ_=>1),()),((root:Int),(sh,())))=T:=⟨_,rfl⟩;obtain ⟨s,bw,bS⟩:=arV W bd a6 cp eh gZ sh ms u ir T C;obtain ⟨g1,g2⟩:=adC bW.lt gZ bw;have RM:=asU W bd a6 cp eh bw;obtain ⟨p,id⟩:=s;have g1:l2 (p,()) Q Q.length Q.length:=g1;have g2:ik ((p,()),(id:Int),())=some (iF ms.length,0,()):=g2;have bS:IZ (true,(0:Int),T,C,ms,((iG Q root,()),((root:Int),(sh,()))),())=some (.inr (true,T,C,((p,()),((id:Int),(sh,()))),())):=bS;have RM:tI ((p,()),([(root:Int),(id:Int)]:ct),())=some (true,()):=RM;obtain ⟨e,s1,-,s2⟩:=bW.scanX ((p,()),((root:Int),(sh,()))) g1 bW.lt rfl cb ⟨Nat.zero_le _,Nat.zero_le _⟩;have he:e=0:=by
  rcases Classical.em (e=0) with cB |cB
  ·exact cB
  ·have:=Px bW.tab bW.good (s2.1 cB);have:=bW.lt;omega
 subst he;rw[if_pos rfl,ac4,eG]at s1;obtain ⟨v,v1,-,v2⟩:=Pw cC g1 u (lB x) cb root jf 64 de (abN _ hm) (ads _ hm) G bW.lt (by rw[kc];omega) u u;have a8:=v2 (λbg=>by have:=PJ bW.tab bW.good bg;have:=bW.lt;omega)
 have v1:wv ((p,()),(root:Int),cb,(64:Int),())=some (v,()):=v1;have dn:=adj (T:=((p,()),((root:Int),(sh,())))) RJ v1 (by rw[a8];omega);obtain ⟨bg,p6,v3⟩:=td (p,()) id (g1.cut (by have:=bW.lt;omega)) g2;have da:=adj (T:=((p,()),((id:Int),(sh,())))) RJ v3 p6;rw[eG]at iI jl;rw[Ia]at q iI;have aui:T.1=(mk Q (λ_=>1),()):=by rw[<-Ia]
 have Ci:T.2.1=(root:Int):=by rw[<-Ia]
 have auj:T.2.2.1=sh:=by rw[<-Ia]
 have same:=ass C u;unfold nl;rw[ajW];simp only[q,iI,aui,Ci,au3,cJ,cL,cU,an,Ta,ay,dH,auj,bS,s1,same,dn,da,RM]
theorem apQ {B:aB->Nat} (ab:B DS=3) (bF:B rS=6) (oc:fg) (iV:List oV) (g0:aB.good B UZ oc) (g1:aB.good B (.list rS) iV):nl (oc,iV,())=some (true,()):=
 ao8 oc iV (akT ab bF g0) (Bj bF g1)
end D
