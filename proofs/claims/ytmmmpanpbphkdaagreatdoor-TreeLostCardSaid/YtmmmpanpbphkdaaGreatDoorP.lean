import Derived.Test.YtmmmpanpbphkdaaGreatDoorPb
set_option linter.unusedVariables false
set_option linter.unusedSimpArgs false
set_option maxRecDepth 100000
open Go Go.X
open Go.IntKind (i64)
namespace D
open Go
open Go
theorem ar1 (l:aq) (ab:l.length<=10^12):BD (l,())=some (l.filter bS,()):=by
 rcases ajd l ab with ⟨s,E⟩|⟨i0,QS,s,E⟩
 ·have e:(decide ((-1:Int)=(-1:Int)))=true:=rfl;simp only[BD,s,cw,ak,E]
 ·have e:(decide ((i0:Int)=(-1:Int)))=false:=bf (by omega);have hW:=e1 i0 (by omega);have hlen: ∀j,((l.take j).filter bS).length<=j:=λj=>Nat.le_trans (hE _ _) (by rw[eG];omega)
  obtain ⟨z,g1,g2⟩:=dM (b:=xw) (λk (d:aq)=>(((((l.take (i0+1+k)).filter bS).length:Nat):Int),((i0+1+k:Nat):Int),d,())) (l.length-(i0+1))
   (λk d=>d.length=l.length/\d.take ((l.take (i0+1+k)).filter bS).length=(l.take (i0+1+k)).filter bS/\d.drop (i0+1+k)=l.drop (i0+1+k)/\((l.take (i0+1+k)).filter bS).length<i0+1+k)
   (λz=> ∃d:aq,z=.inl ((((l.filter bS).length:Nat):Int),d,())/\d.length=l.length/\d.take (l.filter bS).length=l.filter bS) (by omega)
   (λk af d ae=>by
    left;obtain ⟨s1,s2,jq,pB⟩:=ae;obtain ⟨j,an⟩: ∃j,i0+1+k=j:=⟨_,rfl⟩;rw[show i0+1+(k+1)=j+1 by omega];rw[an]at s2 jq pB ⊢;have p7:j<l.length:=by omega
    have ov:j<d.length:=by omega
    have CG:d[j]=l[j]:=by have dY:=lu ov;have a2:=lu p7;rw[jq,a2]at dY;exact (List.cons.inj dY).1.symm
    have Ch:d.drop (j+1)=l.drop (j+1):=by have dY:=lu ov;have a2:=lu p7;rw[jq,a2]at dY;exact (List.cons.inj dY).2.symm
    have L:=fe (i:=j) (l:=d) (by omega);have aa:=dZ j;have a1:=e1 j (by omega);obtain ⟨c,aw⟩: ∃c,((l.take j).filter bS).length=c:=⟨_,rfl⟩;have atH:c<=j:=by rw[<-aw];exact hlen j
    have re:(l.take (j+1)).filter bS=(l.take j).filter bS++[l[j]].filter bS:=by rw[eY p7,List.filter_append]
    cases aT:bS l[j] with
    |false=>
     have nE:(l.take (j+1)).filter bS=(l.take j).filter bS:=by rw[re];simp[aT]
     refine ⟨d,⟨s1,by rw[nE];exact s2,Ch,by rw[nE];omega⟩,?_⟩;rw[nE];simp only[xw,L,aa,ak,bM,bE,bW ov,CG,NT,aT,cK,cP,ax,a1]
    |true=>
     have nE:(l.take (j+1)).filter bS=(l.take j).filter bS++[l[j]]:=by rw[re];simp[aT]
     have ih:((l.take (j+1)).filter bS).length=c+1:=by rw[nE,fr,aw];rfl
     rw[aw]at s2 pB;have bq:=dZ c;have cU:(decide ((c:Int)<((d.length):Int)))=true:=am (by omega);have dp:=e1 c (by omega);refine ⟨d.set c l[j],⟨by rw[List.length_set];exact s1,?_,?_,?_⟩,?_⟩
     ·rw[ih,nE];have p4:c<(d.set c l[j]).length:=by rw[List.length_set];omega
      rw[eY p4,List.take_set_of_le (b7 _),s2];simp
     ·rw[List.drop_set_of_lt (by omega)];exact Ch
     ·rw[ih];omega
     ·rw[ih,aw];simp only[xw,L,aa,bq,cU,ak,bM,bE,bW ov,CG,NT,aT,cP,cK,a1,dp])
   (λd ae=>by
    obtain ⟨s1,s2,jq,pB⟩:=ae;rw[show i0+1+(l.length-(i0+1))=l.length by omega]at s2 jq pB ⊢;rw[eM]at s2 pB ⊢;have L:(decide (((l.length:Nat):Int)<((d.length):Int)))=false:=bf (by omega);exact ⟨_,⟨d,rfl,s1,s2⟩,by simp only[xw,L,ax]⟩) l (by
    refine ⟨rfl,?_,rfl,?_⟩
    ·rw[Nat.add_zero,E,eG,Nat.min_eq_left (by omega)]
    ·rw[Nat.add_zero,E,eG];omega)
  obtain ⟨d,rfl,s1,s2⟩:=g2;have gS:((((l.take (i0+1+0)).filter bS).length:Nat):Int)=(i0:Int):=by rw[Nat.add_zero,E,eG,Nat.min_eq_left (by omega)]
  have j0:Qe ((i0:Int),((i0+1:Nat):Int),l,())=some (.inl ((((l.filter bS).length:Nat):Int),d,())):=by rw[<-gS];exact g1
  have mV:(l.filter bS).length<=l.length:=hE _ _;obtain ⟨c,aw⟩: ∃c,(l.filter bS).length=c:=⟨_,rfl⟩;rw[aw]at j0 s2 mV;have bq:=dZ c;have cU:(decide ((c:Int)<=((d.length):Int)))=true:=am (by omega);have dp:(decide (((d.length):Int)<=((d.length):Int)))=true:=am (Int.le_refl _);have h1: ∀r:aq,(decide ((c:Int)<=((List.length (List.take c d++r)):Int)))=true:=λr=>am (by rw[fr,eG];omega)
  have lG: ∀r:aq,List.take c (List.take c d++r)=l.filter bS:=λr=>by rw[List.take_append_of_le_length (by rw[eG];omega),List.take_take,Nat.min_self,s2]
  simp only[BD,s,e,ax,hW,j0,bq,cU,cw,bM,Bool.true_and,ak,bE,List.append_assoc,h1,lG,dp]
theorem ajc (l:aj) (p:aq) (ab:l.length<=10^12) (aP:p.length<=10^17):
  (xG (l,p,())=some ((-1:Int),l,p,())/\l.filter (dW p)=l)\/ ∃i:Nat,i<l.length/\xG (l,p,())=some ((i:Int),l,p,())/\(l.take (i+1)).filter (dW p)=l.take i:=by
 obtain ⟨z,s,E⟩:=dM (b:=By) (λi (_:G)=>((l.length:Int),(i:Int),l,p,())) l.length (λi _=>(l.take i).filter (dW p)=l.take i) (λz=>(z=.inr (l,p,())/\l.filter (dW p)=l)\/(∃i:Nat,i<l.length/\z=.inl ((i:Int),l,p,())/\(l.take (i+1)).filter (dW p)=l.take i)) (by omega)
  (λi u _ aD=>by
   have L:=fe (i:=i) (l:=l) (by omega);have aa:=dZ i;have a1:=e1 i (by omega);simp only[By,L,aa,ak,bM,bE,bW u,Nr _ _ aP,a1];cases aT:dW p l[i]
   ·refine .inr ⟨_,.inr ⟨i,u,rfl,?_⟩,rfl⟩;rw[eY u,List.filter_append,aD];simp[aT]
   ·refine .inl ⟨(),?_,rfl⟩;rw[eY u,List.filter_append,aD];simp[aT])
  (λ_ aD=>by have L:=ga l;rw[eM]at aD;exact ⟨_,.inl ⟨rfl,aD⟩,by simp only[By,L,ax]⟩) () rfl
 have dq:P6 ((l.length:Int),0,l,p,())=some z:=s;rcases E with ⟨rfl,O⟩|⟨i,u,rfl,O⟩
 ·exact .inl ⟨by simp only[xG,dq],O⟩
 ·exact .inr ⟨i,u,by simp only[xG,dq],O⟩
theorem ar0 (l:aj) (p:aq) (ab:l.length<=10^12) (aP:p.length<=10^17):BC (l,p,())=some (p,l.filter (dW p),()):=by
 rcases ajc l p ab aP with ⟨s,E⟩|⟨i0,QS,s,E⟩
 ·have e:(decide ((-1:Int)=(-1:Int)))=true:=rfl;simp only[BC,s,cw,ak,E]
 ·have e:(decide ((i0:Int)=(-1:Int)))=false:=bf (by omega);have hW:=e1 i0 (by omega);have hlen: ∀j,((l.take j).filter (dW p)).length<=j:=λj=>Nat.le_trans (hE _ _) (by rw[eG];omega)
  obtain ⟨z,g1,g2⟩:=dM (b:=xv) (λk (d:aj)=>(((((l.take (i0+1+k)).filter (dW p)).length:Nat):Int),((i0+1+k:Nat):Int),d,p,())) (l.length-(i0+1))
   (λk d=>d.length=l.length/\d.take ((l.take (i0+1+k)).filter (dW p)).length=(l.take (i0+1+k)).filter (dW p)/\d.drop (i0+1+k)=l.drop (i0+1+k)/\((l.take (i0+1+k)).filter (dW p)).length<i0+1+k)
   (λz=> ∃d:aj,z=.inl ((((l.filter (dW p)).length:Nat):Int),d,p,())/\d.length=l.length/\d.take (l.filter (dW p)).length=l.filter (dW p)) (by omega)
   (λk af d ae=>by
    left;obtain ⟨s1,s2,jq,pB⟩:=ae;obtain ⟨j,an⟩: ∃j,i0+1+k=j:=⟨_,rfl⟩;rw[show i0+1+(k+1)=j+1 by omega];rw[an]at s2 jq pB ⊢;have p7:j<l.length:=by omega
    have ov:j<d.length:=by omega
    have CG:d[j]=l[j]:=by have dY:=lu ov;have a2:=lu p7;rw[jq,a2]at dY;exact (List.cons.inj dY).1.symm
    have Ch:d.drop (j+1)=l.drop (j+1):=by have dY:=lu ov;have a2:=lu p7;rw[jq,a2]at dY;exact (List.cons.inj dY).2.symm
    have L:=fe (i:=j) (l:=d) (by omega);have aa:=dZ j;have a1:=e1 j (by omega);obtain ⟨c,aw⟩: ∃c,((l.take j).filter (dW p)).length=c:=⟨_,rfl⟩;have atH:c<=j:=by rw[<-aw];exact hlen j
    have re:(l.take (j+1)).filter (dW p)=(l.take j).filter (dW p)++[l[j]].filter (dW p):=by rw[eY p7,List.filter_append]
    cases aT:dW p l[j] with
    |false=>
     have nE:(l.take (j+1)).filter (dW p)=(l.take j).filter (dW p):=by rw[re];simp[aT]
     refine ⟨d,⟨s1,by rw[nE];exact s2,Ch,by rw[nE];omega⟩,?_⟩;rw[nE];simp only[xv,L,aa,ak,bM,bE,bW ov,CG,Nr _ _ aP,aT,cK,cP,ax,a1]
    |true=>
     have nE:(l.take (j+1)).filter (dW p)=(l.take j).filter (dW p)++[l[j]]:=by rw[re];simp[aT]
     have ih:((l.take (j+1)).filter (dW p)).length=c+1:=by rw[nE,fr,aw];rfl
     rw[aw]at s2 pB;have bq:=dZ c;have cU:(decide ((c:Int)<((d.length):Int)))=true:=am (by omega);have dp:=e1 c (by omega);refine ⟨d.set c l[j],⟨by rw[List.length_set];exact s1,?_,?_,?_⟩,?_⟩
     ·rw[ih,nE];have p4:c<(d.set c l[j]).length:=by rw[List.length_set];omega
      rw[eY p4,List.take_set_of_le (b7 _),s2];simp
     ·rw[List.drop_set_of_lt (by omega)];exact Ch
     ·rw[ih];omega
     ·rw[ih,aw];simp only[xv,L,aa,bq,cU,ak,bM,bE,bW ov,CG,Nr _ _ aP,aT,cP,cK,a1,dp])
   (λd ae=>by
    obtain ⟨s1,s2,jq,pB⟩:=ae;rw[show i0+1+(l.length-(i0+1))=l.length by omega]at s2 jq pB ⊢;rw[eM]at s2 pB ⊢;have L:(decide (((l.length:Nat):Int)<((d.length):Int)))=false:=bf (by omega);exact ⟨_,⟨d,rfl,s1,s2⟩,by simp only[xv,L,ax]⟩) l (by
    refine ⟨rfl,?_,rfl,?_⟩
    ·rw[Nat.add_zero,E,eG,Nat.min_eq_left (by omega)]
    ·rw[Nat.add_zero,E,eG];omega)
  obtain ⟨d,rfl,s1,s2⟩:=g2;have gS:((((l.take (i0+1+0)).filter (dW p)).length:Nat):Int)=(i0:Int):=by rw[Nat.add_zero,E,eG,Nat.min_eq_left (by omega)]
  have j0:Qd ((i0:Int),((i0+1:Nat):Int),l,p,())=some (.inl ((((l.filter (dW p)).length:Nat):Int),d,p,())):=by rw[<-gS];exact g1
  have mV:(l.filter (dW p)).length<=l.length:=hE _ _;obtain ⟨c,aw⟩: ∃c,(l.filter (dW p)).length=c:=⟨_,rfl⟩;rw[aw]at j0 s2 mV;have bq:=dZ c;have cU:(decide ((c:Int)<=((d.length):Int)))=true:=am (by omega);have dp:(decide (((d.length):Int)<=((d.length):Int)))=true:=am (Int.le_refl _);have h1: ∀r:aj,(decide ((c:Int)<=((List.length (List.take c d++r)):Int)))=true:=λr=>am (by rw[fr,eG];omega)
  have lG: ∀r:aj,List.take c (List.take c d++r)=l.filter (dW p):=λr=>by rw[List.take_append_of_le_length (by rw[eG];omega),List.take_take,Nat.min_self,s2]
  simp only[BC,s,e,ax,hW,j0,bq,cU,cw,bM,Bool.true_and,ak,bE,List.append_assoc,h1,lG,dp]
theorem Oe (t:aj) (ar:aq) (aT:t.length<10^12) (k9:ar.length<=10^17):ze (t,ar,())=some (t.filter (dW ar),()):=by simp only[ze,FG t aT,ar0 t ar (by omega) k9]
def db (l:aq) (k:M):Bool:=l.any λd=>b9 d k
theorem nM (a b:aq) (k:M):db (a++b) k=(db a k||db b k):=List.any_append
theorem lh (d:aK) (k:M):db [d] k=b9 d k:=by simp[db]
def fo (B:Nat) (l:aq):Prop:= ∀d∈l,d.1.length<=B/\d.2.1.length<=B
abbrev ahH (a b:aK):Prop:=a.2.1≠[]/\Op.bytesLess a.2.1 b.1=true
structure nU (l:aq):Prop where
 ne: ∀d∈l,jw d=false
 gp:l.Pairwise ahH
theorem F4 {d:aK}:jw d=false↔(d.2.1=[]\/Op.bytesLess d.1 d.2.1=true):=by
 unfold jw;by_cases h:d.2.1=[]
 ·rw[am h];simp[h]
 ·rw[bf h];rcases h0 d.1 d.2.1 with E |E |E
  ·have O:decide (d.2.1=d.1)=false:=bf (λe=>lT E e.symm);simp[E,d9 E,O]
  ·simp[h,E,hJ]
  ·simp[h,E,d9 E]
theorem abw {d:aK} (h:jw d=true) (k:M):b9 d k=false:=by
 cases bC:b9 d k
 ·rfl
 ·obtain ⟨s,E⟩:=fP.1 bC;have:jw d=false:=F4.2 (by
   rcases E with E |E
   ·exact .inl E
   ·right;rcases h0 d.1 k with O |O |O
    ·exact fZ O E
    ·rw[O];exact E
    ·rw[s]at O;cases O)
  rw[h]at this;cases this
theorem apN (l:aq) (k:M):db (l.filter bS) k=db l k:=by
 unfold db
 induction l with
 |nil=>rfl
 |cons d l aQ=>
  rw[List.filter_cons,List.any_cons];cases h:bS d
  ·have:jw d=true:=by unfold bS at h;simpa using h
   rw[if_neg (by simp),aQ,abw this,Bool.false_or]
  ·rw[if_pos rfl,List.any_cons,aQ]
theorem aru {a b:aq} (h:a.Perm b) (k:M):db a k=db b k:=by
 unfold db;rw[Bool.eq_iff_iff,List.any_eq_true,List.any_eq_true];constructor
 ·rintro ⟨d,ae,af⟩;exact ⟨d,h.mem_iff.1 ae,af⟩
 ·rintro ⟨d,ae,af⟩;exact ⟨d,h.mem_iff.2 ae,af⟩
theorem arF {a d:aK} (s:Op.bytesLess d.1 a.1=false) (E:Op.bytesLess a.2.1 d.1=false) (O:iA a.2.1 d.2.1=true) (k:M):b9 (a.1,d.2.1,()) k=(b9 a k||b9 d k):=by
 unfold iA at O;rw[bN,eJ,decide_eq_false_iff_not,Bool.or_eq_true,dJ]at O;obtain ⟨aC,ba⟩:=O;rw[Bool.eq_iff_iff,Bool.or_eq_true,fP,fP,fP];show (Op.bytesLess k a.1=false/\(d.2.1=[]\/Op.bytesLess k d.2.1=true))↔_;constructor
 ·rintro ⟨bb,aU⟩;cases af:Op.bytesLess k a.2.1
  ·exact .inr ⟨oG E af,aU⟩
  ·exact .inl ⟨bb,.inr rfl⟩
 ·rintro (⟨bb,aU⟩|⟨bb,aU⟩)
  ·refine ⟨bb,?_⟩;rcases aU with aU |aU
   ·exact absurd aU aC
   ·rcases ba with ba |ba
    ·exact .inl ba
    ·exact .inr (fZ aU ba)
  ·exact ⟨oG s bb,aU⟩
theorem arh {a d:aK} (s:Op.bytesLess d.1 a.1=false) (O:iA a.2.1 d.2.1=false) (k:M):b9 a k=(b9 a k||b9 d k):=by
 have:b9 d k=true->b9 a k=true:=by
  intro af;refine OF ?_ af;unfold u0;rw[s];unfold iA at O;by_cases e:a.2.1=[]
  ·rw[am e];rfl
  ·rw[bf e]at O ⊢;simp only[cK,Bool.true_and,Bool.or_eq_false_iff]at O;simp[O.1,O.2]
 cases h:b9 d k
 ·rw[Bool.or_false]
 ·rw[this h];rfl
theorem arI (m:aq) (ae:Uf m) (cC: ∀d∈m,jw d=false) (ab:m.length<10^12) (B:Nat) (di:fo B m):
  ∃r,M1 ((m.length:Int),(0:Int),[],m,())=some (.inl (r,()))/\(∀k,db r k=db m k)/\r.length<=m.length/\nU r/\fo B r:=by
 obtain ⟨z,s,r,rfl,E⟩:=dM (b:=tj) (λi (o:aq)=>((m.length:Int),(i:Int),o,m,())) m.length
  (λi o=>(∀k,db o k=db (m.take i) k)/\o.length<=i/\nU o/\fo B o/\((i=0/\o=[])\/ ∃p a,o=p++[a]/\ ∃j,∃an:j<m.length,j<i/\a.1=m[j].1))
  (λz=> ∃r,z=.inl (r,())/\(∀k,db r k=db m k)/\r.length<=m.length/\nU r/\fo B r) (by omega)
  (λi u o W=>by
   left;obtain ⟨fE,jE,yC,ql,C7⟩:=W;have L:=fe (i:=i) (l:=m) (by omega);have b6:(decide ((0:Int)<=((i:Nat):Int)))=true:=am (by omega);have w:=fO (j:=i) (by omega);have ny:=dz u;have Ie: ∀k,db (m.take (i+1)) k=(db (m.take i) k||b9 m[i] k):=by intro k;rw[eY u,nM,lh]
   have room: ∀o:aq,o.length<=i->(decide ((o.length+List.length ([m[i]]:List (aK)))*32<=bp))=true:=λo h=>am (by rw[ek];simp;omega)
   rcases C7 with ⟨rfl,rfl⟩|⟨p,a,rfl,j,an,pk,Qz⟩
   ·refine ⟨[m[0]],⟨λk=> ?_,by simp,⟨λd ae=> ?_,List.pairwise_singleton _ _⟩,λd ae=> ?_,.inr ⟨[],m[0],rfl,0,u,by omega,rfl⟩⟩,?_⟩
    ·rw[Ie k];simp[db]
    ·obtain rfl:=fJ.1 ae;exact cC _ ny
    ·obtain rfl:=fJ.1 ae;exact di _ ny
    ·have aa:(!decide ((((List.length ([]:aq)):Int):Int)=(0:Int)))=false:=rfl;have Q:=room [] (by simp);simp only[tj,vE,L,b6,bM,ak,bE,bW u,aa,ax,Q,w,List.nil_append]
   ·have x1: ∀I,List.getD (p++[a]) p.length I=a:=λI=>FI (P:=p) (bD:=[]) rfl
    have hlen:(p++[a]).length=p.length+1:=by simp
    have aa:(!decide ((((List.length (p++[a])):Int):Int)=(0:Int)))=true:=by rw[bf (by omega)];rfl
    have dn:i64.wrap (((List.length (p++[a])):Int)-1)=(p.length:Int):=by rw[cI (by omega)];omega
    have kJ:p.length<(p++[a]).length:=by omega
    have fa:Op.bytesLess m[i].1 a.1=false:=by rw[Qz];exact List.pairwise_iff_getElem.1 ae j i an u pk
    obtain ⟨ne,gp⟩:=yC;have Qh:=List.pairwise_append.1 gp;have app:a.2.1≠[]->Op.bytesLess a.2.1 m[i].1=true->((∀k,db (p++[a]++[m[i]]) k=db (m.take (i+1)) k)/\(p++[a]++[m[i]]).length<=i+1/\nU (p++[a]++[m[i]])/\fo B (p++[a]++[m[i]])/\((i+1=0/\(p++[a]++[m[i]])=[])\/ ∃hf bn,(p++[a]++[m[i]])=hf++[bn]/\ ∃j,∃an:j<m.length,j<i+1/\bn.1=m[j].1)):=by
     intro g1 g2;refine ⟨λk=>by rw[nM,fE k,lh,Ie k],by simp at jE ⊢;omega,⟨λd ae=> ?_,?_⟩,λd ae=> ?_,.inr ⟨p++[a],m[i],rfl,i,u,by omega,rfl⟩⟩
     ·rcases dk.1 ae with h |h
      ·exact ne d h
      ·obtain rfl:=fJ.1 h;exact cC _ ny
     ·refine List.pairwise_append.2 ⟨gp,List.pairwise_singleton _ _,λx ai y bo=> ?_⟩;obtain rfl:=fJ.1 bo;rcases dk.1 ai with h |h
      ·obtain ⟨bj,bG⟩:=Qh.2.2 x h a (fJ.2 rfl);refine ⟨bj,?_⟩;rcases h0 a.1 m[i].1 with ba |ba |ba
       ·exact fZ bG ba
       ·rw[<-ba];exact bG
       ·rw[fa]at ba;cases ba
      ·obtain rfl:=fJ.1 h;exact ⟨g1,g2⟩
     ·rcases dk.1 ae with h |h
      ·exact ql d h
      ·obtain rfl:=fJ.1 h;exact di _ ny
    have join:(a.2.1=[]\/Op.bytesLess a.2.1 m[i].1=false)-> ∃t,Tx (((List.length (p++[a])):Int),(m.length:Int),(i:Int),p++[a],m[i],m,())=some (.inl ((m.length:Int),((i+1:Nat):Int),t,m,()))/\
      ((∀k,db t k=db (m.take (i+1)) k)/\t.length<=i+1/\nU t/\fo B t/\((i+1=0/\t=[])\/ ∃hf bn,t=hf++[bn]/\ ∃j,∃an:j<m.length,j<i+1/\bn.1=m[j].1)):=by
     intro g;obtain ⟨c,oq,lK⟩:=aaM a.2.1 m[i].2.1;simp only[Tx,dn,eE kJ,ak,bE,x1,oq,lK,w];cases hle:iA a.2.1 m[i].2.1
     ·refine ⟨_,rfl,λk=> ?_,by omega,⟨ne,gp⟩,ql,.inr ⟨p,a,rfl,j,an,by omega,Qz⟩⟩;rw[Ie k,<-fE k,nM,lh,Bool.or_assoc,<-arh fa hle k]
     ·have g2:Op.bytesLess a.2.1 m[i].1=false:=by
       rcases g with g |g
       ·unfold iA at hle;rw[am g]at hle;cases hle
       ·exact g
      have lg:(p++[a]).set p.length (a.1,m[i].2.1,a.2.2)=p++[(a.1,m[i].2.1,())]:=by simp
      refine ⟨p++[(a.1,m[i].2.1,())],by rw[<-lg];rfl,λk=> ?_,by simp at jE ⊢;omega,⟨λd ae=> ?_,?_⟩,λd ae=> ?_,.inr ⟨p,_,rfl,j,an,by omega,Qz⟩⟩
      ·have:=fE k;rw[nM,lh]at this;rw[Ie k,<-this,nM,lh,arF fa g2 hle k,Bool.or_assoc]
      ·rcases dk.1 ae with h |h
       ·exact ne d (List.mem_append_left _ h)
       ·obtain rfl:=fJ.1 h;have aS:=F4.1 (ne a (by simp));unfold iA at hle;rw[bN,eJ,decide_eq_false_iff_not,Bool.or_eq_true,dJ]at hle;refine F4.2 ?_;rcases hle.2 with ba |ba
        ·exact .inl ba
        ·rcases aS with bF |bF
         ·exact absurd bF hle.1
         ·exact .inr (fZ bF ba)
      ·refine List.pairwise_append.2 ⟨Qh.1,List.pairwise_singleton _ _,λx ai y bo=> ?_⟩;obtain rfl:=fJ.1 bo;exact Qh.2.2 x ai a (fJ.2 rfl)
      ·rcases dk.1 ae with h |h
       ·exact ql d (List.mem_append_left _ h)
       ·obtain rfl:=fJ.1 h;exact ⟨(ql a (by simp)).1,(di _ ny).2⟩
    have Q:=room (p++[a]) jE;by_cases bC:a.2.1=[]
    ·obtain ⟨t,t1,t2⟩:=join (.inl bC);have a1:(!decide ((a.2.1:M)=([]:M)))=false:=by rw[am bC];rfl
     refine ⟨t,t2,?_⟩;simp only[tj,vE,L,b6,bM,ak,bE,bW u,aa,dn,eE kJ,x1,bC,cw,cP,ax];exact t1
    ·cases bd:Op.bytesLess a.2.1 m[i].1
     ·obtain ⟨t,t1,t2⟩:=join (.inr bd);refine ⟨t,t2,?_⟩;simp only[tj,vE,L,b6,bM,ak,bE,bW u,aa,dn,eE kJ,x1,bC,decide_false,cK,bd,ax];exact t1
     ·refine ⟨p++[a]++[m[i]],app bC bd,?_⟩;simp only[tj,vE,L,b6,bM,ak,bE,bW u,aa,dn,eE kJ,x1,bC,decide_false,cK,bd,Q,w])
  (λo W=>by obtain ⟨fE,jE,yC,ql,C7⟩:=W;have L:=ga m;refine ⟨_,⟨o,rfl,λk=> ?_,jE,yC,ql⟩,by simp only[tj,L,ax]⟩;rw[fE k,eM]) [] ⟨λk=>by simp,by simp,⟨λd ae=>(by cases ae),List.Pairwise.nil⟩,λd ae=>(by cases ae),.inl ⟨rfl,rfl⟩⟩
 exact ⟨r,s,E⟩
theorem Gv (l:aq) (ab:l.length<10^12) (B:Nat) (di:fo B l):
  ∃r,wm (l,())=some (r,())/\(∀k,db r k=db l k)/\r.length<=l.length/\nU r/\fo B r:=by
 have L:HI (l,())=some (l,()):=by
  unfold HI;have:(List.length ([]:aq)+l.length)*32<=bp:=by rw[ek];simp;omega
  simp only[this,am,ak]
 have aa:=ar1 l (by omega);have mV:(l.filter bS).length<=l.length:=hE _ _;obtain ⟨m,a1,aP,ae⟩:=asq (l.filter bS) (by omega);have j6:m.length=(l.filter bS).length:=aP.length_eq;have qa: ∀d∈m,d∈l/\bS d=true:=λd h=>eV.1 (aP.mem_iff.1 h)
 obtain ⟨r,bq,s,E,O,aC⟩:=arI m ae (λd h=>by have:=(qa d h).2;unfold bS at this;simpa using this) (by omega) B (λd h=>di d (qa d h).1)
 exact ⟨r,by simp only[wm,L,aa,a1,bq],λk=>by rw[s,aru aP,apN],by omega,O,aC⟩
theorem Aq (a b:aK) (k:M):b9 (hB a b) k=(b9 a k&&b9 b k):=by
 cases h:ke a b
 ·have e:hB a b=([97],([97],())):=by unfold hB;rw[h];rfl
  rw[e,abw (by decide)];cases s:b9 a k
  ·rfl
  ·cases E:b9 b k
   ·rfl
   ·rw[A0.2 ⟨k,s,E⟩]at h;cases h
 ·rw[Bool.eq_iff_iff,bN];exact arE h
theorem aiz (a b:M):k0 a b=a\/k0 a b=b:=by
 unfold k0;cases Op.bytesLess a b
 ·exact .inl rfl
 ·exact .inr rfl
theorem arB (a b:M):kb a b=a\/kb a b=b:=by
 unfold kb;cases iA b a
 ·exact .inl rfl
 ·exact .inr rfl
theorem at9 {a b:aK} {B:Nat} (s:1<=B) (aS:a.1.length<=B/\a.2.1.length<=B) (J:b.1.length<=B/\b.2.1.length<=B):(hB a b).1.length<=B/\(hB a b).2.1.length<=B:=by
 unfold hB;cases ke a b
 ·simp;omega
 ·show (k0 a.1 b.1).length<=B/\(kb a.2.1 b.2.1).length<=B;refine ⟨?_,?_⟩
  ·rcases aiz a.1 b.1 with e |e<;>rw[e]
   ·exact aS.1
   ·exact J.1
  ·rcases arB a.2.1 b.2.1 with e |e<;>rw[e]
   ·exact aS.2
   ·exact J.2
theorem ai7 (r:aq) (aR:nU r) (ab:r.length<10^12) (B:Nat) (di:fo B r):
  ∃g,Aw (r,())=some (g,())/\(∀k,db g k= !db r k)/\g.length<=r.length+1/\fo B g:=by
 have H4: ∀k:M,Op.bytesLess k []=false:=λk=>by cases k<;>rfl
 have asC:(∀k,db ([]:aq) k=true↔(db (r.take 0) k=false/\Op.bytesLess k []=true))/\([]:aq).length<=0/\fo B []/\([]:M).length<=B/\(∀d∈r.drop 0,Op.bytesLess d.1 []=false)/\(∀d∈r.take 0,d.2.1≠[]/\Op.bytesLess [] d.2.1=false)/\(0=0->([]:M)=[]):=by refine ⟨λk=> ?_,b7 _,λd ae=>(by cases ae),Nat.zero_le _,λd ae=>H4 _,λd ae=>(by simp at ae),λ_=>rfl⟩;rw[H4 k];simp[db]
 obtain ⟨z,s,E⟩:=dM (b:=tk) (λi (q:M×aq)=>(q.1,r,(r.length:Int),(i:Int),q.2,())) r.length
  (λi q=>(∀k,db q.2 k=true↔(db (r.take i) k=false/\Op.bytesLess k q.1=true))/\q.2.length<=i/\fo B q.2/\q.1.length<=B/\(∀d∈r.drop i,Op.bytesLess d.1 q.1=false)/\(∀d∈r.take i,d.2.1≠[]/\Op.bytesLess q.1 d.2.1=false)/\(i=0->q.1=[]))
  (λz=>(∃g,z=.inl (g,())/\(∀k,db g k= !db r k)/\g.length<=r.length+1/\fo B g)\/(∃aM g,z=.inr (aM,g,())/\(∀k,db (g++[(aM,[],())]) k= !db r k)/\g.length<=r.length/\fo B (g++[(aM,[],())]))) (by omega)
  (λi u q aD=>by
   obtain ⟨aM,o⟩:=q;obtain ⟨bj,bG,dm,cJ,fW,hU,m8⟩:=aD;simp only at bj bG dm cJ fW hU m8;have L:=fe (i:=i) (l:=r) (by omega);have b6:(decide ((0:Int)<=((i:Nat):Int)))=true:=am (by omega);have w:=fO (j:=i) (by omega);have ny:=dz u;have al:r.drop i=r[i]::r.drop (i+1):=lu u;have room:(decide ((o.length+List.length ([(aM,r[i].1,())]:List (aK)))*32<=bp))=true:=am (by rw[ek];simp;omega);have fa:Op.bytesLess r[i].1 aM=false:=fW _ (by rw[al];exact gh);have cC:=F4.1 (aR.ne _ ny);have jy: ∀k,db (r.take (i+1)) k=(db (r.take i) k||b9 r[i] k):=by intro k;rw[eY u,nM,lh]
   have before: ∀k,Op.bytesLess k r[i].1=true->b9 r[i] k=false:=by
    intro k af;cases h:b9 r[i] k
    ·rfl
    ·rw[(fP.1 h).1]at af;cases af
   have after: ∀k,Op.bytesLess k aM=false->db (r.take i) k=false:=by
    intro k af;unfold db;rw[List.any_eq_false];intro d ae h;obtain ⟨g1,g2⟩:=hU d ae;rcases (fP.1 h).2 with h |h
    ·exact g1 h
    ·have:=oG g2 af;rw[this]at h;cases h
   have afZ: ∀k,Op.bytesLess k aM=true->Op.bytesLess k r[i].1=true:=by
    intro k af;rcases h0 aM r[i].1 with h |h |h
    ·exact fZ af h
    ·rw[<-h];exact af
    ·rw[fa]at h;cases h
   have adp: ∀dQ:aq,(dQ=o++[(aM,r[i].1,())]/\r[i].1≠[]\/dQ=o/\r[i].1=[])-> ∀k,db dQ k=true↔(db (r.take (i+1)) k=false/\(r[i].2.1=[]\/Op.bytesLess k r[i].2.1=true)):=by
    intro dQ iy k;rw[jy k,Bool.or_eq_false_iff];rcases iy with ⟨rfl,aut⟩|⟨rfl,mT⟩
    ·rw[nM,lh,Bool.or_eq_true,bj k,fP];show _\/(Op.bytesLess k aM=false/\(r[i].1=[]\/Op.bytesLess k r[i].1=true))↔_;constructor
     ·rintro (⟨O,aC⟩|⟨O,aC⟩)
      ·have ba:=afZ k aC;refine ⟨⟨O,before k ba⟩,?_⟩;rcases cC with h |h
       ·exact .inl h
       ·exact .inr (fZ ba h)
      ·have ba:=aC.resolve_left aut;refine ⟨⟨after k O,before k ba⟩,?_⟩;rcases cC with h |h
       ·exact .inl h
       ·exact .inr (fZ ba h)
     ·rintro ⟨⟨O,aC⟩,ba⟩;have bF:Op.bytesLess k r[i].1=true:=by
       cases dN:Op.bytesLess k r[i].1
       ·rw[fP.2 ⟨dN,ba⟩]at aC;cases aC
       ·rfl
      cases ig:Op.bytesLess k aM
      ·exact .inr ⟨rfl,.inr bF⟩
      ·exact .inl ⟨O,rfl⟩
    ·rw[bj k];have auk: ∀k,Op.bytesLess k aM=true->False:=by intro k af;have:=afZ k af;rw[mT]at this;cases k<;>cases this
     constructor
     ·rintro ⟨O,aC⟩;exact (auk k aC).elim
     ·rintro ⟨⟨O,aC⟩,ba⟩;have:b9 r[i] k=true:=fP.2 ⟨by rw[mT];cases k<;>rfl,ba⟩;rw[this]at aC;cases aC
   have tail:r[i].2.1=[]->r.take (i+1)=r:=by
    intro h;rcases Nat.lt_or_ge (i+1) r.length with E |E
    ·have:=List.pairwise_iff_getElem.1 aR.gp i (i+1) u E (by omega);exact absurd h this.1
    ·exact h8 E
   have done: ∀dQ:aq,(dQ=o++[(aM,r[i].1,())]/\r[i].1≠[]\/dQ=o/\r[i].1=[])->r[i].2.1=[]->(∀k,db dQ k= !db r k):=by
    intro dQ iy h k;have:=adp dQ iy k;rw[tail h]at this;cases af:db r k
    ·exact this.2 ⟨af,.inl h⟩
    ·cases W:db dQ k
     ·rfl
     ·rw[(this.1 W).1]at af;cases af
   have go: ∀dQ:aq,(dQ=o++[(aM,r[i].1,())]/\r[i].1≠[]\/dQ=o/\r[i].1=[])->r[i].2.1≠[]->(dQ.length<=i+1/\fo B dQ)->
     ((∀k,db dQ k=true↔(db (r.take (i+1)) k=false/\Op.bytesLess k r[i].2.1=true))/\dQ.length<=i+1/\fo B dQ/\r[i].2.1.length<=B/\(∀d∈r.drop (i+1),Op.bytesLess d.1 r[i].2.1=false)/\(∀d∈r.take (i+1),d.2.1≠[]/\Op.bytesLess r[i].2.1 d.2.1=false)/\(i+1=0->r[i].2.1=[])):=by
    intro dQ iy h ⟨O,aC⟩;refine ⟨λk=> ?_,O,aC,(di _ ny).2,λd ae=> ?_,λd ae=> ?_,λh=>(by omega)⟩
    ·rw[adp dQ iy k];constructor
     ·rintro ⟨a,b⟩;exact ⟨a,b.resolve_left h⟩
     ·rintro ⟨a,b⟩;exact ⟨a,.inr b⟩
    ·obtain ⟨j,an,rfl⟩:=List.mem_iff_getElem.1 ae;rw[List.length_drop]at an;rw[List.getElem_drop];have:=List.pairwise_iff_getElem.1 aR.gp i (i+1+j) u (by omega) (by omega);exact d9 this.2
    ·rw[eY u]at ae;rcases dk.1 ae with ae |ae
     ·obtain ⟨g1,g2⟩:=hU d ae;refine ⟨g1,?_⟩;have ba:=cC.resolve_left h;exact oG g2 (oG fa (d9 ba))
     ·obtain rfl:=fJ.1 ae;exact ⟨h,hJ _⟩
   by_cases q7:r[i].1=[]
   ·have aa:(!decide ((r[i].1:M)=([]:M)))=false:=by rw[am q7];rfl
    by_cases jg:r[i].2.1=[]
    ·right;refine ⟨_,.inl ⟨o,rfl,done o (.inr ⟨rfl,q7⟩) jg,by omega,dm⟩,?_⟩;simp only[tk,L,b6,bM,ak,bE,bW u,q7,jg,cw,cP,ax]
    ·left;refine ⟨(r[i].2.1,o),go o (.inr ⟨rfl,q7⟩) jg ⟨by omega,dm⟩,?_⟩;simp only[tk,L,b6,bM,ak,bE,bW u,q7,jg,cw,decide_false,cP,ax,w]
   ·have Cj:fo B (o++[(aM,r[i].1,())]):=by
     intro d ae;rcases dk.1 ae with h |h
     ·exact dm d h
     ·obtain rfl:=fJ.1 h;exact ⟨cJ,(di _ ny).1⟩
    by_cases jg:r[i].2.1=[]
    ·right;refine ⟨_,.inl ⟨o++[(aM,r[i].1,())],rfl,done _ (.inl ⟨rfl,q7⟩) jg,by simp;omega,Cj⟩,?_⟩;simp only[tk,L,b6,bM,ak,bE,bW u,q7,jg,cw,decide_false,cK,ax,room]
    ·left;refine ⟨(r[i].2.1,o++[(aM,r[i].1,())]),go _ (.inl ⟨rfl,q7⟩) jg ⟨by simp;omega,Cj⟩,?_⟩;simp only[tk,L,b6,bM,ak,bE,bW u,q7,jg,cw,decide_false,cK,ax,room,w])
  (λq aD=>by
   obtain ⟨aM,o⟩:=q;obtain ⟨bj,bG,dm,cJ,fW,hU,m8⟩:=aD;simp only at bj bG dm cJ fW hU m8;have L:=ga r;rw[eM]at bj hU;refine ⟨_,.inr ⟨aM,o,rfl,λk=> ?_,bG,λd ae=> ?_⟩,by simp only[tk,L,ax]⟩
   ·rw[nM,lh,Bool.eq_iff_iff,Bool.or_eq_true,bj k,fP,eJ];show _\/(Op.bytesLess k aM=false/\(([]:M)=[]\/_))↔_;constructor
    ·rintro (⟨O,-⟩|⟨O,-⟩)
     ·exact O
     ·unfold db;rw[List.any_eq_false];intro d ae h;obtain ⟨g1,g2⟩:=hU d ae;rcases (fP.1 h).2 with h |h
      ·exact g1 h
      ·have:=oG g2 O;rw[this]at h;cases h
    ·intro h;cases af:Op.bytesLess k aM
     ·exact .inr ⟨rfl,.inl rfl⟩
     ·exact .inl ⟨h,rfl⟩
   ·rcases dk.1 ae with h |h
    ·exact dm d h
    ·obtain rfl:=fJ.1 h;exact ⟨cJ,by simp⟩) ([],[]) asC
 have dq:M4 (([]:M),r,(r.length:Int),(0:Int),[],())=some z:=s;rcases E with ⟨g,rfl,O,aC,ba⟩|⟨aM,g,rfl,O,aC,ba⟩
 ·exact ⟨g,by simp only[Aw,dq],O,aC,ba⟩
 ·have room:(decide ((g.length+List.length ([(aM,[],())]:List (aK)))*32<=bp))=true:=am (by rw[ek];simp;omega);exact ⟨g++[(aM,[],())],by simp only[Aw,dq,room,ak],O,by simp;omega,ba⟩
theorem N0 {α:Type} (ar:List (List α)) (c:Nat) (h: ∀a∈ar,a.length<=c):ar.flatten.length<=ar.length*c:=by
 induction ar with
 |nil=>simp
 |cons a ar aQ=>
  rw[List.flatten_cons,fr,gn];have s:=h a gh;have E:=aQ (λb J=>h b (gO _ J));rw[Nat.add_mul];omega
theorem ail (l g:aq) (n i:Nat) (ar:aq) (o:aq) (x:aK) (gs:aq) (ab:l.length<1000000000) (W:o.length+l.length<10^12):
  Md (l,(n:Int),(i:Int),l,(l.length:Int),(0:Int),o,x,gs,())=some (.inl (l,(n:Int),(i:Int),o++l.map (hB x),gs,())):=by
 obtain ⟨z,s,rfl⟩:=dM (b:=DL) (λj (q:aq)=>(l,(n:Int),(i:Int),l,(l.length:Int),(j:Int),q,x,gs,())) l.length (λj q=>q=o++(l.take j).map (hB x)) (λz=>z=.inl (l,(n:Int),(i:Int),o++l.map (hB x),gs,())) (by omega)
  (λj an q aD=>by left;have L:=fe (i:=j) (l:=l) (by omega);have b6:(decide ((0:Int)<=((j:Nat):Int)))=true:=am (by omega);have w:=fO (j:=j) (by omega);have room:(decide ((q.length+List.length ([hB x l[j]]:List (aK)))*32<=bp))=true:=am (by rw[ek,aD];simp;omega);refine ⟨q++[hB x l[j]],by rw[aD,eY an,List.map_append,List.append_assoc];rfl,?_⟩;simp only[DL,L,b6,bM,ak,bE,bW an,Fe,room,w])
  (λq aD=>by have L:=ga l;rw[eM]at aD;exact ⟨_,rfl,by simp only[DL,L,ax,aD]⟩) o (by simp)
 exact s
theorem aik (l m:aq) (ab:l.length<1000000000) (hm:m.length<100) (B:Nat) (s:1<=B) (di:fo B l) (km:fo B m):
  ∃r,FD (l,m,())=some (r,())/\(∀k,db r k=(db l k&& !db m k))/\r.length<=(m.length+1)*l.length/\nU r/\fo B r:=by
 obtain ⟨n,L,c8,dP,n3,n4⟩:=Gv m (by omega) B km;obtain ⟨g,aa,g1,g2,g3⟩:=ai7 n n3 (by omega) B n4;have hmul:g.length*l.length<=(m.length+1)*l.length:=gW _ (by omega);have ayJ:(m.length+1)*l.length<=100*l.length:=gW _ (by omega);obtain ⟨z,E,rfl⟩:=dM (b:=DK) (λi (q:aq)=>(l,(g.length:Int),(i:Int),q,g,())) g.length (λi q=>q=(g.take i).flatMap λx=>l.map (hB x)) (λz=>z=.inl (g.flatMap (λx=>l.map (hB x)),())) (by omega)
  (λi u q aD=>by
   left;have L:=fe (i:=i) (l:=g) (by omega);have b6:(decide ((0:Int)<=((i:Nat):Int)))=true:=am (by omega);have w:=fO (j:=i) (by omega);have aen:q.length<=i*l.length:=by
    rw[aD,List.flatMap_def];have:=N0 ((g.take i).map λx=>l.map (hB x)) l.length (by intro a aS;obtain ⟨x,-,rfl⟩:=List.mem_map.1 aS;simp)
    rw[List.length_map,eG]at this;exact Nat.le_trans this (gW _ (by omega))
   have q4:i*l.length<=100*l.length:=gW _ (by omega);have a1:=ail l g g.length i l q g[i] g ab (by omega);refine ⟨q++l.map (hB g[i]),by rw[eY u,List.flatMap_append,<-aD];simp,?_⟩;simp only[DK,L,b6,bM,ak,bE,bW u,a1,w])
  (λq aD=>by have L:=ga g;rw[eM]at aD;exact ⟨_,rfl,by simp only[DK,L,ax,aD]⟩) [] (by simp)
 have hM:Mc (l,(g.length:Int),(0:Int),[],g,())=_:=E;have mV:(g.flatMap λx=>l.map (hB x)).length<=g.length*l.length:=by
  rw[List.flatMap_def];have:=N0 (g.map λx=>l.map (hB x)) l.length (by intro a aS;obtain ⟨x,-,rfl⟩:=List.mem_map.1 aS;simp)
  rw[List.length_map]at this;exact this
 obtain ⟨r,bq,ah,aJ,bR,cB⟩:=Gv (g.flatMap λx=>l.map (hB x)) (by omega) B (by intro d ae;obtain ⟨x,ai,ae⟩:=List.mem_flatMap.1 ae;obtain ⟨y,bo,rfl⟩:=List.mem_map.1 ae;exact at9 s (g3 x ai) (di y bo))
 refine ⟨r,by simp only[FD,L,aa,hM,bq],λk=> ?_,by omega,bR,cB⟩;rw[ah k,<-c8 k,<-g1 k];unfold db;rw[Bool.eq_iff_iff,bN,List.any_eq_true,List.any_eq_true,List.any_eq_true];constructor
 ·rintro ⟨d,ae,af⟩;obtain ⟨x,ai,ae⟩:=List.mem_flatMap.1 ae;obtain ⟨y,bo,rfl⟩:=List.mem_map.1 ae;rw[Aq,bN]at af;exact ⟨⟨y,bo,af.2⟩,x,ai,af.1⟩
 ·rintro ⟨⟨y,bo,O⟩,x,ai,aC⟩;refine ⟨hB x y,List.mem_flatMap.2 ⟨x,ai,List.mem_map.2 ⟨y,bo,rfl⟩⟩,?_⟩;rw[Aq,aC,O];rfl
theorem uB {p:M} (h:p∈e0):(dF p).2.1≠[]/\(dF p).1=p/\(dF p).2.1.length<=4/\Op.bytesLess p (dF p).2.1=true:=by
 have s:e0.all (λp=> !decide ((dF p).2.1=[])&&decide ((dF p).2.1.length<=4)&&Op.bytesLess p (dF p).2.1)=true:=by kernel_rfl
 have:=fy.1 s p h;rw[bN,bN,eJ,decide_eq_false_iff_not,dJ]at this;exact ⟨this.1.1,rfl,this.1.2,this.2⟩
theorem nL {p:M} (h:p∈e0) (k:M):b9 (dF p) k=bV k p:=by obtain ⟨-,-,O⟩:=kO p (kk p h);exact w3 O k
theorem aio {x y:aK} {t f:M} (aT:t∈e0) (aL:f∈e0) (ai:x=hB y (dF t)) (cC:ke y (dF t)=true) {B:Nat} (di:x.1.length<=B/\x.2.1.length<=B) (km:B<=10^5) (sO:4<=B):
  ∃r,y6 (x,t,f,())=some (r,())/\(r.1.length<=B+4/\r.2.1.length<=B+4)/\ ∀k,b9 r k=true↔(bV k f=true/\b9 x (fD f t k)=true):=by
 obtain ⟨t1,t2,t3,t4⟩:=uB aT;obtain ⟨f1,f2,f3,f4⟩:=uB aL;obtain ⟨bb,j5,jM⟩:=A0.1 cC;have ri:b9 x bb=true:=by rw[ai,Aq,j5,jM];rfl
 have au8: ∀k,b9 x k=true->bV k t=true:=by intro k af;rw[ai,Aq,bN]at af;rw[<-nL aT];exact af.2
 have ex:x=(k0 y.1 (dF t).1,(kb y.2.1 (dF t).2.1,())):=by rw[ai];unfold hB;rw[cC];rfl
 have fa:x.1=k0 y.1 t:=by rw[ex];show k0 y.1 (dF t).1=_;rw[t2]
 have jg:x.2.1=kb y.2.1 (dF t).2.1:=by rw[ex]
 obtain ⟨dY,a2⟩:=fP.1 ri;have adu:x.2.1≠[]:=by
  rw[jg];unfold kb;cases ab:iA (dF t).2.1 y.2.1
  ·show y.2.1≠[];intro e;unfold iA at ab;rw[bf t1,e]at ab;cases ab
  ·exact t1
 have a2:=a2.resolve_left adu;have atc:Op.bytesLess (dF t).2.1 x.2.1=false:=by
  rw[jg];unfold kb;cases ab:iA (dF t).2.1 y.2.1
  ·show Op.bytesLess (dF t).2.1 y.2.1=false;unfold iA at ab;rw[bf t1]at ab;simp only[cK,Bool.true_and,Bool.or_eq_false_iff]at ab;exact ab.2
  ·exact hJ _
 have ati:Op.bytesLess x.1 t=false:=by rw[fa];have:=(Gd (a:=y.1) (b:=t) (k:=k0 y.1 t)).1 (hJ _);exact this.2
 have adx:Op.bytesLess x.1 x.2.1=true:=by
  rcases h0 x.1 bb with O |O |O
  ·exact fZ O a2
  ·rw[O];exact a2
  ·rw[dY]at O;cases O
 have Qs:bV x.1 t=true:=au8 x.1 (fP.2 ⟨hJ _,.inr adx⟩);obtain ⟨v7,oA⟩:=j9.1 Qs;have agG:=rS t aT;have adh:=rS f aL;have dU:=FL x.1 t f (by omega);have c6:=FL x.2.1 t f (by omega);obtain ⟨fU,-,-⟩:=kO f (kk f aL);rw[Qs,ak]at dU;have adi:(fD t f x.1).length<=B+4:=by have:=Gu (t:=t) (f:=f) (k:=x.1) Qs;omega
 have fin: ∀k,bV k f=true-> ∃r,k=f++r/\fD f t k=t++r:=by intro k af;obtain ⟨r,au⟩:=j9.1 af;exact ⟨r,au,by rw[au,lk]⟩
 have mV: ∀k,Op.bytesLess k (f++v7)=false->Op.bytesLess k f=false:=by
  intro k af;have:Op.bytesLess (f++v7) f=false:=by have h:=AQ f v7;rw[<-nL aL]at h;exact (fP.1 h).1
  exact oG this af
 cases J:bV x.2.1 t with
 |true=>
  rw[J,ak]at c6;obtain ⟨Dq,Rl⟩:=j9.1 J;refine ⟨(fD t f x.1,fD t f x.2.1,()),by simp only[y6,fU,dU,c6,ak],⟨adi,?_⟩,λk=> ?_⟩
  ·have:=Gu (t:=t) (f:=f) (k:=x.2.1) J;show (fD t f x.2.1).length<=_;omega
  ·have L:fD t f x.1=f++v7:=by rw[oA,lk]
   have aa:fD t f x.2.1=f++Dq:=by rw[Rl,lk]
   rw[L,aa,fP,fP];show (Op.bytesLess k (f++v7)=false/\(f++Dq=[]\/Op.bytesLess k (f++Dq)=true))↔_;constructor
   ·rintro ⟨s,E⟩;have E:Op.bytesLess k (f++Dq)=true:=by
     rcases E with E |E
     ·obtain ⟨O,aC⟩:=List.append_eq_nil_iff.1 E;rw[O]at aL;exact absurd aL (by decide)
     ·exact E
    have p8:bV k f=true:=by
     rw[<-nL aL];refine fP.2 ⟨mV k s,.inr ?_⟩;have h:=AQ f Dq;rw[<-nL aL]at h;rcases (fP.1 h).2 with h |h
     ·exact absurd h f1
     ·exact fZ E h
    obtain ⟨r,rfl,au⟩:=fin k p8;rw[nI]at s E;refine ⟨p8,?_⟩;rw[au,oA,Rl,nI,nI];exact ⟨s,.inr E⟩
   ·rintro ⟨p8,O,aC⟩;obtain ⟨r,rfl,au⟩:=fin k p8;have aC:=aC.resolve_left adu;rw[au,oA,nI]at O;rw[au,Rl,nI]at aC;rw[nI,nI];exact ⟨O,.inr aC⟩
 |false=>
  rw[J,ax]at c6;have atb:x.2.1=(dF t).2.1:=by
   rcases h0 x.2.1 (dF t).2.1 with h |h |h
   ·have:b9 (dF t) x.2.1=true:=fP.2 ⟨oG (by rw[t2];exact ati) (d9 adx),.inr h⟩;rw[nL aT,J]at this;cases this
   ·exact h
   ·rw[atc]at h;cases h
  refine ⟨(fD t f x.1,(dF f).2.1,()),by simp only[y6,fU,dU,c6,ax],⟨adi,by show (dF f).2.1.length<=_;omega⟩,λk=> ?_⟩;have L:fD t f x.1=f++v7:=by rw[oA,lk]
  rw[L,fP,fP];show (Op.bytesLess k (f++v7)=false/\((dF f).2.1=[]\/Op.bytesLess k (dF f).2.1=true))↔_;constructor
  ·rintro ⟨s,E⟩;have E:=E.resolve_left f1;have p8:bV k f=true:=by rw[<-nL aL];exact fP.2 ⟨mV k s,.inr E⟩
   obtain ⟨r,rfl,au⟩:=fin k p8;rw[nI]at s;refine ⟨p8,?_⟩;rw[au,oA,nI];refine ⟨s,.inr ?_⟩;have h:=AQ t r;rw[<-nL aT]at h;rw[atb];exact ((fP.1 h).2).resolve_left t1
  ·rintro ⟨p8,O,aC⟩;obtain ⟨r,rfl,au⟩:=fin k p8;rw[au,oA,nI]at O;rw[nI];have h:=p8;rw[<-nL aL]at h;exact ⟨O,(fP.1 h).2⟩
def Uj (m:bB) (l r:aq):Prop:= ∀k,db r k=true↔ ∃bw st,db l bw=true/\fc m bw=.old k st
theorem GG (l m:aq) (ab:l.length<1000000000) (hm:m.length<100) (B:Nat) (s:1<=B) (di:fo B l) (km:fo B m):
  ∃r,yQ (m,l,())=some (l,r,())/\(∀k,db r k=(db l k&& !db m k))/\r.length<=(m.length+1)*l.length/\nU r/\fo B r:=by
 obtain ⟨r,e,h⟩:=aik l m ab hm B s di km;exact ⟨r,by simp only[yQ,e],h⟩
theorem ah5 (m:bB) (aL:m.2.2.2.2.1∈e0) (aT:m.2.2.2.2.2.1∈e0) (l out:aq) (ab:l.length<1000000000) (W:out.length<10^11) (B:Nat) (di:fo B l) (km:B<=10^5) (sO:4<=B) (c:Int):
  ∃w,So ((l.length:Int),(0:Int),c,l,m,dF m.2.2.2.2.2.1,out,())=some (.inl (c,l,out++w,()))/\w.length<=l.length/\fo (B+4) w/\
   ∀k,db w k=true↔(bV k m.2.2.2.2.1=true/\db l (fD m.2.2.2.2.1 m.2.2.2.2.2.1 k)=true):=by
 have H9:=uB aT;have agG:=rS _ aT;obtain ⟨z,s,w,rfl,E⟩:=dM (b:=yl) (λi (w:aq)=>((l.length:Int),(i:Int),c,l,m,dF m.2.2.2.2.2.1,out++w,())) l.length
  (λi w=>w.length<=i/\fo (B+4) w/\ ∀k,db w k=true↔(bV k m.2.2.2.2.1=true/\db (l.take i) (fD m.2.2.2.2.1 m.2.2.2.2.2.1 k)=true))
  (λz=> ∃w,z=.inl (c,l,out++w,())/\w.length<=l.length/\fo (B+4) w/\ ∀k,db w k=true↔(bV k m.2.2.2.2.1=true/\db l (fD m.2.2.2.2.1 m.2.2.2.2.2.1 k)=true)) (by omega)
  (λi u w hw=>by
   left;obtain ⟨dn,de,gf⟩:=hw;have L:=fe (i:=i) (l:=l) (by omega);have b6:(decide ((0:Int)<=((i:Nat):Int)))=true:=am (by omega);have JA:=fO (j:=i) (by omega);have ny:=dz u;have jy: ∀k,db (l.take (i+1)) k=(db (l.take i) k||b9 l[i] k):=by intro k;rw[eY u,nM,lh]
   have Cb: ∀k,bV k m.2.2.2.2.1=true->bV (fD m.2.2.2.2.1 m.2.2.2.2.2.1 k) m.2.2.2.2.2.1=true:=λk _=>uV
   cases CI:ke l[i] (dF m.2.2.2.2.2.1)
   ·have he:jw (hB l[i] (dF m.2.2.2.2.2.1))=true:=by rw[NK,CI];rfl
    refine ⟨w,⟨by omega,de,λk=> ?_⟩,?_⟩
    ·rw[gf k,jy,Bool.or_eq_true];constructor
     ·rintro ⟨O,aC⟩;exact ⟨O,.inl aC⟩
     ·rintro ⟨O,aC |aC⟩
      ·exact ⟨O,aC⟩
      ·have ba:=Cb k O;rw[<-nL aT]at ba;rw[A0.2 ⟨_,aC,ba⟩]at CI;cases CI
    ·simp only[yl,L,b6,bM,ak,bE,bW u,Fe,DV,he,cP,ax,JA]
   ·have he:jw (hB l[i] (dF m.2.2.2.2.2.1))=false:=by rw[NK,CI];rfl
    obtain ⟨r,ah,aJ,bR⟩:=aio (x:=hB l[i] (dF m.2.2.2.2.2.1)) aT aL rfl CI (B:=B) (at9 (by omega) (di _ ny) ⟨by rw[H9.2.1];omega,by omega⟩) km sO;have room:(decide ((List.length (out++w)+List.length ([r]:List (aK)))*32<=bp))=true:=am (by rw[ek];simp;omega);refine ⟨w++[r],⟨by simp;omega,λd ae=> ?_,λk=> ?_⟩,?_⟩
    ·rcases dk.1 ae with h |h
     ·exact de d h
     ·obtain rfl:=fJ.1 h;exact aJ
    ·rw[nM,lh,Bool.or_eq_true,gf k,bR k,jy,Aq,Bool.or_eq_true,bN];constructor
     ·rintro (⟨O,aC⟩|⟨O,aC,-⟩)
      ·exact ⟨O,.inl aC⟩
      ·exact ⟨O,.inr aC⟩
     ·rintro ⟨O,aC |aC⟩
      ·exact .inl ⟨O,aC⟩
      ·refine .inr ⟨O,aC,?_⟩;rw[nL aT];exact Cb k O
    ·rw[<-List.append_assoc];simp only[yl,L,b6,bM,ak,bE,bW u,Fe,DV,he,cK,ah,room,JA])
  (λw hw=>by have L:=ga l;rw[eM]at hw;exact ⟨_,⟨w,rfl,hw⟩,by simp only[yl,L,ax]⟩) [] ⟨b7 _,λd ae=>(by cases ae),λk=>(by simp[db])⟩
 rw[List.append_nil]at s;exact ⟨w,s,E⟩
theorem ajl (i:Int) (m:bB) (hm:gX m) (vp:m.1=3->m.2.2.2.1.1.length<=200/\m.2.2.2.1.2.1.length<=200) (l:aq) (ab:l.length<10^8) (B:Nat) (di:fo B l) (km:B<=10000) (sO:200<=B) (kI:nU l):
  ∃r,pX (i,m,(0:Int),l,())=some (true,0,r,())/\Uj m l r/\r.length<=4*l.length/\fo (B+4) r/\nU r:=by
 have B0: ∀r:aq,fo B r->fo (B+4) r:=λr h d ae=>by have:=h d ae;omega
 have B2:(decide ((-1:Int)= -1))=true:=rfl;have one: ∀k∈jl,qt (k,())=some ((k,k++[0],()),())/\fo B [(k,k++[0],())]:=by
  intro k af;refine ⟨(sd af).1,λd ae=> ?_⟩;obtain rfl:=fJ.1 ae;have:=(tX k af).2;constructor
  ·show k.length<=B;omega
  ·show (k++[0]).length<=B;simp;omega
 by_cases s:m.1=1
 ·obtain ⟨fE,jE⟩:=one m.2.1 (hm.key (.inl s));obtain ⟨r,e,g1,g2,g3,g4⟩:=GG l [(m.2.1,m.2.1++[0],())] (by omega) (by simp) B (by omega) di jE;refine ⟨r,by simp only[pX,sA,s,cw,ak,fE,e,B2],λk=> ?_,by simp at g2;omega,B0 r g4,g3⟩;rw[g1 k,lh,Gw,bN,eJ,decide_eq_false_iff_not];unfold fc;simp only[s,if_true];constructor
  ·rintro ⟨E,O⟩;exact ⟨k,none,E,by rw[if_neg (λe=>O e.symm)]⟩
  ·rintro ⟨bw,st,E,O⟩;by_cases e:m.2.1=bw
   ·rw[if_pos e]at O;cases O
   ·rw[if_neg e]at O;injection O with L aa
    rw[<-L];exact ⟨E,λh=>e h.symm⟩
 ·have d1:decide (m.1=1)=false:=bf s;by_cases E:m.1=2
  ·obtain ⟨fE,jE⟩:=one m.2.1 (hm.key (.inr E));obtain ⟨r,e,g1,g2,g3,g4⟩:=GG l [(m.2.1,m.2.1++[0],())] (by omega) (by simp) B (by omega) di jE;refine ⟨r,by simp only[pX,sA,E,d1,cw,ak,ax,fE,e,B2,show decide ((2:Int)=1)=false from rfl],λk=> ?_,by simp at g2;omega,B0 r g4,g3⟩;rw[g1 k,lh,Gw,bN,eJ,decide_eq_false_iff_not];constructor
   ·rintro ⟨aC,O⟩;refine ⟨k,none,aC,?_⟩;unfold fc;rw[if_neg s,if_pos E,if_neg (λe=>O e.symm)]
   ·rintro ⟨bw,st,aC,O⟩;unfold fc at O;rw[if_neg s,if_pos E]at O;by_cases e:m.2.1=bw
    ·rw[if_pos e]at O;cases O
    ·rw[if_neg e]at O;injection O with L aa
     rw[<-L];exact ⟨aC,λh=>e h.symm⟩
  ·have d2:decide (m.1=2)=false:=bf E;by_cases O:m.1=3
   ·obtain ⟨r,e,g1,g2,g3,g4⟩:=GG l [m.2.2.2.1] (by omega) (by simp) B (by omega) di (λd ae=>by obtain rfl:=fJ.1 ae;have:=vp O;omega)
    refine ⟨r,by simp only[pX,sA,O,cw,ak,ax,e,B2,show decide ((3:Int)=1)=false from rfl,show decide ((3:Int)=2)=false from rfl],λk=> ?_,by simp at g2;omega,B0 r g4,g3⟩;rw[g1 k,lh,bN,eJ];constructor
    ·rintro ⟨aC,ba⟩;refine ⟨k,none,aC,?_⟩;unfold fc;rw[if_neg s,if_neg E,if_pos O,if_neg (by rw[ba];simp)]
    ·rintro ⟨bw,st,aC,ba⟩;unfold fc at ba;rw[if_neg s,if_neg E,if_pos O]at ba;by_cases e:b9 m.2.2.2.1 bw=true
     ·rw[if_pos e]at ba;cases ba
     ·rw[if_neg e]at ba;injection ba with L aa
      rw[<-L];exact ⟨aC,by simpa using e⟩
   ·have d3:decide (m.1=3)=false:=bf O;by_cases bF:m.1=6
    ·refine ⟨l,by simp only[pX,sA,CY,bF,cw,ak,ax,B2,show decide ((6:Int)=1)=false from rfl,show decide ((6:Int)=2)=false from rfl,show decide ((6:Int)=3)=false from rfl,show decide ((6:Int)=4)=false from rfl,show decide ((6:Int)=5)=false from rfl],λk=> ?_,by omega,B0 l di,kI⟩;constructor
     ·intro aC;refine ⟨k,(if b9 m.2.2.2.1 k=true then some m.2.2.2.2.2.2.1 else none),aC,?_⟩;unfold fc;rw[if_neg s,if_neg E,if_neg O,if_pos bF]
     ·rintro ⟨bw,st,aC,ba⟩;unfold fc at ba;rw[if_neg s,if_neg E,if_neg O,if_pos bF]at ba;injection ba with L aa
      rw[<-L];exact aC
    ·have W:=hm.mv s E O bF;obtain ⟨tw,-,-⟩:=kO _ (kk _ W.from_);obtain ⟨vT,-,-⟩:=kO _ (kk _ W.to_);obtain ⟨ayp,ayq,ayr,-⟩:=uB W.from_;obtain ⟨ay2,ay3,ay4,-⟩:=uB W.to_;have adh:=rS _ W.from_;have agG:=rS _ W.to_;have rest: ∀gone:aq,gone.length<=2->fo B gone->(∀k,db gone k=true↔(bV k m.2.2.2.2.2.1=true\/(m.1=4/\bV k m.2.2.2.2.1=true)))->
       ∃r,CZ ((-1:Int),l,m,dF m.2.2.2.2.2.1,gone,())=some (true,0,r,())/\Uj m l r/\r.length<=4*l.length/\fo (B+4) r/\nU r:=by
      intro gone adX pg adY;obtain ⟨a,L,dY,a2,a3,a4⟩:=GG l gone (by omega) (by omega) B (by omega) di pg;have ats:(gone.length+1)*l.length<=3*l.length:=gW _ (by omega);obtain ⟨w,aa,dn,de,gf⟩:=ah5 m W.from_ W.to_ l a (by omega) (by omega) B di (by omega) (by omega) (-1);obtain ⟨r,a1,ah,aJ,bR,cB⟩:=Gv (a++w) (by rw[fr];omega) (B+4) (by
       intro d ae;rcases dk.1 ae with h |h
       ·exact B0 a a4 d h
       ·exact de d h)
      rw[fr]at aJ;refine ⟨r,by simp only[CZ,L,aa,a1,B2,cw,ak],λk=> ?_,by omega,cB,bR⟩;rw[ah k,nM,Bool.or_eq_true,gf k,dY k,bN,eJ];have atX:db gone k=false↔ ¬(bV k m.2.2.2.2.2.1=true\/(m.1=4/\bV k m.2.2.2.2.1=true)):=by rw[<-adY k];simp
      constructor
      ·rintro (⟨aC,ba⟩|⟨aC,ba⟩)
       ·have j1:=atX.1 ba;refine ⟨k,none,aC,?_⟩;unfold fc;rw[if_neg s,if_neg E,if_neg O,if_neg bF,if_neg (λh=>j1 (.inr h)),if_neg (λh=>j1 (.inl h))]
       ·refine ⟨fD m.2.2.2.2.1 m.2.2.2.2.2.1 k,none,ba,?_⟩;have J:bV (fD m.2.2.2.2.1 m.2.2.2.2.2.1 k) m.2.2.2.2.2.1=true:=uV;unfold fc;rw[if_neg s,if_neg E,if_neg O,if_neg bF,if_neg (λh=>by have:=W.not_both h.2;rw[J]at this;cases this),if_pos J];obtain ⟨x,ai⟩:=j9.1 aC;rw[ai,lk,lk]
      ·rintro ⟨bw,st,aC,ba⟩;unfold fc at ba;rw[if_neg s,if_neg E,if_neg O,if_neg bF]at ba;by_cases a7:m.1=4/\bV bw m.2.2.2.2.1=true
       ·rw[if_pos a7]at ba;cases ba
       ·rw[if_neg a7]at ba;by_cases aX:bV bw m.2.2.2.2.2.1=true
        ·rw[if_pos aX]at ba;injection ba with L aa
         obtain ⟨x,ai⟩:=j9.1 aX;rw[ai,lk]at L;right;rw[<-L,lk,<-ai];exact ⟨AQ _ _,aC⟩
        ·rw[if_neg aX]at ba;injection ba with L aa
         left;rw[<-L];exact ⟨aC,(by
          have: ¬(bV bw m.2.2.2.2.2.1=true\/(m.1=4/\bV bw m.2.2.2.2.1=true)):=λh=>h.elim aX a7
          rw[<-adY bw]at this;simpa using this)⟩
     have Pz: ∀p∈e0,(dF p).1.length<=B/\(dF p).2.1.length<=B:=by intro p aP;obtain ⟨-,bG,dm,-⟩:=uB aP;have:=rS p aP;rw[bG];omega
     rcases W.kind with aC |ba
     ·have room:(decide ((List.length ([dF m.2.2.2.2.2.1]:List (aK))+List.length ([dF m.2.2.2.2.1]:List (aK)))*32<=bp))=true:=by rw[ek];rfl
      obtain ⟨r,e,au⟩:=rest [dF m.2.2.2.2.2.1,dF m.2.2.2.2.1] (by simp) (λd ae=>by
       rcases eO.1 ae with rfl |ae
       ·exact Pz _ W.to_
       ·obtain rfl:=fJ.1 ae;exact Pz _ W.from_) (λk=>by
       have:db [dF m.2.2.2.2.2.1,dF m.2.2.2.2.1] k=(bV k m.2.2.2.2.2.1||bV k m.2.2.2.2.1):=by simp[db,nL W.to_,nL W.from_]
       rw[this,Bool.or_eq_true];constructor
       ·rintro (h |h)
        ·exact .inl h
        ·exact .inr ⟨aC,h⟩
       ·rintro (h |⟨-,h⟩)
        ·exact .inl h
        ·exact .inr h)
      have eg:CZ ((-1:Int),l,m,dF m.2.2.2.2.2.1,([dF m.2.2.2.2.2.1]:aq)++[dF m.2.2.2.2.1],())=some (true,0,r,()):=e;have d4:decide (m.1=4)=true:=am aC;exact ⟨r,by simp only[pX,sA,CY,d1,d2,d3,d4,cw,ak,ax,vT,tw,room,eg],au⟩
     ·obtain ⟨r,e,au⟩:=rest [dF m.2.2.2.2.2.1] (by simp) (λd ae=>by
       obtain rfl:=fJ.1 ae;exact Pz _ W.to_) (λk=>by
       rw[lh,nL W.to_];constructor
       ·exact λh=>.inl h
       ·rintro (h |⟨h,-⟩)
        ·exact h
        ·rw[ba]at h;exact absurd h (by decide))
      have d4:decide (m.1=4)=false:=bf (by omega);have d5:decide (m.1=5)=true:=am ba;exact ⟨r,by simp only[pX,sA,CY,d1,d2,d3,d4,d5,cw,ak,ax,vT,e],au⟩
theorem F3 {st:Option Int} {x:Src} {k:M}:(∃s2,ki st x=.old k s2)↔ ∃s1,x=.old k s1:=by
 cases x with
 |gen v n=>exact ⟨λ⟨_,h⟩=>(by cases h),λ⟨_,h⟩=>(by cases h)⟩
 |gone=>exact ⟨λ⟨_,h⟩=>(by cases h),λ⟨_,h⟩=>(by cases h)⟩
 |old cj hD=>
  constructor
  ·rintro ⟨s2,h⟩;injection h with s E
   exact ⟨hD,by rw[s]⟩
  ·rintro ⟨s1,h⟩;injection h with s E
   exact ⟨st.or hD,by rw[s];rfl⟩
theorem abe (m:bB) (k:M): ∀(r:cG) (bw:M),(∃st,ft (r++[m]) bw=.old k st)↔ ∃cj s1 s2,ft r bw=.old cj s1/\fc m cj=.old k s2
 |[],bw=>by
  show (∃st,ft [m] bw=.old k st)↔_;rw[show ft [m] bw=(match fc m bw with
   | .gen v n=>.gen v n
   | .gone=>.gone
   | .old cj st=>ki st (ft [] cj)) from rfl]
  cases e:fc m bw with
  |gen v n=>
   constructor
   ·rintro ⟨_,h⟩;cases h
   ·rintro ⟨cj,s1,s2,s,E⟩;injection s with O aC
    rw[<-O,e]at E;cases E
  |gone=>
   constructor
   ·rintro ⟨_,h⟩;cases h
   ·rintro ⟨cj,s1,s2,s,E⟩;injection s with O aC
    rw[<-O,e]at E;cases E
  |old bb st=>
   show (∃d,ki st (.old bb none)=.old k d)↔_;rw[F3];constructor
   ·rintro ⟨s1,h⟩;injection h with O aC
    exact ⟨bw,none,st,rfl,by rw[e,O]⟩
   ·rintro ⟨cj,s1,s2,s,E⟩;injection s with O aC
    rw[<-O,e]at E;injection E with ba bF
    exact ⟨none,by rw[ba]⟩
 |a::r,bw=>by
  show (∃st,ft (a::(r++[m])) bw=.old k st)↔_;rw[Ob]
  conv=>rhs;rw[Ob]
  cases e:fc a bw with
  |gen v n=>
   constructor
   ·rintro ⟨_,h⟩;cases h
   ·rintro ⟨cj,s1,s2,s,E⟩;cases s
  |gone=>
   constructor
   ·rintro ⟨_,h⟩;cases h
   ·rintro ⟨cj,s1,s2,s,E⟩;cases s
  |old bb st=>
   show (∃d,ki st (ft (r++[m]) bb)=.old k d)↔ ∃cj s1 s2,ki st (ft r bb)=.old cj s1/\fc m cj=.old k s2;rw[F3,abe m k r bb];constructor
   ·rintro ⟨cj,s1,s2,s,E⟩;obtain ⟨jq,O⟩:=F3.2 ⟨s1,s⟩;exact ⟨cj,jq,s2,O,E⟩
   ·rintro ⟨cj,s1,s2,s,E⟩;obtain ⟨jq,O⟩:=F3.1 ⟨s1,s⟩;exact ⟨cj,jq,s2,O,E⟩
theorem gy.ends {m:bB} (h:gy m):m.2.2.2.1.1.length<=200/\m.2.2.2.1.2.1.length<=200:=by
 obtain ⟨q,k,v,f,t,d,n,rfl,aD,aR,lO,ra⟩:=h.form;have BG:q=0\/q=1\/q=2\/q=3\/q=4\/q=5:=by omega
 rcases BG with rfl |rfl |rfl |rfl |rfl |rfl
 ·exact ⟨Nat.zero_le _,Nat.zero_le _⟩
 ·exact ⟨Nat.zero_le _,Nat.zero_le _⟩
 ·exact ⟨lO,ra⟩
 ·exact ⟨Nat.zero_le _,Nat.zero_le _⟩
 ·exact ⟨Nat.zero_le _,Nat.zero_le _⟩
 ·exact ⟨lO,ra⟩
theorem akc {j:Nat} (h:j<13):4^j<10^8:=by have:4^j<=4^12:=Nat.pow_le_pow_right (by omega) (by omega);omega
theorem ahY (d:aK) (l:cG) (ab: ∀m∈l,gy m) (aR:l.length<=13) (B:Nat) (ae:d.1.length<=B/\d.2.1.length<=B) (di:B<=5000) (sO:200<=B):
  ∃r,Ed (d,l,())=some (r,())/\(∀k,db r k=true↔ ∃bw st,b9 d bw=true/\ft l.reverse bw=.old k st)/\r.length<=4^l.length/\fo (B+4*l.length) r:=by
 obtain ⟨n,L,c8,dP,n3,n4⟩:=Gv [d] (by simp) B (λx ai=>by obtain rfl:=fJ.1 ai;exact ae)
 have b6:i64.wrap (((l.length):Int)-1)=((l.length:Int)-1):=by rw[cI (by omega)]
 obtain ⟨z,s,r,rfl,E⟩:=dM (b:=BH) (λj (q:aq)=>(((l.length:Int)-1-(j:Int)),(0:Int),l,q,())) l.length
  (λj q=>(∀k,db q k=true↔ ∃bw st,b9 d bw=true/\ft (l.reverse.take j) bw=.old k st)/\q.length<=4^j/\fo (B+4*j) q/\nU q)
  (λz=> ∃r,z=.inr ((0:Int),l,r,())/\(∀k,db r k=true↔ ∃bw st,b9 d bw=true/\ft l.reverse bw=.old k st)/\r.length<=4^l.length/\fo (B+4*l.length) r) (by omega)
  (λj an q aD=>by
   left;obtain ⟨bj,bG,dm,cJ⟩:=aD;obtain ⟨i,u⟩: ∃i:Nat,l.length-1-j=i:=⟨_,rfl⟩;have q4:i<l.length:=by omega
   have QV:j<l.reverse.length:=by rw[List.length_reverse];exact an
   have x9:l.reverse[j]=l[i]:=by rw[List.getElem_reverse];congr 1
   have dB:((l.length:Int)-1-(j:Int))=(i:Int):=by omega
   have a7:(decide ((i:Int)>=(0:Int)))=true:=am (by omega);have aX:=dZ i;have c3:(decide ((i:Int)<(l.length:Int)))=true:=am (by omega);have e5:i64.wrap ((i:Int)-1)=((l.length:Int)-1-((j+1:Nat):Int)):=by rw[cI (by omega)];omega
   have hm:=ab _ (dz q4);have po:=akc (j:=j) (by omega);obtain ⟨r,g1,g2,g3,g4,g5⟩:=ajl (i:Int) l[i] hm.ok (λ_=>hm.ends) q (by omega) (B+4*j) dm (by omega) (by omega) cJ;refine ⟨r,⟨λk=> ?_,?_,?_,g5⟩,?_⟩
   ·rw[g2 k];have Ic:=λbw=>abe l[i] k (l.reverse.take j) bw
    rw[<-x9]at Ic ⊢;simp only[<-eY QV]at Ic;constructor
    ·rintro ⟨bb,st,O,aC⟩;obtain ⟨bw,jP,ba,bF⟩:=(bj bb).1 O;obtain ⟨s2,dN⟩:=(Ic bw).2 ⟨bb,jP,st,bF,aC⟩;exact ⟨bw,s2,ba,dN⟩
    ·rintro ⟨bw,st,O,aC⟩;obtain ⟨bb,s1,s2,ba,bF⟩:=(Ic bw).1 ⟨st,aC⟩;exact ⟨bb,s2,(bj bb).2 ⟨bw,s1,O,ba⟩,bF⟩
   ·rw[Nat.pow_succ];omega
   ·rw[show B+4*(j+1)=B+4*j+4 by omega];exact g4
   ·rw[dB];simp only[BH,a7,aX,c3,ak,bM,bE,bW q4,g1,cP,ax,e5])
  (λq aD=>by
   obtain ⟨bj,bG,dm,cJ⟩:=aD;have dB:((l.length:Int)-1-((l.length:Nat):Int))= -1:=by omega
   have L:(decide ((-1:Int)>=(0:Int)))=false:=rfl;rw[h8 (by rw[List.length_reverse];exact b7 _)]at bj;rw[dB];exact ⟨_,⟨q,rfl,bj,bG,dm⟩,by simp only[BH,L,ax]⟩) n ⟨λk=>by
    rw[c8 k,lh];constructor
    ·intro h;exact ⟨k,none,h,rfl⟩
    ·rintro ⟨bw,st,O,aC⟩;injection aC with ba bF
     rw[<-ba];exact O,by simpa using dP,by simpa using n4,n3⟩
 have dq:PX (((l.length:Int)-1),(0:Int),l,n,())=some (.inr ((0:Int),l,r,())):=by have:=s;simp only[Int.natCast_zero,Int.sub_zero]at this;exact this
 refine ⟨r,?_,E⟩;simp only[Ed,L,BS,P4,b6,dq,cw,ak]
theorem NX {t:aj} {l:cG} (ae:cH bK t) (h: ∀m∈l,gX m) (ab:t.length<=1200000) (aR:l.length<=13) {B:Nat} (di:100<=B) (km:B<=900) (af: ∀p∈t,p.1.length<=B) (i:Nat) (u:i<=l.length):
  cH bK (gH t (l.take i))/\(gH t (l.take i)).length<10^11/\ ∀p∈gH t (l.take i),p.1.length<1000:=by
 have cu: ∀m∈l.take i,gX m:=λm hm=>h m (List.mem_of_mem_take hm)
 have hlen:(l.take i).length=i:=by rw[eG];omega
 refine ⟨AF ae _,?_,λp aP=> ?_⟩
 ·have s:=abR (l.take i) t;rw[hlen]at s;have E:2^i<=2^13:=Nat.pow_le_pow_right (by omega) (by omega);have O:2^i*(t.length+1)<=2^13*1200001:=Nat.mul_le_mul E (by omega);omega
 ·have:=abk cu ae di af p aP;omega
theorem ajK {t:aj} {l:cG} (ae:cH bK t) (h: ∀m∈l,gX m) (ab:t.length<=1200000) (aR:l.length<=13) {B:Nat} (di:100<=B) (km:B<=900) (af: ∀p∈t,p.1.length<=B):
  w2 (t,l,())=some (gH t l,()):=by
 obtain ⟨z,s,rfl⟩:=dM (b:=Ab) (λi (q:aj)=>(q,l,(l.length:Int),(i:Int),())) l.length (λi q=>q=gH t (l.take i)) (λz=>z=.inl (gH t l,())) (by omega)
  (λi u q aD=>by left;have L:=fe (i:=i) (l:=l) (by omega);have b6:(decide ((0:Int)<=((i:Nat):Int)))=true:=am (by omega);have w:=fO (j:=i) (by omega);obtain ⟨dY,a2,a3⟩:=NX ae h ab aR di km af i (by omega);rw[<-aD]at dY a2 a3;have aa:=(Ou q l[i] (h _ (dz u)) dY a2 a3).1;refine ⟨iw q l[i],by rw[aD,eY u,NW],?_⟩;simp only[Ab,L,b6,bM,ak,bE,bW u,aa,w])
  (λq aD=>by have L:=ga l;rw[eM]at aD;exact ⟨_,rfl,by simp only[Ab,L,ax,aD]⟩) t rfl
 have dq:NM (t,l,(l.length:Int),(0:Int),())=some (.inl (gH t l,())):=s;simp only[w2,dq]
abbrev wO:Type:=((cZ)×(aK)×(List (aK))×(bZ)×(Int)×G)->Option ((List (b5))×(bZ)×(Int)×G)
theorem ar6 (r:wO) (id:Int) (d:aK) (l:aq) (p:bZ) (found out:aj) (ab:out.length+found.length<=10^12):
  xM r ((found.length:Int),(0:Int),(0:Int),id,d,l,p,(0:Int),found,out,())=some (.inr ((0:Int),id,d,l,p,(0:Int),out++found,())):=by
 obtain ⟨z,s,rfl⟩:=dM (b:=sx r) (λi (q:aj)=>((found.length:Int),(i:Int),(0:Int),id,d,l,p,(0:Int),found,q,())) found.length (λi q=>q=out++found.take i) (λz=>z=.inr ((0:Int),id,d,l,p,(0:Int),out++found,())) (by omega)
  (λi u q aD=>by left;have L:=fe (i:=i) (l:=found) (by omega);have b6:(decide ((0:Int)<=((i:Nat):Int)))=true:=am (by omega);have w:=fO (j:=i) (by omega);have room:(decide ((q.length+List.length ([found[i]]:List (b5)))*40<=bp))=true:=am (by rw[ek,aD];simp;omega);refine ⟨q++[found[i]],by rw[aD,eY u,List.append_assoc],?_⟩;simp only[sx,HQ,Ip,L,b6,bM,ak,bE,bW u,cw,cP,cK,ax,room,w])
  (λq aD=>by have L:=ga found;rw[eM]at aD;exact ⟨_,rfl,by simp only[sx,L,ax,aD]⟩) out (by simp)
 exact s
theorem arq (r:wO) (id:Int) (d:aK) (l:aq) (p:bZ) (found out:aj) (e:Int) (he:e≠0):
  xM r ((found.length:Int),(0:Int),(0:Int),id,d,l,p,e,found,out,())=some (.inl ((0:Int),id,d,l,p,e,out,()))\/
  xM r ((found.length:Int),(0:Int),(0:Int),id,d,l,p,e,found,out,())=some (.inr ((0:Int),id,d,l,p,e,out,())):=by
 cases found with
 |nil=>
  right;exact m7 (n:=1) (by rw[kN];omega) (by have L:(decide ((0:Int)<((List.length ([]:aj)):Int)))=false:=rfl;simp only[eI,sx,L,ax])
 |cons x found=>
  left;exact m7 (n:=1) (by rw[kN];omega) (by have L:(decide ((0:Int)<((List.length (x::found)):Int)))=true:=am (by rw[gn];omega);have aa:(decide (e=0))=false:=bf he;simp only[eI,sx,HQ,L,aa,Int.le_refl,cw,bM,ak,cK,cP,ax])
theorem ab5 (r:wO) (id:Int) (d:aK) (l:aq) (p:bZ) (t out:aj) (e:Int) (aT:t.length<10^11) (W:out.length<=10^11) (ab:l.length<=10^17):
  xL r (t,(0:Int),id,d,l,p,e,out,())=some ((0:Int),id,d,l,p,e,out++(if e=0 then t.filter (dW l) else []),()):=by
 have L:=Oe t l (by omega) ab;have aL:(t.filter (dW l)).length<=t.length:=hE _ _;by_cases he:e=0
 ·subst he;rw[if_pos rfl];have aa:=ar6 r id d l p (t.filter (dW l)) out (by omega);simp only[xL,L,aa]
 ·rw[if_neg he,List.append_nil];rcases arq r id d l p (t.filter (dW l)) out e he with aa |aa
  ·simp only[xL,L,aa]
  ·simp only[xL,L,aa]
def si (e:Int):Prop:=e=0\/e=112
def kB (buf:cG) (ar:M->Prop):M->Prop:=λk=> ∃bw st,ar bw/\ft buf.reverse bw=.old k st
def jc (l:aq):M->Prop:=λk=>db l k=true
def acn (r:wO) (p:bZ) (i:Nat) (d:aK) (c:aj) (wz:(M->Prop)->Prop) (B dI:Nat):Prop:=
 ∀(l:aq) (e:Int) (out:aj),l.length<=dI->fo B l->si e->out.length<=10^10->
  ∃eg,sB r ((0:Int),(i:Int),d,l,p,e,out,())=some ((0:Int),(i:Int),d,l,p,eg,out++(if eg=0 then c.filter (dW l) else []),())/\si eg/\(e≠0->eg≠0)/\(e=0->(eg≠0↔wz (jc l)))
theorem aiC (r:wO) (aY:cZ) (d:aK) (l:aq) (p:bZ) (e:Int) (B dI:Nat) (J: ∀m∈aY.2.2.2.2.1,gy m) (aR:aY.2.2.2.2.1.length<=13) (ab:l.length<=dI) (di:fo B l) (km:B<=5000) (sO:200<=B) (lI:dI*4^aY.2.2.2.2.1.length<=10^11):
  ∃ey,Iw r ([],l,(l.length:Int),(0:Int),p,e,aY,d,[],())=some (.inl ([],p,e,aY,d,ey,()))/\ey.length<=dI*4^aY.2.2.2.2.1.length/\fo (B+4*aY.2.2.2.2.1.length) ey/\ ∀k,db ey k=true↔kB aY.2.2.2.2.1 (jc l) k:=by
 have aP:1<=4^aY.2.2.2.2.1.length:=Nat.one_le_pow _ _ (by omega);have adz:dI*1<=dI*4^aY.2.2.2.2.1.length:=Nat.mul_le_mul_left _ aP;obtain ⟨z,s,ey,rfl,E⟩:=dM (b:=ii r) (λi (q:aq)=>(([]:aj),l,(l.length:Int),(i:Int),p,e,aY,d,q,())) l.length
  (λi q=>q.length<=i*4^aY.2.2.2.2.1.length/\fo (B+4*aY.2.2.2.2.1.length) q/\ ∀k,db q k=true↔kB aY.2.2.2.2.1 (jc (l.take i)) k)
  (λz=> ∃ey,z=.inl ([],p,e,aY,d,ey,())/\ey.length<=dI*4^aY.2.2.2.2.1.length/\fo (B+4*aY.2.2.2.2.1.length) ey/\ ∀k,db ey k=true↔kB aY.2.2.2.2.1 (jc l) k) (by omega)
  (λi u q aD=>by
   left;obtain ⟨bj,bG,dm⟩:=aD;have L:=fe (i:=i) (l:=l) (by omega);have b6:(decide ((0:Int)<=((i:Nat):Int)))=true:=am (by omega);have w:=fO (j:=i) (by omega);have ny:=dz u;obtain ⟨a,dY,a2,a3,a4⟩:=ahY l[i] aY.2.2.2.2.1 J aR B (di _ ny) km sO;have auG:(i+1)*4^aY.2.2.2.2.1.length<=dI*4^aY.2.2.2.2.1.length:=gW _ (by omega);rw[Nat.add_mul,Nat.one_mul]at auG;have room:(decide ((q.length+a.length)*32<=bp))=true:=am (by rw[ek];omega);refine ⟨q++a,⟨by rw[fr,Nat.add_mul,Nat.one_mul];omega,λd ae=> ?_,λk=> ?_⟩,?_⟩
   ·rcases dk.1 ae with h |h
    ·exact bG d h
    ·exact a4 d h
   ·rw[nM,Bool.or_eq_true,dm k,a2 k];have jy: ∀k,db (l.take (i+1)) k=(db (l.take i) k||b9 l[i] k):=by intro k;rw[eY u,nM,lh]
    constructor
    ·rintro (⟨bw,st,O,aC⟩|⟨bw,st,O,aC⟩)
     ·exact ⟨bw,st,by unfold jc at O ⊢;rw[jy,O];rfl,aC⟩
     ·exact ⟨bw,st,by unfold jc;rw[jy,O,Bool.or_true],aC⟩
    ·rintro ⟨bw,st,O,aC⟩;unfold jc at O;rw[jy,Bool.or_eq_true]at O;rcases O with O |O
     ·exact .inl ⟨bw,st,O,aC⟩
     ·exact .inr ⟨bw,st,O,aC⟩
   ·simp only[ii,L,b6,bM,ak,bE,bW u,dY,room,w])
  (λq aD=>by
   obtain ⟨bj,bG,dm⟩:=aD;have L:=ga l;rw[eM]at dm;have:l.length*4^aY.2.2.2.2.1.length<=dI*4^aY.2.2.2.2.1.length:=gW _ ab;exact ⟨_,⟨q,rfl,by omega,bG,dm⟩,by simp only[ii,L,ax]⟩) [] ⟨by simp,λd ae=>(by cases ae),λk=>(by
    constructor
    ·intro h;simp[db]at h
    ·rintro ⟨bw,st,O,aC⟩;simp[jc,db]at O)⟩
 exact ⟨ey,s,E⟩
def sk (ar:M->Prop) (q:aK):Prop:= ∃k,ar k/\b9 q k=true
theorem arM (ey:aq) (q:aK):(ey.any λw=>ke w q)=true↔sk (jc ey) q:=by
 rw[List.any_eq_true];constructor
 ·rintro ⟨w,hw,h⟩;obtain ⟨k,s,E⟩:=A0.1 h;exact ⟨k,List.any_eq_true.2 ⟨w,hw,s⟩,E⟩
 ·rintro ⟨k,s,E⟩;obtain ⟨w,hw,O⟩:=List.any_eq_true.1 s;exact ⟨w,hw,A0.2 ⟨k,O,E⟩⟩
theorem aaI (r:wO) (p:bZ) (aY:cZ) (d:aK) (parts:aq) (ks:fh) (C:Nat->aj) (wz:Nat->aK->(M->Prop)->Prop) (B dI:Nat)
  (af:aY.2.2.1=bP ks) (aP:parts.length=ks.length) (j5:1<=ks.length) (aud:ks.length<=6) (vp:rO (d,aY.2.1,())=some (parts,())) (J: ∀m∈aY.2.2.2.2.1,gy m) (aR:aY.2.2.2.2.1.length<=13)
  (km:B<=5000) (sO:200<=B) (lI:dI*4^aY.2.2.2.2.1.length<=10^11)
  (dL: ∀j,j<ks.length->pK (parts.getD j cO) (C (ks.getD j 0))/\(C (ks.getD j 0)).length<=200000)
  (au: ∀j,j<ks.length->acn r p (ks.getD j 0) (parts.getD j cO) (C (ks.getD j 0)) (wz (ks.getD j 0) (parts.getD j cO)) (B+4*aY.2.2.2.2.1.length) (dI*4^aY.2.2.2.2.1.length))
  (l:aq) (e:Int) (ab:l.length<=dI) (di:fo B l) (he:si e):
  ∃ey eg j,CU r (aY,d,l,p,e,())=some (((ks.take j).flatMap C).filter (dW ey),p,eg,())/\(∀k,db ey k=true↔kB aY.2.2.2.2.1 (jc l) k)/\si eg/\j<=ks.length/\(eg=0->j=ks.length)/\(e≠0->eg≠0)/\
   (e=0->(eg≠0↔ ∃j,j<ks.length/\sk (kB aY.2.2.2.2.1 (jc l)) (parts.getD j cO)/\wz (ks.getD j 0) (parts.getD j cO) (kB aY.2.2.2.2.1 (jc l)))):=by
 obtain ⟨ey,c8,dP,n3,n4⟩:=aiC r aY d l p e B dI J aR ab di km sO lI;have lg:jc ey=kB aY.2.2.2.2.1 (jc l):=by
  funext k
  exact propext (n4 k)
 have b8:aY.2.2.1≠[]:=by rw[af];exact acD (by omega)
 have H6:=ZC b8 vp;have atT: ∀j,j<=ks.length->((ks.take j).flatMap C).length<=j*200000:=by
  intro j an;have:=N0 ((ks.take j).map C) 200000 (by intro a aS;obtain ⟨k,af,rfl⟩:=List.mem_map.1 aS;obtain ⟨i,u,rfl⟩:=List.mem_iff_getElem.1 af;rw[eG]at u;rw[List.getElem_take];have:=(dL i (by omega)).2;rw[bW (by omega)]at this;exact this)
  rw[List.length_map,eG,Nat.min_eq_left an]at this;rw[List.flatMap_def];exact this
 obtain ⟨z,s,eg,j,rfl,E,O,aC,ba,bF⟩:=dM (b:=u6 r) (λi (q:Int×aj)=>(([]:aj),(parts.length:Int),(i:Int),p,q.1,aY,ey,parts,q.2,())) parts.length
  (λi q=> ∃j,j<=i/\q.2=((ks.take j).flatMap C).filter (dW ey)/\si q.1/\(q.1=0->j=i)/\(e≠0->q.1≠0)/\(e=0->(q.1≠0↔ ∃j,j<i/\sk (kB aY.2.2.2.2.1 (jc l)) (parts.getD j cO)/\wz (ks.getD j 0) (parts.getD j cO) (kB aY.2.2.2.2.1 (jc l)))))
  (λz=> ∃eg j,z=.inr (p,eg,((ks.take j).flatMap C).filter (dW ey),())/\si eg/\j<=ks.length/\(eg=0->j=ks.length)/\(e≠0->eg≠0)/\(e=0->(eg≠0↔ ∃j,j<ks.length/\sk (kB aY.2.2.2.2.1 (jc l)) (parts.getD j cO)/\wz (ks.getD j 0) (parts.getD j cO) (kB aY.2.2.2.2.1 (jc l))))) (by omega)
  (λi u q aD=>by
   left;obtain ⟨l7,out⟩:=q;obtain ⟨j,RY,eF,vv,vw,vx,rl⟩:=aD;simp only at eF vv vw vx rl;have mX:i<ks.length:=by omega
   have L:=fe (i:=i) (l:=parts) (by omega);have b6:(decide ((0:Int)<=((i:Nat):Int)))=true:=am (by omega);have w:=fO (j:=i) (by omega);have HT:=aqs ey parts[i] (by omega);have Q5:=arM ey parts[i];rw[lg]at Q5;have x8:parts.getD i cO=parts[i]:=bW u;cases HR:(ey.any λw=>ke w parts[i])
   ·rw[HR]at HT;have H5: ¬sk (kB aY.2.2.2.2.1 (jc l)) parts[i]:=λh=>by have:=Q5.2 h;rw[HR]at this;cases this
    refine ⟨(l7,out),?_,?_⟩
    ·by_cases ou:l7=0
     ·refine ⟨i+1,by omega,?_,vv,λ_=>rfl,vx,λh=> ?_⟩
      ·rw[vw ou]at eF;have H4:(C ks[i]).filter (dW ey)=[]:=by rw[List.filter_eq_nil_iff];intro x ai h;have:=(dL i mX).1;rw[bW mX,x8]at this;exact H5 ⟨x.1,by rw[<-lg];exact h,this x ai⟩
       rw[eY mX,List.flatMap_append,List.filter_append];simp only[List.flatMap_cons,List.flatMap_nil,List.append_nil,H4];exact eF
      ·rw[rl h];constructor
       ·rintro ⟨gL,a,b⟩;exact ⟨gL,by omega,b⟩
       ·rintro ⟨gL,a,b,c⟩;rcases Nat.lt_succ_iff_lt_or_eq.1 a with a |a
        ·exact ⟨gL,a,b,c⟩
        ·subst a;rw[x8]at b;exact absurd b H5
     ·refine ⟨j,by omega,eF,vv,λh=>absurd h ou,vx,λh=> ?_⟩;constructor
      ·intro _;obtain ⟨gL,a,b⟩:=(rl h).1 ou;exact ⟨gL,by omega,b⟩
      ·exact λ_=>ou
    ·simp only[u6,L,b6,bM,ak,bE,bW u,HT,cK,w]
   ·rw[HR]at HT;have hm:sk (kB aY.2.2.2.2.1 (jc l)) parts[i]:=Q5.1 HR;have Rc:out.length<=10^10:=by rw[eF];have a:=hE (dW ey) ((ks.take j).flatMap C);have b:=atT j (by omega);omega
    obtain ⟨aa,f1,f2,f3,f4⟩:=au i mX ey l7 out dP n3 vv Rc;rw[bW mX,x8]at f1 f4;rw[lg]at f4;have a1:(decide (((i:Nat):Int)<((aY.2.2.1.length):Int)))=true:=am (by rw[af,fL];omega);have bq:aY.2.2.1.getD i 0=((ks[i]:Nat):Int):=by rw[af,m2 mX]
    refine ⟨(aa,out++(if aa=0 then (C ks[i]).filter (dW ey) else [])),?_,?_⟩
    ·by_cases me:aa=0
     ·have ou:l7=0:=by
       rcases Classical.em (l7=0) with h |h
       ·exact h
       ·exact absurd me (f3 h)
      refine ⟨i+1,by omega,?_,f2,λ_=>rfl,λh=>absurd ou (vx h),λh=> ?_⟩
      ·rw[vw ou]at eF;rw[eY mX,List.flatMap_append,List.filter_append,if_pos me,eF];simp only[List.flatMap_cons,List.flatMap_nil,List.append_nil]
      ·constructor
       ·intro cu;exact absurd me cu
       ·rintro ⟨gL,a,b,c⟩;rcases Nat.lt_succ_iff_lt_or_eq.1 a with a |a
        ·exact absurd ou ((rl h).2 ⟨gL,a,b,c⟩)
        ·subst a;rw[bW mX,x8]at c;exact absurd me ((f4 ou).2 c)
     ·refine ⟨j,by omega,?_,f2,λh=>absurd h me,λ_=>me,λh=> ?_⟩
      ·show out++(if aa=0 then _ else [])=_;rw[if_neg me,List.append_nil];exact eF
      ·constructor
       ·intro _;by_cases ou:l7=0
        ·refine ⟨i,by omega,by rw[x8];exact hm,?_⟩;rw[bW mX,x8];exact (f4 ou).1 me
        ·obtain ⟨gL,a,b⟩:=(rl h).1 ou;exact ⟨gL,by omega,b⟩
       ·exact λ_=>me
    ·simp only[u6,L,b6,bM,ak,bE,bW u,HT,cP,ax,a1,bq,qV,f1,cw,w])
  (λq aD=>by obtain ⟨l7,out⟩:=q;obtain ⟨j,RY,eF,vv,vw,vx,rl⟩:=aD;simp only at eF vv vw vx rl;have L:=ga parts;rw[aP]at RY vw rl;exact ⟨_,⟨l7,j,by rw[<-eF],vv,RY,vw,vx,rl⟩,by simp only[u6,L,ax]⟩) (e,[]) ⟨0,b7 _,by simp,he,λ_=>rfl,id,λh=>⟨λcu=>absurd h cu,λ⟨j,a,_⟩=>absurd a (by omega)⟩⟩
 have dq:Ix r ([],(parts.length:Int),(0:Int),p,e,aY,ey,parts,[],())=some (.inr (p,eg,((ks.take j).flatMap C).filter (dW ey),())):=s;refine ⟨ey,eg,j,?_,n4,E,O,aC,ba,bF⟩;simp only[CU,c8,H6,dq]
theorem abd {low:aj} {ey l:aq} {buf:cG} (ae:cH bK low) (J: ∀m∈buf,gX m) (aR: ∀k,db ey k=true↔kB buf (jc l) k):
  (gH (low.filter (dW ey)) buf).filter (dW l)=(gH low buf).filter (dW l):=by
 have ra:cH bK (low.filter (dW ey)):=List.Pairwise.filter _ ae;refine GB (List.Pairwise.filter _ (AF ra buf)) (List.Pairwise.filter _ (AF ae buf)) (λx=> ?_);rw[eV,eV];constructor
 ·rintro ⟨s,E⟩;refine ⟨(abl ra ae J x (λk st af y bo=> ?_)).1 s,E⟩;rw[eV];refine ⟨λh=>h.1,λh=>⟨h,?_⟩⟩;show db ey y.1=true;rw[bo];exact (aR k).2 ⟨x.1,st,E,af⟩
 ·rintro ⟨s,E⟩;refine ⟨(abl ra ae J x (λk st af y bo=> ?_)).2 s,E⟩;rw[eV];refine ⟨λh=>h.1,λh=>⟨h,?_⟩⟩;show db ey y.1=true;rw[bo];exact (aR k).2 ⟨x.1,st,E,af⟩
def sj (p:bZ) (V:da) (b x:Nat):Prop:= ∀i n,i<b->V[i]? =some n->kr (p,(i:Int),())=some (if i=x then (im,112,()) else (n,0,()))
def oX (V:da) (i:Nat):cG:=(V.getD i im).2.2.2.2.1
def xk (V:da) (i j:Nat):Nat:=(List.getD (V.getD i im).2.2.1 j 0).toNat
def uY (V:da) (x:Nat):List bc->aK->Nat->(M->Prop)->Prop
 |[],_,i,_=>i=x
 |P::ay,d,i,ar=>i=x\/ ∃j,j<(partsOf d (cl P d)).length/\sk (kB (oX V i) ar) (List.getD (partsOf d (cl P d)) j cO)/\uY V x ay (List.getD (partsOf d (cl P d)) j cO) (xk V i j) (kB (oX V i) ar)
theorem oJ {V:da} {i:Nat} {p:aj} {piv:bc} {ks:fh} {sums:hH} {buf:cG} (h:V[i]? =some (p,piv,bP ks,sums,buf,())) {j:Nat} (an:j<ks.length):xk V i j=ks.getD j 0:=by unfold xk;rw[pH h];show (List.getD (bP ks) j 0).toNat=_;rw[m2 an,bW an];rfl
theorem Ov {V:da} {i:Nat} {n:cZ} (h:V[i]? =some n):oX V i=n.2.2.2.2.1:=by unfold oX;rw[pH h]
theorem abM (V:da) (ay:List bc) (ks:fh) (j:Nat) (ey:aq):(((ks.take j).flatMap λk=>cont V ay k).filter (dW ey)).Sublist (low V ay ks):=by
 refine List.Sublist.trans List.filter_sublist ?_;unfold low;have:ks=ks.take j++ks.drop j:=(List.take_append_drop j ks).symm
 conv=>rhs;rw[this]
 rw[List.flatMap_append];exact List.sublist_append_left _ _
theorem NC {I:Nat} (h:I<=1):clen I<=192032:=by
 rcases Nat.le_one_iff_eq_zero_or_eq_one.1 h with rfl |rfl
 ·decide
 ·decide
structure lz (V:da) (t:aj) (ay:List bc) (d:aK) (i:Nat):Prop where
 tree:hp V t ay d i
 five: ∀q∈ay,q.length<=5
 srt: ∀P∈ay,P.Pairwise λa b=>Op.bytesLess a b=true
 gx:qY ay d=true
 gs:qX ay d=true
structure l2 (t:aj):Prop where
 srt:cH bK t
 len:t.length<=1000
 key: ∀p∈t,p.1.length<=100
theorem lz.cont {V:da} {t:aj} {ay:List bc} {d:aK} {i:Nat} (aT:l2 t) (h:lz V t ay d i):GD d ay.length (D.cont V ay i):=
 hp.cont_ok aT.srt aT.len aT.key h.five h.srt h.gx h.tree
structure ub (V:da) (t:aj) (P:bc) (ay:List bc) (d:aK) (aY:cZ) (ks:fh):Prop where
 kids:aY.2.2.1=bP ks
 piv:aY.2.1=cl P d
 parts:(partsOf d (cl P d)).length=ks.length
 one:1<=ks.length
 six:ks.length<=6
 span:rO (d,aY.2.1,())=some (partsOf d (cl P d),())
 buf: ∀m∈aY.2.2.2.2.1,gy m
 few:aY.2.2.2.2.1.length<=13
 good: ∀j,j<ks.length->lz V t ay (List.getD (partsOf d (cl P d)) j cO) (ks.getD j 0)
 low:cH bK (low V ay ks)/\pK d (D.low V ay ks)/\(D.low V ay ks).length<=6*clen ay.length/\ ∀p∈D.low V ay ks,p.1.length<=100+20*ay.length
theorem lz.inner {V:da} {t:aj} {P:bc} {ay:List bc} {d:aK} {i:Nat} (aT:l2 t) (h:lz V t (P::ay) d i):
  ∃ks sums buf,V[i]? =some ([],cl P d,bP ks,sums,buf,())/\ub V t P ay d ([],cl P d,bP ks,sums,buf,()) ks/\buf.length<=5/\(∀k∈ks,k<i)/\ks.Nodup/\(∀m∈buf,kc (m,d,())=some (true,())):=by
 obtain ⟨ks,sums,buf,s,E,O,aC,ba,bF,dN,ig⟩:=h.tree;obtain ⟨g1,g2⟩:=F7 h.gx;obtain ⟨bb,aU⟩:=aau h.gs;have j6:(cl P d).length<=5:=Nat.le_trans (ux P d) (h.five P gh);have kJ:(partsOf d (cl P d)).length=ks.length:=by rw[g1,uG,E]
 have good: ∀j,j<ks.length->lz V t ay (List.getD (partsOf d (cl P d)) j cO) (ks.getD j 0):=by
  intro j an;have hb:j<(partsOf d (cl P d)).length:=by omega
  refine ⟨(ig j an).1,λq aD=>h.five q (gO _ aD),λq aD=>h.srt q (gO _ aD),?_,?_⟩
  ·rw[bW hb];exact (g2 _ (dz hb)).2
  ·rw[bW hb];exact aU _ (dz hb)
 refine ⟨ks,sums,buf,s,⟨rfl,rfl,kJ,by omega,by omega,bb,λm hm=>(dN m hm).1,by show buf.length<=13;omega,good,?_⟩,bF,ba,aC,λm hm=>(dN m hm).2⟩;exact UA kJ.symm (by omega) (by rw[g1];exact OZ _ _ _ OQ (Ge (h.srt P gh) d)) (λq aD=>(g2 q aD).1) (λj an=>(good j an).cont aT)
theorem ub.contents {V:da} {t:aj} {P:bc} {ay:List bc} {d:aK} {aY:cZ} {ks:fh} (aT:l2 t) (al:ay.length<=1) (h:ub V t P ay d aY ks):
  ∀j,j<ks.length->pK (List.getD (partsOf d (cl P d)) j cO) (D.cont V ay (ks.getD j 0))/\(D.cont V ay (ks.getD j 0)).length<=200000:=by
 intro j an;have:=(h.good j an).cont aT;have E:=NC al;have O:=this.len;exact ⟨this.sp,by omega⟩
theorem ub.all {V:da} {t:aj} {P:bc} {ay:List bc} {d:aK} {aY:cZ} {ks:fh} (al:ay.length<=1) (h:ub V t P ay d aY ks) (j:Nat) (ey:aq):
  w2 (((ks.take j).flatMap λk=>D.cont V ay k).filter (dW ey),aY.2.2.2.2.1,())=some (gH (((ks.take j).flatMap λk=>D.cont V ay k).filter (dW ey)) aY.2.2.2.2.1,())/\(gH (((ks.take j).flatMap λk=>D.cont V ay k).filter (dW ey)) aY.2.2.2.2.1).length<10^11:=by
 obtain ⟨dD,dr,pt,rv⟩:=h.low;have rb:=abM V ay ks j ey;have aw:=NC al;have ae:cH bK (((ks.take j).flatMap λk=>D.cont V ay k).filter (dW ey)):=List.Pairwise.sublist rb dD;have ab:=rb.length_le;have J: ∀m∈aY.2.2.2.2.1,gX m:=λm hm=>(h.buf m hm).ok
 have af: ∀p∈((ks.take j).flatMap λk=>D.cont V ay k).filter (dW ey),p.1.length<=140:=λp aP=>by have:=rv p (rb.subset aP);omega
 refine ⟨ajK ae J (by omega) h.few (B:=140) (by omega) (by omega) af,?_⟩;have:=(NX ae J (by omega) h.few (B:=140) (by omega) (by omega) af aY.2.2.2.2.1.length (b7 _)).2.1;rw[eM]at this;exact this
theorem aaD {V:da} {t:aj} (aT:l2 t) {p:bZ} {b x:Nat} (aP:sj p V b x): ∀(ay:List bc) (d:aK) (i:Nat),ay.length<=2->lz V t ay d i->i<b->
  ∀(n B dI:Nat),ay.length<=n->B+20*ay.length<=4000->200<=B->dI*1024^ay.length<=10^11->acn (qU n) p i d (D.cont V ay i) (uY V x ay d i) B dI
 |[],d,i,al,bu,hx=>by
  intro n B dI aR adr km lI l e out ab di he W;have s:V[i]? =some (inS d t,[],[],[],[],()):=bu.tree;have bx:=aP i _ hx s;have aw:D.cont V [] i=inS d t:=by show (V.getD i im).1=_;rw[pH s]
  by_cases ai:i=x
  ·rw[if_pos ai]at bx;refine ⟨112,?_,.inr rfl,λ_=>by decide,λ_=>⟨λ_=>ai,λ_=>by decide⟩⟩;have L:(decide ((112:Int)=0))=false:=rfl;rw[if_neg (by decide),List.append_nil];simp only[sB,bx,L,cK,ak]
  ·rw[if_neg ai]at bx;refine ⟨e,?_,he,id,λh=>⟨λcu=>absurd h cu,λcu=>absurd cu ai⟩⟩;have hlen:=sc d t;have CH:=aT.len;have ady:dI<=10^11:=by simpa using lI
   have aa:=ab5 (qU n) (i:Int) d l p (inS d t) out e (by omega) (by omega) (by omega);have a1:(decide ((((List.length ([]:dR)):Int):Int)=(0:Int)))=true:=rfl;rw[aw];simp only[sB,bx,cw,cP,ax,mq,a1,aa]
 |P::ay,d,i,al,bu,hx=>by
  intro n B dI aR adr km lI l e out ab di he W;obtain ⟨ks,sums,buf,s,dA,oo,bd,-⟩:=bu.inner aT;have bx:=aP i _ hx s;have mb:ay.length<=1:=by simp at al;omega
  have aw:=z8 (V:=V) P ay s;obtain ⟨n,rfl⟩: ∃k,n=k+1:=⟨n-1,by simp at aR;omega⟩;by_cases ai:i=x
  ·rw[if_pos ai]at bx;refine ⟨112,?_,.inr rfl,λ_=>by decide,λ_=>⟨λ_=>.inl ai,λ_=>by decide⟩⟩;have L:(decide ((112:Int)=0))=false:=rfl;rw[if_neg (by decide),List.append_nil];simp only[sB,bx,L,cK,ak]
  ·rw[if_neg ai]at bx;simp only[gn]at adr aR lI;have aC:4^buf.length<=1024:=by have:4^buf.length<=4^5:=Nat.pow_le_pow_right (by omega) oo;omega
   have adz:dI*4^buf.length<=dI*1024:=Nat.mul_le_mul_left _ aC;have atj:dI*4^buf.length*1024^ay.length<=10^11:=by refine Nat.le_trans (gW _ adz) ?_;rw[Nat.mul_assoc,show 1024*1024^ay.length=1024^(ay.length+1) by rw[Nat.pow_succ,Nat.mul_comm]];exact lI
   have atk:dI*4^buf.length<=10^11:=by have:dI*4^buf.length*1<=dI*4^buf.length*1024^ay.length:=Nat.mul_le_mul_left _ (Nat.one_le_pow _ _ (by omega));omega
   have kids:=λj (an:j<ks.length)=>aaD aT aP ay (List.getD (partsOf d (cl P d)) j cO) (ks.getD j 0) (by omega) (dA.good j an) (by have:ks.getD j 0<i:=bd _ (by rw[bW an];exact dz an);omega) n (B+4*buf.length) (dI*4^buf.length) (by omega) (by omega) (by omega) atj
   obtain ⟨ey,eg,j,f1,f2,f3,f4,f5,f6,f7⟩:=aaI (qU n) p _ d _ ks (λk=>D.cont V ay k) (λk q ar=>uY V x ay q k ar) B dI dA.kids dA.parts dA.one dA.six dA.span dA.buf dA.few (by omega) km atk (dA.contents aT mb) kids l e ab di he;obtain ⟨g1,g2⟩:=dA.all mb j ey;have ady:l.length<=10^17:=by have:dI*1<=dI*4^buf.length:=Nat.mul_le_mul_left _ (Nat.one_le_pow _ _ (by omega));omega
   have g3:=ab5 (qU (n+1)) (i:Int) d l p _ out eg g2 (by omega) ady;refine ⟨eg,?_,f3,f6,λh=> ?_⟩
   ·have a1:(decide ((((List.length (bP ks)):Int):Int)=(0:Int)))=false:=bf (by have:=dA.one;rw[fL];omega);have B1:qU (n+1) (([],cl P d,bP ks,sums,buf,()),d,l,p,e,())=_:=f1;have at6:(if eg=0 then (D.cont V (P::ay) i).filter (dW l) else [])=(if eg=0 then (gH (((ks.take j).flatMap λk=>D.cont V ay k).filter (dW ey)) buf).filter (dW l) else []):=by
     by_cases j3:eg=0
     ·rw[if_pos j3,if_pos j3,aw,f5 j3,eM];exact (abd (low:=low V ay ks) dA.low.1 (λm hm=>(dA.buf m hm).ok) f2).symm
     ·rw[if_neg j3,if_neg j3]
    rw[at6];simp only[sB,bx,cw,cP,ax,mq,a1,cK,ak,B1,g1,g3]
   ·rw[f7 h];have pb:oX V i=buf:=Ov s;constructor
    ·rintro ⟨j,a,b,c⟩;refine .inr ⟨j,by rw[dA.parts];exact a,?_,?_⟩
     ·rw[pb];exact b
     ·rw[pb,oJ s a];exact c
    ·rintro (cu |⟨j,a,b,c⟩)
     ·exact absurd cu ai
     ·rw[dA.parts]at a;rw[pb]at b c;rw[oJ s a]at c;exact ⟨j,a,b,c⟩
theorem aa1 (id:Int) (d:aK) (l:aq) (p:bZ) (found:aj) (ab:found.length<=10^12):
  xP ((found.length:Int),(0:Int),(0:Int),id,d,l,p,(0:Int),found,[],())=some (.inr ((0:Int),id,d,l,p,(0:Int),found,())):=by
 obtain ⟨z,s,rfl⟩:=dM (b:=u5) (λi (q:aj)=>((found.length:Int),(i:Int),(0:Int),id,d,l,p,(0:Int),found,q,())) found.length (λi q=>q=found.take i) (λz=>z=.inr ((0:Int),id,d,l,p,(0:Int),found,())) (by omega)
  (λi u q aD=>by left;have L:=fe (i:=i) (l:=found) (by omega);have b6:(decide ((0:Int)<=((i:Nat):Int)))=true:=am (by omega);have w:=fO (j:=i) (by omega);have room:(decide ((q.length+List.length ([found[i]]:List (b5)))*40<=bp))=true:=am (by rw[ek,aD];simp;omega);refine ⟨q++[found[i]],by rw[aD,eY u],?_⟩;simp only[u5,Ir,IC,L,b6,bM,ak,bE,bW u,cw,cP,cK,ax,room,w])
  (λq aD=>by have L:=ga found;rw[eM]at aD;exact ⟨_,rfl,by simp only[u5,L,ax,aD]⟩) [] (by simp)
 exact s
theorem aqy (id:Int) (d:aK) (l:aq) (p:bZ) (found:aj) (e:Int) (he:e≠0):
  xP ((found.length:Int),(0:Int),(0:Int),id,d,l,p,e,found,[],())=some (.inl ((0:Int),id,d,l,p,e,[],()))\/
  xP ((found.length:Int),(0:Int),(0:Int),id,d,l,p,e,found,[],())=some (.inr ((0:Int),id,d,l,p,e,[],())):=by
 cases found with
 |nil=>
  right;exact m7 (n:=1) (by rw[kN];omega) (by have L:(decide ((0:Int)<((List.length ([]:aj)):Int)))=false:=rfl;simp only[eI,u5,L,ax])
 |cons x found=>
  left;exact m7 (n:=1) (by rw[kN];omega) (by have L:(decide ((0:Int)<((List.length (x::found)):Int)))=true:=am (by rw[gn];omega);have aa:(decide (e=0))=false:=bf he;simp only[eI,u5,Ir,L,aa,Int.le_refl,cw,bM,ak,cK,cP,ax])
def o0 (d:aK) (p:b5):Bool:=b9 d p.1
theorem acA (d:aK):dW [d]=o0 d:=by
 funext p
 simp[dW,o0]
theorem aiU (d:aK):jc [d]=λk=>b9 d k=true:=by
 funext k
 unfold jc;rw[lh]
theorem abc (T:c4) (n:cZ) (bx:kr (T.1,T.2.1,())=some (n,112,())) (d:aK):lR (T,d,())=some (112,[],()):=by have L:(decide ((112:Int)=0))=false:=rfl;simp only[lR,qV,vb,bx,L,cK,ak,cw]
theorem asp (T:c4) (aY:cZ) (af:aY.2.2.1=[]) (bx:kr (T.1,T.2.1,())=some (aY,0,())) (ab:aY.1.length<10^12) (d:aK):lR (T,d,())=some (0,aY.1.filter (o0 d),()):=by have L:=Oe aY.1 [d] ab (by simp);rw[acA]at L;have aL:(aY.1.filter (o0 d)).length<=aY.1.length:=hE _ _;have aa:=aa1 T.2.1 (([]:M),(([]:M),())) [d] T.1 (aY.1.filter (o0 d)) (by omega);have a1:(decide ((((aY.2.2.1.length):Int):Int)=(0:Int)))=true:=am (by rw[af];rfl);simp only[lR,qV,vb,bx,cw,cP,ax,mq,a1,L,aa,ak]
def ajp (V:da) (x:Nat) (P:bc) (ay:List bc) (ks:fh) (buf:cG) (ar:M->Prop):Prop:=
 ∃j,j<ks.length/\sk (kB buf ar) (List.getD (partsOf cO (cl P cO)) j cO)/\uY V x ay (List.getD (partsOf cO (cl P cO)) j cO) (ks.getD j 0) (kB buf ar)
theorem aqM {V:da} {t:aj} (aT:l2 t) {b x:Nat} {P:bc} {ay:List bc} {aY:cZ} {ks:fh} (al:ay.length<=1) (T:c4) (aP:sj T.1 V b x) (dA:ub V t P ay cO aY ks) (lM: ∀k∈ks,k<b)
  (bx:kr (T.1,T.2.1,())=some (aY,0,())) (d:aK) (ae:d.1.length<=200/\d.2.1.length<=200):
  ∃eg,lR (T,d,())=some (eg,(if eg=0 then (gH (low V ay ks) aY.2.2.2.2.1).filter (o0 d) else []),())/\si eg/\(eg≠0↔ajp V x P ay ks aY.2.2.2.2.1 (λk=>b9 d k=true)):=by
 have bI:kZ=999999999999999999999999+1:=rfl;have aC:4^aY.2.2.2.2.1.length<=67108864:=by have:4^aY.2.2.2.2.1.length<=4^13:=Nat.pow_le_pow_right (by omega) dA.few;omega
 have lI:1*4^aY.2.2.2.2.1.length*1024^ay.length<=10^11:=by have ba:1024^ay.length<=1024^1:=Nat.pow_le_pow_right (by omega) al;have:=Nat.mul_le_mul (show 1*4^aY.2.2.2.2.1.length<=67108864 by omega) ba;omega
 have ayB:=dA.few;have kids:=λj (an:j<ks.length)=>aaD aT aP ay (List.getD (partsOf cO (cl P cO)) j cO) (ks.getD j 0) (by omega) (dA.good j an) (by rw[bW an];exact lM _ (dz an)) 999999999999999999999999 (200+4*aY.2.2.2.2.1.length) (1*4^aY.2.2.2.2.1.length) (by omega) (by omega) (by omega) lI
 obtain ⟨ey,eg,j,f1,f2,f3,f4,f5,f6,f7⟩:=aaI (qU 999999999999999999999999) T.1 aY cO _ ks (λk=>D.cont V ay k) (λk q ar=>uY V x ay q k ar) 200 1 dA.kids dA.parts dA.one dA.six dA.span dA.buf dA.few (by omega) (by omega) (by omega) (dA.contents aT al) kids [d] 0 (by simp) (λy bo=>by obtain rfl:=fJ.1 bo;exact ae) (.inl rfl)
 obtain ⟨g1,g2⟩:=dA.all al j ey;obtain ⟨F,e7⟩: ∃F,gH (((ks.take j).flatMap λk=>D.cont V ay k).filter (dW ey)) aY.2.2.2.2.1=F:=⟨_,rfl⟩;rw[e7]at g1 g2;have L:=Oe F [d] (by omega) (by simp);have mV:(F.filter (dW [d])).length<=F.length:=hE _ _;have a1:(decide ((((aY.2.2.1.length):Int):Int)=(0:Int)))=false:=bf (by have:=dA.one;rw[dA.kids,fL];omega);have B1:IH (aY,(([]:M),(([]:M),())),[d],T.1,(0:Int),())=some (((ks.take j).flatMap λk=>D.cont V ay k).filter (dW ey),T.1,eg,()):=by unfold IH;rw[bI];exact f1
 refine ⟨eg,?_,f3,?_⟩
 ·by_cases j3:eg=0
  ·have an:=f5 j3;have auF:=abd (low:=low V ay ks) (l:=[d]) dA.low.1 (λm hm=>(dA.buf m hm).ok) f2;have ata:F.filter (dW [d])=(gH (low V ay ks) aY.2.2.2.2.1).filter (o0 d):=by rw[<-e7,an,eM,<-acA];exact auF
   have aa:=aa1 T.2.1 (([]:M),(([]:M),())) [d] T.1 (F.filter (dW [d])) (by omega);rw[if_pos j3,<-ata];subst j3;simp only[lR,qV,vb,bx,cw,cP,ax,mq,a1,cK,ak,B1,g1,L,aa]
  ·have d0:decide (eg=0)=false:=bf j3;rw[if_neg j3];rcases aqy T.2.1 (([]:M),(([]:M),())) [d] T.1 (F.filter (dW [d])) eg j3 with aa |aa
   ·simp only[lR,qV,vb,bx,cw,cP,ax,mq,a1,cK,ak,B1,g1,L,aa,d0]
   ·simp only[lR,qV,vb,bx,cw,cP,ax,mq,a1,cK,ak,B1,g1,L,aa,d0]
 ·rw[f7 rfl,aiU];exact Iff.rfl
def nk (V:da) (x:Nat):List bc->Nat->M->Prop
 |[],i,_=>i=x
 |_::ay,i,k=>i=x\/ ∃cj st,ft (oX V i).reverse k=.old cj st/\nk V x ay (xk V i (iM cj (V.getD i im).2.1)) cj
theorem F2 (k:M): ∀m:bc,iM k m<=m.length
 |[]=>b7 _
 |p::m=>by
  unfold iM;have:=F2 k m;split
  ·omega
  ·rw[gn];omega
theorem ar3 {V:da} {t:aj} (aT:l2 t) {P:bc} {ay:List bc} {d:aK} {aY:cZ} {ks:fh} (dA:ub V t P ay d aY ks) (hN:P.Pairwise λa b=>Op.bytesLess a b=true) (ai:partsOf d (cl P d)=o9 d.2.1 d.1 (cl P d)) (k:M) {p:b5} {b:Bool}
  (h:nT (D.cont V ay (ks.getD (iM k (cl P d)) 0)) k p b):nT (low V ay ks) k p b:=by
 have j6:ks.length=(cl P d).length+1:=by rw[<-dA.parts,ai,uG]
 have aw:=F2 k (cl P d);have lK:iM k (cl P d)<ks.length:=by omega
 constructor
 ·intro J;obtain ⟨s,E⟩:=h.1 J;refine ⟨?_,E⟩;rw[bW lK]at s;exact List.mem_flatMap.2 ⟨_,dz lK,s⟩
 ·intro J;obtain ⟨s,E⟩:=h.2 J;refine ⟨s,λq aD e=> ?_⟩;obtain ⟨kid,af,aD⟩:=List.mem_flatMap.1 aD;obtain ⟨j,an,rfl⟩:=List.mem_iff_getElem.1 af;have adN:=((dA.good j an).cont aT).sp;rw[bW an]at adN;have dO:=adN q aD;rw[e,ai]at dO;have:=acS d.2.1 k (cl P d) d.1 j OQ (Ge hN d) (by omega) dO;refine E q ?_ e;rw[<-this,bW an];exact aD
theorem abE {V:da} {t:aj} (aT:l2 t): ∀(ay:List bc) (d:aK) (i:Nat) (k:M),ay.length<=2->lz V t ay d i->k.length+100*ay.length<=1000->
  ∃(ct:List oE) (p:b5) (b:Bool) (n:Nat),1<=n/\n<=ay.length+1/\ct.length<=ay.length/\
   (∀(C:aj) (bw:M) (gs:List oE),zz C bw gs k (D.cont V ay i)-> ∃jA iR,zz C bw (ct++gs) jA iR/\nT iR jA p b)/\
   ∀(T:c4) (np x:Nat),sj T.1 V np x->i<np-> ∀(gs:List oE) (j:Nat),j+ay.length<=1000->
    (¬nk V x ay i k->eI l9 (ay.length+1) (k,(i:Int),gs,T,[],[],(0:Int),false,(j:Int),())=some (.inl ((0:Int),ct++gs,p,b,((j+n:Nat):Int),())))/\
    (nk V x ay i k-> ∃va:List oE,va.length<=ay.length/\eI l9 (ay.length+1) (k,(i:Int),gs,T,[],[],(0:Int),false,(j:Int),())=some (.inl ((112:Int),va++gs,pU,false,(0:Int),())))
 |[],d,i,k,al,bu,af=>by
  have s:V[i]? =some (inS d t,[],[],[],[],()):=bu.tree;have aw:D.cont V [] i=inS d t:=by show (V.getD i im).1=_;rw[pH s]
  have Rp:cH bK (inS d t):=List.Pairwise.filter _ aT.srt;have hlen:=sc d t;have CH:=aT.len;obtain ⟨p,b,L,aa⟩:=ai5 (inS d t) k Rp (by omega);refine ⟨[],p,b,1,b7 _,by simp,by simp,λC bw gs dL=>⟨k,_,dL,by rw[aw];exact aa⟩,λT np x aP hx gs j an=>⟨λai=> ?_,λai=> ?_⟩⟩
  ·have bx:=aP i _ hx s;rw[if_neg (show ¬i=x from ai)]at bx;have a1:(decide ((((List.length ([]:dR)):Int):Int)=(0:Int)))=true:=rfl;have w:=fO (j:=j) (by omega);show eI l9 1 _=_;simp only[eI,l9,bx,cw,cP,ax,mq,a1,ak,L,w,List.nil_append]
  ·have bx:=aP i _ hx s;rw[if_pos (show i=x from ai)]at bx;have a1:(decide ((112:Int)=0))=false:=rfl;refine ⟨[],by simp,?_⟩;simp only[List.length_nil,eI,l9,bx,a1,cK,ak,List.nil_append]
 |P::ay,d,i,k,al,bu,af=>by
  obtain ⟨ks,sums,buf,s,dA,oo,bd,-⟩:=bu.inner aT;obtain ⟨gx,-⟩:=F7 bu.gx;have hN:=bu.srt P gh;have mb:ay.length<=1:=by simp at al;omega
  simp only[gn]at af;have aw:=z8 (V:=V) P ay s;have Ca: ∀m∈buf,gX m:=λm hm=>(dA.buf m hm).ok
  have L:=ajZ k buf Ca (by omega) (by omega);have pb:oX V i=buf:=Ov s;have Re:(V.getD i im).2.1=cl P d:=by rw[pH s]
  have a1:(decide ((((List.length (bP ks)):Int):Int)=(0:Int)))=false:=bf (by have:=dA.one;rw[fL];omega);have m1: ∀x:b5,x.1=k->(x∈D.cont V (P::ay) i↔pS (ft buf.reverse k) (low V ay ks) x):=by intro x ai;rw[aw,Oq dA.low.1 Ca x,ai]
  cases je:ft buf.reverse k with
  |old cj st=>
   have gF:=acf (λm hm=>Ca m (List.mem_reverse.1 hm)) je;rw[List.length_reverse]at gF;have j6:ks.length=(cl P d).length+1:=by rw[<-dA.parts,gx,uG]
   have j2:=F2 cj (cl P d);have xU:iM cj (cl P d)<ks.length:=by omega
   have vh:(cl P d).length<=1000:=by have:=dA.six;omega
   have bq:=aj0 cj (cl P d) (Ge hN d) vh;obtain ⟨ct,p,b,n,c8,dP,n3,n4,mn⟩:=abE aT ay (List.getD (partsOf d (cl P d)) (iM cj (cl P d)) cO) (ks.getD (iM cj (cl P d)) 0) cj (by omega) (dA.good _ xU) (by omega);rw[je]at m1;have HZ:=oJ s xU;refine ⟨ct++[m9 k (.old cj st)],p,b,n+1,by omega,by simp;omega,by simp;omega,λC bw gs dL=> ?_,λT np x aP hx gs j an=> ?_⟩
   ·obtain ⟨jA,iR,a7,aX⟩:=n4 C bw (m9 k (.old cj st)::gs) ⟨k,_,λp b aL=>Pf m1 (λaU s2 h=>by
     injection h with O aC
     rw[<-O];exact ar3 aT dA hN gx cj aL),dL⟩
    exact ⟨jA,iR,by rw[List.append_assoc];exact a7,aX⟩
   ·have bx:=aP i _ hx s;have w:=fO (j:=j) (by omega);have hR:ks.getD (iM cj (cl P d)) 0<np:=by have:=bd _ (dz xU);rw[bW xU];omega
    obtain ⟨dU,c6⟩:=mn T np x aP hR (m9 k (.old cj st)::gs) (j+1) (by simp only[gn]at an;omega);have aX:(decide ((0:Int)<=((iM cj (cl P d):Nat):Int)))=true:=am (by omega);have c3:(decide (((iM cj (cl P d):Nat):Int)<((List.length (bP ks)):Int)))=true:=am (by rw[fL];omega);have e5:List.getD (bP ks) (iM cj (cl P d)) 0=((ks.getD (iM cj (cl P d)) 0:Nat):Int):=by rw[m2 xU,bW xU]
    have pg:nk V x (P::ay) i k↔(i=x\/nk V x ay (ks.getD (iM cj (cl P d)) 0) cj):=by
     show (i=x\/ ∃aU st,ft (oX V i).reverse k=.old aU st/\nk V x ay (xk V i (iM aU (V.getD i im).2.1)) aU)↔_;rw[pb,Re];constructor
     ·rintro (h |⟨aU,s2,O,aC⟩)
      ·exact .inl h
      ·rw[je]at O;injection O with ba bF
       subst ba;rw[HZ]at aC;exact .inr aC
     ·rintro (h |h)
      ·exact .inl h
      ·exact .inr ⟨cj,st,je,by rw[HZ];exact h⟩
    by_cases HX:i=x
    ·rw[if_pos HX]at bx;have cU:(decide ((112:Int)=0))=false:=rfl;refine ⟨λh=>absurd (pg.2 (.inl HX)) h,λ_=>⟨[],by simp,?_⟩⟩;simp only[gn,eI,l9,bx,cU,cK,ak,List.nil_append]
    ·rw[if_neg HX]at bx;have step:eI l9 ((P::ay).length+1) (k,(i:Int),gs,T,[],[],(0:Int),false,(j:Int),())=eI l9 (ay.length+1) (cj,((ks.getD (iM cj (cl P d)) 0:Nat):Int),m9 k (.old cj st)::gs,T,[],[],(0:Int),false,((j+1:Nat):Int),()):=by
      rw[gn]
      conv=>lhs;unfold eI
      rw[je]at L;simp only[l9,bx,cw,cP,ax,mq,a1,L,m9,bq,aX,c3,bM,ak,bE,e5,w]
     rw[step];refine ⟨λh=> ?_,λh=> ?_⟩
     ·rw[dU (λcu=>h (pg.2 (.inr cu)))];rw[List.append_assoc,show j+1+n=j+(n+1) by omega];rfl
     ·obtain ⟨va,g1,g2⟩:=c6 ((pg.1 h).resolve_left HX);refine ⟨va++[m9 k (.old cj st)],by simp;omega,?_⟩;rw[g2,List.append_assoc];rfl
  |gen v n=>
   rw[je]at m1;refine ⟨[m9 k (.gen v n)],pU,false,1,by omega,by omega,by simp,λC bw gs dL=>⟨[],[],⟨k,_,λp b _=>Pf m1 (λaU s2 h=>by cases h),dL⟩,λh=>(by cases h),λ_=>⟨rfl,λq aD=>(by cases aD)⟩⟩,λT np x aP hx gs j an=> ?_⟩;have bx:=aP i _ hx s;have w:=fO (j:=j) (by omega);have pg:nk V x (P::ay) i k↔i=x:=by show (i=x\/ ∃aU st,ft (oX V i).reverse k=.old aU st/\_)↔_;rw[pb,je];exact ⟨λh=>h.elim id (λ⟨_,_,h,_⟩=>by cases h),.inl⟩
   rw[je]at L;refine ⟨λh=> ?_,λh=>⟨[],by simp,?_⟩⟩
   ·rw[if_neg (λcu=>h (pg.2 cu))]at bx;simp only[gn,eI,l9,bx,cw,cP,ax,mq,a1,L,m9,ak,w];rfl
   ·rw[if_pos (pg.1 h)]at bx;have cU:(decide ((112:Int)=0))=false:=rfl;simp only[gn,eI,l9,bx,cU,cK,ak,List.nil_append]
  |gone=>
   rw[je]at m1;refine ⟨[m9 k .gone],pU,false,1,by omega,by omega,by simp,λC bw gs dL=>⟨[],[],⟨k,_,λp b _=>Pf m1 (λaU s2 h=>by cases h),dL⟩,λh=>(by cases h),λ_=>⟨rfl,λq aD=>(by cases aD)⟩⟩,λT np x aP hx gs j an=> ?_⟩;have bx:=aP i _ hx s;have w:=fO (j:=j) (by omega);have pg:nk V x (P::ay) i k↔i=x:=by show (i=x\/ ∃aU st,ft (oX V i).reverse k=.old aU st/\_)↔_;rw[pb,je];exact ⟨λh=>h.elim id (λ⟨_,_,h,_⟩=>by cases h),.inl⟩
   rw[je]at L;refine ⟨λh=> ?_,λh=>⟨[],by simp,?_⟩⟩
   ·rw[if_neg (λcu=>h (pg.2 cu))]at bx;simp only[gn,eI,l9,bx,cw,cP,ax,mq,a1,L,m9,ak,w];rfl
   ·rw[if_pos (pg.1 h)]at bx;have cU:(decide ((112:Int)=0))=false:=rfl;simp only[gn,eI,l9,bx,cU,cK,ak,List.nil_append]
theorem ai2 (e:Int) (ct:List oE) (p:b5) (b:Bool) (ab:ct.length<=1000):Ee (e,ct,p,b,(0:Int),())=some (.inl (e,p,b,(0:Int),())):=by
 obtain ⟨r,s,rfl⟩:=Ap (b:=wc) (λd=>d.2.1.length) (λd=> ∃ct,d=(e,ct,p,b,(0:Int),())) (λr=>r=.inl (e,p,b,(0:Int),()))
  (λd u=>by
   obtain ⟨ct,rfl⟩:=u;cases ct with
   |nil=>exact .inr ⟨_,rfl,rfl⟩
   |cons x ct=>
    left;have L:decide ((0:Int)>(0:Int))=false:=rfl;simp only[wc,List.isEmpty_cons,ax,List.head?_cons,List.tail_cons,L];exact ⟨_,rfl,⟨ct,rfl⟩,by simp⟩) (e,ct,p,b,(0:Int),()) ⟨ct,rfl⟩ (by show ct.length<_;omega)
 exact s
theorem ajW {V:da} {t:aj} (aT:l2 t) (ay:List bc) (d:aK) (i:Nat) (k:M) (al:ay.length<=2) (bu:lz V t ay d i) (af:k.length<=500):
  ∃(q:b5) (c:Bool) (n:Nat),1<=n/\n<=ay.length+1/\nT (D.cont V ay i) k q c/\
   ∀(T:c4) (np x:Nat),sj T.1 V np x->i<np->T.2.1=(i:Int)->
    (¬nk V x ay i k->pF (T,k,())=some (q,c,(n:Int),(0:Int),()))/\(nk V x ay i k->pF (T,k,())=some (pU,false,(0:Int),(112:Int),())):=by
 obtain ⟨ct,p,b,n,c8,dP,n3,n4,mn⟩:=abE aT ay d i k al bu (by omega);obtain ⟨jA,iR,a7,aX⟩:=n4 (D.cont V ay i) k [] ⟨rfl,rfl⟩;rw[List.append_nil]at a7;obtain ⟨q,c,L,aa⟩:=ai8 (D.cont V ay i) k (n:Int) (by omega) ct jA iR p b (by omega) a7 aX;refine ⟨q,c,n,c8,dP,aa,λT np x aP hx au=> ?_⟩;obtain ⟨dU,c6⟩:=mn T np x aP hx [] 0 (by omega);rw[List.append_nil]at dU;constructor
 ·intro h;have s:=dU h;have E:Fk (k,(i:Int),[],T,[],[],(0:Int),false,(0:Int),())=some (.inl ((0:Int),ct,p,b,(n:Int),())):=by
   refine m7 (n:=ay.length+1) (by rw[kN];omega) ?_;have:((0+n:Nat):Int)=(n:Int):=by omega
   rw[this]at s;exact s
  simp only[pF,au,E,L]
 ·intro h;obtain ⟨va,g1,g2⟩:=c6 h;rw[List.append_nil]at g2;have E:Fk (k,(i:Int),[],T,[],[],(0:Int),false,(0:Int),())=some (.inl ((112:Int),va,pU,false,(0:Int),())):=m7 (n:=ay.length+1) (by rw[kN];omega) g2;simp only[pF,au,E,ai2 112 va pU false (by omega)]
theorem ah3 (x:e4) (h:Bk x):l2 (oY x):=by
 have auJ: ∀y∈x.1.take 40,rI y:=λy bo=>h.t.1 y (List.mem_of_mem_take bo)
 have hlen:=FW (x.1.take 40);rw[eG]at hlen;refine ⟨abh _,?_,λp aP=> ?_⟩
 ·unfold oY;omega
 ·obtain ⟨y,bo,rfl⟩:=Oc _ p aP;have s:=auJ y bo;have:=(ND y.1 s.1.1 s.1.2).2.1;show (lW y.1).length<=100;omega
theorem asy (x:e4) {V:da} {root:Nat} (h:hp V (oY x) (jX x) cO root):lz V (oY x) (jX x) cO root:=by have hm:=GK x;have ae:=FY _ hm;exact ⟨h,ae.2,abj _ hm,ar7 _ hm,acv _ hm⟩
theorem aj2 (x:e4):(jX x).length<=2:=(FY _ (GK x)).1
theorem acT (V:da):sj (mk V (λ_=>1),()) V V.length V.length:=by intro i n u aR;obtain ⟨s,E⟩:=iC.1 aR;rw[if_neg (by omega),apW u,E]
theorem acz {V:da} {t:aj} (aT:l2 t) {x:Nat}: ∀{ay:List bc} {d:aK} {i:Nat} {ar:M->Prop},lz V t ay d i->uY V x ay d i ar->x<=i
 |[],d,i,ar,_,h=>by have h:i=x:=h;omega
 |P::ay,d,i,ar,bu,h=>by
  obtain ⟨ks,sums,buf,s,dA,oo,bd,-⟩:=bu.inner aT;rcases h with h |⟨j,a,b,c⟩
  ·omega
  ·rw[dA.parts]at a;rw[oJ s a]at c;have E:=acz aT (dA.good j a) c;have:ks.getD j 0<i:=bd _ (by rw[bW a];exact dz a);omega
theorem acy {V:da} {t:aj} (aT:l2 t) {x:Nat}: ∀{ay:List bc} {d:aK} {i:Nat} {k:M},lz V t ay d i->nk V x ay i k->x<=i
 |[],d,i,k,_,h=>by have h:i=x:=h;omega
 |P::ay,d,i,k,bu,h=>by
  obtain ⟨ks,sums,buf,s,dA,oo,bd,-⟩:=bu.inner aT;obtain ⟨gx,-⟩:=F7 bu.gx;have j6:ks.length=(cl P d).length+1:=by rw[<-dA.parts,gx,uG]
  rcases h with h |⟨cj,st,a,b⟩
  ·omega
  ·have Re:(V.getD i im).2.1=cl P d:=by rw[pH s]
   have aw:=F2 cj (cl P d);have an:iM cj (cl P d)<ks.length:=by omega
   rw[Re,oJ s an]at b;have E:=acy aT (dA.good _ an) b;have:ks.getD (iM cj (cl P d)) 0<i:=bd _ (by rw[bW an];exact dz an);omega
structure ly (V:da) (t:aj) (ay:List bc) (root:Nat):Prop where
 tab:l2 t
 good:lz V t ay cO root
 two:ay.length<=2
 lt:root<V.length
theorem ly.made (x:e4) (h:Bk x) {V:da} {root:Nat} (aT:hp V (oY x) (jX x) cO root):ly V (oY x) (jX x) root:=
 ⟨ah3 x h,asy x aT,aj2 x,aT.lt⟩
theorem ly.content {V:da} {t:aj} {ay:List bc} {root:Nat} (h:ly V t ay root):GD cO ay.length (cont V ay root):=h.good.cont h.tab
theorem ajt {I:Nat} (h:I<=2):clen I<=36870176:=by
 have:I=0\/I=1\/I=2:=by omega
 rcases this with rfl |rfl |rfl<;>decide
theorem ly.clen {V:da} {t:aj} {ay:List bc} {root:Nat} (h:ly V t ay root):(cont V ay root).length<=36870176:=Nat.le_trans h.content.len (ajt h.two)
theorem ly.scanX {V:da} {t:aj} {ay:List bc} {root:Nat} (h:ly V t ay root) (T:c4) {b x:Nat} (aP:sj T.1 V b x) (J:root<b) (au:T.2.1=(root:Int)) (d:aK) (ae:d.1.length<=200/\d.2.1.length<=200):
  ∃e,lR (T,d,())=some (e,(if e=0 then (cont V ay root).filter (o0 d) else []),())/\si e/\(e≠0↔uY V x ay cO root (λk=>b9 d k=true)):=by
 match ay,h with
 |[],h=>
  have s:V[root]? =some (inS cO t,[],[],[],[],()):=h.good.tree;have bx:=aP root _ J s;rw[<-au]at bx;have aw:cont V [] root=inS cO t:=by show (V.getD root im).1=_;rw[pH s]
  by_cases ai:root=x
  ·rw[if_pos ai]at bx;exact ⟨112,abc T im bx d,.inr rfl,⟨λ_=>ai,λ_=>by decide⟩⟩
  ·rw[if_neg ai]at bx;have ab:=sc cO t;have ih:=h.tab.len;refine ⟨0,?_,.inl rfl,⟨λcu=>absurd rfl cu,λcu=>absurd cu ai⟩⟩;rw[if_pos rfl,aw];exact asp T (inS cO t,[],[],[],[],()) rfl bx (by show (inS cO t).length<_;omega) d
 |P::ay,h=>
  obtain ⟨ks,sums,buf,s,dA,oo,bd,-⟩:=h.good.inner h.tab;have bx:=aP root _ J s;rw[<-au]at bx;have al:ay.length<=1:=by have:=h.two;simp at this;omega
  by_cases ai:root=x
  ·rw[if_pos ai]at bx;exact ⟨112,abc T im bx d,.inr rfl,⟨λ_=>.inl ai,λ_=>by decide⟩⟩
  ·rw[if_neg ai]at bx;obtain ⟨e,L,aa,a1⟩:=aqM h.tab al T aP dA (λk af=>by have:=bd k af;omega) bx d ae;refine ⟨e,?_,aa,?_⟩
   ·rw[z8 P ay s];exact L
   ·rw[a1];have pb:oX V root=buf:=Ov s;constructor
    ·rintro ⟨j,a,b,c⟩;refine .inr ⟨j,by rw[dA.parts];exact a,by rw[pb];exact b,by rw[pb,oJ s a];exact c⟩
    ·rintro (cu |⟨j,a,b,c⟩)
     ·exact absurd cu ai
     ·rw[dA.parts]at a;rw[pb]at b c;rw[oJ s a]at c;exact ⟨j,a,b,c⟩
theorem ly.scan {V:da} {t:aj} {ay:List bc} {root:Nat} (h:ly V t ay root) (sh:hi) (d:aK) (ae:d.1.length<=200/\d.2.1.length<=200):
  lR (((D.mk V (λ_=>1),()),((root:Int),(sh,()))),d,())=some (0,(cont V ay root).filter (o0 d),()):=by
 obtain ⟨e,L,aa,a1⟩:=h.scanX ((D.mk V (λ_=>1),()),((root:Int),(sh,()))) (acT V) h.lt rfl d ae;have:e=0:=by
  rcases Classical.em (e=0) with cu |cu
  ·exact cu
  ·have:=acz h.tab h.good (a1.1 cu);have:=h.lt;omega
 subst this;rw[if_pos rfl]at L;exact L
theorem aqL (l:aj) (ab:l.length<=10^12):wh (l,l,())=some (true,()):=by
 obtain ⟨z,s,rfl⟩:=dM (b:=DH) (λi (_:G)=>(l,l,(i:Int),())) l.length (λi _=>True) (λz=>z=.inr ()) (by omega)
  (λi u _ _=>by left;have L:=fe (i:=i) (l:=l) (by omega);have b6:(decide ((0:Int)<=((i:Nat):Int)))=true:=am (by omega);have w:=fO (j:=i) (by omega);exact ⟨(),trivial,by simp only[DH,L,b6,bM,ak,bE,oI,cP,ax,w]⟩)
  (λ_ _=>by have L:=ga l;exact ⟨_,rfl,by simp only[DH,L,ax]⟩) () trivial
 have dq:L7 (l,l,(0:Int),())=some (.inr ()):=s;simp only[wh,cw,cP,ax,dq]
theorem asA {m:bB} (hm:gy m): ∃cr:aq,jd (m,())=some (cr,())/\cr.length<=2/\ ∀w∈cr,w.1.length<=200/\w.2.1.length<=200:=by
 obtain ⟨-,R,cr,-,-,-,hO,-,hw⟩:=wU hm;refine ⟨cr,hO,hw,?_⟩;have cy:=hm.ok;have he:=hm.ends;have key: ∀k∈jl,k.length<=200/\(k++[0]).length<=200:=λk af=>by have:=(tX k af).2;simp;omega
 have pre: ∀p∈e0,(dF p).1.length<=200/\(dF p).2.1.length<=200:=λp aP=>by obtain ⟨-,bG,dm,-⟩:=uB aP;have:=rS p aP;rw[bG];omega
 by_cases s:m.1=1
 ·have d1:decide (m.1=1)=true:=am s;have af:=cy.key (.inl s);simp only[jd,k3,d1,ak,(sd af).2]at hO;have:cr=_:=(congrArg Prod.fst (eW hO)).symm;intro w lP;rw[this]at lP;obtain rfl:=fJ.1 lP;exact key _ af
 ·have d1:decide (m.1=1)=false:=bf s;by_cases E:m.1=2
  ·have d2:decide (m.1=2)=true:=am E;have af:=cy.key (.inr E);simp only[jd,k3,d1,d2,ak,ax,(sd af).2]at hO;have:cr=_:=(congrArg Prod.fst (eW hO)).symm;intro w lP;rw[this]at lP;obtain rfl:=fJ.1 lP;exact key _ af
  ·have d2:decide (m.1=2)=false:=bf E;by_cases aC:m.1=4
   ·have d4:decide (m.1=4)=true:=am aC;have W:=cy.mv s E (by omega) (by omega);obtain ⟨-,fV,-⟩:=kO _ (kk _ W.from_);obtain ⟨-,aJ,-⟩:=kO _ (kk _ W.to_);simp only[jd,k3,d1,d2,d4,ak,ax,fV,aJ]at hO;have:cr=_:=(congrArg Prod.fst (eW hO)).symm;intro w lP;rw[this]at lP;rcases eO.1 lP with rfl |lP
    ·exact pre _ W.from_
    ·obtain rfl:=fJ.1 lP;exact pre _ W.to_
   ·have d4:decide (m.1=4)=false:=bf aC;by_cases ba:m.1=5
    ·have d5:decide (m.1=5)=true:=am ba;have W:=cy.mv s E (by omega) (by omega);obtain ⟨-,aJ,-⟩:=kO _ (kk _ W.to_);simp only[jd,k3,d1,d2,d4,d5,ak,ax,aJ]at hO;have:cr=_:=(congrArg Prod.fst (eW hO)).symm;intro w lP;rw[this]at lP;obtain rfl:=fJ.1 lP;exact pre _ W.to_
    ·have d5:decide (m.1=5)=false:=bf ba;simp only[jd,k3,d1,d2,d4,d5,ax]at hO;have:cr=_:=(congrArg Prod.fst (eW hO)).symm;intro w lP;rw[this]at lP;obtain rfl:=fJ.1 lP;exact he
def Gj:bc:=((we ()).map (·.1)).getD []
def acX:Bool:=match we () with
 |some (l,())=>decide (l.length=66)&&l.all λk=>decide (k.length<=20)
 |none=>false
theorem apR:acX=true:=by decide+kernel
theorem arA:we ()=some (Gj,())/\Gj.length=66/\ ∀k∈Gj,k.length<=20:=by
 have h:=apR;unfold acX at h;unfold Gj;cases e:we () with
 |none=>rw[e]at h;cases h
 |some q=>
  obtain ⟨l,ad⟩:=q;rw[e]at h;simp only[bN,dJ,fy]at h;exact ⟨rfl,h.1,h.2⟩
theorem aiR {t:aj} {l:cG} (ae:cH bK t) (h: ∀m∈l,gX m) (ab:t.length<=1200000) (aR:l.length<=13) {B:Nat} (di:100<=B) (km:B<=900) (af: ∀p∈t,p.1.length<=B):
  N8 (t,l,())=some (gH t l,()):=by
 obtain ⟨z,s,rfl⟩:=dM (b:=JX) (λi (q:aj)=>(q,l,(i:Int),())) l.length (λi q=>q=gH t (l.take i)) (λz=>z=.inl (gH t l,())) (by omega)
  (λi u q aD=>by left;have L:=fe (i:=i) (l:=l) (by omega);have b6:(decide ((0:Int)<=((i:Nat):Int)))=true:=am (by omega);have w:=fO (j:=i) (by omega);obtain ⟨dY,a2,a3⟩:=NX ae h ab aR di km af i (by omega);rw[<-aD]at dY a2 a3;have aa:=(Ou q l[i] (h _ (dz u)) dY a2 a3).2;refine ⟨iw q l[i],by rw[aD,eY u,NW],?_⟩;simp only[JX,L,b6,bM,ak,bE,bW u,aa,w])
  (λq aD=>by have L:=ga l;rw[eM]at aD;exact ⟨_,rfl,by simp only[JX,L,ax,aD]⟩) t rfl
 have dq:ZL (t,l,(0:Int),())=some (.inl (gH t l,())):=s;simp only[N8,dq]
theorem aaN {V:da} {t:aj} (aT:l2 t): ∀(ay:List bc) (d:aK) (i:Nat),ay.length<=2->lz V t ay d i-> ∀n,ay.length+1<=n->
  C3 n ((mk V (λ_=>1),()),(i:Int),())=some (cont V ay i,())
 |[],d,i,al,bu,n,aR=>by
  obtain ⟨n,rfl⟩: ∃k,n=k+1:=⟨n-1,by simp at aR;omega⟩;have s:V[i]? =some (inS d t,[],[],[],[],()):=bu.tree;obtain ⟨bd,E⟩:=iC.1 s;have bx:=NL (V:=V) (r:=λ_=>1) bd;rw[E]at bx;have aw:cont V [] i=inS d t:=by show (V.getD i im).1=_;rw[pH s]
  have a1:(decide ((((List.length ([]:dR)):Int):Int)=(0:Int)))=true:=rfl;rw[aw];show C4 _ _=_;simp only[C4,bx,a1,ak]
 |P::ay,d,i,al,bu,n,aR=>by
  obtain ⟨n,rfl⟩: ∃k,n=k+1:=⟨n-1,by simp at aR;omega⟩;obtain ⟨ks,sums,buf,s,dA,oo,bd,-⟩:=bu.inner aT;have mb:ay.length<=1:=by simp at al;omega
  obtain ⟨p9,E⟩:=iC.1 s;have bx:=NL (V:=V) (r:=λ_=>1) p9;rw[E]at bx;have kids:=λj (an:j<ks.length)=>aaN aT ay (List.getD (partsOf d (cl P d)) j cO) (ks.getD j 0) (by omega) (dA.good j an) n (by simp at aR;omega)
  have p4:=dA.contents aT mb;have j2:=NC mb;obtain ⟨dD,dr,pt,rv⟩:=dA.low;obtain ⟨z,g1,rfl⟩:=dM (b:=Jg (C3 n)) (λi (q:aj)=>((i:Int),(mk V (λ_=>1),()),(([],cl P d,bP ks,sums,buf,()):cZ),q,())) ks.length (λi q=>q=(ks.take i).flatMap λk=>cont V ay k) (λz=>z=.inl ((([],cl P d,bP ks,sums,buf,()):cZ),low V ay ks,())) (by have:=dA.six;omega)
   (λj an q aD=>by
    left;have L:(decide (((j:Nat):Int)<((List.length (bP ks)):Int)))=true:=am (by rw[fL];omega);have b6:(decide ((0:Int)<=((j:Nat):Int)))=true:=am (by omega);have w:=fO (j:=j) (by have:=dA.six;omega);have aa:=kids j an;rw[bW an]at aa;have aw:=(p4 j an).2;rw[bW an]at aw;have aen:q.length<=1200000:=by
     have:=(abM V ay ks j [cO]).length_le;have rb:((ks.take j).flatMap λk=>cont V ay k).length<=(low V ay ks).length:=by
      unfold low;have:ks=ks.take j++ks.drop j:=(List.take_append_drop j ks).symm
      conv=>rhs;rw[this]
      rw[List.flatMap_append,fr];omega
     rw[aD];omega
    have room:(decide ((q.length+List.length (cont V ay ks[j]))*40<=bp))=true:=am (by rw[ek];omega);refine ⟨q++cont V ay ks[j],by rw[aD,eY an,List.flatMap_append];simp,?_⟩;simp only[Jg,L,b6,bM,ak,bE,m2 an,aa,room,w])
   (λq aD=>by have L:(decide (((ks.length:Nat):Int)<((List.length (bP ks)):Int)))=false:=bf (by rw[fL];omega);rw[eM]at aD;refine ⟨_,rfl,?_⟩;simp only[Jg,L,ax,aD];rfl) [] (by simp)
  have j0:V6 (C3 n) ((0:Int),(mk V (λ_=>1),()),(([],cl P d,bP ks,sums,buf,()):cZ),[],())=some (.inl ((([],cl P d,bP ks,sums,buf,()):cZ),low V ay ks,())):=g1;have a1:(decide ((((List.length (bP ks)):Int):Int)=(0:Int)))=false:=bf (by have:=dA.one;rw[fL];omega);have bq:=aiR dD (λm hm=>(dA.buf m hm).ok) (by omega) dA.few (B:=140) (by omega) (by omega) (λp aP=>by have:=rv p aP;omega);rw[z8 P ay s];show C4 _ _=_;simp only[C4,bx,a1,ax,j0,bq]
theorem ly.all {V:da} {t:aj} {ay:List bc} {root:Nat} (h:ly V t ay root) (sh:hi):aba (((D.mk V (λ_=>1),()),((root:Int),(sh,()))),())=some (cont V ay root,()):=by have:=aaN h.tab ay cO root h.two h.good kZ (by have:=h.two;rw[kN];omega);have this:YG ((D.mk V (λ_=>1),()),(root:Int),())=some (cont V ay root,()):=this;simp only[aba,this]
theorem a20 (y:n5) (bo:qo y): ∃m,rG (y,())=some (m,())/\gy m:=by obtain ⟨k,v,f,t,d,sW,-⟩:=FK y bo.1;exact ⟨_,sW,y,bo,sW⟩
def oW (q:cN) (k:Nat) (I:Int):cN:=q.set k ((q.getD k ef).1,((q.getD k ef).2.1,((q.getD k ef).2.2.1+I,(q.getD k ef).2.2.2)))
def ky (I:Int) (ks:fh) (q:cN):cN:=ks.foldl (λq k=>oW q k I) q
theorem aaJ (q:cN) (k:Nat) (I:Int):(oW q k I).length=q.length:=by simp[oW]
theorem On (I:Int) (ks:fh): ∀q:cN,(ky I ks q).length=q.length:=by
 unfold ky
 induction ks with
 |nil=>intro q;rfl
 |cons k ks aQ=>intro q;rw[List.foldl_cons,aQ,aaJ]
theorem aa4 (I:Int) (ks:fh) (k:Nat) (q:cN):ky I (ks++[k]) q=oW (ky I ks q) k I:=by unfold ky;rw[List.foldl_append];rfl
theorem y7 {α:Type} {l:List α} {i:Nat} {v I:α} (h:i<l.length):List.getD (l.set i v) i I=v:=by rw[bW (by rw[List.length_set];exact h)];simp
theorem Ec {α:Type} {l:List α} {i j:Nat} {v I:α} (h:i≠j):List.getD (l.set i v) j I=l.getD j I:=by unfold List.getD;rw[List.getElem?_set_ne h]
theorem abn {q:cN} {k i:Nat} {I:Int} (h:k≠i):List.getD (oW q k I) i ef=q.getD i ef:=Ec h
theorem arR {q:cN} {k:Nat} {I:Int} (h:k<q.length):List.getD (oW q k I) k ef=((q.getD k ef).1,((q.getD k ef).2.1,((q.getD k ef).2.2.1+I,(q.getD k ef).2.2.2))):=y7 h
theorem AX (I:Int) {i:Nat}: ∀(ks:fh) (q:cN),i∉ks->List.getD (ky I ks q) i ef=q.getD i ef
 |[],q,_=>rfl
 |k::ks,q,h=>by
  have s:k≠i:=λe=>h (by rw[e];exact gh)
  have:=AX I ks (oW q k I) (λhm=>h (gO _ hm));show List.getD (ky I ks (oW q k I)) i ef=_;rw[this,abn s]
theorem abH (I:Int) {i:Nat}: ∀(ks:fh) (q:cN),ks.Nodup->i∈ks->i<q.length->
  List.getD (ky I ks q) i ef=((q.getD i ef).1,((q.getD i ef).2.1,((q.getD i ef).2.2.1+I,(q.getD i ef).2.2.2)))
 |k::ks,q,aR,h,u=>by
  have Q6:=List.nodup_cons.1 aR;show List.getD (ky I ks (oW q k I)) i ef=_;rcases eO.1 h with rfl |h
  ·rw[AX I ks _ Q6.1,arR u]
  ·have s:k≠i:=λe=>Q6.1 (by rw[e];exact h)
   rw[abH I ks _ Q6.2 h (by rw[aaJ];exact u),abn s]
theorem Z7 {p:cN} {i:Nat} (h:i<p.length):rM ((p,()),(i:Int),())=some ((p.getD i ef).1,()):=by rw[apg h,bW h]
def put (p:cN) (id:Nat) (d:jb):cN:=if id=p.length then p++[d] else p.set id d
def O7 (p:cN) (id:Nat):Prop:=(∀i,i<id->i<p.length/\(p.getD i ef).1=true)/\(id=p.length\/(id<p.length/\(p.getD id ef).1=false))
theorem air {p:cN} {id:Nat} (h:O7 p id) (ab:p.length<=1000):BU (p,())=some ((if id=p.length then (-1:Int) else (id:Int)),()):=by
 have hle:id<=p.length:=by rcases h.2 with h |h<;>omega
 obtain ⟨z,s,E⟩:=dM (b:=xx) (λi (_:G)=>(p,(p.length:Int),(i:Int),())) id (λ_ _=>True) (λz=>(id=p.length/\z=.inr ())\/(id≠p.length/\z=.inl ((id:Int),()))) (by omega)
  (λi u _ _=>by left;obtain ⟨O,aC⟩:=h.1 i u;have L:=fe (i:=i) (l:=p) (by omega);have aa:=dZ i;have a1:=fO (j:=i) (by omega);have Qm:(p.getD i (false,(false,((0:Int),((([]:List (b5)),(([]:bc),(([]:List (Int)),(([]:List (eQ)),(([]:List (bB)),()))))),()))))).1=true:=aC;exact ⟨(),trivial,by simp only[xx,L,aa,ak,ax,bM,bE,Fs,Qm,cP,a1]⟩)
  (λ_ _=>by
   rcases h.2 with O |⟨O,aC⟩
   ·have L:(decide (((id:Nat):Int)<((p.length):Int)))=false:=bf (by omega);exact ⟨_,.inl ⟨O,rfl⟩,by simp only[xx,L,ax]⟩
   ·have L:=fe (i:=id) (l:=p) (by omega);have aa:=dZ id;have Qm:(p.getD id (false,(false,((0:Int),((([]:List (b5)),(([]:bc),(([]:List (Int)),(([]:List (eQ)),(([]:List (bB)),()))))),()))))).1=false:=aC;exact ⟨_,.inr ⟨by omega,rfl⟩,by simp only[xx,L,aa,ak,bM,bE,Fs,Qm,cK]⟩) () trivial
 have dq:P8 (p,(p.length:Int),0,())=some z:=s;rcases E with ⟨O,rfl⟩|⟨O,rfl⟩
 ·rw[if_pos O];simp only[BU,dq]
 ·rw[if_neg O];simp only[BU,dq]
theorem acJ {p:cN} {id:Nat} {d:jb} (h:id<=p.length):(put p id d).length=if id=p.length then p.length+1 else p.length:=by unfold put;split<;>simp
theorem Ur {p:cN} {id i:Nat} {d:jb} (h:i≠id) (u:i<p.length):List.getD (put p id d) i ef=p.getD i ef:=by
 unfold put;split
 ·rw[M8 u]
 ·rw[Ec (Ne.symm h)]
theorem aji {p:cN} {n:cZ} {ks:fh} {id:Nat} (af:n.2.2.1=bP ks) (hu: ∀k∈ks,k<p.length/\(p.getD k ef).1=true) (au: ∀k∈ks,0<=(p.getD k ef).2.2.1/\(p.getD k ef).2.2.1<=10^6) (aR:ks.Nodup) (ab:ks.length<=1000) (aP:p.length<=900) (hid:O7 p id):
  qs ((p,()),n,())=some ((ky 1 ks (put p id (true,(false,((1:Int),(n,()))))),()),(id:Int),(0:Int),()):=by
 have hle:id<=p.length:=by rcases hid.2 with h |h<;>omega
 have HZ: ∀k∈ks,k≠id:=by
  intro k af e;obtain ⟨s,E⟩:=hu k af;rcases hid.2 with h |⟨h,O⟩
  ·omega
  ·rw[e,O]at E;cases E
 obtain ⟨P,hN⟩: ∃P,put p id (true,(false,((1:Int),(n,()))))=P:=⟨_,rfl⟩;have ayu:p.length<=P.length:=by rw[<-hN,acJ hle];split<;>omega
 have C0:Nh (bP ks,((bP ks).length:Int),0,(p,()),n,[],())=some (.inr ((p,()),n,[],())):=by
  obtain ⟨z,s,rfl⟩:=dM (b:=Eh) (λi (_:G)=>(bP ks,((bP ks).length:Int),(i:Int),(p,()),n,[],())) ks.length (λ_ _=>True) (λz=>z=.inr ((p,()),n,[],())) (by omega)
   (λi u _ _=>by left;have L:(decide (((i:Nat):Int)<((List.length (bP ks)):Int)))=true:=am (by rw[fL];omega);have aa:=dZ i;have a1:=fO (j:=i) (by omega);obtain ⟨s,E⟩:=hu _ (dz u);exact ⟨(),trivial,by simp only[Eh,L,aa,ak,bM,bE,m2 u,Z7 s,E,cP,ax,a1]⟩)
   (λ_ _=>by have L:(decide (((ks.length:Nat):Int)<((List.length (bP ks)):Int)))=false:=bf (by rw[fL];omega);exact ⟨_,rfl,by simp only[Eh,L,ax]⟩) () trivial
  exact s
 have dD:Ni ((id:Int),bP ks,((bP ks).length:Int),0,[],P,())=some (.inl ((id:Int),[],ky 1 ks P,())):=by
  obtain ⟨z,s,E⟩:=dM (b:=Ei) (λi (l:cN)=>((id:Int),bP ks,((bP ks).length:Int),(i:Int),[],l,())) ks.length (λi l=>l=ky 1 (ks.take i) P) (λz=>z=.inl ((id:Int),[],ky 1 ks P,())) (by omega)
   (λi u l ab=>by
    left;have Cv:=dz u;obtain ⟨s,E⟩:=hu _ Cv;obtain ⟨ah,aJ⟩:=au _ Cv;have ad9:l.length=P.length:=by rw[ab,On]
    have L:(decide (((i:Nat):Int)<((List.length (bP ks)):Int)))=true:=am (by rw[fL];omega);have aa:=dZ i;have a1:=fO (j:=i) (by omega);have bq:(decide ((0:Int)<=((ks[i]:Nat):Int)))=true:=am (by omega);have cU:(decide (((ks[i]:Nat):Int)<(l.length:Int)))=true:=am (by omega);have nA:ks[i]∉ks.take i:=λhm=>by have E:=eY u;have eb:(ks.take (i+1)).Nodup:=aR.sublist (List.take_sublist _ _);rw[E,List.nodup_append]at eb;exact eb.2.2 _ hm _ (by simp) rfl
    have bu:l.getD ks[i] ef=p.getD ks[i] ef:=by rw[ab,AX 1 _ _ nA,<-hN,Ur (HZ _ Cv) s]
    have w:i64.wrap ((l.getD ks[i] ef).2.2.1+1)=(l.getD ks[i] ef).2.2.1+1:=by rw[bu,cI (by omega)]
    refine ⟨oW l ks[i] 1,by rw[eY u,aa4,<-ab],?_⟩;have ao:i64.wrap ((l.getD ks[i] (false,(false,((0:Int),((([]:List (b5)),(([]:bc),(([]:List (Int)),(([]:List (eQ)),(([]:List (bB)),()))))),()))))).2.2.1+1)=(l.getD ks[i] ef).2.2.1+1:=w;simp only[Ei,L,aa,ak,bM,bE,m2 u,bq,cU,ao,a1];rfl)
   (λl ab=>by subst ab;have L:(decide (((ks.length:Nat):Int)<((List.length (bP ks)):Int)))=false:=bf (by rw[fL];omega);exact ⟨_,rfl,by simp only[Ei,L,ax,eM]⟩) P rfl
  subst E;exact s
 have L:=air hid (by omega);have aa:=Y4 p (by omega);by_cases al:id=p.length
 ·rw[if_pos al]at L;have a7:(decide ((-1:Int)<(0:Int)))=true:=rfl;have aX:(decide (((p.length):Int)>=4096))=false:=bf (by omega);have c3:(decide ((p.length+List.length ([ef]:List (jb)))*136<=bp))=true:=am (by rw[ek];simp;omega);have e5:(decide ((0:Int)<=((p.length):Int)))=true:=am (by omega);have c5:(decide (((p.length):Int)<(List.length (p++[ef]):Int)))=true:=am (by simp;omega);have kD:List.set (p++[ef]) p.length (true,(false,((1:Int),(n,()))))=P:=by rw[<-hN];unfold put;rw[if_pos al,List.set_append_right _ _ (b7 _)];simp
  rw[hN];rw[al]at dD ⊢;simp only[qs,af,C0,L,a7,ak,E7,aX,ax,aa,cw,c3,E8,e5,c5,bM,bE,kD,dD]
 ·rw[if_neg al]at L;have a7:(decide (((id:Nat):Int)<(0:Int)))=false:=bf (by omega);have aX:(decide (((id:Nat):Int)>=4096))=false:=bf (by omega);have c3:(decide (((id:Nat):Int)=((p.length):Int)))=false:=bf (by omega);have e5:(decide ((0:Int)<=((id:Nat):Int)))=true:=am (by omega);have c5:(decide (((id:Nat):Int)<(p.length:Int)))=true:=am (by omega);have kD:List.set p id (true,(false,((1:Int),(n,()))))=P:=by rw[<-hN];unfold put;rw[if_neg al]
  rw[hN];simp only[qs,af,C0,L,a7,ak,E7,aX,ax,aa,c3,E8,e5,c5,bM,bE,kD,dD]
theorem aiq {p:cN} {root:Nat} {ks:fh} (au:root<p.length) (hu:(p.getD root ef).1=true) (E:(p.getD root ef).2.2.1=1) (af:(p.getD root ef).2.2.2.1.2.2.1=bP ks)
  (lM: ∀k∈ks,k<p.length/\2<=(p.getD k ef).2.2.1/\(p.getD k ef).2.2.1<=10^6) (cC:root∉ks) (aR:ks.Nodup) (ab:ks.length<=1000) (aP:p.length<=1000):
  tQ ((p,()),(root:Int),())=some ((ky (-1) ks.reverse (p.set root ef),()),(0:Int),()):=by
 have nc:=Z7 au;rw[hu]at nc;have a7:=Y4 p (by omega);obtain ⟨bD,HP⟩: ∃bD,p.set root ef=bD:=⟨_,rfl⟩;have atn:bD.length=p.length:=by rw[<-HP,List.length_set]
 have L:(decide ((((List.length ([(root:Int)]:dR)):Int):Int)>(0:Int)))=true:=rfl;have dn:i64.wrap (((List.length ([(root:Int)]:dR)):Int)-1)=0:=rfl;have a1:(decide ((0:Int)<((List.length ([(root:Int)]:dR)):Int)))=true:=rfl;have Px:(decide ((0:Int)<=((List.length ([(root:Int)]:dR)):Int)))=true:=rfl;have g1:List.getD ([(root:Int)]:dR) 0 0=(root:Int):=rfl;have bq:=dZ root;have cU:(decide ((root:Int)<(p.length:Int)))=true:=am (by omega);have de:i64.wrap ((p.getD root ef).2.2.1-1)=0:=by rw[E];rfl
 have first:vP ([],[(root:Int)],p,())=some (.inl ([],bP ks,bD,())):=by
  have SV:i64.wrap ((p.getD root (false,(false,((0:Int),((([]:List (b5)),(([]:bc),(([]:List (Int)),(([]:List (eQ)),(([]:List (bB)),()))))),()))))).2.2.1-1)=0:=de;have gF:(p.getD root (false,(false,((0:Int),((([]:List (b5)),(([]:bc),(([]:List (Int)),(([]:List (eQ)),(([]:List (bB)),()))))),()))))).2.2.2.1.2.2.1=bP ks:=af;have g2: ∀v I:jb,List.getD (p.set root v) root I=v:=λv I=>y7 au
  have dp:(decide ((0:Int)>(0:Int)))=false:=rfl;have h1:(decide ((List.length ([]:dR)+List.length (bP ks))*8<=bp))=true:=am (by rw[ek,fL];simp;omega);have g3: ∀v:jb,(p.set root v).set root ef=bD:=λv=>by rw[<-HP];exact List.set_set _
  have as1: ∀v:jb,(p.set root v).set root (false,(false,((0:Int),((([]:List (b5)),(([]:bc),(([]:List (Int)),(([]:List (eQ)),(([]:List (bB)),()))))),()))))=bD:=g3;simp only[vP,L,ak,dn,a1,Px,Int.le_refl,cw,bM,Int.toNat_zero,g1,bq,cU,bE,SV,g2,dp,ax,gF,h1,as1,List.take_zero,List.nil_append]
 have x0:MI ([],[(root:Int)],p,())=some (.inl ([],ky (-1) ks.reverse bD,())):=by
  obtain ⟨z,s,E⟩:=dM (b:=vP) (λi (q:cN)=>([],(if i=0 then [(root:Int)] else bP (ks.take (ks.length+1-i))),q,())) (ks.length+1) (λi q=>if i=0 then q=p else q=ky (-1) (ks.reverse.take (i-1)) bD)
   (λz=>z=.inl ([],ky (-1) ks.reverse bD,())) (by omega)
   (λi u q aD=>by
    left;cases i with
    |zero=>
     rw[if_pos rfl]at aD;subst aD;refine ⟨bD,?_,?_⟩
     ·rw[if_neg (by omega)];rfl
     ·rw[if_pos rfl,if_neg (by omega),show ks.length+1-(0+1)=ks.length by omega,eM];exact first
    |succ i=>
    rw[if_neg (by omega)]at aD;rw[if_neg (by omega),if_neg (by omega)];have u:i<ks.length:=by omega
    rw[show ks.length+1-(i+1)=ks.length-i by omega];rw[show i+1-1=i by omega]at aD;obtain ⟨j,an⟩: ∃j,ks.length-i=j+1:=⟨ks.length-i-1,by omega⟩;have q5:j<ks.length:=by omega
    rw[an];have HW:i<ks.reverse.length:=by rw[List.length_reverse];exact u
    have x9:ks.reverse[i]=ks[j]:=by rw[List.getElem_reverse];congr 1;omega
    have jy:bP (ks.take (j+1))=bP (ks.take j)++[((ks[j]:Nat):Int)]:=by unfold bP;rw[eY q5,List.map_append];rfl
    have Ih:(bP (ks.take (j+1))).length=j+1:=by rw[fL,eG];omega
    have gQ:=dz q5;obtain ⟨bb,aU,ck⟩:=lM _ gQ;have aue:ks[j]≠root:=λh=>cC (h▸gQ)
    have auw:ks.reverse.Nodup:=(List.reverse_perm ks).nodup_iff.2 aR;have nA:ks[j]∉ks.reverse.take i:=λhm=>by have eb:(ks.reverse.take (i+1)).Nodup:=auw.sublist (List.take_sublist _ _);rw[eY HW,x9,List.nodup_append]at eb;exact eb.2.2 _ hm _ (by simp) rfl
    have aen:q.length=p.length:=by rw[aD,On,atn]
    have bu:q.getD ks[j] ef=p.getD ks[j] ef:=by rw[aD,AX _ _ _ nA,<-HP,Ec (Ne.symm aue)]
    have L:(decide ((((List.length (bP (ks.take (j+1)))):Int):Int)>(0:Int)))=true:=am (by rw[Ih];omega);have dn:i64.wrap (((List.length (bP (ks.take (j+1)))):Int)-1)=(j:Int):=by rw[Ih,cI (by omega)];omega
    have aa:=dZ j;have a1:(decide ((j:Int)<((List.length (bP (ks.take (j+1)))):Int)))=true:=am (by rw[Ih];omega);have Px:(decide ((j:Int)<=((List.length (bP (ks.take (j+1)))):Int)))=true:=am (by rw[Ih];omega);have g1:List.getD (bP (ks.take (j+1))) j 0=((ks[j]:Nat):Int):=by rw[jy];exact M7 (by rw[fL,eG];omega)
    have bq:(decide ((0:Int)<=((ks[j]:Nat):Int)))=true:=am (by omega);have cU:(decide (((ks[j]:Nat):Int)<(q.length:Int)))=true:=am (by omega);have de:i64.wrap ((q.getD ks[j] ef).2.2.1-1)=(q.getD ks[j] ef).2.2.1+(-1):=by rw[bu,cI (by omega)];omega
    have SV:i64.wrap ((q.getD ks[j] (false,(false,((0:Int),((([]:List (b5)),(([]:bc),(([]:List (Int)),(([]:List (eQ)),(([]:List (bB)),()))))),()))))).2.2.1-1)=(q.getD ks[j] ef).2.2.1+(-1):=de;have g2: ∀v I:jb,List.getD (q.set ks[j] v) ks[j] I=v:=λv I=>y7 (by omega)
    have dp:(decide ((q.getD ks[j] ef).2.2.1+(-1)>(0:Int)))=true:=am (by rw[bu];omega);have auY:List.take j (bP (ks.take (j+1)))=bP (ks.take j):=by rw[jy,List.take_append_of_le_length (by rw[fL,eG];omega),h8 (by rw[fL,eG];omega)]
    refine ⟨oW q ks[j] (-1),by rw[if_neg (by omega),show i+1+1-1=i+1 by omega,eY HW,x9,aa4,<-aD],?_⟩;rw[show ks.length+1-(i+1+1)=j by omega];simp only[vP,L,ak,dn,aa,a1,Px,bM,bE,g1,bq,cU,SV,auY,g2,dp];rfl)
   (λq aD=>by rw[if_neg (by omega),show ks.length+1-1=ks.length by omega,h8 (by rw[List.length_reverse];exact b7 _)]at aD;rw[if_neg (by omega),show ks.length+1-(ks.length+1)=0 by omega];have L:(decide ((((List.length (bP (ks.take 0))):Int):Int)>(0:Int)))=false:=rfl;exact ⟨_,rfl,by simp only[vP,L,ax,aD]⟩) p (by rw[if_pos rfl])
  rw[if_pos rfl]at s;rw[E]at s;exact s
 rw[HP];simp only[tQ,nc,cP,ax,a7,x0]
def ho (V:da) (x:Nat):List bc->aK->Nat->Prop
 |[],_,i=>i=x
 |P::ay,d,i=>i=x\/ ∃j,j<(partsOf d (cl P d)).length/\ho V x ay (List.getD (partsOf d (cl P d)) j cO) (xk V i j)
theorem ho.root (V:da) (ay:List bc) (d:aK) (i:Nat):ho V i ay d i:=by
 cases ay with
 |nil=>exact rfl
 |cons P ay=>exact .inl rfl
theorem GI {V:da} {t:aj} (aT:l2 t) {x:Nat}: ∀{ay:List bc} {d:aK} {i:Nat},lz V t ay d i->ho V x ay d i->x<=i
 |[],d,i,_,h=>by have h:i=x:=h;omega
 |P::ay,d,i,bu,h=>by
  obtain ⟨ks,sums,buf,s,dA,oo,bd,-⟩:=bu.inner aT;rcases h with h |⟨j,a,c⟩
  ·omega
  ·rw[dA.parts]at a;rw[oJ s a]at c;have E:=GI aT (dA.good j a) c;have:ks.getD j 0<i:=bd _ (by rw[bW a];exact dz a);omega
theorem ho.kids {V:da} {t:aj} (aT:l2 t) {x:Nat}: ∀{ay:List bc} {d:aK} {i:Nat},lz V t ay d i->ho V x ay d i->
  ∃n ks,V[x]? =some n/\n.2.2.1=bP ks/\ks.length<=6/\ ∀k∈ks,ho V k ay d i
 |[],d,i,bu,h=>by have h:i=x:=h;subst h;exact ⟨_,[],bu.tree,rfl,by simp,by simp⟩
 |P::ay,d,i,bu,h=>by
  obtain ⟨ks,sums,buf,s,dA,oo,bd,-⟩:=bu.inner aT;have kid: ∀k j,∀a:j<ks.length,ho V k ay (List.getD (partsOf d (cl P d)) j cO) (ks.getD j 0)->ho V k (P::ay) d i:=λk j a af=>
   .inr ⟨j,by rw[dA.parts];exact a,by rw[oJ s a];exact af⟩
  rcases h with rfl |⟨j,a,c⟩
  ·refine ⟨_,ks,s,rfl,dA.six,λk af=> ?_⟩;obtain ⟨j,an,rfl⟩:=List.mem_iff_getElem.1 af;refine kid _ j an ?_;rw[bW an];exact ho.root _ _ _ _
  ·rw[dA.parts]at a;rw[oJ s a]at c;obtain ⟨n,avn,L,aa,a1,bq⟩:=ho.kids aT (dA.good j a) c;exact ⟨n,avn,L,aa,a1,λk af=>kid k j a (bq k af)⟩
theorem ahS {V:da} {t:aj} {ay:List bc} {root:Nat} (h:ly V t ay root) (aR:V.length<=100):
  ∃ids:fh,Fb ((mk V (λ_=>1),()),([(root:Int)]:dR),())=some (bP ids,())/\ids≠[]/\ids.length<=100/\ ∀k∈ids,ho V k ay cO root:=by
 have lt: ∀k,ho V k ay cO root->k<V.length:=λk af=>by have:=GI h.tab h.good af;have:=h.lt;omega
 have ab:(mk V (λ_=>1)).length=V.length:=ln _ _;obtain ⟨r,s,known,rfl,bb,aU,ck⟩:=kM (b:=s7) (λq:fh×List Bool=>(bP q.1,(mk V (λ_=>1),()),q.2,())) (λq=>q.1.length+8*q.2.count false)
  (λq=>(∀k∈q.1,ho V k ay cO root)/\q.2.length=V.length/\(∀k,q.2.getD k false=true->ho V k ay cO root)/\(root∈q.1\/q.2.getD root false=true)/\q.1.length+8*q.2.count false<=2000)
  (λ_ r=> ∃known:List Bool,r=.inl (known,())/\known.length=V.length/\(∀k,known.getD k false=true->ho V k ay cO root)/\known.getD root false=true)
  (λq aD=>by
   obtain ⟨todo,known⟩:=q;obtain ⟨bj,bG,dm,cJ,fW⟩:=aD;cases todo with
   |nil=>
    right;have a7:(decide ((((List.length (bP [])):Int):Int)>(0:Int)))=false:=rfl;refine ⟨_,by simp only[s7,a7,ax],known,rfl,bG,dm,?_⟩;rcases cJ with cJ |cJ
    ·cases cJ
    ·exact cJ
   |cons k rest=>
    left;have af:=bj k gh;have hR:=lt k af;have oz: ∀x∈rest,ho V x ay cO root:=λx ai=>bj x (gO _ ai)
    have bG:known.length=V.length:=bG;have fW:rest.length+1+8*known.count false<=2000:=fW;have e:bP (k::rest)=(k:Int)::bP rest:=rfl;have el:(bP (k::rest)).length=rest.length+1:=fL _;have a7:(decide ((((List.length (bP (k::rest))):Int):Int)>(0:Int)))=true:=am (by omega);have aX:(decide (((0:Int):Int)<(List.length (bP (k::rest)):Int)))=true:=am (by omega);have c3:(decide (((1:Int):Int)<=(List.length (bP (k::rest)):Int)))=true:=am (by omega);have e5:(decide (((List.length (bP (k::rest)):Int):Int)<=(List.length (bP (k::rest)):Int)))=true:=am (by omega);have c5:List.drop (Int.toNat 1) (List.take (List.length (bP (k::rest))) (bP (k::rest)))=bP rest:=by rw[eM,e];rfl
    have kD:List.getD (bP (k::rest)) 0 (0:Int)=(k:Int):=by rw[e];rfl
    have mN:=FA (p:=mk V (λ_=>1)) (i:=k) (by omega);rw[lU]at mN;have oe:=dZ k;have sw:(decide ((k:Int)<(known.length:Int)))=true:=am (by omega);by_cases xZ:known.getD k false=true
    ·refine ⟨(rest,known),?_,⟨oz,bG,dm,?_,by show rest.length+8*known.count false<=2000;omega⟩,by show rest.length+8*known.count false<rest.length+1+8*known.count false;omega,λr au=>au⟩
     ·show s7 (bP (k::rest),(mk V (λ_=>1),()),known,())=some (.inl (bP rest,(mk V (λ_=>1),()),known,()));simp only[s7,a7,aX,c3,e5,c5,kD,mN,oe,sw,ak,bM,bE,xZ,cP,I1,ax]
     ·rcases cJ with cJ |cJ
      ·rcases eO.1 cJ with rfl |cJ
       ·exact .inr xZ
       ·exact .inl cJ
      ·exact .inr cJ
    ·have xZ:known.getD k false=false:=by simpa using xZ
     obtain ⟨n,ks,c8,dP,n3,n4⟩:=ho.kids h.tab h.good af;have ayy:(known.set k true).count false+1=known.count false:=by
      rw[List.count_set (by omega)];have bu:known[k]'(by omega)=false:=by rw[<-bW (I:=false) (by omega),xZ]
      have q8:0<known.count false:=List.count_pos_iff.2 (by rw[<-bu];exact dz _);simp[bu];omega
     have d1:(decide ((List.length ([]:List (Int))+List.length (bP rest))*8<=bp))=true:=am (by rw[ek,fL];simp;omega);have d2:(decide ((k:Int)<(List.length (mk V (λ_=>1)):Int)))=true:=am (by omega);have d3:(List.getD (mk V (λ_=>1)) k ef).2.2.2.1.2.2.1=bP ks:=by rw[AS hR];show (V[k]).2.2.1=_;have:=(iC.1 c8).2;rw[this,dP]
     have d4:(decide ((List.length (([]:List (Int))++bP rest)+List.length (bP ks))*8<=bp))=true:=am (by rw[ek,List.nil_append,fL,fL];omega);have d5:([]:dR)++bP rest++bP ks=bP (rest++ks):=by unfold bP;simp
     refine ⟨(rest++ks,known.set k true),?_,⟨?_,by show (known.set k true).length=_;simp[bG],?_,?_,?_⟩,?_,λr au=>au⟩
     ·show s7 (bP (k::rest),(mk V (λ_=>1),()),known,())=some (.inl (bP (rest++ks),(mk V (λ_=>1),()),known.set k true,()));have asO:(List.getD (mk V (λ_=>1)) k (false,(false,((0:Int),((([]:List (b5)),(([]:bc),(([]:List (Int)),(([]:List (eQ)),(([]:List (bB)),()))))),()))))).2.2.2.1.2.2.1=bP ks:=d3;simp only[s7,a7,aX,c3,e5,c5,kD,mN,oe,sw,ak,bM,bE,xZ,cK,I1,d1,d2,asO,d4,d5]
     ·intro x ai;rcases dk.1 ai with ai |ai
      ·exact oz x ai
      ·exact n4 x ai
     ·intro x ai;by_cases ri:k=x
      ·exact ri▸af
      ·have ai:List.getD (known.set k true) x false=true:=ai;rw[Ec ri]at ai;exact dm x ai
     ·rcases cJ with cJ |cJ
      ·rcases eO.1 cJ with e |cJ
       ·right;show List.getD (known.set k true) root false=true;rw[e,y7 (by omega)]
       ·exact .inl (List.mem_append_left _ cJ)
      ·by_cases ri:k=root
       ·right;show List.getD (known.set k true) root false=true;rw[<-ri,y7 (by omega)]
       ·right;show List.getD (known.set k true) root false=true;rw[Ec ri];exact cJ
     ·show (rest++ks).length+8*(known.set k true).count false<=2000;rw[fr];omega
     ·show (rest++ks).length+8*(known.set k true).count false<rest.length+1+8*known.count false;rw[fr];omega)
  ([root],List.replicate V.length false) ⟨λk af=>by obtain rfl:=fJ.1 af;exact ho.root _ _ _ _,by simp,λk af=>by
   exfalso;have af:List.getD (List.replicate V.length false) k false=true:=af;unfold List.getD at af;by_cases hR:k<V.length
   ·simp[List.getElem?_replicate,hR]at af
   ·simp[List.getElem?_replicate,hR]at af,.inl (by simp),by
   show 1+8*(List.replicate V.length false).count false<=2000;have:=List.count_le_length (a:=false) (l:=List.replicate V.length false);rw[List.length_replicate]at this;omega⟩ (by
   show 1+8*(List.replicate V.length false).count false<_;have:=List.count_le_length (a:=false) (l:=List.replicate V.length false);rw[List.length_replicate]at this;omega)
 have dq:Lz (([(root:Int)]:dR),(mk V (λ_=>1),()),List.replicate V.length false,())=some (.inl (known,())):=s;obtain ⟨z,E,ids,rfl,i1,i2,i3⟩:=dM (b:=yD) (λi (q:fh)=>((i:Int),known,bP q,())) known.length (λi q=>(∀k∈q,known.getD k false=true)/\(root<i->q≠[])/\q.length<=i)
  (λz=> ∃ids:fh,z=.inl (bP ids,())/\ids≠[]/\ids.length<=100/\ ∀k∈ids,ho V k ay cO root) (by omega)
  (λi u q aD=>by
   left;obtain ⟨bj,bG,dm⟩:=aD;have L:=fe (i:=i) (l:=known) (by omega);have aa:=dZ i;have a1:=fO (j:=i) (by omega);by_cases J:known.getD i false=true
   ·have room:(decide ((List.length (bP q)+List.length ([(i:Int)]:List (Int)))*8<=bp))=true:=am (by rw[ek,fL];simp;omega);have app:bP q++([(i:Int)]:dR)=bP (q++[i]):=by unfold bP;simp
    refine ⟨q++[i],⟨λk af=> ?_,λ_=>by simp,by simp;omega⟩,?_⟩
    ·rcases dk.1 af with af |af
     ·exact bj k af
     ·obtain rfl:=fJ.1 af;exact J
    ·simp only[yD,L,aa,ak,bM,bE,J,room,app,a1]
   ·have J:known.getD i false=false:=by simpa using J
    refine ⟨q,⟨bj,λau=> ?_,by omega⟩,?_⟩
    ·by_cases auM:root=i
     ·rw[<-auM,ck]at J;cases J
     ·exact bG (by omega)
    ·simp only[yD,L,aa,ak,ax,bM,bE,J,a1])
  (λq aD=>by obtain ⟨bj,bG,dm⟩:=aD;have L:=ga known;exact ⟨_,⟨q,rfl,bG (by have:=h.lt;omega),by omega,λk af=>aU k (bj k af)⟩,by simp only[yD,L,ax]⟩) [] ⟨by simp,λau=>absurd au (by omega),by simp⟩
 have hM:LA ((0:Int),known,[],())=some (.inl (bP ids,())):=E;refine ⟨ids,?_,i1,i2,i3⟩;have ah:(decide ((0:Int)<=((List.length (mk V (λ_=>1))):Int)))=true:=am (by omega);have aJ:(decide ((((List.length (mk V (λ_=>1))):Int):Int)<=((List.length (mk V (λ_=>1))):Int)))=true:=am (by omega);have bR:(decide (((List.length (mk V (λ_=>1))):Int)*(1:Int)<=(bp:Int)))=true:=am (by rw[ek];omega);have cB:(decide ((List.length ([]:List (Int))+List.length ([(root:Int)]:dR))*8<=bp))=true:=am (by rw[ek];simp);have fX:Int.toNat ((List.length (mk V (λ_=>1))):Int)=V.length:=by rw[ab];rfl
 simp only[Fb,ah,aJ,bR,cB,ak,bM,fX,List.nil_append,dq,hM]
abbrev hA (V:da) (k:Nat):cN:=(mk V (λ_=>1)).set k (true,(true,((1:Int),(im,()))))
theorem zs (V:da) (k:Nat):(hA V k).length=V.length:=by unfold hA;rw[List.length_set,ln]
theorem N3 {V:da} {k i:Nat} (u:i<(hA V k).length):(hA V k)[i]=if i=k then (true,(true,((1:Int),(im,())))) else (true,(false,((1:Int),(V[i]'(by rw[<-zs V k];exact u),())))):=by
 unfold hA;rw[List.getElem_set];by_cases h:k=i
 ·rw[if_pos h,if_pos h.symm]
 ·rw[if_neg h,if_neg (Ne.symm h),lU]
theorem aa3 (V:da) (k:Nat):sj (hA V k,()) V V.length k:=by
 intro i n u aR;obtain ⟨s,E⟩:=iC.1 aR;have ab:i<(hA V k).length:=by rw[zs];exact u
 have bu:=N3 ab;by_cases af:i=k
 ·rw[if_pos af]at bu;rw[if_pos af];have L:=Z5 ab;rw[bu]at L;have aa:=dZ i;have a1:(decide ((i:Int)<(List.length (hA V k):Int)))=true:=am (by omega);have bq:List.getD (hA V k) i (false,(false,((0:Int),((([]:List (b5)),(([]:bc),(([]:List (Int)),(([]:List (eQ)),(([]:List (bB)),()))))),()))))=(true,(true,((1:Int),(im,())))):=by rw[bW ab,bu]
  simp only[kr,L,cP,ax,aa,a1,bM,ak,bE,bq]
 ·rw[if_neg af]at bu;rw[if_neg af,aaU ab (by rw[bu]) (by rw[bu]),bu,E]
theorem aix {V:da} {t:aj} {ay:List bc} {root:Nat} (h:ly V t ay root) (aR:V.length<=100) (sh:hi) (w:Int) (hw:0<=w/\w<256):
  ∃k,ho V k ay cO root/\Fy (((mk V (λ_=>1),()),((root:Int),(sh,()))),w,())=some ((root:Int),sh,hA V k,()):=by
 obtain ⟨ids,s,E,O,aC⟩:=ahS h aR;have q8:=List.length_pos_iff.2 E;have q4:(bP ids).length=ids.length:=fL _;have hm:w.toNat%ids.length<ids.length:=Nat.mod_lt _ q8;have af:=aC _ (dz hm);have hR:ids[w.toNat%ids.length]<V.length:=by have:=GI h.tab h.good af;have:=h.lt;omega
 refine ⟨ids[w.toNat%ids.length],af,?_⟩;generalize hk:ids[w.toNat%ids.length]=k at af hR;have a7:(decide (((List.length (bP ids)):Int)=(0:Int)))=false:=bf (by omega);have aX:Int.tmod (i64.wrap w) ((List.length (bP ids)):Int)=((w.toNat%ids.length:Nat):Int):=by rw[cI (by omega),Int.tmod_eq_emod_of_nonneg hw.1,q4,Int.natCast_emod,Int.toNat_of_nonneg hw.1]
 have c3:(decide ((0:Int)<=((w.toNat%ids.length:Nat):Int)))=true:=am (by omega);have e5:(decide (((w.toNat%ids.length:Nat):Int)<(List.length (bP ids):Int)))=true:=am (by omega);have c5:=m2 hm;rw[hk]at c5;have ab:(mk V (λ_=>1)).length=V.length:=ln _ _;have kD:(decide ((List.length ([]:List (jb))+List.length (mk V (λ_=>1)))*136<=bp))=true:=am (by rw[ek];simp;omega);have mN:=dZ k;have oe:(decide ((k:Int)<(List.length (mk V (λ_=>1)):Int)))=true:=am (by omega);have g1: ∀I:jb,List.getD (mk V (λ_=>1)) k I=(true,false,1,V[k],()):=λI=>AS hR I
 have sw: ∀v:jb,(decide ((k:Int)<(List.length ((mk V (λ_=>1)).set k v):Int)))=true:=λv=>am (by rw[List.length_set];omega)
 have g2: ∀v I:jb,List.getD ((mk V (λ_=>1)).set k v) k I=v:=λv I=>y7 (by omega)
 simp only[Fy,s,a7,ax,aX,c3,e5,bM,ak,bE,c5,kD,List.nil_append,mN,oe,g1,sw,g2,List.set_set]
theorem acx {V:da} {t:aj} (aT:cQ t) {p:bZ} {b x:Nat} (aP:sj p V b x) (adK:b<=900): ∀(ay:List bc) (d:aK) (i:Nat) (f:Nat) (m5:Nat),(∀q∈ay,q.length<=5)->(∀P∈ay,P.Pairwise λa b=>Op.bytesLess a b=true)->qX ay d=true->hp V t ay d i->i<b->ay.length+1<=f->ay.length+1<=m5->m5<=64->
  ∃v:Int,og f (p,(i:Int),d,(m5:Int),())=some (v,())/\(ho V x ay d i->v=0)/\(¬ho V x ay d i->v=((ay.length+1:Nat):Int))
 |_,_,_,0,_,_,_,_,_,_,h,_,_=>by omega
 |[],d,i,f+1,m5,_,_,_,bU,hx,_,E,O=>by
  have L:=aP i _ hx bU;by_cases ai:i=x
  ·rw[if_pos ai]at L;have b6:(decide ((112:Int)=(0:Int)))=false:=rfl;refine ⟨0,?_,λ_=>rfl,λh=>absurd ai h⟩;show ns (og f) _=_;simp only[ns,L,b6,cP,cK,ak,ax,ta]
  ·rw[if_neg ai]at L;have a1:(decide ((m5:Int)=(0:Int)))=false:=bf (by have:([]:List bc).length=0:=rfl;omega);have bq:=aqW aT d;refine ⟨_,?_,λh=>absurd h ai,λ_=>rfl⟩;show ns (og f) _=_;simp only[ns,L,cw,cP,cK,ak,a1,bq,ta,ax,mq];rfl
 |P::ay,d,i,f+1,m5,aD,aer,bu,⟨ks,sums,buf,s,E,O,aC,ba,bF,dN,ig⟩,hx,aL,auo,iU=>by
  have L:=aP i _ hx s;by_cases ai:i=x
  ·rw[if_pos ai]at L;have b6:(decide ((112:Int)=(0:Int)))=false:=rfl;refine ⟨0,?_,λ_=>rfl,λh=>absurd (.inl ai) h⟩;show ns (og f) _=_;simp only[ns,L,b6,cP,cK,ak,ax,ta]
  rw[if_neg ai]at L;have hlen:(P::ay).length=ay.length+1:=rfl;have j6:=ux P d;have hN:=aD P gh;have jN: ∀q∈ay,q.length<=5:=λq jN=>aD q (gO _ jN)
  have q9: ∀q∈ay,q.Pairwise λa b=>Op.bytesLess a b=true:=λq jN=>aer q (gO _ jN)
  have a1:(decide ((m5:Int)=(0:Int)))=false:=bf (by omega);have dO: ∀q∈sums,jS q:=by intro q Rh;obtain ⟨j,an,rfl⟩:=List.mem_iff_getElem.1 Rh;obtain ⟨a7,n,aX,c3⟩:=ig j (by omega);obtain ⟨dP,bG,d1,d2,d3,d4⟩:=ask aT jN a7;obtain rfl:=eW (aX.symm.trans d1);rw[bW an]at c3;have:=eW (c3.symm.trans d3);have xY:sums[j]=bG:=congrArg Prod.fst this;rw[xY];exact d4
  have bq:=apO (piv:=cl P d) (ks:=ks) (sums:=sums) (buf:=buf) (d:=d) E O (by omega) (aiA (aer P gh) d) (λk af=>by have:=ba k af;omega) dO dN (by omega);obtain ⟨fU,fV⟩:=aau bu;have kJ:=(Ot d (cl P d) (by omega)).2;have Qr:ho V x (P::ay) d i↔ ∃j,j<(partsOf d (cl P d)).length/\ho V x ay (List.getD (partsOf d (cl P d)) j cO) (ks.getD j 0):=by
   constructor
   ·rintro (h |⟨j,a,b⟩)
    ·exact absurd h ai
    ·refine ⟨j,a,?_⟩;rw[oJ s (by omega)]at b;exact b
   ·rintro ⟨j,a,b⟩;refine .inr ⟨j,a,?_⟩;rw[oJ s (by omega)];exact b
  obtain ⟨parts,x7⟩: ∃p,partsOf d (cl P d)=p:=⟨_,rfl⟩;have cU:=ZC (n:=([],cl P d,bP ks,sums,buf,())) (d:=d) (acD (by omega)) fU;rw[x7]at cU fV kJ Qr;have dp:(decide ((((List.length (bP ks)):Int):Int)=(0:Int)))=false:=bf (by rw[fL];omega);obtain ⟨aY,kn⟩: ∃aY:cZ,([],cl P d,bP ks,sums,buf,())=aY:=⟨_,rfl⟩;have HN:aY.2.2.1=bP ks:=by rw[<-kn]
  have atm:aY.2.2.2.1=sums:=by rw[<-kn]
  rw[kn]at L bq cU;obtain ⟨z,g1,bI⟩:=dM (b:=vJ (og f)) (λj (_:G)=>((m5:Int),((if j=0 then 0 else ay.length+1:Nat):Int),(parts.length:Int),(j:Int),p,aY,parts,())) parts.length (λj _=> ∀gL,gL<j-> ¬ho V x ay (parts.getD gL cO) (ks.getD gL 0))
   (λz=>(z=.inl ((0:Int),())/\ ∃j,j<parts.length/\ho V x ay (parts.getD j cO) (ks.getD j 0))\/(z=.inr (((ay.length+1:Nat):Int),())/\ ∀j,j<parts.length-> ¬ho V x ay (parts.getD j cO) (ks.getD j 0))) (by omega)
   (λj an _ Rf=>by
    have q5:j<ks.length:=by omega
    have ov:j<sums.length:=by omega
    obtain ⟨a7,n,aX,c3⟩:=ig j q5;rw[x7]at a7;rw[bW an]at a7;have lM:ks.getD j 0=ks[j]:=bW q5;rw[lM]at a7 aX;have QW:ks[j]<b:=by have:=ba _ (dz q5);omega
    obtain ⟨v,aQ,v0,v1⟩:=acx aT aP adK ay parts[j] ks[j] f (m5-1) jN q9 (fV _ (dz an)) a7 QW (by omega) (by omega) (by omega);have dn:i64.wrap ((m5:Int)-1)=((m5-1:Nat):Int):=by rw[cI (by omega)];omega
    have L:=fe (i:=j) (l:=parts) (by omega);have gC:(decide (((j:Nat):Int)<(parts.length:Int)))=true:=L;have aa:=dZ j;have h1:(decide (((j:Nat):Int)<((List.length (bP ks):Nat):Int)))=true:=am (by rw[fL];omega);by_cases Cq:ho V x ay parts[j] ks[j]
    ·right;have aZ:=v0 Cq;subst aZ;refine ⟨_,.inl ⟨rfl,j,an,by rw[bW an,lM];exact Cq⟩,?_⟩;simp only[vJ,HN,L,aa,h1,ak,bM,bE,bW an,m2 q5,dn,aQ,cw,cP,ax]
    ·left;have aZ:=v1 Cq;subst aZ;obtain ⟨dP,bG,d1,d2,d3,d4⟩:=ask aT jN a7;obtain rfl:=eW (aX.symm.trans d1);rw[bW ov]at c3;have po:sums[j]=bG:=congrArg Prod.fst (eW (c3.symm.trans d3));have f1:=aP _ _ QW aX;rw[if_neg (λh=>Cq (by rw[h];exact ho.root _ _ _ _))]at f1;have lG:(decide (((j:Nat):Int)<((sums.length:Nat):Int)))=true:=am (by omega);have o7:=e1 j (by omega);have BX:(decide (((ay.length+1:Nat):Int)=(0:Int)))=false:=bf (by omega);have ad4:I5 (og f) ((m5:Int),(j:Int),((ay.length+1:Nat):Int),(parts.length:Int),(j:Int),p,aY,parts,())=some (.inl ((m5:Int),((ay.length+1:Nat):Int),(parts.length:Int),((j+1:Nat):Int),p,aY,parts,())):=by simp only[I5,HN,atm,aa,h1,lG,ak,bM,bE,m2 q5,f1,d2,bW ov,po,oI,cP,ax,o7]
     refine ⟨(),λgL kG=> ?_,?_⟩
     ·by_cases aub:gL=j
      ·subst aub;rw[bW an,lM];exact Cq
      ·exact Rf gL (by omega)
     rw[if_neg (by omega: ¬j+1=0)];simp only[vJ,HN,L,aa,h1,ak,bM,bE,bW an,m2 q5,dn,aQ,BX,cK];by_cases b8:j=0
     ·have BY:(decide (((j:Nat):Int)>(0:Int)))=false:=bf (by omega);simp only[BY,ax,ad4]
     ·have BY:(decide (((j:Nat):Int)>(0:Int)))=true:=am (by omega);rw[if_neg b8];simp only[BY,ak,cw,cP,ax,ad4])
   (λ_ Rf=>by
    have L:=ga parts;have vk: ¬parts.length=0:=by omega
    exact ⟨_,.inr ⟨rfl,Rf⟩,by simp only[vJ,L,ax];rw[if_neg vk]⟩) () (λgL h=>absurd h (by omega))
  have j0:Jx (og f) ((m5:Int),(0:Int),(parts.length:Int),(0:Int),p,aY,parts,())=some z:=g1;have h1:(decide ((((aY.2.2.1.length):Int):Int)=(0:Int)))=false:=by rw[HN];exact dp
  rcases bI with ⟨rfl,bI⟩|⟨rfl,bI⟩
  ·refine ⟨0,?_,λ_=>rfl,λh=>absurd (Qr.2 bI) h⟩;show ns (og f) _=_;simp only[ns,L,cw,cP,cK,ak,a1,bq,ta,ax,mq,h1,cU,j0]
  ·have de:i64.wrap (((ay.length+1:Nat):Int)+1)=(((P::ay).length+1:Nat):Int):=by rw[cI (by omega)];omega
   refine ⟨_,?_,λh=> ?_,λ_=>rfl⟩
   ·show ns (og f) _=_;simp only[ns,L,cw,cP,cK,ak,a1,bq,ta,ax,mq,h1,cU,j0,de]
   ·obtain ⟨j,a,b⟩:=Qr.1 h;exact absurd b (bI j a)
theorem aiM {p lv bD:cN} {vS:aj} {piv:bc} {ks:fh} {sums:hH} {buf:cG} {root id:Nat} (sh:hi) {m:bB}
  (bu:kr ((p,()),(root:Int),())=some ((vS,piv,bP ks,sums,buf,()),0,())) (b8:ks≠[]) (hm:gy m) (J:buf.length<=1000)
  (dY:qs ((p,()),(vS,piv,bP ks,sums,buf++[m],()),())=some ((lv,()),(id:Int),0,())) (a2:tQ ((lv,()),(root:Int),())=some ((bD,()),0,())):
  qu (((p,()),((root:Int),(sh,()))),m,())=some (((bD,()),((id:Int),(sh,()))),0,()):=by
 obtain ⟨aZ,-⟩:=wU hm;have L:(decide ((((List.length (bP ks)):Int):Int)=(0:Int)))=false:=bf (by rw[fL];have:=List.length_pos_iff.2 b8;omega);have aa:(decide (0<List.length ([m]:List (bB)))&&decide ((buf.length+List.length ([m]:List (bB)))*112<=bp))=true:=by rw[am (by simp),am (by rw[ek];simp;omega)];rfl
 simp only[qu,aZ,cP,ax,bu,cw,mq,L,arZ,aa,ak,dY,a2]
theorem aiN {p lv bD:cN} {t:aj} {root id:Nat} (sh:hi) {m:bB} (bu:kr ((p,()),(root:Int),())=some ((t,[],[],[],[],()),0,())) (hm:gy m)
  (ae:cH bK t) (ab:t.length<10^11) (af: ∀p∈t,p.1.length<1000)
  (dY:qs ((p,()),(iw t m,[],[],[],[],()),())=some ((lv,()),(id:Int),0,())) (a2:tQ ((lv,()),(root:Int),())=some ((bD,()),0,())):
  qu (((p,()),((root:Int),(sh,()))),m,())=some (((bD,()),((id:Int),(sh,()))),0,()):=by
 obtain ⟨aZ,-⟩:=wU hm;have L:(decide ((((List.length ([]:dR)):Int):Int)=(0:Int)))=true:=rfl;have aS:=(Ou t m hm.ok ae ab af).1;simp only[qu,aZ,cP,ax,bu,cw,mq,L,aS,ak,dY,a2]
theorem asw {V:da} {t:aj} {ay:List bc} {root k:Nat} (h:ly V t ay root) (cy:cQ t) (aR:V.length<=100) (hR:k<V.length) (sh:hi) {m:bB} (hm:gy m):
  ∃U e,qu (((hA V k,()),((root:Int),(sh,()))),m,())=some (U,e,())/\(decide (e=(112:Int)))=decide (root=k):=by
 have hlen:=zs V k;have bd:=h.lt;obtain ⟨aZ,-⟩:=wU hm;have gq:=aa3 V k;have sP: ∀i,i<V.length->List.getD (hA V k) i ef=if i=k then (true,(true,((1:Int),(im,())))) else (true,(false,((1:Int),(V.getD i im,())))):=by
  intro i u;rw[bW (by omega),N3 (by omega)];split
  ·rfl
  ·rw[bW u]
 have used: ∀i,i<V.length->(List.getD (hA V k) i ef).1=true/\(List.getD (hA V k) i ef).2.2.1=1:=by intro i u;rw[sP i u];split<;>exact ⟨rfl,rfl⟩
 have free:O7 (hA V k) V.length:=⟨λi u=>⟨by omega,(used i u).1⟩,.inl hlen.symm⟩;by_cases m0:root=k
 ·have CE: ∃n,V[root]? =some n:=⟨_,hg bd⟩;obtain ⟨n,CE⟩:=CE;have bu:=gq root n bd CE;rw[if_pos m0]at bu;have b6:(decide ((112:Int)=(0:Int)))=false:=rfl;refine ⟨((hA V k,()),((root:Int),(sh,()))),112,?_,by rw[decide_eq_true m0];rfl⟩;simp only[qu,aZ,cP,ax,bu,b6,cK,ak]
 ·have main: ∀(n aI:cZ) (ks:fh),V[root]? =some n->n.2.2.1=bP ks->aI.2.2.1=bP ks->(∀q∈ks,q<root)->ks.Nodup->ks.length<=6->
    ∃lv bD,qs ((hA V k,()),aI,())=some ((lv,()),(V.length:Int),0,())/\tQ ((lv,()),(root:Int),())=some ((bD,()),0,()):=by
   intro n aI ks CE j5 jM lM eb aud;have kJ:(put (hA V k) V.length (true,(false,((1:Int),(aI,()))))).length=V.length+1:=by rw[acJ (by omega),if_pos hlen.symm,hlen]
   have fS: ∀i,i<V.length->List.getD (put (hA V k) V.length (true,(false,((1:Int),(aI,()))))) i ef=List.getD (hA V k) i ef:=λi u=>Ur (by omega) (by omega)
   have ya:root∉ks:=λbC=>Nat.lt_irrefl _ (lM _ bC)
   have L:=aji (p:=hA V k) (n:=aI) (ks:=ks) (id:=V.length) jM (λq aD=>⟨by have:=lM q aD;omega,(used q (by have:=lM q aD;omega)).1⟩) (λq aD=>by rw[(used q (by have:=lM q aD;omega)).2];omega) eb (by omega) (by omega) free;obtain ⟨lv,HO⟩: ∃lv,ky 1 ks (put (hA V k) V.length (true,(false,((1:Int),(aI,())))))=lv:=⟨_,rfl⟩;have ve:lv.length=V.length+1:=by rw[<-HO,On,kJ]
   have ah:lv.getD root ef=(true,(false,((1:Int),(V.getD root im,())))):=by rw[<-HO,AX 1 _ _ ya,fS _ bd,sP _ bd,if_neg m0]
   rw[HO]at L;refine ⟨lv,_,L,aiq (ks:=ks) (by omega) (by rw[ah]) (by rw[ah]) ?_ (λq aD=> ?_) ya eb (by omega) (by omega)⟩
   ·rw[ah];show (V.getD root im).2.2.1=_;rw[pH CE,j5]
   ·have po:q<V.length:=by have:=lM q aD;omega
    have e:=abH 1 ks (put (hA V k) V.length (true,(false,((1:Int),(aI,()))))) eb aD (by rw[kJ];omega);rw[HO]at e;rw[e,fS _ po,(used q po).2];exact ⟨by omega,by show (2:Int)<=1+1;decide,by show (1:Int)+1<=10^6;decide⟩
  have b6:(decide ((0:Int)=(112:Int)))=decide (root=k):=by rw[decide_eq_false m0];rfl
  match ay,h with
  |[],h=>
   have s:V[root]? =some (inS cO t,[],[],[],[],()):=h.good.tree;have bu:=gq root _ bd s;rw[if_neg m0]at bu;obtain ⟨lv,bD,dY,a2⟩:=main (inS cO t,[],[],[],[],()) (iw (inS cO t) m,[],[],[],[],()) [] s rfl rfl (by simp) List.nodup_nil (by simp);have u:=cy.inS cO;exact ⟨_,0,aiN sh bu hm u.srt (by have:=u.len;omega) (λp aP=>by have:=h.tab.key p (eV.1 aP).1;omega) dY a2,b6⟩
  |P::ay,h=>
   obtain ⟨ks,sums,buf,s,dA,oo,lM,eb,-⟩:=h.good.inner h.tab;have bu:=gq root _ bd s;rw[if_neg m0]at bu;have mh:=dA.one;obtain ⟨lv,bD,dY,a2⟩:=main _ ([],cl P cO,bP ks,sums,buf++[m],()) ks s rfl rfl lM eb dA.six;exact ⟨_,0,aiM sh bu (λbC=>by rw[bC]at mh;simp at mh) hm (by omega) dY a2,b6⟩
theorem ao2 (x:e4) (w:kK) (y:n5) (ai:Bk x) (hw:(0<=w.1/\w.1<256)/\0<=w.2.1/\w.2.1<256) (bo:qo y):yK (x,w,y,())=some (true,()):=by
 obtain ⟨V,root,s,E,O,aC,ba⟩:=ah6 x ai;have bU:=ly.made x ai E;obtain ⟨m,dU,c6⟩:=a20 y bo;obtain ⟨cr,dn,de,gf⟩:=asA c6;obtain ⟨ib,bb,aU,ck⟩: ∃ib,we ()=some (ib,())/\ib.length=66/\ ∀k∈ib,k.length<=20:=⟨_,arA⟩;obtain ⟨k,bj,bG⟩:=aix bU (by omega) (pD x.2.2.1) w.1 hw.1;have hR:k<V.length:=by have:=GI bU.tab bU.good bj;have:=bU.lt;omega
 have yb:=bU.lt;have hm:=GK x;obtain ⟨dD,dr⟩:=FY _ hm;have cy:cQ (oY x):=ah2 _ (λy bo=>ai.t.1 y (List.mem_of_mem_take bo)) (by simp;omega);have Kf:=aa3 V k;obtain ⟨v,v1,v2,-⟩:=acx cy Kf (by omega) (jX x) cO root kZ 64 dr (abj _ hm) (acv _ hm) E yb (by rw[kN];omega) (by omega) (by omega);have v0:=v2 bj;subst v0;have axx:Nq ((hA V k,()),(root:Int),cO,(64:Int),())=some ((0:Int),()):=v1;have aZ:zq (((hA V k,()),((root:Int),(pD x.2.2.1,()))),())=some (false,()):=by have aa:(decide ((0:Int)>(0:Int)))=false:=rfl;simp only[zq,asn _ ai.w,ak,axx,aa]
 obtain ⟨U,e,dY,a2⟩:=asw bU cy (by omega) hR (pD x.2.2.1) c6;have aep:=λd ae=>bU.scan (pD x.2.2.1) d ae
 have aeq:=λd ae=>bU.scanX ((hA V k,()),((root:Int),(pD x.2.2.1,()))) Kf yb rfl d ae
 have bx:=λkey af=>ajW bU.tab (jX x) cO root key bU.two bU.good af
 have auS:(List.getD (hA V k) root ef).2.1=decide (root=k):=by
  rw[bW (by rw[zs];exact yb),N3 (by rw[zs];exact yb)];by_cases m0:root=k
  ·rw[if_pos m0,decide_eq_true m0]
  ·rw[if_neg m0,decide_eq_false m0]
 have Rn:(List.getD (hA V k) root (false,(false,((0:Int),((([]:List (b5)),(([]:bc),(([]:List (Int)),(([]:List (eQ)),(([]:List (bB)),()))))),()))))).2.1=decide (root=k):=auS;have B9:=zs V k;obtain ⟨sh,auQ⟩: ∃sh,pD x.2.2.1=sh:=⟨_,rfl⟩;rw[auQ]at s bG aZ dY aep aeq;have atV: ∀key n q c,(¬nk V V.length (jX x) root key->pF (((mk V (λ_=>1),()),((root:Int),(sh,()))),key,())=some (q,c,(n:Int),(0:Int),()))->pF (((mk V (λ_=>1),()),((root:Int),(sh,()))),key,())=some (q,c,(n:Int),(0:Int),()):=λkey n q c bC=>
  bC (λbC=>by have:=acy bU.tab bU.good bC;omega)
 obtain ⟨T,Qv⟩: ∃T:c4,((mk V (λ_=>1),()),((root:Int),(sh,())))=T:=⟨_,rfl⟩;obtain ⟨ar,k9⟩: ∃ar:cN,hA V k=ar:=⟨_,rfl⟩;obtain ⟨b,J⟩: ∃b:Bool,decide (root=k)=b:=⟨_,rfl⟩;have b6:i64.wrap (Int.tmod w.2.1 (3:Int))=((w.2.1.toNat%3:Nat):Int):=by have:=hw.2;rw[Int.tmod_eq_emod_of_nonneg this.1,cI (by omega)];omega
 obtain ⟨r,bF,rfl⟩:=kM (b:=yr) (λi:Nat=>(true,b,(i:Int),y,T,(root:Int),sh,ib,ar,())) (λi=>100-i) (λi=>i<=70) (λ_ r=>r=.inr (true,b,y,T,(root:Int),sh,ar,()))
  (λi u=>by
   by_cases bd:i<ib.length
   ·left;have a7:(decide (((i:Int))<((ib.length:Nat):Int)))=true:=am (by omega);have aX:=dZ i;have c3:ib.getD i ([]:M)=ib[i]:=bW bd;obtain ⟨q,c,n,c8,dP,n3,n4⟩:=bx ib[i] (by have:=ck _ (dz bd);omega);have g1:=atV ib[i] n q c (n4 ((mk V (λ_=>1),()),((root:Int),(sh,()))) V.length V.length (acT V) yb rfl).1;obtain ⟨g2,g3⟩:=n4 ((hA V k,()),((root:Int),(sh,()))) V.length k Kf yb rfl;rw[Qv]at g1;rw[k9]at g2 g3;have d4:i64.wrap ((i:Int)+3)=((i+3:Nat):Int):=by rw[cI (by omega)];omega
    refine ⟨i+3,?_,by omega,by omega,λr au=>au⟩;have d0:(decide ((0:Int)=(112:Int)))=false:=rfl;have d1:(decide ((112:Int)=(112:Int)))=true:=rfl;by_cases bC:nk V k (jX x) root ib[i]
    ·have g3:=g3 bC;cases b<;>
     simp only[yr,a7,aX,ak,bM,bE,c3,An,g1,g3,cw,d1,cP,cK,oI,ax,d4]
    ·have g2:=g2 bC;have atw:b=false:=by
      rw[<-J];refine decide_eq_false (λm0=>bC ?_);cases jX x with
      |nil=>exact m0
      |cons P ay=>exact .inl m0
     subst atw;simp only[yr,a7,aX,ak,bM,bE,c3,An,g1,g2,d0,cP,cK,oI,ax,d4]
   ·right;have a7:(decide (((i:Int))<((ib.length:Nat):Int)))=false:=bf (by omega);exact ⟨_,by simp only[yr,a7,ax],rfl⟩) (w.2.1.toNat%3) (by omega) (by omega)
 have j1:SR (true,b,((w.2.1.toNat%3:Nat):Int),y,T,(root:Int),sh,ib,ar,())=some (.inr (true,b,y,T,(root:Int),sh,ar,())):=bF;obtain ⟨S,je⟩: ∃S,cr++[(([]:M),(([]:M),()))]=S:=⟨_,rfl⟩;have ayv:S.length<=3:=by rw[<-je];simp;omega
 have adC: ∀d∈S,d.1.length<=200/\d.2.1.length<=200:=by
  intro d ae;rw[<-je]at ae;rcases dk.1 ae with h |h
  ·exact gf d h
  ·obtain rfl:=fJ.1 h;exact ⟨Nat.zero_le _,Nat.zero_le _⟩
 have j2:=bU.clen;obtain ⟨C,dL⟩: ∃C,cont V (jX x) root=C:=⟨_,rfl⟩;obtain ⟨z,dN,rfl⟩:=dM (b:=ys) (λi (_:G)=>(true,b,(i:Int),y,T,(root:Int),sh,S,ar,())) S.length (λ_ _=>True) (λz=>z=.inr (true,b,y,(root:Int),sh,ar,())) (by omega)
  (λi u _ _=>by
   left;have a7:(decide (((i:Int))<((S.length:Nat):Int)))=true:=am (by omega);have aX:=dZ i;have g1:=aep S[i] (adC _ (dz u));obtain ⟨e,g2,g3,-⟩:=aeq S[i] (adC _ (dz u));rw[Qv,dL]at g1;rw[k9,dL]at g2;rw[dL]at j2;have mV:=hE (o0 S[i]) C;have w:=fO (j:=i) (by omega);have d0:(decide ((0:Int)=(112:Int)))=false:=rfl;have d1:(decide ((112:Int)=(112:Int)))=true:=rfl;have d2:(decide ((112:Int)=(0:Int)))=false:=rfl;have d3:(decide ((((List.length ([]:aj)):Int):Int)=(0:Int)))=true:=rfl;refine ⟨(),trivial,?_⟩;rcases g3 with rfl |rfl
   ·rw[if_pos rfl]at g2;have g4:=aqL (C.filter (o0 S[i])) (by omega);simp only[ys,a7,aX,ak,bM,bE,bW u,g1,g2,g4,cw,cP,cK,ax,w]
   ·rw[if_neg (by decide)]at g2;simp only[ys,a7,aX,ak,bM,bE,bW u,g1,g2,d1,d2,d3,cw,cP,cK,ax,w])
  (λ_ _=>by have a7:(decide (((S.length:Nat):Int)<((S.length:Nat):Int)))=false:=bf (by omega);exact ⟨_,rfl,by simp only[ys,a7,ax]⟩) () trivial
 have as8:SS (true,b,(0:Int),y,T,(root:Int),sh,S,ar,())=some (.inr (true,b,y,(root:Int),sh,ar,())):=dN;have room:(decide ((cr.length+List.length ([(([]:M),(([]:M),()))]:List (aK)))*32<=bp))=true:=am (by rw[ek];simp;omega);rw[Qv]at s bG;rw[k9]at bG aZ dY Rn B9;rw[J]at a2 Rn;have a7:=dZ root;have aX:(decide ((root:Int)<(ar.length:Int)))=true:=am (by omega);unfold yK;rw[ahX];simp only[s,bG,a7,aX,bM,ak,bE,Rn,bb,b6,j1,dU,dn,room,je,as8,dY,aZ,cK,a2,beq_self_eq_true]
theorem ap0 {B:aB->Nat} (O:B DE=3) (bF:B rP=6) (nY:e4) (iO:kK) (kS:n5) (g0:aB.good B Uv nY) (g1:aB.good B (.pair (.int .u8) (.pair (.int .u8) .unit)) iO) (g2:aB.good B rP kS):yK (nY,iO,kS,())=some (true,()):=
 ao2 nY iO kS (akd O bF g0) ⟨kR g1.1,kR g1.2.1⟩ ⟨⟨kR g2.1,kR g2.2.1,kR g2.2.2.1,kR g2.2.2.2.1⟩,kR g2.2.2.2.2.1,kR g2.2.2.2.2.2.1⟩
end D
