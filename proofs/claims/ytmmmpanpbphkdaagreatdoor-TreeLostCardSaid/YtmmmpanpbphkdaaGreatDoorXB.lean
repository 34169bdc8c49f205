import Derived.Test.YtmmmpanpbphkdaaGreatDoorXA
import Derived.Great.FillDense
import Derived.Laws.Tables
import Derived.ChangeMaps3
import Derived.Laws.BytesArg
import Derived.Lib.AppendZeros
import Derived.Lib.AppendZerosOnto
import Derived.Lib.ConvBytes
import Derived.OrdersIn
import Derived.TacticsIn
import Derived.LoopNIn
import Derived.RangeFuncLeaves
import Derived.RangeFuncRecord
import Derived.RangeFuncSeq
import Derived.Tactics
set_option linter.unusedVariables false
set_option linter.unusedSimpArgs false
namespace Go.X
open Go.RowKit
section
variable {P:cq} {cx:cd} {φ:bJ} {ι aH:Nat->az} {w ao:bh} {H:List aF} {n:Nat} {r:K} {aA:List aF} {aI:Nat}
theorem abz {place:Nat->Option (Nat×Nat)} {cells:Array az} {i:Nat} {v:az} {rest:List (Nat×az)} {off size:Nat} (aP:place i=some (off,size)) (aZ:v.cells.size=size) (W:off+size<=cells.size):
  Instr.fill place cells ((i,v)::rest)=Instr.fill place (cells.toList.take off++v.cells.toList++cells.toList.drop (off+size)).toArray rest:=by
 rw[Instr.fill,aP];have s: ¬(v.cells.size≠size||decide (off+v.cells.size>cells.size))=true:=by simp;omega
 simp only[s,Bool.false_eq_true,if_false];congr 1;rw[<-Array.foldl_toList];apply Array.ext_getElem?;intro k;have:=(Great.foldl_set off v.cells.toList 0 cells).2 k;simp only[Array.toList_zipIdx]at this ⊢;rw[this];simp only[Nat.add_zero,iu,List.getElem?_toArray];by_cases af:off<=k/\k<off+v.cells.size/\k<cells.size
 ·rw[if_pos af];rw[List.append_assoc,List.getElem?_append_right (by simp;omega),List.getElem?_append_left (by simp;omega)];congr 1;simp;omega
 ·rw[if_neg af];rcases Nat.lt_or_ge k off with E |E
  ·rw[List.append_assoc,List.getElem?_append_left (by simp;omega),List.getElem?_take];simp[E]
  ·rw[List.getElem?_append_right (by simp;omega),List.getElem?_drop];simp only[fr,eG,iu];rcases Nat.lt_or_ge k cells.size with O |O
   ·rw[show off+size+(k-(min off cells.size+v.cells.size))=k by omega];simp
   ·rw[Array.getElem?_eq_none O]
    symm
    rw[List.getElem?_eq_none];simp;omega
theorem abA (z:Array az) (d:Nat) (ae:z.size=d) (b8:0<d): ∀m,((List.range (m*d)).map λi=>z[i%d]!)=(List.replicate m z.toList).flatten
 |0=>by simp
 |m+1=>by
  rw[show (m+1)*d=d+m*d by rw[Nat.add_mul];omega,List.range_add,List.map_append,List.map_map,List.replicate_succ,List.flatten_cons,<-abA z d ae b8 m];congr 1
  ·apply List.ext_getElem
   ·simp[ae]
   ·intro i s E;have u:i<d:=by simpa using s
    simp[Nat.mod_eq_of_lt u,ae,u]
  ·apply List.map_congr_left;intro i _;simp
theorem tx {e:bm} {t:aB} {bytes:Nat} (h:sF P e t bytes) (m:Nat): ∃z,(∀w,(zeroValue e).run P w=.ok z w)/\z.cells.size=t.size/\0<t.size/\
  ∀φ w,cY (bt φ w t) (List.replicate m t.zero) ((Array.range (m*t.size)).map λi=>z.cells[i%z.cells.size]!).toList:=by
 obtain ⟨dB,z,s,E,O,_,aC,ba,bF,dN⟩:=h;have j1:z.cells.size=t.size:=by simpa using bF
 refine ⟨z,λw=>by simp[zeroValue,typeInfo,s,aC],j1,ba,fun φ w=> ?_⟩;have:((Array.range (m*t.size)).map λi=>z.cells[i%z.cells.size]!).toList=(List.replicate m z.cells.toList).flatten:=by rw[Array.toList_map,Array.toList_range,j1];exact abA z.cells t.size j1 ba m
 rw[this];exact cY.replicate (dN φ w) m
theorem cY.one {φ:bJ} {w:bh} {t:aB} {xs:List t.den} {cs:List az} (h:cY (bt φ w t) xs cs): ∀v∈cs,v.oneCell'=true:=by
 induction xs generalizing cs with
 |nil=>simp only[cY]at h;subst h;simp
 |cons x xs aQ=>
  obtain ⟨a7,aX,rfl,s,E⟩:=h;intro v aZ;rcases dk.1 aZ with aZ |aZ
  ·exact bt.one t _ _ s v aZ
  ·exact aQ E v aZ
theorem Cells.of_chunks {φ:bJ} {w:bh} {t:aB} {cur:Array az} {eC:List t.den} (h:cY (bt φ w t) eC cur.toList) (n:Nat):Cells φ w t n cur:=
 ⟨h.one,.inr ⟨_,h.drop (λx c=>bt.len t x c) n⟩⟩
theorem uR [Env] (h:cc φ ι w H) {e:bm} {t:aB} {xs:List t.den} {cur:Array az} {c b:Nat} {c0:Nat×Nat} (g:ia w ao) (J:ao.heap[b]? =some (.cells cur e c0)) (adK:w.heap.size<=b) (ai:xs.length<=c) (aw:c<=maxLen)
  (ae:cur.size=c*t.size) (aL:xQ t c0 cur.size) (s:Cells φ ao t xs.length cur) (af:cY (bt φ ao t) xs (cur.toList.take (xs.length*t.size))) (aR:n<=H.length) (h5:(aE H n).live=false):
  cD φ ι w H n (.own t n) (bY H n (.arr e t xs false)) (n+1) (.ok (.slice (some ⟨b,0,none⟩) xs.length c) ao):=by
 have lN: ∀k,¬φ b k:=λk af=>by have:=kP h af;omega
 obtain ⟨bb,aU,ck,ep⟩:=A9 (v:=.slice (some ⟨b,0,none⟩) xs.length c) (dd:=.arr e t xs false) h aR h5 g
  ⟨some ⟨b,0,none⟩,xs.length,c,by simp[ee],rfl,ai,aw,.inr ⟨b,#[],cur,c0,rfl,by simpa using J,ae,by simpa using aL,by simp,s,af,λk af=>absurd af (lN k),λbI=>by cases bI⟩⟩ (by simp[aF.ids]) rfl
  (λbQ h4=>by
   simp only[dG]at h4;split at h4
   ·cases h4
   ·injection h4 with h4;omega)
 refine ⟨_,_,φ,_,rfl,bb,aU,ck,ep,uK ⟨by simp[ee],_,_,_,rfl⟩,?_⟩;intro i u;have:i=n:=by simpa [K.ids] using u
 subst this;rw[gA H i _ i aR,if_pos rfl];rfl
theorem UD [Env] (h:cc φ ι w H) {e:bm} {t:aB} {A:Option Addr} (aR:n<=H.length) (h5:(aE H n).live=false):
  cD φ ι w H n (.own t n) (bY H n (.arr e t [] false)) (n+1) (.ok (.slice A 0 0) w):=by
 obtain ⟨bb,aU,ck,ep⟩:=A9 (v:=.slice A 0 0) (dd:=.arr e t [] false) (ao:=w) h aR h5 ⟨rfl,rfl,rfl,b7 _,λ_ _=>rfl⟩
  ⟨A,0,0,by simp[ee],rfl,b7 _,by simp,.inl rfl⟩ (by simp[aF.ids]) rfl (λbQ h4=>by cases A<;>simp[dG]at h4)
 refine ⟨_,_,φ,_,rfl,bb,aU,ck,ep,uK ⟨by simp[ee],_,_,_,rfl⟩,?_⟩;intro i u;have:i=n:=by simpa [K.ids] using u
 subst this;rw[gA H i _ i aR,if_pos rfl];rfl
theorem cD.after [Env] {dy:bJ} {H1:List aF} {run:Result az} (g:e2 φ ι w H dy H1) (y:cD dy ι w H1 n r aA aI run):cD φ ι w H n r aA aI run:=by obtain ⟨v,ao,av,aH,bb,aU,ck,ep,hz,iI,yn⟩:=y;exact ⟨v,ao,av,aH,bb,aU,g.step.trans ck,g.keep.trans ep,(g.nx n).trans hz,iI,yn⟩
theorem O5 {x:Int} (b8: -9223372036854775808<=x) (s:x<9223372036854775808):IntKind.i64.wrap x=x:=by
 have L:IntKind.i64.bits=64:=rfl;have aa:IntKind.i64.signed=true:=rfl;simp only[IntKind.wrap,L,aa,Bool.true_and];have a1:(2:Int)^64=18446744073709551616:=by decide
 have bq:(2:Int)^(64-1)=9223372036854775808:=by decide
 rw[a1,bq];split
 ·rename_i h;simp only[dJ]at h;omega
 ·rename_i h;simp only[dJ]at h;omega
theorem alE [Env] (tab:cQ P cx) {T:bm} {a b:Int} {afz jA:IntKind} (e:(MD cx T a b).go H n=some (r,aA,aI)) (h:cc φ ι w H) (ea:iZ H n aI):
  cD φ ι w H n r aA aI ((Instr.makeSlice T (.int afz a) (.int jA b)).run P w):=by
 unfold MD at e;split at e
 ·rename_i i u;split at e
  ·rename_i t aT;have q:=go_chk2 e;clear e;obtain ⟨J,e⟩:=q;simp only[bN,dJ]at J;obtain ⟨⟨b8,s⟩,E⟩:=J;simp only[HM.go,bH,cV]at e;obtain ⟨rfl,rfl,rfl⟩:=e;obtain ⟨al,gw⟩:=kL tab u aT;obtain ⟨z,bI,CR,aeu,nv⟩:=tx gw b.toNat;obtain ⟨dB,mz,g1,g2,g3,g4,_⟩:=gw;have hbound:b.toNat*i.bytes<=bp:=by
    have:((b.toNat*i.bytes:Nat):Int)<=(bp:Int):=by rw[Int.natCast_mul,Int.toNat_of_nonneg (by omega)];exact E
    omega
   have ayx:b.toNat<=bp:=Nat.le_trans (Nat.le_mul_of_pos_right _ g4) hbound;have vn:bp=140737488355328:=rfl;have axR:IntKind.i64.wrap a=a:=O5 (by omega) (by omega);have iq:IntKind.i64.wrap b=b:=O5 (by omega) (by omega);have hmul:(i.bytes:Int)*b<=281474976710656:=by have:(i.bytes:Int)*b=b*i.bytes:=Int.mul_comm _ _;omega
   have auh: ∀x:Int,0<=x->x<=b->(decide (x<0)||decide ((i.bytes:Int)*x>2^48))=false:=by intro x CM oB;have:(i.bytes:Int)*x<=(i.bytes:Int)*b:=Int.mul_le_mul_of_nonneg_left oB (by omega);simp only[Bool.or_eq_false_iff,decide_eq_false_iff_not];omega
   have eL:(Instr.makeSlice T (.int afz a) (.int jA b)).run P w=.ok (.slice (some ⟨w.heap.size,0,none⟩) a.toNat b.toNat) (w.alloc (.cells ((Array.range (b.toNat*t.size)).map λi=>z.cells[i%z.cells.size]!) i.elem)):=by
    unfold Instr.makeSlice;have oq:=auh b (by omega) (Int.le_refl _);have dT:=yB (P:=P) (w:=w) (kL tab u aT).2;have fl:(typeInfo i.elem).run P w=.ok dB w:=by simp[typeInfo,g1]
    have hM: ¬(a<0):=by omega
    have as5: ¬(a>b):=by omega
    have qc: ¬(b.toNat*i.bytes>roomBytes):=by unfold roomBytes;omega
    simp only[Sem.run_bind,run_underlying al,Result.andThen_ok,asInt,asIntOf,Sem.run_pure,fl,g3,axR,iq,oq,hM,as5,decide_false,Bool.or_false,Bool.false_eq_true,if_false,askRoom,qc,dT];by_cases yh:b.toNat*t.size=0
    ·have Ib:Array.range 0= #[]:=rfl;simp[yh,newRow,Ib]
    ·simp[yh,newRow,bI]
   rw[eL];have nF:(List.replicate a.toNat t.zero).length=a.toNat:=List.length_replicate;have:=uR (φ:=φ) (ι:=ι) (n:=n) h (e:=i.elem) (t:=t) (xs:=List.replicate a.toNat t.zero) (cur:=(Array.range (b.toNat*t.size)).map λi=>z.cells[i%z.cells.size]!) (c:=b.toNat) (b:=w.heap.size) (c0:=(0,0)) (ia.alloc w _)
    (heap_alloc_new w _) (b7 _) (by rw[nF];omega) (by simp only[maxLen];omega) (by simp) (uu _ _) (Cells.of_chunks (nv φ _) _) (by
     rw[nF];have s:=(nv φ (w.alloc (.cells ((Array.range (b.toNat*t.size)).map λi=>z.cells[i%z.cells.size]!) i.elem))).take (λx c=>bt.len t x c) a.toNat
     rwa [List.take_replicate,Nat.min_eq_left (by omega)]at s) ea.1 (ea.2 n (b7 _) (by omega))
   rwa [nF]at this
  ·simp[HM.go]at e
 ·simp[HM.go]at e
end
open Go.RowKit
section
variable {P:cq} {cx:cd} {φ:bJ} {ι aH:Nat->az} {w ao:bh} {H:List aF} {n:Nat} {r:K} {aA:List aF} {aI:Nat}
theorem Oz: ∀(l:List K) (t:aB) (cs:List az) (j:Nat) (ad:aB) (x:K) (v:az),K.relL φ ι w l cs->K.fitsL l t=true->t.nth j=some ad->x.rel φ ι w v->x.fits ad=true->
  K.relL φ ι w (l.set j x) (cs.take (t.offs j)++v.cells.toList++cs.drop (t.offs j+ad.size))/\K.fitsL (l.set j x) t=true
 |[],t,cs,j,ad,x,v,h,aL,aR,ai,hu=>by
  have e:t=.unit:=by simpa [K.fitsL] using aL
  subst e;cases j<;>simp[aB.nth]at aR
 |r::l,t,cs,j,ad,x,v,⟨v0,aX,e,s,E⟩,aL,aR,ai,hu=>by
  subst e;cases t with
  |pair a b=>
   simp only[K.fitsL,bN]at aL;have hlen:v0.cells.toList.length=a.size:=by rw[<-(K.rel_fits r a v0 s aL.1).1];simp
   cases j with
   |zero=>
    simp only[aB.nth,bH]at aR;subst aR;refine ⟨⟨v,aX,?_,ai,E⟩,?_⟩
    ·simp only[aB.offs,List.take_zero,List.nil_append,Nat.zero_add];rw[<-hlen,List.drop_left]
    ·simp[K.fitsL,hu,aL.2]
   |succ j=>
    obtain ⟨bb,aU⟩:=Oz l b aX j ad x v E aL.2 (by simpa [aB.nth] using aR) ai hu;refine ⟨⟨v0,_,?_,s,bb⟩,?_⟩
    ·simp only[aB.offs];rw[<-hlen,List.take_length_add_append,Nat.add_assoc,<-List.drop_drop,List.drop_left];simp
    ·simp[K.fitsL,aL.1,aU]
  |_=>simp[K.fitsL]at aL
theorem abG (l:List K) (j:Nat) (x:K): ∀i∈K.idsL (l.set j x),i∈K.idsL l\/i∈x.ids:=by
 induction l generalizing j with
 |nil=>intro i u;simp[K.idsL]at u
 |cons a l aQ=>
  cases j with
  |zero=>
   intro i u;simp only[List.set_cons_zero,K.idsL,dk]at u ⊢;rcases u with u |u
   ·exact .inr u
   ·exact .inl (.inr u)
  |succ j=>
   intro i u;simp only[List.set_cons_succ,K.idsL,dk]at u ⊢;rcases u with u |u
   ·exact .inl (.inl u)
   ·rcases aQ j i u with h |h
    ·exact .inl (.inr h)
    ·exact .inr h
def qx (φ:bJ) (ι:Nat->az) (w:bh) (H:List aF):List (Nat×K)->List (Nat×az)->Prop
 |[],[]=>True
 |(i,x)::l,(j,v)::m=>i=j/\x.rel φ ι w v/\(∀k∈x.ids,(aE H k).live=true)/\qx φ ι w H l m
 |_,_=>False
theorem qx.ghost [Env] {av:bJ} (g:e2 φ ι w H av aA): ∀{l:List (Nat×K)} {m:List (Nat×az)},qx φ ι w H l m->qx av ι w aA l m
 |[],[],_=>trivial
 |(i,x)::l,(j,v)::m,⟨s,E,O,aC⟩=>⟨s,K.rel_step g.step g.keep O E,λk af=>by rw[g.live];exact O k af,aC.ghost g⟩
 |[],_::_,h=>h.elim
 |_::_,[],h=>h.elim
theorem Gz {l:List K} {v:az} (h: ∃cs,v=.agg cs/\K.relL φ ι w l cs.toList):(K.agg l).rel φ ι w v:=h
theorem abU [Env] {i:gj} {place:Nat->Option (Nat×Nat)} (aP: ∀j U ad,i.fields[j]? =some U->i.ty.nth j=some ad->place j=some (i.ty.offs j,ad.size)):
  ∀(parts:List (Nat×K)) (ay:List (Nat×az)) (φ:bJ) (l:List K) (cells:Array az) (H:List aF) (n:Nat) (r:K) (aA:List aF) (aI:Nat),(AG.go cx i l parts).go H n=some (r,aA,aI)->cc φ ι w H->
  K.relL φ ι w l cells.toList->K.fitsL l i.ty=true->(∀k∈K.idsL l,(aE H k).live=true)->qx φ ι w H parts ay->
  aI=n/\ ∃av l5 fB,e2 φ ι w H av aA/\Instr.fill place cells ay=some l5/\r=.agg fB/\K.relL av ι w fB l5.toList/\K.fitsL fB i.ty=true/\ ∀k∈K.idsL fB,(aE aA k).live=true
 |[],[],φ,l,cells,H,n,r,aA,aI,e,h,ab,aL,hid,_=>by obtain ⟨rfl,rfl,rfl⟩:=go_ret e;exact ⟨rfl,φ,cells,l,e2.refl h,rfl,rfl,ab,aL,hid⟩
 |[],_::_,_,_,_,_,_,_,_,_,_,_,_,_,_,W=>W.elim
 |_::_,[],_,_,_,_,_,_,_,_,_,_,_,_,_,W=>W.elim
 |(j,x)::parts,(gL,v)::ay,φ,l,cells,H,n,r,aA,aI,e,h,ab,aL,hid,⟨an,ai,mf,W⟩=>by
  subst an;unfold AG.go at e;split at e
  ·rename_i U ad jf hu;obtain ⟨y,H1,c8,L,aa⟩:=HM.go_bind_some e;clear e;obtain ⟨rfl,dy,g1,bo,tb⟩:=Nn L h (w7 (cx:=cx) (T:=U) ai) (λk af=>mf k (w6 k af));have q:=go_bif aa;clear aa;obtain ⟨sT,aa⟩:=q;have ve:K.relL dy ι w l cells.toList:=K.relL_mono g1.step.phi g1.step.cells l _ (λ_ _=>rfl) ab;obtain ⟨bb,aU⟩:=Oz l i.ty cells.toList j ad y v ve aL hu bo sT;have hlen:cells.toList.length=i.ty.size:=(K.relL_fits l i.ty _ ab aL).1;have x5:=FZ hu;have eB:=(K.rel_fits y ad v bo sT).1;have sX:=abz (rest:=ay) (aP j U ad jf hu) eB (show i.ty.offs j+ad.size<=cells.size by rw[<-iu,hlen];exact x5);obtain ⟨aR,av,l5,fB,g2,p6,au,q6,adR,QT⟩:=abU aP parts ay dy (l.set j y) (cells.toList.take (i.ty.offs j)++v.cells.toList++cells.toList.drop (i.ty.offs j+ad.size)).toArray H1 c8 r aA aI aa g1.rel (by simpa using bb) aU
    (λk af=>by
     rcases abG l j y k af with s |s
     ·rw[g1.live];exact hid k s
     ·exact tb k s) (W.ghost g1)
   exact ⟨aR,av,l5,fB,g1.trans g2,by rw[sX];exact p6,au,q6,adR,QT⟩
  ·simp[HM.go]at e
theorem anl [Env] (tab:cQ P cx) {T:bm} {parts:List (Nat×K)} (e:(AG cx T parts).go H n=some (r,aA,aI)) (h:cc φ ι w H) {ay:Array (Nat×az)} (W:qx φ ι w H parts ay.toList):
  cD φ ι w H n r aA aI ((Instr.build T ay).run P w):=by
 unfold AG at e;split at e
 ·rename_i i l u bI;obtain ⟨rk,z,dH,eL,CR,Il,ave,avf,avi⟩:=aaZ tab bI ⟨i,u⟩;rw[u]at dH;injection dH with dH
  subst dH;obtain ⟨info,Cr,_,avg⟩:=(tab T i u).info;obtain ⟨mz,RB,_⟩:=avg _ bI;have vs:z=mz:=by have:=eL w;simp[zeroValue,typeInfo,Cr,RB]at this;exact this.symm
  subst vs;obtain ⟨cs,rfl,oA⟩:=avi φ ι w;have jx:i.ty.isAgg=true:=Il.symm;obtain ⟨place,aP,atz⟩: ∃place:Nat->Option (Nat×Nat),(∀j U ad,i.fields[j]? =some U->i.ty.nth j=some ad->place j=some (i.ty.offs j,ad.size))/\P.built T ay.toList=Instr.fill place cs ay.toList:=by
   have al:=(tab T i u).desc;unfold k6 at al;split at al
   ·rename_i e;rw[e]at jx;cases jx
   ·rename_i e;rw[e]at jx;cases jx
   ·rename_i e;rw[e]at jx;cases jx
   ·rename_i e;rw[e]at jx;cases jx
   ·rename_i e;rw[e]at jx;cases jx
   ·rcases al with ⟨_,ct,al,ae,af⟩|⟨_,m,b6,dB,al,hm,he,af⟩
    ·have au0:=Go.ChangeMaps.mapM_total (f:=λ(f:Field)=>(P.info? f.type).map λi=>(f.offset,i.size)) (0,0) (l:=ct.toList) (by
      intro fd mU;obtain ⟨k,j5,jM⟩:=List.getElem_of_mem mU;have hR:k<i.fields.length:=by rw[<-ae];simpa using j5
      obtain ⟨adg,s,E,_,j,an,_,_⟩:=af k _ (hg hR);have O:adg=fd:=by
       have auc:k<ct.size:=by simpa using j5
       rw[Array.getElem?_eq_getElem auc]at s;injection s with s
       rw[<-s,<-jM];simp
      subst O;obtain ⟨aeK,ix,_⟩:=(tab _ j an).info;rw[E,ix];exact ⟨_,rfl⟩)
     refine ⟨λx=>((ct.toList.map λx=>(((P.info? x.type).map λi=>(x.offset,i.size)).getD (0,0))).toArray)[x]?,?_,?_⟩
     ·intro j U ad jf hu;obtain ⟨fd,s,E,O,gL,kG,aC,ba⟩:=af j U jf;rw[hu]at aC;injection aC with aC
      subst aC;obtain ⟨aeK,ix,e8,_⟩:=(tab _ gL kG).info;have dq:ct.toList[j]? =some fd:=by simpa using s
      simp[s,E,ix,e8,O]
     ·unfold Program.built;rw[Cr,al];simp only[RB,au0];rfl
    ·refine ⟨λi=>some (i*dB.size,dB.size),?_,?_⟩
     ·intro j U ad jf hu;obtain ⟨s,E,gL,kG,aC,ba⟩:=af j U jf;rw[hu]at aC;injection aC with aC
      subst aC;obtain ⟨aeK,ix,e8,_⟩:=(tab _ gL kG).info;rw[s,he]at ix;injection ix with ix
      subst ix;simp[<-E,e8]
     ·unfold Program.built;rw[Cr,al];simp only[RB,he];rfl
  obtain ⟨aR,av,l5,fB,g,p6,rfl,q6,adR,QT⟩:=abU (cx:=cx) aP parts ay.toList φ l cs H n r aA aI e h oA (by simpa [K.fits] using ave) (by
   have:K.idsL l=[]:=by simpa [K.ids] using avf
   rw[this];simp) W
  subst aR;exact cD.ghost g (Gz ⟨l5,rfl,q6⟩) (by simpa [K.ids] using QT) (run_build w T ay l5 (by rw[atz,p6]))
 ·simp[HM.go]at e
end
open Go.RowKit
section
variable {P:cq} {cx:cd} {φ av:bJ} {ι aH:Nat->az} {w ao:bh} {H:List aF} {n:Nat} {r:K} {aA:List aF} {aI:Nat}
theorem w1 [Env] (h:cc φ ι w H) {o:Nat} (W:(aE H o).owns=true) (aR:n<=H.length) (h5:(aE H n).live=false) {v:az} {dd:aF} (oy:dd.owns=true) (fk:dd.ids=[])
  (auB:ao.os=w.os) (auX:ao.tape=w.tape) (Rc:ao.output=w.output) (auR:w.heap.size<=ao.heap.size) (adJ: ∀b,b<w.heap.size->dG (ι o)≠some b->ao.heap[b]? =w.heap[b]?)
  (aP: ∀b k,φ b k->av b k) (aw: ∀b k,φ b k->ao.cell? ⟨b,k,none⟩=w.cell? ⟨b,k,none⟩) (Q8: ∀b k,av b k->φ b k\/(dG v=some b/\ ∃ad,ao.cell? ⟨b,k,none⟩=some ad))
  (aZ: ∀b,dG v=some b->w.heap.size<=b\/dG (ι o)=some b) (dv:jt av (ee ι n v) ao n dd):
  cc av (ee ι n v) ao (bY (bY H o .gone) n dd)/\Step φ ι w H av (ee ι n v) ao (bY (bY H o .gone) n dd)/\ej ι H (ee ι n v) (bY (bY H o .gone) n dd)/\iP H n (bY (bY H o .gone) n dd) (n+1):=by
 have fa: ∀i,(aE H i).owns=true->(aE H i).live=true:=λi W=>by cases dv:aE H i<;>rw[dv]at W<;>first |rfl |(cases W)
 have bd:=gB (fa o W);have cC: ∀i,(aE H i).live=true->i≠n:=λi u e=>by subst e;rw[h5]at u;cases u
 have auz:o≠n:=cC o (fa o W);have bx: ∀i,aE (bY (bY H o .gone) n dd) i=if i=n then dd else if i=o then .gone else aE H i:=λi=>by
  rw[gA _ n dd i (by rw[ie H o _ bd];exact aR)];split
  ·rfl
  ·rw[gA H o _ i (Nat.le_of_lt bd)]
 have u: ∀i,(aE H i).live=true->ee ι n v i=ι i:=λi u=>by simp[ee,cC i u]
 have gG:dd.live=true:=by cases dd<;>first |rfl |(cases oy)
 have ab: ∀i,(aE H i).live=true->(aE (bY (bY H o .gone) n dd) i).live=true:=λi h=>by
  rw[bx,if_neg (cC i h)];split
  ·rfl
  ·exact h
 have QF:(ee ι n v) n=v:=by simp[ee]
 have Rb: ∀i b,i≠n->i≠o->(aE H i).owns=true->dG (ι i)=some b->dG v≠some b/\b<w.heap.size/\dG (ι o)≠some b:=by
  intro i b s E O aC;have J:=uA h O aC;have ba:dG (ι o)≠some b:=λe=>E (h.apart i o b O W aC e)
  exact ⟨λe=>by
            rcases aZ b e with bF |bF
            ·omega
            ·exact ba bF,J,ba⟩
 refine ⟨⟨λi=> ?_,λi j b jh lf s E=> ?_,λb k J=> ?_,λi j an=> ?_,λg=>(h.glob g).mono aP aw⟩,⟨aP,aw,λb k J=> ?_,auR,auB,auX,Rc,λb J x3=>adJ b J (λe=>x3 ⟨o,W,e⟩),λb J=> ?_⟩,⟨u,ab⟩,?_⟩
 ·rw[bx];split
  ·rename_i e;subst e;exact dv
  ·rename_i s;split
   ·trivial
   ·rename_i E;refine (h.obj i).keep aP aw (u i) (λj an=>u j (h.ids i j an)) λb iy J=> ?_
    ·obtain ⟨bb,aU,ck⟩:=Rb i b s E iy J;refine ⟨adJ b aU ck,λk af=> ?_⟩;rcases Q8 b k af with O |O
     ·exact O
     ·exact absurd O.1 bb
 ·rw[bx]at jh lf;by_cases O:i=n
  ·by_cases aC:j=n
   ·rw[O,aC]
   ·rw[if_neg aC]at lf;split at lf
    ·cases lf
    ·rename_i ba;subst O;rw[QF]at s;rw[u j (fa j lf)]at E;exact absurd s (Rb j b aC ba lf E).1
  ·rw[if_neg O]at jh;split at jh
   ·cases jh
   ·rename_i ba;rw[u i (fa i jh)]at s;by_cases aC:j=n
    ·subst aC;rw[QF]at E;exact absurd E (Rb i b O ba jh s).1
    ·rw[if_neg aC]at lf;split at lf
     ·cases lf
     ·rw[u j (fa j lf)]at E;exact h.apart i j b jh lf s E
 ·rcases Q8 b k J with s |s
  ·rw[aw b k s];exact h.phi b k s
  ·exact s.2
 ·rw[bx]at an;split at an
  ·rw[fk]at an;simp at an
  ·split at an
   ·simp[aF.ids]at an
   ·exact ab j (h.ids i j an)
 ·rcases Q8 b k J with s |s
  ·exact .inl s
  ·rcases aZ b s.1 with E |E
   ·exact .inr (.inl E)
   ·exact .inr (.inr ⟨o,W,E⟩)
 ·obtain ⟨i,s,E⟩:=J;rw[bx]at s;split at s
  ·rename_i e;subst e;rw[QF]at E;rcases aZ b E with O |O
   ·exact .inl O
   ·exact .inr ⟨o,W,O⟩
  ·split at s
   ·cases s
   ·rw[u i (fa i s)]at E;exact .inr ⟨i,s,E⟩
 ·have ih:=ie H o .gone bd;refine ⟨by omega,?_,λh=> ?_,λi u=> ?_,λh=> ?_⟩
  ·rcases Nat.lt_or_ge n H.length with s |s
   ·rw[ie _ n dd (by rw[ih];exact s),ih];exact b7 _
   ·have:n=(bY H o .gone).length:=by omega
    rw[this,tA];omega
  ·rcases Nat.lt_or_ge n H.length with s |s
   ·rw[ie _ n dd (by rw[ih];exact s),ih];exact s
   ·have:n=(bY H o .gone).length:=by omega
    rw[this,tA];exact b7 _
  ·rw[bx,if_neg (by omega)];split
   ·rename_i e;subst e;rw[fa i W];rfl
   ·rfl
  ·have:n=(bY H o .gone).length:=by omega
   rw[this,tA]
structure w9 (P:cq) (φ:bJ) (w:bh) (t:aB) (aW:List t.den) (x:az) (news:List az):Prop where
 len: ∀w,(Builtin.lenOf x).run P w=.ok aW.length w
 chunks:cY (bt φ w t) aW news
 cells: ∀ao,ia w ao->(Builtin.firstCells t.size aW.length x).run P ao=.ok news.toArray ao
structure GM (P:cq) (T dS e:bm) (t:aB) (bytes:Nat):Prop where
 dst:P.underlying T=some (.slice e)
 src: ∃I,P.underlying dS=some I/\ ∀k,I≠ .int k
 el:sF P e t bytes
theorem ia.refl (w:bh):ia w w:=⟨rfl,rfl,rfl,b7 _,λ_ _=>rfl⟩
theorem ia.drew (w:bh):ia w w.drew:=⟨rfl,rfl,rfl,b7 _,λ_ _=>rfl⟩
theorem Dc {T dS ty e:bm} {t:aB} {bytes:Nat} (aT:GM P T dS e t bytes) {A:Option Addr} {m c:Nat} {x:az} {aW:List t.den} {news:List az} (ae:w9 P φ w t aW x news) (au:m+aW.length<=c)
  {ao:bh} (gS: ∀a,A=some a->(storeCells (a.add (m*t.size)) news).run P w=.ok () ao) (kI:A=none->ao=w):
  (Builtin.append_ #[T,dS] ty #[.slice A m c,x]).run P w=.ok (.slice A (m+aW.length) c) ao:=by
 obtain ⟨I,al,af⟩:=aT.src;have bI:(match I with | .int _=>true |_=>false)=false:=by cases I<;>first |rfl |(exact absurd rfl (af _))
 have s:=yB (w:=w) aT.el;have E:=ae.cells w (ia.refl w);unfold Builtin.append_;simp only[List.getElem?_toArray,List.getElem?_cons_zero,List.getElem?_cons_succ,Sem.run_bind,run_underlying aT.dst,run_underlying al,Result.andThen_ok,s,Sem.run_pure,bI,Bool.false_eq_true,if_false,ae.len,au,if_true,cK,E];cases A with
 |none=>simp[kI rfl]
 |some a=>simp[gS a rfl]
theorem Tb {T dS ty e:bm} {t:aB} {bytes:Nat} (aT:GM P T dS e t bytes) {A:Option Addr} {m c:Nat} {x:az} {aW:List t.den} {news gl:List az} (ae:w9 P φ w t aW x news) (au:c<m+aW.length)
  (hold:(Builtin.firstCells t.size m (.slice A m c)).run P w.drew=.ok gl.toArray w.drew) (J:(m+aW.length)*bytes<=bp):
  ∃eu eC,m+aW.length<=eu/\eu<=maxLen/\eC.size=(eu-(m+aW.length))*t.size/\(∃us:List t.den,∀φ w,cY (bt φ w t) us eC.toList)/\
  (Builtin.append_ #[T,dS] ty #[.slice A m c,x]).run P w=.ok (.slice (some ⟨w.heap.size,0,none⟩) (m+aW.length) eu) (w.drew.alloc (.cells (gl.toArray++news.toArray++eC) e)):=by
 obtain ⟨I,al,af⟩:=aT.src;have bI:(match I with | .int _=>true |_=>false)=false:=by cases I<;>first |rfl |(exact absurd rfl (af _))
 have s:=yB (w:=w) aT.el;have E:=ae.cells w.drew (ia.drew w);obtain ⟨dB,z,g1,g2,g3,g4,g5,g6,g7,g8⟩:=aT.el;have vn:bp=140737488355328:=rfl;have en:m+aW.length<=bp:=Nat.le_trans (Nat.le_mul_of_pos_right _ g4) J;have sT:=growslice_fits (bytes:=bytes) au (by omega);have aR: ¬(m+aW.length<=c):=by omega
 have ayt: ¬(((m+aW.length:Nat):Int)>IntKind.i64.max/\((false=true)\/bytes=0)):=by
  rintro ⟨_,h |h⟩
  ·cases h
  ·omega
 have as7: ¬(Builtin.nextslicecap (m+aW.length) c*bytes>2^48):=by omega
 have fl: ∀w,(typeInfo e).run P w=.ok dB w:=λw=>by simp[typeInfo,g1]
 have aeD: ∀w,(zeroValue e).run P w=.ok z w:=λw=>by simp[zeroValue,typeInfo,g1,g5]
 have CQ:z.cells.size=t.size:=by simpa using g7
 refine ⟨grownCap w (m+aW.length) c e,Builtin.zeroCells z.cells (grownCap w (m+aW.length) c e-(m+aW.length)),grownCap_ge w _ _ _,grownCap_le_maxLen w _ _ _ (by simp only[maxLen];omega),by rw[size_zeroCells,CQ],?_,?_⟩
 ·obtain ⟨mz,bb,aU,ck,ep⟩:=tx (P:=P) (bytes:=bytes) ⟨dB,z,g1,g2,g3,g4,g5,g6,g7,g8⟩ (grownCap w (m+aW.length) c e-(m+aW.length));have vs:mz=z:=by
   have L:=bb w;rw[aeD]at L;injection L with L _
   exact L.symm
  subst vs;refine ⟨List.replicate (grownCap w (m+aW.length) c e-(m+aW.length)) t.zero,fun φ w=> ?_⟩;have:=ep φ w;rw[<-CQ]at this;exact this
 ·unfold Builtin.append_;simp only[List.getElem?_toArray,List.getElem?_cons_zero,List.getElem?_cons_succ,Sem.run_bind,run_underlying aT.dst,run_underlying al,Result.andThen_ok,s,Sem.run_pure,bI,Bool.false_eq_true,if_false,ae.len,aR,fl,g3,cK];rw[if_neg (by rintro ⟨_,h |h⟩;exact h;omega)];simp only[Sem.run_bind,fl,Result.andThen_ok,g3];rw[if_neg as7];have aD:(choose (.appendCap (m+aW.length) c e)).run P w=.ok (grownCap w (m+aW.length) c e) w.drew:=by simp[Question.forced,grownCap]
  have qc: ∀b,(askRoom b).run P w.drew=.ok () w.drew:=λb=>by unfold askRoom;split<;>rfl
  simp only[Sem.run_pure,Result.andThen_ok,Sem.run_bind,aD,fl,g3,qc,hold,E,if_true,aeD,newRow,run_newObj_alloc];rfl
end
open Go.RowKit
section
variable {P:cq} {cx:cd} {φ av:bJ} {ι aH:Nat->az} {w ao:bh} {H:List aF} {n:Nat} {r:K} {aA:List aF} {aI:Nat}
structure oV (φ:bJ) (w:bh) (t:aB) (xs:List t.den) (v:az):Prop where
 ex: ∃A c aW,v=.slice A xs.length c/\xs.length<=c/\cY (bt φ w t) xs aW/\(xs.length=0\/ ∃b o,A=some ⟨b,o,none⟩/\ ∀i ad,aW[i]? =some ad->w.cell? ⟨b,o+i,none⟩=some ad)
theorem oV.of_CR {t:aB} {xs:List t.den} {v:az} (h:bt φ w (.list t) xs [v]):oV φ w t xs v:=by
 obtain ⟨A,n,c,e,ab,aR,bC⟩:=h;injection e with e _
 subst ab;rcases bC with bC |⟨b,o,aW,rfl,fS,af⟩
 ·refine ⟨A,c,[],e,aR,?_,.inl bC⟩;have:xs=[]:=kU bC;subst this;rfl
 ·exact ⟨_,c,aW,e,aR,af,.inr ⟨b,o,rfl,λi ad hu=>(fS i ad hu).2⟩⟩
theorem abT [Env] {o:Nat} {e:bm} {t:aB} {xs:List t.den} {fz:Bool} (h:jt φ ι w o (.arr e t xs fz)) {A dg:Option Addr} {n c aM u:Nat} (aZ:ι o=.slice A n c) (s:aM<=u) (E:u<=n) (eU:c≠aM->dg=A.map (·.add (aM*t.size))):
  oV φ w t ((xs.take u).drop aM) (.slice dg (u-aM) (c-aM)):=by
 obtain ⟨jr,aI,eu,L,aa,a1,bq,bC⟩:=h;rw[aZ]at L;obtain ⟨rfl,rfl,rfl⟩:=iG L;have hlen:((xs.take u).drop aM).length=u-aM:=by simp[aa];omega
 by_cases bI:u-aM=0
 ·have:(xs.take u).drop aM=[]:=kU (by omega);refine ⟨dg,c-aM,[],by rw[hlen],by omega,?_,.inl (by omega)⟩;rw[this];rfl
 ·have aw:c≠aM:=by omega
  rcases bC with bC |⟨b,pre,cur,c0,rfl,g1,g2,g3,g0,g4,g5,g6,g7⟩
  ·omega
  ·have hle:u*t.size<=n*t.size:=gW _ E;refine ⟨dg,c-aM,(cur.toList.take (u*t.size)).drop (aM*t.size),by rw[hlen],by omega,?_,.inr ⟨b,pre.size+aM*t.size,by rw[eU aw];simp[hv],?_⟩⟩
   ·have:=(g5.take (λx c=>bt.len t x c) u).drop (λx c=>bt.len t x c) aM
    rwa [List.take_take,Nat.min_eq_left hle]at this
   ·intro i v dH;rw[List.getElem?_drop,List.getElem?_take]at dH;split at dH
    ·rw[qg g1,Nat.add_assoc,Gy];simpa using dH
    ·cases dH
theorem E5 [Env] {x:K} {I:eD} {cE:az} (e:(oc x).go H n=some (I,aA,aI)) (h:cc φ ι w H) (ai:x.rel φ ι w cE) (fC: ∀i∈x.ids,(aE H i).live=true):
  aI=n/\ ∃av,e2 φ ι w H av aA/\((∃d,cE=.string ⟨⟨d⟩⟩/\I=⟨.list (.int .u8),j7 d⟩/\x.isStr=true)\/ ∀t xs,I=⟨.list t,xs⟩->oV av w t xs cE):=by
 unfold oc at e;split at e
 ·rename_i t o;simp only[HM.go]at e;split at e
  ·rename_i b6 ad xs fz hm;obtain ⟨kF,W,rfl⟩:=oK hm;obtain ⟨rfl,rfl,rfl⟩:=go_ret e;refine ⟨rfl,φ,e2.refl h,.inr λiB hn al=> ?_⟩;injection al with s E
   injection s with s
   subst s;obtain rfl:=eq_of_heq E;obtain ⟨rfl,A,m,c,aZ⟩:=ai;have ch:=h.obj o;rw[W]at ch;have au:=abT ch aZ (dg:=A) (Nat.zero_le m) (b7 m) (λ_=>by cases A<;>simp[Addr.add]);obtain ⟨jr,aI,eu,L,aa,_⟩:=ch;rw[aZ]at L;obtain ⟨rfl,rfl,rfl⟩:=iG L;rw[aZ];simpa [<-aa] using au
  ·simp[HM.go]at e
 ·rename_i t o aM u;simp only[HM.go]at e;split at e
  ·rename_i b6 ad xs fz hm;obtain ⟨kF,W,rfl⟩:=oK hm;have q:=go_bif e;clear e;obtain ⟨hu,e⟩:=q;have hu:ad=t:=by simpa using hu
   subst hu;obtain ⟨rfl,rfl,rfl⟩:=go_ret e;refine ⟨rfl,φ,e2.refl h,.inr λiB hn al=> ?_⟩;injection al with s E
   injection s with s
   subst s;obtain rfl:=eq_of_heq E;obtain ⟨A,m,c,dg,aZ,s,E,O,rfl,eU,_⟩:=ai;have ch:=h.obj o;rw[W]at ch;exact abT ch aZ s E eU
  ·simp[HM.go]at e
 ·obtain ⟨rfl,rfl,rfl⟩:=go_ret e;exact ⟨rfl,φ,e2.refl h,.inl ⟨_,cA.str.1 ai,rfl,rfl⟩⟩
 ·obtain ⟨aR,av,g,aZ⟩:=tt x φ cE H n I aA aI e h ai fC;refine ⟨aR,av,g,.inr λt xs al=> ?_⟩;subst al;have aw:=aZ.1;rw[rE aZ.2]at aw;exact oV.of_CR (by simpa using aw)
theorem oV.source {t:aB} {aW:List t.den} {v:az} (h:oV φ w t aW v): ∃news,w9 P φ w t aW v news:=by
 obtain ⟨A,c,news,rfl,aw,af,bC⟩:=h;refine ⟨news,λw=>by simp[Builtin.lenOf],af,λao g=> ?_⟩;have ab:=af.len (λx c=>bt.len t x c);rcases bC with bC |⟨b,o,rfl,fT⟩
 ·have:aW=[]:=kU bC;subst this;simp only[cY]at af;subst af;cases A with
  |none=>exact run_firstCells_none _ _ _ _ _
  |some a=>simpa using run_firstCells_some (P:=P) ao t.size 0 a 0 c [] (by simp) (by simp)
 ·exact run_firstCells_some (P:=P) ao t.size aW.length _ aW.length c news ab (λj ad an=>by rw[hv];have s:=fT j ad an;rw[g.cell (World.block_lt_of_cell? w _ s)];exact s)
theorem Mq (d:List UInt8):w9 P φ w (.int .u8) (j7 d) (.string ⟨⟨d⟩⟩) (d.map λb=>.int .u8 (b.toNat:Int)):=by
 refine ⟨λw=> ?_,?_,λao g=> ?_⟩
 ·have:(⟨⟨d⟩⟩:ByteArray).size=d.length:=rfl;simp[Builtin.lenOf,j7,this]
 ·induction d with
  |nil=>rfl
  |cons a d aQ=>exact ⟨[.int .u8 (a.toNat:Int)],_,rfl,rfl,aQ⟩
 ·unfold Builtin.firstCells;simp only[Sem.run_pure];congr 1;apply Array.ext';simp[j7,ByteArray.data_extract,List.extract_eq_take_drop]
theorem acg (tab:cQ P cx) {T:bm} (h:qN cx T=true): ∃I,P.underlying T=some I/\ ∀k,I≠ .int k:=by
 unfold qN at h;split at h
 ·rename_i j an;split at h
  ·rename_i t aT;exact ⟨_,(kL tab an aT).1,λk e=>by cases e⟩
  ·rename_i aT;exact ⟨_,rT tab an aT,λk e=>by cases e⟩
  ·cases h
 ·cases h
theorem aaF [Env] (h:cc φ ι w H) {T dS ty e:bm} {t:aB} {bytes:Nat} (aT:GM P T dS e t bytes) {o:Nat} {xs:List t.den} {fz:Bool} (W:aE H o=.arr e t xs fz) {A dg:Option Addr} {m c k:Nat} (aZ:ι o=.slice A m c)
  (af:k<=m) (auf:fz=true->k=m) (eU:c≠0->dg=A) {x:az} {aW:List t.den} {news:List az} (ae:w9 P φ w t aW x news) (J:(k+aW.length)*bytes<=bp) (aR:n<=H.length) (h5:(aE H n).live=false):
  cD φ ι w H n (.own t n) (bY (bY H o .gone) n (.arr e t (xs.take k++aW) fz)) (n+1) ((Builtin.append_ #[T,dS] ty #[.slice dg k c,x]).run P w):=by
 have ch:=h.obj o;rw[W]at ch;obtain ⟨jr,c6,aX,L,aa,a1,bq,bC⟩:=ch;rw[aZ]at L;obtain ⟨rfl,rfl,rfl⟩:=iG L;have Rd:(aE H o).owns=true:=by rw[W];rfl
 have ij:=ae.chunks.len (λx c=>bt.len t x c);have ri:(xs.take k).length=k:=by simp[aa];omega
 have hlen:(xs.take k++aW).length=k+aW.length:=by simp[aa];omega
 have e9: ∀i∈(K.own t n).ids,(aE (bY (bY H o .gone) n (.arr e t (xs.take k++aW) fz)) i).live=true:=by
  intro i u;have:i=n:=by simpa [K.ids] using u
  subst this;rw[gA _ i _ i (by rw[ie H o _ (gB (by rw[W];rfl))];exact aR),if_pos rfl];rfl
 have mh:=ae.chunks.one;obtain ⟨dB,z,g1,g2,g3,g4,g5,g6,g7,g8⟩:=aT.el;have vn:bp=140737488355328:=rfl;have QW:k+aW.length<=bp:=Nat.le_trans (Nat.le_mul_of_pos_right _ g4) J;by_cases qc:k+aW.length<=c
 ·by_cases ha:c=0
  ·have sV:k=0:=by omega
   have RA:aW=[]:=kU (by omega);subst ha sV RA;have vi:news=[]:=kU (by simpa using ij);subst vi;have eL:=Dc (ty:=ty) aT (A:=dg) ae qc (ao:=w) (λa _=>rfl) (λ_=>rfl);rw[eL];have atA: ∀b,dG (Value.slice dg (0+([]:List t.den).length) 0)≠some b:=λb=>by cases dg<;>simp[dG]
   obtain ⟨bb,aU,ck,ep⟩:=w1 (v:=.slice dg (0+([]:List t.den).length) 0) (dd:=.arr e t (xs.take 0++[]) fz) (ao:=w) (av:=φ) h Rd aR h5 rfl rfl rfl rfl rfl (b7 _) (λ_ _ _=>rfl) (λ_ _ h=>h) (λ_ _ _=>rfl) (λ_ _ h=>.inl h)
    (λb J=>absurd J (atA b)) ⟨dg,0+([]:List t.den).length,0,by simp[ee],by simp,by simp,by simp,.inl rfl⟩
   exact ⟨_,_,φ,_,rfl,bb,aU,ck,ep,uK ⟨by simp[ee],_,_,_,rfl⟩,e9⟩
  ·obtain rfl:=eU ha;rcases bC with bC |⟨b,pre,cur,c0,rfl,bj,bG,dm,py,cJ,fW,hU,m8⟩
   ·exact absurd bC ha
   ·have jK:dG (ι o)=some b:=by rw[aZ];simp[dG,ha]
    have hle:(k+aW.length)*t.size<=c*t.size:=gW _ qc;rw[Nat.add_mul]at hle;obtain ⟨dn,gS,ff,gT⟩:=Jj P (pre.size+k*t.size) news 0 (pre++cur) w bj (by rw[Array.size_append];exact dm.ok) (by rw[ij,Array.size_append,bG];omega) mh;have eL:=Dc (ty:=ty) aT ae qc (A:=some ⟨b,pre.size,none⟩) (ao:=dn) (λa aS=>by injection aS with aS;subst aS;rw[hv];simpa using gS) (λh=>by cases h);rw[eL];simp only[Nat.add_zero]at ff;rw[NU]at ff
    let av:bJ:=λbQ j=>φ bQ j\/(fz=true/\bQ=b/\pre.size<=j/\j<pre.size+(k+aW.length)*t.size)
    have gQ:k*t.size<=m*t.size:=gW _ af;have lN: ∀j,φ b j->pre.size<=j/\j<pre.size+k*t.size:=λj an=>by obtain ⟨bI,kG⟩:=hU j an;rw[auf bI];exact kG
    have ad6:k*t.size<=cur.size:=by rw[bG];exact gW _ (by omega)
    have atD: ∀j,pre.size<=j/\j<pre.size+k*t.size->dn.cell? ⟨b,j,none⟩=w.cell? ⟨b,j,none⟩:=λj an=>by obtain ⟨gL,rfl⟩: ∃gL,j=pre.size+gL:=⟨j-pre.size,by omega⟩;rw[qg ff,qg bj,Gy,Gy];simp only[List.getElem?_toArray];rw[List.append_assoc,List.getElem?_append_left (by simp only[eG,iu];omega),List.getElem?_take,if_pos (by omega)];simp
    have fT: ∀bQ j,φ bQ j->dn.cell? ⟨bQ,j,none⟩=w.cell? ⟨bQ,j,none⟩:=λbQ j an=>by
     by_cases p3:bQ=b
     ·subst p3;exact atD j (lN j an)
     ·exact gT.cell p3
    have yc:((cur.toList.take (k*t.size)++news++cur.toList.drop (k*t.size+news.length)).toArray).size=cur.size:=by simp only[List.size_toArray,fr,eG,List.length_drop,iu,ij];omega
    have dv:jt av (ee ι n (.slice (some ⟨b,pre.size,none⟩) (k+aW.length) c)) dn n (.arr e t (xs.take k++aW) fz):=by
     refine ⟨some ⟨b,pre.size,none⟩,k+aW.length,c,by simp[ee],hlen,qc,bq,.inr ⟨b,pre,_,c0,rfl,ff,by rw[yc,bG],by rw[yc];exact dm,py,?_,?_,?_,λbI j an=>.inr ⟨bI,rfl,by omega,by omega⟩⟩⟩
     ·refine ⟨?_,?_⟩
      ·intro v eZ;simp only[dk]at eZ;rcases eZ with (eZ |eZ)|eZ
       ·exact cJ v (List.mem_of_mem_take eZ)
       ·exact mh v eZ
       ·exact cJ v (List.mem_of_mem_drop eZ)
      ·have dp:((cur.toList.take (k*t.size)++news++cur.toList.drop (k*t.size+news.length)).toArray).toList.drop ((k+aW.length)*t.size)=cur.toList.drop ((k+aW.length)*t.size):=
        Nw (by simpa using ad6) (by rw[ij,Nat.add_mul];exact b7 _)
       rw[dp];exact (cJ.at_ fW _).imp id λ⟨eC,bI⟩=>⟨eC,bI.imp λx c=>bt.mono (λ_ _ h=>.inl h) fT t x c⟩
     ·have cU:((cur.toList.take (k*t.size)++news++cur.toList.drop (k*t.size+news.length)).toArray).toList.take ((k+aW.length)*t.size)=cur.toList.take (k*t.size)++news:=by simp only[];rw[List.take_append_of_le_length (by simp[ij,Nat.add_mul];omega),h8 (by simp[ij,Nat.add_mul];omega)]
      rw[cU];have s:=fW.take (λx c=>bt.len t x c) k;rw[List.take_take,Nat.min_eq_left gQ]at s;exact cY.append _ _ _ _ (s.imp λx c=>bt.mono (λ_ _ h=>.inl h) fT t x c) (ae.chunks.imp λx c=>bt.mono (λ_ _ h=>.inl h) fT t x c)
     ·rintro j (an |⟨bI,_,an⟩)
      ·refine ⟨(hU j an).1,?_⟩;have:=lN j an;rw[Nat.add_mul];omega
      ·exact ⟨bI,an⟩
    obtain ⟨bb,aU,ck,ep⟩:=w1 (v:=.slice (some ⟨b,pre.size,none⟩) (k+aW.length) c) (dd:=.arr e t (xs.take k++aW) fz) (ao:=dn) (av:=av) h Rd aR h5 rfl rfl gT.os gT.tape gT.output (by rw[gT.size];exact b7 _)
     (λbQ h4 cC=>gT.blocks bQ (λe=>cC (e▸jK))) (λ_ _ h=>.inl h) fT
     (λbQ j an=>by
      rcases an with an |⟨bI,rfl,an⟩
      ·exact .inl an
      ·refine .inr ⟨by simp[dG,ha],?_⟩;rw[Nat.add_mul]at an;have bd:j<(pre++(cur.toList.take (k*t.size)++news++cur.toList.drop (k*t.size+news.length)).toArray).size:=by rw[Array.size_append,yc,bG];omega
       exact ⟨_,by rw[qg ff];exact Array.getElem?_eq_getElem bd⟩)
     (λbQ h4=>.inr (by
                 have:b=bQ:=by simpa [dG,ha] using h4
                 rw[<-this];exact jK)) dv
    exact ⟨_,_,av,_,rfl,bb,aU,ck,ep,uK ⟨by simp[ee],_,_,_,rfl⟩,e9⟩
 ·
  have at0:c<k+aW.length:=by omega
  obtain ⟨gl,hold,sR⟩: ∃gl,(Builtin.firstCells t.size k (.slice dg k c)).run P w.drew=.ok gl.toArray w.drew/\cY (bt φ w t) (xs.take k) gl:=by
   by_cases sV:k=0
   ·subst sV;refine ⟨[],?_,by simp[cY]⟩;cases dg with
    |none=>exact run_firstCells_none _ _ _ _ _
    |some a=>simpa using run_firstCells_some (P:=P) w.drew t.size 0 a 0 c [] (by simp) (by simp)
   ·have ha:c≠0:=by omega
    obtain rfl:=eU ha;rcases bC with bC |⟨b,pre,cur,c0,rfl,bj,bG,dm,py,cJ,fW,hU,m8⟩
    ·exact absurd bC ha
    ·have gQ:k*t.size<=m*t.size:=gW _ af;have ad6:k*t.size<=cur.size:=by rw[bG];exact gW _ (by omega)
     have s:=fW.take (λx c=>bt.len t x c) k;rw[List.take_take,Nat.min_eq_left gQ]at s;refine ⟨_,run_firstCells_some (P:=P) w.drew t.size k _ k c (cur.toList.take (k*t.size)) (by simp;omega) (λj ad an=> ?_),s⟩;rw[hv];rw[List.getElem?_take]at an;split at an
     ·show w.cell? _=_;rw[qg bj,Gy];simpa using an
     ·cases an
  have H8:=sR.len (λx c=>bt.len t x c);rw[ri]at H8;obtain ⟨eu,eC,ah,aJ,bR,cB,eL⟩:=Tb (ty:=ty) aT ae at0 hold J;rw[eL];have iS:=ia.drew_alloc w (.cells (gl.toArray++news.toArray++eC) e);have H3:(w.drew.alloc (.cells (gl.toArray++news.toArray++eC) e)).heap[w.heap.size]? =some (.cells (gl.toArray++news.toArray++eC) e (0,0)):=heap_alloc_new w.drew _;generalize hO:w.drew.alloc (.cells (gl.toArray++news.toArray++eC) e)=cr at iS H3 ⊢;have ayw:w.heap.size<cr.heap.size:=(kT.1 H3).1
  let av:bJ:=λbQ j=>φ bQ j\/(fz=true/\bQ=w.heap.size/\j<(k+aW.length)*t.size)
  have fT: ∀bQ j,φ bQ j->cr.cell? ⟨bQ,j,none⟩=w.cell? ⟨bQ,j,none⟩:=λbQ j an=>iS.cell (kP h an)
  have adL:eu≠0:=by omega
  have aet:(gl.toArray++news.toArray++eC).size=eu*t.size:=by simp only[Array.size_append,List.size_toArray,H8,ij,bR];rw[<-Nat.add_mul,<-Nat.add_mul];congr 1;omega
  have dv:jt av (ee ι n (.slice (some ⟨w.heap.size,0,none⟩) (k+aW.length) eu)) cr n (.arr e t (xs.take k++aW) fz):=by
   refine ⟨some ⟨w.heap.size,0,none⟩,k+aW.length,eu,by simp[ee],hlen,ah,aJ,.inr ⟨w.heap.size,#[],_,(0,0),rfl,by rw[Array.empty_append];exact H3,aet,uu _ _,by simp,?_,?_,?_,λbI j an=>.inr ⟨bI,rfl,by simpa using an⟩⟩⟩
   ·obtain ⟨us,mj⟩:=cB;have p2:=cY.append _ _ _ _ (cY.append _ _ _ _ (sR.imp λx c=>bt.mono (λ_ _ h=>(.inl h:av _ _)) fT t x c) (ae.chunks.imp λx c=>bt.mono (λ_ _ h=>(.inl h:av _ _)) fT t x c)) (mj av cr);refine Cells.of_chunks (eC:=xs.take k++aW++us) ?_ _;simp only[Array.toList_append];exact p2
   ·have cU:(gl.toArray++news.toArray++eC).toList.take ((k+aW.length)*t.size)=gl++news:=by simp only[Array.toList_append];rw[List.take_append_of_le_length (by simp[H8,ij,Nat.add_mul]),h8 (by simp[H8,ij,Nat.add_mul])]
    rw[cU];exact cY.append _ _ _ _ (sR.imp λx c=>bt.mono (λ_ _ h=>.inl h) fT t x c) (ae.chunks.imp λx c=>bt.mono (λ_ _ h=>.inl h) fT t x c)
   ·rintro j (an |⟨bI,_,an⟩)
    ·have:=kP h an;omega
    ·exact ⟨bI,by simp,by simpa using an⟩
  obtain ⟨bb,aU,ck,ep⟩:=w1 (v:=.slice (some ⟨w.heap.size,0,none⟩) (k+aW.length) eu) (dd:=.arr e t (xs.take k++aW) fz) (ao:=cr) (av:=av) h Rd aR h5 rfl rfl iS.os iS.tape iS.output iS.size
   (λbQ h4 _=>iS.blocks bQ h4) (λ_ _ h=>.inl h) fT
   (λbQ j an=>by
    rcases an with an |⟨bI,rfl,an⟩
    ·exact .inl an
    ·refine .inr ⟨by simp[dG,adL],?_⟩;have bd:j<(gl.toArray++news.toArray++eC).size:=by rw[aet];exact Nat.lt_of_lt_of_le an (gW _ ah)
     exact ⟨_,by rw[qg H3];exact Array.getElem?_eq_getElem bd⟩)
   (λbQ h4=>.inl (by
               have:w.heap.size=bQ:=by simpa [dG,adL] using h4
               omega)) dv
  exact ⟨_,_,av,_,rfl,bb,aU,ck,ep,uK ⟨by simp[ee],_,_,_,rfl⟩,e9⟩
end
open Go.RowKit
section
variable {P:cq} {cx:cd} {φ av:bJ} {ι aH:Nat->az} {w ao:bh} {H:List aF} {n:Nat} {r:K} {aA:List aF} {aI:Nat}
theorem NO: ∀(H:List aF) (o:Nat),o<H.length->bY H o (aE H o)=H
 |[],o,h=>by simp at h
 |a::l,0,h=>by simp[bY,aE]
 |a::l,o+1,h=>by
  have aQ:=NO l o (by simpa using h);have:aE (a::l) (o+1)=aE l o:=by simp[aE]
  rw[this];simp[bY,aQ]
theorem OK [Env] (h:cc φ ι w H) {o:Nat} {e:bm} {t:aB} {xs:List t.den} (W:aE H o=.arr e t xs false) {A:Option Addr} {m c:Nat} (aZ:ι o=.slice A m c) {k:Nat} {aW:List t.den} {news:List az} (nv:cY (bt φ w t) aW news)
  (af:k+aW.length<=xs.length) {dg:Option Addr} (eU:aW.length≠0->dg=A.map (·.add (k*t.size))):
  ∃ao,(∀a,dg=some a->(storeCells a news).run P w=.ok () ao)/\(dg=none->ao=w)/\cc φ ι ao (bY H o (.arr e t (xs.take k++aW++xs.drop (k+aW.length)) false))/\Step φ ι w H φ ι ao (bY H o (.arr e t (xs.take k++aW++xs.drop (k+aW.length)) false))/\
   ej ι H ι (bY H o (.arr e t (xs.take k++aW++xs.drop (k+aW.length)) false))/\iP H n (bY H o (.arr e t (xs.take k++aW++xs.drop (k+aW.length)) false)) n:=by
 have bd:o<H.length:=gB (by rw[W];rfl);have ij:=nv.len (λx c=>bt.len t x c);by_cases bo:aW.length=0
 ·have CN:aW=[]:=kU bo;subst CN;have vi:news=[]:=kU (by simpa using ij);subst vi;have he:(aF.arr e t (xs.take k++[]++xs.drop (k+([]:List t.den).length)) false)=aE H o:=by rw[W];simp
  rw[he,NO H o bd];exact ⟨w,λa _=>rfl,λ_=>rfl,h,Step.refl _ _ _ _,ej.refl _ _,iP.refl _ _⟩
 ·have ch:=h.obj o;rw[W]at ch;have auN:=ch;obtain ⟨jr,c6,aX,L,aa,a1,bq,bC⟩:=auN;rw[aZ]at L;obtain ⟨rfl,rfl,rfl⟩:=iG L;rcases bC with bC |⟨b,pre,cur,c0,rfl,bj,bG,dm,py,cJ,fW,hU,m8⟩
  ·omega
  ·have ha:c≠0:=by omega
   have jK:dG (ι o)=some b:=by rw[aZ];simp[dG,ha]
   have lN: ∀j,¬φ b j:=λj an=>by have:=(hU j an).1;cases this
   have gQ:(k+aW.length)*t.size<=m*t.size:=gW _ (by omega);have vg:m*t.size<=c*t.size:=gW _ a1;rw[Nat.add_mul]at gQ;obtain ⟨dn,gS,ff,gT⟩:=Jj P (pre.size+k*t.size) news 0 (pre++cur) w bj (by rw[Array.size_append];exact dm.ok) (by rw[ij,Array.size_append,bG];omega) nv.one;simp only[Nat.add_zero]at ff;rw[NU]at ff;rw[eU bo];have yc:((cur.toList.take (k*t.size)++news++cur.toList.drop (k*t.size+news.length)).toArray).size=cur.size:=by simp only[List.size_toArray,fr,eG,List.length_drop,iu,ij];omega
   have fT: ∀bQ j,φ bQ j->dn.cell? ⟨bQ,j,none⟩=w.cell? ⟨bQ,j,none⟩:=λbQ j an=>gT.cell (λe=>lN j (e▸an))
   have dv:jt φ ι dn o (.arr e t (xs.take k++aW++xs.drop (k+aW.length)) false):=by
    refine ⟨some ⟨b,pre.size,none⟩,m,c,aZ,by simp;omega,a1,bq,.inr ⟨b,pre,_,c0,rfl,ff,by rw[yc,bG],by rw[yc];exact dm,py,?_,?_,λj an=>absurd an (lN j),λbI=>by cases bI⟩⟩
    ·refine ⟨?_,?_⟩
     ·intro v eZ;simp only[dk]at eZ;rcases eZ with (eZ |eZ)|eZ
      ·exact cJ v (List.mem_of_mem_take eZ)
      ·exact nv.one v eZ
      ·exact cJ v (List.mem_of_mem_drop eZ)
     ·have dp:((cur.toList.take (k*t.size)++news++cur.toList.drop (k*t.size+news.length)).toArray).toList.drop (m*t.size)=cur.toList.drop (m*t.size):=
       Nw (by rw[iu,bG];omega) (by rw[ij];exact gQ)
      rw[dp];exact cJ.rest.imp id λ⟨eC,bI⟩=>⟨eC,bI.imp λx c=>bt.mono (λ_ _ h=>h) fT t x c⟩
    ·have cU:((cur.toList.take (k*t.size)++news++cur.toList.drop (k*t.size+news.length)).toArray).toList.take (m*t.size)=(cur.toList.take (m*t.size)).take (k*t.size)++news++(cur.toList.take (m*t.size)).drop ((k+aW.length)*t.size):=by simp only[];rw[List.take_take,Nat.min_eq_left (by omega),List.drop_take,Nat.add_mul,<-ij,List.take_append,h8 (by simp[ij];omega)];congr 2;simp[ij];omega
     rw[cU];have s:=fW.take (λx c=>bt.len t x c) k;have E:=fW.drop (λx c=>bt.len t x c) (k+aW.length);exact cY.append _ _ _ _ (cY.append _ _ _ _ (s.imp λx c=>bt.mono (λ_ _ h=>h) fT t x c) (nv.imp λx c=>bt.mono (λ_ _ h=>h) fT t x c)) (E.imp λx c=>bt.mono (λ_ _ h=>h) fT t x c)
   obtain ⟨nc,pG,rQ,DJ⟩:=A8 (n:=n) (dd:=.arr e t (xs.take k++aW++xs.drop (k+aW.length)) false) h (by rw[W];rfl) jK gT lN dv (by simp[aF.ids]) rfl;refine ⟨dn,λa aS=> ?_,λaS=>by simp at aS,nc,pG,rQ,DJ⟩;simp only[Option.map_some,bH]at aS;subst aS;rw[hv];exact gS
end
open Go.RowKit
section
variable {P:cq} {cx:cd} {φ av:bJ} {ι aH:Nat->az} {w ao:bh} {H:List aF} {n:Nat} {r:K} {aA:List aF} {aI:Nat}
theorem aca:(K.tup []).rel φ ι w (.tuple #[]):=⟨#[],rfl,rfl⟩
theorem abo [Env] (tab:cQ P cx) {T:bm} {i:gj} {t:aB} (u:cx.ti T=some i) (aT:i.ty=.list t) {hq:Array bm} (ma:hq= #[T]) {ty:bm} (h:cc φ ι w H) {o:Nat} {e:bm} {xs:List t.den} (W:aE H o=.arr e t xs false) {A:Option Addr} {m c:Nat} (aZ:ι o=.slice A m c) {aM dH:Nat} (s:aM<=dH) (E:dH<=xs.length)
  {dg:Option Addr} {eu:Nat} (eU:dH-aM≠0->dg=A.map (·.add (aM*t.size))):
  cD φ ι w H n (.tup []) (bY H o (.arr e t (xs.take aM++List.replicate (dH-aM) t.zero++xs.drop (aM+(dH-aM))) false)) n ((Builtin.clear_ hq ty #[.slice dg (dH-aM) eu]).run P w):=by
 subst ma;obtain ⟨al,gw⟩:=kL tab u aT;obtain ⟨z,aG,z2,z3,z4⟩:=tx gw (dH-aM);have nv:=z4 φ w;rw[<-z2]at nv;obtain ⟨dn,bb,aU,ck,ep,hz,iI⟩:=OK (P:=P) (n:=n) (k:=aM) (dg:=dg) h W aZ nv (by simp;omega) (λcC=>eU (by simpa using cC));rw[List.length_replicate]at ck ep hz iI;refine ⟨_,dn,φ,ι,?_,ck,ep,hz,iI,aca,by simp[K.ids,K.idsL]⟩;unfold Builtin.clear_;simp only[List.getElem?_toArray,List.getElem?_cons_zero,Sem.run_bind,run_underlying al,Result.andThen_ok,Sem.run_pure];cases dg with
 |none=>simp[aU rfl]
 |some a=>
  cases aR:dH-aM with
  |zero=>
   have ae:=bb a rfl;rw[aR]at ae;simp[storeCells]at ae;simp[ae]
  |succ q=>
   have ae:=bb a rfl;rw[aR]at ae;have b6:(Array.map (λi=>z.cells[i%z.cells.size]!) (Array.range ((q+1)*z.cells.size)))=Builtin.zeroCells z.cells (q+1):=rfl;rw[b6]at ae;simp[aG,ae]
theorem anm [Env] (tab:cQ P cx) {T ty:bm} {hq:Array bm} (ma:hq= #[T]) {x:K} (e:(Ow cx T x).go H n=some (r,aA,aI)) (h:cc φ ι w H) {v:az} (ai:x.rel φ ι w v) (iz: ∃I,P.underlying T=some I):
  cD φ ι w H n r aA aI ((Builtin.clear_ hq ty #[v]).run P w):=by
 unfold Ow at e;split at e
 ·rename_i t o;have q:=go_bif e;clear e;obtain ⟨bU,e⟩:=q;obtain ⟨i,u,aT⟩:=hK bU;simp only[HM.go]at e;split at e
  ·rename_i b6 ad xs fz W;have q:=go_bif e;clear e;obtain ⟨J,e⟩:=q;simp only[bN,dJ,eJ]at J;obtain ⟨rfl,rfl⟩:=J;simp only[HM.go,bH,cV]at e;obtain ⟨rfl,rfl,rfl⟩:=e;obtain ⟨rfl,A,m,c,aZ⟩:=ai;have ch:=h.obj o;rw[W]at ch;obtain ⟨jr,c6,aX,L,aa,a1,bq,bC⟩:=ch;rw[aZ]at L;obtain ⟨rfl,rfl,rfl⟩:=iG L;subst aa;have:=abo (n:=n) (ty:=ty) tab u aT ma h W aZ (aM:=0) (dH:=xs.length) (dg:=A) (eu:=c) (Nat.zero_le _) (b7 _) (λcC=>by
    rcases bC with bC |⟨b,pre,cur,c0,rfl,_⟩
    ·omega
    ·simp[hv])
   rw[aZ];simpa using this
  ·simp[HM.go]at e
 ·rename_i t o aM dH;have q:=go_bif e;clear e;obtain ⟨bU,e⟩:=q;obtain ⟨i,u,aT⟩:=hK bU;simp only[HM.go]at e;split at e
  ·rename_i b6 ad xs fz W;have q:=go_bif e;clear e;obtain ⟨J,e⟩:=q;simp only[bN,dJ,eJ]at J;obtain ⟨rfl,rfl⟩:=J;simp only[HM.go,bH,cV]at e;obtain ⟨rfl,rfl,rfl⟩:=e;obtain ⟨A,m,c,dg,aZ,s,E,O,rfl,eU,di⟩:=ai;have ch:=h.obj o;rw[W]at ch;obtain ⟨jr,c6,aX,L,aa,_⟩:=ch;rw[aZ]at L;obtain ⟨rfl,rfl,rfl⟩:=iG L;exact abo (n:=n) (ty:=ty) tab u aT ma h W aZ s (by omega) (λcC=>eU (by omega))
  ·simp[HM.go]at e
 ·obtain ⟨rfl,rfl,rfl⟩:=go_ret e;simp only[K.rel]at ai;subst ai;obtain ⟨I,al⟩:=iz;subst ma;refine cD.pure (r:=.tup []) (v:=.tuple #[]) h aca (by simp[K.ids,K.idsL]) ?_;unfold Builtin.clear_;cases I<;>simp[run_underlying al]
 ·simp[HM.go]at e
end
open Go.RowKit
section
variable {P:cq} {cx:cd} {φ av:bJ} {ι aH:Nat->az} {w ao:bh} {H:List aF} {n:Nat} {r:K} {aA:List aF} {aI:Nat}
theorem asr {I:eD} {cE:az} {t:aB} {aW:List t.den} (x:K) (al:I.t.cast? (.list t) I.x=some aW) (h:(∃d,cE=.string ⟨⟨d⟩⟩/\I=⟨.list (.int .u8),j7 d⟩/\x.isStr=true)\/ ∀t xs,I=⟨.list t,xs⟩->oV φ w t xs cE):
  ∃news,w9 P φ w t aW cE news:=by
 obtain ⟨ad,z⟩:=I;obtain ⟨e,rfl⟩:=rJ al;simp only at e;subst e;rcases h with ⟨d,rfl,h,_⟩|h
 ·injection h with s E
  injection s with s
  subst s;obtain rfl:=eq_of_heq E;exact ⟨_,Mq d⟩
 ·exact (h t _ rfl).source
theorem Ao {ad t:aB} {xs:List ad.den} {aW:List t.den} (h:ad.list.cast? t.list xs=some aW): ∃e:ad=t,aW=e▸xs:=by
 obtain ⟨e,rfl⟩:=rJ h;injection e with e
 subst e;exact ⟨rfl,rfl⟩
theorem ank [Env] (tab:cQ P cx) {T dS ty:bm} {d x:K} (e:(Og cx T dS d x).go H n=some (r,aA,aI)) (h:cc φ ι w H) {aO cE:az} (ae:d.rel φ ι w aO) (ai:x.rel φ ι w cE) (ea:iZ H n aI):
  cD φ ι w H n r aA aI ((Builtin.append_ #[T,dS] ty #[aO,cE]).run P w):=by
 unfold Og at e;split at e
 ·rename_i b6 t0 k m;have q:=go_bif e;clear e;obtain ⟨Qu,e⟩:=q;obtain ⟨i2,e8,CH⟩:=hK Qu;split at e
  ·rename_i i u;split at e
   ·rename_i t aT;obtain ⟨al,gw⟩:=kL tab u aT;have p5:P.underlying dS=some (.int k):=by have:=(tab dS i2 e8).desc;unfold k6 at this;rw[CH]at this;exact this
    have q:=go_chk2 e;clear e;obtain ⟨J,e⟩:=q;simp only[bN,dJ]at J;obtain ⟨ff,en⟩:=J;simp only[HM.go,bH,cV]at e;obtain ⟨rfl,rfl,rfl⟩:=e;simp only[K.rel]at ae;subst ae;obtain rfl:=cA.int.1 ai;have ff:(0:Int)<(m:Int):=ff;have en:(m:Int)*(i.bytes:Int)<=(bp:Int):=en;obtain ⟨a,rfl⟩:=Int.eq_ofNat_of_zero_le (show (0:Int)<=(m:Int) by omega);rw[bE];obtain ⟨z,aG,z2,z3,z4⟩:=tx gw a;obtain ⟨dB,mz,g1,g2,g3,g4,g5,g6,g7,g8⟩:=gw;have vs:z=mz:=by have L:=aG w;simp[zeroValue,typeInfo,g1,g5]at L;exact L.symm
    subst vs;have vn:bp=140737488355328:=rfl;have q0:a*i.bytes<=140737488355328:=by
     have q:((a*i.bytes:Nat):Int)<=((bp:Nat):Int):=by rw[Int.natCast_mul];exact en
     exact vn▸Int.ofNat_le.1 q
    have Qy:0<a:=by omega
    have aS:a<=a*i.bytes:=Nat.le_mul_of_pos_right _ g4;have eL:=Lib.run_append_nil_zeros (P:=P) w T dS ty i.elem dB z k k al p5 g1 g5 a Qy (by rw[g2];exact g6) (by omega) (by rw[g3];omega);rw[eL];have sU:=grownCap_ge w a 0 i.elem;obtain ⟨h9,iO,kS,y3,y4⟩:=tx (P:=P) (t:=t) (bytes:=i.bytes) ⟨dB,z,g1,g2,g3,g4,g5,g6,g7,g8⟩ (grownCap w a 0 i.elem-a);have yi:h9=z:=by have L:=iO w;simp[zeroValue,typeInfo,g1,g5]at L;exact L.symm
    subst yi;have iS:=ia.drew_alloc w (.cells (Builtin.zeroCells h9.cells a++Builtin.zeroCells h9.cells (grownCap w a 0 i.elem-a)) i.elem);have Cd: ∀q,(Builtin.zeroCells h9.cells q).toList=((Array.range (q*t.size)).map λi=>h9.cells[i%h9.cells.size]!).toList:=λq=>by rw[<-z2];rfl
    have a7:=z4 φ (w.drew.alloc (.cells (Builtin.zeroCells h9.cells a++Builtin.zeroCells h9.cells (grownCap w a 0 i.elem-a)) i.elem));have aX:=y4 φ (w.drew.alloc (.cells (Builtin.zeroCells h9.cells a++Builtin.zeroCells h9.cells (grownCap w a 0 i.elem-a)) i.elem));rw[<-Cd]at a7 aX;have dD:=a7.len (λx c=>bt.len t x c);have dr:=aX.len (λx c=>bt.len t x c);simp only[List.length_replicate,iu]at dD dr;have:=uR (φ:=φ) (ι:=ι) (n:=n) h (e:=i.elem) (t:=t) (xs:=List.replicate a t.zero) (c:=grownCap w a 0 i.elem) (b:=w.heap.size) iS (heap_alloc_new w.drew _) (b7 _) (by simpa using sU)
     (grownCap_le_maxLen w _ _ _ (by simp only[maxLen];omega)) (by rw[Array.size_append,dD,dr,<-Nat.add_mul];congr 1;omega) (uu _ _)
     (Cells.of_chunks (by rw[Array.toList_append];exact cY.append _ _ _ _ a7 aX) _)
     (by rw[Array.toList_append,List.length_replicate,List.take_append_of_le_length (by rw[iu,dD];exact b7 _),h8 (by rw[iu,dD];exact b7 _)];exact a7) ea.1 (ea.2 n (b7 _) (by omega))
    simpa using this
   ·simp[HM.go]at e
  ·simp[HM.go]at e
 ·simp[HM.go]at e
theorem aoO [Env] (tab:cQ P cx) {T dS ty:bm} {d x:K} (e:(OO cx T dS d x).go H n=some (r,aA,aI)) (h:cc φ ι w H) {aO cE:az} (ae:d.rel φ ι w aO) (ai:x.rel φ ι w cE) (ea:iZ H n aI):
  cD φ ι w H n r aA aI ((Builtin.append_ #[T,dS] ty #[aO,cE]).run P w):=by
 unfold OO at e;split at e
 ·rename_i ad xs c k m;have q:=go_bif e;clear e;obtain ⟨Qu,e⟩:=q;obtain ⟨i2,e8,CH⟩:=hK Qu;split at e
  ·rename_i i u;split at e
   ·rename_i t aT;obtain ⟨al,gw⟩:=kL tab u aT;have p5:P.underlying dS=some (.int k):=by have:=(tab dS i2 e8).desc;unfold k6 at this;rw[CH]at this;exact this
    obtain ⟨hn,lY,n3,cU,dp⟩:=HM.go_bind_some e;clear e;obtain ⟨aw,rfl,rfl⟩:=go_opt cU;obtain ⟨rfl,rfl⟩:=Ao aw;have q:=go_chk2 dp;clear dp;obtain ⟨J,e⟩:=q;simp only[bN,dJ]at J;obtain ⟨⟨ff,HS⟩,en⟩:=J;simp only[HM.go,bH,cV]at e;obtain ⟨rfl,rfl,rfl⟩:=e;obtain ⟨A,sl,rfl,pd⟩:=ae;obtain ⟨jr,c6,aX,gC,ab,hle,bC⟩:=pd;injection gC with gC _
    obtain ⟨rfl,rfl,rfl⟩:=iG gC;obtain rfl:=cA.int.1 ai;have ff:(0:Int)<(m:Int):=ff;have en:((hn.length:Int)+(m:Int))*(i.bytes:Int)<=(bp:Int):=en;have HS:(c:Int)<(hn.length:Int)+(m:Int):=HS;obtain ⟨a,rfl⟩:=Int.eq_ofNat_of_zero_le (show (0:Int)<=(m:Int) by omega);rw[bE];obtain ⟨z,aG,z2,z3,z4⟩:=tx gw a;have ayA:=gw;obtain ⟨dB,mz,g1,g2,g3,g4,g5,g6,g7,g8⟩:=gw;have vs:z=mz:=by have L:=aG w;simp[zeroValue,typeInfo,g1,g5]at L;exact L.symm
    subst vs;have vn:bp=140737488355328:=rfl;have q0:(hn.length+a)*i.bytes<=140737488355328:=by
     have q:(((hn.length+a)*i.bytes:Nat):Int)<=((bp:Nat):Int):=by rw[Int.natCast_mul,Int.natCast_add];exact en
     exact vn▸Int.ofNat_le.1 q
    have Qy:0<a:=by omega
    have aS:hn.length+a<=(hn.length+a)*i.bytes:=Nat.le_mul_of_pos_right _ g4;have gu:a*i.bytes<=(hn.length+a)*i.bytes:=gW _ (by omega);have oo:c<sl+a:=by omega
    obtain ⟨gl,hold,sR⟩: ∃gl,(Builtin.firstCells ad.size sl (.slice A sl c)).run P w.drew=.ok gl.toArray w.drew/\cY (bt φ w ad) hn gl:=by
     rcases bC with bC |⟨b,o,En,rfl,fS,af⟩
     ·subst bC;have:hn=[]:=kU ab;subst this;refine ⟨[],?_,rfl⟩;cases A with
      |none=>exact run_firstCells_none _ _ _ _ _
      |some a=>simpa using run_firstCells_some (P:=P) w.drew ad.size 0 a 0 c [] (by simp) (by simp)
     ·have hR:=af.len (λx c=>bt.len ad x c);exact ⟨En,run_firstCells_some (P:=P) w.drew ad.size sl _ sl c En (by rw[hR,ab]) (λj v an=>by rw[hv];exact (fS j v an).2),af⟩
    have sT:=growslice_fits (bytes:=i.bytes) oo (by rw[<-ab];omega);have eL:=Lib.run_append_grow_zeros (P:=P) w T dS ty i.elem dB z k k al p5 g1 g5 A sl c gl (by rw[g2];exact hold) a Qy (by rw[g2];exact g6) oo (by rw[<-ab];omega) (by rw[g3];omega) (by rw[g3];omega);rw[eL];have sU:=grownCap_ge w (sl+a) c i.elem;obtain ⟨h9,iO,kS,y3,y4⟩:=tx (P:=P) (t:=ad) (bytes:=i.bytes) ⟨dB,z,g1,g2,g3,g4,g5,g6,g7,g8⟩ (grownCap w (sl+a) c i.elem-(sl+a));have yi:h9=z:=by have L:=iO w;simp[zeroValue,typeInfo,g1,g5]at L;exact L.symm
    subst yi;have iS:=ia.drew_alloc w (.cells (gl.toArray++Builtin.zeroCells h9.cells a++Builtin.zeroCells h9.cells (grownCap w (sl+a) c i.elem-(sl+a))) i.elem);have Cd: ∀q,(Builtin.zeroCells h9.cells q).toList=((Array.range (q*ad.size)).map λi=>h9.cells[i%h9.cells.size]!).toList:=λq=>by rw[<-z2];rfl
    have a7:=z4 φ (w.drew.alloc (.cells (gl.toArray++Builtin.zeroCells h9.cells a++Builtin.zeroCells h9.cells (grownCap w (sl+a) c i.elem-(sl+a))) i.elem));have aX:=y4 φ (w.drew.alloc (.cells (gl.toArray++Builtin.zeroCells h9.cells a++Builtin.zeroCells h9.cells (grownCap w (sl+a) c i.elem-(sl+a))) i.elem));rw[<-Cd]at a7 aX;have GZ:=sR.imp λx ac0=>bt.mono (av:=φ) (ao:=w.drew.alloc (.cells (gl.toArray++Builtin.zeroCells h9.cells a++Builtin.zeroCells h9.cells (grownCap w (sl+a) c i.elem-(sl+a))) i.elem)) (λ_ _ h=>h) (λb k af=>iS.cell (kP h af)) ad x ac0
    have C0:=GZ.len (λx c=>bt.len ad x c);have dD:=a7.len (λx c=>bt.len ad x c);have dr:=aX.len (λx c=>bt.len ad x c);simp only[List.length_replicate,iu]at dD dr;have hlen:(hn++List.replicate a ad.zero).length=sl+a:=by simp[ab]
    have acZ:=cY.append _ _ _ _ GZ a7;have gE:(gl.toArray++Builtin.zeroCells h9.cells a++Builtin.zeroCells h9.cells (grownCap w (sl+a) c i.elem-(sl+a))).toList=(gl++(Builtin.zeroCells h9.cells a).toList)++(Builtin.zeroCells h9.cells (grownCap w (sl+a) c i.elem-(sl+a))).toList:=by simp
    have afE:(gl++(Builtin.zeroCells h9.cells a).toList).length=(hn++List.replicate a ad.zero).length*ad.size:=by rw[hlen,fr,C0,ab,Nat.add_mul];congr 1
    have:=uR (φ:=φ) (ι:=ι) (n:=n3) h (e:=i.elem) (t:=ad) (xs:=hn++List.replicate a ad.zero) (c:=grownCap w (sl+a) c i.elem) (b:=w.heap.size) iS (heap_alloc_new w.drew _) (b7 _) (by rw[hlen];exact sU)
     (grownCap_le_maxLen w _ _ _ (by simp only[maxLen];omega)) (by simp only[Array.size_append,List.size_toArray];rw[C0,dD,dr,ab,<-Nat.add_mul,<-Nat.add_mul];congr 1;omega) (uu _ _)
     (Cells.of_chunks (by rw[gE];exact cY.append _ _ _ _ acZ aX) _)
     (by rw[gE,List.take_append_of_le_length (by rw[afE];exact b7 _),h8 (by rw[afE];exact b7 _)];exact acZ) ea.1 (ea.2 n3 (b7 _) (by omega))
    rwa [hlen]at this
   ·simp[HM.go]at e
  ·simp[HM.go]at e
 ·exact ank tab e h ae ai ea
theorem amn [Env] (tab:cQ P cx) {T dS ty:bm} {d x:K} (e:(NY cx T dS d x).go H n=some (r,aA,aI)) (h:cc φ ι w H) {aO cE:az} (ae:d.rel φ ι w aO) (ai:x.rel φ ι w cE)
  (ls: ∀i∈d.ids,(aE H i).live=true) (fC: ∀i∈x.ids,(aE H i).live=true) (ea:iZ H n aI):
  cD φ ι w H n r aA aI ((Builtin.append_ #[T,dS] ty #[aO,cE]).run P w):=by
 unfold NY at e;cases iz:qN cx dS
 ·rw[iz,ax]at e;exact aoO tab e h ae ai ea
 rw[iz,ak]at e;split at e
 ·rename_i i u;split at e
  ·rename_i t aT;obtain ⟨al,gw⟩:=kL tab u aT;have ew:GM P T dS i.elem t i.bytes:=⟨al,acg tab iz,gw⟩;obtain ⟨I,H1,c8,L,aa⟩:=HM.go_bind_some e;clear e;obtain ⟨rfl,dy,g1,Ci⟩:=E5 L h ai fC;obtain ⟨aW,e3,dP,a1,bq⟩:=HM.go_bind_some aa;clear aa;obtain ⟨Cf,rfl,rfl⟩:=go_opt a1;obtain ⟨news,src⟩:=asr (P:=P) x Cf Ci;have lO:=K.rel_step g1.step g1.keep ls ae;have ayU: ∀i∈d.ids,(aE e3 i).live=true:=λi u=>by rw[g1.live];exact ls i u
   have kp:=ea.ghost g1;refine cD.after g1 ?_;split at bq
   ·rename_i b6 ad;have q:=go_chk2 bq;clear bq;obtain ⟨J,bq⟩:=q;have J:aW.length*i.bytes<=bp:=by simpa using J
    simp only[HM.go,bH,cV]at bq;obtain ⟨rfl,rfl,rfl⟩:=bq;simp only[K.rel]at lO;subst lO;have h5:=kp.2 dP (b7 _) (by omega);by_cases bo:aW.length=0
    ·have CN:aW=[]:=kU bo;subst CN;have vi:news=[]:=kU (by simpa using src.chunks.len (λx c=>bt.len t x c));subst vi;have eL:=Dc (ty:=ty) ew (A:=none) (m:=0) (c:=0) src (b7 _) (ao:=w) (λa _=>rfl) (λ_=>rfl);rw[eL];exact UD g1.rel kp.1 h5
    ·obtain ⟨eu,eC,ah,aJ,bR,cB,eL⟩:=Tb (ty:=ty) ew (A:=none) (m:=0) (c:=0) (gl:=[]) src (by omega) (run_firstCells_none _ _ _ _ _) (by simpa using J);rw[eL];have iS:=ia.drew_alloc w (.cells (([]:List az).toArray++news.toArray++eC) i.elem);have ij:=src.chunks.len (λx c=>bt.len t x c);have vd:(([]:List az).toArray++news.toArray++eC).toList=news++eC.toList:=by simp
     have:=uR (φ:=dy) (ι:=ι) (n:=dP) g1.rel (e:=i.elem) (t:=t) (xs:=aW) (c:=eu) (b:=w.heap.size) iS (heap_alloc_new w.drew _) (b7 _) (by omega) aJ
      (by simp only[Array.size_append,List.size_toArray,List.length_nil,ij,bR,Nat.zero_add];rw[<-Nat.add_mul];congr 1;omega) (uu _ _)
      (by obtain ⟨us,mj⟩:=cB;exact Cells.of_chunks (by rw[vd];exact cY.append _ _ _ _ (src.chunks.imp λx c=>bt.mono (λ_ _ h=>h) (λb k af=>iS.cell (kP g1.rel af)) t x c) (mj _ _)) _)
      (by rw[vd,List.take_append_of_le_length (by rw[ij];exact b7 _),h8 (by rw[ij];exact b7 _)];exact src.chunks.imp λx c=>bt.mono (λ_ _ h=>h) (λb k af=>iS.cell (kP g1.rel af)) t x c) kp.1 h5
     simpa using this
   ·rename_i ad o;simp only[HM.go]at bq;split at bq
    ·rename_i b6 iN xs fz W;obtain ⟨hn,lY,n3,cU,dp⟩:=HM.go_bind_some bq;clear bq;obtain ⟨aw,rfl,rfl⟩:=go_opt cU;obtain ⟨rfl,rfl⟩:=Ao aw;have q:=go_bif dp;clear dp;obtain ⟨ld,dp⟩:=q;have ld:b6=i.elem:=by simpa using ld
     subst ld;have q:=go_chk2 dp;clear dp;obtain ⟨J,dp⟩:=q;have J:(hn.length+aW.length)*i.bytes<=bp:=by simpa using J
     simp only[HM.go,bH,cV]at dp;obtain ⟨rfl,rfl,rfl⟩:=dp;obtain ⟨rfl,A,m,c,aZ⟩:=lO;have ch:=g1.rel.obj o;rw[W]at ch;obtain ⟨jr,c6,aX,gC,mO,_⟩:=ch;rw[aZ]at gC;obtain ⟨rfl,rfl,rfl⟩:=iG gC;have:=aaF (ty:=ty) g1.rel ew W aZ (k:=m) (dg:=A) (b7 _) (λ_=>rfl) (λ_=>rfl) src (by rw[<-mO];exact J) kp.1 (kp.2 n3 (b7 _) (by omega));rw[aZ]
     rwa [h8 (by omega)]at this
    ·simp[HM.go]at bq
   ·rename_i ad o dH;cases aex:Ux x o
    case true=>
     rw[aex,ak]at bq;simp only[HM.go]at bq;split at bq
     ·rename_i b6 iN xs fz W;obtain ⟨hn,lY,n3,cU,dp⟩:=HM.go_bind_some bq;clear bq;obtain ⟨aw,rfl,rfl⟩:=go_opt cU;obtain ⟨rfl,rfl⟩:=Ao aw;have q:=go_bif dp;clear dp;obtain ⟨ld,dp⟩:=q;simp only[bN,eJ]at ld;obtain ⟨ld,rfl⟩:=ld;have ld:b6=i.elem:=by simpa using ld
      subst ld;have q:=go_chk2 dp;clear dp;obtain ⟨J,dp⟩:=q;have J:dH+aW.length<=hn.length:=by simpa using J
      simp only[HM.go,bH,cV]at dp;obtain ⟨rfl,rfl,rfl⟩:=dp;obtain ⟨A,m,c,dg,aZ,s,E,O,rfl,eU,di⟩:=lO;have ch:=g1.rel.obj o;rw[W]at ch;obtain ⟨jr,c6,aX,gC,mO,_⟩:=ch;rw[aZ]at gC;obtain ⟨rfl,rfl,rfl⟩:=iG gC;by_cases ha:c=0
      ·have bo:aW=[]:=kU (by omega);have CM:hn=[]:=kU (by omega);have at3:dH=0:=by omega
       subst bo at3;have vi:news=[]:=kU (by simpa using src.chunks.len (λx c=>bt.len iN x c));subst vi;have eL:=Dc (ty:=ty) ew (A:=dg) (m:=0) (c:=c-0) src (by simp) (ao:=w) (λa _=>rfl) (λ_=>rfl);rw[eL];have he:(aF.arr i.elem iN (hn.take 0++[]++hn.drop (0+([]:List iN.den).length)) false)=aE lY o:=by rw[W];simp
       rw[he,NO lY o (gB (by rw[W];rfl))];exact cD.pure (r:=.view iN o 0 (0+([]:List iN.den).length)) g1.rel (AL ⟨A,m,c,dg,aZ,by simp,by simp,O,by simp,λh=>by simpa using eU h,di⟩) (by
        intro j an;have:j=o:=by simpa [K.ids] using an
        subst this;rw[W];rfl) rfl
      ·have HL:dg=A:=by rw[eU ha];obtain ⟨b,bw,rfl⟩:=di ha;simp[hv]
       obtain ⟨dn,bb,aU,ck,ep,hz,iI⟩:=OK (n:=n3) (k:=dH) (dg:=A.map (·.add (dH*iN.size))) g1.rel W aZ src.chunks J (λ_=>rfl);have eL:=Dc (ty:=ty) ew (A:=dg) (m:=dH) (c:=c-0) src (by omega) (ao:=dn) (λa aS=>bb _ (by rw[<-HL,aS];rfl)) (λaS=>aU (by rw[<-HL,aS];rfl));have b6:dH-0=dH:=Nat.sub_zero _;rw[b6,eL];refine ⟨_,dn,dy,ι,rfl,ck,ep,hz,iI,AL ⟨A,m,c,dg,aZ,Nat.zero_le _,by omega,O,by simp,λh=>by simpa using eU h,di⟩,λj an=> ?_⟩;have:j=o:=by simpa [K.ids] using an
       subst this;rw[gA _ j _ j (Nat.le_of_lt (gB (by rw[W];rfl))),if_pos rfl];rfl
     ·simp[HM.go]at bq
    rw[aex,ax]at bq;simp only[HM.go]at bq;split at bq
    ·rename_i b6 iN xs fz W;obtain ⟨hn,lY,n3,cU,dp⟩:=HM.go_bind_some bq;clear bq;obtain ⟨aw,rfl,rfl⟩:=go_opt cU;obtain ⟨rfl,rfl⟩:=Ao aw;have q:=go_bif dp;clear dp;obtain ⟨ld,dp⟩:=q;simp only[bN,eJ]at ld;obtain ⟨ld,rfl⟩:=ld;have ld:b6=i.elem:=by simpa using ld
     subst ld;have q:=go_chk2 dp;clear dp;obtain ⟨J,dp⟩:=q;have J:((hn.take dH).length+aW.length)*i.bytes<=bp:=by simpa using J
     simp only[HM.go,bH,cV]at dp;obtain ⟨rfl,rfl,rfl⟩:=dp;obtain ⟨A,m,c,dg,aZ,s,E,O,rfl,eU,di⟩:=lO;have ch:=g1.rel.obj o;rw[W]at ch;obtain ⟨jr,c6,aX,gC,mO,_⟩:=ch;rw[aZ]at gC;obtain ⟨rfl,rfl,rfl⟩:=iG gC;have ab:(hn.take dH).length=dH:=by simp;omega
     rw[ab]at J;have:=aaF (ty:=ty) g1.rel ew W aZ (k:=dH) (dg:=dg) E (λh=>by cases h) (λha=>by rw[eU ha];obtain ⟨b,bw,rfl⟩:=di ha;simp[hv]) src J kp.1 (kp.2 n3 (b7 _) (by omega))
     simpa using this
    ·simp[HM.go]at bq
   ·rename_i ad xs;obtain ⟨hn,lY,n3,cU,dp⟩:=HM.go_bind_some bq;clear bq;obtain ⟨aw,rfl,rfl⟩:=go_opt cU;obtain ⟨rfl,rfl⟩:=Ao aw;have q:=go_chk2 dp;clear dp;obtain ⟨J,dp⟩:=q;simp only[bN,dJ]at J;simp only[HM.go,bH,cV]at dp;obtain ⟨rfl,rfl,rfl⟩:=dp;obtain ⟨A,m,rfl,pd⟩:=lO;obtain ⟨jr,c6,aX,gC,ab,hle,bC⟩:=pd;injection gC with gC _
    obtain ⟨rfl,rfl,rfl⟩:=iG gC;obtain ⟨gl,hold,sR⟩: ∃gl,(Builtin.firstCells ad.size m (.slice A m m)).run P w.drew=.ok gl.toArray w.drew/\cY (bt dy w ad) hn gl:=by
     rcases bC with bC |⟨b,o,En,rfl,fS,af⟩
     ·subst bC;have:hn=[]:=kU ab;subst this;refine ⟨[],?_,rfl⟩;cases A with
      |none=>exact run_firstCells_none _ _ _ _ _
      |some a=>simpa using run_firstCells_some (P:=P) w.drew ad.size 0 a 0 0 [] (by simp) (by simp)
     ·have hR:=af.len (λx c=>bt.len ad x c);exact ⟨En,run_firstCells_some (P:=P) w.drew ad.size m _ m m En (by rw[hR,ab]) (λj v an=>by rw[hv];exact (fS j v an).2),af⟩
    obtain ⟨eu,eC,ah,aJ,bR,cB,eL⟩:=Tb (ty:=ty) ew (A:=A) (m:=m) (c:=m) (gl:=gl) src (by omega) hold (by rw[<-ab];exact J.2);rw[eL];have iS:=ia.drew_alloc w (.cells (gl.toArray++news.toArray++eC) i.elem);have ij:=src.chunks.len (λx c=>bt.len ad x c);have ox:=sR.len (λx c=>bt.len ad x c);have gE:=cY.append _ _ _ _ sR src.chunks;have hlen:(hn++aW).length=m+aW.length:=by simp[ab]
    have vd:(gl.toArray++news.toArray++eC).toList=(gl++news)++eC.toList:=by simp
    have aeh:(gl++news).length=(hn++aW).length*ad.size:=by simp[ox,ij,Nat.add_mul]
    have:=uR (φ:=dy) (ι:=ι) (n:=n3) g1.rel (e:=i.elem) (t:=ad) (xs:=hn++aW) (c:=eu) (b:=w.heap.size) iS (heap_alloc_new w.drew _) (b7 _) (by rw[hlen];exact ah) aJ
     (by simp only[Array.size_append,List.size_toArray,ox,ij,bR,ab];rw[<-Nat.add_mul,<-Nat.add_mul];congr 1;omega) (uu _ _)
     (by obtain ⟨us,mj⟩:=cB;exact Cells.of_chunks (by rw[vd];exact cY.append _ _ _ _ (gE.imp λx c=>bt.mono (λ_ _ h=>h) (λb k af=>iS.cell (kP g1.rel af)) ad x c) (mj _ _)) _)
     (by rw[vd,List.take_append_of_le_length (by rw[aeh];exact b7 _),h8 (by rw[aeh];exact b7 _)];exact gE.imp λx c=>bt.mono (λ_ _ h=>h) (λb k af=>iS.cell (kP g1.rel af)) ad x c) kp.1 (kp.2 n3 (b7 _) (by omega))
    rwa [hlen]at this
   ·simp[HM.go]at bq
  ·simp[HM.go]at e
 ·simp[HM.go]at e
end
open Go.RowKit
section
variable {P:cq} {cx:cd} {φ av:bJ} {ι aH:Nat->az} {w ao:bh} {H:List aF} {n:Nat} {r:K} {aA:List aF} {aI:Nat}
structure GN (P:cq) (φ:bJ) (w:bh) (t:aB) (aW:List t.den) (x:az) (q:Nat) (news:List az):Prop where
 len: ∀w,(Builtin.lenOf x).run P w=.ok aW.length w
 chunks:cY (bt φ w t) (aW.take q) news
 cells:(Builtin.firstCells t.size (Nat.min aW.length q) x).run P w=.ok news.toArray w
theorem oV.first {t:aB} {aW:List t.den} {v:az} (h:oV φ w t aW v) (q:Nat): ∃news,GN P φ w t aW v q news:=by
 obtain ⟨A,c,news,rfl,aw,af,bC⟩:=h;have jM:=af.take (λx c=>bt.len t x c) q;have ih:=jM.len (λx c=>bt.len t x c);refine ⟨_,λw=>by simp[Builtin.lenOf],jM,?_⟩;have Q4:(aW.take q).length=Nat.min aW.length q:=by rw[eG,Nat.min_comm]
 rw[Q4]at ih;rcases bC with bC |⟨b,o,rfl,fT⟩
 ·have:aW=[]:=kU bC;subst this;simp only[cY]at af;subst af;cases A with
  |none=>simp[Builtin.firstCells]
  |some a=>exact run_firstCells_some (P:=P) w t.size _ a 0 c _ ih (by simp)
 ·exact run_firstCells_some (P:=P) w t.size _ _ aW.length c _ ih (λj ad an=>by
   rw[hv];refine fT j ad ?_;have bd:j<(news.take (q*t.size)).length:=(iC.1 an).1;rw[eG]at bd
   rwa [List.getElem?_take_of_lt (by omega)]at an)
theorem apu (d:List UInt8) (q:Nat):GN P φ w (.int .u8) (j7 d) (.string ⟨⟨d⟩⟩) q ((d.take q).map λb=>.int .u8 (b.toNat:Int)):=by
 have dT:(⟨⟨d⟩⟩:ByteArray).size=d.length:=rfl;refine ⟨λw=>by simp[Builtin.lenOf,j7,dT],?_,?_⟩
 ·have e:(j7 d).take q=j7 (d.take q):=by simp[j7,List.map_take]
  rw[e];exact (Mq (P:=P) (φ:=φ) (w:=w) (d.take q)).chunks
 ·unfold Builtin.firstCells;simp only[Sem.run_pure];congr 1;apply Array.ext';have ab:(j7 d).length=d.length:=by simp[j7]
  rw[ab];simp only[ByteArray.data_extract,Array.toList_map,Array.toList_extract,List.extract_eq_take_drop,List.drop_zero,Nat.sub_zero];congr 1;rw[show d.length.min q=min d.length q from rfl,Nat.min_def];split
  ·rw[h8 (b7 _),h8 (by omega)]
  ·rfl
theorem abB {I:eD} {cE:az} {t:aB} {aW:List t.den} (x:K) (q:Nat) (al:I.t.cast? (.list t) I.x=some aW) (h:(∃d,cE=.string ⟨⟨d⟩⟩/\I=⟨.list (.int .u8),j7 d⟩/\x.isStr=true)\/ ∀t xs,I=⟨.list t,xs⟩->oV φ w t xs cE):
  ∃news,GN P φ w t aW cE q news:=by
 obtain ⟨ad,z⟩:=I;obtain ⟨e,rfl⟩:=rJ al;simp only at e;subst e;rcases h with ⟨d,rfl,h,_⟩|h
 ·injection h with s E
  injection s with s
  subst s;obtain rfl:=eq_of_heq E;exact ⟨_,apu d q⟩
 ·exact (h t _ rfl).first q
theorem abX [Env] {T dS ty e:bm} {t:aB} {bytes:Nat} (al:P.underlying T=some (.slice e)) (gw:sF P e t bytes) (h:cc φ ι w H) {o:Nat} {b6:bm} {xs:List t.den} (W:aE H o=.arr b6 t xs false) {A:Option Addr} {m c:Nat} (aZ:ι o=.slice A m c) {aM dH:Nat} (s:aM<=dH) (E:dH<=xs.length)
  {dg:Option Addr} {eu:Nat} (eU:dH-aM≠0->dg=A.map (·.add (aM*t.size))) {aW:List t.den} {cE:az} {news:List az} (aL:GN P φ w t aW cE (dH-aM) news):
  cD φ ι w H n (.dat (.int .i64) ((aW.take (dH-aM)).length:Int)) (bY H o (.arr b6 t (xs.take aM++aW.take (dH-aM)++xs.drop (aM+(aW.take (dH-aM)).length)) false)) n ((Builtin.copy_ #[T,dS] ty #[.slice dg (dH-aM) eu,cE]).run P w):=by
 have ew:(aW.take (dH-aM)).length=Nat.min aW.length (dH-aM):=by rw[eG,Nat.min_comm]
 have hle:(aW.take (dH-aM)).length<=dH-aM:=by rw[eG];omega
 obtain ⟨dn,bb,aU,ck,ep,hz,iI⟩:=OK (P:=P) (n:=n) (k:=aM) (dg:=dg) h W aZ aL.chunks (by omega) (λcC=>eU (by omega));obtain ⟨dB,z,g1,g2,g3,g4,g5,g6,g7,g8⟩:=gw;refine ⟨_,dn,φ,ι,?_,ck,ep,hz,iI,h3 (cA.int.2 rfl),by simp[K.ids]⟩;unfold Builtin.copy_;simp only[List.getElem?_toArray,List.getElem?_cons_zero,List.getElem?_cons_succ,Sem.run_bind,run_underlying al,Result.andThen_ok,Sem.run_pure,aL.len];have dT: ∀w,(sizeOf e).run P w=.ok t.size w:=λw=>by simp[sizeOf,typeInfo,g1,g2]
 rw[dT];simp only[Result.andThen_ok];rw[aL.cells];simp only[Result.andThen_ok];rw[ew];cases dg with
 |none=>simp[aU rfl,goInt]
 |some a=>simp[bb a rfl,goInt]
theorem aoQ [Env] (tab:cQ P cx) {T dS ty:bm} {I x:K} (e:(OW cx T I x).go H n=some (r,aA,aI)) (h:cc φ ι w H) {v cE:az} (al:I.rel φ ι w v) (ai:x.rel φ ι w cE)
  (ls: ∀i∈I.ids,(aE H i).live=true) (fC: ∀i∈x.ids,(aE H i).live=true):
  cD φ ι w H n r aA aI ((Builtin.copy_ #[T,dS] ty #[v,cE]).run P w):=by
 unfold OW at e;split at e
 ·rename_i t o;have q:=go_bif e;clear e;obtain ⟨bU,e⟩:=q;obtain ⟨i,u,aT⟩:=hK bU;obtain ⟨pe,gw⟩:=kL tab u aT;obtain ⟨asP,H1,c8,L,aa⟩:=HM.go_bind_some e;clear e;obtain ⟨rfl,dy,g1,Ci⟩:=E5 L h ai fC;refine cD.after g1 ?_;have mb:=K.rel_step g1.step g1.keep ls al;simp only[HM.go]at aa;split at aa
  ·rename_i b6 ad xs fz W;obtain ⟨aW,e3,dP,a1,bq⟩:=HM.go_bind_some aa;clear aa;obtain ⟨Cf,rfl,rfl⟩:=go_opt a1;have q:=go_bif bq;clear bq;obtain ⟨J,bq⟩:=q;simp only[bN,dJ,eJ]at J;obtain ⟨rfl,rfl⟩:=J;simp only[HM.go,bH,cV]at bq;obtain ⟨rfl,rfl,rfl⟩:=bq;obtain ⟨rfl,A,m,c,aZ⟩:=mb;have ch:=g1.rel.obj o;rw[W]at ch;obtain ⟨jr,c6,aX,bj,bG,dm,cJ,bC⟩:=ch;rw[aZ]at bj;obtain ⟨rfl,rfl,rfl⟩:=iG bj;subst bG;obtain ⟨news,aL⟩:=abB (P:=P) x xs.length Cf Ci;have:=abX (n:=dP) (ty:=ty) (dS:=dS) pe gw g1.rel W aZ (aM:=0) (dH:=xs.length) (dg:=A) (eu:=c) (Nat.zero_le _) (b7 _) (λcC=>by
    rcases bC with bC |⟨b,pre,cur,c0,rfl,_⟩
    ·omega
    ·simp[hv]) aL
   rw[aZ];simpa using this
  ·simp[HM.go]at aa
 ·rename_i t o aM dH;have q:=go_bif e;clear e;obtain ⟨bU,e⟩:=q;obtain ⟨i,u,aT⟩:=hK bU;obtain ⟨pe,gw⟩:=kL tab u aT;obtain ⟨asP,H1,c8,L,aa⟩:=HM.go_bind_some e;clear e;obtain ⟨rfl,dy,g1,Ci⟩:=E5 L h ai fC;refine cD.after g1 ?_;have mb:=K.rel_step g1.step g1.keep ls al;simp only[HM.go]at aa;split at aa
  ·rename_i b6 ad xs fz W;obtain ⟨aW,e3,dP,a1,bq⟩:=HM.go_bind_some aa;clear aa;obtain ⟨Cf,rfl,rfl⟩:=go_opt a1;have q:=go_bif bq;clear bq;obtain ⟨J,bq⟩:=q;simp only[bN,dJ,eJ]at J;obtain ⟨rfl,rfl⟩:=J;simp only[HM.go,bH,cV]at bq;obtain ⟨rfl,rfl,rfl⟩:=bq;obtain ⟨A,m,c,dg,aZ,s,E,O,rfl,eU,di⟩:=mb;have ch:=g1.rel.obj o;rw[W]at ch;obtain ⟨jr,c6,aX,bj,bG,dm,cJ,bC⟩:=ch;rw[aZ]at bj;obtain ⟨rfl,rfl,rfl⟩:=iG bj;obtain ⟨news,aL⟩:=abB (P:=P) x (dH-aM) Cf Ci;exact abX (n:=dP) (ty:=ty) (dS:=dS) pe gw g1.rel W aZ s (by omega) (λcC=>eU (by omega)) aL
  ·simp[HM.go]at aa
 ·simp[HM.go]at e
end
open Go.RowKit
theorem Uu {α:Type} (ar aO:List α) (a off k d aY:Nat) (s:off+k<=d) (E:a+d<=aY) (O:aY<=ar.length) (aZ:aO.length=k):
  (ar.take (a+off)++aO++ar.drop (a+off+k)).take aY=(ar.take aY).take a++(((((ar.take aY).drop a).take d).take off)++aO++((((ar.take aY).drop a).take d).drop (off+k)))++(ar.take aY).drop (a+d):=by
 apply List.ext_getElem?;intro j;simp only[List.getElem?_append,List.getElem?_take,List.getElem?_drop,fr,eG,List.length_drop]
 grind
section
variable {P:cq} {cx:cd} {φ av:bJ} {ι aH:Nat->az} {w ao:bh} {H:List aF} {n:Nat} {r:K} {aA:List aF} {aI:Nat}
theorem Nu {I:eD} {aO:List az} (al:bt φ w I.t I.x aO): ∀(t:aB) (p:List Nat) (x y:t.den) (cs:List az),t.setAt x p I=some y->bt φ w t x cs->t.at_ p=some I.t/\bt φ w t y (cs.take (t.offAt p)++aO++cs.drop (t.offAt p+I.t.size))
 |t,[],x,y,cs,ae,aw=>by
  have q9:I.t.cast? t I.x=some y:=by cases t<;>exact ae
  obtain ⟨e,rfl⟩:=rJ q9;obtain ⟨ad,z⟩:=I;simp only at e;subst e;refine ⟨rfl,?_⟩;simp only[aB.offAt,List.take_zero,List.nil_append,Nat.zero_add];rw[List.drop_of_length_le (by rw[aw.len];exact b7 _),List.append_nil];exact al
 | .pair a b,0::p,x,y,cs,ae,aw=>by
  obtain ⟨a7,aX,rfl,s,E⟩:=aw;simp only[aB.setAt]at ae;obtain ⟨z,bI,rfl⟩:=h7.1 ae;obtain ⟨bb,aU⟩:=Nu al a p x.1 z a7 bI s;have hle:=sb bb;have ab:=s.len;refine ⟨by simp[aB.at_,aB.nth,bb],_,aX,?_,aU,E⟩;have L:(aB.pair a b).offAt (0::p)=a.offAt p:=by simp[aB.offAt,aB.offs,aB.nth]
  rw[L,List.take_append_of_le_length (by omega),List.drop_append_of_le_length (by omega)];simp
 | .pair a b,(i+1)::p,x,y,cs,ae,aw=>by
  obtain ⟨a7,aX,rfl,s,E⟩:=aw;simp only[aB.setAt]at ae;obtain ⟨z,bI,rfl⟩:=h7.1 ae;obtain ⟨bb,aU⟩:=Nu al b (i::p) x.2 z aX bI E;have ab:=s.len;refine ⟨by simpa [aB.at_,aB.nth] using bb,a7,_,?_,s,aU⟩;have L:(aB.pair a b).offAt ((i+1)::p)=a7.length+b.offAt (i::p):=by simp[aB.offAt,aB.offs,aB.nth,ab,Nat.add_assoc]
  rw[L,List.take_length_add_append,Nat.add_assoc,<-List.drop_drop,List.drop_left];simp
 | .bool,_::_,x,y,cs,ae,aw=>by simp[aB.setAt]at ae
 | .int _,_::_,x,y,cs,ae,aw=>by simp[aB.setAt]at ae
 | .str,_::_,x,y,cs,ae,aw=>by simp[aB.setAt]at ae
 | .opq,_::_,x,y,cs,ae,aw=>by simp[aB.setAt]at ae
 | .unit,_::_,x,y,cs,ae,aw=>by simp[aB.setAt]at ae
 | .list _,_::_,x,y,cs,ae,aw=>by simp[aB.setAt]at ae
theorem aa7: ∀(ad:aB) (z:ad.den) (cs:List az),ad.chain=true->bt φ w ad z cs->
  K.relL φ ι w ((ad.parts z).map λI=>K.dat I.t I.x) cs/\K.fitsL ((ad.parts z).map λI=>K.dat I.t I.x) ad=true/\K.idsL ((ad.parts z).map λI=>K.dat I.t I.x)=[]
 | .unit,z,cs,_,h=>⟨h,by simp[aB.parts,K.fitsL],rfl⟩
 | .pair a b,z,cs,aw,⟨a7,aX,e,s,E⟩=>by
  obtain ⟨bb,aU,ck⟩:=aa7 b z.2 aX aw E;obtain ⟨dD,dr⟩:=cA.of s;refine ⟨⟨_,aX,by rw[dr];exact e,h3 dD,bb⟩,?_,?_⟩
  ·simp only[aB.parts,List.map_cons,K.fitsL,K.fits,aU];simp
  ·simp only[aB.parts,List.map_cons,K.idsL,K.ids,ck];rfl
 | .bool,_,_,h,_=>by simp[aB.chain]at h
 | .int _,_,_,h,_=>by simp[aB.chain]at h
 | .str,_,_,h,_=>by simp[aB.chain]at h
 | .opq,_,_,h,_=>by simp[aB.chain]at h
 | .list _,_,_,h,_=>by simp[aB.chain]at h
theorem ara {ad:aB} (h:ad.chain=true):ad.isAgg=true:=by cases ad<;>first |rfl |(simp[aB.chain]at h)
theorem aq4 {x:K} {l:List K} {t:aB} {v:az} (ai:x.rel φ ι w v) (aL:x.fits t=true) (W:x.open_=some l): ∃cs,v=.agg cs/\K.relL φ ι w l cs.toList/\K.fitsL l t=true/\ ∀i∈K.idsL l,i∈x.ids:=by
 unfold K.open_ at W;split at W
 ·rename_i m;injection W with W
  subst W;obtain ⟨cs,rfl,h⟩:=ai;exact ⟨cs,rfl,h,by simpa [K.fits] using aL,by simp[K.ids]⟩
 ·rename_i ad z;have e:ad=t:=by simpa [K.fits] using aL
  subst e;by_cases aS:ad.chain=true
  ·simp only[aS,ak,bH]at W;subst W;obtain ⟨cs,rfl⟩:=uO (ai.2.trans (ara aS));obtain ⟨bb,aU,ck⟩:=aa7 (ι:=ι) ad z cs.toList aS ai.1;exact ⟨cs,rfl,bb,aU,by rw[ck];simp⟩
  ·simp[aS]at W
 ·cases W
theorem ab8: ∀(l:List K) (t:aB) (cs:List az) (i:Nat) (d:K),K.relL φ ι w l cs->K.fitsL l t=true->l[i]? =some d->
  ∃ad aO,t.nth i=some ad/\d.rel φ ι w aO/\d.fits ad=true/\aO.cells.toList=(cs.drop (t.offs i)).take ad.size/\ ∀j∈d.ids,j∈K.idsL l
 |[],_,_,_,_,_,_,h=>by simp at h
 |a::l,t,cs,i,d,⟨v,aX,e,s,E⟩,aL,u=>by
  subst e;cases t with
  |pair p q=>
   simp only[K.fitsL,bN]at aL;obtain ⟨g1,g2⟩:=K.rel_fits a p v s aL.1;cases i with
   |zero=>
    simp only[List.getElem?_cons_zero,bH]at u;subst u;refine ⟨p,v,rfl,s,aL.1,?_,λj an=>by simp[K.idsL,an]⟩;simp only[aB.offs,List.drop_zero];rw[<-g1,show v.cells.size=v.cells.toList.length by simp,List.take_left]
   |succ i=>
    obtain ⟨ad,aO,bb,aU,ck,ep,iI⟩:=ab8 l q aX i d E aL.2 (by simpa using u);refine ⟨ad,aO,bb,aU,ck,?_,λj an=>by simp[K.idsL,iI j an]⟩;simp only[aB.offs];rw[<-g1,show v.cells.size=v.cells.toList.length by simp,<-List.drop_drop,List.drop_left];exact ep
  |_=>simp[K.fitsL]at aL
theorem YI {y:K} {gU:az} (bo:y.rel φ ι w gU): ∀(p:List Nat) (t ad:aB) (x qv:K) (v:az),x.rel φ ι w v->x.fits t=true->K.setPath p x y=some qv->t.at_ p=some ad->y.fits ad=true->
  ∃lq,qv.rel φ ι w lq/\qv.fits t=true/\lq.cells.toList=v.cells.toList.take (t.offAt p)++gU.cells.toList++v.cells.toList.drop (t.offAt p+ad.size)/\ ∀i∈qv.ids,i∈x.ids\/i∈y.ids
 |[],t,ad,x,qv,v,ai,aL,ae,aT,hu=>by simp only[K.setPath,bH]at ae;simp only[aB.at_,bH]at aT;subst ae aT;have ab:=(K.rel_fits x t v ai aL).1;refine ⟨gU,bo,hu,?_,λi u=>.inr u⟩;simp only[aB.offAt,List.take_zero,List.nil_append,Nat.zero_add];rw[List.drop_of_length_le (by rw[iu,ab];exact b7 _),List.append_nil]
 |i::p,t,ad,x,qv,v,ai,aL,ae,aT,hu=>by
  simp only[K.setPath]at ae;split at ae
  ·rename_i l W;split at ae
   ·rename_i d aul;split at ae
    ·rename_i hD q9;injection ae with ae
     subst ae;obtain ⟨cs,rfl,oA,mV,ad3⟩:=aq4 ai aL W;obtain ⟨e,aO,bb,aU,ck,ep,hz⟩:=ab8 l t cs.toList i d oA mV aul;simp only[aB.at_,bb]at aT;obtain ⟨lq,dU,c6,fm,lS⟩:=YI bo p e ad d hD aO aU ck q9 aT hu;obtain ⟨bj,bG⟩:=Oz l t cs.toList i e hD lq oA mV bb dU c6;have hle:=sb aT;have QZ:=FZ bb;have j2:cs.toList.length=t.size:=(K.relL_fits l t _ oA mV).1;have CO:gU.cells.toList.length=ad.size:=by rw[<-(K.rel_fits y ad gU bo hu).1];simp
     refine ⟨.agg (cs.toList.take (t.offs i)++lq.cells.toList++cs.toList.drop (t.offs i+e.size)).toArray,Gz ⟨_,rfl,by simpa using bj⟩,by simpa [K.fits] using bG,?_,?_⟩
     ·have ae:=Uu cs.toList gU.cells.toList (t.offs i) (e.offAt p) ad.size e.size t.size hle QZ (by rw[j2];exact b7 _) CO;have Rs:cs.toList.take t.size=cs.toList:=h8 (by rw[j2];exact b7 _);rw[Rs]at ae;have hlen:(cs.toList.take (t.offs i+e.offAt p)++gU.cells.toList++cs.toList.drop (t.offs i+e.offAt p+ad.size)).length=t.size:=by simp only[fr,eG,List.length_drop,j2,CO];omega
      rw[h8 (by rw[hlen];exact b7 _)]at ae;show cs.toList.take (t.offs i)++lq.cells.toList++cs.toList.drop (t.offs i+e.size)=cs.toList.take (t.offAt (i::p))++gU.cells.toList++cs.toList.drop (t.offAt (i::p)+ad.size);rw[fm,ep];simp only[aB.offAt,bb];rw[ae]
     ·intro j an;have kG:j∈K.idsL (l.set i hD):=by simpa [K.ids] using an
      rcases abG l i hD j kG with s |s
      ·exact .inl (ad3 j s)
      ·rcases lS j s with E |E
       ·exact .inl (ad3 j (hz j E))
       ·exact .inr E
    ·cases ae
   ·cases ae
  ·cases ae
theorem YH (tab:cQ P cx) {T:bm} {ti:gj} (u:cx.ti T=some ti) {v:az} (aZ:v.cells.size=ti.ty.size) {b o:Nat} {e:bm} {c0:Nat×Nat} {cur:Array az} (J:w.heap[b]? =some (.cells cur e c0)) (aL:sI c0 cur.size)
  (hle:o+ti.ty.size<=cur.size) (s: ∀ad∈v.cells.toList,ad.oneCell'=true):
  ∃ao,(storeVar T ⟨b,o,none⟩ v).run P w=.ok () ao/\ao.heap[b]? =some (.cells (cur.toList.take o++v.cells.toList++cur.toList.drop (o+ti.ty.size)).toArray e c0)/\ja w ao b:=by
 obtain ⟨ao,E,O,aC⟩:=Jj P o v.cells.toList 0 cur w J aL (by simp[aZ];exact hle) s;refine ⟨ao,?_,?_,aC⟩
 ·unfold storeVar;simp only[Sem.run_bind,Em tab u,Result.andThen_ok];rw[if_neg (by simp[aZ])];exact E
 ·rw[O];simp[aZ]
theorem anH [Env] (tab:cQ P cx) {T:bm} {a x:K} (e:(OE cx T a x).go H n=some (r,aA,aI)) (h:cc φ ι w H) {my cE:az} (aS:a.rel φ ι w my) (ai:x.rel φ ι w cE)
  (jB: ∀i∈a.ids,(aE H i).live=true) (fC: ∀i∈x.ids,(aE H i).live=true):
  r=.undef/\ ∃ao av aH,(Instr.storeAt T my cE).run P w=.ok () ao/\cc av aH ao aA/\Step φ ι w H av aH ao aA/\ej ι H aH aA/\iP H n aA aI:=by
 unfold OE at e;split at e
 ·rename_i o d i p;have q:=go_bif e;clear e;obtain ⟨bU,e⟩:=q;obtain ⟨ti,fl,fS⟩:=Gc bU;simp only[HM.go]at e;split at e
  ·obtain ⟨I,H1,c8,L,aa⟩:=HM.go_bind_some e;clear e;obtain ⟨rfl,dy,g1,aZ⟩:=tt x φ cE H n I H1 c8 L h ai fC;have xS:=K.rel_step g1.step g1.keep jB aS;simp only[HM.go]at aa;split at aa
   ·rename_i b6 t xs fz W;have q:=go_bif aa;clear aa;obtain ⟨J,aa⟩:=q;simp only[bN,dJ,eJ]at J;obtain ⟨⟨rfl,rfl⟩,ato⟩:=J;obtain ⟨ay1,Ig,Rt⟩:=hK ato;rw[fl]at Ig;injection Ig with Ig
    subst Ig;obtain ⟨y,e3,dP,a1,bq⟩:=HM.go_bind_some aa;clear aa;obtain ⟨lg,rfl,rfl⟩:=go_opt a1;simp only[HM.go,bH,cV]at bq;obtain ⟨rfl,rfl,rfl⟩:=bq;obtain ⟨b,ayi,c0,bw,rfl,bj,bG,dm,cJ,fW,hU,m8,sV⟩:=acH g1.rel W xS;have ch:=g1.rel.obj o;rw[W]at ch;obtain ⟨m,c,pre,cur,adk,aG,z2,z3,z4,z5,hX,gg,n0,z0,z9,nZ,ax2,z12⟩:=ch.blk_arr hU;rw[bj]at hX;injection hX with hX
    injection hX with hX _ ax3
    subst hX ax3;have j5:bw=pre.size:=by rw[<-sV,aG];rfl
    subst j5;rw[ahP]at m8;rw[Array.size_append]at fW;obtain ⟨bb,aU⟩:=Nu aZ.1 d p _ y _ lg m8;have eB:cE.cells.toList.length=I.t.size:=aZ.1.len;have hle:=sb bb;have j2:(i+1)*d.size=i*d.size+d.size:=by rw[Nat.add_mul,Nat.one_mul]
    obtain ⟨ao,ah,aJ,bR⟩:=YH (w:=w) tab fl (v:=cE) (b:=b) (o:=pre.size+i*d.size+d.offAt p) (by rw[Rt];simpa using eB) bj bG (by rw[Rt,Array.size_append];omega) (aZ.1.one _ _ _);have lN: ∀k,¬dy b k:=λk af=>by have:=(ax2 k af).1;cases this
    have H5:m*d.size<=cur.size:=by rw[gg];exact gW _ z3
    have ayD:(i+1)*d.size<=m*d.size:=gW _ (by omega);rw[Rt,Nat.add_assoc pre.size (i*d.size) (d.offAt p),NU]at aJ;have dT:((cur.toList.take (i*d.size+d.offAt p)++cE.cells.toList++cur.toList.drop (i*d.size+d.offAt p+I.t.size)).toArray).size=cur.size:=by simp only[List.size_toArray,fr,eG,List.length_drop,iu,eB];omega
    have fT: ∀bQ k,dy bQ k->ao.cell? ⟨bQ,k,none⟩=w.cell? ⟨bQ,k,none⟩:=λbQ k af=>bR.cell (λe=>lN k (e▸af))
    have mh: ∀v∈(cur.toList.take (i*d.size+d.offAt p)++cE.cells.toList++cur.toList.drop (i*d.size+d.offAt p+I.t.size)).toArray.toList,v.oneCell'=true:=by
     intro v eZ;simp only[dk]at eZ;rcases eZ with (eZ |eZ)|eZ
     ·exact z9 v (List.mem_of_mem_take eZ)
     ·exact aZ.1.one _ _ _ v eZ
     ·exact z9 v (List.mem_of_mem_drop eZ)
    have atF:cY (bt dy ao d) (xs.set i y) ((cur.toList.take (i*d.size+d.offAt p)++cE.cells.toList++cur.toList.drop (i*d.size+d.offAt p+I.t.size)).toArray.toList.take (m*d.size)):=by
     have vp:=Uu cur.toList cE.cells.toList (i*d.size) (d.offAt p) I.t.size d.size (m*d.size) hle (by omega) (by simpa using H5) eB;show cY _ _ (List.take _ (cur.toList.take (i*d.size+d.offAt p)++cE.cells.toList++cur.toList.drop (i*d.size+d.offAt p+I.t.size)));rw[vp];have o7:((cur.toList.take (m*d.size)).drop (i*d.size)).take d.size=(cur.toList.drop (i*d.size)).take d.size:=by rw[List.drop_take,List.take_take,Nat.min_eq_left (by omega)]
     rw[<-o7]at aU;exact (cY.set (λx c=>bt.len d x c) xs (cur.toList.take (m*d.size)) nZ i y _ cJ aU).imp λx c=>bt.mono (λ_ _ h=>h) fT d x c
    have oz:d=.int .u8\/ ∃eC:List d.den,cY (bt dy ao d) eC ((cur.toList.take (i*d.size+d.offAt p)++cE.cells.toList++cur.toList.drop (i*d.size+d.offAt p+I.t.size)).toArray.toList.drop (m*d.size)):=by
     have dp:((cur.toList.take (i*d.size+d.offAt p)++cE.cells.toList++cur.toList.drop (i*d.size+d.offAt p+I.t.size)).toArray).toList.drop (m*d.size)=cur.toList.drop (m*d.size):=by rw[<-eB];exact Nw (by rw[iu];omega) (by omega)
     rw[dp];exact z9.rest.imp id λ⟨eC,bI⟩=>⟨eC,bI.imp λx c=>bt.mono (λ_ _ h=>h) fT d x c⟩
    have dv:jt dy ι ao o (.arr b6 d (xs.set i y) false):=
     ⟨some ⟨b,pre.size,none⟩,m,c,aG,by simpa using z2,z3,z4,.inr ⟨b,pre,_,c0,rfl,aJ,by rw[dT,gg],by rw[dT];exact n0,z0,⟨mh,oz⟩,atF,λk af=>absurd af (lN k),λbI=>by cases bI⟩⟩
    obtain ⟨nc,pG,rQ,DJ⟩:=A8 (n:=dP) (dd:=.arr b6 d (xs.set i y) false) g1.rel (by rw[W];rfl) hU bR lN dv (by simp[aF.ids]) rfl;exact ⟨rfl,ao,dy,ι,by simp[Instr.storeAt,Instr.sureAddr,ah],nc,g1.step.trans pG,g1.keep.trans rQ,(g1.nx _).trans DJ⟩
   ·simp[HM.go]at aa
  ·obtain ⟨y,H1,c8,L,aa⟩:=HM.go_bind_some e;clear e;obtain ⟨rfl,dy,g1,aZ,vF⟩:=Nn L h ai fC;have xS:=K.rel_step g1.step g1.keep jB aS;simp only[HM.go]at aa;split at aa
   ·rename_i U t z W;have q:=go_bif aa;clear aa;obtain ⟨J,aa⟩:=q;have J:d=t:=by simpa using J
    subst J;rw[fS]at aa;simp only at aa;have q:=go_bif aa;clear aa;obtain ⟨sT,aa⟩:=q;obtain ⟨mz,e3,dP,a1,bq⟩:=HM.go_bind_some aa;clear aa;obtain ⟨lg,rfl,rfl⟩:=go_opt a1;simp only[HM.go,bH,cV]at bq;obtain ⟨rfl,rfl,rfl⟩:=bq;obtain ⟨b,cur,c0,ad,rfl,bj,bG,dm,cJ,fW,rfl,m8,yM⟩:=acI g1.rel W xS;obtain ⟨iN,dU,c6,fm,lS⟩:=YI aZ p d ti.ty z mz ad fW m8 lg fS sT;have CK:cE.cells.size=ti.ty.size:=(K.rel_fits y ti.ty cE aZ sT).1;have hle:=sb fS;obtain ⟨ao,ah,aJ,bR⟩:=YH (w:=w) tab fl (v:=cE) (b:=b) (o:=d.offAt p) CK bj dm (by omega) (K.rel_one y ti.ty cE aZ sT);have ch:=g1.rel.obj o;rw[W]at ch;have lN: ∀k,¬dy b k:=by
     obtain ⟨bQ,_,_,_,iO,_,_,_,_,_,_,_,ax0⟩:=ch;rw[iO]at yM;have:bQ=b:=by simpa [dG] using yM
     subst this;exact ax0
    have fT: ∀bQ k,dy bQ k->ao.cell? ⟨bQ,k,none⟩=w.cell? ⟨bQ,k,none⟩:=λbQ k af=>bR.cell (λe=>lN k (e▸af))
    have ye:iN.cells=(ad.cells.toList.take (d.offAt p)++cE.cells.toList++ad.cells.toList.drop (d.offAt p+ti.ty.size)).toArray:=by apply Array.ext';rw[fm]
    have mj:=(K.rel_fits mz d iN dU c6).1;obtain ⟨nS,oO,tU,D4⟩:=A8 (n:=dP) (dd:=.box U d mz) g1.rel (by rw[W];rfl) yM bR lN
     ⟨b,iN.cells,c0,iN,by
      obtain ⟨bQ,_,_,_,iO,_⟩:=ch;rw[iO]at yM ⊢;have:bQ=b:=by simpa [dG] using yM
      rw[this],by rw[aJ,ye],mj,by rw[mj,<-bG];exact dm,K.rel_one mz d iN dU c6,K.rel_mono (λ_ _ h=>h) fT mz iN (λ_ _=>rfl) dU,rfl,c6,lN⟩
     (λj an=>by
      rcases lS j an with s |s
      ·exact g1.rel.idsB o _ _ _ W j s
      ·exact vF j s) rfl
    exact ⟨rfl,ao,dy,ι,by simp[Instr.storeAt,Instr.sureAddr,ah],nS,g1.step.trans oO,g1.keep.trans tU,(g1.nx _).trans D4⟩
   ·simp[HM.go]at aa
  ·simp[HM.go]at e
 ·simp[HM.go]at e
end
open Go.RowKit
section
variable {P:cq} {cx:cd} {φ av:bJ} {ι aH:Nat->az} {w ao:bh} {H:List aF} {n:Nat} {r:K} {aA:List aF} {aI:Nat}
def qF (x:K) (v:az) (m:Nat):Prop:=if x.isStr then ∃d,v=.string ⟨⟨d⟩⟩/\d.length=m else ∃A c,v=.slice A m c
theorem apS [Env] {x:K} {m:Nat} {v:az} (e:(lenOf x).go H n=some (m,aA,aI)) (h:cc φ ι w H) (ai:x.rel φ ι w v):aA=H/\aI=n/\qF x v m:=by
 unfold lenOf at e;split at e
 ·obtain ⟨rfl,rfl,rfl⟩:=go_ret e;obtain ⟨A,m,c,rfl,ab,_⟩:=cA.list ai;exact ⟨rfl,rfl,by simp only[qF,K.isStr,Bool.false_eq_true,if_false];exact ⟨A,c,by rw[ab]⟩⟩
 ·obtain ⟨rfl,rfl,rfl⟩:=go_ret e;obtain rfl:=cA.str.1 ai;exact ⟨rfl,rfl,by simp only[qF,K.isStr,if_true];exact ⟨_,rfl,rfl⟩⟩
 ·obtain ⟨rfl,rfl,rfl⟩:=go_ret e;obtain ⟨A,m,rfl,aw⟩:=ai;obtain ⟨jr,c6,aX,L,ab,_⟩:=aw;injection L with L _
  obtain ⟨rfl,rfl,rfl⟩:=iG L;exact ⟨rfl,rfl,by simp only[qF,K.isStr,Bool.false_eq_true,if_false];exact ⟨A,m,by rw[ab]⟩⟩
 ·obtain ⟨rfl,rfl,rfl⟩:=go_ret e;simp only[K.rel]at ai;subst ai;exact ⟨rfl,rfl,by simp only[qF,K.isStr,Bool.false_eq_true,if_false];exact ⟨_,_,rfl⟩⟩
 ·rename_i t o;simp only[HM.go]at e;split at e
  ·rename_i b6 ad xs fz hm;obtain ⟨kF,W,rfl⟩:=oK hm;obtain ⟨rfl,rfl,rfl⟩:=go_ret e;obtain ⟨rfl,A,m,c,aZ⟩:=ai;have ch:=h.obj o;rw[W]at ch;obtain ⟨jr,aI,eu,L,aa,_⟩:=ch;rw[aZ]at L;obtain ⟨rfl,rfl,rfl⟩:=iG L;exact ⟨rfl,rfl,by simp only[qF,K.isStr,Bool.false_eq_true,if_false];exact ⟨A,c,by rw[aZ,aa]⟩⟩
  ·simp[HM.go]at e
 ·obtain ⟨rfl,rfl,rfl⟩:=go_ret e;obtain ⟨A,m,c,dg,aZ,s,E,O,rfl,eU,_⟩:=ai;exact ⟨rfl,rfl,by simp only[qF,K.isStr,Bool.false_eq_true,if_false];exact ⟨dg,_,rfl⟩⟩
 ·simp[HM.go]at e
theorem apJ [Env] (tab:cQ P cx) {T ty:bm} {x:K} {cE:az} (e:(bif qN cx T&&(O3 cx T==x.isStr) then (lenOf x).bind λn=>HM.ret (.dat (.int .i64) (n:Int)) else .fail).go H n=some (r,aA,aI)) (h:cc φ ι w H) (ai:x.rel φ ι w cE):
  cD φ ι w H n r aA aI ((Builtin.len_ #[T] ty #[cE]).run P w):=by
 have q:=go_bif e;clear e;obtain ⟨J,e⟩:=q;simp only[bN,beq_iff_eq]at J;obtain ⟨ff,en⟩:=J;obtain ⟨m,H1,c8,L,aa⟩:=HM.go_bind_some e;obtain ⟨rfl,rfl,ab⟩:=apS L h ai;obtain ⟨rfl,rfl,rfl⟩:=go_ret aa;refine cD.plain h (Plain.int _ _) ?_;unfold qN at ff;unfold O3 at en;split at ff
 ·rename_i j an;rw[an]at en;simp only at en;split at ff
  ·rename_i t aT;rw[aT]at en;have:x.isStr=false:=by rw[<-en];simp
   simp only[qF,this,Bool.false_eq_true,if_false]at ab;obtain ⟨A,c,rfl⟩:=ab;have al:=(kL tab an aT).1;simp[Builtin.len_,run_underlying al,goInt]
  ·rename_i aT;rw[aT]at en;have:x.isStr=true:=by rw[<-en];simp
   simp only[qF,this,if_true]at ab;obtain ⟨d,rfl,rfl⟩:=ab;have al:=rT tab an aT;have ae:(⟨⟨d⟩⟩:ByteArray).size=d.length:=rfl;simp[Builtin.len_,run_underlying al,goInt,ae]
  ·cases ff
 ·cases ff
theorem Kc {fM:Bool}: ∀(l:List K) (x:K) (aO:List az) (v:az) (r:K),(xe fM x l).go H n=some (r,aA,aI)->K.relT φ ι w l aO->x.rel φ ι w v->(∀i∈x.ids,(aE H i).live=true)->
  aA=H/\aI=n/\ ∃ad,(aO.foldlM (if fM then Builtin.max2 else Builtin.min2) v).run P w=.ok ad w/\r.rel φ ι w ad/\ ∀i∈r.ids,(aE H i).live=true
 |[],x,aO,v,r,e,ab,ai,fC=>by
  have eg:(HM.ret x).go H n=some (r,aA,aI):=by cases x<;>exact e
  obtain ⟨rfl,rfl,rfl⟩:=go_ret eg;simp only[K.relT]at ab;subst ab;exact ⟨rfl,rfl,v,by simp,ai,fC⟩
 |y::l,x,aO,v,r,e,ab,ai,fC=>by
  obtain ⟨gU,wk,rfl,bo,ab⟩:=ab;unfold xe at e;split at e
  ·rename_i heq;cases heq
  ·rename_i k a cj b fB heq;injection heq with s E
   subst s E;have q:=go_bif e;clear e;obtain ⟨af,e⟩:=q;have af:k=cj:=by simpa using af
   subst af;obtain rfl:=cA.int.1 ai;obtain rfl:=cA.int.1 bo;obtain ⟨s,E,ad,hu,au,rz⟩:=Kc l _ wk (.int k (if (if fM then a<b else b<a) then b else a)) r e ab (h3 (cA.int.2 rfl)) (by simp[K.ids]);refine ⟨s,E,ad,?_,au,rz⟩;rw[List.foldlM_cons];cases fM
   ·simp only[Bool.false_eq_true,if_false]at hu ⊢;simp only[Builtin.min2,Sem.run_bind,Sem.run_pure,Result.andThen_ok];exact hu
   ·simp only[if_true]at hu ⊢;simp only[Builtin.max2,Sem.run_bind,Sem.run_pure,Result.andThen_ok,gt_iff_lt];exact hu
  ·rename_i a b fB heq;injection heq with s E
   subst s E;obtain rfl:=cA.str.1 ai;obtain rfl:=cA.str.1 bo;obtain ⟨s,E,ad,hu,au,rz⟩:=Kc l _ wk (.string ⟨⟨bif (bif fM then !(Op.bytesLess a b) else (Op.bytesLess a b||decide (a=b))) then a else b⟩⟩) r e ab (h3 (cA.str.2 rfl)) (by simp[K.ids]);refine ⟨s,E,ad,?_,au,rz⟩;rw[List.foldlM_cons];cases fM
   ·simp only[Bool.false_eq_true,if_false,ax]at hu ⊢;simp only[Builtin.min2,Op.stringOp,qn,uC,Sem.run_bind,Sem.run_pure,Result.andThen_ok,asBool];cases J:(Op.bytesLess a b||decide (a=b))<;>simp only[J,ak,ax]at hu<;>simpa using hu
   ·simp only[if_true,ak]at hu ⊢;simp only[Builtin.max2,Op.stringOp,qn,uC,Sem.run_bind,Sem.run_pure,Result.andThen_ok,asBool];cases J:(Op.bytesLess a b)<;>simp only[J,cP,cK,ak,ax]at hu<;>simpa using hu
  ·simp[HM.go]at e
end
open Go.RowKit
section
variable {P:cq} {cx:cd} {φ av:bJ} {ι aH:Nat->az} {w ao:bh} {H:List aF} {n:Nat} {r:K} {aA:List aF} {aI:Nat}
theorem arS (w:bh) (e:bm) (d:List UInt8) (ae:d.length<=bp):
  ∃cur c0,ia w (Lib.bytesWorld w e ⟨⟨d⟩⟩)/\(Lib.bytesWorld w e ⟨⟨d⟩⟩).heap[w.heap.size]? =some (.cells cur e c0)/\cur.size=grownCap w d.length 0 e/\sI c0 cur.size/\(∀v∈cur.toList,v.oneCell'=true)/\
   cur.toList.take d.length=d.map λb=>Value.int .u8 (b.toNat:Int):=by
 have sU:=grownCap_ge w d.length 0 e;have aw:Lib.bytesCells w e ⟨⟨d⟩⟩=(⟨d⟩:Array UInt8).map (λb=>Value.int .u8 (b.toNat:Int))++Array.replicate (grownCap w d.length 0 e-d.length) (.int .u8 0):=rfl;have dT:(Lib.bytesCells w e ⟨⟨d⟩⟩).size=grownCap w d.length 0 e:=by rw[aw];simp;omega
 have bC:(Lib.bytesWorld w e ⟨⟨d⟩⟩).heap[w.heap.size]? =some (.cells (Lib.bytesCells w e ⟨⟨d⟩⟩) e ((Lib.bytesCells w e ⟨⟨d⟩⟩).size,(Lib.bytesCells w e ⟨⟨d⟩⟩).size+1)):=by unfold Lib.bytesWorld World.freeze;rw[if_neg (by omega)];have b8:(w.drew.alloc (.cells (Lib.bytesCells w e ⟨⟨d⟩⟩) e)).heap[w.heap.size]? =some (.cells (Lib.bytesCells w e ⟨⟨d⟩⟩) e (0,0)):=heap_alloc_new w.drew _;simp only[Array.getElem?_modify,if_pos,b8];rfl
 refine ⟨_,_,⟨?_,?_,?_,?_,λb J=> ?_⟩,bC,dT,?_,?_,?_⟩
 ·unfold Lib.bytesWorld World.freeze;rw[if_neg (by omega)];rfl
 ·unfold Lib.bytesWorld World.freeze;rw[if_neg (by omega)];rfl
 ·unfold Lib.bytesWorld World.freeze;rw[if_neg (by omega)];rfl
 ·rw[Lib.bytesWorld_size];omega
 ·exact Lib.bytesWorld_at_old w e _ b J
 ·intro k af h;omega
 ·intro v aZ;rw[aw]at aZ;simp only[Array.toList_append,Array.toList_map,Array.toList_replicate,dk,List.mem_map]at aZ;rcases aZ with ⟨b,_,rfl⟩|aZ
  ·rfl
  ·rw[List.eq_of_mem_replicate aZ];rfl
 ·rw[aw];simp
theorem aaK {φ:bJ} {w:bh} {k:IntKind}: ∀{xs:List Int} {aW:List az},cY (bt φ w (.int k)) xs aW->aW=xs.map (Value.int k)
 |[],aW,h=>by simpa [cY] using h
 |x::xs,aW,h=>by obtain ⟨a7,aX,rfl,s,E⟩:=h;have dq:a7=[.int k x]:=s;rw[dq,aaK E];rfl
theorem aoP [Env] (tab:cQ P cx) {S T:bm} {x:K} {cE:az} (e:(OV cx S T x).go H n=some (r,aA,aI)) (h:cc φ ι w H) (ai:x.rel φ ι w cE) (fC: ∀i∈x.ids,(aE H i).live=true) (ea:iZ H n aI):
  cD φ ι w H n r aA aI ((convert S T cE).run P w):=by
 unfold OV at e;split at e
 ·rename_i i j u an;split at e
  ·rename_i bw k s E;split at e
   ·obtain ⟨rfl,rfl,rfl⟩:=go_ret e;obtain rfl:=cA.int.1 ai;have d1:=Gb tab u s;have d2:=Gb tab an E;exact cD.plain h (Plain.int _ _) (by simp[convert,run_underlying d1,run_underlying d2,Conv.intToInt])
   ·simp[HM.go]at e
  ·rename_i s E;split at e
   ·obtain ⟨rfl,rfl,rfl⟩:=go_ret e;obtain rfl:=cA.str.1 ai;have d1:=rT tab u s;have d2:=rT tab an E;exact cD.plain h (Plain.str _) (by simp[convert,run_underlying d1,run_underlying d2])
   ·simp[HM.go]at e
  ·rename_i s E;split at e
   ·rename_i a;have q:=go_chk2 e;clear e;obtain ⟨J,e⟩:=q;have J:a.length<=bp:=by simpa using J
    simp only[HM.go,bH,cV]at e;obtain ⟨rfl,rfl,rfl⟩:=e;obtain rfl:=cA.str.1 ai;have d1:=rT tab u s;have d2:=kL tab an E;obtain ⟨ad,hu,Rw⟩:=aa6 tab an E;have d3:=Gb tab hu Rw;rw[Lib.run_convert_string_bytes w S T j.elem ⟨⟨a⟩⟩ d1 d2.1 d3];obtain ⟨cur,c0,g,bC,dT,aL,dq,jy⟩:=arS w j.elem a J;have hlen:(j7 a).length=a.length:=by simp[j7]
    have sU:=grownCap_ge w a.length 0 j.elem;have vn:bp=140737488355328:=rfl;have:=uR (φ:=φ) (ι:=ι) (n:=n) h (e:=j.elem) (t:=.int .u8) (xs:=j7 a) (c:=grownCap w a.length 0 j.elem) (b:=w.heap.size) g bC (b7 _) (by rw[hlen];exact sU)
     (grownCap_le_maxLen w _ _ _ (by simp only[maxLen];omega)) (by rw[dT];simp[aB.size]) ⟨aL,.inl rfl⟩ ⟨dq,.inl rfl⟩ (by
      have cU:(j7 a).length*(aB.int IntKind.u8).size=a.length:=by rw[hlen];simp[aB.size]
      rw[cU,jy];exact (Mq (P:=P) (φ:=φ) (w:=Lib.bytesWorld w j.elem ⟨⟨a⟩⟩) a).chunks) ea.1 (ea.2 n (b7 _) (by omega))
    rw[hlen]at this;exact this
   ·simp[HM.go]at e
  ·rename_i s E;have H6:x.isStr=false:=by
    cases ae:x.isStr with
    |false=>rfl
    |true=>rw[ae]at e;simp[HM.go]at e
   rw[H6]at e;simp only[ax]at e;obtain ⟨I,H1,c8,L,aa⟩:=HM.go_bind_some e;clear e;obtain ⟨rfl,dy,g1,gw⟩:=E5 L h ai fC;obtain ⟨l,e3,dP,a1,bq⟩:=HM.go_bind_some aa;clear aa;obtain ⟨aw,rfl,rfl⟩:=go_opt a1;obtain ⟨rfl,rfl,rfl⟩:=go_ret bq;have d1:=kL tab u s;have d2:=rT tab an E;obtain ⟨ad,hu,Rw⟩:=aa6 tab u s;have d3:=Gb tab hu Rw;obtain ⟨ayn,Hl⟩:=I;obtain ⟨l7,rfl⟩:=rJ aw;simp only at l7;subst l7;refine cD.ghost g1 ((Plain.str _).2 _ _ _) (by simp[K.ids]) ?_;rcases gw with ⟨d,_,_,ae⟩|gw
   ·rw[H6]at ae;cases ae
   ·obtain ⟨A,c,aW,rfl,hle,af,bC⟩:=gw _ _ rfl;have CP:=aaK af;rcases bC with bC |⟨b,o,rfl,fT⟩
    ·have:Hl=[]:=kU bC;subst this;cases A with
     |none=>simp[convert,run_underlying d1.1,run_underlying d2,run_underlying d3,Conv.bytesToString,tZ,ByteArray.empty,ByteArray.emptyWithCapacity];rfl
     |some a=>simp[convert,run_underlying d1.1,run_underlying d2,run_underlying d3,Conv.bytesToString,loadCells,loadCellsFrom,tZ,ByteArray.empty,ByteArray.emptyWithCapacity];rfl
    ·exact run_convert_bytes_arg w S i.elem d1.1 d3 b o Hl.length c Hl rfl (λk gF=>by
      have:=fT k (.int .u8 (Hl.getD k 0)) (by rw[CP];simp only[List.getElem?_map];rw[abD (I:=0) gF];rfl)
      exact this) T d2
  ·simp[HM.go]at e
 ·simp[HM.go]at e
theorem Ys [Env] {t:aB}: ∀(parts:List (Nat×K)) (ay:List (Nat×az)) (φ:bJ) (xs:List t.den) (cells:Array az) (H:List aF) (n:Nat) (aW:List t.den) (aA:List aF) (aI:Nat),(DD.go t xs parts).go H n=some (aW,aA,aI)->cc φ ι w H->
  cY (bt φ w t) xs cells.toList->qx φ ι w H parts ay->
  aI=n/\ ∃av l5,e2 φ ι w H av aA/\Instr.fill (λi=>some (i*t.size,t.size)) cells ay=some l5/\cY (bt av w t) aW l5.toList/\aW.length=xs.length
 |[],[],φ,xs,cells,H,n,aW,aA,aI,e,h,af,_=>by have eg:(HM.ret xs).go H n=some (aW,aA,aI):=e;obtain ⟨rfl,rfl,rfl⟩:=go_ret eg;exact ⟨rfl,φ,cells,e2.refl h,rfl,af,rfl⟩
 |[],_::_,_,_,_,_,_,_,_,_,_,_,_,W=>W.elim
 |_::_,[],_,_,_,_,_,_,_,_,_,_,_,W=>W.elim
 |(j,x)::parts,(gL,v)::ay,φ,xs,cells,H,n,aW,aA,aI,e,h,af,⟨an,ai,mf,W⟩=>by
  subst an;unfold DD.go at e;split at e
  ·rename_i z bI;obtain ⟨y,H1,c8,L,aa⟩:=HM.go_bind_some e;clear e;obtain ⟨rfl,dy,g1,bo⟩:=Fv L h ai mf;have bd:j<xs.length:=by
    rcases Nat.lt_or_ge j xs.length with s |s
    ·exact s
    ·rw[List.getElem?_eq_none s]at bI;cases bI
   have j5:cY (bt dy w t) xs cells.toList:=af.imp λx c=>bt.mono g1.step.phi g1.step.cells t x c
   have ae:=cY.set (λx c=>bt.len t x c) xs cells.toList j5 j y v.cells.toList bd bo.1;have j2:=af.len (λx c=>bt.len t x c);have hle:(j+1)*t.size<=xs.length*t.size:=gW _ bd;rw[Nat.add_mul,Nat.one_mul]at hle;have eB:v.cells.size=t.size:=by have:=bo.1.len;simpa using this
   have sX:=abz (place:=λi=>some (i*t.size,t.size)) (i:=j) (rest:=ay) rfl eB (show j*t.size+t.size<=cells.size by rw[<-iu,j2];exact hle);obtain ⟨aR,av,l5,g2,p6,gF,ab⟩:=Ys parts ay dy (xs.set j y) (cells.toList.take (j*t.size)++v.cells.toList++cells.toList.drop (j*t.size+t.size)).toArray H1 c8 aW aA aI aa g1.rel (by simpa using ae) (W.ghost g1);exact ⟨aR,av,l5,g1.trans g2,by rw[sX];exact p6,gF,by rw[ab];simp⟩
  ·simp[HM.go]at e
theorem ald [Env] (tab:cQ P cx) {T:bm} {len:Nat} {parts:List (Nat×K)} (e:(DD cx T len parts).go H n=some (r,aA,aI)) (h:cc φ ι w H) {ay:Array (Nat×az)} (W:qx φ ι w H parts ay.toList) (ea:iZ H n aI):
  cD φ ι w H n r aA aI ((Instr.buildSlice T len ay).run P w):=by
 unfold DD at e;split at e
 ·rename_i i u;split at e
  ·rename_i t aT;have q:=go_bif e;clear e;obtain ⟨J,e⟩:=q;have J:len*t.size<=100000:=by simpa using J
   obtain ⟨aW,H1,c8,L,aa⟩:=HM.go_bind_some e;clear e;simp only[HM.go,bH,cV]at aa;obtain ⟨rfl,rfl,rfl⟩:=aa;obtain ⟨al,gw⟩:=kL tab u aT;obtain ⟨z,bI,CR,aeu,nv⟩:=tx gw len;obtain ⟨rfl,dy,l5,g1,p6,af,ab⟩:=Ys parts ay.toList φ (List.replicate len t.zero) ((Array.range (len*t.size)).map λi=>z.cells[i%z.cells.size]!) H n aW H1 c8 L h (nv φ w) W;rw[List.length_replicate]at ab;have kp:=ea.ghost g1;have j2:=af.len (λx c=>bt.len t x c);rw[ab]at j2;have hlen:len<=100000:=Nat.le_trans (Nat.le_mul_of_pos_right _ aeu) J;have eL:(Instr.buildSlice T len ay).run P w=.ok (.slice (some ⟨w.heap.size,0,none⟩) len len) (w.alloc (.cells l5 i.elem)):=by
    unfold Instr.buildSlice;have as4: ¬(len*t.size>2^24):=by omega
    simp only[Sem.run_bind,run_underlying al,Result.andThen_ok,yB (w:=w) gw,as4,if_false,Sem.run_pure];by_cases yh:len*t.size=0
    ·have Ib:Array.range 0= #[]:=rfl;rw[yh,Ib]at p6;simp only[List.map_toArray,List.map_nil,Array.map_empty]at p6;simp[yh,Ib,p6,newRow]
    ·simp only[yh,if_false,Sem.run_bind,bI,Result.andThen_ok,Sem.run_pure,p6,newRow,run_newObj_alloc]
   rw[eL];have iS:=ia.alloc w (.cells l5 i.elem);have:=uR (φ:=dy) (ι:=ι) (n:=c8) g1.rel (e:=i.elem) (t:=t) (xs:=aW) (c:=len) (b:=w.heap.size) iS (heap_alloc_new w _) (b7 _) (by omega) (by simp only[maxLen];omega) (by rw[<-iu,j2]) (uu _ _) (Cells.of_chunks (af.imp λx c=>bt.mono (λ_ _ h=>h) (λb k J=>iS.cell (kP g1.rel J)) t x c) _)
    (by rw[ab,h8 (by rw[j2];exact b7 _)];exact af.imp λx c=>bt.mono (λ_ _ h=>h) (λb k J=>iS.cell (kP g1.rel J)) t x c) kp.1 (kp.2 c8 (b7 _) (by omega))
   rw[ab]at this;exact cD.after g1 this
  ·simp[HM.go]at e
 ·simp[HM.go]at e
end
open Go.RowKit
section
variable {P:cq} {cx:cd} {φ av:bJ} {ι aH:Nat->az} {w ao:bh} {H:List aF} {n:Nat} {r:K} {aA:List aF} {aI:Nat}
theorem apq {ty:bm} {b k:Nat} {d:ByteArray} (J:w.heap[b]? =some (.stringIter d k)) (h: ¬k<d.size):(Instr.next (.pointer (some ⟨b,0,none⟩)) true ty).run P w=.ok (.tuple #[.bool false]) w:=by simp only[Instr.next,getObj,Sem.run_bind,Sem.run,J,Result.andThen,h,if_false];rfl
theorem aqH {ty:bm} {b k:Nat} {d:ByteArray} (J:w.heap[b]? =some (.stringIter d k)) (h:k<d.size):(Instr.next (.pointer (some ⟨b,0,none⟩)) true ty).run P w=
  .ok (.tuple #[.bool true,goInt k,.int .i32 (Utf8.decode d k).1]) {w with heap:=w.heap.setIfInBounds b (.stringIter d (k+(Utf8.decode d k).2))}:=by
 simp only[Instr.next,getObj,setObj,Sem.run_bind,Sem.run,J,Result.andThen,h,if_true];rfl
theorem aow {T:bm} (al:P.underlying T=some .string) (d:ByteArray):(Instr.range T (.string d)).run P w=.ok (.pointer (some ⟨w.heap.size,0,none⟩)) (w.alloc (.stringIter d 0)):=by simp[Instr.range,run_underlying al]
theorem ab9 {l:List K} {v:az} (h: ∃aO,v=.tuple aO/\K.relT φ ι w l aO.toList):(K.tup l).rel φ ι w v:=h
theorem anO [Env] (tab:cQ P cx) {T:bm} {x:K} (e:(OH cx T x).go H n=some (r,aA,aI)) (h:cc φ ι w H) {v:az} (ai:x.rel φ ι w v) (ea:iZ H n aI):cD φ ι w H n r aA aI ((Instr.range T v).run P w):=by
 unfold OH at e;split at e
 ·rename_i d;have q:=go_bif e;clear e;obtain ⟨bU,e⟩:=q;obtain ⟨i,u,aT⟩:=hK bU;have al:=rT tab u aT;simp only[HM.go,bH,cV]at e;obtain ⟨rfl,rfl,rfl⟩:=e;obtain rfl:=cA.str.1 ai;have g:=ia.alloc w (.stringIter ⟨⟨d⟩⟩ 0);have J:(w.alloc (.stringIter ⟨⟨d⟩⟩ 0)).heap[w.heap.size]? =some (.stringIter ⟨⟨d⟩⟩ 0):=heap_alloc_new w _;obtain ⟨s,E,O,aC⟩:=A9 (v:=.pointer (some ⟨w.heap.size,0,none⟩)) (dd:=.iter d 0) h ea.1 (ea.2 n (b7 _) (by omega)) g
   ⟨w.heap.size,0,by simp[ee],J,rfl,λk af=>by have:=kP h af;omega⟩ (by simp[aF.ids]) rfl
   (λb J=>by
           have:w.heap.size=b:=by simpa [dG] using J
           omega)
  refine ⟨_,_,φ,_,aow al _,s,E,O,aC,w5 ⟨w.heap.size,0,.inr ⟨by simp[ee],rfl,rfl⟩,by simp[aB.offAt],by simp[aB.at_]⟩,?_⟩
  ·intro i u;have:i=n:=by simpa [K.ids] using u
   subst this;rw[gA H i _ i ea.1,if_pos rfl];rfl
 ·simp[HM.go]at e
theorem an5 [Env] {ty:bm} {x:K} (e:(OR x).go H n=some (r,aA,aI)) (h:cc φ ι w H) {v:az} (ai:x.rel φ ι w v) (fC: ∀i∈x.ids,(aE H i).live=true):cD φ ι w H n r aA aI ((Instr.next v true ty).run P w):=by
 unfold OR at e;split at e
 ·rename_i o;simp only[HM.go]at e;split at e
  ·rename_i d pos W;have ch:=h.obj o;rw[W]at ch;obtain ⟨b,k,L,J,rfl,kq⟩:=ch;obtain ⟨bQ,bb,Ij,rfl,-⟩:=ai;have p3:bQ=b/\bb=0:=by
    rcases Ij with ⟨ayX,c,s,_⟩|⟨s,_,E⟩
    ·rw[L]at s;cases s
    ·rw[L]at s;injection s with s;injection s with s;injection s with s;exact ⟨s.symm,E⟩
   obtain ⟨rfl,rfl⟩:=p3;have jK:dG (ι o)=some bQ:=by rw[L];rfl
   have dT:(⟨⟨d⟩⟩:ByteArray).size=d.length:=rfl;have aeg:(0+0*aB.size .unit+aB.offAt .unit []:Nat)=0:=rfl;cases bd:decide ((k:Int)<(d.length:Int))
   ·simp only[bd,HM.go,ax,bH,cV]at e;obtain ⟨rfl,rfl,rfl⟩:=e;have Cw: ¬k<d.length:=by have:=of_decide_eq_false bd;omega
    refine cD.pure (r:=.tup [.dat .bool false]) (v:=.tuple #[.bool false]) h (ab9 ⟨#[.bool false],rfl,_,_,rfl,h3 (cA.bool.2 rfl),rfl⟩) (by simp[K.ids,K.idsL]) ?_;rw[aeg];exact apq J (by rw[dT];exact Cw)
   ·simp only[bd,HM.go,ak,bH,cV]at e;obtain ⟨rfl,rfl,rfl⟩:=e;have Cw:k<d.length:=by have:=of_decide_eq_true bd;omega
    have QY:bQ<w.heap.size:=(kT.1 J).1;have eL:=aqH (P:=P) (ty:=ty) J (by rw[dT];exact Cw);have gT:ja w {w with heap:=w.heap.setIfInBounds bQ (.stringIter ⟨⟨d⟩⟩ (k+(Utf8.decode ⟨⟨d⟩⟩ k).2))} bQ:=
     ⟨rfl,rfl,rfl,by simp,λj an=>by simp[Array.getElem?_setIfInBounds_ne (Ne.symm an)]⟩
    have dv:jt φ ι {w with heap:=w.heap.setIfInBounds bQ (.stringIter ⟨⟨d⟩⟩ (k+(Utf8.decode ⟨⟨d⟩⟩ k).2))} o (.iter d ((k:Int)+(oS d (k:Int)).2)):=
     ⟨bQ,k+(Utf8.decode ⟨⟨d⟩⟩ k).2,L,by simp[QY],by simp[oS],kq⟩
    obtain ⟨nc,pG,rQ,DJ⟩:=A8 (n:=n) (dd:=.iter d ((k:Int)+(oS d (k:Int)).2)) h (by rw[W];rfl) jK gT kq dv (by simp[aF.ids]) rfl;rw[aeg];exact ⟨_,_,φ,ι,eL,nc,pG,rQ,DJ,ab9 ⟨_,rfl,_,_,rfl,h3 (cA.bool.2 rfl),_,_,rfl,h3 (cA.int.2 rfl),_,_,rfl,h3 (cA.int.2 (by simp[oS])),rfl⟩,by simp[K.ids,K.idsL]⟩
  ·simp[HM.go]at e
 ·simp[HM.go]at e
end
open Go.RowKit
def uX (φ:bJ) (ι:Nat->az) (w:bh) (H:List aF) (c9:Operand->K) (ρ:Operand->az):Prop:= ∀x,(c9 x).rel φ ι w (ρ x)/\ ∀i∈(c9 x).ids,(aE H i).live=true
abbrev eX (ro:Option Nat):Fence:={fn:=λ_=>True,depth:=none,alive:=false,round:=ro}
theorem NA {P:cq} {f:FuncId} {args:Array az} {w:bh} {R:Ending->bh->Prop} (ro:Option Nat) (h:Calls P f args w R):CallsIn (eX ro) 0 P f args w R:=(callsIn_wide (n:=0)).2 h
theorem uI {P:cq} {o:Oper} {a:Act} {w:bh} {ro:Option Nat} {next:Act->bh->Prop} {bD:Exit->Act->bh->Prop} (eb: ∀c,o.op≠ .defer c)
  (h:o.uponIn (eX ro) 0 P a next bD ((execOp a.eval o).run P w)):o.wpIn (eX ro) 0 P a w next bD:=⟨λ_ _=>trivial,by rw[Oper.semAt_eq _ _ _ eb];exact h⟩
def gi [Env] (P:cq) (o:Oper) (a:Act) (φ:bJ) (ι:Nat->az) (w:bh) (H:List aF) (n:Nat) (r:K) (aA:List aF) (aI:Nat):Prop:=
 ∀(ro:Option Nat) (next:Act->bh->Prop) (bD:Exit->Act->bh->Prop),(∀v ao av aH,cc av aH ao aA->Step φ ι w H av aH ao aA->ej ι H aH aA->iP H n aA aI->r.rel av aH ao v->(∀i∈r.ids,(aE aA i).live=true)->next (a.put o.dst v) ao)->o.wpIn (eX ro) 0 P a w next bD
def wu (P:cq) (f:FuncId) (aO:Array az) (w:bh) (R:Ending->bh->Prop):Prop:=
 ((callFunc f aO).run P w=.ok (.enter f aO) w/\Calls P f aO w R)\/ ∃v ao,(callFunc f aO).run P w=.ok (.value v) ao/\R (.returned v) ao
theorem wu.mono {P:cq} {f:FuncId} {aO:Array az} {w:bh} {R eH:Ending->bh->Prop} (h:wu P f aO w R) (au: ∀e ao,R e ao->eH e ao):wu P f aO w eH:=
 h.imp (λ⟨a,b⟩=>⟨a,Calls.mono b au⟩) λ⟨v,ao,a,b⟩=>⟨v,ao,a,au _ _ b⟩
theorem aqn {P:cq} {f:FuncId} {aO:Array az} {w:bh} {R:Ending->bh->Prop} (h: ∃fn,P.funcs[f]? =some fn/\(fn.name== "runtime.NumGoroutine")=false/\fn.body.isNone=false) (aw:Calls P f aO w R):wu P f aO w R:=by
 obtain ⟨fn,QL,QM,Cm⟩:=h;refine .inl ⟨?_,aw⟩;unfold callFunc;have Cn: ¬fn.name= "runtime.NumGoroutine":=by simpa using QM
 have QN: ¬fn.body=none:=by intro b8;rw[b8]at Cm;cases Cm
 simp[QL,Cn,QN]
def jR [Env] (P:cq) (f:FuncId) (aO:Array az) (w:bh) (R:Ending->bh->Prop):Prop:=match Env.code f with
 |none=>wu P f aO w R
 |some _=> ∃l,aO[0]? =some (.func (.yield l) #[] #[])/\YieldAt (eX none) 0 P l (aO.extract 1 aO.size) w R
theorem jR.mono [Env] {P:cq} {f:FuncId} {aO:Array az} {w:bh} {R eH:Ending->bh->Prop} (h:jR P f aO w R) (au: ∀e ao,R e ao->eH e ao):jR P f aO w eH:=by
 unfold jR at h ⊢;split at h
 ·exact h.mono au
 ·obtain ⟨l,s,fn,tmps,assign,body,E,O⟩:=h;exact ⟨l,s,fn,tmps,assign,body,E,O.mono au⟩
theorem jR.call [Env] {P:cq} {f:FuncId} {aO:Array az} {w:bh} {R:Ending->bh->Prop} (aL:jo f=false):jR P f aO w R↔wu P f aO w R:=by
 unfold jo at aL;unfold jR;cases h:Env.code f with
 |none=>exact Iff.rfl
 |some c=>rw[h]at aL;cases aL
theorem jR.round [Env] {P:cq} {f:FuncId} {aO:Array az} {w:bh} {R:Ending->bh->Prop} (aL:jo f=true):jR P f aO w R↔ ∃l,aO[0]? =some (.func (.yield l) #[] #[])/\YieldAt (eX none) 0 P l (aO.extract 1 aO.size) w R:=by
 unfold jo at aL;unfold jR;cases h:Env.code f with
 |none=>rw[h]at aL;cases aL
 |some c=>exact Iff.rfl
def kh [Env] (P:cq) (f:FuncId) (args:List K) (H:List aF) (r:K) (aA:List aF):Prop:=
 (∃fn,P.funcs[f]? =some fn/\(fn.name== "runtime.NumGoroutine")=false/\fn.body.isNone=false)/\
 ∀(φ:bJ) (ι:Nat->az) (w:bh) (aO:Array az),cc φ ι w H->(∀i,i<H.length->(aE H i).live=true)->K.relT φ ι w args aO.toList->(∀i∈K.idsL args,(aE H i).live=true)->
  Calls P f aO w λe ao=> ∃v av aH,e=.returned v/\cc av aH ao aA/\Step φ ι w H av aH ao aA/\ej ι H aH aA/\r.rel av aH ao v/\(∀i∈r.ids,(aE aA i).live=true)
def wx [Env] (P:cq) (f:FuncId) (args:List K) (H:List aF) (r:K) (aA:List aF):Prop:=
 ∀(φ:bJ) (ι:Nat->az) (w:bh) (aO:Array az),cc φ ι w H->(∀i,i<H.length->(aE H i).live=true)->K.relT φ ι w args aO.toList->(∀i∈K.idsL args,(aE H i).live=true)->
  jR P f aO w λe ao=> ∃v av aH,e=.returned v/\cc av aH ao aA/\Step φ ι w H av aH ao aA/\ej ι H aH aA/\r.rel av aH ao v/\(∀i∈r.ids,(aE aA i).live=true)
theorem kh.x [Env] {P:cq} {f:FuncId} {args:List K} {H:List aF} {r:K} {aA:List aF} (aL:jo f=false) (h:kh P f args H r aA):wx P f args H r aA:=fun φ ι w aO s E O aC=>(jR.call aL).2 (aqn h.1 (h.2 φ ι w aO s E O aC))
def ca [Env] (P:cq) (Γ:hG):Prop:= ∀f args H r aA,(Γ f args H).val=some (r,aA)->wx P f args H r aA
section
variable {P:cq} {cx:cd} {φ:bJ} {ι:Nat->az} {w:bh} {H:List aF} {n:Nat} {r:K} {aA:List aF} {aI:Nat} {o:Oper} {a:Act} {c9:Operand->K}
theorem gi.of_yld [Env] (eb: ∀c,o.op≠ .defer c) {d:Sem az} (y:cD φ ι w H n r aA aI (d.run P w)) (he:execOp a.eval o=(do pure (.value (<-d)):Sem Next)):gi P o a φ ι w H n r aA aI:=by intro ro next bD k;obtain ⟨v,ao,av,aH,e,s,E,O,aC,ba,bF⟩:=y;refine uI eb ?_;rw[he];simp only[Sem.run_bind,e,Result.andThen_ok,Sem.run_pure,Oper.uponIn_value];exact k v ao av aH s E O aC ba bF
theorem gi.of_pure [Env] (eb: ∀c,o.op≠ .defer c) {v:az} (h:cc φ ι w H) (au:r.rel φ ι w v) (rz: ∀i∈r.ids,(aE H i).live=true) (he:execOp a.eval o=(pure (.value v):Sem Next)):gi P o a φ ι w H n r H n:=by intro ro next bD k;refine uI eb ?_;rw[he];simp only[Sem.run_pure,Oper.uponIn_value];exact k v w φ ι h (Step.refl _ _ _ _) (ej.refl _ _) (iP.refl _ _) au rz
theorem z1 {x:K} {i:Int} {v:az} (h:uP x=some i) (ai:x.rel φ ι w v): ∃k,v=.int k i:=by
 unfold uP at h;split at h
 ·rename_i k a;obtain rfl:=eW h;exact ⟨k,cA.int.1 ai⟩
 ·cases h
theorem Nl {x:K} {b:Bool} {v:az} (h:mo x=some b) (ai:x.rel φ ι w v):v=.bool b:=by
 unfold mo at h;split at h
 ·obtain rfl:=eW h;exact cA.bool.1 ai
 ·cases h
theorem N5 {x:Option Operand} {m:Option Int} (dc:uX φ ι w H c9 a.eval) (h:xp (x.map c9)=some m):nV (x.map a.eval) m:=by
 cases x with
 |none=>
  simp only[Option.map_none,xp,bH]at h;subst h;trivial
 |some y=>
  simp only[Option.map_some,xp,h7]at h;obtain ⟨i,u,rfl⟩:=h;obtain ⟨k,af⟩:=z1 u (dc y).1;exact ⟨k,af⟩
theorem OS (dc:uX φ ι w H c9 a.eval): ∀(l:List (Nat×Operand)),qx φ ι w H (l.map λp=>(p.1,c9 p.2)) (l.map λp=>(p.1,a.eval p.2))
 |[]=>trivial
 |p::l=>⟨rfl,(dc p.2).1,(dc p.2).2,OS dc l⟩
theorem uJ (dc:uX φ ι w H c9 a.eval): ∀(l:List Operand),K.relT φ ι w (l.map c9) (l.map a.eval)
 |[]=>rfl
 |p::l=>⟨_,_,rfl,(dc p).1,uJ dc l⟩
theorem uw (dc:uX φ ι w H c9 a.eval): ∀(l:List Operand),∀i∈K.idsL (l.map c9),(aE H i).live=true
 |[],i,h=>by simp[K.idsL]at h
 |p::l,i,h=>by
  simp only[List.map_cons,K.idsL,dk]at h;rcases h with h |h
  ·exact (dc p).2 i h
  ·exact uw dc l i h
theorem Us {f:FuncId} {l m:List K} {v:az} (h: ∃x y,v=.func (.func f) x y/\K.relT φ ι w l x.toList/\K.relT φ ι w m y.toList):(K.fn f l m).rel φ ι w v:=h
theorem asm {T:bm} {x:K} {v:az} (h: ∃ad,v=.iface T ad/\x.rel φ ι w ad):(K.iface T x).rel φ ι w v:=h
theorem AK: ∀(hq:List bm) (l:List K) (aO:List az),K.relT φ ι w l aO->K.relT φ ι w (iY cx hq l) aO
 |[],_,_,h=>by unfold iY;exact h
 |_::_,[],_,h=>by unfold iY;exact h
 |T::hq,r::l,_,⟨v,m,e,s,E⟩=>⟨v,m,e,w7 s,AK hq l m E⟩
theorem AJ: ∀(hq:List bm) (l:List K),∀i∈K.idsL (iY cx hq l),i∈K.idsL l
 |[],_,i,h=>by unfold iY at h;exact h
 |_::_,[],i,h=>by unfold iY at h;exact h
 |T::hq,r::l,i,h=>by
  simp only[iY,K.idsL,dk]at h ⊢;rcases h with h |h
  ·exact .inl (w6 i h)
  ·exact .inr (AJ hq l i h)
theorem tY: ∀{l:List K} {aO:List az} {j:Nat} {x:K},K.relT φ ι w l aO->l[j]? =some x-> ∃v,aO[j]? =some v/\x.rel φ ι w v
 |[],_,j,x,_,h=>by simp at h
 |y::l,_,0,x,⟨v,m,e,s,E⟩,h=>by
  subst e;obtain rfl:y=x:=by simpa using h
  exact ⟨v,by simp,s⟩
 |y::l,_,j+1,x,⟨v,m,e,s,E⟩,h=>by subst e;obtain ⟨ad,O,aC⟩:=tY E (by simpa using h:l[j]? =some x);exact ⟨ad,by simpa using O,aC⟩
theorem tV: ∀{l:List K} {j:Nat} {x:K},l[j]? =some x-> ∀i∈x.ids,i∈K.idsL l
 |[],j,x,h=>by simp at h
 |y::l,0,x,h=>by
  obtain rfl:y=x:=by simpa using h
  intro i u;simp only[K.idsL,dk];exact .inl u
 |y::l,j+1,x,h=>by intro i u;simp only[K.idsL,dk];exact .inr (tV (by simpa using h) i u)
theorem apE [Env] (tab:cQ P cx) {T ty:bm} {x:K} {v:az} (e:(O9 cx T x).go H n=some (r,aA,aI)) (h:cc φ ι w H) (ai:x.rel φ ι w v):cD φ ι w H n r aA aI ((Builtin.cap_ #[T] ty #[v]).run P w):=by
 have key: ∀{t:aB} {A:Option Addr} {m c:Nat},cx.isTy T (.list t)=true->(Builtin.cap_ #[T] ty #[.slice A m c]).run P w=.ok (.int .i64 (c:Int)) w:=by intro t A m c bU;obtain ⟨i,u,aT⟩:=hK bU;have al:=(kL tab u aT).1;simp[Builtin.cap_,run_underlying al,goInt]
 unfold O9 at e;split at e
 ·have q:=go_bif e;clear e;obtain ⟨bU,e⟩:=q;obtain ⟨rfl,rfl,rfl⟩:=go_ret e;simp only[K.rel]at ai;subst ai;exact cD.pure (r:=.dat (.int .i64) (0:Int)) (v:=.int .i64 0) h (h3 (cA.int.2 rfl)) (by simp[K.ids]) (key bU)
 ·have q:=go_bif e;clear e;obtain ⟨bU,e⟩:=q;obtain ⟨rfl,rfl,rfl⟩:=go_ret e;obtain ⟨A,m,rfl,pd⟩:=ai;obtain ⟨jr,c6,aX,L,ab,-⟩:=pd;injection L with L _
  obtain ⟨rfl,rfl,rfl⟩:=iG L;rw[ab];exact cD.pure (r:=.dat (.int .i64) (m:Int)) (v:=.int .i64 (m:Int)) h (h3 (cA.int.2 rfl)) (by simp[K.ids]) (key bU)
 ·rename_i t o;have q:=go_bif e;clear e;obtain ⟨bU,e⟩:=q;simp only[HM.go]at e;split at e
  ·rename_i b6 ad xs fz W;obtain ⟨rfl,rfl,rfl⟩:=go_ret e;obtain ⟨kF,iy,-⟩:=oK W;have ch:=h.obj o;rw[iy]at ch;obtain ⟨A,m,c,L,aa,a1,_⟩:=ch;obtain ⟨rfl,_⟩:=ai;rw[L];exact cD.pure (r:=.atl xs.length) (v:=.int .i64 (c:Int)) h ⟨c,rfl,by omega⟩ (by simp[K.ids]) (key bU)
  ·simp[HM.go]at e
 ·rename_i t o aM u;have q:=go_bif e;clear e;obtain ⟨bU,e⟩:=q;simp only[HM.go]at e;split at e
  ·rename_i b6 ad xs fz W;obtain ⟨rfl,rfl,rfl⟩:=go_ret e;obtain ⟨kF,iy,-⟩:=oK W;have ch:=h.obj o;rw[iy]at ch;obtain ⟨A,m,c,L,aa,a1,_⟩:=ch;obtain ⟨jr,c6,aX,dg,bq,_,_,_,rfl,_⟩:=ai;rw[L]at bq;obtain ⟨rfl,rfl,rfl⟩:=iG bq;exact cD.pure (r:=.atl (xs.length-aM)) (v:=.int .i64 ((c-aM:Nat):Int)) h ⟨c-aM,rfl,by omega⟩ (by simp[K.ids]) (key bU)
  ·simp[HM.go]at e
 ·simp[HM.go]at e
theorem alY [Env] (tab:cQ P cx) {b:Builtin} {hq:Array bm} {ty:bm} {cs:Array Bool} {args:List K} {aO:Array az} (e:(Nz cx b hq.toList args).go H n=some (r,aA,aI)) (h:cc φ ι w H)
  (aS:K.relT φ ι w args aO.toList) (jB: ∀i∈K.idsL args,(aE H i).live=true) (ea:iZ H n aI):
  ∃d:Sem az,builtin b hq ty cs aO=(do pure (.value (<-d)):Sem Next)/\cD φ ι w H n r aA aI (d.run P w):=by
 unfold Nz at e;split at e
 ·rename_i T x bU;obtain ⟨v,m,aZ,ai,hm⟩:=aS;simp only[K.relT]at hm;subst hm;have ma:hq= #[T]:=by cases hq;simp at bU;simp[bU]
  have eB:aO= #[v]:=by cases aO;simp at aZ;simp[aZ]
  subst ma eB;exact ⟨_,rfl,apJ tab e h ai⟩
 ·rename_i T dS d x bU;obtain ⟨v,m,aZ,ai,v2,c6,hm,pq,iU⟩:=aS;simp only[K.relT]at iU;subst iU hm;have ma:hq= #[T,dS]:=by cases hq;simp at bU;simp[bU]
  have eB:aO= #[v,v2]:=by cases aO;simp at aZ;simp[aZ]
  subst ma eB;exact ⟨_,rfl,amn tab e h ai pq (λi u=>jB i (by simp[K.idsL,u])) (λi u=>jB i (by simp[K.idsL,u])) ea⟩
 ·rename_i ahM x l;obtain ⟨v,m,aZ,ai,hm⟩:=aS;refine ⟨_,rfl,?_⟩;have q:=Kc (P:=P) l x m v r e hm ai (λi u=>jB i (by simp[K.idsL,u]));clear e;obtain ⟨s,E,ad,hu,au,rz⟩:=q;subst s E;refine cD.pure (r:=r) (v:=ad) h au rz ?_;simp only[Bool.false_eq_true,if_false]at hu;unfold Builtin.min_;rw[aZ];exact hu
 ·rename_i ahM x l;obtain ⟨v,m,aZ,ai,hm⟩:=aS;refine ⟨_,rfl,?_⟩;have q:=Kc (P:=P) l x m v r e hm ai (λi u=>jB i (by simp[K.idsL,u]));clear e;obtain ⟨s,E,ad,hu,au,rz⟩:=q;subst s E;refine cD.pure (r:=r) (v:=ad) h au rz ?_;simp only[if_true]at hu;unfold Builtin.max_;rw[aZ];exact hu
 ·rename_i T x bU;obtain ⟨v,m,aZ,ai,hm⟩:=aS;simp only[K.relT]at hm;subst hm;have ma:hq= #[T]:=by cases hq;simp at bU;simp[bU]
  have eB:aO= #[v]:=by cases aO;simp at aZ;simp[aZ]
  subst eB;have q:=go_bif e;clear e;obtain ⟨iz,e⟩:=q;obtain ⟨I,al,-⟩:=acg tab iz;exact ⟨_,rfl,anm tab ma e h ai ⟨I,al⟩⟩
 ·rename_i T dS d x bU;obtain ⟨v,m,aZ,ai,v2,c6,hm,pq,iU⟩:=aS;simp only[K.relT]at iU;subst iU hm;have ma:hq= #[T,dS]:=by cases hq;simp at bU;simp[bU]
  have eB:aO= #[v,v2]:=by cases aO;simp at aZ;simp[aZ]
  subst ma eB;have q:=go_bif e;clear e;obtain ⟨iz,e⟩:=q;exact ⟨_,rfl,aoQ tab e h ai pq (λi u=>jB i (by simp[K.idsL,u])) (λi u=>jB i (by simp[K.idsL,u]))⟩
 ·rename_i T x bU;obtain ⟨v,m,aZ,ai,hm⟩:=aS;simp only[K.relT]at hm;subst hm;have ma:hq= #[T]:=by cases hq;simp at bU;simp[bU]
  have eB:aO= #[v]:=by cases aO;simp at aZ;simp[aZ]
  subst ma eB;exact ⟨_,rfl,apE tab e h ai⟩
 ·simp[HM.go]at e
theorem ahZ [Env] {T:bm} {x y:Operand} (au:r=.undef) (Tc: ∃ao av aH,(Instr.storeAt T (a.eval x) (a.eval y)).run P w=.ok () ao/\cc av aH ao aA/\Step φ ι w H av aH ao aA/\ej ι H aH aA/\iP H n aA aI) (W:o.op=.store T x y):
  gi P o a φ ι w H n r aA aI:=by
 subst au;intro ro next bD k;obtain ⟨ao,av,aH,e,s,E,O,aC⟩:=Tc;refine uI (λc aw=>by rw[W]at aw;cases aw) ?_;unfold execOp;simp only[W,Sem.run_bind,e,Result.andThen_ok,Sem.run_pure,Oper.uponIn_value];exact k undef ao av aH s E O aC trivial (by simp[K.ids])
theorem aqB [Env] (tab:cQ P cx) {Γ:hG} (Ce: ∀c x g l m,o.op=.call c->c.callee=.value x->c9 x=.fn g l m->jo g=false->(rW cx Γ g (l++iY cx c.argTypes.toList (c.args.toList.map c9)++m)).go H n=some (r,aA,aI)->gi P o a φ ι w H n r aA aI)
  (hinv: ∀c x nm T ah i f,o.op=.call c->c.callee=.invoke x nm->c9 x=.iface T ah->cx.ti T=some i->vK i.meths nm=some f->jo f=false->(rW cx Γ f (ah::iY cx c.argTypes.toList (c.args.toList.map c9))).go H n=some (r,aA,aI)->gi P o a φ ι w H n r aA aI)
  (avc: ∀c x Y fE,o.op=.call c->c.callee=.value x->c9 x=.yld Y fE->jo Y=true->(rW cx Γ Y (.yld Y fE::iY cx c.argTypes.toList (c.args.toList.map c9))).go H n=some (r,aA,aI)->gi P o a φ ι w H n r aA aI)
  (e:(nj cx Γ o c9).go H n=some (r,aA,aI)) (h:cc φ ι w H) (dc:uX φ ι w H c9 a.eval) (ea:iZ H n aI):gi P o a φ ι w H n r aA aI:=by
 have eb: ∀c,o.op≠ .defer c:=λc aw=>by unfold nj at e;rw[aw]at e;simp[HM.go]at e
 unfold nj at e;split at e
 ·rename_i x W;obtain ⟨rfl,rfl,rfl⟩:=go_ret e;exact gi.of_pure eb h (w7 (dc x).1) (λi u=>(dc x).2 i (w6 i u)) (by simp[execOp,W])
 ·rename_i x W;obtain ⟨rfl,rfl,rfl⟩:=go_ret e;exact gi.of_pure eb h (w7 (dc x).1) (λi u=>(dc x).2 i (w6 i u)) (by simp[execOp,W])
 ·rename_i c x y W;split at e
  ·rename_i t aT;have aw:=Nl aT (dc c).1;cases t
   ·simp only[HM.go,ax]at e;obtain ⟨rfl,rfl,rfl⟩:=go_ret e;refine gi.of_yld eb (d:=pure (a.eval y)) (cD.pure h (dc y).1 (dc y).2 rfl) ?_;simp[execOp,W,aw,asBool]
   ·simp only[HM.go,ak]at e;obtain ⟨rfl,rfl,rfl⟩:=go_ret e;refine gi.of_yld eb (d:=pure (a.eval x)) (cD.pure h (dc x).1 (dc x).2 rfl) ?_;simp[execOp,W,aw,asBool]
  ·simp[HM.go]at e
 ·rename_i T W;exact gi.of_yld eb (amL tab e h ea) (by simp[execOp,W])
 ·rename_i T x W;exact gi.of_yld eb (Zw tab e h (dc x).1 (dc x).2 ea) (by simp[execOp,W])
 ·rename_i T ps W;have L:(ps.map λp=>(p.1,a.eval p.2)).toList=ps.toList.map λp=>(p.1,a.eval p.2):=by simp
  exact gi.of_yld eb (anl tab e h (ay:=ps.map λp=>(p.1,a.eval p.2)) (by rw[L];exact OS dc _)) (by simp[execOp,W])
 ·rename_i T m ps W;have L:(ps.map λp=>(p.1,a.eval p.2)).toList=ps.toList.map λp=>(p.1,a.eval p.2):=by simp
  exact gi.of_yld eb (ald tab e h (ay:=ps.map λp=>(p.1,a.eval p.2)) (by rw[L];exact OS dc _) ea) (by simp[execOp,W])
 ·rename_i T x W;exact gi.of_yld eb (an2 tab e h (dc x).1) (by simp[execOp,W])
 ·rename_i T x y W;obtain ⟨au,Tc⟩:=anH tab e h (dc x).1 (w7 (dc y).1) (dc x).2 (λi u=>(dc y).2 i (w6 i u));exact ahZ au Tc W
 ·rename_i x W;have ai:=dc x;split at e
  ·rename_i dQ t i p aP;obtain ⟨rfl,rfl,rfl⟩:=go_ret e;rw[aP]at ai;have oB:=ai.1;obtain ⟨b,k,-,aZ,-⟩:=oB;exact gi.of_pure eb h ai.1 ai.2 (by simp[execOp,W,aZ])
  ·rename_i t y aP;obtain ⟨rfl,rfl,rfl⟩:=go_ret e;rw[aP]at ai;have oB:=ai.1;obtain ⟨b,i,cs,aZ,-⟩:=oB;exact gi.of_pure eb h ai.1 ai.2 (by simp[execOp,W,aZ])
  ·simp[HM.go]at e
 ·rename_i b T x y z W;cases aR:Pg y
  case true=>
   rw[aR,ak]at e;obtain rfl:y=.const .nilIface:=by
    unfold Pg at aR;split at aR
    ·rfl
    ·cases aR
   exact gi.of_yld eb (ao8 tab e h (dc x).1 (dc x).2 x .nilIface) (by simp[execOp,W,Act.eval])
  case false=>
   rw[aR,ax]at e;exact gi.of_yld eb (apB tab e h (dc x).1 (dc y).1 (dc x).2 (dc y).2 x y) (by simp[execOp,W])
 ·rename_i b T x W;exact gi.of_yld eb (aqj e h (dc x).1) (by simp[execOp,W])
 ·rename_i S T x W;exact gi.of_yld eb (aoP tab e h (dc x).1 (dc x).2 ea) (by simp[execOp,W])
 ·rename_i f l m W;obtain ⟨rfl,rfl,rfl⟩:=go_ret e;refine gi.of_yld eb (d:=Instr.makeFunc (.func f) (l.map a.eval) (m.map a.eval)) (cD.pure (v:=.func (.func f) (l.map a.eval) (m.map a.eval)) h (Us ⟨_,_,rfl,?_,?_⟩) ?_ ?_) (by simp[execOp,W])
  ·simpa using uJ dc l.toList
  ·simpa using uJ dc m.toList
  ·intro i u;simp only[K.ids,dk]at u;rcases u with u |u
   ·exact uw dc _ i u
   ·exact uw dc _ i u
  ·simp[Instr.makeFunc]
 ·rename_i T x W;split at e
  ·rename_i i u;cases aD:decide (i.ty=.opq)
   ·simp only[aD,ax]at e;obtain ⟨rfl,rfl,rfl⟩:=go_ret e;refine gi.of_yld eb (d:=Instr.makeInterface T (a.eval x)) (cD.pure (v:=.iface T (a.eval x)) h (asm ⟨_,rfl,(dc x).1⟩) (dc x).2 ?_) (by simp[execOp,W]);have al:=(tab T i u).desc;have aD:i.ty≠ .opq:=by simpa using aD
    unfold k6 at al;split at al
    ·simp[Instr.makeInterface,run_underlying al]
    ·simp[Instr.makeInterface,run_underlying al]
    ·simp[Instr.makeInterface,run_underlying al]
    ·simp[Instr.makeInterface,run_underlying al.1]
    ·rename_i e;exact absurd e aD
    ·rcases al with ⟨_,ct,al,_⟩|⟨_,n,e,dB,al,_⟩<;>simp[Instr.makeInterface,run_underlying al]
   ·simp[aD,HM.go]at e
  ·simp[HM.go]at e
 ·rename_i T x y W;split at e
  ·rename_i i j u an;obtain ⟨bb,s⟩:=z1 u (dc x).1;obtain ⟨aU,E⟩:=z1 an (dc y).1;refine gi.of_yld eb (d:=Instr.makeSlice T (a.eval x) (a.eval y)) ?_ (by simp[execOp,W]);rw[s,E];exact alE tab e h ea
  ·simp[HM.go]at e
 ·rename_i T x aM u fM W;split at e
  ·rename_i l cu m s E O;exact gi.of_yld eb (anC tab e h (dc x).1 (dc x).2 (N5 dc s) (N5 dc E) (N5 dc O)) (by simp[execOp,W])
  ·simp[HM.go]at e
 ·rename_i T x f W;exact gi.of_yld eb (als tab e h (dc x).1 (dc x).2) (by simp[execOp,W])
 ·rename_i T x f W;exact gi.of_yld eb (anc tab e h (dc x).1 (dc x).2) (by simp[execOp,W])
 ·rename_i T x y W;split at e
  ·rename_i i u;obtain ⟨k,af⟩:=z1 u (dc y).1;refine gi.of_yld eb (d:=Instr.indexAt T (a.eval x) (a.eval y)) ?_ (by simp[execOp,W]);rw[af];exact alu tab e h (dc x).1 (dc x).2 k
  ·simp[HM.go]at e
 ·rename_i T x y W;split at e
  ·rename_i i u;obtain ⟨k,af⟩:=z1 u (dc y).1;refine gi.of_yld eb (d:=Instr.index T (a.eval x) (a.eval y)) ?_ (by simp[execOp,W]);rw[af];exact ane tab e h (dc x).1 k
  ·simp[HM.go]at e
 ·rename_i T x W;exact gi.of_yld eb (anO tab e h (dc x).1 ea) (by simp[execOp,W])
 ·rename_i x b W;cases b
  ·simp[HM.go]at e
  ·exact gi.of_yld eb (an5 (ty:=o.type) e h (dc x).1 (dc x).2) (by simp[execOp,W])
 ·rename_i x j W;have ai:=dc x;split at e
  ·rename_i l ab;rw[ab]at ai;obtain ⟨oB,pq⟩:=ai;obtain ⟨aO,aZ,au⟩:=oB;obtain ⟨bo,rfl,rfl⟩:=go_opt e;obtain ⟨ad,hu,Rm⟩:=tY au bo;refine gi.of_yld eb (d:=Instr.extract (a.eval x) j) (cD.pure (v:=ad) h Rm (λi u=>pq i (tV bo i u)) ?_) (by simp[execOp,W]);rw[aZ];have ye:aO[j]? =some ad:=by simpa using hu
   simp[Instr.extract,ye]
  ·simp[HM.go]at e
 ·rename_i c W;split at e
  ·rename_i b J;obtain ⟨d,ae,y⟩:=alY tab (ty:=o.type) (cs:=c.args.map fun | .const _=>true |_=>false) (aO:=c.args.map a.eval) e h (by simpa using AK (cx:=cx) c.argTypes.toList _ _ (uJ dc c.args.toList)) (λi u=>uw dc c.args.toList i (AJ _ _ i u)) ea;refine gi.of_yld eb y ?_;simp only[execOp,W,resolve,J,pure_bind,invoke];exact ae
  ·rename_i x ai;split at e
   ·rename_i g l m bu;cases au:jo g
    ·rw[au,ax]at e;exact Ce c x g l m W ai bu au e
    ·simp[au,HM.go]at e
   ·rename_i Y fE bo;cases au:jo Y
    ·simp[au,HM.go]at e
    ·rw[au,ak]at e;exact avc c x Y fE W ai bo au e
   ·simp[HM.go]at e
  ·rename_i x nm ai;split at e
   ·rename_i T ah CD;split at e
    ·rename_i i u;split at e
     ·rename_i f aL;cases au:jo f
      ·rw[au,ax]at e;exact hinv c x nm T ah i f W ai CD u aL au e
      ·simp[au,HM.go]at e
     ·simp[HM.go]at e
    ·simp[HM.go]at e
   ·simp[HM.go]at e
 ·simp[HM.go]at e
end
open Go.RowKit
theorem AW {l:List Nat} {o:Nat}:has l o=true↔o∈l:=by
 induction l with
 |nil=>simp[has]
 |cons a l aQ=>
  have:(has (a::l) o=true)=((Nat.beq a o||has l o)=true):=rfl;rw[this,Bool.or_eq_true,aQ,eO,Nat.beq_eq];exact ⟨λh=>h.imp Eq.symm id,λh=>h.imp Eq.symm id⟩
theorem ajX (l:List Nat) (o:Nat): ∀n,idx.go o l n=n+idx.go o l 0:=by
 induction l with
 |nil=>intro n;simp[idx.go]
 |cons a l aQ=>
  intro n;simp only[idx.go];cases Nat.beq a o
  ·simp only[ax];rw[aQ (n+1),aQ (0+1)];omega
  ·simp
theorem ar9 (a:Nat) (l:List Nat) (o:Nat):idx (a::l) o=bif Nat.beq a o then 0 else idx l o+1:=by
 unfold idx;simp only[idx.go];cases Nat.beq a o
 ·simp only[ax];rw[ajX];omega
 ·rfl
theorem rX {l:List Nat} {o:Nat} (h:o∈l):l[idx l o]? =some o:=by
 induction l with
 |nil=>cases h
 |cons a l aQ=>
  rw[ar9];cases J:Nat.beq a o
  ·have cC:o≠a:=by rintro rfl;simp at J
   simpa using aQ (by simpa [cC] using h)
  ·have:a=o:=by simpa using J
   simp[this]
theorem ajY {l:List Nat} {o:Nat} (h:o∈l):idx l o<l.length:=(iC.1 (rX h)).1
theorem N1 {l:List Nat} (aR:l.Nodup) {i o:Nat} (h:l[i]? =some o):idx l o=i:=by have s:=rX (List.mem_of_getElem? h);obtain ⟨u,L⟩:=iC.1 h;obtain ⟨an,aa⟩:=iC.1 s;exact (List.getElem_inj aR).1 (by rw[L,aa])
mutual
theorem K.ren_ids (ρ:Nat->Nat): ∀r:K,(r.ren ρ).ids=r.ids.map ρ
 | .own ..=>rfl | .view ..=>rfl | .ptr ..=>rfl
 | .agg l=>by simp[K.ren,K.ids,K.renL_ids ρ l]
 | .tup l=>by simp[K.ren,K.ids,K.renL_ids ρ l]
 | .fn f a b=>by simp[K.ren,K.ids,K.renL_ids ρ a,K.renL_ids ρ b]
 | .iface T r=>by simp[K.ren,K.ids,K.ren_ids ρ r]
 | .dfr f a b t xs=>by simp[K.ren,K.ids,K.renL_ids ρ a,K.renL_ids ρ b]
 | .undef=>rfl | .dat ..=>rfl | .clip ..=>rfl | .nilv=>rfl | .nils ..=>rfl | .fptr ..=>rfl | .nilI=>rfl | .nilF=>rfl | .nilP=>rfl | .atl _=>rfl | .lim ..=>rfl | .yld ..=>rfl | .gp ..=>rfl
theorem K.renL_ids (ρ:Nat->Nat): ∀l:List K,K.idsL (K.renL ρ l)=(K.idsL l).map ρ
 |[]=>rfl
 |r::l=>by simp[K.renL,K.idsL,K.ren_ids ρ r,K.renL_ids ρ l]
end
mutual
theorem K.ren_fits (ρ:Nat->Nat): ∀(r:K) (t:aB),(r.ren ρ).fits t=r.fits t
 | .own ..,_=>rfl | .view ..,_=>rfl | .ptr ..,_=>rfl
 | .agg l,t=>by simp[K.ren,K.fits,K.renL_fits ρ l]
 | .tup l,t=>by simp[K.ren,K.fits]
 | .fn f a b,t=>by simp[K.ren,K.fits]
 | .iface T r,t=>by simp[K.ren,K.fits]
 | .dfr ..,t=>by simp[K.ren,K.fits]
 | .undef,_=>rfl | .dat ..,_=>rfl | .clip ..,_=>rfl | .nilv,_=>rfl | .nils ..,_=>rfl | .fptr ..,_=>rfl | .nilI,_=>rfl | .nilF,_=>rfl | .nilP,_=>rfl | .atl _,_=>rfl | .lim ..,_=>rfl | .yld ..,_=>rfl | .gp ..,_=>rfl
theorem K.renL_fits (ρ:Nat->Nat): ∀(l:List K) (t:aB),K.fitsL (K.renL ρ l) t=K.fitsL l t
 |[],t=>rfl
 |r::l,t=>by cases t<;>simp[K.renL,K.fitsL,K.ren_fits ρ r,K.renL_fits ρ l]
end
mutual
theorem K.ren_rel {φ:bJ} {ι fg:Nat->az} {w:bh} (ρ:Nat->Nat): ∀(r:K) (v:az),(∀i∈r.ids,fg (ρ i)=ι i)->r.rel φ ι w v->(r.ren ρ).rel φ fg w v
 | .undef,_,_,_=>trivial
 | .dat t x,v,_,h=>h
 | .clip t xs,v,_,h=>h
 | .nilv,_,_,h=>h
 | .nils _ _,_,_,h=>h
 | .own t o,v,u,h=>by simp only[K.rel,K.ren]at h ⊢;rw[u o (by simp[K.ids])];exact h
 | .view t o aM dH,v,u,h=>by simp only[K.rel,K.ren]at h ⊢;rw[u o (by simp[K.ids])];exact h
 | .ptr o t i p,v,u,h=>by simp only[K.rel,K.ren]at h ⊢;rw[u o (by simp[K.ids])];exact h
 | .fptr t x,v,_,h=>h
 | .agg l,v,u,⟨cs,e,h⟩=>⟨cs,e,K.renL_relL ρ l _ (λi h=>u i (by simpa [K.ids] using h)) h⟩
 | .tup l,v,u,⟨cs,e,h⟩=>⟨cs,e,K.renL_relT ρ l _ (λi h=>u i (by simpa [K.ids] using h)) h⟩
 | .fn f a b,v,u,⟨x,y,e,s,E⟩=>⟨x,y,e,K.renL_relT ρ a _ (λi h=>u i (by simp[K.ids,h])) s,K.renL_relT ρ b _ (λi h=>u i (by simp[K.ids,h])) E⟩
 | .iface T r,v,u,⟨ad,e,h⟩=>⟨ad,e,K.ren_rel ρ r ad (λi h=>u i (by simpa [K.ids] using h)) h⟩
 | .nilI,_,_,h=>h
 | .nilF,_,_,h=>h
 | .nilP,_,_,h=>h
 | .atl _,_,_,h=>h
 | .lim ..,_,_,h=>h
 | .yld Y o,v,u,h=>by simp only[K.rel,K.ren]at h ⊢;rw[u o (by simp[K.ids])];exact h
 | .gp ..,_,_,h=>h
 | .dfr f a b t xs,v,u,⟨aO,e,ab,h⟩=>⟨aO,e,ab,λi x ad ai hu=>
   let ⟨a7,lE,aX,L,s,E,aC⟩:=h i x ad ai hu
   ⟨a7,lE,aX,L,K.renL_relT ρ a _ (λi h=>u i (by simp[K.ids,h])) s,E,K.renL_relT ρ b _ (λi h=>u i (by simp[K.ids,h])) aC⟩⟩
theorem K.renL_relL {φ:bJ} {ι fg:Nat->az} {w:bh} (ρ:Nat->Nat): ∀(l:List K) (cs:List az),(∀i∈K.idsL l,fg (ρ i)=ι i)->K.relL φ ι w l cs->K.relL φ fg w (K.renL ρ l) cs
 |[],_,_,h=>h
 |r::l,_,u,⟨v,aX,e,s,E⟩=>⟨v,aX,e,K.ren_rel ρ r v (λi h=>u i (by simp[K.idsL,h])) s,K.renL_relL ρ l aX (λi h=>u i (by simp[K.idsL,h])) E⟩
theorem K.renL_relT {φ:bJ} {ι fg:Nat->az} {w:bh} (ρ:Nat->Nat): ∀(l:List K) (aO:List az),(∀i∈K.idsL l,fg (ρ i)=ι i)->K.relT φ ι w l aO->K.relT φ fg w (K.renL ρ l) aO
 |[],_,_,h=>h
 |r::l,_,u,⟨v,aX,e,s,E⟩=>⟨v,aX,e,K.ren_rel ρ r v (λi h=>u i (by simp[K.idsL,h])) s,K.renL_relT ρ l aX (λi h=>u i (by simp[K.idsL,h])) E⟩
end
theorem aF.ren_owns (ρ:Nat->Nat) (b:aF):(b.ren ρ).owns=b.owns:=by cases b<;>rfl
theorem aF.ren_live (ρ:Nat->Nat) (b:aF):(b.ren ρ).live=b.live:=by cases b<;>rfl
theorem bO.ren_ids (ρ:Nat->Nat) (R:bO):(R.ren ρ).ids=R.ids.map ρ:=by
 induction R with
 |nil=>rfl
 |cons p l aQ=>simp[bO.ren,bO.ids,K.ren_ids,aQ]
theorem bO.mem_ren {ρ:Nat->Nat} {R:bO} {q:Nat×K} (h:q∈R.ren ρ): ∃x∈R,q=(x.1,x.2.ren ρ):=by
 induction R with
 |nil=>cases h
 |cons p l aQ=>
  rcases eO.1 h with rfl |h
  ·exact ⟨p,by simp,rfl⟩
  ·obtain ⟨x,s,E⟩:=aQ h;exact ⟨x,by simp[s],E⟩
theorem aF.ren_ids (ρ:Nat->Nat) (b:aF):(b.ren ρ).ids=b.ids.map ρ:=by cases b<;>simp[aF.ren,aF.ids,K.ren_ids,bO.ren_ids]
theorem jt.ren [Env] {φ:bJ} {ι fg:Nat->az} {w:bh} {o dQ:Nat} {dd:aF} (ρ:Nat->Nat) (W:fg dQ=ι o) (u: ∀i∈dd.ids,fg (ρ i)=ι i) (h:jt φ ι w o dd):jt φ fg w dQ (dd.ren ρ):=by
 cases dd with
 |hole=>trivial
 |gone=>trivial
 |arr e t xs fz=>
  obtain ⟨A,n,c,L,h⟩:=h;exact ⟨A,n,c,W.trans L,h⟩
 |box T t r=>
  obtain ⟨b,cur,c0,v,L,s,E,O,aC,ba,bF,dN,ig⟩:=h;exact ⟨b,cur,c0,v,W.trans L,s,E,O,aC,K.ren_rel ρ r v u ba,bF,by rw[K.ren_fits];exact dN,ig⟩
 |iter d pos=>
  obtain ⟨b,n,L,h⟩:=h;exact ⟨b,n,W.trans L,h⟩
 |loop Y R p=>
  obtain ⟨l,rec,c,L,h⟩:=h;refine ⟨l,rec,c,W.trans L,⟨h.code,h.heap,h.params,h.assign,h.body,h.nt,h.st,λq aD=> ?_,h.phi⟩⟩;obtain ⟨x,s,rfl⟩:=bO.mem_ren aD;exact K.ren_rel ρ x.2 _ (λi ai=>u i (bO.mem_ids s i ai)) (h.regs x s)
structure qR (H:List aF) (done:List Nat) (obs:List aF):Prop where
 obs:obs=done.map (aE H)
 nodup:done.Nodup
 closed: ∀o∈done,∀i∈(aE H o).ids,i∈done
theorem y5 {H:List aF} {n:Nat}: ∀(k:Nat) (todo done:List Nat) (obs:List aF) (q:List Nat×List aF) (e3:List aF) (dP:Nat),(ll k todo done obs).go H n=some (q,e3,dP)->
  obs=done.map (aE H)->done.Nodup->(∀o∈done,∀i∈(aE H o).ids,i∈done\/i∈todo)->e3=H/\dP=n/\qR H q.1 q.2/\(∀i∈todo,i∈q.1)/\(∃m,q.1=done++m)/\
   ((∀o,∀i∈(aE H o).ids,(aE H i).live=true)->(∀i∈todo,(aE H i).live=true)->(∀i∈done,(aE H i).live=true)-> ∀i∈q.1,(aE H i).live=true)
 |0,todo,done,obs,q,e3,dP,e,_,_,_=>by simp[ll,HM.go]at e
 |k+1,[],done,obs,q,e3,dP,e,W,aR,aw=>by simp only[ll]at e;obtain ⟨rfl,rfl,rfl⟩:=go_ret e;exact ⟨rfl,rfl,⟨W,aR,λo h i u=>by simpa using aw o h i u⟩,by simp,⟨[],by simp⟩,λ_ _ h=>h⟩
 |k+1,o::todo,done,obs,q,e3,dP,e,W,aR,aw=>by
  simp only[ll]at e;cases J:has done o
  ·simp only[J,ax,HM.go]at e;have nA:o∉done:=λh=>by rw[AW.2 h]at J;cases J
   obtain ⟨s,E,O,aC,⟨m,ba⟩,bF⟩:=y5 k _ _ _ q e3 dP e (by simp[W]) (by
     rw[List.nodup_append];exact ⟨aR,by simp,λa aS b J=>by simp at J;subst J;rintro rfl;exact nA aS⟩) (λa aS i u=>by
     rcases dk.1 aS with aS |aS
     ·rcases aw a aS i u with h |h
      ·exact .inl (dk.2 (.inl h))
      ·rcases eO.1 h with h |h
       ·exact .inl (by simp[h])
       ·exact .inr (dk.2 (.inl h))
     ·simp at aS;subst aS;exact .inr (dk.2 (.inr u)))
   refine ⟨s,E,O,λi u=> ?_,⟨[o]++m,by rw[ba];simp⟩,λdD dr pt=>bF dD (λi u=> ?_) (λi u=> ?_)⟩
   ·rcases eO.1 u with h |h
    ·rw[ba,h];simp
    ·exact aC i (dk.2 (.inl h))
   ·rcases dk.1 u with h |h
    ·exact dr i (by simp[h])
    ·exact dD o i h
   ·rcases dk.1 u with h |h
    ·exact pt i h
    ·simp at h;subst h;exact dr i (by simp)
  ·simp only[J,ak]at e;have dO:=AW.1 J;obtain ⟨s,E,O,aC,ba,bF⟩:=y5 k todo done obs q e3 dP e W aR (λa aS i u=>by
     rcases aw a aS i u with h |h
     ·exact .inl h
     ·rcases eO.1 h with h |h
      ·exact .inl (by rw[h];exact dO)
      ·exact .inr h)
   refine ⟨s,E,O,λi u=> ?_,ba,λdD dr pt=>bF dD (λi u=>dr i (by simp[u])) pt⟩;rcases eO.1 u with h |h
   ·obtain ⟨m,ba⟩:=ba;rw[ba,h];exact dk.2 (.inl dO)
   ·exact aC i h
theorem ZP {H:List aF} {n:Nat}: ∀(pre:List Nat) (k:Nat) (rest done:List Nat) (obs:List aF) (q:List Nat×List aF) (e3:List aF) (dP:Nat),(ll k (pre++rest) done obs).go H n=some (q,e3,dP)->
  (done++pre).Nodup-> ∃m,q.1=done++pre++m
 |[],k,rest,done,obs,q,e3,dP,e,aR=>by
  have: ∀(k:Nat) (todo done:List Nat) (obs:List aF),(ll k todo done obs).go H n=some (q,e3,dP)-> ∃m,q.1=done++m:=by
   intro k
   induction k with
   |zero=>intro todo done obs e;simp[ll,HM.go]at e
   |succ k aQ=>
    intro todo done obs e;cases todo with
    |nil=>
     simp only[ll]at e;obtain ⟨rfl,-,-⟩:=go_ret e;exact ⟨[],by simp⟩
    |cons o todo=>
     simp only[ll]at e;cases J:has done o
     ·simp only[J,ax,HM.go]at e;obtain ⟨m,hm⟩:=aQ _ _ _ e;exact ⟨[o]++m,by rw[hm];simp⟩
     ·simp only[J,ak]at e;exact aQ _ _ _ e
  simpa using this k rest done obs e
 |o::pre,0,rest,done,obs,q,e3,dP,e,aR=>by simp[ll,HM.go]at e
 |o::pre,k+1,rest,done,obs,q,e3,dP,e,aR=>by
  simp only[List.cons_append,ll]at e;have nA:o∉done:=λh=>by have:=(List.nodup_append.1 aR).2.2 o h o (by simp);exact this rfl
  have J:has done o=false:=by
   cases h:has done o
   ·rfl
   ·exact absurd (AW.1 h) nA
  simp only[J,ax,HM.go]at e;rw[List.append_assoc]at e;obtain ⟨m,hm⟩:=ZP pre k _ _ _ q e3 dP e (by simpa using aR);exact ⟨m,by rw[hm];simp⟩
theorem abP {n i:Nat}:i∈k2 n↔i<n:=by
 induction n with
 |zero=>simp[k2]
 |succ n aQ=>simp[k2,aQ];omega
theorem aqP (n:Nat):(k2 n).Nodup:=by
 induction n with
 |zero=>simp[k2]
 |succ n aQ=>
  rw[k2,List.nodup_append];exact ⟨aQ,by simp,λa aS b J=>by have:=abP.1 aS;simp at J;omega⟩
theorem ah9 {n i:Nat} (h:i<n):(k2 n)[i]? =some i:=by
 induction n with
 |zero=>omega
 |succ n aQ=>
  have ab:(k2 n).length=n:=by
   clear h aQ
   induction n with
   |zero=>rfl
   |succ n aQ=>simp[k2,aQ]
  rw[k2];rcases Nat.lt_or_ge i n with s |s
  ·rw[List.getElem?_append_left (by omega)];exact aQ s
  ·have:i=n:=by omega
   subst this;rw[List.getElem?_append_right (by omega)];simp[ab]
theorem ab3 (n:Nat):(k2 n).length=n:=by
 induction n with
 |zero=>rfl
 |succ n aQ=>simp[k2,aQ]
section
variable {φ:bJ} {ι:Nat->az} {w:bh} {H:List aF} {done:List Nat} {obs:List aF}
def k1 (ι:Nat->az) (done:List Nat):Nat->az:=λi=>ι (done.getD i 0)
def kA (done:List Nat) (obs:List aF):List aF:=obs.map (aF.ren (idx done))
theorem Gg {o:Nat} (h:o∈done):k1 ι done (idx done o)=ι o:=by unfold k1;rw[jH,rX h];rfl
theorem nK (g:qR H done obs) {i o:Nat} (h:done[i]? =some o):aE (kA done obs) i=(aE H o).ren (idx done):=by have e:=g.obs;subst e;simp[kA,aE,jH,h]
theorem zv (g:qR H done obs) {i:Nat} (h:done.length<=i):aE (kA done obs) i=.hole:=by have e:=g.obs;subst e;have:done[i]? =none:=List.getElem?_eq_none h;simp[kA,aE,jH,this]
theorem FV (g:qR H done obs) {b:Nat} (h:jT (k1 ι done) (kA done obs) b):jT ι H b:=by
 obtain ⟨i,s,E⟩:=h;cases al:done[i]? with
 |none=>
  rw[zv g (List.getElem?_eq_none_iff.1 al)]at s;cases s
 |some o=>
  rw[nK g al,aF.ren_owns]at s;refine ⟨o,s,?_⟩;rw[<-E];simp[k1,jH,al]
theorem acN [Env] (h:cc φ ι w H) (g:qR H done obs) (ab: ∀o∈done,(aE H o).live=true):cc φ (k1 ι done) w (kA done obs):=by
 have u: ∀{i o:Nat},done[i]? =some o->k1 ι done i=ι o:=λ{i o} al=>by simp[k1,jH,al]
 refine ⟨λi=> ?_,λi j b s E O aC=> ?_,h.phi,λi j an=> ?_,h.glob⟩
 ·cases al:done[i]? with
  |none=>rw[zv g (List.getElem?_eq_none_iff.1 al)];trivial
  |some o=>
   rw[nK g al];exact (h.obj o).ren (idx done) (u al) λk af=>Gg (g.closed o (List.mem_of_getElem? al) k af)
 ·cases al:done[i]? with
  |none=>rw[zv g (List.getElem?_eq_none_iff.1 al)]at s;cases s
  |some o=>
   cases p5:done[j]? with
   |none=>rw[zv g (List.getElem?_eq_none_iff.1 p5)]at E;cases E
   |some jE=>
    rw[nK g al,aF.ren_owns]at s;rw[nK g p5,aF.ren_owns]at E;rw[u al]at O;rw[u p5]at aC;have:=h.apart o jE b s E O aC;subst this;rw[<-N1 g.nodup al,<-N1 g.nodup p5]
 ·cases al:done[i]? with
  |none=>rw[zv g (List.getElem?_eq_none_iff.1 al)]at an;simp[aF.ids]at an
  |some o=>
   rw[nK g al,aF.ren_ids]at an;obtain ⟨k,af,rfl⟩:=List.mem_map.1 an;have jM:=g.closed o (List.mem_of_getElem? al) k af;rw[nK g (rX jM),aF.ren_live];exact ab k jM
theorem ack (g:qR H done obs) (ab: ∀o∈done,(aE H o).live=true) {l:List Nat} (dO: ∀i∈l,i∈done): ∀i∈l.map (idx done),(aE (kA done obs) i).live=true:=by intro i u;obtain ⟨k,af,rfl⟩:=List.mem_map.1 u;rw[nK g (rX (dO k af)),aF.ren_live];exact ab k (dO k af)
theorem acM (g:qR H done obs) (ab: ∀o∈done,(aE H o).live=true): ∀i,i<(kA done obs).length->(aE (kA done obs) i).live=true:=by
 intro i u;have e:=g.obs;have dH:i<done.length:=by rw[kA,e]at u;simpa using u
 have al:done[i]? =some done[i]:=hg dH;rw[nK g al,aF.ren_live];exact ab _ (dz dH)
theorem ah0 (g:qR H done obs):Step φ ι w H φ (k1 ι done) w (kA done obs):=
 ⟨λ_ _ h=>h,λ_ _ _=>rfl,λ_ _ h=>.inl h,b7 _,rfl,rfl,rfl,λ_ _ _=>rfl,λ_ h=>.inr (FV g h)⟩
theorem cc.live_ids [Env] (h:cc φ ι w H): ∀o,∀i∈(aE H o).ids,(aE H i).live=true:=by exact h.ids
end
open Go.RowKit
section
variable {P:cq} {cx:cd} {φ:bJ} {ι:Nat->az} {w:bh} {H:List aF} {n:Nat} {aA:List aF} {aI:Nat}
theorem Zv [Env] {r gN:K} (e:(GF r).go H n=some (gN,aA,aI)) (h:cc φ ι w H) {v:az} (au:r.rel φ ι w v) (ab: ∀i∈r.ids,(aE H i).live=true):
  aI=n/\ ∃av,e2 φ ι w H av aA/\gN.rel av ι w v/\ ∀i∈gN.ids,(aE aA i).live=true:=by
 have key: ∀{x:HM eD},x=hc r->(x.bind λI=>HM.ret (K.dat I.t I.x)).go H n=some (gN,aA,aI)->aI=n/\ ∃av,e2 φ ι w H av aA/\gN.rel av ι w v/\ ∀i∈gN.ids,(aE aA i).live=true:=by intro x ai e;subst ai;obtain ⟨I,H1,c8,L,aa⟩:=HM.go_bind_some e;obtain ⟨rfl,rfl,rfl⟩:=go_ret aa;obtain ⟨s,dy,g,aZ⟩:=tt r φ v H n I _ _ L h au ab;exact ⟨s,dy,g,h3 aZ,by simp[K.ids]⟩
 unfold GF at e;split at e
 ·rename_i l;exact key (x:=uQ l) (by simp[hc]) e
 ·exact key rfl e
 ·exact key rfl e
 ·exact key (x:=.ret ⟨.list _,[]⟩) (by simp[hc]) e
 ·exact key (x:=.ret ⟨.list _,_⟩) (by simp[hc]) e
 ·obtain ⟨rfl,rfl,rfl⟩:=go_ret e;exact ⟨rfl,φ,e2.refl h,au,ab⟩
theorem Yr [Env] {f:FuncId}: ∀(l:List K) (j:Nat) (aO:List az) (φ:bJ) (H:List aF) (n:Nat) (fB:List K) (aA:List aF) (aI:Nat),(AP cx f j l).go H n=some (fB,aA,aI)->cc φ ι w H->K.relT φ ι w l aO->(∀i∈K.idsL l,(aE H i).live=true)->
  aI=n/\ ∃av,e2 φ ι w H av aA/\K.relT av ι w fB aO/\ ∀i∈K.idsL fB,(aE aA i).live=true
 |[],j,aO,φ,H,n,fB,aA,aI,e,h,au,ab=>by simp only[AP]at e;obtain ⟨rfl,rfl,rfl⟩:=go_ret e;exact ⟨rfl,φ,e2.refl h,au,ab⟩
 |r::l,j,aO,φ,H,n,fB,aA,aI,e,h,⟨v,m,aZ,s,E⟩,ab=>by
  subst aZ;simp only[AP]at e;obtain ⟨ah,H1,c8,L,e⟩:=HM.go_bind_some e;obtain ⟨dD,e3,dP,aa,e⟩:=HM.go_bind_some e;obtain ⟨rfl,rfl,rfl⟩:=go_ret e;have ve: ∀i∈r.ids,(aE H i).live=true:=λi u=>ab i (by simp[K.idsL,u])
  have q:c8=n/\ ∃av,e2 φ ι w H av H1/\ah.rel av ι w v/\ ∀i∈ah.ids,(aE H1 i).live=true:=by
   cases J:cx.rawArg f j
   ·simp only[J,ax]at L;exact Zv L h s ve
   ·simp only[J,ak]at L;obtain ⟨rfl,rfl,rfl⟩:=go_ret L;exact ⟨rfl,φ,e2.refl h,s,ve⟩
  obtain ⟨rfl,dy,g1,CD,aug⟩:=q;obtain ⟨rfl,ec,g2,auH,ih⟩:=Yr l (j+1) m dy H1 _ dD _ _ aa g1.rel (K.relT_mono g1.step.phi g1.step.cells l m (λ_ _=>rfl) E) (λi u=>by rw[g1.live];exact ab i (by simp[K.idsL,u]));refine ⟨rfl,ec,g1.trans g2,⟨v,m,rfl,K.rel_mono g2.step.phi g2.step.cells ah v (λ_ _=>rfl) CD,auH⟩,λi u=> ?_⟩;simp only[K.idsL,dk]at u;rcases u with u |u
  ·rw[g2.live];exact aug i u
  ·exact ih i u
structure KQ (ρ:Nat->Nat) (os:List Nat) (l:List aF) (H:List aF) (n:Nat) (aA:List aF) (aI:Nat):Prop where
 le:os.length<=l.length
 next:aI=n+(l.length-os.length)
 old: ∀i o,os[i]? =some o->aE aA o=(aE l i).ren ρ
 new: ∀j,j<l.length-os.length->aE aA (n+j)=(aE l (os.length+j)).ren ρ
 other: ∀o,o∉os->(o<n\/aI<=o)->aE aA o=aE H o
 len:H.length<=aA.length
 top:aI<=aA.length
 seq:n=H.length->aA.length=aI
theorem aph (H:List aF) (o:Nat) (b:aF) (W:o<=H.length):H.length<=(bY H o b).length/\o+1<=(bY H o b).length/\(o<H.length->(bY H o b).length=H.length)/\(o=H.length->(bY H o b).length=o+1):=by
 rcases Nat.lt_or_ge o H.length with h |h
 ·have:=ie H o b h;exact ⟨by omega,by omega,λ_=>this,λh=>by omega⟩
 ·have:o=H.length:=by omega
  subst this;have:=tA H b;exact ⟨by omega,by omega,λh=>by omega,λ_=>this⟩
theorem aaa {ρ:Nat->Nat}: ∀(l:List aF) (H:List aF) (n:Nat) (ad:Unit) (aA:List aF) (aI:Nat),(rV ρ [] l).go H n=some (ad,aA,aI)->n<=H.length->KQ ρ [] l H n aA aI
 |[],H,n,ad,aA,aI,e,aR=>by simp only[rV]at e;obtain ⟨-,rfl,rfl⟩:=go_ret e;exact ⟨b7 _,rfl,by simp,by simp,λ_ _ _=>rfl,b7 _,aR,λh=>h.symm⟩
 |b::l,H,n,ad,aA,aI,e,aR=>by
  simp only[rV,HM.go]at e;obtain ⟨bb,aU,ck,ep⟩:=aph H n (b.ren ρ) aR;have aQ:=aaa l (bY H n (b.ren ρ)) (n+1) ad aA aI e aU;have L:=aQ.next;simp only[List.length_nil,Nat.sub_zero]at L;refine ⟨by simp,by rw[L];simp;omega,by simp,λj an=> ?_,λo W h=> ?_,Nat.le_trans bb aQ.len,aQ.top,λh=>aQ.seq (ep h).symm⟩
  ·cases j with
   |zero=>
    rw[Nat.add_zero,aQ.other n (by simp) (.inl (by omega)),gA H n _ n aR];simp[aE]
   |succ j=>
    have:=aQ.new j (by simp at an ⊢;omega);rw[show n+(j+1)=n+1+j by omega,this];simp[aE]
  ·rw[aQ.other o (by simp) (by omega),gA H n _ o aR];rw[if_neg];omega
theorem ZG {ρ:Nat->Nat}: ∀(os:List Nat) (l:List aF) (H:List aF) (n:Nat) (ad:Unit) (aA:List aF) (aI:Nat),(rV ρ os l).go H n=some (ad,aA,aI)->n<=H.length->os.Nodup->(∀o∈os,o<H.length/\(o<n\/aI<=o))->KQ ρ os l H n aA aI
 |[],l,H,n,ad,aA,aI,e,aR,_,_=>aaa l H n ad aA aI e aR
 |o::os,[],H,n,ad,aA,aI,e,aR,_,_=>by simp[rV,HM.go]at e
 |o::os,b::l,H,n,ad,aA,aI,e,aR,eb,bd=>by
  simp only[rV,HM.go]at e;have W:=(bd o (by simp)).1;have hlen:=ie H o (b.ren ρ) W;have aQ:=ZG os l (bY H o (b.ren ρ)) n ad aA aI e (by rw[hlen];exact aR) (by simp at eb;exact eb.2) (λp aP=>by rw[hlen];exact bd p (by simp[aP]));have kI:o∉os:=by simp at eb;exact eb.1
  refine ⟨by simpa using aQ.le,by rw[aQ.next];simp,λi p aP=> ?_,λj an=> ?_,λp aP h=> ?_,by rw[<-hlen];exact aQ.len,aQ.top,λh=>aQ.seq (by rw[hlen];exact h)⟩
  ·cases i with
   |zero=>
    obtain rfl:o=p:=by simpa using aP
    rw[aQ.other o kI (bd o (by simp)).2,gA H o _ o (Nat.le_of_lt W)];simp[aE]
   |succ i=>
    have:=aQ.old i p (by simpa using aP);rw[this];simp[aE]
  ·have:=aQ.new j (by simpa using an);rw[this];simp only[gn,aE];rw[show os.length+1+j=(os.length+j)+1 by omega];simp
  ·rw[aQ.other p (λh=>aP (by simp[h])) h,gA H o _ p (Nat.le_of_lt W),if_neg];rintro rfl;exact aP (by simp)
theorem aqm [Env] {done:List Nat} {obs ar:List aF} {av:bJ} {aH:Nat->az} {ao:bh} (h:cc φ ι w H) (g:qR H done obs) (ab: ∀o∈done,(aE H o).live=true) (ea:iZ H n aI)
  (b:KQ (λi=>done.getD i (n+(i-done.length))) done ar H n aA aI) (cu:cc av aH ao ar) (d:Step φ (k1 ι done) w (kA done obs) av aH ao ar) (k:ej (k1 ι done) (kA done obs) aH ar):
  ∃hF,cc av hF ao aA/\Step φ ι w H av hF ao aA/\ej ι H hF aA/\iP H n aA aI/\ ∀i,(aE ar i).live=true->hF (done.getD i (n+(i-done.length)))=aH i/\(aE aA (done.getD i (n+(i-done.length)))).live=true:=by
 let ρ:Nat->Nat:=λi=>done.getD i (n+(i-done.length))
 let hF:Nat->az:=λo=>if o∈done then aH (idx done o) else if n<=o/\o<aI then aH (done.length+(o-n)) else ι o
 have hle:=b.le;have ayM:=b.next;have fa: ∀{H:List aF} {i:Nat},(aE H i).owns=true->(aE H i).live=true:=λ{H i} W=>by cases dv:aE H i<;>rw[dv]at W<;>first |rfl |(cases W)
 have atL: ∀o∈done,o<n\/aI<=o:=λo W=>by
  rcases Nat.lt_or_ge o n with s |s
  ·exact .inl s
  ·rcases Nat.lt_or_ge o aI with E |E
   ·have:=ea.2 o s E;rw[ab o W]at this;cases this
   ·exact .inr E
 have A: ∀o,(o∈done\/(n<=o/\o<aI))-> ∃i,i<ar.length/\ρ i=o/\hF o=aH i/\aE aA o=(aE ar i).ren ρ:=by
  intro o W;by_cases al:o∈done
  ·refine ⟨idx done o,Nat.lt_of_lt_of_le (ajY al) hle,?_,by simp[hF,al],b.old _ o (rX al)⟩;simp[ρ,jH,rX al]
  ·have W:=W.resolve_left al;refine ⟨done.length+(o-n),by omega,?_,by simp[hF,al,W],?_⟩
   ·simp[ρ,jH];omega
   ·have:=b.new (o-n) (by omega)
    rwa [show n+(o-n)=o by omega]at this
 have B: ∀i,i<ar.length->(ρ i∈done\/(n<=ρ i/\ρ i<aI))/\hF (ρ i)=aH i/\aE aA (ρ i)=(aE ar i).ren ρ:=by
  intro i u;rcases Nat.lt_or_ge i done.length with s |s
  ·have L:done[i]? =some (done[i]):=hg s;have aa:ρ i=done[i]:=by simp[ρ,jH,L]
   have al:done[i]∈done:=dz s;rw[aa];exact ⟨.inl al,by simp[hF,al,N1 g.nodup L],b.old i _ L⟩
  ·have aa:ρ i=n+(i-done.length):=by simp[ρ,jH,List.getElem?_eq_none s]
   have eb:ρ i∉done:=λal=>by rcases atL _ al with h |h<;>omega
   refine ⟨.inr (by omega),?_,?_⟩
   ·have O:n<=ρ i/\ρ i<aI:=by omega
    simp only[hF,eb,if_false,O,and_self,if_true];rw[aa];congr 1;omega
   ·have:=b.new (i-done.length) (by omega);rw[aa,this];congr 2;omega
 have C: ∀o,¬(o∈done\/(n<=o/\o<aI))->aE aA o=aE H o/\hF o=ι o:=by
  intro o W;have s:o∉done:=λh=>W (.inl h)
  have E: ¬(n<=o/\o<aI):=λh=>W (.inr h)
  exact ⟨b.other o s (by omega),by simp only[hF,s,if_false,E]⟩
 have xX: ∀o,(aE H o).live=true->hF o=ι o:=by
  intro o W;by_cases al:o∈done
  ·have L:=rX al;have s:(aE (kA done obs) (idx done o)).live=true:=by rw[nK g L,aF.ren_live];exact W
   simp only[hF,al,if_true];rw[k.iota _ s,Gg al]
  ·by_cases au:n<=o/\o<aI
   ·rw[ea.2 o au.1 au.2]at W;cases W
   ·exact (C o (by simp[al,au])).2
 have e9: ∀o,(aE H o).live=true->(aE aA o).live=true:=by
  intro o W;by_cases al:o∈done
  ·have L:=rX al;have s:(aE (kA done obs) (idx done o)).live=true:=by rw[nK g L,aF.ren_live];exact W
   have:=k.live _ s;rw[b.old _ o L,aF.ren_live];exact this
  ·by_cases au:n<=o/\o<aI
   ·rw[ea.2 o au.1 au.2]at W;cases W
   ·rw[(C o (by simp[al,au])).1];exact W
 have Qt: ∀{i},(aE ar i).live=true->i<ar.length:=λu=>gB u
 have rb: ∀o fj,¬(o∈done\/(n<=o/\o<aI))->(aE H o).owns=true->dG (ι o)=some fj->fj<w.heap.size/\ ¬jT (k1 ι done) (kA done obs) fj:=by
  intro o fj W s E;refine ⟨uA h s E,?_⟩;rintro ⟨i,O,aC⟩;cases al:done[i]? with
  |none=>rw[zv g (List.getElem?_eq_none_iff.1 al)]at O;cases O
  |some jE=>
   rw[nK g al,aF.ren_owns]at O;have e:k1 ι done i=ι jE:=by simp[k1,jH,al]
   rw[e]at aC;have:=h.apart o jE fj s O E aC;exact W (.inl (by rw[this];exact List.mem_of_getElem? al))
 have aea: ∀i j fj,(i∈done\/(n<=i/\i<aI))-> ¬(j∈done\/(n<=j/\j<aI))->(aE aA i).owns=true->(aE aA j).owns=true->dG (hF i)=some fj->dG (hF j)=some fj->False:=by
  intro i j fj u an s E O aC;obtain ⟨x,oB,pq,sY,rh⟩:=A i u;obtain ⟨a7,aX⟩:=C j an;rw[a7]at E;rw[aX]at aC;rw[rh,aF.ren_owns]at s;rw[sY]at O;obtain ⟨bb,aU⟩:=rb j fj an E aC;rcases d.own fj ⟨x,s,O⟩ with ba |ba
  ·omega
  ·exact aU ba
 have auC: ∀fj,jT hF aA fj->w.heap.size<=fj\/jT ι H fj:=by
  rintro fj ⟨o,s,E⟩;by_cases dL:o∈done\/(n<=o/\o<aI)
  ·obtain ⟨x,oB,pq,sY,rh⟩:=A o dL;rw[rh,aF.ren_owns]at s;rw[sY]at E;exact (d.own fj ⟨x,s,E⟩).imp id (FV g)
  ·obtain ⟨a7,aX⟩:=C o dL;rw[a7]at s;rw[aX]at E;exact .inr ⟨o,s,E⟩
 refine ⟨hF,⟨λo=> ?_,λi j fj s E O aC=> ?_,cu.phi,λo j an=> ?_,cu.glob⟩,⟨d.phi,d.cells,λfj c2 J=> ?_,d.size,d.os,d.tape,d.output,λfj J W=>d.blocks fj J λaw=>W (FV g aw),auC⟩,⟨xX,e9⟩,⟨by omega,b.len,λ_=>b.top,λi u=> ?_,b.seq⟩,λi u=> ?_⟩
 ·by_cases dL:o∈done\/(n<=o/\o<aI)
  ·obtain ⟨x,oB,pq,sY,rh⟩:=A o dL;rw[rh];exact (cu.obj x).ren ρ sY λj an=>(B j (Qt (cu.live_ids x j an))).2.1
  ·obtain ⟨a7,aX⟩:=C o dL;rw[a7];refine (h.obj o).keep d.phi d.cells (λ_=>aX) (λj an=>xX j (h.live_ids o j an)) λfj W J=> ?_
   obtain ⟨bb,aU⟩:=rb o fj dL W J;refine ⟨d.blocks fj bb aU,λc2 af=> ?_⟩;rcases d.newphi fj c2 af with s |s |s
   ·exact s
   ·omega
   ·exact absurd s aU
 ·by_cases dL:i∈done\/(n<=i/\i<aI)
  ·by_cases sP:j∈done\/(n<=j/\j<aI)
   ·obtain ⟨x,oB,pq,sY,rh⟩:=A i dL;obtain ⟨y,ayS,au9,ava,avb⟩:=A j sP;rw[rh,aF.ren_owns]at s;rw[avb,aF.ren_owns]at E;rw[sY]at O;rw[ava]at aC;have:=cu.apart x y fj s E O aC;subst this;rw[<-pq,<-au9]
   ·exact (aea i j fj dL sP s E O aC).elim
  ·by_cases sP:j∈done\/(n<=j/\j<aI)
   ·exact (aea j i fj sP dL E s aC O).elim
   ·obtain ⟨a7,aX⟩:=C i dL;obtain ⟨d1,d2⟩:=C j sP;rw[a7]at s;rw[d1]at E;rw[aX]at O;rw[d2]at aC;exact h.apart i j fj s E O aC
 ·by_cases dL:o∈done\/(n<=o/\o<aI)
  ·obtain ⟨x,oB,pq,sY,rh⟩:=A o dL;have hb:j∈((aE ar x).ren ρ).ids:=by rw[<-rh];exact an
   rw[aF.ren_ids]at hb;obtain ⟨y,bo,rfl⟩:=List.mem_map.1 hb;have CO:=cu.live_ids x y bo;rw[(B y (Qt CO)).2.2,aF.ren_live];exact CO
  ·rw[(C o dL).1]at an;exact e9 j (h.ids o j an)
 ·rcases d.newphi fj c2 J with s |s |s
  ·exact .inl s
  ·exact .inr (.inl s)
  ·exact .inr (.inr (FV g s))
 ·by_cases al:i∈done
  ·rw[ab i al,e9 i (ab i al)]
  ·rw[(C i (by simp[al];omega)).1]
 ·have:=B i (Qt u);refine ⟨this.2.1,?_⟩;rw[this.2.2,aF.ren_live];exact u
theorem JJ [Env] {Γ:hG} (c1:ca P Γ) {f:FuncId} {args:List K} {aO:Array az} {r:K} (e:(rW cx Γ f args).go H n=some (r,aA,aI)) (h:cc φ ι w H) (aS:K.relT φ ι w args aO.toList) (jB: ∀i∈K.idsL args,(aE H i).live=true) (ea:iZ H n aI):
  jR P f aO w λe ao=> ∃v av aH,e=.returned v/\cc av aH ao aA/\Step φ ι w H av aH ao aA/\ej ι H aH aA/\iP H n aA aI/\r.rel av aH ao v/\(∀i∈r.ids,(aE aA i).live=true):=by
 unfold rW at e;obtain ⟨aaV,H1,c8,L,Hy⟩:=HM.go_bind_some e;clear e;obtain ⟨rfl,dy,g1,xS,avq⟩:=Yr args 0 aO.toList φ H n aaV H1 c8 L h aS jB;obtain ⟨py,e3,dP,aa,Py⟩:=HM.go_bind_some Hy;clear Hy;have bj:=y5 200 _ [] [] py e3 dP aa rfl (by simp) (by simp);clear aa;obtain ⟨done,obs⟩:=py;obtain ⟨s,E,mS,dO,-,gG⟩:=bj;subst s E;have pn:=gG g1.rel.live_ids avq (by simp);simp only at mS dO pn Py;obtain ⟨⟨ah,ar⟩,lY,n3,a1,l7⟩:=HM.go_bind_some Py;clear Py;rw[HM.go_ofDT]at a1;obtain ⟨q,aD,a1⟩:=h7.1 a1;simp only[cV]at a1;obtain ⟨rfl,rfl,rfl⟩:=a1;simp only[HM.go]at l7;obtain ⟨ad,Kg,n4,bq,asV⟩:=HM.go_bind_some l7;clear l7;obtain ⟨rfl,rfl,rfl⟩:=go_ret asV;have aw:=c1 _ _ _ _ _ aD;have kp:iZ e3 dP aI:=ea.ghost g1;have di:=ZG done ar e3 dP ad aA aI bq kp.1 mS.nodup λo W=>⟨gB (pn o W),by
  rcases Nat.lt_or_ge o dP with s |s
  ·exact .inl s
  ·rcases Nat.lt_or_ge o aI with E |E
   ·have:=kp.2 o s E;rw[pn o W]at this;cases this
   ·exact .inr E⟩
 have Ce:=aw dy (k1 ι done) w aO (acN g1.rel mS pn) (λi u=>acM mS pn i u) (K.renL_relT (idx done) aaV _ (λi u=>Gg (dO i u)) xS) (by rw[K.renL_ids];exact ack mS pn dO)
 refine jR.mono Ce λe ao=> ?_
 rintro ⟨v,av,aH,he,cu,d,k,au,ab⟩;obtain ⟨hF,b1,b2,b3,hs,hI⟩:=aqm g1.rel mS pn kp di cu d k;refine ⟨v,av,hF,he,b1,g1.step.trans b2,g1.keep.trans b3,(g1.nx dP).trans hs,K.ren_rel _ ah v (λi u=>(hI i (ab i u)).1) au,λi u=> ?_⟩;rw[K.ren_ids]at u;obtain ⟨j,an,rfl⟩:=List.mem_map.1 u;exact (hI j (ab j an)).2
end
open Go.RowKit
theorem xb {e I:Nat} (h: ¬e=I):Nat.beq e I=false:=by
 cases J:Nat.beq e I
 ·rfl
 ·exact absurd (Nat.eq_of_beq_eq_true J) h
theorem bO.get_put (R:bO) (I:Nat) (r:K) (e:Nat):(R.put I r).get e=if e=I then some r else R.get e:=by
 induction R with
 |nil=>
  simp only[bO.put,bO.get];by_cases h:e=I
  ·subst h;simp
  ·have:Nat.beq e I=false:=xb h;simp[this,h]
 |cons p l aQ=>
  obtain ⟨k,d⟩:=p;simp only[bO.put];cases s:Nat.beq I k
  ·cases E:Nat.blt I k
   ·simp only[ax,bO.get];rw[aQ];cases O:Nat.beq e k
    ·rfl
    ·have L:e=k:=by simpa using O
     have: ¬e=I:=by rintro rfl;rw[L]at s;simp at s
     simp[this]
   ·simp only[ax,ak,bO.get];by_cases h:e=I
    ·subst h;simp
    ·have:Nat.beq e I=false:=xb h;simp[this,h]
  ·have L:I=k:=by simpa using s
   subst L;simp only[ak,bO.get];by_cases h:e=I
   ·subst h;simp
   ·have:Nat.beq e I=false:=xb h;simp[this,h]
structure js where
 n:Nat
 base:Nat
 D:List Deferred
 ro:Option Nat
 nm:Bool
def js.rf (nt:js):Prop:=nt.ro=none/\nt.nm=false
def js.df (nt:js):Prop:=nt.ro=none/\nt.nm=true/\nt.D=[]
def xm (r:Nat):Deferred:={target:=.collected r,args:= #[]}
def sg (I:Deferred):az:=match I.target with
 | .fn f y=>.func f I.args y
 |_=>undef
def Marks (nt:js) (w:bh) (Own:Nat->Prop) (e6:List Deferred):Prop:=
 nt.base<=w.heap.size/\(nt.nm=false-> ∃ms:List Nat,e6=ms.map xm++nt.D/\ms.Nodup/\ ∀r∈ms,nt.base<=r/\w.heap[r]? =some (.deferred (some []))/\ ¬Own r)
def na (a:Act) (I:Nat):az:=bif Nat.beq I dE then .tuple (a.defers.map sg).toArray else a.tmps.getD I undef
theorem iK {a:Act} {I:Nat} (h:I≠dE):na a I=a.tmps.getD I undef:=by have:Nat.beq I dE=false:=xb h;simp[na,this]
theorem qJ {a:Act}:na a dE=.tuple (a.defers.map sg).toArray:=by have:Nat.beq dE dE=true:=Nat.beq_refl dE;simp[na,this]
theorem Marks.step {nt:js} {φ:bJ} {ι:Nat->az} {w:bh} {H:List aF} {av:bJ} {aH:Nat->az} {ao:bh} {aA:List aF} {e6:List Deferred} (m:Marks nt w (jT ι H) e6) (d:Step φ ι w H av aH ao aA):Marks nt ao (jT aH aA) e6:=by obtain ⟨b8,m⟩:=m;refine ⟨Nat.le_trans b8 d.size,λaR=> ?_⟩;obtain ⟨ms,s,E,O⟩:=m aR;refine ⟨ms,s,E,λr au=> ?_⟩;obtain ⟨bb,aU,ck⟩:=O r au;have bd:=(kT.1 aU).1;exact ⟨bb,(d.blocks r bd ck).trans aU,λh=>(d.own r h).elim (λaC=>by omega) ck⟩
structure ds [Env] (φ:bJ) (ι:Nat->az) (w:bh) (aY:js) (st:bz) (a:Act):Prop where
 heap:cc φ ι w st.heap
 regs: ∀I r,st.regs.get I=some r->r.rel φ ι w (na a I)/\ ∀i∈r.ids,(aE st.heap i).live=true
 nt:a.tmps.size=aY.n
 small:aY.n<=dE
 defers:Marks aY w (jT ι st.heap) a.defers
def u2 (o:Oper):Bool:=match o.op with
 | .defer _=>true
 |_=>false
theorem aqo {t:aB} {x:t.den}:t.cast? t x=some x:=by simp[aB.cast?]
def pT (nt:Nat) (o:Oper):Bool:=match o.dst with
 |some I=>Nat.blt I nt
 |none=>true
section
variable {P:cq} {cx:cd} {Γ:hG} {φ:bJ} {ι:Nat->az} {w:bh} {nt:js} {st:bz} {a:Act} {n aI:Nat}
theorem ard (v:az):(Gn v).rel φ ι w v/\(Gn v).ids=[]:=by
 unfold Gn;split
 ·exact ⟨h3 (cA.bool.2 rfl),rfl⟩
 ·exact ⟨h3 (cA.int.2 rfl),rfl⟩
 ·rename_i d;refine ⟨h3 (cA.str.2 ?_),rfl⟩;congr 1
 ·exact ⟨rfl,rfl⟩
 ·exact ⟨rfl,rfl⟩
 ·exact ⟨rfl,rfl⟩
 ·exact ⟨rfl,rfl⟩
 ·exact ⟨trivial,rfl⟩
theorem ds.eval [Env] (d:ds φ ι w nt st a):uX φ ι w st.heap (h2 st.regs) a.eval:=by
 intro x;cases x with
 |tmp t=>
  simp only[h2,Act.eval];cases J:Nat.beq t dE with
  |true=>exact ⟨trivial,by simp[K.ids]⟩
  |false=>
   simp only[ax];cases h:st.regs.get t with
   |none=>exact ⟨trivial,by simp[K.ids]⟩
   |some r=>
    have:=d.regs t r h;rw[iK (λe=>by subst e;simp at J)]at this;exact this
 |const v=>
  have:=ard (φ:=φ) (ι:=ι) (w:=w) v;exact ⟨this.1,by simp only[h2];rw[this.2];simp⟩
 |global g=>
  simp only[h2,Act.eval];cases h:Env.glob g with
  |nil=>exact ⟨trivial,by simp[K.ids]⟩
  |cons x l=>
   have:=d.heap.glob g;rw[h]at this;exact ⟨⟨rfl,this⟩,by simp[K.ids]⟩
 |func f=>exact ⟨Us ⟨#[],#[],rfl,rfl,rfl⟩,by simp[h2,K.ids,K.idsL]⟩
theorem ds.after [Env] {av:bJ} {aH:Nat->az} {ao:bh} {aA:List aF} (d:ds φ ι w nt st a) (cu:cc av aH ao aA) (t:Step φ ι w st.heap av aH ao aA) (k:ej ι st.heap aH aA)
  {dst:Option Tmp} {r:K} {v:az} (al: ∀I,dst=some I->I<nt.n) (au:r.rel av aH ao v) (ab: ∀i∈r.ids,(aE aA i).live=true):ds av aH ao nt ⟨lV st.regs dst r,aA⟩ (a.put dst v):=by
 have old: ∀e x,st.regs.get e=some x->x.rel av aH ao (na a e)/\ ∀i∈x.ids,(aE aA i).live=true:=λe x ai=>
  ⟨K.rel_step t k (d.regs e x ai).2 (d.regs e x ai).1,λi u=>k.live i ((d.regs e x ai).2 i u)⟩
 cases dst with
 |none=>exact ⟨cu,old,d.nt,d.small,d.defers.step t⟩
 |some I=>
  refine ⟨cu,λe x ai=> ?_,by simp[Act.put,d.nt],d.small,d.defers.step t⟩;have ai:(st.regs.put I r).get e=some x:=ai;rw[bO.get_put]at ai;by_cases he:e=I
  ·subst he;simp only[if_true,bH]at ai;subst ai;have bd:e<a.tmps.size:=by rw[d.nt];exact al e rfl
   have:na (a.put (some e) v) e=v:=by rw[iK (by have:=d.small;have:=d.nt;omega)];simp[Act.put,iX,bd]
   rw[this];exact ⟨au,ab⟩
  ·simp only[he,if_false]at ai;have:na (a.put (some I) v) e=na a e:=by
    have cC:I≠e:=λh=>he h.symm
    simp[na,Act.put,iX,Array.getElem?_setIfInBounds,cC]
   rw[this];exact old e x ai
theorem aq3 [Env] (tab:cQ P cx) (c1:ca P Γ) {o:Oper} {c9:Operand->K} {H:List aF} {r:K} {aA:List aF} (e:(nj cx Γ o c9).go H n=some (r,aA,aI)) (h:cc φ ι w H) (dc:uX φ ι w H c9 a.eval) (ea:iZ H n aI):gi P o a φ ι w H n r aA aI:=by
 have eb: ∀c,o.op=.call c-> ∀I,o.op≠ .defer I:=λc aw I al=>by rw[aw]at al;cases al
 refine aqB tab (λc x g l m W aw ai au e=> ?_) (λc x nm T ah i f W aw ai u aL au e=> ?_) (λc x Y fE W aw ai au e=> ?_) e h dc ea
 case refine_3=>
  have rj:=(dc x).1;have nF:=(dc x).2;rw[ai]at rj nF;have au7:=rj;obtain ⟨-,l,aZ⟩:=au7;have O:K.relT φ ι w (iY cx c.argTypes.toList (c.args.toList.map c9)) (c.args.map a.eval).toList:=by simpa using AK (cx:=cx) c.argTypes.toList _ _ (uJ dc c.args.toList)
  have eh:K.relT φ ι w (.yld Y fE::iY cx c.argTypes.toList (c.args.toList.map c9)) (#[a.eval x]++c.args.map a.eval).toList:=by rw[Array.toList_append];exact ⟨a.eval x,_,rfl,rj,O⟩
  have gG: ∀i∈K.idsL (.yld Y fE::iY cx c.argTypes.toList (c.args.toList.map c9)),(aE H i).live=true:=by
   intro i u;simp only[K.idsL,dk]at u;rcases u with u |u
   ·exact nF i u
   ·exact uw dc _ i (AJ _ _ i u)
  obtain ⟨fB,x0,fn,tmps,assign,body,bo,ko⟩:=(jR.round au).1 (JJ c1 e h eh gG ea);have q6:fB=l:=by
   have:(#[a.eval x]++c.args.map a.eval)[0]? =some (a.eval x):=by rw[Array.getElem?_append_left (by exact Nat.zero_lt_one)];rfl
   rw[this,aZ]at x0;simpa using x0.symm
  subst q6;have Cl:(#[a.eval x]++c.args.map a.eval).extract 1 (#[a.eval x]++c.args.map a.eval).size=c.args.map a.eval:=by rw[Array.extract_append];simp
  rw[Cl]at bo;intro ro next bD k;refine uI (eb c W) ?_;have he:(execOp a.eval o).run P w=.ok (.round fB fn tmps assign body) w:=by simp only[execOp,W,resolve,aw,aZ,Deferred.ofValue,pure_bind,invoke];simpa using bo
  rw[he,Oper.uponIn_round];refine ⟨λh=>(by cases h),RoundIn.mono (R:=_) (show RoundIn (eX ro) 0 P fB fn tmps assign body w _ from ko) λe ao=> ?_⟩;rintro ⟨v,av,aH,rfl,b1,b2,b3,hs,hI,jY⟩;exact k v ao av aH b1 b2 b3 hs hI jY
 case refine_2=>
  have rj:=(dc x).1;have nF:=(dc x).2;rw[ai]at rj nF;obtain ⟨ad,aZ,s⟩:=rj;have O:K.relT φ ι w (iY cx c.argTypes.toList (c.args.toList.map c9)) (c.args.map a.eval).toList:=by simpa using AK (cx:=cx) c.argTypes.toList _ _ (uJ dc c.args.toList)
  have eh:K.relT φ ι w (ah::iY cx c.argTypes.toList (c.args.toList.map c9)) (#[ad]++c.args.map a.eval).toList:=by rw[Array.toList_append];exact ⟨ad,_,rfl,s,O⟩
  have gG: ∀i∈K.idsL (ah::iY cx c.argTypes.toList (c.args.toList.map c9)),(aE H i).live=true:=by
   intro i u;simp only[K.idsL,dk]at u;rcases u with u |u
   ·exact nF i (by simp[K.ids,u])
   ·exact uw dc _ i (AJ _ _ i u)
  have q:=(jR.call au).1 (JJ c1 e h eh gG ea);intro ro next bD k;refine uI (eb c W) ?_;have hm:=(tab T i u).meth nm f aL ad w;have he:(execOp a.eval o).run P w=(callFunc f (#[ad]++c.args.map a.eval)).run P w:=by
   have bx:(#[Value.iface T ad]++c.args.map a.eval)[0]? =some (.iface T ad):=by rw[Array.getElem?_append_left (by exact Nat.zero_lt_one)];rfl
   have Cl:(#[Value.iface T ad]++c.args.map a.eval).extract 1 (#[Value.iface T ad]++c.args.map a.eval).size=c.args.map a.eval:=by rw[Array.extract_append];simp
   simp only[execOp,W,resolve,aw,aZ,pure_bind,invoke,bx,Cl,callMethod,Sem.run_bind,run_program,Result.andThen_ok];rw[hm];rfl
  rw[he];rcases q with ⟨bj,bG⟩|⟨v0,ao,bj,v,av,aH,j3,b1,b2,b3,hs,hI,jY⟩
  ·rw[bj];rw[Oper.uponIn_enter];refine ⟨λh=>(by cases h),NA ro (Calls.mono bG λe ao=> ?_)⟩;rintro ⟨v,av,aH,rfl,b1,b2,b3,hs,hI,jY⟩;exact k v ao av aH b1 b2 b3 hs hI jY
  ·injection j3 with j3
   subst j3;rw[bj];rw[Oper.uponIn_value];exact k _ ao av aH b1 b2 b3 hs hI jY
 have rj:=(dc x).1;have nF:=(dc x).2;rw[ai]at rj nF;obtain ⟨xs,aW,aZ,s,E⟩:=rj;have eh:K.relT φ ι w (l++iY cx c.argTypes.toList (c.args.toList.map c9)++m) ((xs++c.args.map a.eval)++aW).toList:=by
  have app: ∀(l m:List K) (xs aW:List az),K.relT φ ι w l xs->K.relT φ ι w m aW->K.relT φ ι w (l++m) (xs++aW):=by
   intro l
   induction l with
   |nil=>intro m xs aW s E;simp only[K.relT]at s;subst s;exact E
   |cons r l aQ=>intro m xs aW s E;obtain ⟨v,rA,rfl,O,aC⟩:=s;exact ⟨v,rA++aW,rfl,O,aQ m rA aW aC E⟩
  have O:K.relT φ ι w (iY cx c.argTypes.toList (c.args.toList.map c9)) (c.args.map a.eval).toList:=by simpa using AK (cx:=cx) c.argTypes.toList _ _ (uJ dc c.args.toList)
  rw[Array.toList_append,Array.toList_append];exact app _ _ _ _ (app _ _ _ _ s O) E
 have gG: ∀i∈K.idsL (l++iY cx c.argTypes.toList (c.args.toList.map c9)++m),(aE H i).live=true:=by
  have app: ∀(l m:List K),K.idsL (l++m)=K.idsL l++K.idsL m:=by
   intro l m
   induction l with
   |nil=>rfl
   |cons r l aQ=>simp[K.idsL,aQ]
  intro i u;rw[app,app]at u;simp only[dk]at u;rcases u with (u |u)|u
  ·exact nF i (by simp[K.ids,u])
  ·exact uw dc _ i (AJ _ _ i u)
  ·exact nF i (by simp[K.ids,u])
 have q:=(jR.call au).1 (JJ c1 e h eh gG ea);intro ro next bD k;refine uI (eb c W) ?_;have he:execOp a.eval o=callFunc g ((xs++c.args.map a.eval)++aW):=by simp only[execOp,W,resolve,aw,aZ,Deferred.ofValue,pure_bind,invoke]
 rw[he];rcases q with ⟨bj,bG⟩|⟨v0,ao,bj,v,av,aH,j3,b1,b2,b3,hs,hI,jY⟩
 ·rw[bj];rw[Oper.uponIn_enter];refine ⟨λh=>(by cases h),NA ro (Calls.mono bG λe ao=> ?_)⟩;rintro ⟨v,av,aH,rfl,b1,b2,b3,hs,hI,jY⟩;exact k v ao av aH b1 b2 b3 hs hI jY
 ·injection j3 with j3
  subst j3;rw[bj];rw[Oper.uponIn_value];exact k _ ao av aH b1 b2 b3 hs hI jY
theorem zZ {R:bO} {I:Nat} {b:Bool} (h:(R.get I).bind mo=some b):R.get I=some (.dat .bool b):=by
 obtain ⟨x,ai,J⟩:=Option.bind_eq_some_iff.1 h;unfold mo at J;split at J
 ·obtain rfl:=eW J;exact ai
 ·cases J
theorem tB {R:bO} {I:Nat} {b:Bool} (h:R.get I=some (.dat .bool b)) (e:Nat):(refine R I b).get e=R.get e:=by
 unfold refine;rw[bO.get_put];split
 ·rename_i he;rw[he,h]
 ·rfl
theorem ds.regs_eq [Env] {eH:bO} (d:ds φ ι w nt st a) (h: ∀e,eH.get e=st.regs.get e):ds φ ι w nt ⟨eH,st.heap⟩ a:=
 ⟨d.heap,λI r al=>d.regs I r (by rw[<-h I];exact al),d.nt,d.small,d.defers⟩
theorem abb:(K.tup []).rel φ ι w undef:=⟨#[],rfl,rfl⟩
theorem aqI [Env] {o:Oper} {q:bz×Nat×dj} (e:(uM cx Γ o st n).val=some q):
  ∃r,(nj cx Γ o (h2 st.regs)).go st.heap n=some (r,q.1.heap,q.2.1)/\q.1.regs=lV st.regs o.dst r:=by
 unfold uM at e;obtain ⟨⟨r,h,m,p⟩,L,aa⟩:=DT.val_bind_some e;simp only[DT.val,bH]at aa;subst aa;exact ⟨r,HM.go_run _ _ _ _ _ _ _ _ L,rfl⟩
theorem ap6 {ops:Array Oper} {j I:Nat} {b:Bool} (an:(ops[j]?).bind (·.dst)=some I) (h:a.tmps.getD I undef=.bool b):yielded ops a.tmps j=some b:=by
 have s:a.tmps[I]? =some (.bool b):=by
  rw[iX]at h;cases E:a.tmps[I]? with
  |none=>rw[E]at h;simp[undef]at h
  |some v=>rw[E]at h;simpa using h
 simp[yielded,an,s]
theorem MU [Env] (tab:cQ P cx) (c1:ca P Γ) {ops:Array Oper} {o:Oper} {q:bz×Nat×dj} (e:(qq cx Γ ops o st n).val=some q) (d:ds φ ι w nt st a) (ea:iZ st.heap n q.2.1) (al:pT nt.n o=true)
  {ib:Act->bh->Prop} {bD:Exit->Act->bh->Prop}
  (k: ∀bn ao av aH,ds av aH ao nt q.1 bn->Step φ ι w st.heap av aH ao q.1.heap->ej ι st.heap aH q.1.heap->iP st.heap n q.1.heap q.2.1->ib bn ao):
  if Region.wanted o (yielded ops a.tmps) then o.wpIn (eX nt.ro) 0 P a w ib bD else ib (a.put o.dst undef) w:=by
 have lb: ∀I,o.dst=some I->I<nt.n:=λI h=>by simpa [pT,h] using al
 have act: ∀(gI:bz) (q:bz×Nat×dj),ds φ ι w nt gI a->gI.heap=st.heap->(uM cx Γ o gI n).val=some q->iZ st.heap n q.2.1->
   (∀bn ao av aH,ds av aH ao nt q.1 bn->Step φ ι w st.heap av aH ao q.1.heap->ej ι st.heap aH q.1.heap->iP st.heap n q.1.heap q.2.1->ib bn ao)->o.wpIn (eX nt.ro) 0 P a w ib bD:=by
  intro gI q jP bC e ea k;obtain ⟨r,L,aa⟩:=aqI e;rw[<-bC]at ea;refine aq3 tab c1 L jP.heap jP.eval ea nt.ro ib bD λv ao av aH s E O aC ba bF=> ?_
  have:=jP.after s E O lb ba bF;rw[<-aa]at this;rw[bC]at E O aC;exact k _ _ av aH this E O aC
 unfold qq at e;split at e
 ·rename_i bu;have hw:Region.wanted o (yielded ops a.tmps)=true:=by simp[Region.wanted,bu]
  rw[if_pos hw];exact act st q d rfl e ea k
 ·rename_i j want bu;split at e
  ·rename_i I an;split at e
   ·rename_i b J;have bx:=zZ J;have cC:I≠dE:=λh=>by have:=cA.bool.1 (d.regs I _ bx).1;rw[h,qJ]at this;cases this
    have bo:=ap6 an (cA.bool.1 (by have:=(d.regs I _ bx).1;rw[iK cC]at this;exact this));have hw:Region.wanted o (yielded ops a.tmps)=Bi b want:=by simp only[Region.wanted,bu,bo];cases b<;>cases want<;>rfl
    rw[hw];cases u:Bi b want
    ·have pc:b= !want:=by cases b<;>cases want<;>first |rfl |cases u
     simp only[u,DT.val,ax,bH]at e;subst e;simp only[Bool.false_eq_true,if_false];have jP:=d.regs_eq (eH:=refine st.regs I (!want)) (tB (by rw[bx,pc]));exact k _ _ φ ι (jP.after jP.heap (Step.refl _ _ _ _) (ej.refl _ _) lb abb (by simp[K.ids,K.idsL])) (Step.refl _ _ _ _) (ej.refl _ _) (iP.refl _ _)
    ·have pc:b=want:=by cases b<;>cases want<;>first |rfl |cases u
     simp only[u,DT.val,ak]at e;simp only[if_true];exact act ⟨refine st.regs I want,st.heap⟩ q (d.regs_eq (tB (by rw[bx,pc]))) rfl e ea k
   ·split at e
    ·rename_i J bx;obtain ⟨aO,aZ,eB⟩:=(d.regs I _ bx).1;have eB:aO= #[]:=by cases aO;simpa [K.relT] using eB
     subst eB;have bo:yielded ops a.tmps j=none:=by
      unfold yielded;rw[an];simp only[Option.bind_some];split
      ·rename_i c aw;have bd:=(kT.1 aw).1;rw[iK (by have:=d.small;have:=d.nt;omega),iX,aw]at aZ;cases aZ
      ·rfl
     have hw:Region.wanted o (yielded ops a.tmps)=false:=by simp only[Region.wanted,bu,bo];rfl
     rw[hw];simp only[DT.val,bH]at e;subst e;simp only[Bool.false_eq_true,if_false];exact k _ _ φ ι (d.after d.heap (Step.refl _ _ _ _) (ej.refl _ _) lb abb (by simp[K.ids,K.idsL])) (Step.refl _ _ _ _) (ej.refl _ _) (iP.refl _ _)
    ·simp[DT.val]at e
  ·simp[DT.val]at e
theorem pv {H:List aF} {i:Nat} (h:H.length<=i):aE H i=.hole:=by simp[aE,jH,List.getElem?_eq_none h]
theorem Om (H:List aF) (aI:Nat):iZ H H.length aI:=⟨b7 _,λi h _=>by rw[pv h];rfl⟩
theorem ah4 [Env] {H:List aF} (h:cc φ ι w H) {p:Nat} {T:bm} {t:aB} {x:t.den} (aP:aE H p=.box T t (.dat t x)):
  ∃av,e2 φ ι w H av (bY H p .gone)/\ ∃b cs,ι p=.pointer (some ⟨b,0,none⟩)/\kv av w b 0 cs/\bt av w t x cs:=by
 have bd:p<H.length:=gB (by rw[aP];rfl);have bx: ∀i,aE (bY H p .gone) i=if i=p then .gone else aE H i:=λi=>gA H p _ i (Nat.le_of_lt bd)
 have dv:=h.obj p;rw[aP]at dv;obtain ⟨b,cur,c0,v,L,bC,dT,ea,mh,eh,atE,ayC,ayN⟩:=dv;have jK:dG (ι p)=some b:=by rw[L];rfl
 have aei:(aE H p).owns=true:=by rw[aP];rfl
 have e9: ∀i,(aE (bY H p .gone) i).live=(aE H i).live:=λi=>by
  rw[bx];split
  ·rename_i u;subst u;rw[aP];rfl
  ·rfl
 have mY: ∀i,(aE (bY H p .gone) i).owns=true->i≠p/\(aE H i).owns=true:=λi u=>by
  rw[bx]at u;split at u
  ·cases u
  ·rename_i cC;exact ⟨cC,u⟩
 let av:bJ:=λc k=>φ c k\/(c=b/\k<cur.size)
 have Ia: ∀c k,φ c k->av c k:=λc k J=>.inl J
 refine ⟨av,⟨⟨λi=> ?_,λi j c u an s E=>h.apart i j c (mY i u).2 (mY j an).2 s E,?_,λi j an=> ?_,λg=>(h.glob g).mono Ia (λ_ _ _=>rfl)⟩,
  ⟨Ia,λ_ _ _=>rfl,?_,b7 _,rfl,rfl,rfl,λ_ _ _=>rfl,λc ⟨i,s,E⟩=>.inr ⟨i,(mY i s).2,E⟩⟩,e9,ie H p _ bd⟩,b,cur.toList,L,?_,?_⟩
 ·rw[bx];split
  ·trivial
  ·rename_i u;refine (h.obj i).keep Ia (λ_ _ _=>rfl) (λ_=>rfl) (λ_ _=>rfl) λc iy J=>⟨rfl,λk af=> ?_⟩
   rcases af with af |⟨rfl,_⟩
   ·exact af
   ·exact absurd (h.apart i p c iy aei J jK) u
 ·rintro c k (af |⟨rfl,af⟩)
  ·exact h.phi c k af
  ·exact ⟨cur[k],by simp[World.cell?,bC,Array.getElem?_eq_getElem af]⟩
 ·rw[bx]at an;rw[e9];split at an
  ·simp[aF.ids]at an
  ·exact h.ids i j an
 ·rintro c k (af |⟨rfl,_⟩)
  ·exact .inl af
  ·exact .inr (.inr ⟨p,aei,jK⟩)
 ·intro i ad hu;have ye:cur[i]? =some ad:=by simpa using hu
  have u:=(kT.1 ye).1;rw[Nat.zero_add];exact ⟨.inr ⟨rfl,u⟩,by simp[World.cell?,bC,ye]⟩
 ·have:=eh.1;rw[atE]at this;exact bt.mono Ia (λ_ _ _=>rfl) t x _ this
theorem OB: ∀(l m:List K),uW l m=true->l=m
 |[],[],_=>rfl
 |[],_::_,h=>by simp[uW]at h
 |a::l,[],h=>by cases a<;>simp[uW]at h
 |a::l,b::m,h=>by cases a<;>cases b<;>simp only[uW,bN,dJ,Nat.beq_eq,reduceCtorEq]at h;obtain ⟨⟨⟨⟨rfl,rfl⟩,rfl⟩,rfl⟩,h⟩:=h;rw[OB l m h]
theorem ZV {p:Nat} {t:aB} {x:t.den} {I:Nat} {r:K}: ∀(R:bO),(ua p t x R).get I=some r-> ∃Q,R.get I=some Q/\(r=Q\/(Q=.ptr p t 0 []/\r=.fptr t x))
 |[],h=>by simp[ua,bO.get]at h
 |(e,ah)::l,h=>by
  have key: ∀aJ,(ua p t x ((e,ah)::l))=(e,aJ)::ua p t x l->(aJ=ah\/(ah=.ptr p t 0 []/\aJ=.fptr t x))-> ∃Q,bO.get ((e,ah)::l) I=some Q/\(r=Q\/(Q=.ptr p t 0 []/\r=.fptr t x)):=by
   intro aJ s E;rw[s]at h;simp only[bO.get]at h ⊢;cases J:Nat.beq I e
   ·simp only[J,ax]at h ⊢;exact ZV l h
   ·simp only[J,ak,bH]at h ⊢;subst h;exact ⟨ah,rfl,E⟩
  cases ah with
  |ptr dQ iB i q=>
   refine key _ rfl ?_;cases J:Nat.beq p dQ&&decide (t=iB)&&Nat.beq i 0&&q.isEmpty
   ·exact .inl rfl
   ·simp only[bN,dJ,Nat.beq_eq,List.isEmpty_iff]at J;obtain ⟨⟨⟨rfl,rfl⟩,rfl⟩,rfl⟩:=J;exact .inr ⟨rfl,rfl⟩
  |_=>exact key _ rfl (.inl rfl)
theorem aaQ: ∀(l m:List K) (aO:List az),K.relT φ ι w (l++m) aO-> ∃a7 aX,aO=a7++aX/\K.relT φ ι w l a7/\K.relT φ ι w m aX
 |[],m,aO,h=>⟨[],aO,rfl,rfl,h⟩
 |r::l,m,aO,⟨v,c,e,s,E⟩=>by obtain ⟨a7,aX,aa,O,aC⟩:=aaQ l m c E;exact ⟨v::a7,aX,by rw[e,aa];rfl,⟨v,a7,rfl,s,O⟩,aC⟩
theorem DT.val_opt {α β:Type} {o:Option α} {k:α->DT β} {r:β} (h:(DT.opt o k).val=some r): ∃x,o=some x/\(k x).val=some r:=by
 cases o with
 |none=>simp[DT.val]at h
 |some x=>exact ⟨x,rfl,h⟩
theorem DT.val_bif {α:Type} {b:Bool} {x:DT α} {r:α} (h:(bif b then x else .fail).val=some r):b=true/\x.val=some r:=by
 cases b
 ·simp[DT.val]at h
 ·exact ⟨rfl,h⟩
theorem ann [Env] {c:Call} {o:Oper} {a8:bz} (W:o.op=.defer c) (e:(Oy c o st).val=some a8) (d:ds φ ι w nt st a) (jL:nt.df) {ib:Act->bh->Prop} {bD:Exit->Act->bh->Prop}
  (k: ∀bn ao av aH,ds av aH ao nt a8 bn->Step φ ι w st.heap av aH ao a8.heap->ej ι st.heap aH a8.heap->ib bn ao):o.guard=none/\o.wpIn (eX nt.ro) 0 P a w ib bD:=by
 unfold Oy at e;split at e
 ·rename_i f g A B t xs aw fA QK at1 q3;split at e
  ·rename_i P2 lD dc;split at e
   ·rename_i p ad bQ QI;have q:=DT.val_bif e;clear e;obtain ⟨bj,e⟩:=q;split at e
    ·rename_i T iN v D3 dv;have q:=DT.val_bif e;clear e;obtain ⟨bG,e⟩:=q;simp only[bN,dJ,Nat.beq_eq]at bj bG;obtain ⟨⟨rfl,s⟩,E⟩:=bj;obtain ⟨rfl,rfl⟩:=bG;have s:=OB _ _ s;have E:=OB _ _ E;subst E;obtain ⟨nS,ai,aa⟩:=DT.val_opt e;clear e;have au4:v=iN:=by
      by_cases h:v=iN
      ·exact h
      ·simp[aB.cast?,h]at ai
     subst au4;obtain rfl:D3=nS:=by rw[aqo]at ai;exact eW ai
     have a1:=eW aa;clear aa
     ·have e:=a1;clear a1;subst e;refine ⟨at1,?_⟩;obtain ⟨av,gq,fj,cs,i1,i2,i3⟩:=ah4 d.heap dv;have aL:=d.eval f;rw[dc]at aL;obtain ⟨⟨ahf,aW,aZ,CM,CP⟩,gG⟩:=aL;have CM:ahf= #[]:=by cases ahf;simpa [K.relT] using CM
      subst CM;have ha:c.args= #[]:=by cases Cd:c.args;rw[Cd]at fA;simpa using fA
      have eL:(o.semAt (eX nt.ro).round a.eval).run P w=.ok (.defer {target:=.fn (.func g) aW,args:= #[]}) w:=by have:(eX nt.ro).round=none:=jL.1;rw[this,Oper.semAt_none];simp only[execOp,W,resolve,aw,aZ,Deferred.ofValue,ha];simp[go_sem]
      have lg:K.relT φ ι w (A++ .ptr p v 0 []::bQ) aW.toList:=by
       have:lD=A++ .ptr p v 0 []::bQ:=by rw[<-s,<-QI,List.take_append_drop]
       rw[<-this];exact CP
      obtain ⟨a7,aX,L,ah,lE,c3,aa,aJ,bR⟩:=aaQ _ _ _ lg;have atI:lE=.pointer (some ⟨fj,0,none⟩):=by
       obtain ⟨b2,aU,g1,g2,-⟩:=aJ;rw[i1]at g1;rcases g1 with ⟨n,c,g1,-⟩|⟨g1,-,rfl⟩
       ·cases g1
       ·have:fj=b2:=by simpa using g1
        subst this;simpa [aB.offAt] using g2
      refine ⟨λ_ _=>trivial,?_⟩;rw[eL,Oper.uponIn_defer,QK];refine k _ w av ι ⟨gq.rel,λI r al=> ?_,d.nt,d.small,⟨d.defers.1,λaR=>by rw[jL.2.1]at aR;cases aR⟩⟩ gq.step gq.keep;simp only[Act.put];have al:(((ua p v D3 st.regs).put dE (.dfr g A bQ v (D3::xs))).get I)=some r:=al;rw[bO.get_put]at al;by_cases mc:I=dE
      ·subst mc;simp only[if_true,bH]at al;subst al;rw[qJ];have hold:=d.regs dE _ q3;obtain ⟨aO,eB,ab,gE⟩:=K.rel_mono (aH:=ι) gq.step.phi gq.step.cells _ _ (λ_ _=>rfl) hold.1;rw[qJ]at eB;have eB:a.defers.map sg=aO:=by simpa using eB
       refine ⟨⟨.func (.func g) #[] aW::aO,by rw[<-eB];rfl,by simp[ab],λi x ad ai hu=> ?_⟩,λi u=> ?_⟩
       ·cases i with
        |zero=>
         simp only[List.getElem?_cons_zero,bH]at ai hu;subst ai hu;refine ⟨a7,lE,c3,?_,K.relT_mono gq.step.phi gq.step.cells A _ (λ_ _=>rfl) ah,⟨fj,0,cs,atI,i2,i3⟩,K.relT_mono gq.step.phi gq.step.cells bQ _ (λ_ _=>rfl) bR⟩;rw[<-aa,<-L]
        |succ i=>exact gE i x ad (by simpa using ai) (by simpa using hu)
       ·rw[gq.live];exact hold.2 i u
      ·simp only[mc,if_false]at al;obtain ⟨Q,bb,aU⟩:=ZV _ al;have hold:=d.regs I Q bb;have Ii:na {tmps:=a.tmps,defers:={target:=.fn (.func g) aW,args:= #[]}::a.defers} I=na a I:=by rw[iK mc,iK mc]
       rw[Ii];rcases aU with rfl |⟨rfl,rfl⟩
       ·exact ⟨K.rel_mono gq.step.phi gq.step.cells _ _ (λ_ _=>rfl) hold.1,λi u=>by rw[gq.live];exact hold.2 i u⟩
       ·refine ⟨?_,by simp[K.ids]⟩;obtain ⟨b2,aU,g1,g2,-⟩:=hold.1;rw[i1]at g1;rcases g1 with ⟨n,c,g1,-⟩|⟨g1,-,rfl⟩
        ·cases g1
        ·have:fj=b2:=by simpa using g1
         subst this;exact ⟨fj,0,cs,by simpa [aB.offAt] using g2,i2,i3⟩
    ·simp[DT.val]at e
   ·simp[DT.val]at e
  ·simp[DT.val]at e
 ·simp[DT.val]at e
theorem J2 [Env] (tab:cQ P cx) (c1:ca P Γ) {ops:Array Oper} {bD:Exit->Act->bh->Prop}: ∀(l:List Oper) (st a8:bz) (φ:bJ) (ι:Nat->az) (w:bh) (a:Act),(oM cx Γ ops l st).val=some a8->ds φ ι w nt st a->l.all (pT nt.n)=true->(l.any u2=true->nt.df)->
  (∀bn ao av aH,ds av aH ao nt a8 bn->Step φ ι w st.heap av aH ao a8.heap->ej ι st.heap aH a8.heap->bD .normal bn ao)->wpListIn (eX nt.ro) 0 P ops bD l a w
 |[],st,a8,φ,ι,w,a,e,d,al,jL,k=>by simp only[oM,DT.val,bH]at e;subst e;exact k a w φ ι d (Step.refl _ _ _ _) (ej.refl _ _)
 |o::l,st,a8,φ,ι,w,a,e,d,al,jL,k=>by
  simp only[oM]at e;obtain ⟨cn,L,aa⟩:=DT.val_bind_some e;simp only[List.all_cons,bN]at al;have q:if Region.wanted o (yielded ops a.tmps) then o.wpIn (eX nt.ro) 0 P a w (wpListIn (eX nt.ro) 0 P ops bD l) bD else wpListIn (eX nt.ro) 0 P ops bD l (a.put o.dst undef) w:=by
   split at L
   ·rename_i c W;obtain ⟨bu,q⟩:=ann (P:=P) (bD:=bD) W L d (jL (by simp[u2,W])) λbn ao av aH s1 t1 bb=>
     J2 tab c1 l cn a8 av aH ao bn aa s1 al.2 (λh=>jL (by rw[List.any_cons,h];simp)) λa2 de ec ei s2 t2 aU=>k a2 de ec ei s2 (t1.trans t2) (bb.trans aU)
    have hw:Region.wanted o (yielded ops a.tmps)=true:=by simp[Region.wanted,bu]
    rw[if_pos hw];exact q
   ·obtain ⟨⟨eo,m,p⟩,a1,bq⟩:=DT.val_bind_some L;simp only[DT.val,bH]at bq;subst bq;exact MU (bD:=bD) tab c1 a1 d (Om _ _) al.1 λbn ao av aH s1 t1 bb c8=>
     J2 tab c1 l eo a8 av aH ao bn aa s1 al.2 (λh=>jL (by rw[List.any_cons,h];simp)) λa2 de ec ei s2 t2 aU=>k a2 de ec ei s2 (t1.trans t2) (bb.trans aU)
  unfold wpListIn;split
  ·rename_i h;rw[if_pos h]at q;exact q
  ·rename_i h;rw[if_neg h]at q;exact ⟨λ_ _=>trivial,q⟩
end
end Go.X
