import Derived.Test.YtmmmpanpbphkdaaGreatDoorXA
import Derived.Great.FillDense
import Derived.Laws.Tables
import Derived.ChangeMaps3
import Derived.Laws.BytesArg
import Derived.Lib.AppendZeros
import Derived.Lib.AppendZerosOnto
import Derived.Lib.ConvBytes
import Derived.OrdersIn
import Derived.TacticsIn
import Derived.LoopNIn
import Derived.RangeFuncLeaves
import Derived.RangeFuncRecord
import Derived.RangeFuncSeq
import Derived.Tactics
set_option linter.unusedVariables false
set_option linter.unusedSimpArgs false
namespace Go.X
open Go.RowKit
section
variable {P:cA} {cx:cm} {φ:bP} {ι aJ:Nat->aA} {w aq:bm} {J:List aH} {n:Nat} {r:K} {aB:List aH} {aE:Nat}
theorem ack {place:Nat->Option (Nat×Nat)} {cells:Array aA} {i:Nat} {v:aA} {rest:List (Nat×aA)} {off size:Nat} (aT:place i=some (off,size)) (a8:v.cells.size=size) (ab:off+size<=cells.size):
  Instr.fill place cells ((i,v)::rest)=Instr.fill place (cells.toList.take off++v.cells.toList++cells.toList.drop (off+size)).toArray rest:=by
 rw[Instr.fill,aT];have q: ¬(v.cells.size≠size||decide (off+v.cells.size>cells.size))=true:=by simp;omega
 simp only[q,Bool.false_eq_true,if_false];congr 1;rw[<-Array.foldl_toList];apply Array.ext_getElem?;intro k;have:=(Great.foldl_set off v.cells.toList 0 cells).2 k;simp only[Array.toList_zipIdx]at this ⊢;rw[this];simp only[Nat.add_zero,iz,List.getElem?_toArray];by_cases ag:off<=k/\k<off+v.cells.size/\k<cells.size
 ·rw[if_pos ag];rw[List.append_assoc,List.getElem?_append_right (by simp;omega),List.getElem?_append_left (by simp;omega)];congr 1;simp;omega
 ·rw[if_neg ag];rcases Nat.lt_or_ge k off with G |G
  ·rw[List.append_assoc,List.getElem?_append_left (by simp;omega),List.getElem?_take];simp[G]
  ·rw[List.getElem?_append_right (by simp;omega),List.getElem?_drop];simp only[et,eE,iz];rcases Nat.lt_or_ge k cells.size with W |W
   ·rw[show off+size+(k-(min off cells.size+v.cells.size))=k by omega];simp
   ·rw[Array.getElem?_eq_none W]
    symm
    rw[List.getElem?_eq_none];simp;omega
theorem acp (z:Array aA) (d:Nat) (af:z.size=d) (bW:0<d): ∀m,((List.range (m*d)).map λi=>z[i%d]!)=(List.replicate m z.toList).flatten
 |0=>aU
 |m+1=>by
  rw[show (m+1)*d=d+m*d by rw[Nat.add_mul];omega,List.range_add,List.map_append,List.map_map,List.replicate_succ,List.flatten_cons,<-acp z d af bW m];congr 1
  ·apply List.ext_getElem
   ·simp[af]
   ·intro i q G;have E:i<d:=by simpa using q
    simp[Nat.mod_eq_of_lt E,af,E]
  ·apply List.map_congr_left;intro i _;simp
theorem tF {e:bs} {t:az} {bytes:Nat} (h:sP P e t bytes) (m:Nat): ∃z,(∀w,(zeroValue e).run P w=.ok z w)/\z.cells.size=t.size/\0<t.size/\
  ∀φ w,c4 (bA φ w t) (List.replicate m t.zero) ((Array.range (m*t.size)).map λi=>z.cells[i%z.cells.size]!).toList:=by
 obtain ⟨dQ,z,q,G,W,_,aC,bd,bD,dU⟩:=h;have kK:z.cells.size=t.size:=by simpa using bD
 refine ⟨z,λw=>by simp[zeroValue,typeInfo,q,aC],kK,bd,fun φ w=> ?_⟩;have:((Array.range (m*t.size)).map λi=>z.cells[i%z.cells.size]!).toList=(List.replicate m z.cells.toList).flatten:=by rw[Array.toList_map,Array.toList_range,kK];exact acp z.cells t.size kK bd m
 rw[this];exact c4.replicate (dU φ w) m
theorem c4.one {φ:bP} {w:bm} {t:az} {xs:List t.den} {cs:List aA} (h:c4 (bA φ w t) xs cs): ∀v∈cs,v.oneCell'=true:=by
 induction xs generalizing cs with
 |nil=>simp only[c4]at h;subst h;simp
 |cons x xs aO=>
  obtain ⟨bj,ba,rfl,q,G⟩:=h;intro v a8;rcases dn.1 a8 with a8 |a8
  ·exact bA.one t _ _ q v a8
  ·exact aO G v a8
theorem Cells.of_chunks {φ:bP} {w:bm} {t:az} {cur:Array aA} {eO:List t.den} (h:c4 (bA φ w t) eO cur.toList) (n:Nat):Cells φ w t n cur:=
 ⟨h.one,.inr ⟨_,h.drop (λx c=>bA.len t x c) n⟩⟩
theorem uT [Env] (h:ck φ ι w J) {e:bs} {t:az} {xs:List t.den} {cur:Array aA} {c b:Nat} {c7:Nat×Nat} (g:ig w aq) (L:aq.heap[b]? =some (.cells cur e c7)) (ae2:w.heap.size<=b) (an:xs.length<=c) (au:c<=maxLen)
  (af:cur.size=c*t.size) (aM:yf t c7 cur.size) (q:Cells φ aq t xs.length cur) (ag:c4 (bA φ aq t) xs (cur.toList.take (xs.length*t.size))) (aN:n<=J.length) (h5:(aG J n).live=false):
  cL φ ι w J n (.own t n) (cc J n (.arr e t xs false)) (n+1) (.ok (.slice (some ⟨b,0,none⟩) xs.length c) aq):=by
 have lU: ∀k,¬φ b k:=λk ag=>by have:=qr h ag;omega
 obtain ⟨bf,a6,cq,ef⟩:=BJ (v:=.slice (some ⟨b,0,none⟩) xs.length c) (dh:=.arr e t xs false) h aN h5 g
  ⟨some ⟨b,0,none⟩,xs.length,c,by simp[ej],rfl,an,au,.inr ⟨b,#[],cur,c7,rfl,by simpa using L,af,by simpa using aM,aU,q,ag,λk ag=>absurd ag (lU k),λbK=>by cases bK⟩⟩ (by simp[aH.ids]) rfl
  (λbZ h4=>by
   simp only[dN]at h4;split at h4
   ·cases h4
   ·injection h4 with h4;omega)
 refine ⟨_,_,φ,_,rfl,bf,a6,cq,ef,uM ⟨by simp[ej],_,_,_,rfl⟩,?_⟩;intro i E;have:i=n:=by simpa [K.ids] using E
 subst this;rw[gO J i _ i aN,if_pos rfl];rfl
theorem U9 [Env] (h:ck φ ι w J) {e:bs} {t:az} {A:Option Addr} (aN:n<=J.length) (h5:(aG J n).live=false):
  cL φ ι w J n (.own t n) (cc J n (.arr e t [] false)) (n+1) (.ok (.slice A 0 0) w):=by
 obtain ⟨bf,a6,cq,ef⟩:=BJ (v:=.slice A 0 0) (dh:=.arr e t [] false) (aq:=w) h aN h5 ⟨rfl,rfl,rfl,ca _,λ_ _=>rfl⟩
  ⟨A,0,0,by simp[ej],rfl,ca _,aU,.inl rfl⟩ (by simp[aH.ids]) rfl (λbZ h4=>by cases A<;>simp[dN]at h4)
 refine ⟨_,_,φ,_,rfl,bf,a6,cq,ef,uM ⟨by simp[ej],_,_,_,rfl⟩,?_⟩;intro i E;have:i=n:=by simpa [K.ids] using E
 subst this;rw[gO J i _ i aN,if_pos rfl];rfl
theorem cL.after [Env] {dF:bP} {H1:List aH} {run:Result aA} (g:ff φ ι w J dF H1) (y:cL dF ι w H1 n r aB aE run):cL φ ι w J n r aB aE run:=by obtain ⟨v,aq,ax,aJ,bf,a6,cq,ef,gS,iv,rC⟩:=y;exact ⟨v,aq,ax,aJ,bf,a6,g.step.trans cq,g.keep.trans ef,(g.nx n).trans gS,iv,rC⟩
theorem PS {x:Int} (bW: -9223372036854775808<=x) (q:x<9223372036854775808):IntKind.i64.wrap x=x:=by
 have M:IntKind.i64.bits=64:=rfl;have V:IntKind.i64.signed=true:=rfl;simp only[IntKind.wrap,M,V,Bool.true_and];have aY:(2:Int)^64=18446744073709551616:=fc;have bp:(2:Int)^(64-1)=9223372036854775808:=fc;rw[aY,bp];split
 ·rename_i h;simp only[dS]at h;omega
 ·rename_i h;simp only[dS]at h;omega
theorem ani [Env] (tab:cT P cx) {T:bs} {a b:Int} {agV agW:IntKind} (e:(ND cx T a b).go J n=some (r,aB,aE)) (h:ck φ ι w J) (eg:jj J n aE):
  cL φ ι w J n r aB aE ((Instr.makeSlice T (.int agV a) (.int agW b)).run P w):=by
 unfold ND at e;split at e
 ·rename_i i E;split at e
  ·rename_i t aX;have s:=go_chk2 e;clear e;obtain ⟨L,e⟩:=s;simp only[bQ,dS]at L;obtain ⟨⟨bW,q⟩,G⟩:=L;simp only[HM.go,bM,c0]at e;obtain ⟨rfl,rfl,rfl⟩:=e;obtain ⟨ao,gE⟩:=kL tab E aX;obtain ⟨z,bK,Df,afL,nF⟩:=tF gE b.toNat;obtain ⟨dQ,mI,g1,g2,g3,g4,_⟩:=gE;have hbound:b.toNat*i.bytes<=bC:=by
    have:((b.toNat*i.bytes:Nat):Int)<=(bC:Int):=by rw[Int.natCast_mul,Int.toNat_of_nonneg u];exact G
    omega
   have az1:b.toNat<=bC:=Nat.le_trans (Nat.le_mul_of_pos_right _ g4) hbound;have vB:bC=140737488355328:=rfl;have azj:IntKind.i64.wrap a=a:=PS u u;have ix:IntKind.i64.wrap b=b:=PS u u;have hmul:(i.bytes:Int)*b<=281474976710656:=by have:(i.bytes:Int)*b=b*i.bytes:=Int.mul_comm _ _;omega
   have avK: ∀x:Int,0<=x->x<=b->(decide (x<0)||decide ((i.bytes:Int)*x>2^48))=false:=by intro x Da oI;have:(i.bytes:Int)*x<=(i.bytes:Int)*b:=Int.mul_le_mul_of_nonneg_left oI u;simp only[Bool.or_eq_false_iff,decide_eq_false_iff_not];omega
   have eW:(Instr.makeSlice T (.int agV a) (.int agW b)).run P w=.ok (.slice (some ⟨w.heap.size,0,none⟩) a.toNat b.toNat) (w.alloc (.cells ((Array.range (b.toNat*t.size)).map λi=>z.cells[i%z.cells.size]!) i.elem)):=by
    unfold Instr.makeSlice;have m0:=avK b u (Int.le_refl _);have eb:=y0 (P:=P) (w:=w) (kL tab E aX).2;have fu:(typeInfo i.elem).run P w=.ok dQ w:=by simp[typeInfo,g1]
    have il: ¬(a<0):=u;have auA: ¬(a>b):=u;have qb: ¬(b.toNat*i.bytes>roomBytes):=by unfold roomBytes;omega
    simp only[Sem.run_bind,run_underlying ao,Result.andThen_ok,asInt,asIntOf,Sem.run_pure,fu,g3,azj,ix,m0,il,auA,decide_false,Bool.or_false,Bool.false_eq_true,if_false,askRoom,qb,eb];by_cases yE:b.toNat*t.size=0
    ·have IZ:Array.range 0= #[]:=rfl;simp[yE,newRow,IZ]
    ·simp[yE,newRow,bK]
   rw[eW];have nN:(List.replicate a.toNat t.zero).length=a.toNat:=List.length_replicate;have:=uT (φ:=φ) (ι:=ι) (n:=n) h (e:=i.elem) (t:=t) (xs:=List.replicate a.toNat t.zero) (cur:=(Array.range (b.toNat*t.size)).map λi=>z.cells[i%z.cells.size]!) (c:=b.toNat) (b:=w.heap.size) (c7:=(0,0)) (ig.alloc w _)
    (heap_alloc_new w _) (ca _) (by rw[nN];omega) (by simp only[maxLen];omega) aU (uC _ _) (Cells.of_chunks (nF φ _) _) (by
     rw[nN];have q:=(nF φ (w.alloc (.cells ((Array.range (b.toNat*t.size)).map λi=>z.cells[i%z.cells.size]!) i.elem))).take (λx c=>bA.len t x c) a.toNat
     rwa [List.take_replicate,Nat.min_eq_left u]at q) eg.1 (eg.2 n (ca _) u)
   rwa [nN]at this
  ·simp[HM.go]at e
 ·simp[HM.go]at e
end
open Go.RowKit
section
variable {P:cA} {cx:cm} {φ:bP} {ι aJ:Nat->aA} {w aq:bm} {J:List aH} {n:Nat} {r:K} {aB:List aH} {aE:Nat}
theorem Pu: ∀(l:List K) (t:az) (cs:List aA) (j:Nat) (ae:az) (x:K) (v:aA),K.relL φ ι w l cs->K.fitsL l t=true->t.nth j=some ae->x.rel φ ι w v->x.fits ae=true->
  K.relL φ ι w (l.set j x) (cs.take (t.offs j)++v.cells.toList++cs.drop (t.offs j+ae.size))/\K.fitsL (l.set j x) t=true
 |[],t,cs,j,ae,x,v,h,aM,aN,an,hu=>by
  have e:t=.unit:=by simpa [K.fitsL] using aM
  subst e;cases j<;>simp[az.nth]at aN
 |r::l,t,cs,j,ae,x,v,⟨v0,ba,e,q,G⟩,aM,aN,an,hu=>by
  subst e;cases t with
  |pair a b=>
   simp only[K.fitsL,bQ]at aM;have hlen:v0.cells.toList.length=a.size:=by rw[<-(K.rel_fits r a v0 q aM.1).1];simp
   cases j with
   |zero=>
    simp only[az.nth,bM]at aN;subst aN;refine ⟨⟨v,ba,?_,an,G⟩,?_⟩
    ·simp only[az.offs,List.take_zero,List.nil_append,Nat.zero_add];rw[<-hlen,List.drop_left]
    ·simp[K.fitsL,hu,aM.2]
   |succ j=>
    obtain ⟨bf,a6⟩:=Pu l b ba j ae x v G aM.2 (by simpa [az.nth] using aN) an hu;refine ⟨⟨v0,_,?_,q,bf⟩,?_⟩
    ·simp only[az.offs];rw[<-hlen,List.take_length_add_append,Nat.add_assoc,<-List.drop_drop,List.drop_left];simp
    ·simp[K.fitsL,aM.1,a6]
  |_=>simp[K.fitsL]at aM
theorem ado (l:List K) (j:Nat) (x:K): ∀i∈K.idsL (l.set j x),i∈K.idsL l\/i∈x.ids:=by
 induction l generalizing j with
 |nil=>intro i E;simp[K.idsL]at E
 |cons a l aO=>
  cases j with
  |zero=>
   intro i E;simp only[List.set_cons_zero,K.idsL,dn]at E ⊢;rcases E with E |E
   ·exact .inr E
   ·exact .inl (.inr E)
  |succ j=>
   intro i E;simp only[List.set_cons_succ,K.idsL,dn]at E ⊢;rcases E with E |E
   ·exact .inl (.inl E)
   ·rcases aO j i E with h |h
    ·exact .inl (.inr h)
    ·exact .inr h
def qA (φ:bP) (ι:Nat->aA) (w:bm) (J:List aH):List (Nat×K)->List (Nat×aA)->Prop
 |[],[]=>True
 |(i,x)::l,(j,v)::m=>i=j/\x.rel φ ι w v/\(∀k∈x.ids,(aG J k).live=true)/\qA φ ι w J l m
 |_,_=>False
theorem qA.ghost [Env] {ax:bP} (g:ff φ ι w J ax aB): ∀{l:List (Nat×K)} {m:List (Nat×aA)},qA φ ι w J l m->qA ax ι w aB l m
 |[],[],_=>trivial
 |(i,x)::l,(j,v)::m,⟨q,G,W,aC⟩=>⟨q,K.rel_step g.step g.keep W G,λk ag=>by rw[g.live];exact W k ag,aC.ghost g⟩
 |[],_::_,h=>h.elim
 |_::_,[],h=>h.elim
theorem Hh {l:List K} {v:aA} (h: ∃cs,v=.agg cs/\K.relL φ ι w l cs.toList):(K.agg l).rel φ ι w v:=h
theorem ac8 [Env] {i:gq} {place:Nat->Option (Nat×Nat)} (aT: ∀j U ae,i.fields[j]? =some U->i.ty.nth j=some ae->place j=some (i.ty.offs j,ae.size)):
  ∀(parts:List (Nat×K)) (aI:List (Nat×aA)) (φ:bP) (l:List K) (cells:Array aA) (J:List aH) (n:Nat) (r:K) (aB:List aH) (aE:Nat),(A6.go cx i l parts).go J n=some (r,aB,aE)->ck φ ι w J->
  K.relL φ ι w l cells.toList->K.fitsL l i.ty=true->(∀k∈K.idsL l,(aG J k).live=true)->qA φ ι w J parts aI->
  aE=n/\ ∃ax mf fG,ff φ ι w J ax aB/\Instr.fill place cells aI=some mf/\r=.agg fG/\K.relL ax ι w fG mf.toList/\K.fitsL fG i.ty=true/\ ∀k∈K.idsL fG,(aG aB k).live=true
 |[],[],φ,l,cells,J,n,r,aB,aE,e,h,ad,aM,hid,_=>by obtain ⟨rfl,rfl,rfl⟩:=go_ret e;exact ⟨rfl,φ,cells,l,ff.refl h,rfl,rfl,ad,aM,hid⟩
 |[],_::_,_,_,_,_,_,_,_,_,_,_,_,_,_,ab=>ab.elim
 |_::_,[],_,_,_,_,_,_,_,_,_,_,_,_,_,ab=>ab.elim
 |(j,x)::parts,(gh,v)::aI,φ,l,cells,J,n,r,aB,aE,e,h,ad,aM,hid,⟨al,an,mq,ab⟩=>by
  subst al;unfold A6.go at e;split at e
  ·rename_i U ae jq hu;obtain ⟨y,H1,cG,M,V⟩:=HM.go_bind_some e;clear e;obtain ⟨rfl,dF,g1,bu,tl⟩:=NS M h (xo (cx:=cx) (T:=U) an) (λk ag=>mq k (xn k ag));have s:=go_bif V;clear V;obtain ⟨s5,V⟩:=s;have ys:K.relL dF ι w l cells.toList:=K.relL_mono g1.step.phi g1.step.cells l _ (λ_ _=>rfl) ad;obtain ⟨bf,a6⟩:=Pu l i.ty cells.toList j ae y v ys aM hu bu s5;have hlen:cells.toList.length=i.ty.size:=(K.relL_fits l i.ty _ ad aM).1;have yw:=GU hu;have eN:=(K.rel_fits y ae v bu s5).1;have qd:=ack (rest:=aI) (aT j U ae jq hu) eN (show i.ty.offs j+ae.size<=cells.size by rw[<-iz,hlen];exact yw);obtain ⟨aN,ax,mf,fG,g2,p4,ar,ra,afa,Rz⟩:=ac8 aT parts aI dF (l.set j y) (cells.toList.take (i.ty.offs j)++v.cells.toList++cells.toList.drop (i.ty.offs j+ae.size)).toArray H1 cG r aB aE V g1.rel (by simpa using bf) a6
    (λk ag=>by
     rcases ado l j y k ag with q |q
     ·rw[g1.live];exact hid k q
     ·exact tl k q) (ab.ghost g1)
   exact ⟨aN,ax,mf,fG,g1.trans g2,by rw[qd];exact p4,ar,ra,afa,Rz⟩
  ·simp[HM.go]at e
theorem ao7 [Env] (tab:cT P cx) {T:bs} {parts:List (Nat×K)} (e:(A6 cx T parts).go J n=some (r,aB,aE)) (h:ck φ ι w J) {aI:Array (Nat×aA)} (ab:qA φ ι w J parts aI.toList):
  cL φ ι w J n r aB aE ((Instr.build T aI).run P w):=by
 unfold A6 at e;split at e
 ·rename_i i l E bK;obtain ⟨ru,z,dO,eW,Df,I7,awJ,awK,awN⟩:=ab2 tab bK ⟨i,E⟩;rw[E]at dO;injection dO with dO
  subst dO;obtain ⟨info,CO,_,awL⟩:=(tab T i E).info;obtain ⟨mI,Sc,_⟩:=awL _ bK;have vH:z=mI:=by have:=eW w;simp[zeroValue,typeInfo,CO,Sc]at this;exact this.symm
  subst vH;obtain ⟨cs,rfl,my⟩:=awN φ ι w;have jI:i.ty.isAgg=true:=I7.symm;obtain ⟨place,aT,au2⟩: ∃place:Nat->Option (Nat×Nat),(∀j U ae,i.fields[j]? =some U->i.ty.nth j=some ae->place j=some (i.ty.offs j,ae.size))/\P.built T aI.toList=Instr.fill place cs aI.toList:=by
   have ao:=(tab T i E).desc;unfold la at ao;split at ao
   ·rename_i e;rw[e]at jI;cases jI
   ·rename_i e;rw[e]at jI;cases jI
   ·rename_i e;rw[e]at jI;cases jI
   ·rename_i e;rw[e]at jI;cases jI
   ·rename_i e;rw[e]at jI;cases jI
   ·rcases ao with ⟨_,dz,ao,af,ag⟩|⟨_,m,ch,dQ,ao,hm,he,ag⟩
    ·have aww:=Go.ChangeMaps.mapM_total (f:=λ(f:Field)=>(P.info? f.type).map λi=>(f.offset,i.size)) (0,0) (l:=dz.toList) (by
      intro fd m3;obtain ⟨k,kN,ku⟩:=List.getElem_of_mem m3;have m5:k<i.fields.length:=by rw[<-af];simpa using kN
      obtain ⟨aex,q,G,_,j,al,_,_⟩:=ag k _ (hx m5);have W:aex=fd:=by
       have avG:k<dz.size:=by simpa using kN
       rw[Array.getElem?_eq_getElem avG]at q;injection q with q
       rw[<-q,<-ku];simp
      subst W;obtain ⟨af1,iE,_⟩:=(tab _ j al).info;rw[G,iE];exact ⟨_,rfl⟩)
     refine ⟨λx=>((dz.toList.map λx=>(((P.info? x.type).map λi=>(x.offset,i.size)).getD (0,0))).toArray)[x]?,?_,?_⟩
     ·intro j U ae jq hu;obtain ⟨fd,q,G,W,gh,iF,aC,bd⟩:=ag j U jq;rw[hu]at aC;injection aC with aC
      subst aC;obtain ⟨af1,iE,e3,_⟩:=(tab _ gh iF).info;have dt:dz.toList[j]? =some fd:=by simpa using q
      simp[q,G,iE,e3,W]
     ·unfold Program.built;rw[CO,ao];simp only[Sc,aww];rfl
    ·refine ⟨λi=>some (i*dQ.size,dQ.size),?_,?_⟩
     ·intro j U ae jq hu;obtain ⟨q,G,gh,iF,aC,bd⟩:=ag j U jq;rw[hu]at aC;injection aC with aC
      subst aC;obtain ⟨af1,iE,e3,_⟩:=(tab _ gh iF).info;rw[q,he]at iE;injection iE with iE
      subst iE;simp[<-G,e3]
     ·unfold Program.built;rw[CO,ao];simp only[Sc,he];rfl
  obtain ⟨aN,ax,mf,fG,g,p4,rfl,ra,afa,Rz⟩:=ac8 (cx:=cx) aT parts aI.toList φ l cs J n r aB aE e h my (by simpa [K.fits] using awJ) (by
   have:K.idsL l=[]:=by simpa [K.ids] using awK
   rw[this];simp) ab
  subst aN;exact cL.ghost g (Hh ⟨mf,rfl,ra⟩) (by simpa [K.ids] using Rz) (run_build w T aI mf (by rw[au2,p4]))
 ·simp[HM.go]at e
end
open Go.RowKit
section
variable {P:cA} {cx:cm} {φ ax:bP} {ι aJ:Nat->aA} {w aq:bm} {J:List aH} {n:Nat} {r:K} {aB:List aH} {aE:Nat}
theorem xw [Env] (h:ck φ ι w J) {o:Nat} (ab:(aG J o).owns=true) (aN:n<=J.length) (h5:(aG J n).live=false) {v:aA} {dh:aH} (oH:dh.owns=true) (fs:dh.ids=[])
  (av6:aq.os=w.os) (awt:aq.tape=w.tape) (RR:aq.output=w.output) (awn:w.heap.size<=aq.heap.size) (ae1: ∀b,b<w.heap.size->dN (ι o)≠some b->aq.heap[b]? =w.heap[b]?)
  (aT: ∀b k,φ b k->ax b k) (au: ∀b k,φ b k->aq.cell? ⟨b,k,none⟩=w.cell? ⟨b,k,none⟩) (re: ∀b k,ax b k->φ b k\/(dN v=some b/\ ∃ae,aq.cell? ⟨b,k,none⟩=some ae))
  (a8: ∀b,dN v=some b->w.heap.size<=b\/dN (ι o)=some b) (dC:jE ax (ej ι n v) aq n dh):
  ck ax (ej ι n v) aq (cc (cc J o .gone) n dh)/\Step φ ι w J ax (ej ι n v) aq (cc (cc J o .gone) n dh)/\eo ι J (ej ι n v) (cc (cc J o .gone) n dh)/\iW J n (cc (cc J o .gone) n dh) (n+1):=by
 have ft: ∀i,(aG J i).owns=true->(aG J i).live=true:=λi ab=>by cases dC:aG J i<;>rw[dC]at ab<;>first |rfl |(cases ab)
 have bw:=gP (ft o ab);have ct: ∀i,(aG J i).live=true->i≠n:=λi E e=>by subst e;rw[h5]at E;cases E
 have av4:o≠n:=ct o (ft o ab);have bR: ∀i,aG (cc (cc J o .gone) n dh) i=if i=n then dh else if i=o then .gone else aG J i:=λi=>by
  rw[gO _ n dh i (by rw[ik J o _ bw];exact aN)];split
  ·rfl
  ·rw[gO J o _ i (Nat.le_of_lt bw)]
 have E: ∀i,(aG J i).live=true->ej ι n v i=ι i:=λi E=>by simp[ej,ct i E]
 have gF:dh.live=true:=by cases dh<;>first |rfl |(cases oH)
 have ad: ∀i,(aG J i).live=true->(aG (cc (cc J o .gone) n dh) i).live=true:=λi h=>by
  rw[bR,if_neg (ct i h)];split
  ·rfl
  ·exact h
 have Rp:(ej ι n v) n=v:=by simp[ej]
 have RQ: ∀i b,i≠n->i≠o->(aG J i).owns=true->dN (ι i)=some b->dN v≠some b/\b<w.heap.size/\dN (ι o)≠some b:=by
  intro i b q G W aC;have L:=uG h W aC;have bd:dN (ι o)≠some b:=λe=>G (h.apart i o b W ab aC e)
  exact ⟨λe=>by
            rcases a8 b e with bD |bD
            ·omega
            ·exact bd bD,L,bd⟩
 refine ⟨⟨λi=> ?_,λi j b jt lk q G=> ?_,λb k L=> ?_,λi j al=> ?_,λg=>(h.glob g).mono aT au⟩,⟨aT,au,λb k L=> ?_,awn,av6,awt,RR,λb L ka=>ae1 b L (λe=>ka ⟨o,ab,e⟩),λb L=> ?_⟩,⟨E,ad⟩,?_⟩
 ·rw[bR];split
  ·rename_i e;subst e;exact dC
  ·rename_i q;split
   ·trivial
   ·rename_i G;refine (h.obj i).keep aT au (E i) (λj al=>E j (h.ids i j al)) λb iG L=> ?_
    ·obtain ⟨bf,a6,cq⟩:=RQ i b q G iG L;refine ⟨ae1 b a6 cq,λk ag=> ?_⟩;rcases re b k ag with W |W
     ·exact W
     ·exact absurd W.1 bf
 ·rw[bR]at jt lk;by_cases W:i=n
  ·by_cases aC:j=n
   ·rw[W,aC]
   ·rw[if_neg aC]at lk;split at lk
    ·cases lk
    ·rename_i bd;subst W;rw[Rp]at q;rw[E j (ft j lk)]at G;exact absurd q (RQ j b aC bd lk G).1
  ·rw[if_neg W]at jt;split at jt
   ·cases jt
   ·rename_i bd;rw[E i (ft i jt)]at q;by_cases aC:j=n
    ·subst aC;rw[Rp]at G;exact absurd G (RQ i b W bd jt q).1
    ·rw[if_neg aC]at lk;split at lk
     ·cases lk
     ·rw[E j (ft j lk)]at G;exact h.apart i j b jt lk q G
 ·rcases re b k L with q |q
  ·rw[au b k q];exact h.phi b k q
  ·exact q.2
 ·rw[bR]at al;split at al
  ·rw[fs]at al;simp at al
  ·split at al
   ·simp[aH.ids]at al
   ·exact ad j (h.ids i j al)
 ·rcases re b k L with q |q
  ·exact .inl q
  ·rcases a8 b q.1 with G |G
   ·exact .inr (.inl G)
   ·exact .inr (.inr ⟨o,ab,G⟩)
 ·obtain ⟨i,q,G⟩:=L;rw[bR]at q;split at q
  ·rename_i e;subst e;rw[Rp]at G;rcases a8 b G with W |W
   ·exact .inl W
   ·exact .inr ⟨o,ab,W⟩
  ·split at q
   ·cases q
   ·rw[E i (ft i q)]at G;exact .inr ⟨i,q,G⟩
 ·have im:=ik J o .gone bw;refine ⟨u,?_,λh=> ?_,λi E=> ?_,λh=> ?_⟩
  ·rcases Nat.lt_or_ge n J.length with q |q
   ·rw[ik _ n dh (by rw[im];exact q),im];exact ca _
   ·have:n=(cc J o .gone).length:=u;rw[this,tI];omega
  ·rcases Nat.lt_or_ge n J.length with q |q
   ·rw[ik _ n dh (by rw[im];exact q),im];exact q
   ·have:n=(cc J o .gone).length:=u;rw[this,tI];exact ca _
  ·rw[bR,if_neg u];split
   ·rename_i e;subst e;rw[ft i ab];rfl
   ·rfl
  ·have:n=(cc J o .gone).length:=u;rw[this,tI]
structure xA (P:cA) (φ:bP) (w:bm) (t:az) (a1:List t.den) (x:aA) (news:List aA):Prop where
 len: ∀w,(Builtin.lenOf x).run P w=.ok a1.length w
 chunks:c4 (bA φ w t) a1 news
 cells: ∀aq,ig w aq->(Builtin.firstCells t.size a1.length x).run P aq=.ok news.toArray aq
structure Hq (P:cA) (T dY e:bs) (t:az) (bytes:Nat):Prop where
 dst:P.underlying T=some (.slice e)
 src: ∃I,P.underlying dY=some I/\ ∀k,I≠ .int k
 el:sP P e t bytes
theorem ig.refl (w:bm):ig w w:=⟨rfl,rfl,rfl,ca _,λ_ _=>rfl⟩
theorem ig.drew (w:bm):ig w w.drew:=⟨rfl,rfl,rfl,ca _,λ_ _=>rfl⟩
theorem DB {T dY ty e:bs} {t:az} {bytes:Nat} (aX:Hq P T dY e t bytes) {A:Option Addr} {m c:Nat} {x:aA} {a1:List t.den} {news:List aA} (af:xA P φ w t a1 x news) (ar:m+a1.length<=c)
  {aq:bm} (gG: ∀a,A=some a->(storeCells (a.add (m*t.size)) news).run P w=.ok () aq) (mr:A=none->aq=w):
  (Builtin.append_ #[T,dY] ty #[.slice A m c,x]).run P w=.ok (.slice A (m+a1.length) c) aq:=by
 obtain ⟨I,ao,ag⟩:=aX.src;have bK:(match I with | .int _=>true |_=>false)=false:=by cases I<;>first |rfl |(exact absurd rfl (ag _))
 have q:=y0 (w:=w) aX.el;have G:=af.cells w (ig.refl w);unfold Builtin.append_;simp only[List.getElem?_toArray,List.getElem?_cons_zero,List.getElem?_cons_succ,Sem.run_bind,run_underlying aX.dst,run_underlying ao,Result.andThen_ok,q,Sem.run_pure,bK,Bool.false_eq_true,if_false,af.len,ar,if_true,cH,G];cases A with
 |none=>simp[mr rfl]
 |some a=>simp[gG a rfl]
theorem TC {T dY ty e:bs} {t:az} {bytes:Nat} (aX:Hq P T dY e t bytes) {A:Option Addr} {m c:Nat} {x:aA} {a1:List t.den} {news gv:List aA} (af:xA P φ w t a1 x news) (ar:c<m+a1.length)
  (hold:(Builtin.firstCells t.size m (.slice A m c)).run P w.drew=.ok gv.toArray w.drew) (L:(m+a1.length)*bytes<=bC):
  ∃eF eO,m+a1.length<=eF/\eF<=maxLen/\eO.size=(eF-(m+a1.length))*t.size/\(∃us:List t.den,∀φ w,c4 (bA φ w t) us eO.toList)/\
  (Builtin.append_ #[T,dY] ty #[.slice A m c,x]).run P w=.ok (.slice (some ⟨w.heap.size,0,none⟩) (m+a1.length) eF) (w.drew.alloc (.cells (gv.toArray++news.toArray++eO) e)):=by
 obtain ⟨I,ao,ag⟩:=aX.src;have bK:(match I with | .int _=>true |_=>false)=false:=by cases I<;>first |rfl |(exact absurd rfl (ag _))
 have q:=y0 (w:=w) aX.el;have G:=af.cells w.drew (ig.drew w);obtain ⟨dQ,z,g1,g2,g3,g4,g5,g6,g7,g8⟩:=aX.el;have vB:bC=140737488355328:=rfl;have eG:m+a1.length<=bC:=Nat.le_trans (Nat.le_mul_of_pos_right _ g4) L;have s5:=growslice_fits (bytes:=bytes) ar u;have aN: ¬(m+a1.length<=c):=u;have azX: ¬(((m+a1.length:Nat):Int)>IntKind.i64.max/\((false=true)\/bytes=0)):=by
  rintro ⟨_,h |h⟩
  ·cases h
  ·omega
 have auC: ¬(Builtin.nextslicecap (m+a1.length) c*bytes>2^48):=u;have fu: ∀w,(typeInfo e).run P w=.ok dQ w:=λw=>by simp[typeInfo,g1]
 have afU: ∀w,(zeroValue e).run P w=.ok z w:=λw=>by simp[zeroValue,typeInfo,g1,g5]
 have De:z.cells.size=t.size:=by simpa using g7
 refine ⟨grownCap w (m+a1.length) c e,Builtin.zeroCells z.cells (grownCap w (m+a1.length) c e-(m+a1.length)),grownCap_ge w _ _ _,grownCap_le_maxLen w _ _ _ (by simp only[maxLen];omega),by rw[size_zeroCells,De],?_,?_⟩
 ·obtain ⟨mI,bf,a6,cq,ef⟩:=tF (P:=P) (bytes:=bytes) ⟨dQ,z,g1,g2,g3,g4,g5,g6,g7,g8⟩ (grownCap w (m+a1.length) c e-(m+a1.length));have vH:mI=z:=by
   have M:=bf w;rw[afU]at M;injection M with M _
   exact M.symm
  subst vH;refine ⟨List.replicate (grownCap w (m+a1.length) c e-(m+a1.length)) t.zero,fun φ w=> ?_⟩;have:=ef φ w;rw[<-De]at this;exact this
 ·unfold Builtin.append_;simp only[List.getElem?_toArray,List.getElem?_cons_zero,List.getElem?_cons_succ,Sem.run_bind,run_underlying aX.dst,run_underlying ao,Result.andThen_ok,q,Sem.run_pure,bK,Bool.false_eq_true,if_false,af.len,aN,fu,g3,cH];rw[if_neg (by rintro ⟨_,h |h⟩;exact h;omega)];simp only[Sem.run_bind,fu,Result.andThen_ok,g3];rw[if_neg auC];have aP:(choose (.appendCap (m+a1.length) c e)).run P w=.ok (grownCap w (m+a1.length) c e) w.drew:=by simp[Question.forced,grownCap]
  have qb: ∀b,(askRoom b).run P w.drew=.ok () w.drew:=λb=>by unfold askRoom;split<;>rfl
  simp only[Sem.run_pure,Result.andThen_ok,Sem.run_bind,aP,fu,g3,qb,hold,G,if_true,afU,newRow,run_newObj_alloc];rfl
end
open Go.RowKit
section
variable {P:cA} {cx:cm} {φ ax:bP} {ι aJ:Nat->aA} {w aq:bm} {J:List aH} {n:Nat} {r:K} {aB:List aH} {aE:Nat}
structure o1 (φ:bP) (w:bm) (t:az) (xs:List t.den) (v:aA):Prop where
 ex: ∃A c a1,v=.slice A xs.length c/\xs.length<=c/\c4 (bA φ w t) xs a1/\(xs.length=0\/ ∃b o,A=some ⟨b,o,none⟩/\ ∀i ae,a1[i]? =some ae->w.cell? ⟨b,o+i,none⟩=some ae)
theorem o1.of_CR {t:az} {xs:List t.den} {v:aA} (h:bA φ w (.list t) xs [v]):o1 φ w t xs v:=by
 obtain ⟨A,n,c,e,ad,aN,bg⟩:=h;injection e with e _
 subst ad;rcases bg with bg |⟨b,o,a1,rfl,gg,ag⟩
 ·refine ⟨A,c,[],e,aN,?_,.inl bg⟩;have:xs=[]:=kZ bg;subst this;rfl
 ·exact ⟨_,c,a1,e,aN,ag,.inr ⟨b,o,rfl,λi ae hu=>(gg i ae hu).2⟩⟩
theorem acR [Env] {o:Nat} {e:bs} {t:az} {xs:List t.den} {fz:Bool} (h:jE φ ι w o (.arr e t xs fz)) {A di:Option Addr} {n c aR E:Nat} (a8:ι o=.slice A n c) (q:aR<=E) (G:E<=n) (e6:c≠aR->di=A.map (·.add (aR*t.size))):
  o1 φ w t ((xs.take E).drop aR) (.slice di (E-aR) (c-aR)):=by
 obtain ⟨jC,aE,eF,M,V,aY,bp,bg⟩:=h;rw[a8]at M;obtain ⟨rfl,rfl,rfl⟩:=iM M;have hlen:((xs.take E).drop aR).length=E-aR:=by simp[V];omega
 by_cases bK:E-aR=0
 ·have:(xs.take E).drop aR=[]:=kZ u;refine ⟨di,c-aR,[],by rw[hlen],u,?_,.inl u⟩;rw[this];rfl
 ·have au:c≠aR:=u;rcases bg with bg |⟨b,pre,cur,c7,rfl,g1,g2,g3,g0,g4,g5,g6,g7⟩
  ·omega
  ·have hle:E*t.size<=n*t.size:=gZ _ G;refine ⟨di,c-aR,(cur.toList.take (E*t.size)).drop (aR*t.size),by rw[hlen],u,?_,.inr ⟨b,pre.size+aR*t.size,by rw[e6 au];simp[hJ],?_⟩⟩
   ·have:=(g5.take (λx c=>bA.len t x c) E).drop (λx c=>bA.len t x c) aR
    rwa [List.take_take,Nat.min_eq_left hle]at this
   ·intro i v dO;rw[List.getElem?_drop,List.getElem?_take]at dO;split at dO
    ·rw[qi g1,Nat.add_assoc,Hg];simpa using dO
    ·cases dO
theorem FY [Env] {x:K} {I:eP} {cN:aA} (e:(oq x).go J n=some (I,aB,aE)) (h:ck φ ι w J) (an:x.rel φ ι w cN) (fH: ∀i∈x.ids,(aG J i).live=true):
  aE=n/\ ∃ax,ff φ ι w J ax aB/\((∃d,cN=.string ⟨⟨d⟩⟩/\I=⟨.list (.int .u8),fl d⟩/\x.isStr=true)\/ ∀t xs,I=⟨.list t,xs⟩->o1 ax w t xs cN):=by
 unfold oq at e;split at e
 ·rename_i t o;simp only[HM.go]at e;split at e
  ·rename_i ch ae xs fz hm;obtain ⟨kJ,ab,rfl⟩:=oR hm;obtain ⟨rfl,rfl,rfl⟩:=go_ret e;refine ⟨rfl,φ,ff.refl h,.inr λiI hD ao=> ?_⟩;injection ao with q G
   injection q with q
   subst q;obtain rfl:=eq_of_heq G;obtain ⟨rfl,A,m,c,a8⟩:=an;have cu:=h.obj o;rw[ab]at cu;have ar:=acR cu a8 (di:=A) (Nat.zero_le m) (ca m) (λ_=>by cases A<;>simp[Addr.add]);obtain ⟨jC,aE,eF,M,V,_⟩:=cu;rw[a8]at M;obtain ⟨rfl,rfl,rfl⟩:=iM M;rw[a8];simpa [<-V] using ar
  ·simp[HM.go]at e
 ·rename_i t o aR E;simp only[HM.go]at e;split at e
  ·rename_i ch ae xs fz hm;obtain ⟨kJ,ab,rfl⟩:=oR hm;have s:=go_bif e;clear e;obtain ⟨hu,e⟩:=s;have hu:ae=t:=by simpa using hu
   subst hu;obtain ⟨rfl,rfl,rfl⟩:=go_ret e;refine ⟨rfl,φ,ff.refl h,.inr λiI hD ao=> ?_⟩;injection ao with q G
   injection q with q
   subst q;obtain rfl:=eq_of_heq G;obtain ⟨A,m,c,di,a8,q,G,W,rfl,e6,_⟩:=an;have cu:=h.obj o;rw[ab]at cu;exact acR cu a8 q G e6
  ·simp[HM.go]at e
 ·obtain ⟨rfl,rfl,rfl⟩:=go_ret e;exact ⟨rfl,φ,ff.refl h,.inl ⟨_,cJ.str.1 an,rfl,rfl⟩⟩
 ·obtain ⟨aN,ax,g,a8⟩:=pm x φ cN J n I aB aE e h an fH;refine ⟨aN,ax,g,.inr λt xs ao=> ?_⟩;subst ao;have au:=a8.1;rw[rK a8.2]at au;exact o1.of_CR (by simpa using au)
theorem o1.source {t:az} {a1:List t.den} {v:aA} (h:o1 φ w t a1 v): ∃news,xA P φ w t a1 v news:=by
 obtain ⟨A,c,news,rfl,au,ag,bg⟩:=h;refine ⟨news,λw=>by simp[Builtin.lenOf],ag,λaq g=> ?_⟩;have ad:=ag.len (λx c=>bA.len t x c);rcases bg with bg |⟨b,o,rfl,fZ⟩
 ·have:a1=[]:=kZ bg;subst this;simp only[c4]at ag;subst ag;cases A with
  |none=>exact run_firstCells_none _ _ _ _ _
  |some a=>simpa using run_firstCells_some (P:=P) aq t.size 0 a 0 c [] aU aU
 ·exact run_firstCells_some (P:=P) aq t.size a1.length _ a1.length c news ad (λj ae al=>by rw[hJ];have q:=fZ j ae al;rw[g.cell (World.block_lt_of_cell? w _ q)];exact q)
theorem Na (d:List UInt8):xA P φ w (.int .u8) (fl d) (.string ⟨⟨d⟩⟩) (d.map λb=>.int .u8 (b.toNat:Int)):=by
 refine ⟨λw=> ?_,?_,λaq g=> ?_⟩
 ·have:(⟨⟨d⟩⟩:ByteArray).size=d.length:=rfl;simp[Builtin.lenOf,fl,this]
 ·induction d with
  |nil=>rfl
  |cons a d aO=>exact ⟨[.int .u8 (a.toNat:Int)],_,rfl,rfl,aO⟩
 ·unfold Builtin.firstCells;simp only[Sem.run_pure];congr 1;apply Array.ext';simp[fl,ByteArray.data_extract,List.extract_eq_take_drop]
theorem ady (tab:cT P cx) {T:bs} (h:qS cx T=true): ∃I,P.underlying T=some I/\ ∀k,I≠ .int k:=by
 unfold qS at h;split at h
 ·rename_i j al;split at h
  ·rename_i t aX;exact ⟨_,(kL tab al aX).1,λk e=>by cases e⟩
  ·rename_i aX;exact ⟨_,rY tab al aX,λk e=>by cases e⟩
  ·cases h
 ·cases h
theorem abu [Env] (h:ck φ ι w J) {T dY ty e:bs} {t:az} {bytes:Nat} (aX:Hq P T dY e t bytes) {o:Nat} {xs:List t.den} {fz:Bool} (ab:aG J o=.arr e t xs fz) {A di:Option Addr} {m c k:Nat} (a8:ι o=.slice A m c)
  (ag:k<=m) (avI:fz=true->k=m) (e6:c≠0->di=A) {x:aA} {a1:List t.den} {news:List aA} (af:xA P φ w t a1 x news) (L:(k+a1.length)*bytes<=bC) (aN:n<=J.length) (h5:(aG J n).live=false):
  cL φ ι w J n (.own t n) (cc (cc J o .gone) n (.arr e t (xs.take k++a1) fz)) (n+1) ((Builtin.append_ #[T,dY] ty #[.slice di k c,x]).run P w):=by
 have cu:=h.obj o;rw[ab]at cu;obtain ⟨jC,cW,ba,M,V,aY,bp,bg⟩:=cu;rw[a8]at M;obtain ⟨rfl,rfl,rfl⟩:=iM M;have RS:(aG J o).owns=true:=by rw[ab];rfl
 have iq:=af.chunks.len (λx c=>bA.len t x c);have Sa:(xs.take k).length=k:=by simp[V];omega
 have hlen:(xs.take k++a1).length=k+a1.length:=by simp[V];omega
 have e4: ∀i∈(K.own t n).ids,(aG (cc (cc J o .gone) n (.arr e t (xs.take k++a1) fz)) i).live=true:=by
  intro i E;have:i=n:=by simpa [K.ids] using E
  subst this;rw[gO _ i _ i (by rw[ik J o _ (gP (by rw[ab];rfl))];exact aN),if_pos rfl];rfl
 have oG:=af.chunks.one;obtain ⟨dQ,z,g1,g2,g3,g4,g5,g6,g7,g8⟩:=aX.el;have vB:bC=140737488355328:=rfl;have yq:k+a1.length<=bC:=Nat.le_trans (Nat.le_mul_of_pos_right _ g4) L;by_cases qb:k+a1.length<=c
 ·by_cases hk:c=0
  ·have s8:k=0:=u;have Sb:a1=[]:=kZ u;subst hk s8 Sb;have vw:news=[]:=kZ (by simpa using iq);subst vw;have eW:=DB (ty:=ty) aX (A:=di) af qb (aq:=w) (λa _=>rfl) (λ_=>rfl);rw[eW];have au3: ∀b,dN (Value.slice di (0+([]:List t.den).length) 0)≠some b:=λb=>by cases di<;>simp[dN]
   obtain ⟨bf,a6,cq,ef⟩:=xw (v:=.slice di (0+([]:List t.den).length) 0) (dh:=.arr e t (xs.take 0++[]) fz) (aq:=w) (ax:=φ) h RS aN h5 rfl rfl rfl rfl rfl (ca _) (λ_ _ _=>rfl) (λ_ _ h=>h) (λ_ _ _=>rfl) (λ_ _ h=>.inl h)
    (λb L=>absurd L (au3 b)) ⟨di,0+([]:List t.den).length,0,by simp[ej],aU,aU,aU,.inl rfl⟩
   exact ⟨_,_,φ,_,rfl,bf,a6,cq,ef,uM ⟨by simp[ej],_,_,_,rfl⟩,e4⟩
  ·obtain rfl:=e6 hk;rcases bg with bg |⟨b,pre,cur,c7,rfl,bq,bU,dD,pz,dx,gw,hC,ng⟩
   ·exact absurd bg hk
   ·have jV:dN (ι o)=some b:=by rw[a8];simp[dN,hk]
    have hle:(k+a1.length)*t.size<=c*t.size:=gZ _ qb;rw[Nat.add_mul]at hle;obtain ⟨du,gG,fm,hc⟩:=J8 P (pre.size+k*t.size) news 0 (pre++cur) w bq (by rw[Array.size_append];exact dD.ok) (by rw[iq,Array.size_append,bU];omega) oG;have eW:=DB (ty:=ty) aX af qb (A:=some ⟨b,pre.size,none⟩) (aq:=du) (λa aV=>by injection aV with aV;subst aV;rw[hJ];simpa using gG) (λh=>by cases h);rw[eW];simp only[Nat.add_zero]at fm;rw[Oz]at fm
    let ax:bP:=λbZ j=>φ bZ j\/(fz=true/\bZ=b/\pre.size<=j/\j<pre.size+(k+a1.length)*t.size)
    have gR:k*t.size<=m*t.size:=gZ _ ag;have lU: ∀j,φ b j->pre.size<=j/\j<pre.size+k*t.size:=λj al=>by obtain ⟨bK,iF⟩:=hC j al;rw[avI bK];exact iF
    have afq:k*t.size<=cur.size:=by rw[bU];exact gZ _ u
    have au6: ∀j,pre.size<=j/\j<pre.size+k*t.size->du.cell? ⟨b,j,none⟩=w.cell? ⟨b,j,none⟩:=λj al=>by obtain ⟨gh,rfl⟩: ∃gh,j=pre.size+gh:=⟨j-pre.size,u⟩;rw[qi fm,qi bq,Hg,Hg];simp only[List.getElem?_toArray];rw[List.append_assoc,List.getElem?_append_left (by simp only[eE,iz];omega),List.getElem?_take,if_pos u];simp
    have fZ: ∀bZ j,φ bZ j->du.cell? ⟨bZ,j,none⟩=w.cell? ⟨bZ,j,none⟩:=λbZ j al=>by
     by_cases p2:bZ=b
     ·subst p2;exact au6 j (lU j al)
     ·exact hc.cell p2
    have yz:((cur.toList.take (k*t.size)++news++cur.toList.drop (k*t.size+news.length)).toArray).size=cur.size:=by simp only[List.size_toArray,et,eE,List.length_drop,iz,iq];omega
    have dC:jE ax (ej ι n (.slice (some ⟨b,pre.size,none⟩) (k+a1.length) c)) du n (.arr e t (xs.take k++a1) fz):=by
     refine ⟨some ⟨b,pre.size,none⟩,k+a1.length,c,by simp[ej],hlen,qb,bp,.inr ⟨b,pre,_,c7,rfl,fm,by rw[yz,bU],by rw[yz];exact dD,pz,?_,?_,?_,λbK j al=>.inr ⟨bK,rfl,u,u⟩⟩⟩
     ·refine ⟨?_,?_⟩
      ·intro v fa;simp only[dn]at fa;rcases fa with (fa |fa)|fa
       ·exact dx v (List.mem_of_mem_take fa)
       ·exact oG v fa
       ·exact dx v (List.mem_of_mem_drop fa)
      ·have da:((cur.toList.take (k*t.size)++news++cur.toList.drop (k*t.size+news.length)).toArray).toList.drop ((k+a1.length)*t.size)=cur.toList.drop ((k+a1.length)*t.size):=
        N3 (by simpa using afq) (by rw[iq,Nat.add_mul];exact ca _)
       rw[da];exact (dx.at_ gw _).imp id λ⟨eO,bK⟩=>⟨eO,bK.imp λx c=>bA.mono (λ_ _ h=>.inl h) fZ t x c⟩
     ·have cV:((cur.toList.take (k*t.size)++news++cur.toList.drop (k*t.size+news.length)).toArray).toList.take ((k+a1.length)*t.size)=cur.toList.take (k*t.size)++news:=by simp only[];rw[List.take_append_of_le_length (by simp[iq,Nat.add_mul];omega),ic (by simp[iq,Nat.add_mul];omega)]
      rw[cV];have q:=gw.take (λx c=>bA.len t x c) k;rw[List.take_take,Nat.min_eq_left gR]at q;exact c4.append _ _ _ _ (q.imp λx c=>bA.mono (λ_ _ h=>.inl h) fZ t x c) (af.chunks.imp λx c=>bA.mono (λ_ _ h=>.inl h) fZ t x c)
     ·rintro j (al |⟨bK,_,al⟩)
      ·refine ⟨(hC j al).1,?_⟩;have:=lU j al;rw[Nat.add_mul];omega
      ·exact ⟨bK,al⟩
    obtain ⟨bf,a6,cq,ef⟩:=xw (v:=.slice (some ⟨b,pre.size,none⟩) (k+a1.length) c) (dh:=.arr e t (xs.take k++a1) fz) (aq:=du) (ax:=ax) h RS aN h5 rfl rfl hc.os hc.tape hc.output (by rw[hc.size];exact ca _)
     (λbZ h4 ct=>hc.blocks bZ (λe=>ct (e▸jV))) (λ_ _ h=>.inl h) fZ
     (λbZ j al=>by
      rcases al with al |⟨bK,rfl,al⟩
      ·exact .inl al
      ·refine .inr ⟨by simp[dN,hk],?_⟩;rw[Nat.add_mul]at al;have bw:j<(pre++(cur.toList.take (k*t.size)++news++cur.toList.drop (k*t.size+news.length)).toArray).size:=by rw[Array.size_append,yz,bU];omega
       exact ⟨_,by rw[qi fm];exact Array.getElem?_eq_getElem bw⟩)
     (λbZ h4=>.inr (by
                 have:b=bZ:=by simpa [dN,hk] using h4
                 rw[<-this];exact jV)) dC
    exact ⟨_,_,ax,_,rfl,bf,a6,cq,ef,uM ⟨by simp[ej],_,_,_,rfl⟩,e4⟩
 ·
  have avs:c<k+a1.length:=u;obtain ⟨gv,hold,s3⟩: ∃gv,(Builtin.firstCells t.size k (.slice di k c)).run P w.drew=.ok gv.toArray w.drew/\c4 (bA φ w t) (xs.take k) gv:=by
   by_cases s8:k=0
   ·subst s8;refine ⟨[],?_,by simp[c4]⟩;cases di with
    |none=>exact run_firstCells_none _ _ _ _ _
    |some a=>simpa using run_firstCells_some (P:=P) w.drew t.size 0 a 0 c [] aU aU
   ·have hk:c≠0:=u;obtain rfl:=e6 hk;rcases bg with bg |⟨b,pre,cur,c7,rfl,bq,bU,dD,pz,dx,gw,hC,ng⟩
    ·exact absurd bg hk
    ·have gR:k*t.size<=m*t.size:=gZ _ ag;have afq:k*t.size<=cur.size:=by rw[bU];exact gZ _ u
     have q:=gw.take (λx c=>bA.len t x c) k;rw[List.take_take,Nat.min_eq_left gR]at q;refine ⟨_,run_firstCells_some (P:=P) w.drew t.size k _ k c (cur.toList.take (k*t.size)) (by simp;omega) (λj ae al=> ?_),q⟩;rw[hJ];rw[List.getElem?_take]at al;split at al
     ·show w.cell? _=_;rw[qi bq,Hg];simpa using al
     ·cases al
  have IW:=s3.len (λx c=>bA.len t x c);rw[Sa]at IW;obtain ⟨eF,eO,ah,aS,bV,dE,eW⟩:=TC (ty:=ty) aX af avs hold L;rw[eW];have jb:=ig.drew_alloc w (.cells (gv.toArray++news.toArray++eO) e);have IQ:(w.drew.alloc (.cells (gv.toArray++news.toArray++eO) e)).heap[w.heap.size]? =some (.cells (gv.toArray++news.toArray++eO) e (0,0)):=heap_alloc_new w.drew _;generalize kr:w.drew.alloc (.cells (gv.toArray++news.toArray++eO) e)=cU at jb IQ ⊢;have az0:w.heap.size<cU.heap.size:=(kY.1 IQ).1
  let ax:bP:=λbZ j=>φ bZ j\/(fz=true/\bZ=w.heap.size/\j<(k+a1.length)*t.size)
  have fZ: ∀bZ j,φ bZ j->cU.cell? ⟨bZ,j,none⟩=w.cell? ⟨bZ,j,none⟩:=λbZ j al=>jb.cell (qr h al)
  have ae3:eF≠0:=u;have afK:(gv.toArray++news.toArray++eO).size=eF*t.size:=by simp only[Array.size_append,List.size_toArray,IW,iq,bV];rw[<-Nat.add_mul,<-Nat.add_mul];congr 1;omega
  have dC:jE ax (ej ι n (.slice (some ⟨w.heap.size,0,none⟩) (k+a1.length) eF)) cU n (.arr e t (xs.take k++a1) fz):=by
   refine ⟨some ⟨w.heap.size,0,none⟩,k+a1.length,eF,by simp[ej],hlen,ah,aS,.inr ⟨w.heap.size,#[],_,(0,0),rfl,by rw[Array.empty_append];exact IQ,afK,uC _ _,aU,?_,?_,?_,λbK j al=>.inr ⟨bK,rfl,by simpa using al⟩⟩⟩
   ·obtain ⟨us,mz⟩:=dE;have pc:=c4.append _ _ _ _ (c4.append _ _ _ _ (s3.imp λx c=>bA.mono (λ_ _ h=>(.inl h:ax _ _)) fZ t x c) (af.chunks.imp λx c=>bA.mono (λ_ _ h=>(.inl h:ax _ _)) fZ t x c)) (mz ax cU);refine Cells.of_chunks (eO:=xs.take k++a1++us) ?_ _;simp only[Array.toList_append];exact pc
   ·have cV:(gv.toArray++news.toArray++eO).toList.take ((k+a1.length)*t.size)=gv++news:=by simp only[Array.toList_append];rw[List.take_append_of_le_length (by simp[IW,iq,Nat.add_mul]),ic (by simp[IW,iq,Nat.add_mul])]
    rw[cV];exact c4.append _ _ _ _ (s3.imp λx c=>bA.mono (λ_ _ h=>.inl h) fZ t x c) (af.chunks.imp λx c=>bA.mono (λ_ _ h=>.inl h) fZ t x c)
   ·rintro j (al |⟨bK,_,al⟩)
    ·have:=qr h al;omega
    ·exact ⟨bK,aU,by simpa using al⟩
  obtain ⟨bf,a6,cq,ef⟩:=xw (v:=.slice (some ⟨w.heap.size,0,none⟩) (k+a1.length) eF) (dh:=.arr e t (xs.take k++a1) fz) (aq:=cU) (ax:=ax) h RS aN h5 rfl rfl jb.os jb.tape jb.output jb.size
   (λbZ h4 _=>jb.blocks bZ h4) (λ_ _ h=>.inl h) fZ
   (λbZ j al=>by
    rcases al with al |⟨bK,rfl,al⟩
    ·exact .inl al
    ·refine .inr ⟨by simp[dN,ae3],?_⟩;have bw:j<(gv.toArray++news.toArray++eO).size:=by rw[afK];exact Nat.lt_of_lt_of_le al (gZ _ ah)
     exact ⟨_,by rw[qi IQ];exact Array.getElem?_eq_getElem bw⟩)
   (λbZ h4=>.inl (by
               have:w.heap.size=bZ:=by simpa [dN,ae3] using h4
               omega)) dC
  exact ⟨_,_,ax,_,rfl,bf,a6,cq,ef,uM ⟨by simp[ej],_,_,_,rfl⟩,e4⟩
end
open Go.RowKit
section
variable {P:cA} {cx:cm} {φ ax:bP} {ι aJ:Nat->aA} {w aq:bm} {J:List aH} {n:Nat} {r:K} {aB:List aH} {aE:Nat}
theorem Oq: ∀(J:List aH) (o:Nat),o<J.length->cc J o (aG J o)=J
 |[],o,h=>by simp at h
 |a::l,0,h=>by simp[cc,aG]
 |a::l,o+1,h=>by
  have aO:=Oq l o (by simpa using h);have:aG (a::l) (o+1)=aG l o:=by simp[aG]
  rw[this];simp[cc,aO]
theorem Pt [Env] (h:ck φ ι w J) {o:Nat} {e:bs} {t:az} {xs:List t.den} (ab:aG J o=.arr e t xs false) {A:Option Addr} {m c:Nat} (a8:ι o=.slice A m c) {k:Nat} {a1:List t.den} {news:List aA} (nF:c4 (bA φ w t) a1 news)
  (ag:k+a1.length<=xs.length) {di:Option Addr} (e6:a1.length≠0->di=A.map (·.add (k*t.size))):
  ∃aq,(∀a,di=some a->(storeCells a news).run P w=.ok () aq)/\(di=none->aq=w)/\ck φ ι aq (cc J o (.arr e t (xs.take k++a1++xs.drop (k+a1.length)) false))/\Step φ ι w J φ ι aq (cc J o (.arr e t (xs.take k++a1++xs.drop (k+a1.length)) false))/\
   eo ι J ι (cc J o (.arr e t (xs.take k++a1++xs.drop (k+a1.length)) false))/\iW J n (cc J o (.arr e t (xs.take k++a1++xs.drop (k+a1.length)) false)) n:=by
 have bw:o<J.length:=gP (by rw[ab];rfl);have iq:=nF.len (λx c=>bA.len t x c);by_cases bu:a1.length=0
 ·have Db:a1=[]:=kZ bu;subst Db;have vw:news=[]:=kZ (by simpa using iq);subst vw;have he:(aH.arr e t (xs.take k++[]++xs.drop (k+([]:List t.den).length)) false)=aG J o:=by rw[ab];simp
  rw[he,Oq J o bw];exact ⟨w,λa _=>rfl,λ_=>rfl,h,Step.refl _ _ _ _,eo.refl _ _,iW.refl _ _⟩
 ·have cu:=h.obj o;rw[ab]at cu;have awj:=cu;obtain ⟨jC,cW,ba,M,V,aY,bp,bg⟩:=awj;rw[a8]at M;obtain ⟨rfl,rfl,rfl⟩:=iM M;rcases bg with bg |⟨b,pre,cur,c7,rfl,bq,bU,dD,pz,dx,gw,hC,ng⟩
  ·omega
  ·have hk:c≠0:=u;have jV:dN (ι o)=some b:=by rw[a8];simp[dN,hk]
   have lU: ∀j,¬φ b j:=λj al=>by have:=(hC j al).1;cases this
   have gR:(k+a1.length)*t.size<=m*t.size:=gZ _ u;have vv:m*t.size<=c*t.size:=gZ _ aY;rw[Nat.add_mul]at gR;obtain ⟨du,gG,fm,hc⟩:=J8 P (pre.size+k*t.size) news 0 (pre++cur) w bq (by rw[Array.size_append];exact dD.ok) (by rw[iq,Array.size_append,bU];omega) nF.one;simp only[Nat.add_zero]at fm;rw[Oz]at fm;rw[e6 bu];have yz:((cur.toList.take (k*t.size)++news++cur.toList.drop (k*t.size+news.length)).toArray).size=cur.size:=by simp only[List.size_toArray,et,eE,List.length_drop,iz,iq];omega
   have fZ: ∀bZ j,φ bZ j->du.cell? ⟨bZ,j,none⟩=w.cell? ⟨bZ,j,none⟩:=λbZ j al=>hc.cell (λe=>lU j (e▸al))
   have dC:jE φ ι du o (.arr e t (xs.take k++a1++xs.drop (k+a1.length)) false):=by
    refine ⟨some ⟨b,pre.size,none⟩,m,c,a8,by simp;omega,aY,bp,.inr ⟨b,pre,_,c7,rfl,fm,by rw[yz,bU],by rw[yz];exact dD,pz,?_,?_,λj al=>absurd al (lU j),λbK=>by cases bK⟩⟩
    ·refine ⟨?_,?_⟩
     ·intro v fa;simp only[dn]at fa;rcases fa with (fa |fa)|fa
      ·exact dx v (List.mem_of_mem_take fa)
      ·exact nF.one v fa
      ·exact dx v (List.mem_of_mem_drop fa)
     ·have da:((cur.toList.take (k*t.size)++news++cur.toList.drop (k*t.size+news.length)).toArray).toList.drop (m*t.size)=cur.toList.drop (m*t.size):=
       N3 (by rw[iz,bU];omega) (by rw[iq];exact gR)
      rw[da];exact dx.rest.imp id λ⟨eO,bK⟩=>⟨eO,bK.imp λx c=>bA.mono (λ_ _ h=>h) fZ t x c⟩
    ·have cV:((cur.toList.take (k*t.size)++news++cur.toList.drop (k*t.size+news.length)).toArray).toList.take (m*t.size)=(cur.toList.take (m*t.size)).take (k*t.size)++news++(cur.toList.take (m*t.size)).drop ((k+a1.length)*t.size):=by simp only[];rw[List.take_take,Nat.min_eq_left u,List.drop_take,Nat.add_mul,<-iq,List.take_append,ic (by simp[iq];omega)];congr 2;simp[iq];omega
     rw[cV];have q:=gw.take (λx c=>bA.len t x c) k;have G:=gw.drop (λx c=>bA.len t x c) (k+a1.length);exact c4.append _ _ _ _ (c4.append _ _ _ _ (q.imp λx c=>bA.mono (λ_ _ h=>h) fZ t x c) (nF.imp λx c=>bA.mono (λ_ _ h=>h) fZ t x c)) (G.imp λx c=>bA.mono (λ_ _ h=>h) fZ t x c)
   obtain ⟨kV,pG,rW,Ed⟩:=BI (n:=n) (dh:=.arr e t (xs.take k++a1++xs.drop (k+a1.length)) false) h (by rw[ab];rfl) jV hc lU dC (by simp[aH.ids]) rfl;refine ⟨du,λa aV=> ?_,λaV=>by simp at aV,kV,pG,rW,Ed⟩;simp only[Option.map_some,bM]at aV;subst aV;rw[hJ];exact gG
end
open Go.RowKit
section
variable {P:cA} {cx:cm} {φ ax:bP} {ι aJ:Nat->aA} {w aq:bm} {J:List aH} {n:Nat} {r:K} {aB:List aH} {aE:Nat}
theorem adv:(K.tup []).rel φ ι w (.tuple #[]):=⟨#[],rfl,rfl⟩
theorem aca [Env] (tab:cT P cx) {T:bs} {i:gq} {t:az} (E:cx.ti T=some i) (aX:i.ty=.list t) {hF:Array bs} (mm:hF= #[T]) {ty:bs} (h:ck φ ι w J) {o:Nat} {e:bs} {xs:List t.den} (ab:aG J o=.arr e t xs false) {A:Option Addr} {m c:Nat} (a8:ι o=.slice A m c) {aR dO:Nat} (q:aR<=dO) (G:dO<=xs.length)
  {di:Option Addr} {eF:Nat} (e6:dO-aR≠0->di=A.map (·.add (aR*t.size))):
  cL φ ι w J n (.tup []) (cc J o (.arr e t (xs.take aR++List.replicate (dO-aR) t.zero++xs.drop (aR+(dO-aR))) false)) n ((Builtin.clear_ hF ty #[.slice di (dO-aR) eF]).run P w):=by
 subst mm;obtain ⟨ao,gE⟩:=kL tab E aX;obtain ⟨z,aF,z2,z3,z4⟩:=tF gE (dO-aR);have nF:=z4 φ w;rw[<-z2]at nF;obtain ⟨du,bf,a6,cq,ef,gS,iv⟩:=Pt (P:=P) (n:=n) (k:=aR) (di:=di) h ab a8 nF (by simp;omega) (λct=>e6 (by simpa using ct));rw[List.length_replicate]at cq ef gS iv;refine ⟨_,du,φ,ι,?_,cq,ef,gS,iv,adv,by simp[K.ids,K.idsL]⟩;unfold Builtin.clear_;simp only[List.getElem?_toArray,List.getElem?_cons_zero,Sem.run_bind,run_underlying ao,Result.andThen_ok,Sem.run_pure];cases di with
 |none=>simp[a6 rfl]
 |some a=>
  cases aN:dO-aR with
  |zero=>
   have af:=bf a rfl;rw[aN]at af;simp[storeCells]at af;simp[af]
  |succ s=>
   have af:=bf a rfl;rw[aN]at af;have ch:(Array.map (λi=>z.cells[i%z.cells.size]!) (Array.range ((s+1)*z.cells.size)))=Builtin.zeroCells z.cells (s+1):=rfl;rw[ch]at af;simp[aF,af]
theorem ao8 [Env] (tab:cT P cx) {T ty:bs} {hF:Array bs} (mm:hF= #[T]) {x:K} (e:(Pa cx T x).go J n=some (r,aB,aE)) (h:ck φ ι w J) {v:aA} (an:x.rel φ ι w v) (lo: ∃I,P.underlying T=some I):
  cL φ ι w J n r aB aE ((Builtin.clear_ hF ty #[v]).run P w):=by
 unfold Pa at e;split at e
 ·rename_i t o;have s:=go_bif e;clear e;obtain ⟨b9,e⟩:=s;obtain ⟨i,E,aX⟩:=hP b9;simp only[HM.go]at e;split at e
  ·rename_i ch ae xs fz ab;have s:=go_bif e;clear e;obtain ⟨L,e⟩:=s;simp only[bQ,dS,eS]at L;obtain ⟨rfl,rfl⟩:=L;simp only[HM.go,bM,c0]at e;obtain ⟨rfl,rfl,rfl⟩:=e;obtain ⟨rfl,A,m,c,a8⟩:=an;have cu:=h.obj o;rw[ab]at cu;obtain ⟨jC,cW,ba,M,V,aY,bp,bg⟩:=cu;rw[a8]at M;obtain ⟨rfl,rfl,rfl⟩:=iM M;subst V;have:=aca (n:=n) (ty:=ty) tab E aX mm h ab a8 (aR:=0) (dO:=xs.length) (di:=A) (eF:=c) (Nat.zero_le _) (ca _) (λct=>by
    rcases bg with bg |⟨b,pre,cur,c7,rfl,_⟩
    ·omega
    ·simp[hJ])
   rw[a8];simpa using this
  ·simp[HM.go]at e
 ·rename_i t o aR dO;have s:=go_bif e;clear e;obtain ⟨b9,e⟩:=s;obtain ⟨i,E,aX⟩:=hP b9;simp only[HM.go]at e;split at e
  ·rename_i ch ae xs fz ab;have s:=go_bif e;clear e;obtain ⟨L,e⟩:=s;simp only[bQ,dS,eS]at L;obtain ⟨rfl,rfl⟩:=L;simp only[HM.go,bM,c0]at e;obtain ⟨rfl,rfl,rfl⟩:=e;obtain ⟨A,m,c,di,a8,q,G,W,rfl,e6,de⟩:=an;have cu:=h.obj o;rw[ab]at cu;obtain ⟨jC,cW,ba,M,V,_⟩:=cu;rw[a8]at M;obtain ⟨rfl,rfl,rfl⟩:=iM M;exact aca (n:=n) (ty:=ty) tab E aX mm h ab a8 q u (λct=>e6 u)
  ·simp[HM.go]at e
 ·obtain ⟨rfl,rfl,rfl⟩:=go_ret e;simp only[K.rel]at an;subst an;obtain ⟨I,ao⟩:=lo;subst mm;refine cL.pure (r:=.tup []) (v:=.tuple #[]) h adv (by simp[K.ids,K.idsL]) ?_;unfold Builtin.clear_;cases I<;>simp[run_underlying ao]
 ·simp[HM.go]at e
end
open Go.RowKit
section
variable {P:cA} {cx:cm} {φ ax:bP} {ι aJ:Nat->aA} {w aq:bm} {J:List aH} {n:Nat} {r:K} {aB:List aH} {aE:Nat}
theorem ajO {I:eP} {cN:aA} {t:az} {a1:List t.den} (x:K) (ao:I.t.cast? (.list t) I.x=some a1) (h:(∃d,cN=.string ⟨⟨d⟩⟩/\I=⟨.list (.int .u8),fl d⟩/\x.isStr=true)\/ ∀t xs,I=⟨.list t,xs⟩->o1 φ w t xs cN):
  ∃news,xA P φ w t a1 cN news:=by
 obtain ⟨ae,z⟩:=I;obtain ⟨e,rfl⟩:=rP ao;simp only at e;subst e;rcases h with ⟨d,rfl,h,_⟩|h
 ·injection h with q G
  injection q with q
  subst q;obtain rfl:=eq_of_heq G;exact ⟨_,Na d⟩
 ·exact (h t _ rfl).source
theorem AW {ae t:az} {xs:List ae.den} {a1:List t.den} (h:ae.list.cast? t.list xs=some a1): ∃e:ae=t,a1=e▸xs:=by
 obtain ⟨e,rfl⟩:=rP h;injection e with e
 subst e;exact ⟨rfl,rfl⟩
theorem ao6 [Env] (tab:cT P cx) {T dY ty:bs} {d x:K} (e:(O7 cx T dY d x).go J n=some (r,aB,aE)) (h:ck φ ι w J) {aQ cN:aA} (af:d.rel φ ι w aQ) (an:x.rel φ ι w cN) (eg:jj J n aE):
  cL φ ι w J n r aB aE ((Builtin.append_ #[T,dY] ty #[aQ,cN]).run P w):=by
 unfold O7 at e;split at e
 ·rename_i ch t0 k m;have s:=go_bif e;clear e;obtain ⟨Rg,e⟩:=s;obtain ⟨i2,e3,I2⟩:=hP Rg;split at e
  ·rename_i i E;split at e
   ·rename_i t aX;obtain ⟨ao,gE⟩:=kL tab E aX;have p3:P.underlying dY=some (.int k):=by have:=(tab dY i2 e3).desc;unfold la at this;rw[I2]at this;exact this
    have s:=go_chk2 e;clear e;obtain ⟨L,e⟩:=s;simp only[bQ,dS]at L;obtain ⟨fm,eG⟩:=L;simp only[HM.go,bM,c0]at e;obtain ⟨rfl,rfl,rfl⟩:=e;simp only[K.rel]at af;subst af;obtain rfl:=cJ.int.1 an;have fm:(0:Int)<(m:Int):=fm;have eG:(m:Int)*(i.bytes:Int)<=(bC:Int):=eG;obtain ⟨a,rfl⟩:=Int.eq_ofNat_of_zero_le (show (0:Int)<=(m:Int) by omega);rw[bI];obtain ⟨z,aF,z2,z3,z4⟩:=tF gE a;obtain ⟨dQ,mI,g1,g2,g3,g4,g5,g6,g7,g8⟩:=gE;have vH:z=mI:=by have M:=aF w;simp[zeroValue,typeInfo,g1,g5]at M;exact M.symm
    subst vH;have vB:bC=140737488355328:=rfl;have q4:a*i.bytes<=140737488355328:=by
     have s:((a*i.bytes:Nat):Int)<=((bC:Nat):Int):=by rw[Int.natCast_mul];exact eG
     exact vB▸Int.ofNat_le.1 s
    have Ri:0<a:=u;have aV:a<=a*i.bytes:=Nat.le_mul_of_pos_right _ g4;have eW:=Lib.run_append_nil_zeros (P:=P) w T dY ty i.elem dQ z k k ao p3 g1 g5 a Ri (by rw[g2];exact g6) u (by rw[g3];omega);rw[eW];have s6:=grownCap_ge w a 0 i.elem;obtain ⟨ie,iV,kW,y3,y4⟩:=tF (P:=P) (t:=t) (bytes:=i.bytes) ⟨dQ,z,g1,g2,g3,g4,g5,g6,g7,g8⟩ (grownCap w a 0 i.elem-a);have yF:ie=z:=by have M:=iV w;simp[zeroValue,typeInfo,g1,g5]at M;exact M.symm
    subst yF;have jb:=ig.drew_alloc w (.cells (Builtin.zeroCells ie.cells a++Builtin.zeroCells ie.cells (grownCap w a 0 i.elem-a)) i.elem);have Cz: ∀s,(Builtin.zeroCells ie.cells s).toList=((Array.range (s*t.size)).map λi=>ie.cells[i%ie.cells.size]!).toList:=λs=>by rw[<-z2];rfl
    have bj:=z4 φ (w.drew.alloc (.cells (Builtin.zeroCells ie.cells a++Builtin.zeroCells ie.cells (grownCap w a 0 i.elem-a)) i.elem));have ba:=y4 φ (w.drew.alloc (.cells (Builtin.zeroCells ie.cells a++Builtin.zeroCells ie.cells (grownCap w a 0 i.elem-a)) i.elem));rw[<-Cz]at bj ba;have dH:=bj.len (λx c=>bA.len t x c);have ds:=ba.len (λx c=>bA.len t x c);simp only[List.length_replicate,iz]at dH ds;have:=uT (φ:=φ) (ι:=ι) (n:=n) h (e:=i.elem) (t:=t) (xs:=List.replicate a t.zero) (c:=grownCap w a 0 i.elem) (b:=w.heap.size) jb (heap_alloc_new w.drew _) (ca _) (by simpa using s6)
     (grownCap_le_maxLen w _ _ _ (by simp only[maxLen];omega)) (by rw[Array.size_append,dH,ds,<-Nat.add_mul];congr 1;omega) (uC _ _)
     (Cells.of_chunks (by rw[Array.toList_append];exact c4.append _ _ _ _ bj ba) _)
     (by rw[Array.toList_append,List.length_replicate,List.take_append_of_le_length (by rw[iz,dH];exact ca _),ic (by rw[iz,dH];exact ca _)];exact bj) eg.1 (eg.2 n (ca _) u)
    simpa using this
   ·simp[HM.go]at e
  ·simp[HM.go]at e
 ·simp[HM.go]at e
theorem ap5 [Env] (tab:cT P cx) {T dY ty:bs} {d x:K} (e:(PB cx T dY d x).go J n=some (r,aB,aE)) (h:ck φ ι w J) {aQ cN:aA} (af:d.rel φ ι w aQ) (an:x.rel φ ι w cN) (eg:jj J n aE):
  cL φ ι w J n r aB aE ((Builtin.append_ #[T,dY] ty #[aQ,cN]).run P w):=by
 unfold PB at e;split at e
 ·rename_i ae xs c k m;have s:=go_bif e;clear e;obtain ⟨Rg,e⟩:=s;obtain ⟨i2,e3,I2⟩:=hP Rg;split at e
  ·rename_i i E;split at e
   ·rename_i t aX;obtain ⟨ao,gE⟩:=kL tab E aX;have p3:P.underlying dY=some (.int k):=by have:=(tab dY i2 e3).desc;unfold la at this;rw[I2]at this;exact this
    obtain ⟨hD,l5,n3,cV,da⟩:=HM.go_bind_some e;clear e;obtain ⟨au,rfl,rfl⟩:=go_opt cV;obtain ⟨rfl,rfl⟩:=AW au;have s:=go_chk2 da;clear da;obtain ⟨L,e⟩:=s;simp only[bQ,dS]at L;obtain ⟨⟨fm,IF⟩,eG⟩:=L;simp only[HM.go,bM,c0]at e;obtain ⟨rfl,rfl,rfl⟩:=e;obtain ⟨A,sl,rfl,pe⟩:=af;obtain ⟨jC,cW,ba,gA,ad,hle,bg⟩:=pe;injection gA with gA _
    obtain ⟨rfl,rfl,rfl⟩:=iM gA;obtain rfl:=cJ.int.1 an;have fm:(0:Int)<(m:Int):=fm;have eG:((hD.length:Int)+(m:Int))*(i.bytes:Int)<=(bC:Int):=eG;have IF:(c:Int)<(hD.length:Int)+(m:Int):=IF;obtain ⟨a,rfl⟩:=Int.eq_ofNat_of_zero_le (show (0:Int)<=(m:Int) by omega);rw[bI];obtain ⟨z,aF,z2,z3,z4⟩:=tF gE a;have az3:=gE;obtain ⟨dQ,mI,g1,g2,g3,g4,g5,g6,g7,g8⟩:=gE;have vH:z=mI:=by have M:=aF w;simp[zeroValue,typeInfo,g1,g5]at M;exact M.symm
    subst vH;have vB:bC=140737488355328:=rfl;have q4:(hD.length+a)*i.bytes<=140737488355328:=by
     have s:(((hD.length+a)*i.bytes:Nat):Int)<=((bC:Nat):Int):=by rw[Int.natCast_mul,Int.natCast_add];exact eG
     exact vB▸Int.ofNat_le.1 s
    have Ri:0<a:=u;have aV:hD.length+a<=(hD.length+a)*i.bytes:=Nat.le_mul_of_pos_right _ g4;have gC:a*i.bytes<=(hD.length+a)*i.bytes:=gZ _ u;have q5:c<sl+a:=u;obtain ⟨gv,hold,s3⟩: ∃gv,(Builtin.firstCells ae.size sl (.slice A sl c)).run P w.drew=.ok gv.toArray w.drew/\c4 (bA φ w ae) hD gv:=by
     rcases bg with bg |⟨b,o,E0,rfl,gg,ag⟩
     ·subst bg;have:hD=[]:=kZ ad;subst this;refine ⟨[],?_,rfl⟩;cases A with
      |none=>exact run_firstCells_none _ _ _ _ _
      |some a=>simpa using run_firstCells_some (P:=P) w.drew ae.size 0 a 0 c [] aU aU
     ·have m5:=ag.len (λx c=>bA.len ae x c);exact ⟨E0,run_firstCells_some (P:=P) w.drew ae.size sl _ sl c E0 (by rw[m5,ad]) (λj v al=>by rw[hJ];exact (gg j v al).2),ag⟩
    have s5:=growslice_fits (bytes:=i.bytes) q5 (by rw[<-ad];omega);have eW:=Lib.run_append_grow_zeros (P:=P) w T dY ty i.elem dQ z k k ao p3 g1 g5 A sl c gv (by rw[g2];exact hold) a Ri (by rw[g2];exact g6) q5 (by rw[<-ad];omega) (by rw[g3];omega) (by rw[g3];omega);rw[eW];have s6:=grownCap_ge w (sl+a) c i.elem;obtain ⟨ie,iV,kW,y3,y4⟩:=tF (P:=P) (t:=ae) (bytes:=i.bytes) ⟨dQ,z,g1,g2,g3,g4,g5,g6,g7,g8⟩ (grownCap w (sl+a) c i.elem-(sl+a));have yF:ie=z:=by have M:=iV w;simp[zeroValue,typeInfo,g1,g5]at M;exact M.symm
    subst yF;have jb:=ig.drew_alloc w (.cells (gv.toArray++Builtin.zeroCells ie.cells a++Builtin.zeroCells ie.cells (grownCap w (sl+a) c i.elem-(sl+a))) i.elem);have Cz: ∀s,(Builtin.zeroCells ie.cells s).toList=((Array.range (s*ae.size)).map λi=>ie.cells[i%ie.cells.size]!).toList:=λs=>by rw[<-z2];rfl
    have bj:=z4 φ (w.drew.alloc (.cells (gv.toArray++Builtin.zeroCells ie.cells a++Builtin.zeroCells ie.cells (grownCap w (sl+a) c i.elem-(sl+a))) i.elem));have ba:=y4 φ (w.drew.alloc (.cells (gv.toArray++Builtin.zeroCells ie.cells a++Builtin.zeroCells ie.cells (grownCap w (sl+a) c i.elem-(sl+a))) i.elem));rw[<-Cz]at bj ba;have HE:=s3.imp λx aej=>bA.mono (ax:=φ) (aq:=w.drew.alloc (.cells (gv.toArray++Builtin.zeroCells ie.cells a++Builtin.zeroCells ie.cells (grownCap w (sl+a) c i.elem-(sl+a))) i.elem)) (λ_ _ h=>h) (λb k ag=>jb.cell (qr h ag)) ae x aej
    have yM:=HE.len (λx c=>bA.len ae x c);have dH:=bj.len (λx c=>bA.len ae x c);have ds:=ba.len (λx c=>bA.len ae x c);simp only[List.length_replicate,iz]at dH ds;have hlen:(hD++List.replicate a ae.zero).length=sl+a:=by simp[ad]
    have aei:=c4.append _ _ _ _ HE bj;have fQ:(gv.toArray++Builtin.zeroCells ie.cells a++Builtin.zeroCells ie.cells (grownCap w (sl+a) c i.elem-(sl+a))).toList=(gv++(Builtin.zeroCells ie.cells a).toList)++(Builtin.zeroCells ie.cells (grownCap w (sl+a) c i.elem-(sl+a))).toList:=aU;have ag1:(gv++(Builtin.zeroCells ie.cells a).toList).length=(hD++List.replicate a ae.zero).length*ae.size:=by rw[hlen,et,yM,ad,Nat.add_mul];congr 1
    have:=uT (φ:=φ) (ι:=ι) (n:=n3) h (e:=i.elem) (t:=ae) (xs:=hD++List.replicate a ae.zero) (c:=grownCap w (sl+a) c i.elem) (b:=w.heap.size) jb (heap_alloc_new w.drew _) (ca _) (by rw[hlen];exact s6)
     (grownCap_le_maxLen w _ _ _ (by simp only[maxLen];omega)) (by simp only[Array.size_append,List.size_toArray];rw[yM,dH,ds,ad,<-Nat.add_mul,<-Nat.add_mul];congr 1;omega) (uC _ _)
     (Cells.of_chunks (by rw[fQ];exact c4.append _ _ _ _ aei ba) _)
     (by rw[fQ,List.take_append_of_le_length (by rw[ag1];exact ca _),ic (by rw[ag1];exact ca _)];exact aei) eg.1 (eg.2 n3 (ca _) u)
    rwa [hlen]at this
   ·simp[HM.go]at e
  ·simp[HM.go]at e
 ·exact ao6 tab e h af an eg
theorem aoZ [Env] (tab:cT P cx) {T dY ty:bs} {d x:K} (e:(OM cx T dY d x).go J n=some (r,aB,aE)) (h:ck φ ι w J) {aQ cN:aA} (af:d.rel φ ι w aQ) (an:x.rel φ ι w cN)
  (ls: ∀i∈d.ids,(aG J i).live=true) (fH: ∀i∈x.ids,(aG J i).live=true) (eg:jj J n aE):
  cL φ ι w J n r aB aE ((Builtin.append_ #[T,dY] ty #[aQ,cN]).run P w):=by
 unfold OM at e;cases lo:qS cx dY
 ·rw[lo,av]at e;exact ap5 tab e h af an eg
 rw[lo,aj]at e;split at e
 ·rename_i i E;split at e
  ·rename_i t aX;obtain ⟨ao,gE⟩:=kL tab E aX;have eI:Hq P T dY i.elem t i.bytes:=⟨ao,ady tab lo,gE⟩;obtain ⟨I,H1,cG,M,V⟩:=HM.go_bind_some e;clear e;obtain ⟨rfl,dF,g1,CE⟩:=FY M h an fH;obtain ⟨a1,fg,dq,aY,bp⟩:=HM.go_bind_some V;clear V;obtain ⟨CB,rfl,rfl⟩:=go_opt aY;obtain ⟨news,src⟩:=ajO (P:=P) x CB CE;have lV:=K.rel_step g1.step g1.keep ls af;have aAm: ∀i∈d.ids,(aG fg i).live=true:=λi E=>by rw[g1.live];exact ls i E
   have kt:=eg.ghost g1;refine cL.after g1 ?_;split at bp
   ·rename_i ch ae;have s:=go_chk2 bp;clear bp;obtain ⟨L,bp⟩:=s;have L:a1.length*i.bytes<=bC:=by simpa using L
    simp only[HM.go,bM,c0]at bp;obtain ⟨rfl,rfl,rfl⟩:=bp;simp only[K.rel]at lV;subst lV;have h5:=kt.2 dq (ca _) u;by_cases bu:a1.length=0
    ·have Db:a1=[]:=kZ bu;subst Db;have vw:news=[]:=kZ (by simpa using src.chunks.len (λx c=>bA.len t x c));subst vw;have eW:=DB (ty:=ty) eI (A:=none) (m:=0) (c:=0) src (ca _) (aq:=w) (λa _=>rfl) (λ_=>rfl);rw[eW];exact U9 g1.rel kt.1 h5
    ·obtain ⟨eF,eO,ah,aS,bV,dE,eW⟩:=TC (ty:=ty) eI (A:=none) (m:=0) (c:=0) (gv:=[]) src u (run_firstCells_none _ _ _ _ _) (by simpa using L);rw[eW];have jb:=ig.drew_alloc w (.cells (([]:List aA).toArray++news.toArray++eO) i.elem);have iq:=src.chunks.len (λx c=>bA.len t x c);have vq:(([]:List aA).toArray++news.toArray++eO).toList=news++eO.toList:=aU;have:=uT (φ:=dF) (ι:=ι) (n:=dq) g1.rel (e:=i.elem) (t:=t) (xs:=a1) (c:=eF) (b:=w.heap.size) jb (heap_alloc_new w.drew _) (ca _) u aS
      (by simp only[Array.size_append,List.size_toArray,List.length_nil,iq,bV,Nat.zero_add];rw[<-Nat.add_mul];congr 1;omega) (uC _ _)
      (by obtain ⟨us,mz⟩:=dE;exact Cells.of_chunks (by rw[vq];exact c4.append _ _ _ _ (src.chunks.imp λx c=>bA.mono (λ_ _ h=>h) (λb k ag=>jb.cell (qr g1.rel ag)) t x c) (mz _ _)) _)
      (by rw[vq,List.take_append_of_le_length (by rw[iq];exact ca _),ic (by rw[iq];exact ca _)];exact src.chunks.imp λx c=>bA.mono (λ_ _ h=>h) (λb k ag=>jb.cell (qr g1.rel ag)) t x c) kt.1 h5
     simpa using this
   ·rename_i ae o;simp only[HM.go]at bp;split at bp
    ·rename_i ch iU xs fz ab;obtain ⟨hD,l5,n3,cV,da⟩:=HM.go_bind_some bp;clear bp;obtain ⟨au,rfl,rfl⟩:=go_opt cV;obtain ⟨rfl,rfl⟩:=AW au;have s:=go_bif da;clear da;obtain ⟨lj,da⟩:=s;have lj:ch=i.elem:=by simpa using lj
     subst lj;have s:=go_chk2 da;clear da;obtain ⟨L,da⟩:=s;have L:(hD.length+a1.length)*i.bytes<=bC:=by simpa using L
     simp only[HM.go,bM,c0]at da;obtain ⟨rfl,rfl,rfl⟩:=da;obtain ⟨rfl,A,m,c,a8⟩:=lV;have cu:=g1.rel.obj o;rw[ab]at cu;obtain ⟨jC,cW,ba,gA,mV,_⟩:=cu;rw[a8]at gA;obtain ⟨rfl,rfl,rfl⟩:=iM gA;have:=abu (ty:=ty) g1.rel eI ab a8 (k:=m) (di:=A) (ca _) (λ_=>rfl) (λ_=>rfl) src (by rw[<-mV];exact L) kt.1 (kt.2 n3 (ca _) u);rw[a8]
     rwa [ic u]at this
    ·simp[HM.go]at bp
   ·rename_i ae o dO;cases afO:Vw x o
    case true=>
     rw[afO,aj]at bp;simp only[HM.go]at bp;split at bp
     ·rename_i ch iU xs fz ab;obtain ⟨hD,l5,n3,cV,da⟩:=HM.go_bind_some bp;clear bp;obtain ⟨au,rfl,rfl⟩:=go_opt cV;obtain ⟨rfl,rfl⟩:=AW au;have s:=go_bif da;clear da;obtain ⟨lj,da⟩:=s;simp only[bQ,eS]at lj;obtain ⟨lj,rfl⟩:=lj;have lj:ch=i.elem:=by simpa using lj
      subst lj;have s:=go_chk2 da;clear da;obtain ⟨L,da⟩:=s;have L:dO+a1.length<=hD.length:=by simpa using L
      simp only[HM.go,bM,c0]at da;obtain ⟨rfl,rfl,rfl⟩:=da;obtain ⟨A,m,c,di,a8,q,G,W,rfl,e6,de⟩:=lV;have cu:=g1.rel.obj o;rw[ab]at cu;obtain ⟨jC,cW,ba,gA,mV,_⟩:=cu;rw[a8]at gA;obtain ⟨rfl,rfl,rfl⟩:=iM gA;by_cases hk:c=0
      ·have bu:a1=[]:=kZ u;have Da:hD=[]:=kZ u;have avw:dO=0:=u;subst bu avw;have vw:news=[]:=kZ (by simpa using src.chunks.len (λx c=>bA.len iU x c));subst vw;have eW:=DB (ty:=ty) eI (A:=di) (m:=0) (c:=c-0) src aU (aq:=w) (λa _=>rfl) (λ_=>rfl);rw[eW];have he:(aH.arr i.elem iU (hD.take 0++[]++hD.drop (0+([]:List iU.den).length)) false)=aG l5 o:=by rw[ab];simp
       rw[he,Oq l5 o (gP (by rw[ab];rfl))];exact cL.pure (r:=.view iU o 0 (0+([]:List iU.den).length)) g1.rel (Be ⟨A,m,c,di,a8,aU,aU,W,aU,λh=>by simpa using e6 h,de⟩) (by
        intro j al;have:j=o:=by simpa [K.ids] using al
        subst this;rw[ab];rfl) rfl
      ·have Iz:di=A:=by rw[e6 hk];obtain ⟨b,dp,rfl⟩:=de hk;simp[hJ]
       obtain ⟨du,bf,a6,cq,ef,gS,iv⟩:=Pt (n:=n3) (k:=dO) (di:=A.map (·.add (dO*iU.size))) g1.rel ab a8 src.chunks L (λ_=>rfl);have eW:=DB (ty:=ty) eI (A:=di) (m:=dO) (c:=c-0) src u (aq:=du) (λa aV=>bf _ (by rw[<-Iz,aV];rfl)) (λaV=>a6 (by rw[<-Iz,aV];rfl));have ch:dO-0=dO:=Nat.sub_zero _;rw[ch,eW];refine ⟨_,du,dF,ι,rfl,cq,ef,gS,iv,Be ⟨A,m,c,di,a8,Nat.zero_le _,u,W,aU,λh=>by simpa using e6 h,de⟩,λj al=> ?_⟩;have:j=o:=by simpa [K.ids] using al
       subst this;rw[gO _ j _ j (Nat.le_of_lt (gP (by rw[ab];rfl))),if_pos rfl];rfl
     ·simp[HM.go]at bp
    rw[afO,av]at bp;simp only[HM.go]at bp;split at bp
    ·rename_i ch iU xs fz ab;obtain ⟨hD,l5,n3,cV,da⟩:=HM.go_bind_some bp;clear bp;obtain ⟨au,rfl,rfl⟩:=go_opt cV;obtain ⟨rfl,rfl⟩:=AW au;have s:=go_bif da;clear da;obtain ⟨lj,da⟩:=s;simp only[bQ,eS]at lj;obtain ⟨lj,rfl⟩:=lj;have lj:ch=i.elem:=by simpa using lj
     subst lj;have s:=go_chk2 da;clear da;obtain ⟨L,da⟩:=s;have L:((hD.take dO).length+a1.length)*i.bytes<=bC:=by simpa using L
     simp only[HM.go,bM,c0]at da;obtain ⟨rfl,rfl,rfl⟩:=da;obtain ⟨A,m,c,di,a8,q,G,W,rfl,e6,de⟩:=lV;have cu:=g1.rel.obj o;rw[ab]at cu;obtain ⟨jC,cW,ba,gA,mV,_⟩:=cu;rw[a8]at gA;obtain ⟨rfl,rfl,rfl⟩:=iM gA;have ad:(hD.take dO).length=dO:=by simp;omega
     rw[ad]at L;have:=abu (ty:=ty) g1.rel eI ab a8 (k:=dO) (di:=di) G (λh=>by cases h) (λhk=>by rw[e6 hk];obtain ⟨b,dp,rfl⟩:=de hk;simp[hJ]) src L kt.1 (kt.2 n3 (ca _) u)
     simpa using this
    ·simp[HM.go]at bp
   ·rename_i ae xs;obtain ⟨hD,l5,n3,cV,da⟩:=HM.go_bind_some bp;clear bp;obtain ⟨au,rfl,rfl⟩:=go_opt cV;obtain ⟨rfl,rfl⟩:=AW au;have s:=go_chk2 da;clear da;obtain ⟨L,da⟩:=s;simp only[bQ,dS]at L;simp only[HM.go,bM,c0]at da;obtain ⟨rfl,rfl,rfl⟩:=da;obtain ⟨A,m,rfl,pe⟩:=lV;obtain ⟨jC,cW,ba,gA,ad,hle,bg⟩:=pe;injection gA with gA _
    obtain ⟨rfl,rfl,rfl⟩:=iM gA;obtain ⟨gv,hold,s3⟩: ∃gv,(Builtin.firstCells ae.size m (.slice A m m)).run P w.drew=.ok gv.toArray w.drew/\c4 (bA dF w ae) hD gv:=by
     rcases bg with bg |⟨b,o,E0,rfl,gg,ag⟩
     ·subst bg;have:hD=[]:=kZ ad;subst this;refine ⟨[],?_,rfl⟩;cases A with
      |none=>exact run_firstCells_none _ _ _ _ _
      |some a=>simpa using run_firstCells_some (P:=P) w.drew ae.size 0 a 0 0 [] aU aU
     ·have m5:=ag.len (λx c=>bA.len ae x c);exact ⟨E0,run_firstCells_some (P:=P) w.drew ae.size m _ m m E0 (by rw[m5,ad]) (λj v al=>by rw[hJ];exact (gg j v al).2),ag⟩
    obtain ⟨eF,eO,ah,aS,bV,dE,eW⟩:=TC (ty:=ty) eI (A:=A) (m:=m) (c:=m) (gv:=gv) src u hold (by rw[<-ad];exact L.2);rw[eW];have jb:=ig.drew_alloc w (.cells (gv.toArray++news.toArray++eO) i.elem);have iq:=src.chunks.len (λx c=>bA.len ae x c);have oF:=s3.len (λx c=>bA.len ae x c);have fQ:=c4.append _ _ _ _ s3 src.chunks;have hlen:(hD++a1).length=m+a1.length:=by simp[ad]
    have vq:(gv.toArray++news.toArray++eO).toList=(gv++news)++eO.toList:=aU;have afA:(gv++news).length=(hD++a1).length*ae.size:=by simp[oF,iq,Nat.add_mul]
    have:=uT (φ:=dF) (ι:=ι) (n:=n3) g1.rel (e:=i.elem) (t:=ae) (xs:=hD++a1) (c:=eF) (b:=w.heap.size) jb (heap_alloc_new w.drew _) (ca _) (by rw[hlen];exact ah) aS
     (by simp only[Array.size_append,List.size_toArray,oF,iq,bV,ad];rw[<-Nat.add_mul,<-Nat.add_mul];congr 1;omega) (uC _ _)
     (by obtain ⟨us,mz⟩:=dE;exact Cells.of_chunks (by rw[vq];exact c4.append _ _ _ _ (fQ.imp λx c=>bA.mono (λ_ _ h=>h) (λb k ag=>jb.cell (qr g1.rel ag)) ae x c) (mz _ _)) _)
     (by rw[vq,List.take_append_of_le_length (by rw[afA];exact ca _),ic (by rw[afA];exact ca _)];exact fQ.imp λx c=>bA.mono (λ_ _ h=>h) (λb k ag=>jb.cell (qr g1.rel ag)) ae x c) kt.1 (kt.2 n3 (ca _) u)
    rwa [hlen]at this
   ·simp[HM.go]at bp
  ·simp[HM.go]at e
 ·simp[HM.go]at e
end
open Go.RowKit
section
variable {P:cA} {cx:cm} {φ ax:bP} {ι aJ:Nat->aA} {w aq:bm} {J:List aH} {n:Nat} {r:K} {aB:List aH} {aE:Nat}
structure Hr (P:cA) (φ:bP) (w:bm) (t:az) (a1:List t.den) (x:aA) (s:Nat) (news:List aA):Prop where
 len: ∀w,(Builtin.lenOf x).run P w=.ok a1.length w
 chunks:c4 (bA φ w t) (a1.take s) news
 cells:(Builtin.firstCells t.size (Nat.min a1.length s) x).run P w=.ok news.toArray w
theorem o1.first {t:az} {a1:List t.den} {v:aA} (h:o1 φ w t a1 v) (s:Nat): ∃news,Hr P φ w t a1 v s news:=by
 obtain ⟨A,c,news,rfl,au,ag,bg⟩:=h;have ku:=ag.take (λx c=>bA.len t x c) s;have im:=ku.len (λx c=>bA.len t x c);refine ⟨_,λw=>by simp[Builtin.lenOf],ku,?_⟩;have RJ:(a1.take s).length=Nat.min a1.length s:=by rw[eE,Nat.min_comm]
 rw[RJ]at im;rcases bg with bg |⟨b,o,rfl,fZ⟩
 ·have:a1=[]:=kZ bg;subst this;simp only[c4]at ag;subst ag;cases A with
  |none=>simp[Builtin.firstCells]
  |some a=>exact run_firstCells_some (P:=P) w t.size _ a 0 c _ im aU
 ·exact run_firstCells_some (P:=P) w t.size _ _ a1.length c _ im (λj ae al=>by
   rw[hJ];refine fZ j ae ?_;have bw:j<(news.take (s*t.size)).length:=(iJ.1 al).1;rw[eE]at bw
   rwa [List.getElem?_take_of_lt u]at al)
theorem arq (d:List UInt8) (s:Nat):Hr P φ w (.int .u8) (fl d) (.string ⟨⟨d⟩⟩) s ((d.take s).map λb=>.int .u8 (b.toNat:Int)):=by
 have eb:(⟨⟨d⟩⟩:ByteArray).size=d.length:=rfl;refine ⟨λw=>by simp[Builtin.lenOf,fl,eb],?_,?_⟩
 ·have e:(fl d).take s=fl (d.take s):=by simp[fl,List.map_take]
  rw[e];exact (Na (P:=P) (φ:=φ) (w:=w) (d.take s)).chunks
 ·unfold Builtin.firstCells;simp only[Sem.run_pure];congr 1;apply Array.ext';have ad:(fl d).length=d.length:=by simp[fl]
  rw[ad];simp only[ByteArray.data_extract,Array.toList_map,Array.toList_extract,List.extract_eq_take_drop,List.drop_zero,Nat.sub_zero];congr 1;rw[show d.length.min s=min d.length s from rfl,Nat.min_def];split
  ·rw[ic (ca _),ic u]
  ·rfl
theorem adh {I:eP} {cN:aA} {t:az} {a1:List t.den} (x:K) (s:Nat) (ao:I.t.cast? (.list t) I.x=some a1) (h:(∃d,cN=.string ⟨⟨d⟩⟩/\I=⟨.list (.int .u8),fl d⟩/\x.isStr=true)\/ ∀t xs,I=⟨.list t,xs⟩->o1 φ w t xs cN):
  ∃news,Hr P φ w t a1 cN s news:=by
 obtain ⟨ae,z⟩:=I;obtain ⟨e,rfl⟩:=rP ao;simp only at e;subst e;rcases h with ⟨d,rfl,h,_⟩|h
 ·injection h with q G
  injection q with q
  subst q;obtain rfl:=eq_of_heq G;exact ⟨_,arq d s⟩
 ·exact (h t _ rfl).first s
theorem adb [Env] {T dY ty e:bs} {t:az} {bytes:Nat} (ao:P.underlying T=some (.slice e)) (gE:sP P e t bytes) (h:ck φ ι w J) {o:Nat} {ch:bs} {xs:List t.den} (ab:aG J o=.arr ch t xs false) {A:Option Addr} {m c:Nat} (a8:ι o=.slice A m c) {aR dO:Nat} (q:aR<=dO) (G:dO<=xs.length)
  {di:Option Addr} {eF:Nat} (e6:dO-aR≠0->di=A.map (·.add (aR*t.size))) {a1:List t.den} {cN:aA} {news:List aA} (aM:Hr P φ w t a1 cN (dO-aR) news):
  cL φ ι w J n (.dat (.int .i64) ((a1.take (dO-aR)).length:Int)) (cc J o (.arr ch t (xs.take aR++a1.take (dO-aR)++xs.drop (aR+(a1.take (dO-aR)).length)) false)) n ((Builtin.copy_ #[T,dY] ty #[.slice di (dO-aR) eF,cN]).run P w):=by
 have eI:(a1.take (dO-aR)).length=Nat.min a1.length (dO-aR):=by rw[eE,Nat.min_comm]
 have hle:(a1.take (dO-aR)).length<=dO-aR:=by rw[eE];omega
 obtain ⟨du,bf,a6,cq,ef,gS,iv⟩:=Pt (P:=P) (n:=n) (k:=aR) (di:=di) h ab a8 aM.chunks u (λct=>e6 u);obtain ⟨dQ,z,g1,g2,g3,g4,g5,g6,g7,g8⟩:=gE;refine ⟨_,du,φ,ι,?_,cq,ef,gS,iv,h3 (cJ.int.2 rfl),by simp[K.ids]⟩;unfold Builtin.copy_;simp only[List.getElem?_toArray,List.getElem?_cons_zero,List.getElem?_cons_succ,Sem.run_bind,run_underlying ao,Result.andThen_ok,Sem.run_pure,aM.len];have eb: ∀w,(sizeOf e).run P w=.ok t.size w:=λw=>by simp[sizeOf,typeInfo,g1,g2]
 rw[eb];simp only[Result.andThen_ok];rw[aM.cells];simp only[Result.andThen_ok];rw[eI];cases di with
 |none=>simp[a6 rfl,goInt]
 |some a=>simp[bf a rfl,goInt]
theorem ap7 [Env] (tab:cT P cx) {T dY ty:bs} {I x:K} (e:(PE cx T I x).go J n=some (r,aB,aE)) (h:ck φ ι w J) {v cN:aA} (ao:I.rel φ ι w v) (an:x.rel φ ι w cN)
  (ls: ∀i∈I.ids,(aG J i).live=true) (fH: ∀i∈x.ids,(aG J i).live=true):
  cL φ ι w J n r aB aE ((Builtin.copy_ #[T,dY] ty #[v,cN]).run P w):=by
 unfold PE at e;split at e
 ·rename_i t o;have s:=go_bif e;clear e;obtain ⟨b9,e⟩:=s;obtain ⟨i,E,aX⟩:=hP b9;obtain ⟨pf,gE⟩:=kL tab E aX;obtain ⟨aui,H1,cG,M,V⟩:=HM.go_bind_some e;clear e;obtain ⟨rfl,dF,g1,CE⟩:=FY M h an fH;refine cL.after g1 ?_;have m1:=K.rel_step g1.step g1.keep ls ao;simp only[HM.go]at V;split at V
  ·rename_i ch ae xs fz ab;obtain ⟨a1,fg,dq,aY,bp⟩:=HM.go_bind_some V;clear V;obtain ⟨CB,rfl,rfl⟩:=go_opt aY;have s:=go_bif bp;clear bp;obtain ⟨L,bp⟩:=s;simp only[bQ,dS,eS]at L;obtain ⟨rfl,rfl⟩:=L;simp only[HM.go,bM,c0]at bp;obtain ⟨rfl,rfl,rfl⟩:=bp;obtain ⟨rfl,A,m,c,a8⟩:=m1;have cu:=g1.rel.obj o;rw[ab]at cu;obtain ⟨jC,cW,ba,bq,bU,dD,dx,bg⟩:=cu;rw[a8]at bq;obtain ⟨rfl,rfl,rfl⟩:=iM bq;subst bU;obtain ⟨news,aM⟩:=adh (P:=P) x xs.length CB CE;have:=adb (n:=dq) (ty:=ty) (dY:=dY) pf gE g1.rel ab a8 (aR:=0) (dO:=xs.length) (di:=A) (eF:=c) (Nat.zero_le _) (ca _) (λct=>by
    rcases bg with bg |⟨b,pre,cur,c7,rfl,_⟩
    ·omega
    ·simp[hJ]) aM
   rw[a8];simpa using this
  ·simp[HM.go]at V
 ·rename_i t o aR dO;have s:=go_bif e;clear e;obtain ⟨b9,e⟩:=s;obtain ⟨i,E,aX⟩:=hP b9;obtain ⟨pf,gE⟩:=kL tab E aX;obtain ⟨aui,H1,cG,M,V⟩:=HM.go_bind_some e;clear e;obtain ⟨rfl,dF,g1,CE⟩:=FY M h an fH;refine cL.after g1 ?_;have m1:=K.rel_step g1.step g1.keep ls ao;simp only[HM.go]at V;split at V
  ·rename_i ch ae xs fz ab;obtain ⟨a1,fg,dq,aY,bp⟩:=HM.go_bind_some V;clear V;obtain ⟨CB,rfl,rfl⟩:=go_opt aY;have s:=go_bif bp;clear bp;obtain ⟨L,bp⟩:=s;simp only[bQ,dS,eS]at L;obtain ⟨rfl,rfl⟩:=L;simp only[HM.go,bM,c0]at bp;obtain ⟨rfl,rfl,rfl⟩:=bp;obtain ⟨A,m,c,di,a8,q,G,W,rfl,e6,de⟩:=m1;have cu:=g1.rel.obj o;rw[ab]at cu;obtain ⟨jC,cW,ba,bq,bU,dD,dx,bg⟩:=cu;rw[a8]at bq;obtain ⟨rfl,rfl,rfl⟩:=iM bq;obtain ⟨news,aM⟩:=adh (P:=P) x (dO-aR) CB CE;exact adb (n:=dq) (ty:=ty) (dY:=dY) pf gE g1.rel ab a8 q u (λct=>e6 u) aM
  ·simp[HM.go]at V
 ·simp[HM.go]at e
end
open Go.RowKit
theorem Ve {α:Type} (ay aQ:List α) (a off k d a7:Nat) (q:off+k<=d) (G:a+d<=a7) (W:a7<=ay.length) (a8:aQ.length=k):
  (ay.take (a+off)++aQ++ay.drop (a+off+k)).take a7=(ay.take a7).take a++(((((ay.take a7).drop a).take d).take off)++aQ++((((ay.take a7).drop a).take d).drop (off+k)))++(ay.take a7).drop (a+d):=by
 apply List.ext_getElem?;intro j;simp only[List.getElem?_append,List.getElem?_take,List.getElem?_drop,et,eE,List.length_drop]
 grind
section
variable {P:cA} {cx:cm} {φ ax:bP} {ι aJ:Nat->aA} {w aq:bm} {J:List aH} {n:Nat} {r:K} {aB:List aH} {aE:Nat}
theorem N1 {I:eP} {aQ:List aA} (ao:bA φ w I.t I.x aQ): ∀(t:az) (p:List Nat) (x y:t.den) (cs:List aA),t.setAt x p I=some y->bA φ w t x cs->t.at_ p=some I.t/\bA φ w t y (cs.take (t.offAt p)++aQ++cs.drop (t.offAt p+I.t.size))
 |t,[],x,y,cs,af,au=>by
  have pn:I.t.cast? t I.x=some y:=by cases t<;>exact af
  obtain ⟨e,rfl⟩:=rP pn;obtain ⟨ae,z⟩:=I;simp only at e;subst e;refine ⟨rfl,?_⟩;simp only[az.offAt,List.take_zero,List.nil_append,Nat.zero_add];rw[List.drop_of_length_le (by rw[au.len];exact ca _),List.append_nil];exact ao
 | .pair a b,0::p,x,y,cs,af,au=>by
  obtain ⟨bj,ba,rfl,q,G⟩:=au;simp only[az.setAt]at af;obtain ⟨z,bK,rfl⟩:=ib.1 af;obtain ⟨bf,a6⟩:=N1 ao a p x.1 z bj bK q;have hle:=si bf;have ad:=q.len;refine ⟨by simp[az.at_,az.nth,bf],_,ba,?_,a6,G⟩;have M:(az.pair a b).offAt (0::p)=a.offAt p:=by simp[az.offAt,az.offs,az.nth]
  rw[M,List.take_append_of_le_length u,List.drop_append_of_le_length u];simp
 | .pair a b,(i+1)::p,x,y,cs,af,au=>by
  obtain ⟨bj,ba,rfl,q,G⟩:=au;simp only[az.setAt]at af;obtain ⟨z,bK,rfl⟩:=ib.1 af;obtain ⟨bf,a6⟩:=N1 ao b (i::p) x.2 z ba bK G;have ad:=q.len;refine ⟨by simpa [az.at_,az.nth] using bf,bj,_,?_,q,a6⟩;have M:(az.pair a b).offAt ((i+1)::p)=bj.length+b.offAt (i::p):=by simp[az.offAt,az.offs,az.nth,ad,Nat.add_assoc]
  rw[M,List.take_length_add_append,Nat.add_assoc,<-List.drop_drop,List.drop_left];simp
 | .bool,_::_,x,y,cs,af,au=>by simp[az.setAt]at af
 | .int _,_::_,x,y,cs,af,au=>by simp[az.setAt]at af
 | .str,_::_,x,y,cs,af,au=>by simp[az.setAt]at af
 | .opq,_::_,x,y,cs,af,au=>by simp[az.setAt]at af
 | .unit,_::_,x,y,cs,af,au=>by simp[az.setAt]at af
 | .list _,_::_,x,y,cs,af,au=>by simp[az.setAt]at af
theorem acz: ∀(ae:az) (z:ae.den) (cs:List aA),ae.chain=true->bA φ w ae z cs->
  K.relL φ ι w ((ae.parts z).map λI=>K.dat I.t I.x) cs/\K.fitsL ((ae.parts z).map λI=>K.dat I.t I.x) ae=true/\K.idsL ((ae.parts z).map λI=>K.dat I.t I.x)=[]
 | .unit,z,cs,_,h=>⟨h,by simp[az.parts,K.fitsL],rfl⟩
 | .pair a b,z,cs,au,⟨bj,ba,e,q,G⟩=>by
  obtain ⟨bf,a6,cq⟩:=acz b z.2 ba au G;obtain ⟨dH,ds⟩:=cJ.of q;refine ⟨⟨_,ba,by rw[ds];exact e,h3 dH,bf⟩,?_,?_⟩
  ·simp only[az.parts,List.map_cons,K.fitsL,K.fits,a6];simp
  ·simp only[az.parts,List.map_cons,K.idsL,K.ids,cq];rfl
 | .bool,_,_,h,_=>by simp[az.chain]at h
 | .int _,_,_,h,_=>by simp[az.chain]at h
 | .str,_,_,h,_=>by simp[az.chain]at h
 | .opq,_,_,h,_=>by simp[az.chain]at h
 | .list _,_,_,h,_=>by simp[az.chain]at h
theorem aty {ae:az} (h:ae.chain=true):ae.isAgg=true:=by cases ae<;>first |rfl |(simp[az.chain]at h)
theorem ath {x:K} {l:List K} {t:az} {v:aA} (an:x.rel φ ι w v) (aM:x.fits t=true) (ab:x.open_=some l): ∃cs,v=.agg cs/\K.relL φ ι w l cs.toList/\K.fitsL l t=true/\ ∀i∈K.idsL l,i∈x.ids:=by
 unfold K.open_ at ab;split at ab
 ·rename_i m;injection ab with ab
  subst ab;obtain ⟨cs,rfl,h⟩:=an;exact ⟨cs,rfl,h,by simpa [K.fits] using aM,by simp[K.ids]⟩
 ·rename_i ae z;have e:ae=t:=by simpa [K.fits] using aM
  subst e;by_cases aV:ae.chain=true
  ·simp only[aV,aj,bM]at ab;subst ab;obtain ⟨cs,rfl⟩:=uW (an.2.trans (aty aV));obtain ⟨bf,a6,cq⟩:=acz (ι:=ι) ae z cs.toList aV an.1;exact ⟨cs,rfl,bf,a6,by rw[cq];simp⟩
  ·simp[aV]at ab
 ·cases ab
theorem adt: ∀(l:List K) (t:az) (cs:List aA) (i:Nat) (d:K),K.relL φ ι w l cs->K.fitsL l t=true->l[i]? =some d->
  ∃ae aQ,t.nth i=some ae/\d.rel φ ι w aQ/\d.fits ae=true/\aQ.cells.toList=(cs.drop (t.offs i)).take ae.size/\ ∀j∈d.ids,j∈K.idsL l
 |[],_,_,_,_,_,_,h=>by simp at h
 |a::l,t,cs,i,d,⟨v,ba,e,q,G⟩,aM,E=>by
  subst e;cases t with
  |pair p s=>
   simp only[K.fitsL,bQ]at aM;obtain ⟨g1,g2⟩:=K.rel_fits a p v q aM.1;cases i with
   |zero=>
    simp only[List.getElem?_cons_zero,bM]at E;subst E;refine ⟨p,v,rfl,q,aM.1,?_,λj al=>by simp[K.idsL,al]⟩;simp only[az.offs,List.drop_zero];rw[<-g1,show v.cells.size=v.cells.toList.length by simp,List.take_left]
   |succ i=>
    obtain ⟨ae,aQ,bf,a6,cq,ef,iv⟩:=adt l s ba i d G aM.2 (by simpa using E);refine ⟨ae,aQ,bf,a6,cq,?_,λj al=>by simp[K.idsL,iv j al]⟩;simp only[az.offs];rw[<-g1,show v.cells.size=v.cells.toList.length by simp,<-List.drop_drop,List.drop_left];exact ef
  |_=>simp[K.fitsL]at aM
theorem ZB {y:K} {hf:aA} (bu:y.rel φ ι w hf): ∀(p:List Nat) (t ae:az) (x qx:K) (v:aA),x.rel φ ι w v->x.fits t=true->K.setPath p x y=some qx->t.at_ p=some ae->y.fits ae=true->
  ∃lz,qx.rel φ ι w lz/\qx.fits t=true/\lz.cells.toList=v.cells.toList.take (t.offAt p)++hf.cells.toList++v.cells.toList.drop (t.offAt p+ae.size)/\ ∀i∈qx.ids,i∈x.ids\/i∈y.ids
 |[],t,ae,x,qx,v,an,aM,af,aX,hu=>by simp only[K.setPath,bM]at af;simp only[az.at_,bM]at aX;subst af aX;have ad:=(K.rel_fits x t v an aM).1;refine ⟨hf,bu,hu,?_,λi E=>.inr E⟩;simp only[az.offAt,List.take_zero,List.nil_append,Nat.zero_add];rw[List.drop_of_length_le (by rw[iz,ad];exact ca _),List.append_nil]
 |i::p,t,ae,x,qx,v,an,aM,af,aX,hu=>by
  simp only[K.setPath]at af;split at af
  ·rename_i l ab;split at af
   ·rename_i d avP;split at af
    ·rename_i gJ pn;injection af with af
     subst af;obtain ⟨cs,rfl,my,lR,afo⟩:=ath an aM ab;obtain ⟨e,aQ,bf,a6,cq,ef,gS⟩:=adt l t cs.toList i d my lR avP;simp only[az.at_,bf]at aX;obtain ⟨lz,dI,cW,eX,lZ⟩:=ZB bu p e ae d gJ aQ a6 cq pn aX hu;obtain ⟨bq,bU⟩:=Pu l t cs.toList i e gJ lz my lR bf dI cW;have hle:=si aX;have RD:=GU bf;have jd:cs.toList.length=t.size:=(K.relL_fits l t _ my lR).1;have Dc:hf.cells.toList.length=ae.size:=by rw[<-(K.rel_fits y ae hf bu hu).1];simp
     refine ⟨.agg (cs.toList.take (t.offs i)++lz.cells.toList++cs.toList.drop (t.offs i+e.size)).toArray,Hh ⟨_,rfl,by simpa using bq⟩,by simpa [K.fits] using bU,?_,?_⟩
     ·have af:=Ve cs.toList hf.cells.toList (t.offs i) (e.offAt p) ae.size e.size t.size hle RD (by rw[jd];exact ca _) Dc;have R2:cs.toList.take t.size=cs.toList:=ic (by rw[jd];exact ca _);rw[R2]at af;have hlen:(cs.toList.take (t.offs i+e.offAt p)++hf.cells.toList++cs.toList.drop (t.offs i+e.offAt p+ae.size)).length=t.size:=by simp only[et,eE,List.length_drop,jd,Dc];omega
      rw[ic (by rw[hlen];exact ca _)]at af;show cs.toList.take (t.offs i)++lz.cells.toList++cs.toList.drop (t.offs i+e.size)=cs.toList.take (t.offAt (i::p))++hf.cells.toList++cs.toList.drop (t.offAt (i::p)+ae.size);rw[eX,ef];simp only[az.offAt,bf];rw[af]
     ·intro j al;have iF:j∈K.idsL (l.set i gJ):=by simpa [K.ids] using al
      rcases ado l i gJ j iF with q |q
      ·exact .inl (afo j q)
      ·rcases lZ j q with G |G
       ·exact .inl (afo j (gS j G))
       ·exact .inr G
    ·cases af
   ·cases af
  ·cases af
theorem ZA (tab:cT P cx) {T:bs} {ti:gq} (E:cx.ti T=some ti) {v:aA} (a8:v.cells.size=ti.ty.size) {b o:Nat} {e:bs} {c7:Nat×Nat} {cur:Array aA} (L:w.heap[b]? =some (.cells cur e c7)) (aM:sR c7 cur.size)
  (hle:o+ti.ty.size<=cur.size) (q: ∀ae∈v.cells.toList,ae.oneCell'=true):
  ∃aq,(storeVar T ⟨b,o,none⟩ v).run P w=.ok () aq/\aq.heap[b]? =some (.cells (cur.toList.take o++v.cells.toList++cur.toList.drop (o+ti.ty.size)).toArray e c7)/\jk w aq b:=by
 obtain ⟨aq,G,W,aC⟩:=J8 P o v.cells.toList 0 cur w L aM (by simp[a8];exact hle) q;refine ⟨aq,?_,?_,aC⟩
 ·unfold storeVar;simp only[Sem.run_bind,EO tab E,Result.andThen_ok];rw[if_neg (by simp[a8])];exact G
 ·rw[W];simp[a8]
theorem aqn [Env] (tab:cT P cx) {T:bs} {a x:K} (e:(Py cx T a x).go J n=some (r,aB,aE)) (h:ck φ ι w J) {mH cN:aA} (aV:a.rel φ ι w mH) (an:x.rel φ ι w cN)
  (jL: ∀i∈a.ids,(aG J i).live=true) (fH: ∀i∈x.ids,(aG J i).live=true):
  r=.undef/\ ∃aq ax aJ,(Instr.storeAt T mH cN).run P w=.ok () aq/\ck ax aJ aq aB/\Step φ ι w J ax aJ aq aB/\eo ι J aJ aB/\iW J n aB aE:=by
 unfold Py at e;split at e
 ·rename_i o d i p;have s:=go_bif e;clear e;obtain ⟨b9,e⟩:=s;obtain ⟨ti,fu,gg⟩:=GR b9;simp only[HM.go]at e;split at e
  ·obtain ⟨I,H1,cG,M,V⟩:=HM.go_bind_some e;clear e;obtain ⟨rfl,dF,g1,a8⟩:=pm x φ cN J n I H1 cG M h an fH;have yk:=K.rel_step g1.step g1.keep jL aV;simp only[HM.go]at V;split at V
   ·rename_i ch t xs fz ab;have s:=go_bif V;clear V;obtain ⟨L,V⟩:=s;simp only[bQ,dS,eS]at L;obtain ⟨⟨rfl,rfl⟩,auR⟩:=L;obtain ⟨aAs,I3,R3⟩:=hP auR;rw[fu]at I3;injection I3 with I3
    subst I3;obtain ⟨y,fg,dq,aY,bp⟩:=HM.go_bind_some V;clear V;obtain ⟨ln,rfl,rfl⟩:=go_opt aY;simp only[HM.go,bM,c0]at bp;obtain ⟨rfl,rfl,rfl⟩:=bp;obtain ⟨b,azM,c7,dp,rfl,bq,bU,dD,dx,gw,hC,ng,s8⟩:=ad2 g1.rel ab yk;have cu:=g1.rel.obj o;rw[ab]at cu;obtain ⟨m,c,pre,cur,aeB,aF,z2,z3,z4,z5,kX,gk,ob,z0,z9,azw,azx,z12⟩:=cu.blk_arr hC;rw[bq]at kX;injection kX with kX
    injection kX with kX _ azy
    subst kX azy;have kN:dp=pre.size:=by rw[<-s8,aF];rfl
    subst kN;rw[aj0]at ng;rw[Array.size_append]at gw;obtain ⟨bf,a6⟩:=N1 a8.1 d p _ y _ ln ng;have eN:cN.cells.toList.length=I.t.size:=a8.1.len;have hle:=si bf;have jd:(i+1)*d.size=i*d.size+d.size:=by rw[Nat.add_mul,Nat.one_mul]
    obtain ⟨aq,ah,aS,bV⟩:=ZA (w:=w) tab fu (v:=cN) (b:=b) (o:=pre.size+i*d.size+d.offAt p) (by rw[R3];simpa using eN) bq bU (by rw[R3,Array.size_append];omega) (a8.1.one _ _ _);have lU: ∀k,¬dF b k:=λk ag=>by have:=(azx k ag).1;cases this
    have IT:m*d.size<=cur.size:=by rw[gk];exact gZ _ z3
    have az5:(i+1)*d.size<=m*d.size:=gZ _ u;rw[R3,Nat.add_assoc pre.size (i*d.size) (d.offAt p),Oz]at aS;have eb:((cur.toList.take (i*d.size+d.offAt p)++cN.cells.toList++cur.toList.drop (i*d.size+d.offAt p+I.t.size)).toArray).size=cur.size:=by simp only[List.size_toArray,et,eE,List.length_drop,iz,eN];omega
    have fZ: ∀bZ k,dF bZ k->aq.cell? ⟨bZ,k,none⟩=w.cell? ⟨bZ,k,none⟩:=λbZ k ag=>bV.cell (λe=>lU k (e▸ag))
    have oG: ∀v∈(cur.toList.take (i*d.size+d.offAt p)++cN.cells.toList++cur.toList.drop (i*d.size+d.offAt p+I.t.size)).toArray.toList,v.oneCell'=true:=by
     intro v fa;simp only[dn]at fa;rcases fa with (fa |fa)|fa
     ·exact z9 v (List.mem_of_mem_take fa)
     ·exact a8.1.one _ _ _ v fa
     ·exact z9 v (List.mem_of_mem_drop fa)
    have au8:c4 (bA dF aq d) (xs.set i y) ((cur.toList.take (i*d.size+d.offAt p)++cN.cells.toList++cur.toList.drop (i*d.size+d.offAt p+I.t.size)).toArray.toList.take (m*d.size)):=by
     have vC:=Ve cur.toList cN.cells.toList (i*d.size) (d.offAt p) I.t.size d.size (m*d.size) hle u (by simpa using IT) eN;show c4 _ _ (List.take _ (cur.toList.take (i*d.size+d.offAt p)++cN.cells.toList++cur.toList.drop (i*d.size+d.offAt p+I.t.size)));rw[vC];have nD:((cur.toList.take (m*d.size)).drop (i*d.size)).take d.size=(cur.toList.drop (i*d.size)).take d.size:=by rw[List.drop_take,List.take_take,Nat.min_eq_left u]
     rw[<-nD]at a6;exact (c4.set (λx c=>bA.len d x c) xs (cur.toList.take (m*d.size)) azw i y _ dx a6).imp λx c=>bA.mono (λ_ _ h=>h) fZ d x c
    have rj:d=.int .u8\/ ∃eO:List d.den,c4 (bA dF aq d) eO ((cur.toList.take (i*d.size+d.offAt p)++cN.cells.toList++cur.toList.drop (i*d.size+d.offAt p+I.t.size)).toArray.toList.drop (m*d.size)):=by
     have da:((cur.toList.take (i*d.size+d.offAt p)++cN.cells.toList++cur.toList.drop (i*d.size+d.offAt p+I.t.size)).toArray).toList.drop (m*d.size)=cur.toList.drop (m*d.size):=by rw[<-eN];exact N3 (by rw[iz];omega) u
     rw[da];exact z9.rest.imp id λ⟨eO,bK⟩=>⟨eO,bK.imp λx c=>bA.mono (λ_ _ h=>h) fZ d x c⟩
    have dC:jE dF ι aq o (.arr ch d (xs.set i y) false):=
     ⟨some ⟨b,pre.size,none⟩,m,c,aF,by simpa using z2,z3,z4,.inr ⟨b,pre,_,c7,rfl,aS,by rw[eb,gk],by rw[eb];exact ob,z0,⟨oG,rj⟩,au8,λk ag=>absurd ag (lU k),λbK=>by cases bK⟩⟩
    obtain ⟨kV,pG,rW,Ed⟩:=BI (n:=dq) (dh:=.arr ch d (xs.set i y) false) g1.rel (by rw[ab];rfl) hC bV lU dC (by simp[aH.ids]) rfl;exact ⟨rfl,aq,dF,ι,by simp[Instr.storeAt,Instr.sureAddr,ah],kV,g1.step.trans pG,g1.keep.trans rW,(g1.nx _).trans Ed⟩
   ·simp[HM.go]at V
  ·obtain ⟨y,H1,cG,M,V⟩:=HM.go_bind_some e;clear e;obtain ⟨rfl,dF,g1,a8,vT⟩:=NS M h an fH;have yk:=K.rel_step g1.step g1.keep jL aV;simp only[HM.go]at V;split at V
   ·rename_i U t z ab;have s:=go_bif V;clear V;obtain ⟨L,V⟩:=s;have L:d=t:=by simpa using L
    subst L;rw[gg]at V;simp only at V;have s:=go_bif V;clear V;obtain ⟨s5,V⟩:=s;obtain ⟨mI,fg,dq,aY,bp⟩:=HM.go_bind_some V;clear V;obtain ⟨ln,rfl,rfl⟩:=go_opt aY;simp only[HM.go,bM,c0]at bp;obtain ⟨rfl,rfl,rfl⟩:=bp;obtain ⟨b,cur,c7,ae,rfl,bq,bU,dD,dx,gw,rfl,ng,zl⟩:=ad3 g1.rel ab yk;obtain ⟨iU,dI,cW,eX,lZ⟩:=ZB a8 p d ti.ty z mI ae gw ng ln gg s5;have C8:cN.cells.size=ti.ty.size:=(K.rel_fits y ti.ty cN a8 s5).1;have hle:=si gg;obtain ⟨aq,ah,aS,bV⟩:=ZA (w:=w) tab fu (v:=cN) (b:=b) (o:=d.offAt p) C8 bq dD u (K.rel_one y ti.ty cN a8 s5);have cu:=g1.rel.obj o;rw[ab]at cu;have lU: ∀k,¬dF b k:=by
     obtain ⟨bZ,_,_,_,iV,_,_,_,_,_,_,_,azt⟩:=cu;rw[iV]at zl;have:bZ=b:=by simpa [dN] using zl
     subst this;exact azt
    have fZ: ∀bZ k,dF bZ k->aq.cell? ⟨bZ,k,none⟩=w.cell? ⟨bZ,k,none⟩:=λbZ k ag=>bV.cell (λe=>lU k (e▸ag))
    have nM:iU.cells=(ae.cells.toList.take (d.offAt p)++cN.cells.toList++ae.cells.toList.drop (d.offAt p+ti.ty.size)).toArray:=by apply Array.ext';rw[eX]
    have mz:=(K.rel_fits mI d iU dI cW).1;obtain ⟨n2,oV,tZ,EH⟩:=BI (n:=dq) (dh:=.box U d mI) g1.rel (by rw[ab];rfl) zl bV lU
     ⟨b,iU.cells,c7,iU,by
      obtain ⟨bZ,_,_,_,iV,_⟩:=cu;rw[iV]at zl ⊢;have:bZ=b:=by simpa [dN] using zl
      rw[this],by rw[aS,nM],mz,by rw[mz,<-bU];exact dD,K.rel_one mI d iU dI cW,K.rel_mono (λ_ _ h=>h) fZ mI iU (λ_ _=>rfl) dI,rfl,cW,lU⟩
     (λj al=>by
      rcases lZ j al with q |q
      ·exact g1.rel.idsB o _ _ _ ab j q
      ·exact vT j q) rfl
    exact ⟨rfl,aq,dF,ι,by simp[Instr.storeAt,Instr.sureAddr,ah],n2,g1.step.trans oV,g1.keep.trans tZ,(g1.nx _).trans EH⟩
   ·simp[HM.go]at V
  ·simp[HM.go]at e
 ·simp[HM.go]at e
end
open Go.RowKit
section
variable {P:cA} {cx:cm} {φ ax:bP} {ι aJ:Nat->aA} {w aq:bm} {J:List aH} {n:Nat} {r:K} {aB:List aH} {aE:Nat}
def qJ (x:K) (v:aA) (m:Nat):Prop:=if x.isStr then ∃d,v=.string ⟨⟨d⟩⟩/\d.length=m else ∃A c,v=.slice A m c
theorem ar5 [Env] {x:K} {m:Nat} {v:aA} (e:(lenOf x).go J n=some (m,aB,aE)) (h:ck φ ι w J) (an:x.rel φ ι w v):aB=J/\aE=n/\qJ x v m:=by
 unfold lenOf at e;split at e
 ·obtain ⟨rfl,rfl,rfl⟩:=go_ret e;obtain ⟨A,m,c,rfl,ad,_⟩:=cJ.list an;exact ⟨rfl,rfl,by simp only[qJ,K.isStr,Bool.false_eq_true,if_false];exact ⟨A,c,by rw[ad]⟩⟩
 ·obtain ⟨rfl,rfl,rfl⟩:=go_ret e;obtain rfl:=cJ.str.1 an;exact ⟨rfl,rfl,by simp only[qJ,K.isStr,if_true];exact ⟨_,rfl,rfl⟩⟩
 ·obtain ⟨rfl,rfl,rfl⟩:=go_ret e;obtain ⟨A,m,rfl,au⟩:=an;obtain ⟨jC,cW,ba,M,ad,_⟩:=au;injection M with M _
  obtain ⟨rfl,rfl,rfl⟩:=iM M;exact ⟨rfl,rfl,by simp only[qJ,K.isStr,Bool.false_eq_true,if_false];exact ⟨A,m,by rw[ad]⟩⟩
 ·obtain ⟨rfl,rfl,rfl⟩:=go_ret e;simp only[K.rel]at an;subst an;exact ⟨rfl,rfl,by simp only[qJ,K.isStr,Bool.false_eq_true,if_false];exact ⟨_,_,rfl⟩⟩
 ·rename_i t o;simp only[HM.go]at e;split at e
  ·rename_i ch ae xs fz hm;obtain ⟨kJ,ab,rfl⟩:=oR hm;obtain ⟨rfl,rfl,rfl⟩:=go_ret e;obtain ⟨rfl,A,m,c,a8⟩:=an;have cu:=h.obj o;rw[ab]at cu;obtain ⟨jC,aE,eF,M,V,_⟩:=cu;rw[a8]at M;obtain ⟨rfl,rfl,rfl⟩:=iM M;exact ⟨rfl,rfl,by simp only[qJ,K.isStr,Bool.false_eq_true,if_false];exact ⟨A,c,by rw[a8,V]⟩⟩
  ·simp[HM.go]at e
 ·obtain ⟨rfl,rfl,rfl⟩:=go_ret e;obtain ⟨A,m,c,di,a8,q,G,W,rfl,e6,_⟩:=an;exact ⟨rfl,rfl,by simp only[qJ,K.isStr,Bool.false_eq_true,if_false];exact ⟨di,_,rfl⟩⟩
 ·simp[HM.go]at e
theorem arJ [Env] (tab:cT P cx) {T ty:bs} {x:K} {cN:aA} (e:(bif qS cx T&&(PO cx T==x.isStr) then (lenOf x).bind λn=>HM.ret (.dat (.int .i64) (n:Int)) else .fail).go J n=some (r,aB,aE)) (h:ck φ ι w J) (an:x.rel φ ι w cN):
  cL φ ι w J n r aB aE ((Builtin.len_ #[T] ty #[cN]).run P w):=by
 have s:=go_bif e;clear e;obtain ⟨L,e⟩:=s;simp only[bQ,beq_iff_eq]at L;obtain ⟨fm,eG⟩:=L;obtain ⟨m,H1,cG,M,V⟩:=HM.go_bind_some e;obtain ⟨rfl,rfl,ad⟩:=ar5 M h an;obtain ⟨rfl,rfl,rfl⟩:=go_ret V;refine cL.plain h (Plain.int _ _) ?_;unfold qS at fm;unfold PO at eG;split at fm
 ·rename_i j al;rw[al]at eG;simp only at eG;split at fm
  ·rename_i t aX;rw[aX]at eG;have:x.isStr=false:=by rw[<-eG];simp
   simp only[qJ,this,Bool.false_eq_true,if_false]at ad;obtain ⟨A,c,rfl⟩:=ad;have ao:=(kL tab al aX).1;simp[Builtin.len_,run_underlying ao,goInt]
  ·rename_i aX;rw[aX]at eG;have:x.isStr=true:=by rw[<-eG];simp
   simp only[qJ,this,if_true]at ad;obtain ⟨d,rfl,rfl⟩:=ad;have ao:=rY tab al aX;have af:(⟨⟨d⟩⟩:ByteArray).size=d.length:=rfl;simp[Builtin.len_,run_underlying ao,goInt,af]
  ·cases fm
 ·cases fm
theorem KR {fS:Bool}: ∀(l:List K) (x:K) (aQ:List aA) (v:aA) (r:K),(xG fS x l).go J n=some (r,aB,aE)->K.relT φ ι w l aQ->x.rel φ ι w v->(∀i∈x.ids,(aG J i).live=true)->
  aB=J/\aE=n/\ ∃ae,(aQ.foldlM (if fS then Builtin.max2 else Builtin.min2) v).run P w=.ok ae w/\r.rel φ ι w ae/\ ∀i∈r.ids,(aG J i).live=true
 |[],x,aQ,v,r,e,ad,an,fH=>by
  have ee:(HM.ret x).go J n=some (r,aB,aE):=by cases x<;>exact e
  obtain ⟨rfl,rfl,rfl⟩:=go_ret ee;simp only[K.relT]at ad;subst ad;exact ⟨rfl,rfl,v,aU,an,fH⟩
 |y::l,x,aQ,v,r,e,ad,an,fH=>by
  obtain ⟨hf,wG,rfl,bu,ad⟩:=ad;unfold xG at e;split at e
  ·rename_i heq;cases heq
  ·rename_i k a eD b fG heq;injection heq with q G
   subst q G;have s:=go_bif e;clear e;obtain ⟨ag,e⟩:=s;have ag:k=eD:=by simpa using ag
   subst ag;obtain rfl:=cJ.int.1 an;obtain rfl:=cJ.int.1 bu;obtain ⟨q,G,ae,hu,ar,rH⟩:=KR l _ wG (.int k (if (if fS then a<b else b<a) then b else a)) r e ad (h3 (cJ.int.2 rfl)) (by simp[K.ids]);refine ⟨q,G,ae,?_,ar,rH⟩;rw[List.foldlM_cons];cases fS
   ·simp only[Bool.false_eq_true,if_false]at hu ⊢;simp only[Builtin.min2,Sem.run_bind,Sem.run_pure,Result.andThen_ok];exact hu
   ·simp only[if_true]at hu ⊢;simp only[Builtin.max2,Sem.run_bind,Sem.run_pure,Result.andThen_ok,gt_iff_lt];exact hu
  ·rename_i a b fG heq;injection heq with q G
   subst q G;obtain rfl:=cJ.str.1 an;obtain rfl:=cJ.str.1 bu;obtain ⟨q,G,ae,hu,ar,rH⟩:=KR l _ wG (.string ⟨⟨bif (bif fS then !(Op.bytesLess a b) else (Op.bytesLess a b||decide (a=b))) then a else b⟩⟩) r e ad (h3 (cJ.str.2 rfl)) (by simp[K.ids]);refine ⟨q,G,ae,?_,ar,rH⟩;rw[List.foldlM_cons];cases fS
   ·simp only[Bool.false_eq_true,if_false,av]at hu ⊢;simp only[Builtin.min2,Op.stringOp,qq,uH,Sem.run_bind,Sem.run_pure,Result.andThen_ok,asBool];cases L:(Op.bytesLess a b||decide (a=b))<;>simp only[L,aj,av]at hu<;>simpa using hu
   ·simp only[if_true,aj]at hu ⊢;simp only[Builtin.max2,Op.stringOp,qq,uH,Sem.run_bind,Sem.run_pure,Result.andThen_ok,asBool];cases L:(Op.bytesLess a b)<;>simp only[L,cK,cH,aj,av]at hu<;>simpa using hu
  ·simp[HM.go]at e
end
open Go.RowKit
section
variable {P:cA} {cx:cm} {φ ax:bP} {ι aJ:Nat->aA} {w aq:bm} {J:List aH} {n:Nat} {r:K} {aB:List aH} {aE:Nat}
theorem atw (w:bm) (e:bs) (d:List UInt8) (af:d.length<=bC):
  ∃cur c7,ig w (Lib.bytesWorld w e ⟨⟨d⟩⟩)/\(Lib.bytesWorld w e ⟨⟨d⟩⟩).heap[w.heap.size]? =some (.cells cur e c7)/\cur.size=grownCap w d.length 0 e/\sR c7 cur.size/\(∀v∈cur.toList,v.oneCell'=true)/\
   cur.toList.take d.length=d.map λb=>Value.int .u8 (b.toNat:Int):=by
 have s6:=grownCap_ge w d.length 0 e;have au:Lib.bytesCells w e ⟨⟨d⟩⟩=(⟨d⟩:Array UInt8).map (λb=>Value.int .u8 (b.toNat:Int))++Array.replicate (grownCap w d.length 0 e-d.length) (.int .u8 0):=rfl;have eb:(Lib.bytesCells w e ⟨⟨d⟩⟩).size=grownCap w d.length 0 e:=by rw[au];simp;omega
 have bg:(Lib.bytesWorld w e ⟨⟨d⟩⟩).heap[w.heap.size]? =some (.cells (Lib.bytesCells w e ⟨⟨d⟩⟩) e ((Lib.bytesCells w e ⟨⟨d⟩⟩).size,(Lib.bytesCells w e ⟨⟨d⟩⟩).size+1)):=by unfold Lib.bytesWorld World.freeze;rw[if_neg u];have bW:(w.drew.alloc (.cells (Lib.bytesCells w e ⟨⟨d⟩⟩) e)).heap[w.heap.size]? =some (.cells (Lib.bytesCells w e ⟨⟨d⟩⟩) e (0,0)):=heap_alloc_new w.drew _;simp only[Array.getElem?_modify,if_pos,bW];rfl
 refine ⟨_,_,⟨?_,?_,?_,?_,λb L=> ?_⟩,bg,eb,?_,?_,?_⟩
 ·unfold Lib.bytesWorld World.freeze;rw[if_neg u];rfl
 ·unfold Lib.bytesWorld World.freeze;rw[if_neg u];rfl
 ·unfold Lib.bytesWorld World.freeze;rw[if_neg u];rfl
 ·rw[Lib.bytesWorld_size];omega
 ·exact Lib.bytesWorld_at_old w e _ b L
 ·intro k ag h;omega
 ·intro v a8;rw[au]at a8;simp only[Array.toList_append,Array.toList_map,Array.toList_replicate,dn,List.mem_map]at a8;rcases a8 with ⟨b,_,rfl⟩|a8
  ·rfl
  ·rw[List.eq_of_mem_replicate a8];rfl
 ·rw[au];simp
theorem abz {φ:bP} {w:bm} {k:IntKind}: ∀{xs:List Int} {a1:List aA},c4 (bA φ w (.int k)) xs a1->a1=xs.map (Value.int k)
 |[],a1,h=>by simpa [c4] using h
 |x::xs,a1,h=>by obtain ⟨bj,ba,rfl,q,G⟩:=h;have dt:bj=[.int k x]:=q;rw[dt,abz G];rfl
theorem ap6 [Env] (tab:cT P cx) {S T:bs} {x:K} {cN:aA} (e:(PD cx S T x).go J n=some (r,aB,aE)) (h:ck φ ι w J) (an:x.rel φ ι w cN) (fH: ∀i∈x.ids,(aG J i).live=true) (eg:jj J n aE):
  cL φ ι w J n r aB aE ((convert S T cN).run P w):=by
 unfold PD at e;split at e
 ·rename_i i j E al;split at e
  ·rename_i dp k q G;split at e
   ·obtain ⟨rfl,rfl,rfl⟩:=go_ret e;obtain rfl:=cJ.int.1 an;have d1:=GQ tab E q;have d2:=GQ tab al G;exact cL.plain h (Plain.int _ _) (by simp[convert,run_underlying d1,run_underlying d2,Conv.intToInt])
   ·simp[HM.go]at e
  ·rename_i q G;split at e
   ·obtain ⟨rfl,rfl,rfl⟩:=go_ret e;obtain rfl:=cJ.str.1 an;have d1:=rY tab E q;have d2:=rY tab al G;exact cL.plain h (Plain.str _) (by simp[convert,run_underlying d1,run_underlying d2])
   ·simp[HM.go]at e
  ·rename_i q G;split at e
   ·rename_i a;have s:=go_chk2 e;clear e;obtain ⟨L,e⟩:=s;have L:a.length<=bC:=by simpa using L
    simp only[HM.go,bM,c0]at e;obtain ⟨rfl,rfl,rfl⟩:=e;obtain rfl:=cJ.str.1 an;have d1:=rY tab E q;have d2:=kL tab al G;obtain ⟨ae,hu,R6⟩:=acv tab al G;have d3:=GQ tab hu R6;rw[Lib.run_convert_string_bytes w S T j.elem ⟨⟨a⟩⟩ d1 d2.1 d3];obtain ⟨cur,c7,g,bg,eb,aM,dt,jJ⟩:=atw w j.elem a L;have hlen:(fl a).length=a.length:=by simp[fl]
    have s6:=grownCap_ge w a.length 0 j.elem;have vB:bC=140737488355328:=rfl;have:=uT (φ:=φ) (ι:=ι) (n:=n) h (e:=j.elem) (t:=.int .u8) (xs:=fl a) (c:=grownCap w a.length 0 j.elem) (b:=w.heap.size) g bg (ca _) (by rw[hlen];exact s6)
     (grownCap_le_maxLen w _ _ _ (by simp only[maxLen];omega)) (by rw[eb];simp[az.size]) ⟨aM,.inl rfl⟩ ⟨dt,.inl rfl⟩ (by
      have cV:(fl a).length*(az.int IntKind.u8).size=a.length:=by rw[hlen];simp[az.size]
      rw[cV,jJ];exact (Na (P:=P) (φ:=φ) (w:=Lib.bytesWorld w j.elem ⟨⟨a⟩⟩) a).chunks) eg.1 (eg.2 n (ca _) u)
    rw[hlen]at this;exact this
   ·simp[HM.go]at e
  ·rename_i q G;have IU:x.isStr=false:=by
    cases af:x.isStr with
    |false=>rfl
    |true=>rw[af]at e;simp[HM.go]at e
   rw[IU]at e;simp only[av]at e;obtain ⟨I,H1,cG,M,V⟩:=HM.go_bind_some e;clear e;obtain ⟨rfl,dF,g1,gE⟩:=FY M h an fH;obtain ⟨l,fg,dq,aY,bp⟩:=HM.go_bind_some V;clear V;obtain ⟨au,rfl,rfl⟩:=go_opt aY;obtain ⟨rfl,rfl,rfl⟩:=go_ret bp;have d1:=kL tab E q;have d2:=rY tab al G;obtain ⟨ae,hu,R6⟩:=acv tab E q;have d3:=GQ tab hu R6;obtain ⟨azR,H4⟩:=I;obtain ⟨mi,rfl⟩:=rP au;simp only at mi;subst mi;refine cL.ghost g1 ((Plain.str _).2 _ _ _) (by simp[K.ids]) ?_;rcases gE with ⟨d,_,_,af⟩|gE
   ·rw[IU]at af;cases af
   ·obtain ⟨A,c,a1,rfl,hle,ag,bg⟩:=gE _ _ rfl;have Dd:=abz ag;rcases bg with bg |⟨b,o,rfl,fZ⟩
    ·have:H4=[]:=kZ bg;subst this;cases A with
     |none=>simp[convert,run_underlying d1.1,run_underlying d2,run_underlying d3,Conv.bytesToString,qv,ByteArray.empty,ByteArray.emptyWithCapacity];rfl
     |some a=>simp[convert,run_underlying d1.1,run_underlying d2,run_underlying d3,Conv.bytesToString,loadCells,loadCellsFrom,qv,ByteArray.empty,ByteArray.emptyWithCapacity];rfl
    ·exact run_convert_bytes_arg w S i.elem d1.1 d3 b o H4.length c H4 rfl (λk eA=>by
      have:=fZ k (.int .u8 (H4.getD k 0)) (by rw[Dd];simp only[List.getElem?_map];rw[adj (I:=0) eA];rfl)
      exact this) T d2
  ·simp[HM.go]at e
 ·simp[HM.go]at e
theorem ZY [Env] {t:az}: ∀(parts:List (Nat×K)) (aI:List (Nat×aA)) (φ:bP) (xs:List t.den) (cells:Array aA) (J:List aH) (n:Nat) (a1:List t.den) (aB:List aH) (aE:Nat),(Ea.go t xs parts).go J n=some (a1,aB,aE)->ck φ ι w J->
  c4 (bA φ w t) xs cells.toList->qA φ ι w J parts aI->
  aE=n/\ ∃ax mf,ff φ ι w J ax aB/\Instr.fill (λi=>some (i*t.size,t.size)) cells aI=some mf/\c4 (bA ax w t) a1 mf.toList/\a1.length=xs.length
 |[],[],φ,xs,cells,J,n,a1,aB,aE,e,h,ag,_=>by have ee:(HM.ret xs).go J n=some (a1,aB,aE):=e;obtain ⟨rfl,rfl,rfl⟩:=go_ret ee;exact ⟨rfl,φ,cells,ff.refl h,rfl,ag,rfl⟩
 |[],_::_,_,_,_,_,_,_,_,_,_,_,_,ab=>ab.elim
 |_::_,[],_,_,_,_,_,_,_,_,_,_,_,ab=>ab.elim
 |(j,x)::parts,(gh,v)::aI,φ,xs,cells,J,n,a1,aB,aE,e,h,ag,⟨al,an,mq,ab⟩=>by
  subst al;unfold Ea.go at e;split at e
  ·rename_i z bK;obtain ⟨y,H1,cG,M,V⟩:=HM.go_bind_some e;clear e;obtain ⟨rfl,dF,g1,bu⟩:=Gm M h an mq;have bw:j<xs.length:=by
    rcases Nat.lt_or_ge j xs.length with q |q
    ·exact q
    ·rw[List.getElem?_eq_none q]at bK;cases bK
   have kN:c4 (bA dF w t) xs cells.toList:=ag.imp λx c=>bA.mono g1.step.phi g1.step.cells t x c
   have af:=c4.set (λx c=>bA.len t x c) xs cells.toList kN j y v.cells.toList bw bu.1;have jd:=ag.len (λx c=>bA.len t x c);have hle:(j+1)*t.size<=xs.length*t.size:=gZ _ bw;rw[Nat.add_mul,Nat.one_mul]at hle;have eN:v.cells.size=t.size:=by have:=bu.1.len;simpa using this
   have qd:=ack (place:=λi=>some (i*t.size,t.size)) (i:=j) (rest:=aI) rfl eN (show j*t.size+t.size<=cells.size by rw[<-iz,jd];exact hle);obtain ⟨aN,ax,mf,g2,p4,eA,ad⟩:=ZY parts aI dF (xs.set j y) (cells.toList.take (j*t.size)++v.cells.toList++cells.toList.drop (j*t.size+t.size)).toArray H1 cG a1 aB aE V g1.rel (by simpa using af) (ab.ghost g1);exact ⟨aN,ax,mf,g1.trans g2,by rw[qd];exact p4,eA,by rw[ad];simp⟩
  ·simp[HM.go]at e
theorem amZ [Env] (tab:cT P cx) {T:bs} {len:Nat} {parts:List (Nat×K)} (e:(Ea cx T len parts).go J n=some (r,aB,aE)) (h:ck φ ι w J) {aI:Array (Nat×aA)} (ab:qA φ ι w J parts aI.toList) (eg:jj J n aE):
  cL φ ι w J n r aB aE ((Instr.buildSlice T len aI).run P w):=by
 unfold Ea at e;split at e
 ·rename_i i E;split at e
  ·rename_i t aX;have s:=go_bif e;clear e;obtain ⟨L,e⟩:=s;have L:len*t.size<=100000:=by simpa using L
   obtain ⟨a1,H1,cG,M,V⟩:=HM.go_bind_some e;clear e;simp only[HM.go,bM,c0]at V;obtain ⟨rfl,rfl,rfl⟩:=V;obtain ⟨ao,gE⟩:=kL tab E aX;obtain ⟨z,bK,Df,afL,nF⟩:=tF gE len;obtain ⟨rfl,dF,mf,g1,p4,ag,ad⟩:=ZY parts aI.toList φ (List.replicate len t.zero) ((Array.range (len*t.size)).map λi=>z.cells[i%z.cells.size]!) J n a1 H1 cG M h (nF φ w) ab;rw[List.length_replicate]at ad;have kt:=eg.ghost g1;have jd:=ag.len (λx c=>bA.len t x c);rw[ad]at jd;have hlen:len<=100000:=Nat.le_trans (Nat.le_mul_of_pos_right _ afL) L;have eW:(Instr.buildSlice T len aI).run P w=.ok (.slice (some ⟨w.heap.size,0,none⟩) len len) (w.alloc (.cells mf i.elem)):=by
    unfold Instr.buildSlice;have auy: ¬(len*t.size>2^24):=u;simp only[Sem.run_bind,run_underlying ao,Result.andThen_ok,y0 (w:=w) gE,auy,if_false,Sem.run_pure];by_cases yE:len*t.size=0
    ·have IZ:Array.range 0= #[]:=rfl;rw[yE,IZ]at p4;simp only[List.map_toArray,List.map_nil,Array.map_empty]at p4;simp[yE,IZ,p4,newRow]
    ·simp only[yE,if_false,Sem.run_bind,bK,Result.andThen_ok,Sem.run_pure,p4,newRow,run_newObj_alloc]
   rw[eW];have jb:=ig.alloc w (.cells mf i.elem);have:=uT (φ:=dF) (ι:=ι) (n:=cG) g1.rel (e:=i.elem) (t:=t) (xs:=a1) (c:=len) (b:=w.heap.size) jb (heap_alloc_new w _) (ca _) u (by simp only[maxLen];omega) (by rw[<-iz,jd]) (uC _ _) (Cells.of_chunks (ag.imp λx c=>bA.mono (λ_ _ h=>h) (λb k L=>jb.cell (qr g1.rel L)) t x c) _)
    (by rw[ad,ic (by rw[jd];exact ca _)];exact ag.imp λx c=>bA.mono (λ_ _ h=>h) (λb k L=>jb.cell (qr g1.rel L)) t x c) kt.1 (kt.2 cG (ca _) u)
   rw[ad]at this;exact cL.after g1 this
  ·simp[HM.go]at e
 ·simp[HM.go]at e
end
open Go.RowKit
section
variable {P:cA} {cx:cm} {φ ax:bP} {ι aJ:Nat->aA} {w aq:bm} {J:List aH} {n:Nat} {r:K} {aB:List aH} {aE:Nat}
theorem arl {ty:bs} {b k:Nat} {d:ByteArray} (L:w.heap[b]? =some (.stringIter d k)) (h: ¬k<d.size):(Instr.next (.pointer (some ⟨b,0,none⟩)) true ty).run P w=.ok (.tuple #[.bool false]) w:=by simp only[Instr.next,getObj,Sem.run_bind,Sem.run,L,Result.andThen,h,if_false];rfl
theorem asS {ty:bs} {b k:Nat} {d:ByteArray} (L:w.heap[b]? =some (.stringIter d k)) (h:k<d.size):(Instr.next (.pointer (some ⟨b,0,none⟩)) true ty).run P w=
  .ok (.tuple #[.bool true,goInt k,.int .i32 (Utf8.decode d k).1]) {w with heap:=w.heap.setIfInBounds b (.stringIter d (k+(Utf8.decode d k).2))}:=by
 simp only[Instr.next,getObj,setObj,Sem.run_bind,Sem.run,L,Result.andThen,h,if_true];rfl
theorem at9 {T:bs} (ao:P.underlying T=some .string) (d:ByteArray):(Instr.range T (.string d)).run P w=.ok (.pointer (some ⟨w.heap.size,0,none⟩)) (w.alloc (.stringIter d 0)):=by simp[Instr.range,run_underlying ao]
theorem adu {l:List K} {v:aA} (h: ∃aQ,v=.tuple aQ/\K.relT φ ι w l aQ.toList):(K.tup l).rel φ ι w v:=h
theorem apl [Env] (tab:cT P cx) {T:bs} {x:K} (e:(Pg cx T x).go J n=some (r,aB,aE)) (h:ck φ ι w J) {v:aA} (an:x.rel φ ι w v) (eg:jj J n aE):cL φ ι w J n r aB aE ((Instr.range T v).run P w):=by
 unfold Pg at e;split at e
 ·rename_i d;have s:=go_bif e;clear e;obtain ⟨b9,e⟩:=s;obtain ⟨i,E,aX⟩:=hP b9;have ao:=rY tab E aX;simp only[HM.go,bM,c0]at e;obtain ⟨rfl,rfl,rfl⟩:=e;obtain rfl:=cJ.str.1 an;have g:=ig.alloc w (.stringIter ⟨⟨d⟩⟩ 0);have L:(w.alloc (.stringIter ⟨⟨d⟩⟩ 0)).heap[w.heap.size]? =some (.stringIter ⟨⟨d⟩⟩ 0):=heap_alloc_new w _;obtain ⟨q,G,W,aC⟩:=BJ (v:=.pointer (some ⟨w.heap.size,0,none⟩)) (dh:=.iter d 0) h eg.1 (eg.2 n (ca _) u) g
   ⟨w.heap.size,0,by simp[ej],L,rfl,λk ag=>by have:=qr h ag;omega⟩ (by simp[aH.ids]) rfl
   (λb L=>by
           have:w.heap.size=b:=by simpa [dN] using L
           omega)
  refine ⟨_,_,φ,_,at9 ao _,q,G,W,aC,xz ⟨w.heap.size,0,.inr ⟨by simp[ej],rfl,rfl⟩,by simp[az.offAt],by simp[az.at_]⟩,?_⟩
  ·intro i E;have:i=n:=by simpa [K.ids] using E
   subst this;rw[gO J i _ i eg.1,if_pos rfl];rfl
 ·simp[HM.go]at e
theorem aqJ [Env] {ty:bs} {x:K} (e:(PW x).go J n=some (r,aB,aE)) (h:ck φ ι w J) {v:aA} (an:x.rel φ ι w v) (fH: ∀i∈x.ids,(aG J i).live=true):cL φ ι w J n r aB aE ((Instr.next v true ty).run P w):=by
 unfold PW at e;split at e
 ·rename_i o;simp only[HM.go]at e;split at e
  ·rename_i d pos ab;have cu:=h.obj o;rw[ab]at cu;obtain ⟨b,k,M,L,rfl,kv⟩:=cu;obtain ⟨bZ,bf,I5,rfl,-⟩:=an;have p2:bZ=b/\bf=0:=by
    rcases I5 with ⟨aAp,c,q,_⟩|⟨q,_,G⟩
    ·rw[M]at q;cases q
    ·rw[M]at q;injection q with q;injection q with q;injection q with q;exact ⟨q.symm,G⟩
   obtain ⟨rfl,rfl⟩:=p2;have jV:dN (ι o)=some bZ:=by rw[M];rfl
   have eb:(⟨⟨d⟩⟩:ByteArray).size=d.length:=rfl;have afz:(0+0*az.size .unit+az.offAt .unit []:Nat)=0:=rfl;cases bw:decide ((k:Int)<(d.length:Int))
   ·simp only[bw,HM.go,av,bM,c0]at e;obtain ⟨rfl,rfl,rfl⟩:=e;have CS: ¬k<d.length:=by have:=of_decide_eq_false bw;omega
    refine cL.pure (r:=.tup [.dat .bool false]) (v:=.tuple #[.bool false]) h (adu ⟨#[.bool false],rfl,_,_,rfl,h3 (cJ.bool.2 rfl),rfl⟩) (by simp[K.ids,K.idsL]) ?_;rw[afz];exact arl L (by rw[eb];exact CS)
   ·simp only[bw,HM.go,aj,bM,c0]at e;obtain ⟨rfl,rfl,rfl⟩:=e;have CS:k<d.length:=by have:=of_decide_eq_true bw;omega
    have avL:bZ<w.heap.size:=(kY.1 L).1;have eW:=asS (P:=P) (ty:=ty) L (by rw[eb];exact CS);have hc:jk w {w with heap:=w.heap.setIfInBounds bZ (.stringIter ⟨⟨d⟩⟩ (k+(Utf8.decode ⟨⟨d⟩⟩ k).2))} bZ:=
     ⟨rfl,rfl,rfl,aU,λj al=>by simp[Array.getElem?_setIfInBounds_ne (Ne.symm al)]⟩
    have dC:jE φ ι {w with heap:=w.heap.setIfInBounds bZ (.stringIter ⟨⟨d⟩⟩ (k+(Utf8.decode ⟨⟨d⟩⟩ k).2))} o (.iter d ((k:Int)+(oY d (k:Int)).2)):=
     ⟨bZ,k+(Utf8.decode ⟨⟨d⟩⟩ k).2,M,by simp[avL],by simp[oY],kv⟩
    obtain ⟨kV,pG,rW,Ed⟩:=BI (n:=n) (dh:=.iter d ((k:Int)+(oY d (k:Int)).2)) h (by rw[ab];rfl) jV hc kv dC (by simp[aH.ids]) rfl;rw[afz];exact ⟨_,_,φ,ι,eW,kV,pG,rW,Ed,adu ⟨_,rfl,_,_,rfl,h3 (cJ.bool.2 rfl),_,_,rfl,h3 (cJ.int.2 rfl),_,_,rfl,h3 (cJ.int.2 (by simp[oY])),rfl⟩,by simp[K.ids,K.idsL]⟩
  ·simp[HM.go]at e
 ·simp[HM.go]at e
end
open Go.RowKit
def u3 (φ:bP) (ι:Nat->aA) (w:bm) (J:List aH) (db:Operand->K) (ρ:Operand->aA):Prop:= ∀x,(db x).rel φ ι w (ρ x)/\ ∀i∈(db x).ids,(aG J i).live=true
abbrev e9 (ro:Option Nat):Fence:={fn:=λ_=>True,depth:=none,alive:=false,round:=ro}
theorem OE {P:cA} {f:FuncId} {args:Array aA} {w:bm} {R:Ending->bm->Prop} (ro:Option Nat) (h:Calls P f args w R):CallsIn (e9 ro) 0 P f args w R:=(callsIn_wide (n:=0)).2 h
theorem uP {P:cA} {o:Oper} {a:Act} {w:bm} {ro:Option Nat} {next:Act->bm->Prop} {bx:Exit->Act->bm->Prop} (dL: ∀c,o.op≠ .defer c)
  (h:o.uponIn (e9 ro) 0 P a next bx ((execOp a.eval o).run P w)):o.wpIn (e9 ro) 0 P a w next bx:=⟨λ_ _=>trivial,by rw[Oper.semAt_eq _ _ _ dL];exact h⟩
def gm [Env] (P:cA) (o:Oper) (a:Act) (φ:bP) (ι:Nat->aA) (w:bm) (J:List aH) (n:Nat) (r:K) (aB:List aH) (aE:Nat):Prop:=
 ∀(ro:Option Nat) (next:Act->bm->Prop) (bx:Exit->Act->bm->Prop),(∀v aq ax aJ,ck ax aJ aq aB->Step φ ι w J ax aJ aq aB->eo ι J aJ aB->iW J n aB aE->r.rel ax aJ aq v->(∀i∈r.ids,(aG aB i).live=true)->next (a.put o.dst v) aq)->o.wpIn (e9 ro) 0 P a w next bx
def wL (P:cA) (f:FuncId) (aQ:Array aA) (w:bm) (R:Ending->bm->Prop):Prop:=
 ((callFunc f aQ).run P w=.ok (.enter f aQ) w/\Calls P f aQ w R)\/ ∃v aq,(callFunc f aQ).run P w=.ok (.value v) aq/\R (.returned v) aq
theorem wL.mono {P:cA} {f:FuncId} {aQ:Array aA} {w:bm} {R eT:Ending->bm->Prop} (h:wL P f aQ w R) (ar: ∀e aq,R e aq->eT e aq):wL P f aQ w eT:=
 h.imp (λ⟨a,b⟩=>⟨a,Calls.mono b ar⟩) λ⟨v,aq,a,b⟩=>⟨v,aq,a,ar _ _ b⟩
theorem asy {P:cA} {f:FuncId} {aQ:Array aA} {w:bm} {R:Ending->bm->Prop} (h: ∃fn,P.funcs[f]? =some fn/\(fn.name== "runtime.NumGoroutine")=false/\fn.body.isNone=false) (au:Calls P f aQ w R):wL P f aQ w R:=by
 obtain ⟨fn,Ru,IH,CI⟩:=h;refine .inl ⟨?_,au⟩;unfold callFunc;have CJ: ¬fn.name= "runtime.NumGoroutine":=by simpa using IH
 have Rv: ¬fn.body=none:=by intro bW;rw[bW]at CI;cases CI
 simp[Ru,CJ,Rv]
def j0 [Env] (P:cA) (f:FuncId) (aQ:Array aA) (w:bm) (R:Ending->bm->Prop):Prop:=match Env.code f with
 |none=>wL P f aQ w R
 |some _=> ∃l,aQ[0]? =some (.func (.yield l) #[] #[])/\YieldAt (e9 none) 0 P l (aQ.extract 1 aQ.size) w R
theorem j0.mono [Env] {P:cA} {f:FuncId} {aQ:Array aA} {w:bm} {R eT:Ending->bm->Prop} (h:j0 P f aQ w R) (ar: ∀e aq,R e aq->eT e aq):j0 P f aQ w eT:=by
 unfold j0 at h ⊢;split at h
 ·exact h.mono ar
 ·obtain ⟨l,q,fn,tmps,assign,body,G,W⟩:=h;exact ⟨l,q,fn,tmps,assign,body,G,W.mono ar⟩
theorem j0.call [Env] {P:cA} {f:FuncId} {aQ:Array aA} {w:bm} {R:Ending->bm->Prop} (aM:jA f=false):j0 P f aQ w R↔wL P f aQ w R:=by
 unfold jA at aM;unfold j0;cases h:Env.code f with
 |none=>exact Iff.rfl
 |some c=>rw[h]at aM;cases aM
theorem j0.round [Env] {P:cA} {f:FuncId} {aQ:Array aA} {w:bm} {R:Ending->bm->Prop} (aM:jA f=true):j0 P f aQ w R↔ ∃l,aQ[0]? =some (.func (.yield l) #[] #[])/\YieldAt (e9 none) 0 P l (aQ.extract 1 aQ.size) w R:=by
 unfold jA at aM;unfold j0;cases h:Env.code f with
 |none=>rw[h]at aM;cases aM
 |some c=>exact Iff.rfl
def km [Env] (P:cA) (f:FuncId) (args:List K) (J:List aH) (r:K) (aB:List aH):Prop:=
 (∃fn,P.funcs[f]? =some fn/\(fn.name== "runtime.NumGoroutine")=false/\fn.body.isNone=false)/\
 ∀(φ:bP) (ι:Nat->aA) (w:bm) (aQ:Array aA),ck φ ι w J->(∀i,i<J.length->(aG J i).live=true)->K.relT φ ι w args aQ.toList->(∀i∈K.idsL args,(aG J i).live=true)->
  Calls P f aQ w λe aq=> ∃v ax aJ,e=.returned v/\ck ax aJ aq aB/\Step φ ι w J ax aJ aq aB/\eo ι J aJ aB/\r.rel ax aJ aq v/\(∀i∈r.ids,(aG aB i).live=true)
def wM [Env] (P:cA) (f:FuncId) (args:List K) (J:List aH) (r:K) (aB:List aH):Prop:=
 ∀(φ:bP) (ι:Nat->aA) (w:bm) (aQ:Array aA),ck φ ι w J->(∀i,i<J.length->(aG J i).live=true)->K.relT φ ι w args aQ.toList->(∀i∈K.idsL args,(aG J i).live=true)->
  j0 P f aQ w λe aq=> ∃v ax aJ,e=.returned v/\ck ax aJ aq aB/\Step φ ι w J ax aJ aq aB/\eo ι J aJ aB/\r.rel ax aJ aq v/\(∀i∈r.ids,(aG aB i).live=true)
theorem km.x [Env] {P:cA} {f:FuncId} {args:List K} {J:List aH} {r:K} {aB:List aH} (aM:jA f=false) (h:km P f args J r aB):wM P f args J r aB:=fun φ ι w aQ q G W aC=>(j0.call aM).2 (asy h.1 (h.2 φ ι w aQ q G W aC))
def cd [Env] (P:cA) (Γ:hN):Prop:= ∀f args J r aB,(Γ f args J).val=some (r,aB)->wM P f args J r aB
section
variable {P:cA} {cx:cm} {φ:bP} {ι:Nat->aA} {w:bm} {J:List aH} {n:Nat} {r:K} {aB:List aH} {aE:Nat} {o:Oper} {a:Act} {db:Operand->K}
theorem gm.of_yld [Env] (dL: ∀c,o.op≠ .defer c) {d:Sem aA} (y:cL φ ι w J n r aB aE (d.run P w)) (he:execOp a.eval o=(do pure (.value (<-d)):Sem Next)):gm P o a φ ι w J n r aB aE:=by intro ro next bx k;obtain ⟨v,aq,ax,aJ,e,q,G,W,aC,bd,bD⟩:=y;refine uP dL ?_;rw[he];simp only[Sem.run_bind,e,Result.andThen_ok,Sem.run_pure,Oper.uponIn_value];exact k v aq ax aJ q G W aC bd bD
theorem gm.of_pure [Env] (dL: ∀c,o.op≠ .defer c) {v:aA} (h:ck φ ι w J) (ar:r.rel φ ι w v) (rH: ∀i∈r.ids,(aG J i).live=true) (he:execOp a.eval o=(pure (.value v):Sem Next)):gm P o a φ ι w J n r J n:=by intro ro next bx k;refine uP dL ?_;rw[he];simp only[Sem.run_pure,Oper.uponIn_value];exact k v w φ ι h (Step.refl _ _ _ _) (eo.refl _ _) (iW.refl _ _) ar rH
theorem AG {x:K} {i:Int} {v:aA} (h:uX x=some i) (an:x.rel φ ι w v): ∃k,v=.int k i:=by
 unfold uX at h;split at h
 ·rename_i k a;obtain rfl:=eY h;exact ⟨k,cJ.int.1 an⟩
 ·cases h
theorem NR {x:K} {b:Bool} {v:aA} (h:mB x=some b) (an:x.rel φ ι w v):v=.bool b:=by
 unfold mB at h;split at h
 ·obtain rfl:=eY h;exact cJ.bool.1 an
 ·cases h
theorem O1 {x:Option Operand} {m:Option Int} (dg:u3 φ ι w J db a.eval) (h:xO (x.map db)=some m):n8 (x.map a.eval) m:=by
 cases x with
 |none=>
  simp only[Option.map_none,xO,bM]at h;subst h;trivial
 |some y=>
  simp only[Option.map_some,xO,ib]at h;obtain ⟨i,E,rfl⟩:=h;obtain ⟨k,ag⟩:=AG E (dg y).1;exact ⟨k,ag⟩
theorem PX (dg:u3 φ ι w J db a.eval): ∀(l:List (Nat×Operand)),qA φ ι w J (l.map λp=>(p.1,db p.2)) (l.map λp=>(p.1,a.eval p.2))
 |[]=>trivial
 |p::l=>⟨rfl,(dg p.2).1,(dg p.2).2,PX dg l⟩
theorem uL (dg:u3 φ ι w J db a.eval): ∀(l:List Operand),K.relT φ ι w (l.map db) (l.map a.eval)
 |[]=>rfl
 |p::l=>⟨_,_,rfl,(dg p).1,uL dg l⟩
theorem uE (dg:u3 φ ι w J db a.eval): ∀(l:List Operand),∀i∈K.idsL (l.map db),(aG J i).live=true
 |[],i,h=>by simp[K.idsL]at h
 |p::l,i,h=>by
  simp only[List.map_cons,K.idsL,dn]at h;rcases h with h |h
  ·exact (dg p).2 i h
  ·exact uE dg l i h
theorem Vc {f:FuncId} {l m:List K} {v:aA} (h: ∃x y,v=.func (.func f) x y/\K.relT φ ι w l x.toList/\K.relT φ ι w m y.toList):(K.fn f l m).rel φ ι w v:=h
theorem ajK {T:bs} {x:K} {v:aA} (h: ∃ae,v=.iface T ae/\x.rel φ ι w ae):(K.iface T x).rel φ ι w v:=h
theorem Bj: ∀(hF:List bs) (l:List K) (aQ:List aA),K.relT φ ι w l aQ->K.relT φ ι w (iY cx hF l) aQ
 |[],_,_,h=>by unfold iY;exact h
 |_::_,[],_,h=>by unfold iY;exact h
 |T::hF,r::l,_,⟨v,m,e,q,G⟩=>⟨v,m,e,xo q,Bj hF l m G⟩
theorem Bi: ∀(hF:List bs) (l:List K),∀i∈K.idsL (iY cx hF l),i∈K.idsL l
 |[],_,i,h=>by unfold iY at h;exact h
 |_::_,[],i,h=>by unfold iY at h;exact h
 |T::hF,r::l,i,h=>by
  simp only[iY,K.idsL,dn]at h ⊢;rcases h with h |h
  ·exact .inl (xn i h)
  ·exact .inr (Bi hF l i h)
theorem ub: ∀{l:List K} {aQ:List aA} {j:Nat} {x:K},K.relT φ ι w l aQ->l[j]? =some x-> ∃v,aQ[j]? =some v/\x.rel φ ι w v
 |[],_,j,x,_,h=>by simp at h
 |y::l,_,0,x,⟨v,m,e,q,G⟩,h=>by
  subst e;obtain rfl:y=x:=by simpa using h
  exact ⟨v,aU,q⟩
 |y::l,_,j+1,x,⟨v,m,e,q,G⟩,h=>by subst e;obtain ⟨ae,W,aC⟩:=ub G (by simpa using h:l[j]? =some x);exact ⟨ae,by simpa using W,aC⟩
theorem ud: ∀{l:List K} {j:Nat} {x:K},l[j]? =some x-> ∀i∈x.ids,i∈K.idsL l
 |[],j,x,h=>by simp at h
 |y::l,0,x,h=>by
  obtain rfl:y=x:=by simpa using h
  intro i E;simp only[K.idsL,dn];exact .inl E
 |y::l,j+1,x,h=>by intro i E;simp only[K.idsL,dn];exact .inr (ud (by simpa using h) i E)
theorem ard [Env] (tab:cT P cx) {T ty:bs} {x:K} {v:aA} (e:(P1 cx T x).go J n=some (r,aB,aE)) (h:ck φ ι w J) (an:x.rel φ ι w v):cL φ ι w J n r aB aE ((Builtin.cap_ #[T] ty #[v]).run P w):=by
 have key: ∀{t:az} {A:Option Addr} {m c:Nat},cx.isTy T (.list t)=true->(Builtin.cap_ #[T] ty #[.slice A m c]).run P w=.ok (.int .i64 (c:Int)) w:=by intro t A m c b9;obtain ⟨i,E,aX⟩:=hP b9;have ao:=(kL tab E aX).1;simp[Builtin.cap_,run_underlying ao,goInt]
 unfold P1 at e;split at e
 ·have s:=go_bif e;clear e;obtain ⟨b9,e⟩:=s;obtain ⟨rfl,rfl,rfl⟩:=go_ret e;simp only[K.rel]at an;subst an;exact cL.pure (r:=.dat (.int .i64) (0:Int)) (v:=.int .i64 0) h (h3 (cJ.int.2 rfl)) (by simp[K.ids]) (key b9)
 ·have s:=go_bif e;clear e;obtain ⟨b9,e⟩:=s;obtain ⟨rfl,rfl,rfl⟩:=go_ret e;obtain ⟨A,m,rfl,pe⟩:=an;obtain ⟨jC,cW,ba,M,ad,-⟩:=pe;injection M with M _
  obtain ⟨rfl,rfl,rfl⟩:=iM M;rw[ad];exact cL.pure (r:=.dat (.int .i64) (m:Int)) (v:=.int .i64 (m:Int)) h (h3 (cJ.int.2 rfl)) (by simp[K.ids]) (key b9)
 ·rename_i t o;have s:=go_bif e;clear e;obtain ⟨b9,e⟩:=s;simp only[HM.go]at e;split at e
  ·rename_i ch ae xs fz ab;obtain ⟨rfl,rfl,rfl⟩:=go_ret e;obtain ⟨kJ,iG,-⟩:=oR ab;have cu:=h.obj o;rw[iG]at cu;obtain ⟨A,m,c,M,V,aY,_⟩:=cu;obtain ⟨rfl,_⟩:=an;rw[M];exact cL.pure (r:=.atl xs.length) (v:=.int .i64 (c:Int)) h ⟨c,rfl,u⟩ (by simp[K.ids]) (key b9)
  ·simp[HM.go]at e
 ·rename_i t o aR E;have s:=go_bif e;clear e;obtain ⟨b9,e⟩:=s;simp only[HM.go]at e;split at e
  ·rename_i ch ae xs fz ab;obtain ⟨rfl,rfl,rfl⟩:=go_ret e;obtain ⟨kJ,iG,-⟩:=oR ab;have cu:=h.obj o;rw[iG]at cu;obtain ⟨A,m,c,M,V,aY,_⟩:=cu;obtain ⟨jC,cW,ba,di,bp,_,_,_,rfl,_⟩:=an;rw[M]at bp;obtain ⟨rfl,rfl,rfl⟩:=iM bp;exact cL.pure (r:=.atl (xs.length-aR)) (v:=.int .i64 ((c-aR:Nat):Int)) h ⟨c-aR,rfl,u⟩ (by simp[K.ids]) (key b9)
  ·simp[HM.go]at e
 ·simp[HM.go]at e
theorem anT [Env] (tab:cT P cx) {b:Builtin} {hF:Array bs} {ty:bs} {cs:Array Bool} {args:List K} {aQ:Array aA} (e:(OD cx b hF.toList args).go J n=some (r,aB,aE)) (h:ck φ ι w J)
  (aV:K.relT φ ι w args aQ.toList) (jL: ∀i∈K.idsL args,(aG J i).live=true) (eg:jj J n aE):
  ∃d:Sem aA,builtin b hF ty cs aQ=(do pure (.value (<-d)):Sem Next)/\cL φ ι w J n r aB aE (d.run P w):=by
 unfold OD at e;split at e
 ·rename_i T x b9;obtain ⟨v,m,a8,an,hm⟩:=aV;simp only[K.relT]at hm;subst hm;have mm:hF= #[T]:=by cases hF;simp at b9;simp[b9]
  have eN:aQ= #[v]:=by cases aQ;simp at a8;simp[a8]
  subst mm eN;exact ⟨_,rfl,arJ tab e h an⟩
 ·rename_i T dY d x b9;obtain ⟨v,m,a8,an,v2,cW,hm,po,jf⟩:=aV;simp only[K.relT]at jf;subst jf hm;have mm:hF= #[T,dY]:=by cases hF;simp at b9;simp[b9]
  have eN:aQ= #[v,v2]:=by cases aQ;simp at a8;simp[a8]
  subst mm eN;exact ⟨_,rfl,aoZ tab e h an po (λi E=>jL i (by simp[K.idsL,E])) (λi E=>jL i (by simp[K.idsL,E])) eg⟩
 ·rename_i ajb x l;obtain ⟨v,m,a8,an,hm⟩:=aV;refine ⟨_,rfl,?_⟩;have s:=KR (P:=P) l x m v r e hm an (λi E=>jL i (by simp[K.idsL,E]));clear e;obtain ⟨q,G,ae,hu,ar,rH⟩:=s;subst q G;refine cL.pure (r:=r) (v:=ae) h ar rH ?_;simp only[Bool.false_eq_true,if_false]at hu;unfold Builtin.min_;rw[a8];exact hu
 ·rename_i ajb x l;obtain ⟨v,m,a8,an,hm⟩:=aV;refine ⟨_,rfl,?_⟩;have s:=KR (P:=P) l x m v r e hm an (λi E=>jL i (by simp[K.idsL,E]));clear e;obtain ⟨q,G,ae,hu,ar,rH⟩:=s;subst q G;refine cL.pure (r:=r) (v:=ae) h ar rH ?_;simp only[if_true]at hu;unfold Builtin.max_;rw[a8];exact hu
 ·rename_i T x b9;obtain ⟨v,m,a8,an,hm⟩:=aV;simp only[K.relT]at hm;subst hm;have mm:hF= #[T]:=by cases hF;simp at b9;simp[b9]
  have eN:aQ= #[v]:=by cases aQ;simp at a8;simp[a8]
  subst eN;have s:=go_bif e;clear e;obtain ⟨lo,e⟩:=s;obtain ⟨I,ao,-⟩:=ady tab lo;exact ⟨_,rfl,ao8 tab mm e h an ⟨I,ao⟩⟩
 ·rename_i T dY d x b9;obtain ⟨v,m,a8,an,v2,cW,hm,po,jf⟩:=aV;simp only[K.relT]at jf;subst jf hm;have mm:hF= #[T,dY]:=by cases hF;simp at b9;simp[b9]
  have eN:aQ= #[v,v2]:=by cases aQ;simp at a8;simp[a8]
  subst mm eN;have s:=go_bif e;clear e;obtain ⟨lo,e⟩:=s;exact ⟨_,rfl,ap7 tab e h an po (λi E=>jL i (by simp[K.idsL,E])) (λi E=>jL i (by simp[K.idsL,E]))⟩
 ·rename_i T x b9;obtain ⟨v,m,a8,an,hm⟩:=aV;simp only[K.relT]at hm;subst hm;have mm:hF= #[T]:=by cases hF;simp at b9;simp[b9]
  have eN:aQ= #[v]:=by cases aQ;simp at a8;simp[a8]
  subst mm eN;exact ⟨_,rfl,ard tab e h an⟩
 ·simp[HM.go]at e
theorem aj9 [Env] {T:bs} {x y:Operand} (ar:r=.undef) (TL: ∃aq ax aJ,(Instr.storeAt T (a.eval x) (a.eval y)).run P w=.ok () aq/\ck ax aJ aq aB/\Step φ ι w J ax aJ aq aB/\eo ι J aJ aB/\iW J n aB aE) (ab:o.op=.store T x y):
  gm P o a φ ι w J n r aB aE:=by
 subst ar;intro ro next bx k;obtain ⟨aq,ax,aJ,e,q,G,W,aC⟩:=TL;refine uP (λc au=>by rw[ab]at au;cases au) ?_;unfold execOp;simp only[ab,Sem.run_bind,e,Result.andThen_ok,Sem.run_pure,Oper.uponIn_value];exact k undef aq ax aJ q G W aC trivial (by simp[K.ids])
theorem ase [Env] (tab:cT P cx) {Γ:hN} (CA: ∀c x g l m,o.op=.call c->c.callee=.value x->db x=.fn g l m->jA g=false->(rZ cx Γ g (l++iY cx c.argTypes.toList (c.args.toList.map db)++m)).go J n=some (r,aB,aE)->gm P o a φ ι w J n r aB aE)
  (hinv: ∀c x nm T ah i f,o.op=.call c->c.callee=.invoke x nm->db x=.iface T ah->cx.ti T=some i->vZ i.meths nm=some f->jA f=false->(rZ cx Γ f (ah::iY cx c.argTypes.toList (c.args.toList.map db))).go J n=some (r,aB,aE)->gm P o a φ ι w J n r aB aE)
  (awI: ∀c x Y fI,o.op=.call c->c.callee=.value x->db x=.yld Y fI->jA Y=true->(rZ cx Γ Y (.yld Y fI::iY cx c.argTypes.toList (c.args.toList.map db))).go J n=some (r,aB,aE)->gm P o a φ ι w J n r aB aE)
  (e:(nv cx Γ o db).go J n=some (r,aB,aE)) (h:ck φ ι w J) (dg:u3 φ ι w J db a.eval) (eg:jj J n aE):gm P o a φ ι w J n r aB aE:=by
 have dL: ∀c,o.op≠ .defer c:=λc au=>by unfold nv at e;rw[au]at e;simp[HM.go]at e
 unfold nv at e;split at e
 ·rename_i x ab;obtain ⟨rfl,rfl,rfl⟩:=go_ret e;exact gm.of_pure dL h (xo (dg x).1) (λi E=>(dg x).2 i (xn i E)) (by simp[execOp,ab])
 ·rename_i x ab;obtain ⟨rfl,rfl,rfl⟩:=go_ret e;exact gm.of_pure dL h (xo (dg x).1) (λi E=>(dg x).2 i (xn i E)) (by simp[execOp,ab])
 ·rename_i c x y ab;split at e
  ·rename_i t aX;have au:=NR aX (dg c).1;cases t
   ·simp only[HM.go,av]at e;obtain ⟨rfl,rfl,rfl⟩:=go_ret e;refine gm.of_yld dL (d:=pure (a.eval y)) (cL.pure h (dg y).1 (dg y).2 rfl) ?_;simp[execOp,ab,au,asBool]
   ·simp only[HM.go,aj]at e;obtain ⟨rfl,rfl,rfl⟩:=go_ret e;refine gm.of_yld dL (d:=pure (a.eval x)) (cL.pure h (dg x).1 (dg x).2 rfl) ?_;simp[execOp,ab,au,asBool]
  ·simp[HM.go]at e
 ·rename_i T ab;exact gm.of_yld dL (ao5 tab e h eg) (by simp[execOp,ab])
 ·rename_i T x ab;exact gm.of_yld dL (aaK tab e h (dg x).1 (dg x).2 eg) (by simp[execOp,ab])
 ·rename_i T ps ab;have M:(ps.map λp=>(p.1,a.eval p.2)).toList=ps.toList.map λp=>(p.1,a.eval p.2):=aU
  exact gm.of_yld dL (ao7 tab e h (aI:=ps.map λp=>(p.1,a.eval p.2)) (by rw[M];exact PX dg _)) (by simp[execOp,ab])
 ·rename_i T m ps ab;have M:(ps.map λp=>(p.1,a.eval p.2)).toList=ps.toList.map λp=>(p.1,a.eval p.2):=aU
  exact gm.of_yld dL (amZ tab e h (aI:=ps.map λp=>(p.1,a.eval p.2)) (by rw[M];exact PX dg _) eg) (by simp[execOp,ab])
 ·rename_i T x ab;exact gm.of_yld dL (aqG tab e h (dg x).1) (by simp[execOp,ab])
 ·rename_i T x y ab;obtain ⟨ar,TL⟩:=aqn tab e h (dg x).1 (xo (dg y).1) (dg x).2 (λi E=>(dg y).2 i (xn i E));exact aj9 ar TL ab
 ·rename_i x ab;have an:=dg x;split at e
  ·rename_i dV t i p aT;obtain ⟨rfl,rfl,rfl⟩:=go_ret e;rw[aT]at an;have oI:=an.1;obtain ⟨b,k,-,a8,-⟩:=oI;exact gm.of_pure dL h an.1 an.2 (by simp[execOp,ab,a8])
  ·rename_i t y aT;obtain ⟨rfl,rfl,rfl⟩:=go_ret e;rw[aT]at an;have oI:=an.1;obtain ⟨b,i,cs,a8,-⟩:=oI;exact gm.of_pure dL h an.1 an.2 (by simp[execOp,ab,a8])
  ·simp[HM.go]at e
 ·rename_i b T x y z ab;cases aN:P3 y
  case true=>
   rw[aN,aj]at e;obtain rfl:y=.const .nilIface:=by
    unfold P3 at aN;split at aN
    ·rfl
    ·cases aN
   exact gm.of_yld dL (arN tab e h (dg x).1 (dg x).2 x .nilIface) (by simp[execOp,ab,Act.eval])
  case false=>
   rw[aN,av]at e;exact gm.of_yld dL (ara tab e h (dg x).1 (dg y).1 (dg x).2 (dg y).2 x y) (by simp[execOp,ab])
 ·rename_i b T x ab;exact gm.of_yld dL (asY e h (dg x).1) (by simp[execOp,ab])
 ·rename_i S T x ab;exact gm.of_yld dL (ap6 tab e h (dg x).1 (dg x).2 eg) (by simp[execOp,ab])
 ·rename_i f l m ab;obtain ⟨rfl,rfl,rfl⟩:=go_ret e;refine gm.of_yld dL (d:=Instr.makeFunc (.func f) (l.map a.eval) (m.map a.eval)) (cL.pure (v:=.func (.func f) (l.map a.eval) (m.map a.eval)) h (Vc ⟨_,_,rfl,?_,?_⟩) ?_ ?_) (by simp[execOp,ab])
  ·simpa using uL dg l.toList
  ·simpa using uL dg m.toList
  ·intro i E;simp only[K.ids,dn]at E;rcases E with E |E
   ·exact uE dg _ i E
   ·exact uE dg _ i E
  ·simp[Instr.makeFunc]
 ·rename_i T x ab;split at e
  ·rename_i i E;cases aP:decide (i.ty=.opq)
   ·simp only[aP,av]at e;obtain ⟨rfl,rfl,rfl⟩:=go_ret e;refine gm.of_yld dL (d:=Instr.makeInterface T (a.eval x)) (cL.pure (v:=.iface T (a.eval x)) h (ajK ⟨_,rfl,(dg x).1⟩) (dg x).2 ?_) (by simp[execOp,ab]);have ao:=(tab T i E).desc;have aP:i.ty≠ .opq:=by simpa using aP
    unfold la at ao;split at ao
    ·simp[Instr.makeInterface,run_underlying ao]
    ·simp[Instr.makeInterface,run_underlying ao]
    ·simp[Instr.makeInterface,run_underlying ao]
    ·simp[Instr.makeInterface,run_underlying ao.1]
    ·rename_i e;exact absurd e aP
    ·rcases ao with ⟨_,dz,ao,_⟩|⟨_,n,e,dQ,ao,_⟩<;>simp[Instr.makeInterface,run_underlying ao]
   ·simp[aP,HM.go]at e
  ·simp[HM.go]at e
 ·rename_i T x y ab;split at e
  ·rename_i i j E al;obtain ⟨bf,q⟩:=AG E (dg x).1;obtain ⟨a6,G⟩:=AG al (dg y).1;refine gm.of_yld dL (d:=Instr.makeSlice T (a.eval x) (a.eval y)) ?_ (by simp[execOp,ab]);rw[q,G];exact ani tab e h eg
  ·simp[HM.go]at e
 ·rename_i T x aR E fS ab;split at e
  ·rename_i l cy m q G W;exact gm.of_yld dL (aqi tab e h (dg x).1 (dg x).2 (O1 dg q) (O1 dg G) (O1 dg W)) (by simp[execOp,ab])
  ·simp[HM.go]at e
 ·rename_i T x f ab;exact gm.of_yld dL (ant tab e h (dg x).1 (dg x).2) (by simp[execOp,ab])
 ·rename_i T x f ab;exact gm.of_yld dL (apE tab e h (dg x).1 (dg x).2) (by simp[execOp,ab])
 ·rename_i T x y ab;split at e
  ·rename_i i E;obtain ⟨k,ag⟩:=AG E (dg y).1;refine gm.of_yld dL (d:=Instr.indexAt T (a.eval x) (a.eval y)) ?_ (by simp[execOp,ab]);rw[ag];exact anu tab e h (dg x).1 (dg x).2 k
  ·simp[HM.go]at e
 ·rename_i T x y ab;split at e
  ·rename_i i E;obtain ⟨k,ag⟩:=AG E (dg y).1;refine gm.of_yld dL (d:=Instr.index T (a.eval x) (a.eval y)) ?_ (by simp[execOp,ab]);rw[ag];exact apF tab e h (dg x).1 k
  ·simp[HM.go]at e
 ·rename_i T x ab;exact gm.of_yld dL (apl tab e h (dg x).1 eg) (by simp[execOp,ab])
 ·rename_i x b ab;cases b
  ·simp[HM.go]at e
  ·exact gm.of_yld dL (aqJ (ty:=o.type) e h (dg x).1 (dg x).2) (by simp[execOp,ab])
 ·rename_i x j ab;have an:=dg x;split at e
  ·rename_i l ad;rw[ad]at an;obtain ⟨oI,po⟩:=an;obtain ⟨aQ,a8,ar⟩:=oI;obtain ⟨bu,rfl,rfl⟩:=go_opt e;obtain ⟨ae,hu,RZ⟩:=ub ar bu;refine gm.of_yld dL (d:=Instr.extract (a.eval x) j) (cL.pure (v:=ae) h RZ (λi E=>po i (ud bu i E)) ?_) (by simp[execOp,ab]);rw[a8];have nM:aQ[j]? =some ae:=by simpa using hu
   simp[Instr.extract,nM]
  ·simp[HM.go]at e
 ·rename_i c ab;split at e
  ·rename_i b L;obtain ⟨d,af,y⟩:=anT tab (ty:=o.type) (cs:=c.args.map fun | .const _=>true |_=>false) (aQ:=c.args.map a.eval) e h (by simpa using Bj (cx:=cx) c.argTypes.toList _ _ (uL dg c.args.toList)) (λi E=>uE dg c.args.toList i (Bi _ _ i E)) eg;refine gm.of_yld dL y ?_;simp only[execOp,ab,resolve,L,pure_bind,invoke];exact af
  ·rename_i x an;split at e
   ·rename_i g l m bB;cases ar:jA g
    ·rw[ar,av]at e;exact CA c x g l m ab an bB ar e
    ·simp[ar,HM.go]at e
   ·rename_i Y fI bu;cases ar:jA Y
    ·simp[ar,HM.go]at e
    ·rw[ar,aj]at e;exact awI c x Y fI ab an bu ar e
   ·simp[HM.go]at e
  ·rename_i x nm an;split at e
   ·rename_i T ah C2;split at e
    ·rename_i i E;split at e
     ·rename_i f aM;cases ar:jA f
      ·rw[ar,av]at e;exact hinv c x nm T ah i f ab an C2 E aM ar e
      ·simp[ar,HM.go]at e
     ·simp[HM.go]at e
    ·simp[HM.go]at e
   ·simp[HM.go]at e
 ·simp[HM.go]at e
end
open Go.RowKit
theorem Bl {l:List Nat} {o:Nat}:has l o=true↔o∈l:=by
 induction l with
 |nil=>simp[has]
 |cons a l aO=>
  have:(has (a::l) o=true)=((Nat.beq a o||has l o)=true):=rfl;rw[this,Bool.or_eq_true,aO,fe,Nat.beq_eq];exact ⟨λh=>h.imp Eq.symm id,λh=>h.imp Eq.symm id⟩
theorem alV (l:List Nat) (o:Nat): ∀n,idx.go o l n=n+idx.go o l 0:=by
 induction l with
 |nil=>intro n;simp[idx.go]
 |cons a l aO=>
  intro n;simp only[idx.go];cases Nat.beq a o
  ·simp only[av];rw[aO (n+1),aO (0+1)];omega
  ·simp
theorem ajw (a:Nat) (l:List Nat) (o:Nat):idx (a::l) o=bif Nat.beq a o then 0 else idx l o+1:=by
 unfold idx;simp only[idx.go];cases Nat.beq a o
 ·simp only[av];rw[alV];omega
 ·rfl
theorem r0 {l:List Nat} {o:Nat} (h:o∈l):l[idx l o]? =some o:=by
 induction l with
 |nil=>cases h
 |cons a l aO=>
  rw[ajw];cases L:Nat.beq a o
  ·have ct:o≠a:=by rintro rfl;simp at L
   simpa using aO (by simpa [ct] using h)
  ·have:a=o:=by simpa using L
   simp[this]
theorem alW {l:List Nat} {o:Nat} (h:o∈l):idx l o<l.length:=(iJ.1 (r0 h)).1
theorem OQ {l:List Nat} (aN:l.Nodup) {i o:Nat} (h:l[i]? =some o):idx l o=i:=by have q:=r0 (List.mem_of_getElem? h);obtain ⟨E,M⟩:=iJ.1 h;obtain ⟨al,V⟩:=iJ.1 q;exact (List.getElem_inj aN).1 (by rw[M,V])
mutual
theorem K.ren_ids (ρ:Nat->Nat): ∀r:K,(r.ren ρ).ids=r.ids.map ρ
 | .own ..=>rfl | .view ..=>rfl | .ptr ..=>rfl
 | .agg l=>by simp[K.ren,K.ids,K.renL_ids ρ l]
 | .tup l=>by simp[K.ren,K.ids,K.renL_ids ρ l]
 | .fn f a b=>by simp[K.ren,K.ids,K.renL_ids ρ a,K.renL_ids ρ b]
 | .iface T r=>by simp[K.ren,K.ids,K.ren_ids ρ r]
 | .dfr f a b t xs=>by simp[K.ren,K.ids,K.renL_ids ρ a,K.renL_ids ρ b]
 | .undef=>rfl | .dat ..=>rfl | .clip ..=>rfl | .nilv=>rfl | .nils ..=>rfl | .fptr ..=>rfl | .nilI=>rfl | .nilF=>rfl | .nilP=>rfl | .atl _=>rfl | .lim ..=>rfl | .yld ..=>rfl | .gp ..=>rfl
theorem K.renL_ids (ρ:Nat->Nat): ∀l:List K,K.idsL (K.renL ρ l)=(K.idsL l).map ρ
 |[]=>rfl
 |r::l=>by simp[K.renL,K.idsL,K.ren_ids ρ r,K.renL_ids ρ l]
end
mutual
theorem K.ren_fits (ρ:Nat->Nat): ∀(r:K) (t:az),(r.ren ρ).fits t=r.fits t
 | .own ..,_=>rfl | .view ..,_=>rfl | .ptr ..,_=>rfl
 | .agg l,t=>by simp[K.ren,K.fits,K.renL_fits ρ l]
 | .tup l,t=>by simp[K.ren,K.fits]
 | .fn f a b,t=>by simp[K.ren,K.fits]
 | .iface T r,t=>by simp[K.ren,K.fits]
 | .dfr ..,t=>by simp[K.ren,K.fits]
 | .undef,_=>rfl | .dat ..,_=>rfl | .clip ..,_=>rfl | .nilv,_=>rfl | .nils ..,_=>rfl | .fptr ..,_=>rfl | .nilI,_=>rfl | .nilF,_=>rfl | .nilP,_=>rfl | .atl _,_=>rfl | .lim ..,_=>rfl | .yld ..,_=>rfl | .gp ..,_=>rfl
theorem K.renL_fits (ρ:Nat->Nat): ∀(l:List K) (t:az),K.fitsL (K.renL ρ l) t=K.fitsL l t
 |[],t=>rfl
 |r::l,t=>by cases t<;>simp[K.renL,K.fitsL,K.ren_fits ρ r,K.renL_fits ρ l]
end
mutual
theorem K.ren_rel {φ:bP} {ι fo:Nat->aA} {w:bm} (ρ:Nat->Nat): ∀(r:K) (v:aA),(∀i∈r.ids,fo (ρ i)=ι i)->r.rel φ ι w v->(r.ren ρ).rel φ fo w v
 | .undef,_,_,_=>trivial
 | .dat t x,v,_,h=>h
 | .clip t xs,v,_,h=>h
 | .nilv,_,_,h=>h
 | .nils _ _,_,_,h=>h
 | .own t o,v,E,h=>by simp only[K.rel,K.ren]at h ⊢;rw[E o (by simp[K.ids])];exact h
 | .view t o aR dO,v,E,h=>by simp only[K.rel,K.ren]at h ⊢;rw[E o (by simp[K.ids])];exact h
 | .ptr o t i p,v,E,h=>by simp only[K.rel,K.ren]at h ⊢;rw[E o (by simp[K.ids])];exact h
 | .fptr t x,v,_,h=>h
 | .agg l,v,E,⟨cs,e,h⟩=>⟨cs,e,K.renL_relL ρ l _ (λi h=>E i (by simpa [K.ids] using h)) h⟩
 | .tup l,v,E,⟨cs,e,h⟩=>⟨cs,e,K.renL_relT ρ l _ (λi h=>E i (by simpa [K.ids] using h)) h⟩
 | .fn f a b,v,E,⟨x,y,e,q,G⟩=>⟨x,y,e,K.renL_relT ρ a _ (λi h=>E i (by simp[K.ids,h])) q,K.renL_relT ρ b _ (λi h=>E i (by simp[K.ids,h])) G⟩
 | .iface T r,v,E,⟨ae,e,h⟩=>⟨ae,e,K.ren_rel ρ r ae (λi h=>E i (by simpa [K.ids] using h)) h⟩
 | .nilI,_,_,h=>h
 | .nilF,_,_,h=>h
 | .nilP,_,_,h=>h
 | .atl _,_,_,h=>h
 | .lim ..,_,_,h=>h
 | .yld Y o,v,E,h=>by simp only[K.rel,K.ren]at h ⊢;rw[E o (by simp[K.ids])];exact h
 | .gp ..,_,_,h=>h
 | .dfr f a b t xs,v,E,⟨aQ,e,ad,h⟩=>⟨aQ,e,ad,λi x ae an hu=>
   let ⟨bj,lH,ba,M,q,G,aC⟩:=h i x ae an hu
   ⟨bj,lH,ba,M,K.renL_relT ρ a _ (λi h=>E i (by simp[K.ids,h])) q,G,K.renL_relT ρ b _ (λi h=>E i (by simp[K.ids,h])) aC⟩⟩
theorem K.renL_relL {φ:bP} {ι fo:Nat->aA} {w:bm} (ρ:Nat->Nat): ∀(l:List K) (cs:List aA),(∀i∈K.idsL l,fo (ρ i)=ι i)->K.relL φ ι w l cs->K.relL φ fo w (K.renL ρ l) cs
 |[],_,_,h=>h
 |r::l,_,E,⟨v,ba,e,q,G⟩=>⟨v,ba,e,K.ren_rel ρ r v (λi h=>E i (by simp[K.idsL,h])) q,K.renL_relL ρ l ba (λi h=>E i (by simp[K.idsL,h])) G⟩
theorem K.renL_relT {φ:bP} {ι fo:Nat->aA} {w:bm} (ρ:Nat->Nat): ∀(l:List K) (aQ:List aA),(∀i∈K.idsL l,fo (ρ i)=ι i)->K.relT φ ι w l aQ->K.relT φ fo w (K.renL ρ l) aQ
 |[],_,_,h=>h
 |r::l,_,E,⟨v,ba,e,q,G⟩=>⟨v,ba,e,K.ren_rel ρ r v (λi h=>E i (by simp[K.idsL,h])) q,K.renL_relT ρ l ba (λi h=>E i (by simp[K.idsL,h])) G⟩
end
theorem aH.ren_owns (ρ:Nat->Nat) (b:aH):(b.ren ρ).owns=b.owns:=by cases b<;>rfl
theorem aH.ren_live (ρ:Nat->Nat) (b:aH):(b.ren ρ).live=b.live:=by cases b<;>rfl
theorem bS.ren_ids (ρ:Nat->Nat) (R:bS):(R.ren ρ).ids=R.ids.map ρ:=by
 induction R with
 |nil=>rfl
 |cons p l aO=>simp[bS.ren,bS.ids,K.ren_ids,aO]
theorem bS.mem_ren {ρ:Nat->Nat} {R:bS} {s:Nat×K} (h:s∈R.ren ρ): ∃x∈R,s=(x.1,x.2.ren ρ):=by
 induction R with
 |nil=>cases h
 |cons p l aO=>
  rcases fe.1 h with rfl |h
  ·exact ⟨p,aU,rfl⟩
  ·obtain ⟨x,q,G⟩:=aO h;exact ⟨x,by simp[q],G⟩
theorem aH.ren_ids (ρ:Nat->Nat) (b:aH):(b.ren ρ).ids=b.ids.map ρ:=by cases b<;>simp[aH.ren,aH.ids,K.ren_ids,bS.ren_ids]
theorem jE.ren [Env] {φ:bP} {ι fo:Nat->aA} {w:bm} {o dV:Nat} {dh:aH} (ρ:Nat->Nat) (ab:fo dV=ι o) (E: ∀i∈dh.ids,fo (ρ i)=ι i) (h:jE φ ι w o dh):jE φ fo w dV (dh.ren ρ):=by
 cases dh with
 |hole=>trivial
 |gone=>trivial
 |arr e t xs fz=>
  obtain ⟨A,n,c,M,h⟩:=h;exact ⟨A,n,c,ab.trans M,h⟩
 |box T t r=>
  obtain ⟨b,cur,c7,v,M,q,G,W,aC,bd,bD,dU,gB⟩:=h;exact ⟨b,cur,c7,v,ab.trans M,q,G,W,aC,K.ren_rel ρ r v E bd,bD,by rw[K.ren_fits];exact dU,gB⟩
 |iter d pos=>
  obtain ⟨b,n,M,h⟩:=h;exact ⟨b,n,ab.trans M,h⟩
 |loop Y R p=>
  obtain ⟨l,rec,c,M,h⟩:=h;refine ⟨l,rec,c,ab.trans M,⟨h.code,h.heap,h.params,h.assign,h.body,h.nt,h.st,λs aP=> ?_,h.phi⟩⟩;obtain ⟨x,q,rfl⟩:=bS.mem_ren aP;exact K.ren_rel ρ x.2 _ (λi an=>E i (bS.mem_ids q i an)) (h.regs x q)
structure qU (J:List aH) (done:List Nat) (obs:List aH):Prop where
 obs:obs=done.map (aG J)
 nodup:done.Nodup
 closed: ∀o∈done,∀i∈(aG J o).ids,i∈done
theorem zE {J:List aH} {n:Nat}: ∀(k:Nat) (todo done:List Nat) (obs:List aH) (s:List Nat×List aH) (fg:List aH) (dq:Nat),(lv k todo done obs).go J n=some (s,fg,dq)->
  obs=done.map (aG J)->done.Nodup->(∀o∈done,∀i∈(aG J o).ids,i∈done\/i∈todo)->fg=J/\dq=n/\qU J s.1 s.2/\(∀i∈todo,i∈s.1)/\(∃m,s.1=done++m)/\
   ((∀o,∀i∈(aG J o).ids,(aG J i).live=true)->(∀i∈todo,(aG J i).live=true)->(∀i∈done,(aG J i).live=true)-> ∀i∈s.1,(aG J i).live=true)
 |0,todo,done,obs,s,fg,dq,e,_,_,_=>by simp[lv,HM.go]at e
 |k+1,[],done,obs,s,fg,dq,e,ab,aN,au=>by simp only[lv]at e;obtain ⟨rfl,rfl,rfl⟩:=go_ret e;exact ⟨rfl,rfl,⟨ab,aN,λo h i E=>by simpa using au o h i E⟩,aU,⟨[],aU⟩,λ_ _ h=>h⟩
 |k+1,o::todo,done,obs,s,fg,dq,e,ab,aN,au=>by
  simp only[lv]at e;cases L:has done o
  ·simp only[L,av,HM.go]at e;have mu:o∉done:=λh=>by rw[Bl.2 h]at L;cases L
   obtain ⟨q,G,W,aC,⟨m,bd⟩,bD⟩:=zE k _ _ _ s fg dq e (by simp[ab]) (by
     rw[List.nodup_append];exact ⟨aN,aU,λa aV b L=>by simp at L;subst L;rintro rfl;exact mu aV⟩) (λa aV i E=>by
     rcases dn.1 aV with aV |aV
     ·rcases au a aV i E with h |h
      ·exact .inl (dn.2 (.inl h))
      ·rcases fe.1 h with h |h
       ·exact .inl (by simp[h])
       ·exact .inr (dn.2 (.inl h))
     ·simp at aV;subst aV;exact .inr (dn.2 (.inr E)))
   refine ⟨q,G,W,λi E=> ?_,⟨[o]++m,by rw[bd];simp⟩,λdH ds nQ=>bD dH (λi E=> ?_) (λi E=> ?_)⟩
   ·rcases fe.1 E with h |h
    ·rw[bd,h];simp
    ·exact aC i (dn.2 (.inl h))
   ·rcases dn.1 E with h |h
    ·exact ds i (by simp[h])
    ·exact dH o i h
   ·rcases dn.1 E with h |h
    ·exact nQ i h
    ·simp at h;subst h;exact ds i aU
  ·simp only[L,aj]at e;have ea:=Bl.1 L;obtain ⟨q,G,W,aC,bd,bD⟩:=zE k todo done obs s fg dq e ab aN (λa aV i E=>by
     rcases au a aV i E with h |h
     ·exact .inl h
     ·rcases fe.1 h with h |h
      ·exact .inl (by rw[h];exact ea)
      ·exact .inr h)
   refine ⟨q,G,W,λi E=> ?_,bd,λdH ds nQ=>bD dH (λi E=>ds i (by simp[E])) nQ⟩;rcases fe.1 E with h |h
   ·obtain ⟨m,bd⟩:=bd;rw[bd,h];exact dn.2 (.inl ea)
   ·exact aC i h
theorem aak {J:List aH} {n:Nat}: ∀(pre:List Nat) (k:Nat) (rest done:List Nat) (obs:List aH) (s:List Nat×List aH) (fg:List aH) (dq:Nat),(lv k (pre++rest) done obs).go J n=some (s,fg,dq)->
  (done++pre).Nodup-> ∃m,s.1=done++pre++m
 |[],k,rest,done,obs,s,fg,dq,e,aN=>by
  have: ∀(k:Nat) (todo done:List Nat) (obs:List aH),(lv k todo done obs).go J n=some (s,fg,dq)-> ∃m,s.1=done++m:=by
   intro k
   induction k with
   |zero=>intro todo done obs e;simp[lv,HM.go]at e
   |succ k aO=>
    intro todo done obs e;cases todo with
    |nil=>
     simp only[lv]at e;obtain ⟨rfl,-,-⟩:=go_ret e;exact ⟨[],aU⟩
    |cons o todo=>
     simp only[lv]at e;cases L:has done o
     ·simp only[L,av,HM.go]at e;obtain ⟨m,hm⟩:=aO _ _ _ e;exact ⟨[o]++m,by rw[hm];simp⟩
     ·simp only[L,aj]at e;exact aO _ _ _ e
  simpa using this k rest done obs e
 |o::pre,0,rest,done,obs,s,fg,dq,e,aN=>by simp[lv,HM.go]at e
 |o::pre,k+1,rest,done,obs,s,fg,dq,e,aN=>by
  simp only[List.cons_append,lv]at e;have mu:o∉done:=λh=>by have:=(List.nodup_append.1 aN).2.2 o h o aU;exact this rfl
  have L:has done o=false:=by
   cases h:has done o
   ·rfl
   ·exact absurd (Bl.1 h) mu
  simp only[L,av,HM.go]at e;rw[List.append_assoc]at e;obtain ⟨m,hm⟩:=aak pre k _ _ _ s fg dq e (by simpa using aN);exact ⟨m,by rw[hm];simp⟩
theorem ac1 {n i:Nat}:i∈k6 n↔i<n:=by
 induction n with
 |zero=>simp[k6]
 |succ n aO=>simp[k6,aO];omega
theorem as2 (n:Nat):(k6 n).Nodup:=by
 induction n with
 |zero=>simp[k6]
 |succ n aO=>
  rw[k6,List.nodup_append];exact ⟨aO,aU,λa aV b L=>by have:=ac1.1 aV;simp at L;omega⟩
theorem akX {n i:Nat} (h:i<n):(k6 n)[i]? =some i:=by
 induction n with
 |zero=>omega
 |succ n aO=>
  have ad:(k6 n).length=n:=by
   clear h aO
   induction n with
   |zero=>rfl
   |succ n aO=>simp[k6,aO]
  rw[k6];rcases Nat.lt_or_ge i n with q |q
  ·rw[List.getElem?_append_left u];exact aO q
  ·have:i=n:=u;subst this;rw[List.getElem?_append_right u];simp[ad]
theorem adp (n:Nat):(k6 n).length=n:=by
 induction n with
 |zero=>rfl
 |succ n aO=>simp[k6,aO]
section
variable {φ:bP} {ι:Nat->aA} {w:bm} {J:List aH} {done:List Nat} {obs:List aH}
def k5 (ι:Nat->aA) (done:List Nat):Nat->aA:=λi=>ι (done.getD i 0)
def kE (done:List Nat) (obs:List aH):List aH:=obs.map (aH.ren (idx done))
theorem GX {o:Nat} (h:o∈done):k5 ι done (idx done o)=ι o:=by unfold k5;rw[jQ,r0 h];rfl
theorem nU (g:qU J done obs) {i o:Nat} (h:done[i]? =some o):aG (kE done obs) i=(aG J o).ren (idx done):=by have e:=g.obs;subst e;simp[kE,aG,jQ,h]
theorem xg (g:qU J done obs) {i:Nat} (h:done.length<=i):aG (kE done obs) i=.hole:=by have e:=g.obs;subst e;have:done[i]? =none:=List.getElem?_eq_none h;simp[kE,aG,jQ,this]
theorem GH (g:qU J done obs) {b:Nat} (h:j1 (k5 ι done) (kE done obs) b):j1 ι J b:=by
 obtain ⟨i,q,G⟩:=h;cases ao:done[i]? with
 |none=>
  rw[xg g (List.getElem?_eq_none_iff.1 ao)]at q;cases q
 |some o=>
  rw[nU g ao,aH.ren_owns]at q;refine ⟨o,q,?_⟩;rw[<-G];simp[k5,jQ,ao]
theorem aea [Env] (h:ck φ ι w J) (g:qU J done obs) (ad: ∀o∈done,(aG J o).live=true):ck φ (k5 ι done) w (kE done obs):=by
 have E: ∀{i o:Nat},done[i]? =some o->k5 ι done i=ι o:=λ{i o} ao=>by simp[k5,jQ,ao]
 refine ⟨λi=> ?_,λi j b q G W aC=> ?_,h.phi,λi j al=> ?_,h.glob⟩
 ·cases ao:done[i]? with
  |none=>rw[xg g (List.getElem?_eq_none_iff.1 ao)];trivial
  |some o=>
   rw[nU g ao];exact (h.obj o).ren (idx done) (E ao) λk ag=>GX (g.closed o (List.mem_of_getElem? ao) k ag)
 ·cases ao:done[i]? with
  |none=>rw[xg g (List.getElem?_eq_none_iff.1 ao)]at q;cases q
  |some o=>
   cases p3:done[j]? with
   |none=>rw[xg g (List.getElem?_eq_none_iff.1 p3)]at G;cases G
   |some jh=>
    rw[nU g ao,aH.ren_owns]at q;rw[nU g p3,aH.ren_owns]at G;rw[E ao]at W;rw[E p3]at aC;have:=h.apart o jh b q G W aC;subst this;rw[<-OQ g.nodup ao,<-OQ g.nodup p3]
 ·cases ao:done[i]? with
  |none=>rw[xg g (List.getElem?_eq_none_iff.1 ao)]at al;simp[aH.ids]at al
  |some o=>
   rw[nU g ao,aH.ren_ids]at al;obtain ⟨k,ag,rfl⟩:=List.mem_map.1 al;have ku:=g.closed o (List.mem_of_getElem? ao) k ag;rw[nU g (r0 ku),aH.ren_live];exact ad k ku
theorem adC (g:qU J done obs) (ad: ∀o∈done,(aG J o).live=true) {l:List Nat} (ea: ∀i∈l,i∈done): ∀i∈l.map (idx done),(aG (kE done obs) i).live=true:=by intro i E;obtain ⟨k,ag,rfl⟩:=List.mem_map.1 E;rw[nU g (r0 (ea k ag)),aH.ren_live];exact ad k (ea k ag)
theorem ad9 (g:qU J done obs) (ad: ∀o∈done,(aG J o).live=true): ∀i,i<(kE done obs).length->(aG (kE done obs) i).live=true:=by
 intro i E;have e:=g.obs;have dO:i<done.length:=by rw[kE,e]at E;simpa using E
 have ao:done[i]? =some done[i]:=hx dO;rw[nU g ao,aH.ren_live];exact ad _ (dJ dO)
theorem aka (g:qU J done obs):Step φ ι w J φ (k5 ι done) w (kE done obs):=
 ⟨λ_ _ h=>h,λ_ _ _=>rfl,λ_ _ h=>.inl h,ca _,rfl,rfl,rfl,λ_ _ _=>rfl,λ_ h=>.inr (GH g h)⟩
theorem ck.live_ids [Env] (h:ck φ ι w J): ∀o,∀i∈(aG J o).ids,(aG J i).live=true:=by exact h.ids
end
open Go.RowKit
section
variable {P:cA} {cx:cm} {φ:bP} {ι:Nat->aA} {w:bm} {J:List aH} {n:Nat} {aB:List aH} {aE:Nat}
theorem aaJ [Env] {r gX:K} (e:(Hm r).go J n=some (gX,aB,aE)) (h:ck φ ι w J) {v:aA} (ar:r.rel φ ι w v) (ad: ∀i∈r.ids,(aG J i).live=true):
  aE=n/\ ∃ax,ff φ ι w J ax aB/\gX.rel ax ι w v/\ ∀i∈gX.ids,(aG aB i).live=true:=by
 have key: ∀{x:HM eP},x=hr r->(x.bind λI=>HM.ret (K.dat I.t I.x)).go J n=some (gX,aB,aE)->aE=n/\ ∃ax,ff φ ι w J ax aB/\gX.rel ax ι w v/\ ∀i∈gX.ids,(aG aB i).live=true:=by intro x an e;subst an;obtain ⟨I,H1,cG,M,V⟩:=HM.go_bind_some e;obtain ⟨rfl,rfl,rfl⟩:=go_ret V;obtain ⟨q,dF,g,a8⟩:=pm r φ v J n I _ _ M h ar ad;exact ⟨q,dF,g,h3 a8,by simp[K.ids]⟩
 unfold Hm at e;split at e
 ·rename_i l;exact key (x:=uV l) (by simp[hr]) e
 ·exact key rfl e
 ·exact key rfl e
 ·exact key (x:=.ret ⟨.list _,[]⟩) (by simp[hr]) e
 ·exact key (x:=.ret ⟨.list _,_⟩) (by simp[hr]) e
 ·obtain ⟨rfl,rfl,rfl⟩:=go_ret e;exact ⟨rfl,φ,ff.refl h,ar,ad⟩
theorem ZX [Env] {f:FuncId}: ∀(l:List K) (j:Nat) (aQ:List aA) (φ:bP) (J:List aH) (n:Nat) (fG:List K) (aB:List aH) (aE:Nat),(Br cx f j l).go J n=some (fG,aB,aE)->ck φ ι w J->K.relT φ ι w l aQ->(∀i∈K.idsL l,(aG J i).live=true)->
  aE=n/\ ∃ax,ff φ ι w J ax aB/\K.relT ax ι w fG aQ/\ ∀i∈K.idsL fG,(aG aB i).live=true
 |[],j,aQ,φ,J,n,fG,aB,aE,e,h,ar,ad=>by simp only[Br]at e;obtain ⟨rfl,rfl,rfl⟩:=go_ret e;exact ⟨rfl,φ,ff.refl h,ar,ad⟩
 |r::l,j,aQ,φ,J,n,fG,aB,aE,e,h,⟨v,m,a8,q,G⟩,ad=>by
  subst a8;simp only[Br]at e;obtain ⟨ah,H1,cG,M,e⟩:=HM.go_bind_some e;obtain ⟨dH,fg,dq,V,e⟩:=HM.go_bind_some e;obtain ⟨rfl,rfl,rfl⟩:=go_ret e;have ys: ∀i∈r.ids,(aG J i).live=true:=λi E=>ad i (by simp[K.idsL,E])
  have s:cG=n/\ ∃ax,ff φ ι w J ax H1/\ah.rel ax ι w v/\ ∀i∈ah.ids,(aG H1 i).live=true:=by
   cases L:cx.rawArg f j
   ·simp only[L,av]at M;exact aaJ M h q ys
   ·simp only[L,aj]at M;obtain ⟨rfl,rfl,rfl⟩:=go_ret M;exact ⟨rfl,φ,ff.refl h,q,ys⟩
  obtain ⟨rfl,dF,g1,C2,avJ⟩:=s;obtain ⟨rfl,eh,g2,awd,im⟩:=ZX l (j+1) m dF H1 _ dH _ _ V g1.rel (K.relT_mono g1.step.phi g1.step.cells l m (λ_ _=>rfl) G) (λi E=>by rw[g1.live];exact ad i (by simp[K.idsL,E]));refine ⟨rfl,eh,g1.trans g2,⟨v,m,rfl,K.rel_mono g2.step.phi g2.step.cells ah v (λ_ _=>rfl) C2,awd⟩,λi E=> ?_⟩;simp only[K.idsL,dn]at E;rcases E with E |E
  ·rw[g2.live];exact avJ i E
  ·exact im i E
structure LI (ρ:Nat->Nat) (os:List Nat) (l:List aH) (J:List aH) (n:Nat) (aB:List aH) (aE:Nat):Prop where
 le:os.length<=l.length
 next:aE=n+(l.length-os.length)
 old: ∀i o,os[i]? =some o->aG aB o=(aG l i).ren ρ
 new: ∀j,j<l.length-os.length->aG aB (n+j)=(aG l (os.length+j)).ren ρ
 other: ∀o,o∉os->(o<n\/aE<=o)->aG aB o=aG J o
 len:J.length<=aB.length
 top:aE<=aB.length
 seq:n=J.length->aB.length=aE
theorem arX (J:List aH) (o:Nat) (b:aH) (ab:o<=J.length):J.length<=(cc J o b).length/\o+1<=(cc J o b).length/\(o<J.length->(cc J o b).length=J.length)/\(o=J.length->(cc J o b).length=o+1):=by
 rcases Nat.lt_or_ge o J.length with h |h
 ·have:=ik J o b h;exact ⟨u,u,λ_=>this,λh=>u⟩
 ·have:o=J.length:=u;subst this;have:=tI J b;exact ⟨u,u,λh=>u,λ_=>this⟩
theorem abd {ρ:Nat->Nat}: ∀(l:List aH) (J:List aH) (n:Nat) (ae:Unit) (aB:List aH) (aE:Nat),(r1 ρ [] l).go J n=some (ae,aB,aE)->n<=J.length->LI ρ [] l J n aB aE
 |[],J,n,ae,aB,aE,e,aN=>by simp only[r1]at e;obtain ⟨-,rfl,rfl⟩:=go_ret e;exact ⟨ca _,rfl,aU,aU,λ_ _ _=>rfl,ca _,aN,λh=>h.symm⟩
 |b::l,J,n,ae,aB,aE,e,aN=>by
  simp only[r1,HM.go]at e;obtain ⟨bf,a6,cq,ef⟩:=arX J n (b.ren ρ) aN;have aO:=abd l (cc J n (b.ren ρ)) (n+1) ae aB aE e a6;have M:=aO.next;simp only[List.length_nil,Nat.sub_zero]at M;refine ⟨aU,by rw[M];simp;omega,aU,λj al=> ?_,λo ab h=> ?_,Nat.le_trans bf aO.len,aO.top,λh=>aO.seq (ef h).symm⟩
  ·cases j with
   |zero=>
    rw[Nat.add_zero,aO.other n aU (.inl u),gO J n _ n aN];simp[aG]
   |succ j=>
    have:=aO.new j (by simp at al ⊢;omega);rw[show n+(j+1)=n+1+j by omega,this];simp[aG]
  ·rw[aO.other o aU u,gO J n _ o aN];rw[if_neg];omega
theorem aaw {ρ:Nat->Nat}: ∀(os:List Nat) (l:List aH) (J:List aH) (n:Nat) (ae:Unit) (aB:List aH) (aE:Nat),(r1 ρ os l).go J n=some (ae,aB,aE)->n<=J.length->os.Nodup->(∀o∈os,o<J.length/\(o<n\/aE<=o))->LI ρ os l J n aB aE
 |[],l,J,n,ae,aB,aE,e,aN,_,_=>abd l J n ae aB aE e aN
 |o::os,[],J,n,ae,aB,aE,e,aN,_,_=>by simp[r1,HM.go]at e
 |o::os,b::l,J,n,ae,aB,aE,e,aN,dL,bw=>by
  simp only[r1,HM.go]at e;have ab:=(bw o aU).1;have hlen:=ik J o (b.ren ρ) ab;have aO:=aaw os l (cc J o (b.ren ρ)) n ae aB aE e (by rw[hlen];exact aN) (by simp at dL;exact dL.2) (λp aT=>by rw[hlen];exact bw p (by simp[aT]));have mr:o∉os:=by simp at dL;exact dL.1
  refine ⟨by simpa using aO.le,by rw[aO.next];simp,λi p aT=> ?_,λj al=> ?_,λp aT h=> ?_,by rw[<-hlen];exact aO.len,aO.top,λh=>aO.seq (by rw[hlen];exact h)⟩
  ·cases i with
   |zero=>
    obtain rfl:o=p:=by simpa using aT
    rw[aO.other o mr (bw o aU).2,gO J o _ o (Nat.le_of_lt ab)];simp[aG]
   |succ i=>
    have:=aO.old i p (by simpa using aT);rw[this];simp[aG]
  ·have:=aO.new j (by simpa using al);rw[this];simp only[ia,aG];rw[show os.length+1+j=(os.length+j)+1 by omega];simp
  ·rw[aO.other p (λh=>aT (by simp[h])) h,gO J o _ p (Nat.le_of_lt ab),if_neg];rintro rfl;exact aT aU
theorem asw [Env] {done:List Nat} {obs ay:List aH} {ax:bP} {aJ:Nat->aA} {aq:bm} (h:ck φ ι w J) (g:qU J done obs) (ad: ∀o∈done,(aG J o).live=true) (eg:jj J n aE)
  (b:LI (λi=>done.getD i (n+(i-done.length))) done ay J n aB aE) (cy:ck ax aJ aq ay) (d:Step φ (k5 ι done) w (kE done obs) ax aJ aq ay) (k:eo (k5 ι done) (kE done obs) aJ ay):
  ∃hM,ck ax hM aq aB/\Step φ ι w J ax hM aq aB/\eo ι J hM aB/\iW J n aB aE/\ ∀i,(aG ay i).live=true->hM (done.getD i (n+(i-done.length)))=aJ i/\(aG aB (done.getD i (n+(i-done.length)))).live=true:=by
 let ρ:Nat->Nat:=λi=>done.getD i (n+(i-done.length))
 let hM:Nat->aA:=λo=>if o∈done then aJ (idx done o) else if n<=o/\o<aE then aJ (done.length+(o-n)) else ι o
 have hle:=b.le;have aAf:=b.next;have ft: ∀{J:List aH} {i:Nat},(aG J i).owns=true->(aG J i).live=true:=λ{J i} ab=>by cases dC:aG J i<;>rw[dC]at ab<;>first |rfl |(cases ab)
 have ave: ∀o∈done,o<n\/aE<=o:=λo ab=>by
  rcases Nat.lt_or_ge o n with q |q
  ·exact .inl q
  ·rcases Nat.lt_or_ge o aE with G |G
   ·have:=eg.2 o q G;rw[ad o ab]at this;cases this
   ·exact .inr G
 have A: ∀o,(o∈done\/(n<=o/\o<aE))-> ∃i,i<ay.length/\ρ i=o/\hM o=aJ i/\aG aB o=(aG ay i).ren ρ:=by
  intro o ab;by_cases ao:o∈done
  ·refine ⟨idx done o,Nat.lt_of_lt_of_le (alW ao) hle,?_,by simp[hM,ao],b.old _ o (r0 ao)⟩;simp[ρ,jQ,r0 ao]
  ·have ab:=ab.resolve_left ao;refine ⟨done.length+(o-n),u,?_,by simp[hM,ao,ab],?_⟩
   ·simp[ρ,jQ];omega
   ·have:=b.new (o-n) u
    rwa [show n+(o-n)=o by omega]at this
 have B: ∀i,i<ay.length->(ρ i∈done\/(n<=ρ i/\ρ i<aE))/\hM (ρ i)=aJ i/\aG aB (ρ i)=(aG ay i).ren ρ:=by
  intro i E;rcases Nat.lt_or_ge i done.length with q |q
  ·have M:done[i]? =some (done[i]):=hx q;have V:ρ i=done[i]:=by simp[ρ,jQ,M]
   have ao:done[i]∈done:=dJ q;rw[V];exact ⟨.inl ao,by simp[hM,ao,OQ g.nodup M],b.old i _ M⟩
  ·have V:ρ i=n+(i-done.length):=by simp[ρ,jQ,List.getElem?_eq_none q]
   have dL:ρ i∉done:=λao=>by rcases ave _ ao with h |h<;>omega
   refine ⟨.inr u,?_,?_⟩
   ·have W:n<=ρ i/\ρ i<aE:=u;simp only[hM,dL,if_false,W,and_self,if_true];rw[V];congr 1;omega
   ·have:=b.new (i-done.length) u;rw[V,this];congr 2;omega
 have C: ∀o,¬(o∈done\/(n<=o/\o<aE))->aG aB o=aG J o/\hM o=ι o:=by
  intro o ab;have q:o∉done:=λh=>ab (.inl h)
  have G: ¬(n<=o/\o<aE):=λh=>ab (.inr h)
  exact ⟨b.other o q u,by simp only[hM,q,if_false,G]⟩
 have yp: ∀o,(aG J o).live=true->hM o=ι o:=by
  intro o ab;by_cases ao:o∈done
  ·have M:=r0 ao;have q:(aG (kE done obs) (idx done o)).live=true:=by rw[nU g M,aH.ren_live];exact ab
   simp only[hM,ao,if_true];rw[k.iota _ q,GX ao]
  ·by_cases ar:n<=o/\o<aE
   ·rw[eg.2 o ar.1 ar.2]at ab;cases ab
   ·exact (C o (by simp[ao,ar])).2
 have e4: ∀o,(aG J o).live=true->(aG aB o).live=true:=by
  intro o ab;by_cases ao:o∈done
  ·have M:=r0 ao;have q:(aG (kE done obs) (idx done o)).live=true:=by rw[nU g M,aH.ren_live];exact ab
   have:=k.live _ q;rw[b.old _ o M,aH.ren_live];exact this
  ·by_cases ar:n<=o/\o<aE
   ·rw[eg.2 o ar.1 ar.2]at ab;cases ab
   ·rw[(C o (by simp[ao,ar])).1];exact ab
 have Re: ∀{i},(aG ay i).live=true->i<ay.length:=λE=>gP E
 have rm: ∀o fr,¬(o∈done\/(n<=o/\o<aE))->(aG J o).owns=true->dN (ι o)=some fr->fr<w.heap.size/\ ¬j1 (k5 ι done) (kE done obs) fr:=by
  intro o fr ab q G;refine ⟨uG h q G,?_⟩;rintro ⟨i,W,aC⟩;cases ao:done[i]? with
  |none=>rw[xg g (List.getElem?_eq_none_iff.1 ao)]at W;cases W
  |some jh=>
   rw[nU g ao,aH.ren_owns]at W;have e:k5 ι done i=ι jh:=by simp[k5,jQ,ao]
   rw[e]at aC;have:=h.apart o jh fr q W G aC;exact ab (.inl (by rw[this];exact List.mem_of_getElem? ao))
 have aft: ∀i j fr,(i∈done\/(n<=i/\i<aE))-> ¬(j∈done\/(n<=j/\j<aE))->(aG aB i).owns=true->(aG aB j).owns=true->dN (hM i)=some fr->dN (hM j)=some fr->False:=by
  intro i j fr E al q G W aC;obtain ⟨x,oI,po,td,rp⟩:=A i E;obtain ⟨bj,ba⟩:=C j al;rw[bj]at G;rw[ba]at aC;rw[rp,aH.ren_owns]at q;rw[td]at W;obtain ⟨bf,a6⟩:=rm j fr al G aC;rcases d.own fr ⟨x,q,W⟩ with bd |bd
  ·omega
  ·exact a6 bd
 have av7: ∀fr,j1 hM aB fr->w.heap.size<=fr\/j1 ι J fr:=by
  rintro fr ⟨o,q,G⟩;by_cases eM:o∈done\/(n<=o/\o<aE)
  ·obtain ⟨x,oI,po,td,rp⟩:=A o eM;rw[rp,aH.ren_owns]at q;rw[td]at G;exact (d.own fr ⟨x,q,G⟩).imp id (GH g)
  ·obtain ⟨bj,ba⟩:=C o eM;rw[bj]at q;rw[ba]at G;exact .inr ⟨o,q,G⟩
 refine ⟨hM,⟨λo=> ?_,λi j fr q G W aC=> ?_,cy.phi,λo j al=> ?_,cy.glob⟩,⟨d.phi,d.cells,λfr c9 L=> ?_,d.size,d.os,d.tape,d.output,λfr L ab=>d.blocks fr L λau=>ab (GH g au),av7⟩,⟨yp,e4⟩,⟨u,b.len,λ_=>b.top,λi E=> ?_,b.seq⟩,λi E=> ?_⟩
 ·by_cases eM:o∈done\/(n<=o/\o<aE)
  ·obtain ⟨x,oI,po,td,rp⟩:=A o eM;rw[rp];exact (cy.obj x).ren ρ td λj al=>(B j (Re (cy.live_ids x j al))).2.1
  ·obtain ⟨bj,ba⟩:=C o eM;rw[bj];refine (h.obj o).keep d.phi d.cells (λ_=>ba) (λj al=>yp j (h.live_ids o j al)) λfr ab L=> ?_
   obtain ⟨bf,a6⟩:=rm o fr eM ab L;refine ⟨d.blocks fr bf a6,λc9 ag=> ?_⟩;rcases d.newphi fr c9 ag with q |q |q
   ·exact q
   ·omega
   ·exact absurd q a6
 ·by_cases eM:i∈done\/(n<=i/\i<aE)
  ·by_cases Cw:j∈done\/(n<=j/\j<aE)
   ·obtain ⟨x,oI,po,td,rp⟩:=A i eM;obtain ⟨y,aAl,awF,awG,awH⟩:=A j Cw;rw[rp,aH.ren_owns]at q;rw[awH,aH.ren_owns]at G;rw[td]at W;rw[awG]at aC;have:=cy.apart x y fr q G W aC;subst this;rw[<-po,<-awF]
   ·exact (aft i j fr eM Cw q G W aC).elim
  ·by_cases Cw:j∈done\/(n<=j/\j<aE)
   ·exact (aft j i fr Cw eM G q aC W).elim
   ·obtain ⟨bj,ba⟩:=C i eM;obtain ⟨d1,d2⟩:=C j Cw;rw[bj]at q;rw[d1]at G;rw[ba]at W;rw[d2]at aC;exact h.apart i j fr q G W aC
 ·by_cases eM:o∈done\/(n<=o/\o<aE)
  ·obtain ⟨x,oI,po,td,rp⟩:=A o eM;have hl:j∈((aG ay x).ren ρ).ids:=by rw[<-rp];exact al
   rw[aH.ren_ids]at hl;obtain ⟨y,bu,rfl⟩:=List.mem_map.1 hl;have Dc:=cy.live_ids x y bu;rw[(B y (Re Dc)).2.2,aH.ren_live];exact Dc
  ·rw[(C o eM).1]at al;exact e4 j (h.ids o j al)
 ·rcases d.newphi fr c9 L with q |q |q
  ·exact .inl q
  ·exact .inr (.inl q)
  ·exact .inr (.inr (GH g q))
 ·by_cases ao:i∈done
  ·rw[ad i ao,e4 i (ad i ao)]
  ·rw[(C i (by simp[ao];omega)).1]
 ·have:=B i (Re E);refine ⟨this.2.1,?_⟩;rw[this.2.2,aH.ren_live];exact E
theorem Kz [Env] {Γ:hN} (c8:cd P Γ) {f:FuncId} {args:List K} {aQ:Array aA} {r:K} (e:(rZ cx Γ f args).go J n=some (r,aB,aE)) (h:ck φ ι w J) (aV:K.relT φ ι w args aQ.toList) (jL: ∀i∈K.idsL args,(aG J i).live=true) (eg:jj J n aE):
  j0 P f aQ w λe aq=> ∃v ax aJ,e=.returned v/\ck ax aJ aq aB/\Step φ ι w J ax aJ aq aB/\eo ι J aJ aB/\iW J n aB aE/\r.rel ax aJ aq v/\(∀i∈r.ids,(aG aB i).live=true):=by
 unfold rZ at e;obtain ⟨abT,H1,cG,M,Ig⟩:=HM.go_bind_some e;clear e;obtain ⟨rfl,dF,g1,yk,awU⟩:=ZX args 0 aQ.toList φ J n abT H1 cG M h aV jL;obtain ⟨pz,fg,dq,V,Qm⟩:=HM.go_bind_some Ig;clear Ig;have bq:=zE 200 _ [] [] pz fg dq V rfl aU aU;clear V;obtain ⟨done,obs⟩:=pz;obtain ⟨q,G,mZ,ea,-,gF⟩:=bq;subst q G;have pk:=gF g1.rel.live_ids awU aU;simp only at mZ ea pk Qm;obtain ⟨⟨ah,ay⟩,l5,n3,aY,mi⟩:=HM.go_bind_some Qm;clear Qm;rw[HM.go_ofDT]at aY;obtain ⟨s,aP,aY⟩:=ib.1 aY;simp only[c0]at aY;obtain ⟨rfl,rfl,rfl⟩:=aY;simp only[HM.go]at mi;obtain ⟨ae,KY,n4,bp,auo⟩:=HM.go_bind_some mi;clear mi;obtain ⟨rfl,rfl,rfl⟩:=go_ret auo;have au:=c8 _ _ _ _ _ aP;have kt:jj fg dq aE:=eg.ghost g1;have de:=aaw done ay fg dq ae aB aE bp kt.1 mZ.nodup λo ab=>⟨gP (pk o ab),by
  rcases Nat.lt_or_ge o dq with q |q
  ·exact .inl q
  ·rcases Nat.lt_or_ge o aE with G |G
   ·have:=kt.2 o q G;rw[pk o ab]at this;cases this
   ·exact .inr G⟩
 have CA:=au dF (k5 ι done) w aQ (aea g1.rel mZ pk) (λi E=>ad9 mZ pk i E) (K.renL_relT (idx done) abT _ (λi E=>GX (ea i E)) yk) (by rw[K.renL_ids];exact adC mZ pk ea)
 refine j0.mono CA λe aq=> ?_
 rintro ⟨v,ax,aJ,he,cy,d,k,ar,ad⟩;obtain ⟨hM,b1,b2,b3,hH,hO⟩:=asw g1.rel mZ pk kt de cy d k;refine ⟨v,ax,hM,he,b1,g1.step.trans b2,g1.keep.trans b3,(g1.nx dq).trans hH,K.ren_rel _ ah v (λi E=>(hO i (ad i E)).1) ar,λi E=> ?_⟩;rw[K.ren_ids]at E;obtain ⟨j,al,rfl⟩:=List.mem_map.1 E;exact (hO j (ad j al)).2
end
open Go.RowKit
theorem xC {e I:Nat} (h: ¬e=I):Nat.beq e I=false:=by
 cases L:Nat.beq e I
 ·rfl
 ·exact absurd (Nat.eq_of_beq_eq_true L) h
theorem bS.get_put (R:bS) (I:Nat) (r:K) (e:Nat):(R.put I r).get e=if e=I then some r else R.get e:=by
 induction R with
 |nil=>
  simp only[bS.put,bS.get];by_cases h:e=I
  ·subst h;simp
  ·have:Nat.beq e I=false:=xC h;simp[this,h]
 |cons p l aO=>
  obtain ⟨k,d⟩:=p;simp only[bS.put];cases q:Nat.beq I k
  ·cases G:Nat.blt I k
   ·simp only[av,bS.get];rw[aO];cases W:Nat.beq e k
    ·rfl
    ·have M:e=k:=by simpa using W
     have: ¬e=I:=by rintro rfl;rw[M]at q;simp at q
     simp[this]
   ·simp only[av,aj,bS.get];by_cases h:e=I
    ·subst h;simp
    ·have:Nat.beq e I=false:=xC h;simp[this,h]
  ·have M:I=k:=by simpa using q
   subst M;simp only[aj,bS.get];by_cases h:e=I
   ·subst h;simp
   ·have:Nat.beq e I=false:=xC h;simp[this,h]
structure jD where
 n:Nat
 base:Nat
 D:List Deferred
 ro:Option Nat
 nm:Bool
def jD.rf (nt:jD):Prop:=nt.ro=none/\nt.nm=false
def jD.df (nt:jD):Prop:=nt.ro=none/\nt.nm=true/\nt.D=[]
def xN (r:Nat):Deferred:={target:=.collected r,args:= #[]}
def clo:aA->Deferred
 | .func f x y=>{target:=.fn f y,args:=x}
 |_=>{target:=.collected 0,args:= #[]}
def sw (I:Deferred):aA:=match I.target with
 | .fn f y=>.func f I.args y
 |_=>undef
def Marks (nt:jD) (w:bm) (Own:Nat->Prop) (fi:List Deferred):Prop:=
 nt.base<=w.heap.size/\(nt.nm=false-> ∃ms:List Nat,fi=ms.map xN++nt.D/\ms.Nodup/\ ∀r∈ms,nt.base<=r/\w.heap[r]? =some (.deferred (some []))/\ ¬Own r)
def nh (a:Act) (I:Nat):aA:=bif Nat.beq I dK then .tuple (a.defers.map sw).toArray else a.tmps.getD I undef
theorem iP {a:Act} {I:Nat} (h:I≠dK):nh a I=a.tmps.getD I undef:=by have:Nat.beq I dK=false:=xC h;simp[nh,this]
theorem qM {a:Act}:nh a dK=.tuple (a.defers.map sw).toArray:=by have:Nat.beq dK dK=true:=Nat.beq_refl dK;simp[nh,this]
theorem Marks.step {nt:jD} {φ:bP} {ι:Nat->aA} {w:bm} {J:List aH} {ax:bP} {aJ:Nat->aA} {aq:bm} {aB:List aH} {fi:List Deferred} (m:Marks nt w (j1 ι J) fi) (d:Step φ ι w J ax aJ aq aB):Marks nt aq (j1 aJ aB) fi:=by obtain ⟨bW,m⟩:=m;refine ⟨Nat.le_trans bW d.size,λaN=> ?_⟩;obtain ⟨ms,q,G,W⟩:=m aN;refine ⟨ms,q,G,λr ar=> ?_⟩;obtain ⟨bf,a6,cq⟩:=W r ar;have bw:=(kY.1 a6).1;exact ⟨bf,(d.blocks r bw cq).trans a6,λh=>(d.own r h).elim (λaC=>u) cq⟩
structure dv [Env] (φ:bP) (ι:Nat->aA) (w:bm) (a7:jD) (st:bX) (a:Act):Prop where
 heap:ck φ ι w st.heap
 regs: ∀I r,st.regs.get I=some r->r.rel φ ι w (nh a I)/\ ∀i∈r.ids,(aG st.heap i).live=true
 nt:a.tmps.size=a7.n
 small:a7.n<=dK
 defers:Marks a7 w (j1 ι st.heap) a.defers
def u7 (o:Oper):Bool:=match o.op with
 | .defer _=>true
 |_=>false
theorem asz {t:az} {x:t.den}:t.cast? t x=some x:=by simp[az.cast?]
def pS (nt:Nat) (o:Oper):Bool:=match o.dst with
 |some I=>Nat.blt I nt
 |none=>true
section
variable {P:cA} {cx:cm} {Γ:hN} {φ:bP} {ι:Nat->aA} {w:bm} {nt:jD} {st:bX} {a:Act} {n aE:Nat}
theorem atA (v:aA):(G7 v).rel φ ι w v/\(G7 v).ids=[]:=by
 unfold G7;split
 ·exact ⟨h3 (cJ.bool.2 rfl),rfl⟩
 ·exact ⟨h3 (cJ.int.2 rfl),rfl⟩
 ·rename_i d;refine ⟨h3 (cJ.str.2 ?_),rfl⟩;congr 1
 ·exact ⟨rfl,rfl⟩
 ·exact ⟨rfl,rfl⟩
 ·exact ⟨rfl,rfl⟩
 ·exact ⟨rfl,rfl⟩
 ·exact ⟨trivial,rfl⟩
theorem dv.eval [Env] (d:dv φ ι w nt st a):u3 φ ι w st.heap (h2 st.regs) a.eval:=by
 intro x;cases x with
 |tmp t=>
  simp only[h2,Act.eval];cases L:Nat.beq t dK with
  |true=>exact ⟨trivial,by simp[K.ids]⟩
  |false=>
   simp only[av];cases h:st.regs.get t with
   |none=>exact ⟨trivial,by simp[K.ids]⟩
   |some r=>
    have:=d.regs t r h;rw[iP (λe=>by subst e;simp at L)]at this;exact this
 |const v=>
  have:=atA (φ:=φ) (ι:=ι) (w:=w) v;exact ⟨this.1,by simp only[h2];rw[this.2];simp⟩
 |global g=>
  simp only[h2,Act.eval];cases h:Env.glob g with
  |nil=>exact ⟨trivial,by simp[K.ids]⟩
  |cons x l=>
   have:=d.heap.glob g;rw[h]at this;exact ⟨⟨rfl,this⟩,by simp[K.ids]⟩
 |func f=>exact ⟨Vc ⟨#[],#[],rfl,rfl,rfl⟩,by simp[h2,K.ids,K.idsL]⟩
theorem dv.after [Env] {ax:bP} {aJ:Nat->aA} {aq:bm} {aB:List aH} (d:dv φ ι w nt st a) (cy:ck ax aJ aq aB) (t:Step φ ι w st.heap ax aJ aq aB) (k:eo ι st.heap aJ aB)
  {dst:Option Tmp} {r:K} {v:aA} (ao: ∀I,dst=some I->I<nt.n) (ar:r.rel ax aJ aq v) (ad: ∀i∈r.ids,(aG aB i).live=true):dv ax aJ aq nt ⟨l1 st.regs dst r,aB⟩ (a.put dst v):=by
 have old: ∀e x,st.regs.get e=some x->x.rel ax aJ aq (nh a e)/\ ∀i∈x.ids,(aG aB i).live=true:=λe x an=>
  ⟨K.rel_step t k (d.regs e x an).2 (d.regs e x an).1,λi E=>k.live i ((d.regs e x an).2 i E)⟩
 cases dst with
 |none=>exact ⟨cy,old,d.nt,d.small,d.defers.step t⟩
 |some I=>
  refine ⟨cy,λe x an=> ?_,by simp[Act.put,d.nt],d.small,d.defers.step t⟩;have an:(st.regs.put I r).get e=some x:=an;rw[bS.get_put]at an;by_cases he:e=I
  ·subst he;simp only[if_true,bM]at an;subst an;have bw:e<a.tmps.size:=by rw[d.nt];exact ao e rfl
   have:nh (a.put (some e) v) e=v:=by rw[iP (by have:=d.small;have:=d.nt;omega)];simp[Act.put,ji,bw]
   rw[this];exact ⟨ar,ad⟩
  ·simp only[he,if_false]at an;have:nh (a.put (some I) v) e=nh a e:=by
    have ct:I≠e:=λh=>he h.symm
    simp[nh,Act.put,ji,Array.getElem?_setIfInBounds,ct]
   rw[this];exact old e x an
theorem atg [Env] (tab:cT P cx) (c8:cd P Γ) {o:Oper} {db:Operand->K} {J:List aH} {r:K} {aB:List aH} (e:(nv cx Γ o db).go J n=some (r,aB,aE)) (h:ck φ ι w J) (dg:u3 φ ι w J db a.eval) (eg:jj J n aE):gm P o a φ ι w J n r aB aE:=by
 have dL: ∀c,o.op=.call c-> ∀I,o.op≠ .defer I:=λc au I ao=>by rw[au]at ao;cases ao
 refine ase tab (λc x g l m ab au an ar e=> ?_) (λc x nm T ah i f ab au an E aM ar e=> ?_) (λc x Y fI ab au an ar e=> ?_) e h dg eg
 case refine_3=>
  have rq:=(dg x).1;have nN:=(dg x).2;rw[an]at rq nN;have awD:=rq;obtain ⟨-,l,a8⟩:=awD;have W:K.relT φ ι w (iY cx c.argTypes.toList (c.args.toList.map db)) (c.args.map a.eval).toList:=by simpa using Bj (cx:=cx) c.argTypes.toList _ _ (uL dg c.args.toList)
  have ek:K.relT φ ι w (.yld Y fI::iY cx c.argTypes.toList (c.args.toList.map db)) (#[a.eval x]++c.args.map a.eval).toList:=by rw[Array.toList_append];exact ⟨a.eval x,_,rfl,rq,W⟩
  have gF: ∀i∈K.idsL (.yld Y fI::iY cx c.argTypes.toList (c.args.toList.map db)),(aG J i).live=true:=by
   intro i E;simp only[K.idsL,dn]at E;rcases E with E |E
   ·exact nN i E
   ·exact uE dg _ i (Bi _ _ i E)
  obtain ⟨fG,yr,fn,tmps,assign,body,bu,kq⟩:=(j0.round ar).1 (Kz c8 e h ek gF eg);have ra:fG=l:=by
   have:(#[a.eval x]++c.args.map a.eval)[0]? =some (a.eval x):=by rw[Array.getElem?_append_left (by exact Nat.zero_lt_one)];rfl
   rw[this,a8]at yr;simpa using yr.symm
  subst ra;have CH:(#[a.eval x]++c.args.map a.eval).extract 1 (#[a.eval x]++c.args.map a.eval).size=c.args.map a.eval:=by rw[Array.extract_append];simp
  rw[CH]at bu;intro ro next bx k;refine uP (dL c ab) ?_;have he:(execOp a.eval o).run P w=.ok (.round fG fn tmps assign body) w:=by simp only[execOp,ab,resolve,au,a8,Deferred.ofValue,pure_bind,invoke];simpa using bu
  rw[he,Oper.uponIn_round];refine ⟨λh=>(by cases h),RoundIn.mono (R:=_) (show RoundIn (e9 ro) 0 P fG fn tmps assign body w _ from kq) λe aq=> ?_⟩;rintro ⟨v,ax,aJ,rfl,b1,b2,b3,hH,hO,j4⟩;exact k v aq ax aJ b1 b2 b3 hH hO j4
 case refine_2=>
  have rq:=(dg x).1;have nN:=(dg x).2;rw[an]at rq nN;obtain ⟨ae,a8,q⟩:=rq;have W:K.relT φ ι w (iY cx c.argTypes.toList (c.args.toList.map db)) (c.args.map a.eval).toList:=by simpa using Bj (cx:=cx) c.argTypes.toList _ _ (uL dg c.args.toList)
  have ek:K.relT φ ι w (ah::iY cx c.argTypes.toList (c.args.toList.map db)) (#[ae]++c.args.map a.eval).toList:=by rw[Array.toList_append];exact ⟨ae,_,rfl,q,W⟩
  have gF: ∀i∈K.idsL (ah::iY cx c.argTypes.toList (c.args.toList.map db)),(aG J i).live=true:=by
   intro i E;simp only[K.idsL,dn]at E;rcases E with E |E
   ·exact nN i (by simp[K.ids,E])
   ·exact uE dg _ i (Bi _ _ i E)
  have s:=(j0.call ar).1 (Kz c8 e h ek gF eg);intro ro next bx k;refine uP (dL c ab) ?_;have hm:=(tab T i E).meth nm f aM ae w;have he:(execOp a.eval o).run P w=(callFunc f (#[ae]++c.args.map a.eval)).run P w:=by
   have bR:(#[Value.iface T ae]++c.args.map a.eval)[0]? =some (.iface T ae):=by rw[Array.getElem?_append_left (by exact Nat.zero_lt_one)];rfl
   have CH:(#[Value.iface T ae]++c.args.map a.eval).extract 1 (#[Value.iface T ae]++c.args.map a.eval).size=c.args.map a.eval:=by rw[Array.extract_append];simp
   simp only[execOp,ab,resolve,au,a8,pure_bind,invoke,bR,CH,callMethod,Sem.run_bind,run_program,Result.andThen_ok];rw[hm];rfl
  rw[he];rcases s with ⟨bq,bU⟩|⟨v0,aq,bq,v,ax,aJ,j8,b1,b2,b3,hH,hO,j4⟩
  ·rw[bq];rw[Oper.uponIn_enter];refine ⟨λh=>(by cases h),OE ro (Calls.mono bU λe aq=> ?_)⟩;rintro ⟨v,ax,aJ,rfl,b1,b2,b3,hH,hO,j4⟩;exact k v aq ax aJ b1 b2 b3 hH hO j4
  ·injection j8 with j8
   subst j8;rw[bq];rw[Oper.uponIn_value];exact k _ aq ax aJ b1 b2 b3 hH hO j4
 have rq:=(dg x).1;have nN:=(dg x).2;rw[an]at rq nN;obtain ⟨xs,a1,a8,q,G⟩:=rq;have ek:K.relT φ ι w (l++iY cx c.argTypes.toList (c.args.toList.map db)++m) ((xs++c.args.map a.eval)++a1).toList:=by
  have app: ∀(l m:List K) (xs a1:List aA),K.relT φ ι w l xs->K.relT φ ι w m a1->K.relT φ ι w (l++m) (xs++a1):=by
   intro l
   induction l with
   |nil=>intro m xs a1 q G;simp only[K.relT]at q;subst q;exact G
   |cons r l aO=>intro m xs a1 q G;obtain ⟨v,rI,rfl,W,aC⟩:=q;exact ⟨v,rI++a1,rfl,W,aO m rI a1 aC G⟩
  have W:K.relT φ ι w (iY cx c.argTypes.toList (c.args.toList.map db)) (c.args.map a.eval).toList:=by simpa using Bj (cx:=cx) c.argTypes.toList _ _ (uL dg c.args.toList)
  rw[Array.toList_append,Array.toList_append];exact app _ _ _ _ (app _ _ _ _ q W) G
 have gF: ∀i∈K.idsL (l++iY cx c.argTypes.toList (c.args.toList.map db)++m),(aG J i).live=true:=by
  have app: ∀(l m:List K),K.idsL (l++m)=K.idsL l++K.idsL m:=by
   intro l m
   induction l with
   |nil=>rfl
   |cons r l aO=>simp[K.idsL,aO]
  intro i E;rw[app,app]at E;simp only[dn]at E;rcases E with (E |E)|E
  ·exact nN i (by simp[K.ids,E])
  ·exact uE dg _ i (Bi _ _ i E)
  ·exact nN i (by simp[K.ids,E])
 have s:=(j0.call ar).1 (Kz c8 e h ek gF eg);intro ro next bx k;refine uP (dL c ab) ?_;have he:execOp a.eval o=callFunc g ((xs++c.args.map a.eval)++a1):=by simp only[execOp,ab,resolve,au,a8,Deferred.ofValue,pure_bind,invoke]
 rw[he];rcases s with ⟨bq,bU⟩|⟨v0,aq,bq,v,ax,aJ,j8,b1,b2,b3,hH,hO,j4⟩
 ·rw[bq];rw[Oper.uponIn_enter];refine ⟨λh=>(by cases h),OE ro (Calls.mono bU λe aq=> ?_)⟩;rintro ⟨v,ax,aJ,rfl,b1,b2,b3,hH,hO,j4⟩;exact k v aq ax aJ b1 b2 b3 hH hO j4
 ·injection j8 with j8
  subst j8;rw[bq];rw[Oper.uponIn_value];exact k _ aq ax aJ b1 b2 b3 hH hO j4
theorem AF {R:bS} {I:Nat} {b:Bool} (h:(R.get I).bind mB=some b):R.get I=some (.dat .bool b):=by
 obtain ⟨x,an,L⟩:=Option.bind_eq_some_iff.1 h;unfold mB at L;split at L
 ·obtain rfl:=eY L;exact an
 ·cases L
theorem tK {R:bS} {I:Nat} {b:Bool} (h:R.get I=some (.dat .bool b)) (e:Nat):(refine R I b).get e=R.get e:=by
 unfold refine;rw[bS.get_put];split
 ·rename_i he;rw[he,h]
 ·rfl
theorem dv.regs_eq [Env] {eT:bS} (d:dv φ ι w nt st a) (h: ∀e,eT.get e=st.regs.get e):dv φ ι w nt ⟨eT,st.heap⟩ a:=
 ⟨d.heap,λI r ao=>d.regs I r (by rw[<-h I];exact ao),d.nt,d.small,d.defers⟩
theorem acD:(K.tup []).rel φ ι w undef:=⟨#[],rfl,rfl⟩
theorem asT [Env] {o:Oper} {s:bX×Nat×dk} (e:(uO cx Γ o st n).val=some s):
  ∃r,(nv cx Γ o (h2 st.regs)).go st.heap n=some (r,s.1.heap,s.2.1)/\s.1.regs=l1 st.regs o.dst r:=by
 unfold uO at e;obtain ⟨⟨r,h,m,p⟩,M,V⟩:=DT.val_bind_some e;simp only[DT.val,bM]at V;subst V;exact ⟨r,HM.go_run _ _ _ _ _ _ _ _ M,rfl⟩
theorem arB {ops:Array Oper} {j I:Nat} {b:Bool} (al:(ops[j]?).bind (·.dst)=some I) (h:a.tmps.getD I undef=.bool b):yielded ops a.tmps j=some b:=by
 have q:a.tmps[I]? =some (.bool b):=by
  rw[ji]at h;cases G:a.tmps[I]? with
  |none=>rw[G]at h;simp[undef]at h
  |some v=>rw[G]at h;simpa using h
 simp[yielded,al,q]
theorem NC [Env] (tab:cT P cx) (c8:cd P Γ) {ops:Array Oper} {o:Oper} {s:bX×Nat×dk} (e:(qt cx Γ ops o st n).val=some s) (d:dv φ ι w nt st a) (eg:jj st.heap n s.2.1) (ao:pS nt.n o=true)
  {oe:Act->bm->Prop} {bx:Exit->Act->bm->Prop}
  (k: ∀bt aq ax aJ,dv ax aJ aq nt s.1 bt->Step φ ι w st.heap ax aJ aq s.1.heap->eo ι st.heap aJ s.1.heap->iW st.heap n s.1.heap s.2.1->oe bt aq):
  if Region.wanted o (yielded ops a.tmps) then o.wpIn (e9 nt.ro) 0 P a w oe bx else oe (a.put o.dst undef) w:=by
 have lh: ∀I,o.dst=some I->I<nt.n:=λI h=>by simpa [pS,h] using ao
 have act: ∀(gT:bX) (s:bX×Nat×dk),dv φ ι w nt gT a->gT.heap=st.heap->(uO cx Γ o gT n).val=some s->jj st.heap n s.2.1->
   (∀bt aq ax aJ,dv ax aJ aq nt s.1 bt->Step φ ι w st.heap ax aJ aq s.1.heap->eo ι st.heap aJ s.1.heap->iW st.heap n s.1.heap s.2.1->oe bt aq)->o.wpIn (e9 nt.ro) 0 P a w oe bx:=by
  intro gT s iT bg e eg k;obtain ⟨r,M,V⟩:=asT e;rw[<-bg]at eg;refine atg tab c8 M iT.heap iT.eval eg nt.ro oe bx λv aq ax aJ q G W aC bd bD=> ?_
  have:=iT.after q G W lh bd bD;rw[<-V]at this;rw[bg]at G W aC;exact k _ _ ax aJ this G W aC
 unfold qt at e;split at e
 ·rename_i bB;have hw:Region.wanted o (yielded ops a.tmps)=true:=by simp[Region.wanted,bB]
  rw[if_pos hw];exact act st s d rfl e eg k
 ·rename_i j want bB;split at e
  ·rename_i I al;split at e
   ·rename_i b L;have bR:=AF L;have ct:I≠dK:=λh=>by have:=cJ.bool.1 (d.regs I _ bR).1;rw[h,qM]at this;cases this
    have bu:=arB al (cJ.bool.1 (by have:=(d.regs I _ bR).1;rw[iP ct]at this;exact this));have hw:Region.wanted o (yielded ops a.tmps)=Ax b want:=by simp only[Region.wanted,bB,bu];cases b<;>cases want<;>rfl
    rw[hw];cases E:Ax b want
    ·have pd:b= !want:=by cases b<;>cases want<;>first |rfl |cases E
     simp only[E,DT.val,av,bM]at e;subst e;simp only[Bool.false_eq_true,if_false];have iT:=d.regs_eq (eT:=refine st.regs I (!want)) (tK (by rw[bR,pd]));exact k _ _ φ ι (iT.after iT.heap (Step.refl _ _ _ _) (eo.refl _ _) lh acD (by simp[K.ids,K.idsL])) (Step.refl _ _ _ _) (eo.refl _ _) (iW.refl _ _)
    ·have pd:b=want:=by cases b<;>cases want<;>first |rfl |cases E
     simp only[E,DT.val,aj]at e;simp only[if_true];exact act ⟨refine st.regs I want,st.heap⟩ s (d.regs_eq (tK (by rw[bR,pd]))) rfl e eg k
   ·split at e
    ·rename_i L bR;obtain ⟨aQ,a8,eN⟩:=(d.regs I _ bR).1;have eN:aQ= #[]:=by cases aQ;simpa [K.relT] using eN
     subst eN;have bu:yielded ops a.tmps j=none:=by
      unfold yielded;rw[al];simp only[Option.bind_some];split
      ·rename_i c au;have bw:=(kY.1 au).1;rw[iP (by have:=d.small;have:=d.nt;omega),ji,au]at a8;cases a8
      ·rfl
     have hw:Region.wanted o (yielded ops a.tmps)=false:=by simp only[Region.wanted,bB,bu];rfl
     rw[hw];simp only[DT.val,bM]at e;subst e;simp only[Bool.false_eq_true,if_false];exact k _ _ φ ι (d.after d.heap (Step.refl _ _ _ _) (eo.refl _ _) lh acD (by simp[K.ids,K.idsL])) (Step.refl _ _ _ _) (eo.refl _ _) (iW.refl _ _)
    ·simp[DT.val]at e
  ·simp[DT.val]at e
theorem pv {J:List aH} {i:Nat} (h:J.length<=i):aG J i=.hole:=by simp[aG,jQ,List.getElem?_eq_none h]
theorem Pl (J:List aH) (aE:Nat):jj J J.length aE:=⟨ca _,λi h _=>by rw[pv h];rfl⟩
theorem ake [Env] {J:List aH} (h:ck φ ι w J) {p:Nat} {T:bs} {t:az} {x:t.den} (aT:aG J p=.box T t (.dat t x)):
  ∃ax,ff φ ι w J ax (cc J p .gone)/\ ∃b cs,ι p=.pointer (some ⟨b,0,none⟩)/\kz ax w b 0 cs/\bA ax w t x cs:=by
 have bw:p<J.length:=gP (by rw[aT];rfl);have bR: ∀i,aG (cc J p .gone) i=if i=p then .gone else aG J i:=λi=>gO J p _ i (Nat.le_of_lt bw)
 have dC:=h.obj p;rw[aT]at dC;obtain ⟨b,cur,c7,v,M,bg,eb,eg,oG,ek,au7,az4,aAg⟩:=dC;have jV:dN (ι p)=some b:=by rw[M];rfl
 have afB:(aG J p).owns=true:=by rw[aT];rfl
 have e4: ∀i,(aG (cc J p .gone) i).live=(aG J i).live:=λi=>by
  rw[bR];split
  ·rename_i E;subst E;rw[aT];rfl
  ·rfl
 have m6: ∀i,(aG (cc J p .gone) i).owns=true->i≠p/\(aG J i).owns=true:=λi E=>by
  rw[bR]at E;split at E
  ·cases E
  ·rename_i ct;exact ⟨ct,E⟩
 let ax:bP:=λc k=>φ c k\/(c=b/\k<cur.size)
 have IY: ∀c k,φ c k->ax c k:=λc k L=>.inl L
 refine ⟨ax,⟨⟨λi=> ?_,λi j c E al q G=>h.apart i j c (m6 i E).2 (m6 j al).2 q G,?_,λi j al=> ?_,λg=>(h.glob g).mono IY (λ_ _ _=>rfl)⟩,
  ⟨IY,λ_ _ _=>rfl,?_,ca _,rfl,rfl,rfl,λ_ _ _=>rfl,λc ⟨i,q,G⟩=>.inr ⟨i,(m6 i q).2,G⟩⟩,e4,ik J p _ bw⟩,b,cur.toList,M,?_,?_⟩
 ·rw[bR];split
  ·trivial
  ·rename_i E;refine (h.obj i).keep IY (λ_ _ _=>rfl) (λ_=>rfl) (λ_ _=>rfl) λc iG L=>⟨rfl,λk ag=> ?_⟩
   rcases ag with ag |⟨rfl,_⟩
   ·exact ag
   ·exact absurd (h.apart i p c iG afB L jV) E
 ·rintro c k (ag |⟨rfl,ag⟩)
  ·exact h.phi c k ag
  ·exact ⟨cur[k],by simp[World.cell?,bg,Array.getElem?_eq_getElem ag]⟩
 ·rw[bR]at al;rw[e4];split at al
  ·simp[aH.ids]at al
  ·exact h.ids i j al
 ·rintro c k (ag |⟨rfl,_⟩)
  ·exact .inl ag
  ·exact .inr (.inr ⟨p,afB,jV⟩)
 ·intro i ae hu;have nM:cur[i]? =some ae:=by simpa using hu
  have E:=(kY.1 nM).1;rw[Nat.zero_add];exact ⟨.inr ⟨rfl,E⟩,by simp[World.cell?,bg,nM]⟩
 ·have:=ek.1;rw[au7]at this;exact bA.mono IY (λ_ _ _=>rfl) t x _ this
theorem Pv: ∀(l m:List K),u2 l m=true->l=m
 |[],[],_=>rfl
 |[],_::_,h=>by simp[u2]at h
 |a::l,[],h=>by cases a<;>simp[u2]at h
 |a::l,b::m,h=>by cases a<;>cases b<;>simp only[u2,bQ,dS,Nat.beq_eq,reduceCtorEq]at h;obtain ⟨⟨⟨⟨rfl,rfl⟩,rfl⟩,rfl⟩,h⟩:=h;rw[Pv l m h]
theorem aaM {p:Nat} {t:az} {x:t.den} {I:Nat} {r:K}: ∀(R:bS),(uc p t x R).get I=some r-> ∃aa,R.get I=some aa/\(r=aa\/(aa=.ptr p t 0 []/\r=.fptr t x))
 |[],h=>by simp[uc,bS.get]at h
 |(e,ah)::l,h=>by
  have key: ∀aS,(uc p t x ((e,ah)::l))=(e,aS)::uc p t x l->(aS=ah\/(ah=.ptr p t 0 []/\aS=.fptr t x))-> ∃aa,bS.get ((e,ah)::l) I=some aa/\(r=aa\/(aa=.ptr p t 0 []/\r=.fptr t x)):=by
   intro aS q G;rw[q]at h;simp only[bS.get]at h ⊢;cases L:Nat.beq I e
   ·simp only[L,av]at h ⊢;exact aaM l h
   ·simp only[L,aj,bM]at h ⊢;subst h;exact ⟨ah,rfl,G⟩
  cases ah with
  |ptr dV iI i s=>
   refine key _ rfl ?_;cases L:Nat.beq p dV&&decide (t=iI)&&Nat.beq i 0&&s.isEmpty
   ·exact .inl rfl
   ·simp only[bQ,dS,Nat.beq_eq,List.isEmpty_iff]at L;obtain ⟨⟨⟨rfl,rfl⟩,rfl⟩,rfl⟩:=L;exact .inr ⟨rfl,rfl⟩
  |_=>exact key _ rfl (.inl rfl)
theorem ab3: ∀(l m:List K) (aQ:List aA),K.relT φ ι w (l++m) aQ-> ∃bj ba,aQ=bj++ba/\K.relT φ ι w l bj/\K.relT φ ι w m ba
 |[],m,aQ,h=>⟨[],aQ,rfl,rfl,h⟩
 |r::l,m,aQ,⟨v,c,e,q,G⟩=>by obtain ⟨bj,ba,V,W,aC⟩:=ab3 l m c G;exact ⟨v::bj,ba,by rw[e,V];rfl,⟨v,bj,rfl,q,W⟩,aC⟩
theorem DT.val_opt {α β:Type} {o:Option α} {k:α->DT β} {r:β} (h:(DT.opt o k).val=some r): ∃x,o=some x/\(k x).val=some r:=by
 cases o with
 |none=>simp[DT.val]at h
 |some x=>exact ⟨x,rfl,h⟩
theorem DT.val_bif {α:Type} {b:Bool} {x:DT α} {r:α} (h:(bif b then x else .fail).val=some r):b=true/\x.val=some r:=by
 cases b
 ·simp[DT.val]at h
 ·exact ⟨rfl,h⟩
theorem ao9 [Env] {c:Call} {o:Oper} {bb:bX} (ab:o.op=.defer c) (e:(Pd c o st).val=some bb) (d:dv φ ι w nt st a) (jW:nt.df) {oe:Act->bm->Prop} {bx:Exit->Act->bm->Prop}
  (k: ∀bt aq ax aJ,dv ax aJ aq nt bb bt->Step φ ι w st.heap ax aJ aq bb.heap->eo ι st.heap aJ bb.heap->oe bt aq):o.guard=none/\o.wpIn (e9 nt.ro) 0 P a w oe bx:=by
 unfold Pd at e;split at e
 ·rename_i f g A B t xs au fF Rt avu q8;split at e
  ·rename_i QN lG dg;split at e
   ·rename_i p ae bZ avh;have s:=DT.val_bif e;clear e;obtain ⟨bq,e⟩:=s;split at e
    ·rename_i T iU v EG dC;have s:=DT.val_bif e;clear e;obtain ⟨bU,e⟩:=s;simp only[bQ,dS,Nat.beq_eq]at bq bU;obtain ⟨⟨rfl,q⟩,G⟩:=bq;obtain ⟨rfl,rfl⟩:=bU;have q:=Pv _ _ q;have G:=Pv _ _ G;subst G;obtain ⟨n2,an,V⟩:=DT.val_opt e;clear e;have awA:v=iU:=by
      by_cases h:v=iU
      ·exact h
      ·simp[az.cast?,h]at an
     subst awA;obtain rfl:EG=n2:=by rw[asz]at an;exact eY an
     have aY:=eY V;clear V
     ·have e:=aY;clear aY;subst e;refine ⟨avu,?_⟩;obtain ⟨ax,hh,fr,cs,i1,i2,i3⟩:=ake d.heap dC;have aM:=d.eval f;rw[dg]at aM;obtain ⟨⟨aiB,a1,a8,Da,Dd⟩,gF⟩:=aM;have Da:aiB= #[]:=by cases aiB;simpa [K.relT] using Da
      subst Da;have hk:c.args= #[]:=by cases Cz:c.args;rw[Cz]at fF;simpa using fF
      have eW:(o.semAt (e9 nt.ro).round a.eval).run P w=.ok (.defer {target:=.fn (.func g) a1,args:= #[]}) w:=by have:(e9 nt.ro).round=none:=jW.1;rw[this,Oper.semAt_none];simp only[execOp,ab,resolve,au,a8,Deferred.ofValue,hk];simp[go_sem]
      have ln:K.relT φ ι w (A++ .ptr p v 0 []::bZ) a1.toList:=by
       have:lG=A++ .ptr p v 0 []::bZ:=by rw[<-q,<-avh,List.take_append_drop]
       rw[<-this];exact Dd
      obtain ⟨bj,ba,M,ah,lH,c3,V,aS,bV⟩:=ab3 _ _ _ ln;have avb:lH=.pointer (some ⟨fr,0,none⟩):=by
       obtain ⟨b2,a6,g1,g2,-⟩:=aS;rw[i1]at g1;rcases g1 with ⟨n,c,g1,-⟩|⟨g1,-,rfl⟩
       ·cases g1
       ·have:fr=b2:=by simpa using g1
        subst this;simpa [az.offAt] using g2
      refine ⟨λ_ _=>trivial,?_⟩;rw[eW,Oper.uponIn_defer,Rt];refine k _ w ax ι ⟨hh.rel,λI r ao=> ?_,d.nt,d.small,⟨d.defers.1,λaN=>by rw[jW.2.1]at aN;cases aN⟩⟩ hh.step hh.keep;simp only[Act.put];have ao:(((uc p v EG st.regs).put dK (.dfr g A bZ v (EG::xs))).get I)=some r:=ao;rw[bS.get_put]at ao;by_cases mn:I=dK
      ·subst mn;simp only[if_true,bM]at ao;subst ao;rw[qM];have hold:=d.regs dK _ q8;obtain ⟨aQ,eN,ad,fQ⟩:=K.rel_mono (aJ:=ι) hh.step.phi hh.step.cells _ _ (λ_ _=>rfl) hold.1;rw[qM]at eN;have eN:a.defers.map sw=aQ:=by simpa using eN
       refine ⟨⟨.func (.func g) #[] a1::aQ,by rw[<-eN];rfl,by simp[ad],λi x ae an hu=> ?_⟩,λi E=> ?_⟩
       ·cases i with
        |zero=>
         simp only[List.getElem?_cons_zero,bM]at an hu;subst an hu;refine ⟨bj,lH,c3,?_,K.relT_mono hh.step.phi hh.step.cells A _ (λ_ _=>rfl) ah,⟨fr,0,cs,avb,i2,i3⟩,K.relT_mono hh.step.phi hh.step.cells bZ _ (λ_ _=>rfl) bV⟩;rw[<-V,<-M]
        |succ i=>exact fQ i x ae (by simpa using an) (by simpa using hu)
       ·rw[hh.live];exact hold.2 i E
      ·simp only[mn,if_false]at ao;obtain ⟨aa,bf,a6⟩:=aaM _ ao;have hold:=d.regs I aa bf;have I4:nh {tmps:=a.tmps,defers:={target:=.fn (.func g) a1,args:= #[]}::a.defers} I=nh a I:=by rw[iP mn,iP mn]
       rw[I4];rcases a6 with rfl |⟨rfl,rfl⟩
       ·exact ⟨K.rel_mono hh.step.phi hh.step.cells _ _ (λ_ _=>rfl) hold.1,λi E=>by rw[hh.live];exact hold.2 i E⟩
       ·refine ⟨?_,by simp[K.ids]⟩;obtain ⟨b2,a6,g1,g2,-⟩:=hold.1;rw[i1]at g1;rcases g1 with ⟨n,c,g1,-⟩|⟨g1,-,rfl⟩
        ·cases g1
        ·have:fr=b2:=by simpa using g1
         subst this;exact ⟨fr,0,cs,by simpa [az.offAt] using g2,i2,i3⟩
    ·simp[DT.val]at e
   ·simp[DT.val]at e
  ·simp[DT.val]at e
 ·simp[DT.val]at e
theorem FQ [Env] (tab:cT P cx) (c8:cd P Γ) {ops:Array Oper} {bx:Exit->Act->bm->Prop}: ∀(l:List Oper) (st bb:bX) (φ:bP) (ι:Nat->aA) (w:bm) (a:Act),(oU cx Γ ops l st).val=some bb->dv φ ι w nt st a->l.all (pS nt.n)=true->(l.any u7=true->nt.df)->
  (∀bt aq ax aJ,dv ax aJ aq nt bb bt->Step φ ι w st.heap ax aJ aq bb.heap->eo ι st.heap aJ bb.heap->bx .normal bt aq)->wpListIn (e9 nt.ro) 0 P ops bx l a w
 |[],st,bb,φ,ι,w,a,e,d,ao,jW,k=>by simp only[oU,DT.val,bM]at e;subst e;exact k a w φ ι d (Step.refl _ _ _ _) (eo.refl _ _)
 |o::l,st,bb,φ,ι,w,a,e,d,ao,jW,k=>by
  simp only[oU]at e;obtain ⟨cj,M,V⟩:=DT.val_bind_some e;simp only[List.all_cons,bQ]at ao;have s:if Region.wanted o (yielded ops a.tmps) then o.wpIn (e9 nt.ro) 0 P a w (wpListIn (e9 nt.ro) 0 P ops bx l) bx else wpListIn (e9 nt.ro) 0 P ops bx l (a.put o.dst undef) w:=by
   split at M
   ·rename_i c ab;obtain ⟨bB,s⟩:=ao9 (P:=P) (bx:=bx) ab M d (jW (by simp[u7,ab])) λbt aq ax aJ s1 t1 bf=>
     FQ tab c8 l cj bb ax aJ aq bt V s1 ao.2 (λh=>jW (by rw[List.any_cons,h];simp)) λa2 dc eh en s2 t2 a6=>k a2 dc eh en s2 (t1.trans t2) (bf.trans a6)
    have hw:Region.wanted o (yielded ops a.tmps)=true:=by simp[Region.wanted,bB]
    rw[if_pos hw];exact s
   ·obtain ⟨⟨dM,m,p⟩,aY,bp⟩:=DT.val_bind_some M;simp only[DT.val,bM]at bp;subst bp;exact NC (bx:=bx) tab c8 aY d (Pl _ _) ao.1 λbt aq ax aJ s1 t1 bf cG=>
     FQ tab c8 l dM bb ax aJ aq bt V s1 ao.2 (λh=>jW (by rw[List.any_cons,h];simp)) λa2 dc eh en s2 t2 a6=>k a2 dc eh en s2 (t1.trans t2) (bf.trans a6)
  unfold wpListIn;split
  ·rename_i h;rw[if_pos h]at s;exact s
  ·rename_i h;rw[if_neg h]at s;exact ⟨λ_ _=>trivial,s⟩
end
end Go.X
