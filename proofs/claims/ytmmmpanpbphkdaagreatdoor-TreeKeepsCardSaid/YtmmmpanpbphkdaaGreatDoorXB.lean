import Derived.Test.YtmmmpanpbphkdaaGreatDoorXA
import Derived.Great.FillDense
import Derived.Laws.Tables
import Derived.ChangeMaps3
import Derived.Laws.BytesArg
import Derived.Lib.AppendZeros
import Derived.Lib.AppendZerosOnto
import Derived.Lib.ConvBytes
import Derived.OrdersIn
import Derived.TacticsIn
import Derived.LoopNIn
import Derived.RangeFuncLeaves
import Derived.RangeFuncRecord
import Derived.RangeFuncSeq
import Derived.Tactics
set_option linter.unusedVariables false
set_option linter.unusedSimpArgs false
namespace Go.X
open Go.RowKit
section
variable {P:cv} {cx:cj} {φ:bL} {ι aH:Nat->az} {w aq:bk} {J:List aG} {n:Nat} {r:K} {aA:List aG} {aJ:Nat}
theorem ab1 {place:Nat->Option (Nat×Nat)} {cells:Array az} {i:Nat} {v:az} {rest:List (Nat×az)} {off size:Nat} (aT:place i=some (off,size)) (a8:v.cells.size=size) (W:off+size<=cells.size):
  Instr.fill place cells ((i,v)::rest)=Instr.fill place (cells.toList.take off++v.cells.toList++cells.toList.drop (off+size)).toArray rest:=by
 rw[Instr.fill,aT];have q: ¬(v.cells.size≠size||decide (off+v.cells.size>cells.size))=true:=by simp;omega
 simp only[q,Bool.false_eq_true,if_false];congr 1;rw[<-Array.foldl_toList];apply Array.ext_getElem?;intro k;have:=(Great.foldl_set off v.cells.toList 0 cells).2 k;simp only[Array.toList_zipIdx]at this ⊢;rw[this];simp only[Nat.add_zero,ix,List.getElem?_toArray];by_cases af:off<=k/\k<off+v.cells.size/\k<cells.size
 ·rw[if_pos af];rw[List.append_assoc,List.getElem?_append_right (by simp;omega),List.getElem?_append_left (by simp;omega)];congr 1;simp;omega
 ·rw[if_neg af];rcases Nat.lt_or_ge k off with G |G
  ·rw[List.append_assoc,List.getElem?_append_left (by simp;omega),List.getElem?_take];simp[G]
  ·rw[List.getElem?_append_right (by simp;omega),List.getElem?_drop];simp only[eF,ev,ix];rcases Nat.lt_or_ge k cells.size with ab |ab
   ·rw[show off+size+(k-(min off cells.size+v.cells.size))=k by omega];simp
   ·rw[Array.getElem?_eq_none ab]
    symm
    rw[List.getElem?_eq_none];simp;omega
theorem ab2 (z:Array az) (d:Nat) (ah:z.size=d) (bY:0<d): ∀m,((List.range (m*d)).map λi=>z[i%d]!)=(List.replicate m z.toList).flatten
 |0=>aU
 |m+1=>by
  rw[show (m+1)*d=d+m*d by rw[Nat.add_mul];omega,List.range_add,List.map_append,List.map_map,List.replicate_succ,List.flatten_cons,<-ab2 z d ah bY m];congr 1
  ·apply List.ext_getElem
   ·simp[ah]
   ·intro i q G;have E:i<d:=by simpa using q
    simp[Nat.mod_eq_of_lt E,ah,E]
  ·apply List.map_congr_left;intro i _;simp
theorem tF {e:bq} {t:aB} {bytes:Nat} (h:sN P e t bytes) (m:Nat): ∃z,(∀w,(zeroValue e).run P w=.ok z w)/\z.cells.size=t.size/\0<t.size/\
  ∀φ w,c2 (bz φ w t) (List.replicate m t.zero) ((Array.range (m*t.size)).map λi=>z.cells[i%z.cells.size]!).toList:=by
 obtain ⟨dO,z,q,G,ab,_,aE,bf,bF,dU⟩:=h;have kN:z.cells.size=t.size:=by simpa using bF
 refine ⟨z,λw=>by simp[zeroValue,typeInfo,q,aE],kN,bf,fun φ w=> ?_⟩;have:((Array.range (m*t.size)).map λi=>z.cells[i%z.cells.size]!).toList=(List.replicate m z.cells.toList).flatten:=by rw[Array.toList_map,Array.toList_range,kN];exact ab2 z.cells t.size kN bf m
 rw[this];exact c2.replicate (dU φ w) m
theorem c2.one {φ:bL} {w:bk} {t:aB} {xs:List t.den} {cs:List az} (h:c2 (bz φ w t) xs cs): ∀v∈cs,v.oneCell'=true:=by
 induction xs generalizing cs with
 |nil=>simp only[c2]at h;subst h;simp
 |cons x xs aR=>
  obtain ⟨bh,ba,rfl,q,G⟩:=h;intro v a8;rcases dp.1 a8 with a8 |a8
  ·exact bz.one t _ _ q v a8
  ·exact aR G v a8
theorem Cells.of_chunks {φ:bL} {w:bk} {t:aB} {cur:Array az} {eM:List t.den} (h:c2 (bz φ w t) eM cur.toList) (n:Nat):Cells φ w t n cur:=
 ⟨h.one,.inr ⟨_,h.drop (λx c=>bz.len t x c) n⟩⟩
theorem uQ [Env] (h:cg φ ι w J) {e:bq} {t:aB} {xs:List t.den} {cur:Array az} {c b:Nat} {c6:Nat×Nat} (g:ic w aq) (L:aq.heap[b]? =some (.cells cur e c6)) (aeA:w.heap.size<=b) (al:xs.length<=c) (aw:c<=maxLen)
  (ah:cur.size=c*t.size) (aM:x6 t c6 cur.size) (q:Cells φ aq t xs.length cur) (af:c2 (bz φ aq t) xs (cur.toList.take (xs.length*t.size))) (aO:n<=J.length) (h4:(aF J n).live=false):
  cG φ ι w J n (.own t n) (b8 J n (.arr e t xs false)) (n+1) (.ok (.slice (some ⟨b,0,none⟩) xs.length c) aq):=by
 have lQ: ∀k,¬φ b k:=λk af=>by have:=kR h af;omega
 obtain ⟨bd,a6,cp,eh⟩:=Bs (v:=.slice (some ⟨b,0,none⟩) xs.length c) (dg:=.arr e t xs false) h aO h4 g
  ⟨some ⟨b,0,none⟩,xs.length,c,by simp[eg],rfl,al,aw,.inr ⟨b,#[],cur,c6,rfl,by simpa using L,ah,by simpa using aM,aU,q,af,λk af=>absurd af (lQ k),λbI=>by cases bI⟩⟩ (by simp[aG.ids]) rfl
  (λbX h3=>by
   simp only[dM]at h3;split at h3
   ·cases h3
   ·injection h3 with h3;omega)
 refine ⟨_,_,φ,_,rfl,bd,a6,cp,eh,uN ⟨by simp[eg],_,_,_,rfl⟩,?_⟩;intro i E;have:i=n:=by simpa [K.ids] using E
 subst this;rw[gL J i _ i aO,if_pos rfl];rfl
theorem U3 [Env] (h:cg φ ι w J) {e:bq} {t:aB} {A:Option Addr} (aO:n<=J.length) (h4:(aF J n).live=false):
  cG φ ι w J n (.own t n) (b8 J n (.arr e t [] false)) (n+1) (.ok (.slice A 0 0) w):=by
 obtain ⟨bd,a6,cp,eh⟩:=Bs (v:=.slice A 0 0) (dg:=.arr e t [] false) (aq:=w) h aO h4 ⟨rfl,rfl,rfl,ca _,λ_ _=>rfl⟩
  ⟨A,0,0,by simp[eg],rfl,ca _,aU,.inl rfl⟩ (by simp[aG.ids]) rfl (λbX h3=>by cases A<;>simp[dM]at h3)
 refine ⟨_,_,φ,_,rfl,bd,a6,cp,eh,uN ⟨by simp[eg],_,_,_,rfl⟩,?_⟩;intro i E;have:i=n:=by simpa [K.ids] using E
 subst this;rw[gL J i _ i aO,if_pos rfl];rfl
theorem cG.after [Env] {dE:bL} {H1:List aG} {run:Result az} (g:fe φ ι w J dE H1) (y:cG dE ι w H1 n r aA aJ run):cG φ ι w J n r aA aJ run:=by obtain ⟨v,aq,av,aH,bd,a6,cp,eh,gZ,ir,td⟩:=y;exact ⟨v,aq,av,aH,bd,a6,g.step.trans cp,g.keep.trans eh,(g.nx n).trans gZ,ir,td⟩
theorem PE {x:Int} (bY: -9223372036854775808<=x) (q:x<9223372036854775808):IntKind.i64.wrap x=x:=by
 have M:IntKind.i64.bits=64:=rfl;have V:IntKind.i64.signed=true:=rfl;simp only[IntKind.wrap,M,V,Bool.true_and];have a1:(2:Int)^64=18446744073709551616:=fm;have bp:(2:Int)^(64-1)=9223372036854775808:=fm;rw[a1,bp];split
 ·rename_i h;simp only[dT]at h;omega
 ·rename_i h;simp only[dT]at h;omega
theorem amL [Env] (tab:cN P cx) {T:bq} {a b:Int} {agr ags:IntKind} (e:(M8 cx T a b).go J n=some (r,aA,aJ)) (h:cg φ ι w J) (ed:jg J n aJ):
  cG φ ι w J n r aA aJ ((Instr.makeSlice T (.int agr a) (.int ags b)).run P w):=by
 unfold M8 at e;split at e
 ·rename_i i E;split at e
  ·rename_i t aW;have s:=go_chk2 e;clear e;obtain ⟨L,e⟩:=s;simp only[bQ,dT]at L;obtain ⟨⟨bY,q⟩,G⟩:=L;simp only[HM.go,bJ,c0]at e;obtain ⟨rfl,rfl,rfl⟩:=e;obtain ⟨ao,gC⟩:=kM tab E aW;obtain ⟨z,bI,C2,afh,nE⟩:=tF gC b.toNat;obtain ⟨dO,mH,g1,g2,g3,g4,_⟩:=gC;have hbound:b.toNat*i.bytes<=am:=by
    have:((b.toNat*i.bytes:Nat):Int)<=(am:Int):=by rw[Int.natCast_mul,Int.toNat_of_nonneg u];exact G
    omega
   have azw:b.toNat<=am:=Nat.le_trans (Nat.le_mul_of_pos_right _ g4) hbound;have vw:am=140737488355328:=rfl;have ayP:IntKind.i64.wrap a=a:=PE u u;have iv:IntKind.i64.wrap b=b:=PE u u;have hmul:(i.bytes:Int)*b<=281474976710656:=by have:(i.bytes:Int)*b=b*i.bytes:=Int.mul_comm _ _;omega
   have avg: ∀x:Int,0<=x->x<=b->(decide (x<0)||decide ((i.bytes:Int)*x>2^48))=false:=by intro x CX oG;have:(i.bytes:Int)*x<=(i.bytes:Int)*b:=Int.mul_le_mul_of_nonneg_left oG u;simp only[Bool.or_eq_false_iff,decide_eq_false_iff_not];omega
   have eU:(Instr.makeSlice T (.int agr a) (.int ags b)).run P w=.ok (.slice (some ⟨w.heap.size,0,none⟩) a.toNat b.toNat) (w.alloc (.cells ((Array.range (b.toNat*t.size)).map λi=>z.cells[i%z.cells.size]!) i.elem)):=by
    unfold Instr.makeSlice;have m1:=avg b u (Int.le_refl _);have ea:=yS (P:=P) (w:=w) (kM tab E aW).2;have ft:(typeInfo i.elem).run P w=.ok dO w:=by simp[typeInfo,g1]
    have il: ¬(a<0):=u;have atZ: ¬(a>b):=u;have p9: ¬(b.toNat*i.bytes>roomBytes):=by unfold roomBytes;omega
    simp only[Sem.run_bind,run_underlying ao,Result.andThen_ok,asInt,asIntOf,Sem.run_pure,ft,g3,ayP,iv,m1,il,atZ,decide_false,Bool.or_false,Bool.false_eq_true,if_false,askRoom,p9,ea];by_cases yu:b.toNat*t.size=0
    ·have Ix:Array.range 0= #[]:=rfl;simp[yu,newRow,Ix]
    ·simp[yu,newRow,bI]
   rw[eU];have nM:(List.replicate a.toNat t.zero).length=a.toNat:=List.length_replicate;have:=uQ (φ:=φ) (ι:=ι) (n:=n) h (e:=i.elem) (t:=t) (xs:=List.replicate a.toNat t.zero) (cur:=(Array.range (b.toNat*t.size)).map λi=>z.cells[i%z.cells.size]!) (c:=b.toNat) (b:=w.heap.size) (c6:=(0,0)) (ic.alloc w _)
    (heap_alloc_new w _) (ca _) (by rw[nM];omega) (by simp only[maxLen];omega) aU (uy _ _) (Cells.of_chunks (nE φ _) _) (by
     rw[nM];have q:=(nE φ (w.alloc (.cells ((Array.range (b.toNat*t.size)).map λi=>z.cells[i%z.cells.size]!) i.elem))).take (λx c=>bz.len t x c) a.toNat
     rwa [List.take_replicate,Nat.min_eq_left u]at q) ed.1 (ed.2 n (ca _) u)
   rwa [nM]at this
  ·simp[HM.go]at e
 ·simp[HM.go]at e
end
open Go.RowKit
section
variable {P:cv} {cx:cj} {φ:bL} {ι aH:Nat->az} {w aq:bk} {J:List aG} {n:Nat} {r:K} {aA:List aG} {aJ:Nat}
theorem Pd: ∀(l:List K) (t:aB) (cs:List az) (j:Nat) (ae:aB) (x:K) (v:az),K.relL φ ι w l cs->K.fitsL l t=true->t.nth j=some ae->x.rel φ ι w v->x.fits ae=true->
  K.relL φ ι w (l.set j x) (cs.take (t.offs j)++v.cells.toList++cs.drop (t.offs j+ae.size))/\K.fitsL (l.set j x) t=true
 |[],t,cs,j,ae,x,v,h,aM,aO,al,hu=>by
  have e:t=.unit:=by simpa [K.fitsL] using aM
  subst e;cases j<;>simp[aB.nth]at aO
 |r::l,t,cs,j,ae,x,v,⟨v0,ba,e,q,G⟩,aM,aO,al,hu=>by
  subst e;cases t with
  |pair a b=>
   simp only[K.fitsL,bQ]at aM;have hlen:v0.cells.toList.length=a.size:=by rw[<-(K.rel_fits r a v0 q aM.1).1];simp
   cases j with
   |zero=>
    simp only[aB.nth,bJ]at aO;subst aO;refine ⟨⟨v,ba,?_,al,G⟩,?_⟩
    ·simp only[aB.offs,List.take_zero,List.nil_append,Nat.zero_add];rw[<-hlen,List.drop_left]
    ·simp[K.fitsL,hu,aM.2]
   |succ j=>
    obtain ⟨bd,a6⟩:=Pd l b ba j ae x v G aM.2 (by simpa [aB.nth] using aO) al hu;refine ⟨⟨v0,_,?_,q,bd⟩,?_⟩
    ·simp only[aB.offs];rw[<-hlen,List.take_length_add_append,Nat.add_assoc,<-List.drop_drop,List.drop_left];simp
    ·simp[K.fitsL,aM.1,a6]
  |_=>simp[K.fitsL]at aM
theorem ac7 (l:List K) (j:Nat) (x:K): ∀i∈K.idsL (l.set j x),i∈K.idsL l\/i∈x.ids:=by
 induction l generalizing j with
 |nil=>intro i E;simp[K.idsL]at E
 |cons a l aR=>
  cases j with
  |zero=>
   intro i E;simp only[List.set_cons_zero,K.idsL,dp]at E ⊢;rcases E with E |E
   ·exact .inr E
   ·exact .inl (.inr E)
  |succ j=>
   intro i E;simp only[List.set_cons_succ,K.idsL,dp]at E ⊢;rcases E with E |E
   ·exact .inl (.inl E)
   ·rcases aR j i E with h |h
    ·exact .inl (.inr h)
    ·exact .inr h
def qv (φ:bL) (ι:Nat->az) (w:bk) (J:List aG):List (Nat×K)->List (Nat×az)->Prop
 |[],[]=>True
 |(i,x)::l,(j,v)::m=>i=j/\x.rel φ ι w v/\(∀k∈x.ids,(aF J k).live=true)/\qv φ ι w J l m
 |_,_=>False
theorem qv.ghost [Env] {av:bL} (g:fe φ ι w J av aA): ∀{l:List (Nat×K)} {m:List (Nat×az)},qv φ ι w J l m->qv av ι w aA l m
 |[],[],_=>trivial
 |(i,x)::l,(j,v)::m,⟨q,G,ab,aE⟩=>⟨q,K.rel_step g.step g.keep ab G,λk af=>by rw[g.live];exact ab k af,aE.ghost g⟩
 |[],_::_,h=>h.elim
 |_::_,[],h=>h.elim
theorem GO {l:List K} {v:az} (h: ∃cs,v=.agg cs/\K.relL φ ι w l cs.toList):(K.agg l).rel φ ι w v:=h
theorem acB [Env] {i:gl} {place:Nat->Option (Nat×Nat)} (aT: ∀j U ae,i.fields[j]? =some U->i.ty.nth j=some ae->place j=some (i.ty.offs j,ae.size)):
  ∀(parts:List (Nat×K)) (aI:List (Nat×az)) (φ:bL) (l:List K) (cells:Array az) (J:List aG) (n:Nat) (r:K) (aA:List aG) (aJ:Nat),(AP.go cx i l parts).go J n=some (r,aA,aJ)->cg φ ι w J->
  K.relL φ ι w l cells.toList->K.fitsL l i.ty=true->(∀k∈K.idsL l,(aF J k).live=true)->qv φ ι w J parts aI->
  aJ=n/\ ∃av mb fF,fe φ ι w J av aA/\Instr.fill place cells aI=some mb/\r=.agg fF/\K.relL av ι w fF mb.toList/\K.fitsL fF i.ty=true/\ ∀k∈K.idsL fF,(aF aA k).live=true
 |[],[],φ,l,cells,J,n,r,aA,aJ,e,h,ad,aM,hid,_=>by obtain ⟨rfl,rfl,rfl⟩:=go_ret e;exact ⟨rfl,φ,cells,l,fe.refl h,rfl,rfl,ad,aM,hid⟩
 |[],_::_,_,_,_,_,_,_,_,_,_,_,_,_,_,W=>W.elim
 |_::_,[],_,_,_,_,_,_,_,_,_,_,_,_,_,W=>W.elim
 |(j,x)::parts,(gg,v)::aI,φ,l,cells,J,n,r,aA,aJ,e,h,ad,aM,hid,⟨ak,al,mn,W⟩=>by
  subst ak;unfold AP.go at e;split at e
  ·rename_i U ae jk hu;obtain ⟨y,H1,dm,M,V⟩:=HM.go_bind_some e;clear e;obtain ⟨rfl,dE,g1,bt,tk⟩:=NR M h (xl (cx:=cx) (T:=U) al) (λk af=>mn k (xk k af));have s:=go_bif V;clear V;obtain ⟨s0,V⟩:=s;have vp:K.relL dE ι w l cells.toList:=K.relL_mono g1.step.phi g1.step.cells l _ (λ_ _=>rfl) ad;obtain ⟨bd,a6⟩:=Pd l i.ty cells.toList j ae y v vp aM hu bt s0;have hlen:cells.toList.length=i.ty.size:=(K.relL_fits l i.ty _ ad aM).1;have yl:=Gm hu;have eL:=(K.rel_fits y ae v bt s0).1;have qa:=ab1 (rest:=aI) (aT j U ae jk hu) eL (show i.ty.offs j+ae.size<=cells.size by rw[<-ix,hlen];exact yl);obtain ⟨aO,av,mb,fF,g2,p2,ar,q7,aeH,Rk⟩:=acB aT parts aI dE (l.set j y) (cells.toList.take (i.ty.offs j)++v.cells.toList++cells.toList.drop (i.ty.offs j+ae.size)).toArray H1 dm r aA aJ V g1.rel (by simpa using bd) a6
    (λk af=>by
     rcases ac7 l j y k af with q |q
     ·rw[g1.live];exact hid k q
     ·exact tk k q) (W.ghost g1)
   exact ⟨aO,av,mb,fF,g1.trans g2,by rw[qa];exact p2,ar,q7,aeH,Rk⟩
  ·simp[HM.go]at e
theorem aok [Env] (tab:cN P cx) {T:bq} {parts:List (Nat×K)} (e:(AP cx T parts).go J n=some (r,aA,aJ)) (h:cg φ ι w J) {aI:Array (Nat×az)} (W:qv φ ι w J parts aI.toList):
  cG φ ι w J n r aA aJ ((Instr.build T aI).run P w):=by
 unfold AP at e;split at e
 ·rename_i i l E bI;obtain ⟨rp,z,dN,eU,C2,IF,awd,awe,awh⟩:=abI tab bI ⟨i,E⟩;rw[E]at dN;injection dN with dN
  subst dN;obtain ⟨info,CB,_,awf⟩:=(tab T i E).info;obtain ⟨mH,RY,_⟩:=awf _ bI;have vC:z=mH:=by have:=eU w;simp[zeroValue,typeInfo,CB,RY]at this;exact this.symm
  subst vC;obtain ⟨cs,rfl,mw⟩:=awh φ ι w;have jD:i.ty.isAgg=true:=IF.symm;obtain ⟨place,aT,auv⟩: ∃place:Nat->Option (Nat×Nat),(∀j U ae,i.fields[j]? =some U->i.ty.nth j=some ae->place j=some (i.ty.offs j,ae.size))/\P.built T aI.toList=Instr.fill place cs aI.toList:=by
   have ao:=(tab T i E).desc;unfold k6 at ao;split at ao
   ·rename_i e;rw[e]at jD;cases jD
   ·rename_i e;rw[e]at jD;cases jD
   ·rename_i e;rw[e]at jD;cases jD
   ·rename_i e;rw[e]at jD;cases jD
   ·rename_i e;rw[e]at jD;cases jD
   ·rcases ao with ⟨_,dx,ao,ah,af⟩|⟨_,m,cl,dO,ao,hm,he,af⟩
    ·have av0:=Go.ChangeMaps.mapM_total (f:=λ(f:Field)=>(P.info? f.type).map λi=>(f.offset,i.size)) (0,0) (l:=dx.toList) (by
      intro fd m4;obtain ⟨k,kO,kv⟩:=List.getElem_of_mem m4;have m6:k<i.fields.length:=by rw[<-ah];simpa using kO
      obtain ⟨ad5,q,G,_,j,ak,_,_⟩:=af k _ (hr m6);have ab:ad5=fd:=by
       have avb:k<dx.size:=by simpa using kO
       rw[Array.getElem?_eq_getElem avb]at q;injection q with q
       rw[<-q,<-kv];simp
      subst ab;obtain ⟨afA,hT,_⟩:=(tab _ j ak).info;rw[G,hT];exact ⟨_,rfl⟩)
     refine ⟨λx=>((dx.toList.map λx=>(((P.info? x.type).map λi=>(x.offset,i.size)).getD (0,0))).toArray)[x]?,?_,?_⟩
     ·intro j U ae jk hu;obtain ⟨fd,q,G,ab,gg,iD,aE,bf⟩:=af j U jk;rw[hu]at aE;injection aE with aE
      subst aE;obtain ⟨afA,hT,e5,_⟩:=(tab _ gg iD).info;have dr:dx.toList[j]? =some fd:=by simpa using q
      simp[q,G,hT,e5,ab]
     ·unfold Program.built;rw[CB,ao];simp only[RY,av0];rfl
    ·refine ⟨λi=>some (i*dO.size,dO.size),?_,?_⟩
     ·intro j U ae jk hu;obtain ⟨q,G,gg,iD,aE,bf⟩:=af j U jk;rw[hu]at aE;injection aE with aE
      subst aE;obtain ⟨afA,hT,e5,_⟩:=(tab _ gg iD).info;rw[q,he]at hT;injection hT with hT
      subst hT;simp[<-G,e5]
     ·unfold Program.built;rw[CB,ao];simp only[RY,he];rfl
  obtain ⟨aO,av,mb,fF,g,p2,rfl,q7,aeH,Rk⟩:=acB (cx:=cx) aT parts aI.toList φ l cs J n r aA aJ e h mw (by simpa [K.fits] using awd) (by
   have:K.idsL l=[]:=by simpa [K.ids] using awe
   rw[this];simp) W
  subst aO;exact cG.ghost g (GO ⟨mb,rfl,q7⟩) (by simpa [K.ids] using Rk) (run_build w T aI mb (by rw[auv,p2]))
 ·simp[HM.go]at e
end
open Go.RowKit
section
variable {P:cv} {cx:cj} {φ av:bL} {ι aH:Nat->az} {w aq:bk} {J:List aG} {n:Nat} {r:K} {aA:List aG} {aJ:Nat}
theorem xf [Env] (h:cg φ ι w J) {o:Nat} (W:(aF J o).owns=true) (aO:n<=J.length) (h4:(aF J n).live=false) {v:az} {dg:aG} (oE:dg.owns=true) (fr:dg.ids=[])
  (avB:aq.os=w.os) (avX:aq.tape=w.tape) (RB:aq.output=w.output) (avS:w.heap.size<=aq.heap.size) (aez: ∀b,b<w.heap.size->dM (ι o)≠some b->aq.heap[b]? =w.heap[b]?)
  (aT: ∀b k,φ b k->av b k) (aw: ∀b k,φ b k->aq.cell? ⟨b,k,none⟩=w.cell? ⟨b,k,none⟩) (Rx: ∀b k,av b k->φ b k\/(dM v=some b/\ ∃ae,aq.cell? ⟨b,k,none⟩=some ae))
  (a8: ∀b,dM v=some b->w.heap.size<=b\/dM (ι o)=some b) (dB:jz av (eg ι n v) aq n dg):
  cg av (eg ι n v) aq (b8 (b8 J o .gone) n dg)/\Step φ ι w J av (eg ι n v) aq (b8 (b8 J o .gone) n dg)/\eo ι J (eg ι n v) (b8 (b8 J o .gone) n dg)/\iW J n (b8 (b8 J o .gone) n dg) (n+1):=by
 have fs: ∀i,(aF J i).owns=true->(aF J i).live=true:=λi W=>by cases dB:aF J i<;>rw[dB]at W<;>first |rfl |(cases W)
 have bu:=gM (fs o W);have cw: ∀i,(aF J i).live=true->i≠n:=λi E e=>by subst e;rw[h4]at E;cases E
 have avz:o≠n:=cw o (fs o W);have bO: ∀i,aF (b8 (b8 J o .gone) n dg) i=if i=n then dg else if i=o then .gone else aF J i:=λi=>by
  rw[gL _ n dg i (by rw[ij J o _ bu];exact aO)];split
  ·rfl
  ·rw[gL J o _ i (Nat.le_of_lt bu)]
 have E: ∀i,(aF J i).live=true->eg ι n v i=ι i:=λi E=>by simp[eg,cw i E]
 have gP:dg.live=true:=by cases dg<;>first |rfl |(cases oE)
 have ad: ∀i,(aF J i).live=true->(aF (b8 (b8 J o .gone) n dg) i).live=true:=λi h=>by
  rw[bO,if_neg (cw i h)];split
  ·rfl
  ·exact h
 have Q9:(eg ι n v) n=v:=by simp[eg]
 have RA: ∀i b,i≠n->i≠o->(aF J i).owns=true->dM (ι i)=some b->dM v≠some b/\b<w.heap.size/\dM (ι o)≠some b:=by
  intro i b q G ab aE;have L:=uE h ab aE;have bf:dM (ι o)≠some b:=λe=>G (h.apart i o b ab W aE e)
  exact ⟨λe=>by
            rcases a8 b e with bF |bF
            ·omega
            ·exact bf bF,L,bf⟩
 refine ⟨⟨λi=> ?_,λi j b jn lh q G=> ?_,λb k L=> ?_,λi j ak=> ?_,λg=>(h.glob g).mono aT aw⟩,⟨aT,aw,λb k L=> ?_,avS,avB,avX,RB,λb L j7=>aez b L (λe=>j7 ⟨o,W,e⟩),λb L=> ?_⟩,⟨E,ad⟩,?_⟩
 ·rw[bO];split
  ·rename_i e;subst e;exact dB
  ·rename_i q;split
   ·trivial
   ·rename_i G;refine (h.obj i).keep aT aw (E i) (λj ak=>E j (h.ids i j ak)) λb iE L=> ?_
    ·obtain ⟨bd,a6,cp⟩:=RA i b q G iE L;refine ⟨aez b a6 cp,λk af=> ?_⟩;rcases Rx b k af with ab |ab
     ·exact ab
     ·exact absurd ab.1 bd
 ·rw[bO]at jn lh;by_cases ab:i=n
  ·by_cases aE:j=n
   ·rw[ab,aE]
   ·rw[if_neg aE]at lh;split at lh
    ·cases lh
    ·rename_i bf;subst ab;rw[Q9]at q;rw[E j (fs j lh)]at G;exact absurd q (RA j b aE bf lh G).1
  ·rw[if_neg ab]at jn;split at jn
   ·cases jn
   ·rename_i bf;rw[E i (fs i jn)]at q;by_cases aE:j=n
    ·subst aE;rw[Q9]at G;exact absurd G (RA i b ab bf jn q).1
    ·rw[if_neg aE]at lh;split at lh
     ·cases lh
     ·rw[E j (fs j lh)]at G;exact h.apart i j b jn lh q G
 ·rcases Rx b k L with q |q
  ·rw[aw b k q];exact h.phi b k q
  ·exact q.2
 ·rw[bO]at ak;split at ak
  ·rw[fr]at ak;simp at ak
  ·split at ak
   ·simp[aG.ids]at ak
   ·exact ad j (h.ids i j ak)
 ·rcases Rx b k L with q |q
  ·exact .inl q
  ·rcases a8 b q.1 with G |G
   ·exact .inr (.inl G)
   ·exact .inr (.inr ⟨o,W,G⟩)
 ·obtain ⟨i,q,G⟩:=L;rw[bO]at q;split at q
  ·rename_i e;subst e;rw[Q9]at G;rcases a8 b G with ab |ab
   ·exact .inl ab
   ·exact .inr ⟨o,W,ab⟩
  ·split at q
   ·cases q
   ·rw[E i (fs i q)]at G;exact .inr ⟨i,q,G⟩
 ·have h5:=ij J o .gone bu;refine ⟨u,?_,λh=> ?_,λi E=> ?_,λh=> ?_⟩
  ·rcases Nat.lt_or_ge n J.length with q |q
   ·rw[ij _ n dg (by rw[h5];exact q),h5];exact ca _
   ·have:n=(b8 J o .gone).length:=u;rw[this,tJ];omega
  ·rcases Nat.lt_or_ge n J.length with q |q
   ·rw[ij _ n dg (by rw[h5];exact q),h5];exact q
   ·have:n=(b8 J o .gone).length:=u;rw[this,tJ];exact ca _
  ·rw[bO,if_neg u];split
   ·rename_i e;subst e;rw[fs i W];rfl
   ·rfl
  ·have:n=(b8 J o .gone).length:=u;rw[this,tJ]
structure xn (P:cv) (φ:bL) (w:bk) (t:aB) (aZ:List t.den) (x:az) (news:List az):Prop where
 len: ∀w,(Builtin.lenOf x).run P w=.ok aZ.length w
 chunks:c2 (bz φ w t) aZ news
 cells: ∀aq,ic w aq->(Builtin.firstCells t.size aZ.length x).run P aq=.ok news.toArray aq
structure G9 (P:cv) (T dX e:bq) (t:aB) (bytes:Nat):Prop where
 dst:P.underlying T=some (.slice e)
 src: ∃I,P.underlying dX=some I/\ ∀k,I≠ .int k
 el:sN P e t bytes
theorem ic.refl (w:bk):ic w w:=⟨rfl,rfl,rfl,ca _,λ_ _=>rfl⟩
theorem ic.drew (w:bk):ic w w.drew:=⟨rfl,rfl,rfl,ca _,λ_ _=>rfl⟩
theorem Dp {T dX ty e:bq} {t:aB} {bytes:Nat} (aW:G9 P T dX e t bytes) {A:Option Addr} {m c:Nat} {x:az} {aZ:List t.den} {news:List az} (ah:xn P φ w t aZ x news) (ar:m+aZ.length<=c)
  {aq:bk} (gE: ∀a,A=some a->(storeCells (a.add (m*t.size)) news).run P w=.ok () aq) (mo:A=none->aq=w):
  (Builtin.append_ #[T,dX] ty #[.slice A m c,x]).run P w=.ok (.slice A (m+aZ.length) c) aq:=by
 obtain ⟨I,ao,af⟩:=aW.src;have bI:(match I with | .int _=>true |_=>false)=false:=by cases I<;>first |rfl |(exact absurd rfl (af _))
 have q:=yS (w:=w) aW.el;have G:=ah.cells w (ic.refl w);unfold Builtin.append_;simp only[List.getElem?_toArray,List.getElem?_cons_zero,List.getElem?_cons_succ,Sem.run_bind,run_underlying aW.dst,run_underlying ao,Result.andThen_ok,q,Sem.run_pure,bI,Bool.false_eq_true,if_false,ah.len,ar,if_true,cU,G];cases A with
 |none=>simp[mo rfl]
 |some a=>simp[gE a rfl]
theorem Tu {T dX ty e:bq} {t:aB} {bytes:Nat} (aW:G9 P T dX e t bytes) {A:Option Addr} {m c:Nat} {x:az} {aZ:List t.den} {news gn:List az} (ah:xn P φ w t aZ x news) (ar:c<m+aZ.length)
  (hold:(Builtin.firstCells t.size m (.slice A m c)).run P w.drew=.ok gn.toArray w.drew) (L:(m+aZ.length)*bytes<=am):
  ∃eD eM,m+aZ.length<=eD/\eD<=maxLen/\eM.size=(eD-(m+aZ.length))*t.size/\(∃us:List t.den,∀φ w,c2 (bz φ w t) us eM.toList)/\
  (Builtin.append_ #[T,dX] ty #[.slice A m c,x]).run P w=.ok (.slice (some ⟨w.heap.size,0,none⟩) (m+aZ.length) eD) (w.drew.alloc (.cells (gn.toArray++news.toArray++eM) e)):=by
 obtain ⟨I,ao,af⟩:=aW.src;have bI:(match I with | .int _=>true |_=>false)=false:=by cases I<;>first |rfl |(exact absurd rfl (af _))
 have q:=yS (w:=w) aW.el;have G:=ah.cells w.drew (ic.drew w);obtain ⟨dO,z,g1,g2,g3,g4,g5,g6,g7,g8⟩:=aW.el;have vw:am=140737488355328:=rfl;have eE:m+aZ.length<=am:=Nat.le_trans (Nat.le_mul_of_pos_right _ g4) L;have s0:=growslice_fits (bytes:=bytes) ar u;have aO: ¬(m+aZ.length<=c):=u;have azs: ¬(((m+aZ.length:Nat):Int)>IntKind.i64.max/\((false=true)\/bytes=0)):=by
  rintro ⟨_,h |h⟩
  ·cases h
  ·omega
 have at1: ¬(Builtin.nextslicecap (m+aZ.length) c*bytes>2^48):=u;have ft: ∀w,(typeInfo e).run P w=.ok dO w:=λw=>by simp[typeInfo,g1]
 have afq: ∀w,(zeroValue e).run P w=.ok z w:=λw=>by simp[zeroValue,typeInfo,g1,g5]
 have C1:z.cells.size=t.size:=by simpa using g7
 refine ⟨grownCap w (m+aZ.length) c e,Builtin.zeroCells z.cells (grownCap w (m+aZ.length) c e-(m+aZ.length)),grownCap_ge w _ _ _,grownCap_le_maxLen w _ _ _ (by simp only[maxLen];omega),by rw[size_zeroCells,C1],?_,?_⟩
 ·obtain ⟨mH,bd,a6,cp,eh⟩:=tF (P:=P) (bytes:=bytes) ⟨dO,z,g1,g2,g3,g4,g5,g6,g7,g8⟩ (grownCap w (m+aZ.length) c e-(m+aZ.length));have vC:mH=z:=by
   have M:=bd w;rw[afq]at M;injection M with M _
   exact M.symm
  subst vC;refine ⟨List.replicate (grownCap w (m+aZ.length) c e-(m+aZ.length)) t.zero,fun φ w=> ?_⟩;have:=eh φ w;rw[<-C1]at this;exact this
 ·unfold Builtin.append_;simp only[List.getElem?_toArray,List.getElem?_cons_zero,List.getElem?_cons_succ,Sem.run_bind,run_underlying aW.dst,run_underlying ao,Result.andThen_ok,q,Sem.run_pure,bI,Bool.false_eq_true,if_false,ah.len,aO,ft,g3,cU];rw[if_neg (by rintro ⟨_,h |h⟩;exact h;omega)];simp only[Sem.run_bind,ft,Result.andThen_ok,g3];rw[if_neg at1];have aN:(choose (.appendCap (m+aZ.length) c e)).run P w=.ok (grownCap w (m+aZ.length) c e) w.drew:=by simp[Question.forced,grownCap]
  have p9: ∀b,(askRoom b).run P w.drew=.ok () w.drew:=λb=>by unfold askRoom;split<;>rfl
  simp only[Sem.run_pure,Result.andThen_ok,Sem.run_bind,aN,ft,g3,p9,hold,G,if_true,afq,newRow,run_newObj_alloc];rfl
end
open Go.RowKit
section
variable {P:cv} {cx:cj} {φ av:bL} {ι aH:Nat->az} {w aq:bk} {J:List aG} {n:Nat} {r:K} {aA:List aG} {aJ:Nat}
structure oW (φ:bL) (w:bk) (t:aB) (xs:List t.den) (v:az):Prop where
 ex: ∃A c aZ,v=.slice A xs.length c/\xs.length<=c/\c2 (bz φ w t) xs aZ/\(xs.length=0\/ ∃b o,A=some ⟨b,o,none⟩/\ ∀i ae,aZ[i]? =some ae->w.cell? ⟨b,o+i,none⟩=some ae)
theorem oW.of_CR {t:aB} {xs:List t.den} {v:az} (h:bz φ w (.list t) xs [v]):oW φ w t xs v:=by
 obtain ⟨A,n,c,e,ad,aO,bg⟩:=h;injection e with e _
 subst ad;rcases bg with bg |⟨b,o,aZ,rfl,gB,af⟩
 ·refine ⟨A,c,[],e,aO,?_,.inl bg⟩;have:xs=[]:=kV bg;subst this;rfl
 ·exact ⟨_,c,aZ,e,aO,af,.inr ⟨b,o,rfl,λi ae hu=>(gB i ae hu).2⟩⟩
theorem acz [Env] {o:Nat} {e:bq} {t:aB} {xs:List t.den} {fz:Bool} (h:jz φ ι w o (.arr e t xs fz)) {A dh:Option Addr} {n c aQ E:Nat} (a8:ι o=.slice A n c) (q:aQ<=E) (G:E<=n) (e4:c≠aQ->dh=A.map (·.add (aQ*t.size))):
  oW φ w t ((xs.take E).drop aQ) (.slice dh (E-aQ) (c-aQ)):=by
 obtain ⟨jx,aJ,eD,M,V,a1,bp,bg⟩:=h;rw[a8]at M;obtain ⟨rfl,rfl,rfl⟩:=iO M;have hlen:((xs.take E).drop aQ).length=E-aQ:=by simp[V];omega
 by_cases bI:E-aQ=0
 ·have:(xs.take E).drop aQ=[]:=kV u;refine ⟨dh,c-aQ,[],by rw[hlen],u,?_,.inl u⟩;rw[this];rfl
 ·have aw:c≠aQ:=u;rcases bg with bg |⟨b,pre,cur,c6,rfl,g1,g2,g3,g0,g4,g5,g6,g7⟩
  ·omega
  ·have hle:E*t.size<=n*t.size:=gV _ G;refine ⟨dh,c-aQ,(cur.toList.take (E*t.size)).drop (aQ*t.size),by rw[hlen],u,?_,.inr ⟨b,pre.size+aQ*t.size,by rw[e4 aw];simp[hI],?_⟩⟩
   ·have:=(g5.take (λx c=>bz.len t x c) E).drop (λx c=>bz.len t x c) aQ
    rwa [List.take_take,Nat.min_eq_left hle]at this
   ·intro i v dN;rw[List.getElem?_drop,List.getElem?_take]at dN;split at dN
    ·rw[qd g1,Nat.add_assoc,GN];simpa using dN
    ·cases dN
theorem Fo [Env] {x:K} {I:eN} {cH:az} (e:(oq x).go J n=some (I,aA,aJ)) (h:cg φ ι w J) (al:x.rel φ ι w cH) (fG: ∀i∈x.ids,(aF J i).live=true):
  aJ=n/\ ∃av,fe φ ι w J av aA/\((∃d,cH=.string ⟨⟨d⟩⟩/\I=⟨.list (.int .u8),j8 d⟩/\x.isStr=true)\/ ∀t xs,I=⟨.list t,xs⟩->oW av w t xs cH):=by
 unfold oq at e;split at e
 ·rename_i t o;simp only[HM.go]at e;split at e
  ·rename_i cl ae xs fz hm;obtain ⟨kL,W,rfl⟩:=oM hm;obtain ⟨rfl,rfl,rfl⟩:=go_ret e;refine ⟨rfl,φ,fe.refl h,.inr λiJ hB ao=> ?_⟩;injection ao with q G
   injection q with q
   subst q;obtain rfl:=eq_of_heq G;obtain ⟨rfl,A,m,c,a8⟩:=al;have cq:=h.obj o;rw[W]at cq;have ar:=acz cq a8 (dh:=A) (Nat.zero_le m) (ca m) (λ_=>by cases A<;>simp[Addr.add]);obtain ⟨jx,aJ,eD,M,V,_⟩:=cq;rw[a8]at M;obtain ⟨rfl,rfl,rfl⟩:=iO M;rw[a8];simpa [<-V] using ar
  ·simp[HM.go]at e
 ·rename_i t o aQ E;simp only[HM.go]at e;split at e
  ·rename_i cl ae xs fz hm;obtain ⟨kL,W,rfl⟩:=oM hm;have s:=go_bif e;clear e;obtain ⟨hu,e⟩:=s;have hu:ae=t:=by simpa using hu
   subst hu;obtain ⟨rfl,rfl,rfl⟩:=go_ret e;refine ⟨rfl,φ,fe.refl h,.inr λiJ hB ao=> ?_⟩;injection ao with q G
   injection q with q
   subst q;obtain rfl:=eq_of_heq G;obtain ⟨A,m,c,dh,a8,q,G,ab,rfl,e4,_⟩:=al;have cq:=h.obj o;rw[W]at cq;exact acz cq a8 q G e4
  ·simp[HM.go]at e
 ·obtain ⟨rfl,rfl,rfl⟩:=go_ret e;exact ⟨rfl,φ,fe.refl h,.inl ⟨_,cF.str.1 al,rfl,rfl⟩⟩
 ·obtain ⟨aO,av,g,a8⟩:=tD x φ cH J n I aA aJ e h al fG;refine ⟨aO,av,g,.inr λt xs ao=> ?_⟩;subst ao;have aw:=a8.1;rw[rG a8.2]at aw;exact oW.of_CR (by simpa using aw)
theorem oW.source {t:aB} {aZ:List t.den} {v:az} (h:oW φ w t aZ v): ∃news,xn P φ w t aZ v news:=by
 obtain ⟨A,c,news,rfl,aw,af,bg⟩:=h;refine ⟨news,λw=>by simp[Builtin.lenOf],af,λaq g=> ?_⟩;have ad:=af.len (λx c=>bz.len t x c);rcases bg with bg |⟨b,o,rfl,fX⟩
 ·have:aZ=[]:=kV bg;subst this;simp only[c2]at af;subst af;cases A with
  |none=>exact run_firstCells_none _ _ _ _ _
  |some a=>simpa using run_firstCells_some (P:=P) aq t.size 0 a 0 c [] aU aU
 ·exact run_firstCells_some (P:=P) aq t.size aZ.length _ aZ.length c news ad (λj ae ak=>by rw[hI];have q:=fX j ae ak;rw[g.cell (World.block_lt_of_cell? w _ q)];exact q)
theorem MU (d:List UInt8):xn P φ w (.int .u8) (j8 d) (.string ⟨⟨d⟩⟩) (d.map λb=>.int .u8 (b.toNat:Int)):=by
 refine ⟨λw=> ?_,?_,λaq g=> ?_⟩
 ·have:(⟨⟨d⟩⟩:ByteArray).size=d.length:=rfl;simp[Builtin.lenOf,j8,this]
 ·induction d with
  |nil=>rfl
  |cons a d aR=>exact ⟨[.int .u8 (a.toNat:Int)],_,rfl,rfl,aR⟩
 ·unfold Builtin.firstCells;simp only[Sem.run_pure];congr 1;apply Array.ext';simp[j8,ByteArray.data_extract,List.extract_eq_take_drop]
theorem acV (tab:cN P cx) {T:bq} (h:qO cx T=true): ∃I,P.underlying T=some I/\ ∀k,I≠ .int k:=by
 unfold qO at h;split at h
 ·rename_i j ak;split at h
  ·rename_i t aW;exact ⟨_,(kM tab ak aW).1,λk e=>by cases e⟩
  ·rename_i aW;exact ⟨_,rV tab ak aW,λk e=>by cases e⟩
  ·cases h
 ·cases h
theorem abp [Env] (h:cg φ ι w J) {T dX ty e:bq} {t:aB} {bytes:Nat} (aW:G9 P T dX e t bytes) {o:Nat} {xs:List t.den} {fz:Bool} (W:aF J o=.arr e t xs fz) {A dh:Option Addr} {m c k:Nat} (a8:ι o=.slice A m c)
  (af:k<=m) (ave:fz=true->k=m) (e4:c≠0->dh=A) {x:az} {aZ:List t.den} {news:List az} (ah:xn P φ w t aZ x news) (L:(k+aZ.length)*bytes<=am) (aO:n<=J.length) (h4:(aF J n).live=false):
  cG φ ι w J n (.own t n) (b8 (b8 J o .gone) n (.arr e t (xs.take k++aZ) fz)) (n+1) ((Builtin.append_ #[T,dX] ty #[.slice dh k c,x]).run P w):=by
 have cq:=h.obj o;rw[W]at cq;obtain ⟨jx,cV,ba,M,V,a1,bp,bg⟩:=cq;rw[a8]at M;obtain ⟨rfl,rfl,rfl⟩:=iO M;have RC:(aF J o).owns=true:=by rw[W];rfl
 have im:=ah.chunks.len (λx c=>bz.len t x c);have RW:(xs.take k).length=k:=by simp[V];omega
 have hlen:(xs.take k++aZ).length=k+aZ.length:=by simp[V];omega
 have e2: ∀i∈(K.own t n).ids,(aF (b8 (b8 J o .gone) n (.arr e t (xs.take k++aZ) fz)) i).live=true:=by
  intro i E;have:i=n:=by simpa [K.ids] using E
  subst this;rw[gL _ i _ i (by rw[ij J o _ (gM (by rw[W];rfl))];exact aO),if_pos rfl];rfl
 have oD:=ah.chunks.one;obtain ⟨dO,z,g1,g2,g3,g4,g5,g6,g7,g8⟩:=aW.el;have vw:am=140737488355328:=rfl;have yh:k+aZ.length<=am:=Nat.le_trans (Nat.le_mul_of_pos_right _ g4) L;by_cases p9:k+aZ.length<=c
 ·by_cases hi:c=0
  ·have s5:k=0:=u;have RX:aZ=[]:=kV u;subst hi s5 RX;have vs:news=[]:=kV (by simpa using im);subst vs;have eU:=Dp (ty:=ty) aW (A:=dh) ah p9 (aq:=w) (λa _=>rfl) (λ_=>rfl);rw[eU];have auw: ∀b,dM (Value.slice dh (0+([]:List t.den).length) 0)≠some b:=λb=>by cases dh<;>simp[dM]
   obtain ⟨bd,a6,cp,eh⟩:=xf (v:=.slice dh (0+([]:List t.den).length) 0) (dg:=.arr e t (xs.take 0++[]) fz) (aq:=w) (av:=φ) h RC aO h4 rfl rfl rfl rfl rfl (ca _) (λ_ _ _=>rfl) (λ_ _ h=>h) (λ_ _ _=>rfl) (λ_ _ h=>.inl h)
    (λb L=>absurd L (auw b)) ⟨dh,0+([]:List t.den).length,0,by simp[eg],aU,aU,aU,.inl rfl⟩
   exact ⟨_,_,φ,_,rfl,bd,a6,cp,eh,uN ⟨by simp[eg],_,_,_,rfl⟩,e2⟩
  ·obtain rfl:=e4 hi;rcases bg with bg |⟨b,pre,cur,c6,rfl,bw,bS,dD,pt,du,gq,hy,ng⟩
   ·exact absurd bg hi
   ·have jS:dM (ι o)=some b:=by rw[a8];simp[dM,hi]
    have hle:(k+aZ.length)*t.size<=c*t.size:=gV _ p9;rw[Nat.add_mul]at hle;obtain ⟨dn,gE,fl,gY⟩:=JH P (pre.size+k*t.size) news 0 (pre++cur) w bw (by rw[Array.size_append];exact dD.ok) (by rw[im,Array.size_append,bS];omega) oD;have eU:=Dp (ty:=ty) aW ah p9 (A:=some ⟨b,pre.size,none⟩) (aq:=dn) (λa aV=>by injection aV with aV;subst aV;rw[hI];simpa using gE) (λh=>by cases h);rw[eU];simp only[Nat.add_zero]at fl;rw[Of]at fl
    let av:bL:=λbX j=>φ bX j\/(fz=true/\bX=b/\pre.size<=j/\j<pre.size+(k+aZ.length)*t.size)
    have gO:k*t.size<=m*t.size:=gV _ af;have lQ: ∀j,φ b j->pre.size<=j/\j<pre.size+k*t.size:=λj ak=>by obtain ⟨bI,iD⟩:=hy j ak;rw[ave bI];exact iD
    have aeX:k*t.size<=cur.size:=by rw[bS];exact gV _ u
    have auA: ∀j,pre.size<=j/\j<pre.size+k*t.size->dn.cell? ⟨b,j,none⟩=w.cell? ⟨b,j,none⟩:=λj ak=>by obtain ⟨gg,rfl⟩: ∃gg,j=pre.size+gg:=⟨j-pre.size,u⟩;rw[qd fl,qd bw,GN,GN];simp only[List.getElem?_toArray];rw[List.append_assoc,List.getElem?_append_left (by simp only[ev,ix];omega),List.getElem?_take,if_pos u];simp
    have fX: ∀bX j,φ bX j->dn.cell? ⟨bX,j,none⟩=w.cell? ⟨bX,j,none⟩:=λbX j ak=>by
     by_cases pZ:bX=b
     ·subst pZ;exact auA j (lQ j ak)
     ·exact gY.cell pZ
    have yo:((cur.toList.take (k*t.size)++news++cur.toList.drop (k*t.size+news.length)).toArray).size=cur.size:=by simp only[List.size_toArray,eF,ev,List.length_drop,ix,im];omega
    have dB:jz av (eg ι n (.slice (some ⟨b,pre.size,none⟩) (k+aZ.length) c)) dn n (.arr e t (xs.take k++aZ) fz):=by
     refine ⟨some ⟨b,pre.size,none⟩,k+aZ.length,c,by simp[eg],hlen,p9,bp,.inr ⟨b,pre,_,c6,rfl,fl,by rw[yo,bS],by rw[yo];exact dD,pt,?_,?_,?_,λbI j ak=>.inr ⟨bI,rfl,u,u⟩⟩⟩
     ·refine ⟨?_,?_⟩
      ·intro v fb;simp only[dp]at fb;rcases fb with (fb |fb)|fb
       ·exact du v (List.mem_of_mem_take fb)
       ·exact oD v fb
       ·exact du v (List.mem_of_mem_drop fb)
      ·have c9:((cur.toList.take (k*t.size)++news++cur.toList.drop (k*t.size+news.length)).toArray).toList.drop ((k+aZ.length)*t.size)=cur.toList.drop ((k+aZ.length)*t.size):=
        NS (by simpa using aeX) (by rw[im,Nat.add_mul];exact ca _)
       rw[c9];exact (du.at_ gq _).imp id λ⟨eM,bI⟩=>⟨eM,bI.imp λx c=>bz.mono (λ_ _ h=>.inl h) fX t x c⟩
     ·have cI:((cur.toList.take (k*t.size)++news++cur.toList.drop (k*t.size+news.length)).toArray).toList.take ((k+aZ.length)*t.size)=cur.toList.take (k*t.size)++news:=by simp only[];rw[List.take_append_of_le_length (by simp[im,Nat.add_mul];omega),ia (by simp[im,Nat.add_mul];omega)]
      rw[cI];have q:=gq.take (λx c=>bz.len t x c) k;rw[List.take_take,Nat.min_eq_left gO]at q;exact c2.append _ _ _ _ (q.imp λx c=>bz.mono (λ_ _ h=>.inl h) fX t x c) (ah.chunks.imp λx c=>bz.mono (λ_ _ h=>.inl h) fX t x c)
     ·rintro j (ak |⟨bI,_,ak⟩)
      ·refine ⟨(hy j ak).1,?_⟩;have:=lQ j ak;rw[Nat.add_mul];omega
      ·exact ⟨bI,ak⟩
    obtain ⟨bd,a6,cp,eh⟩:=xf (v:=.slice (some ⟨b,pre.size,none⟩) (k+aZ.length) c) (dg:=.arr e t (xs.take k++aZ) fz) (aq:=dn) (av:=av) h RC aO h4 rfl rfl gY.os gY.tape gY.output (by rw[gY.size];exact ca _)
     (λbX h3 cw=>gY.blocks bX (λe=>cw (e▸jS))) (λ_ _ h=>.inl h) fX
     (λbX j ak=>by
      rcases ak with ak |⟨bI,rfl,ak⟩
      ·exact .inl ak
      ·refine .inr ⟨by simp[dM,hi],?_⟩;rw[Nat.add_mul]at ak;have bu:j<(pre++(cur.toList.take (k*t.size)++news++cur.toList.drop (k*t.size+news.length)).toArray).size:=by rw[Array.size_append,yo,bS];omega
       exact ⟨_,by rw[qd fl];exact Array.getElem?_eq_getElem bu⟩)
     (λbX h3=>.inr (by
                 have:b=bX:=by simpa [dM,hi] using h3
                 rw[<-this];exact jS)) dB
    exact ⟨_,_,av,_,rfl,bd,a6,cp,eh,uN ⟨by simp[eg],_,_,_,rfl⟩,e2⟩
 ·
  have auW:c<k+aZ.length:=u;obtain ⟨gn,hold,sY⟩: ∃gn,(Builtin.firstCells t.size k (.slice dh k c)).run P w.drew=.ok gn.toArray w.drew/\c2 (bz φ w t) (xs.take k) gn:=by
   by_cases s5:k=0
   ·subst s5;refine ⟨[],?_,by simp[c2]⟩;cases dh with
    |none=>exact run_firstCells_none _ _ _ _ _
    |some a=>simpa using run_firstCells_some (P:=P) w.drew t.size 0 a 0 c [] aU aU
   ·have hi:c≠0:=u;obtain rfl:=e4 hi;rcases bg with bg |⟨b,pre,cur,c6,rfl,bw,bS,dD,pt,du,gq,hy,ng⟩
    ·exact absurd bg hi
    ·have gO:k*t.size<=m*t.size:=gV _ af;have aeX:k*t.size<=cur.size:=by rw[bS];exact gV _ u
     have q:=gq.take (λx c=>bz.len t x c) k;rw[List.take_take,Nat.min_eq_left gO]at q;refine ⟨_,run_firstCells_some (P:=P) w.drew t.size k _ k c (cur.toList.take (k*t.size)) (by simp;omega) (λj ae ak=> ?_),q⟩;rw[hI];rw[List.getElem?_take]at ak;split at ak
     ·show w.cell? _=_;rw[qd bw,GN];simpa using ak
     ·cases ak
  have Iu:=sY.len (λx c=>bz.len t x c);rw[RW]at Iu;obtain ⟨eD,eM,ag,aS,bP,dz,eU⟩:=Tu (ty:=ty) aW ah auW hold L;rw[eU];have iY:=ic.drew_alloc w (.cells (gn.toArray++news.toArray++eM) e);have Ip:(w.drew.alloc (.cells (gn.toArray++news.toArray++eM) e)).heap[w.heap.size]? =some (.cells (gn.toArray++news.toArray++eM) e (0,0)):=heap_alloc_new w.drew _;generalize kr:w.drew.alloc (.cells (gn.toArray++news.toArray++eM) e)=cP at iY Ip ⊢;have azv:w.heap.size<cP.heap.size:=(kU.1 Ip).1
  let av:bL:=λbX j=>φ bX j\/(fz=true/\bX=w.heap.size/\j<(k+aZ.length)*t.size)
  have fX: ∀bX j,φ bX j->cP.cell? ⟨bX,j,none⟩=w.cell? ⟨bX,j,none⟩:=λbX j ak=>iY.cell (kR h ak)
  have aeB:eD≠0:=u;have afg:(gn.toArray++news.toArray++eM).size=eD*t.size:=by simp only[Array.size_append,List.size_toArray,Iu,im,bP];rw[<-Nat.add_mul,<-Nat.add_mul];congr 1;omega
  have dB:jz av (eg ι n (.slice (some ⟨w.heap.size,0,none⟩) (k+aZ.length) eD)) cP n (.arr e t (xs.take k++aZ) fz):=by
   refine ⟨some ⟨w.heap.size,0,none⟩,k+aZ.length,eD,by simp[eg],hlen,ag,aS,.inr ⟨w.heap.size,#[],_,(0,0),rfl,by rw[Array.empty_append];exact Ip,afg,uy _ _,aU,?_,?_,?_,λbI j ak=>.inr ⟨bI,rfl,by simpa using ak⟩⟩⟩
   ·obtain ⟨us,mx⟩:=dz;have pW:=c2.append _ _ _ _ (c2.append _ _ _ _ (sY.imp λx c=>bz.mono (λ_ _ h=>(.inl h:av _ _)) fX t x c) (ah.chunks.imp λx c=>bz.mono (λ_ _ h=>(.inl h:av _ _)) fX t x c)) (mx av cP);refine Cells.of_chunks (eM:=xs.take k++aZ++us) ?_ _;simp only[Array.toList_append];exact pW
   ·have cI:(gn.toArray++news.toArray++eM).toList.take ((k+aZ.length)*t.size)=gn++news:=by simp only[Array.toList_append];rw[List.take_append_of_le_length (by simp[Iu,im,Nat.add_mul]),ia (by simp[Iu,im,Nat.add_mul])]
    rw[cI];exact c2.append _ _ _ _ (sY.imp λx c=>bz.mono (λ_ _ h=>.inl h) fX t x c) (ah.chunks.imp λx c=>bz.mono (λ_ _ h=>.inl h) fX t x c)
   ·rintro j (ak |⟨bI,_,ak⟩)
    ·have:=kR h ak;omega
    ·exact ⟨bI,aU,by simpa using ak⟩
  obtain ⟨bd,a6,cp,eh⟩:=xf (v:=.slice (some ⟨w.heap.size,0,none⟩) (k+aZ.length) eD) (dg:=.arr e t (xs.take k++aZ) fz) (aq:=cP) (av:=av) h RC aO h4 rfl rfl iY.os iY.tape iY.output iY.size
   (λbX h3 _=>iY.blocks bX h3) (λ_ _ h=>.inl h) fX
   (λbX j ak=>by
    rcases ak with ak |⟨bI,rfl,ak⟩
    ·exact .inl ak
    ·refine .inr ⟨by simp[dM,aeB],?_⟩;have bu:j<(gn.toArray++news.toArray++eM).size:=by rw[afg];exact Nat.lt_of_lt_of_le ak (gV _ ag)
     exact ⟨_,by rw[qd Ip];exact Array.getElem?_eq_getElem bu⟩)
   (λbX h3=>.inl (by
               have:w.heap.size=bX:=by simpa [dM,aeB] using h3
               omega)) dB
  exact ⟨_,_,av,_,rfl,bd,a6,cp,eh,uN ⟨by simp[eg],_,_,_,rfl⟩,e2⟩
end
open Go.RowKit
section
variable {P:cv} {cx:cj} {φ av:bL} {ι aH:Nat->az} {w aq:bk} {J:List aG} {n:Nat} {r:K} {aA:List aG} {aJ:Nat}
theorem N8: ∀(J:List aG) (o:Nat),o<J.length->b8 J o (aF J o)=J
 |[],o,h=>by simp at h
 |a::l,0,h=>by simp[b8,aF]
 |a::l,o+1,h=>by
  have aR:=N8 l o (by simpa using h);have:aF (a::l) (o+1)=aF l o:=by simp[aF]
  rw[this];simp[b8,aR]
theorem Pc [Env] (h:cg φ ι w J) {o:Nat} {e:bq} {t:aB} {xs:List t.den} (W:aF J o=.arr e t xs false) {A:Option Addr} {m c:Nat} (a8:ι o=.slice A m c) {k:Nat} {aZ:List t.den} {news:List az} (nE:c2 (bz φ w t) aZ news)
  (af:k+aZ.length<=xs.length) {dh:Option Addr} (e4:aZ.length≠0->dh=A.map (·.add (k*t.size))):
  ∃aq,(∀a,dh=some a->(storeCells a news).run P w=.ok () aq)/\(dh=none->aq=w)/\cg φ ι aq (b8 J o (.arr e t (xs.take k++aZ++xs.drop (k+aZ.length)) false))/\Step φ ι w J φ ι aq (b8 J o (.arr e t (xs.take k++aZ++xs.drop (k+aZ.length)) false))/\
   eo ι J ι (b8 J o (.arr e t (xs.take k++aZ++xs.drop (k+aZ.length)) false))/\iW J n (b8 J o (.arr e t (xs.take k++aZ++xs.drop (k+aZ.length)) false)) n:=by
 have bu:o<J.length:=gM (by rw[W];rfl);have im:=nE.len (λx c=>bz.len t x c);by_cases bt:aZ.length=0
 ·have CY:aZ=[]:=kV bt;subst CY;have vs:news=[]:=kV (by simpa using im);subst vs;have he:(aG.arr e t (xs.take k++[]++xs.drop (k+([]:List t.den).length)) false)=aF J o:=by rw[W];simp
  rw[he,N8 J o bu];exact ⟨w,λa _=>rfl,λ_=>rfl,h,Step.refl _ _ _ _,eo.refl _ _,iW.refl _ _⟩
 ·have cq:=h.obj o;rw[W]at cq;have avO:=cq;obtain ⟨jx,cV,ba,M,V,a1,bp,bg⟩:=avO;rw[a8]at M;obtain ⟨rfl,rfl,rfl⟩:=iO M;rcases bg with bg |⟨b,pre,cur,c6,rfl,bw,bS,dD,pt,du,gq,hy,ng⟩
  ·omega
  ·have hi:c≠0:=u;have jS:dM (ι o)=some b:=by rw[a8];simp[dM,hi]
   have lQ: ∀j,¬φ b j:=λj ak=>by have:=(hy j ak).1;cases this
   have gO:(k+aZ.length)*t.size<=m*t.size:=gV _ u;have vr:m*t.size<=c*t.size:=gV _ a1;rw[Nat.add_mul]at gO;obtain ⟨dn,gE,fl,gY⟩:=JH P (pre.size+k*t.size) news 0 (pre++cur) w bw (by rw[Array.size_append];exact dD.ok) (by rw[im,Array.size_append,bS];omega) nE.one;simp only[Nat.add_zero]at fl;rw[Of]at fl;rw[e4 bt];have yo:((cur.toList.take (k*t.size)++news++cur.toList.drop (k*t.size+news.length)).toArray).size=cur.size:=by simp only[List.size_toArray,eF,ev,List.length_drop,ix,im];omega
   have fX: ∀bX j,φ bX j->dn.cell? ⟨bX,j,none⟩=w.cell? ⟨bX,j,none⟩:=λbX j ak=>gY.cell (λe=>lQ j (e▸ak))
   have dB:jz φ ι dn o (.arr e t (xs.take k++aZ++xs.drop (k+aZ.length)) false):=by
    refine ⟨some ⟨b,pre.size,none⟩,m,c,a8,by simp;omega,a1,bp,.inr ⟨b,pre,_,c6,rfl,fl,by rw[yo,bS],by rw[yo];exact dD,pt,?_,?_,λj ak=>absurd ak (lQ j),λbI=>by cases bI⟩⟩
    ·refine ⟨?_,?_⟩
     ·intro v fb;simp only[dp]at fb;rcases fb with (fb |fb)|fb
      ·exact du v (List.mem_of_mem_take fb)
      ·exact nE.one v fb
      ·exact du v (List.mem_of_mem_drop fb)
     ·have c9:((cur.toList.take (k*t.size)++news++cur.toList.drop (k*t.size+news.length)).toArray).toList.drop (m*t.size)=cur.toList.drop (m*t.size):=
       NS (by rw[ix,bS];omega) (by rw[im];exact gO)
      rw[c9];exact du.rest.imp id λ⟨eM,bI⟩=>⟨eM,bI.imp λx c=>bz.mono (λ_ _ h=>h) fX t x c⟩
    ·have cI:((cur.toList.take (k*t.size)++news++cur.toList.drop (k*t.size+news.length)).toArray).toList.take (m*t.size)=(cur.toList.take (m*t.size)).take (k*t.size)++news++(cur.toList.take (m*t.size)).drop ((k+aZ.length)*t.size):=by simp only[];rw[List.take_take,Nat.min_eq_left u,List.drop_take,Nat.add_mul,<-im,List.take_append,ia (by simp[im];omega)];congr 2;simp[im];omega
     rw[cI];have q:=gq.take (λx c=>bz.len t x c) k;have G:=gq.drop (λx c=>bz.len t x c) (k+aZ.length);exact c2.append _ _ _ _ (c2.append _ _ _ _ (q.imp λx c=>bz.mono (λ_ _ h=>h) fX t x c) (nE.imp λx c=>bz.mono (λ_ _ h=>h) fX t x c)) (G.imp λx c=>bz.mono (λ_ _ h=>h) fX t x c)
   obtain ⟨jW,pB,rT,D1⟩:=Br (n:=n) (dg:=.arr e t (xs.take k++aZ++xs.drop (k+aZ.length)) false) h (by rw[W];rfl) jS gY lQ dB (by simp[aG.ids]) rfl;refine ⟨dn,λa aV=> ?_,λaV=>by simp at aV,jW,pB,rT,D1⟩;simp only[Option.map_some,bJ]at aV;subst aV;rw[hI];exact gE
end
open Go.RowKit
section
variable {P:cv} {cx:cj} {φ av:bL} {ι aH:Nat->az} {w aq:bk} {J:List aG} {n:Nat} {r:K} {aA:List aG} {aJ:Nat}
theorem acS:(K.tup []).rel φ ι w (.tuple #[]):=⟨#[],rfl,rfl⟩
theorem abR [Env] (tab:cN P cx) {T:bq} {i:gl} {t:aB} (E:cx.ti T=some i) (aW:i.ty=.list t) {hE:Array bq} (mh:hE= #[T]) {ty:bq} (h:cg φ ι w J) {o:Nat} {e:bq} {xs:List t.den} (W:aF J o=.arr e t xs false) {A:Option Addr} {m c:Nat} (a8:ι o=.slice A m c) {aQ dN:Nat} (q:aQ<=dN) (G:dN<=xs.length)
  {dh:Option Addr} {eD:Nat} (e4:dN-aQ≠0->dh=A.map (·.add (aQ*t.size))):
  cG φ ι w J n (.tup []) (b8 J o (.arr e t (xs.take aQ++List.replicate (dN-aQ) t.zero++xs.drop (aQ+(dN-aQ))) false)) n ((Builtin.clear_ hE ty #[.slice dh (dN-aQ) eD]).run P w):=by
 subst mh;obtain ⟨ao,gC⟩:=kM tab E aW;obtain ⟨z,aD,z2,z3,z4⟩:=tF gC (dN-aQ);have nE:=z4 φ w;rw[<-z2]at nE;obtain ⟨dn,bd,a6,cp,eh,gZ,ir⟩:=Pc (P:=P) (n:=n) (k:=aQ) (dh:=dh) h W a8 nE (by simp;omega) (λcw=>e4 (by simpa using cw));rw[List.length_replicate]at cp eh gZ ir;refine ⟨_,dn,φ,ι,?_,cp,eh,gZ,ir,acS,by simp[K.ids,K.idsL]⟩;unfold Builtin.clear_;simp only[List.getElem?_toArray,List.getElem?_cons_zero,Sem.run_bind,run_underlying ao,Result.andThen_ok,Sem.run_pure];cases dh with
 |none=>simp[a6 rfl]
 |some a=>
  cases aO:dN-aQ with
  |zero=>
   have ah:=bd a rfl;rw[aO]at ah;simp[storeCells]at ah;simp[ah]
  |succ s=>
   have ah:=bd a rfl;rw[aO]at ah;have cl:(Array.map (λi=>z.cells[i%z.cells.size]!) (Array.range ((s+1)*z.cells.size)))=Builtin.zeroCells z.cells (s+1):=rfl;rw[cl]at ah;simp[aD,ah]
theorem aol [Env] (tab:cN P cx) {T ty:bq} {hE:Array bq} (mh:hE= #[T]) {x:K} (e:(OT cx T x).go J n=some (r,aA,aJ)) (h:cg φ ι w J) {v:az} (al:x.rel φ ι w v) (lk: ∃I,P.underlying T=some I):
  cG φ ι w J n r aA aJ ((Builtin.clear_ hE ty #[v]).run P w):=by
 unfold OT at e;split at e
 ·rename_i t o;have s:=go_bif e;clear e;obtain ⟨bW,e⟩:=s;obtain ⟨i,E,aW⟩:=hO bW;simp only[HM.go]at e;split at e
  ·rename_i cl ae xs fz W;have s:=go_bif e;clear e;obtain ⟨L,e⟩:=s;simp only[bQ,dT,eT]at L;obtain ⟨rfl,rfl⟩:=L;simp only[HM.go,bJ,c0]at e;obtain ⟨rfl,rfl,rfl⟩:=e;obtain ⟨rfl,A,m,c,a8⟩:=al;have cq:=h.obj o;rw[W]at cq;obtain ⟨jx,cV,ba,M,V,a1,bp,bg⟩:=cq;rw[a8]at M;obtain ⟨rfl,rfl,rfl⟩:=iO M;subst V;have:=abR (n:=n) (ty:=ty) tab E aW mh h W a8 (aQ:=0) (dN:=xs.length) (dh:=A) (eD:=c) (Nat.zero_le _) (ca _) (λcw=>by
    rcases bg with bg |⟨b,pre,cur,c6,rfl,_⟩
    ·omega
    ·simp[hI])
   rw[a8];simpa using this
  ·simp[HM.go]at e
 ·rename_i t o aQ dN;have s:=go_bif e;clear e;obtain ⟨bW,e⟩:=s;obtain ⟨i,E,aW⟩:=hO bW;simp only[HM.go]at e;split at e
  ·rename_i cl ae xs fz W;have s:=go_bif e;clear e;obtain ⟨L,e⟩:=s;simp only[bQ,dT,eT]at L;obtain ⟨rfl,rfl⟩:=L;simp only[HM.go,bJ,c0]at e;obtain ⟨rfl,rfl,rfl⟩:=e;obtain ⟨A,m,c,dh,a8,q,G,ab,rfl,e4,di⟩:=al;have cq:=h.obj o;rw[W]at cq;obtain ⟨jx,cV,ba,M,V,_⟩:=cq;rw[a8]at M;obtain ⟨rfl,rfl,rfl⟩:=iO M;exact abR (n:=n) (ty:=ty) tab E aW mh h W a8 q u (λcw=>e4 u)
  ·simp[HM.go]at e
 ·obtain ⟨rfl,rfl,rfl⟩:=go_ret e;simp only[K.rel]at al;subst al;obtain ⟨I,ao⟩:=lk;subst mh;refine cG.pure (r:=.tup []) (v:=.tuple #[]) h acS (by simp[K.ids,K.idsL]) ?_;unfold Builtin.clear_;cases I<;>simp[run_underlying ao]
 ·simp[HM.go]at e
end
open Go.RowKit
section
variable {P:cv} {cx:cj} {φ av:bL} {ι aH:Nat->az} {w aq:bk} {J:List aG} {n:Nat} {r:K} {aA:List aG} {aJ:Nat}
theorem as8 {I:eN} {cH:az} {t:aB} {aZ:List t.den} (x:K) (ao:I.t.cast? (.list t) I.x=some aZ) (h:(∃d,cH=.string ⟨⟨d⟩⟩/\I=⟨.list (.int .u8),j8 d⟩/\x.isStr=true)\/ ∀t xs,I=⟨.list t,xs⟩->oW φ w t xs cH):
  ∃news,xn P φ w t aZ cH news:=by
 obtain ⟨ae,z⟩:=I;obtain ⟨e,rfl⟩:=rN ao;simp only at e;subst e;rcases h with ⟨d,rfl,h,_⟩|h
 ·injection h with q G
  injection q with q
  subst q;obtain rfl:=eq_of_heq G;exact ⟨_,MU d⟩
 ·exact (h t _ rfl).source
theorem AF {ae t:aB} {xs:List ae.den} {aZ:List t.den} (h:ae.list.cast? t.list xs=some aZ): ∃e:ae=t,aZ=e▸xs:=by
 obtain ⟨e,rfl⟩:=rN h;injection e with e
 subst e;exact ⟨rfl,rfl⟩
theorem aou [Env] (tab:cN P cx) {T dX ty:bq} {d x:K} (e:(O5 cx T dX d x).go J n=some (r,aA,aJ)) (h:cg φ ι w J) {aP cH:az} (ah:d.rel φ ι w aP) (al:x.rel φ ι w cH) (ed:jg J n aJ):
  cG φ ι w J n r aA aJ ((Builtin.append_ #[T,dX] ty #[aP,cH]).run P w):=by
 unfold O5 at e;split at e
 ·rename_i cl t0 k m;have s:=go_bif e;clear e;obtain ⟨Ci,e⟩:=s;obtain ⟨i2,e5,IA⟩:=hO Ci;split at e
  ·rename_i i E;split at e
   ·rename_i t aW;obtain ⟨ao,gC⟩:=kM tab E aW;have p1:P.underlying dX=some (.int k):=by have:=(tab dX i2 e5).desc;unfold k6 at this;rw[IA]at this;exact this
    have s:=go_chk2 e;clear e;obtain ⟨L,e⟩:=s;simp only[bQ,dT]at L;obtain ⟨fl,eE⟩:=L;simp only[HM.go,bJ,c0]at e;obtain ⟨rfl,rfl,rfl⟩:=e;simp only[K.rel]at ah;subst ah;obtain rfl:=cF.int.1 al;have fl:(0:Int)<(m:Int):=fl;have eE:(m:Int)*(i.bytes:Int)<=(am:Int):=eE;obtain ⟨a,rfl⟩:=Int.eq_ofNat_of_zero_le (show (0:Int)<=(m:Int) by omega);rw[bE];obtain ⟨z,aD,z2,z3,z4⟩:=tF gC a;obtain ⟨dO,mH,g1,g2,g3,g4,g5,g6,g7,g8⟩:=gC;have vC:z=mH:=by have M:=aD w;simp[zeroValue,typeInfo,g1,g5]at M;exact M.symm
    subst vC;have vw:am=140737488355328:=rfl;have q1:a*i.bytes<=140737488355328:=by
     have s:((a*i.bytes:Nat):Int)<=((am:Nat):Int):=by rw[Int.natCast_mul];exact eE
     exact vw▸Int.ofNat_le.1 s
    have Q2:0<a:=u;have aV:a<=a*i.bytes:=Nat.le_mul_of_pos_right _ g4;have eU:=Lib.run_append_nil_zeros (P:=P) w T dX ty i.elem dO z k k ao p1 g1 g5 a Q2 (by rw[g2];exact g6) u (by rw[g3];omega);rw[eU];have s3:=grownCap_ge w a 0 i.elem;obtain ⟨ib,iV,Kg,y3,y4⟩:=tF (P:=P) (t:=t) (bytes:=i.bytes) ⟨dO,z,g1,g2,g3,g4,g5,g6,g7,g8⟩ (grownCap w a 0 i.elem-a);have yv:ib=z:=by have M:=iV w;simp[zeroValue,typeInfo,g1,g5]at M;exact M.symm
    subst yv;have iY:=ic.drew_alloc w (.cells (Builtin.zeroCells ib.cells a++Builtin.zeroCells ib.cells (grownCap w a 0 i.elem-a)) i.elem);have Cm: ∀s,(Builtin.zeroCells ib.cells s).toList=((Array.range (s*t.size)).map λi=>ib.cells[i%ib.cells.size]!).toList:=λs=>by rw[<-z2];rfl
    have bh:=z4 φ (w.drew.alloc (.cells (Builtin.zeroCells ib.cells a++Builtin.zeroCells ib.cells (grownCap w a 0 i.elem-a)) i.elem));have ba:=y4 φ (w.drew.alloc (.cells (Builtin.zeroCells ib.cells a++Builtin.zeroCells ib.cells (grownCap w a 0 i.elem-a)) i.elem));rw[<-Cm]at bh ba;have dy:=bh.len (λx c=>bz.len t x c);have de:=ba.len (λx c=>bz.len t x c);simp only[List.length_replicate,ix]at dy de;have:=uQ (φ:=φ) (ι:=ι) (n:=n) h (e:=i.elem) (t:=t) (xs:=List.replicate a t.zero) (c:=grownCap w a 0 i.elem) (b:=w.heap.size) iY (heap_alloc_new w.drew _) (ca _) (by simpa using s3)
     (grownCap_le_maxLen w _ _ _ (by simp only[maxLen];omega)) (by rw[Array.size_append,dy,de,<-Nat.add_mul];congr 1;omega) (uy _ _)
     (Cells.of_chunks (by rw[Array.toList_append];exact c2.append _ _ _ _ bh ba) _)
     (by rw[Array.toList_append,List.length_replicate,List.take_append_of_le_length (by rw[ix,dy];exact ca _),ia (by rw[ix,dy];exact ca _)];exact bh) ed.1 (ed.2 n (ca _) u)
    simpa using this
   ·simp[HM.go]at e
  ·simp[HM.go]at e
 ·simp[HM.go]at e
theorem apj [Env] (tab:cN P cx) {T dX ty:bq} {d x:K} (e:(Pn cx T dX d x).go J n=some (r,aA,aJ)) (h:cg φ ι w J) {aP cH:az} (ah:d.rel φ ι w aP) (al:x.rel φ ι w cH) (ed:jg J n aJ):
  cG φ ι w J n r aA aJ ((Builtin.append_ #[T,dX] ty #[aP,cH]).run P w):=by
 unfold Pn at e;split at e
 ·rename_i ae xs c k m;have s:=go_bif e;clear e;obtain ⟨Ci,e⟩:=s;obtain ⟨i2,e5,IA⟩:=hO Ci;split at e
  ·rename_i i E;split at e
   ·rename_i t aW;obtain ⟨ao,gC⟩:=kM tab E aW;have p1:P.underlying dX=some (.int k):=by have:=(tab dX i2 e5).desc;unfold k6 at this;rw[IA]at this;exact this
    obtain ⟨hB,l3,n3,cI,c9⟩:=HM.go_bind_some e;clear e;obtain ⟨aw,rfl,rfl⟩:=go_opt cI;obtain ⟨rfl,rfl⟩:=AF aw;have s:=go_chk2 c9;clear c9;obtain ⟨L,e⟩:=s;simp only[bQ,dT]at L;obtain ⟨⟨fl,Ic⟩,eE⟩:=L;simp only[HM.go,bJ,c0]at e;obtain ⟨rfl,rfl,rfl⟩:=e;obtain ⟨A,sl,rfl,o8⟩:=ah;obtain ⟨jx,cV,ba,gy,ad,hle,bg⟩:=o8;injection gy with gy _
    obtain ⟨rfl,rfl,rfl⟩:=iO gy;obtain rfl:=cF.int.1 al;have fl:(0:Int)<(m:Int):=fl;have eE:((hB.length:Int)+(m:Int))*(i.bytes:Int)<=(am:Int):=eE;have Ic:(c:Int)<(hB.length:Int)+(m:Int):=Ic;obtain ⟨a,rfl⟩:=Int.eq_ofNat_of_zero_le (show (0:Int)<=(m:Int) by omega);rw[bE];obtain ⟨z,aD,z2,z3,z4⟩:=tF gC a;have azy:=gC;obtain ⟨dO,mH,g1,g2,g3,g4,g5,g6,g7,g8⟩:=gC;have vC:z=mH:=by have M:=aD w;simp[zeroValue,typeInfo,g1,g5]at M;exact M.symm
    subst vC;have vw:am=140737488355328:=rfl;have q1:(hB.length+a)*i.bytes<=140737488355328:=by
     have s:(((hB.length+a)*i.bytes:Nat):Int)<=((am:Nat):Int):=by rw[Int.natCast_mul,Int.natCast_add];exact eE
     exact vw▸Int.ofNat_le.1 s
    have Q2:0<a:=u;have aV:hB.length+a<=(hB.length+a)*i.bytes:=Nat.le_mul_of_pos_right _ g4;have gz:a*i.bytes<=(hB.length+a)*i.bytes:=gV _ u;have q2:c<sl+a:=u;obtain ⟨gn,hold,sY⟩: ∃gn,(Builtin.firstCells ae.size sl (.slice A sl c)).run P w.drew=.ok gn.toArray w.drew/\c2 (bz φ w ae) hB gn:=by
     rcases bg with bg |⟨b,o,EE,rfl,gB,af⟩
     ·subst bg;have:hB=[]:=kV ad;subst this;refine ⟨[],?_,rfl⟩;cases A with
      |none=>exact run_firstCells_none _ _ _ _ _
      |some a=>simpa using run_firstCells_some (P:=P) w.drew ae.size 0 a 0 c [] aU aU
     ·have m6:=af.len (λx c=>bz.len ae x c);exact ⟨EE,run_firstCells_some (P:=P) w.drew ae.size sl _ sl c EE (by rw[m6,ad]) (λj v ak=>by rw[hI];exact (gB j v ak).2),af⟩
    have s0:=growslice_fits (bytes:=i.bytes) q2 (by rw[<-ad];omega);have eU:=Lib.run_append_grow_zeros (P:=P) w T dX ty i.elem dO z k k ao p1 g1 g5 A sl c gn (by rw[g2];exact hold) a Q2 (by rw[g2];exact g6) q2 (by rw[<-ad];omega) (by rw[g3];omega) (by rw[g3];omega);rw[eU];have s3:=grownCap_ge w (sl+a) c i.elem;obtain ⟨ib,iV,Kg,y3,y4⟩:=tF (P:=P) (t:=ae) (bytes:=i.bytes) ⟨dO,z,g1,g2,g3,g4,g5,g6,g7,g8⟩ (grownCap w (sl+a) c i.elem-(sl+a));have yv:ib=z:=by have M:=iV w;simp[zeroValue,typeInfo,g1,g5]at M;exact M.symm
    subst yv;have iY:=ic.drew_alloc w (.cells (gn.toArray++Builtin.zeroCells ib.cells a++Builtin.zeroCells ib.cells (grownCap w (sl+a) c i.elem-(sl+a))) i.elem);have Cm: ∀s,(Builtin.zeroCells ib.cells s).toList=((Array.range (s*ae.size)).map λi=>ib.cells[i%ib.cells.size]!).toList:=λs=>by rw[<-z2];rfl
    have bh:=z4 φ (w.drew.alloc (.cells (gn.toArray++Builtin.zeroCells ib.cells a++Builtin.zeroCells ib.cells (grownCap w (sl+a) c i.elem-(sl+a))) i.elem));have ba:=y4 φ (w.drew.alloc (.cells (gn.toArray++Builtin.zeroCells ib.cells a++Builtin.zeroCells ib.cells (grownCap w (sl+a) c i.elem-(sl+a))) i.elem));rw[<-Cm]at bh ba;have He:=sY.imp λx adR=>bz.mono (av:=φ) (aq:=w.drew.alloc (.cells (gn.toArray++Builtin.zeroCells ib.cells a++Builtin.zeroCells ib.cells (grownCap w (sl+a) c i.elem-(sl+a))) i.elem)) (λ_ _ h=>h) (λb k af=>iY.cell (kR h af)) ae x adR
    have th:=He.len (λx c=>bz.len ae x c);have dy:=bh.len (λx c=>bz.len ae x c);have de:=ba.len (λx c=>bz.len ae x c);simp only[List.length_replicate,ix]at dy de;have hlen:(hB++List.replicate a ae.zero).length=sl+a:=by simp[ad]
    have adQ:=c2.append _ _ _ _ He bh;have gd:(gn.toArray++Builtin.zeroCells ib.cells a++Builtin.zeroCells ib.cells (grownCap w (sl+a) c i.elem-(sl+a))).toList=(gn++(Builtin.zeroCells ib.cells a).toList)++(Builtin.zeroCells ib.cells (grownCap w (sl+a) c i.elem-(sl+a))).toList:=aU;have agx:(gn++(Builtin.zeroCells ib.cells a).toList).length=(hB++List.replicate a ae.zero).length*ae.size:=by rw[hlen,eF,th,ad,Nat.add_mul];congr 1
    have:=uQ (φ:=φ) (ι:=ι) (n:=n3) h (e:=i.elem) (t:=ae) (xs:=hB++List.replicate a ae.zero) (c:=grownCap w (sl+a) c i.elem) (b:=w.heap.size) iY (heap_alloc_new w.drew _) (ca _) (by rw[hlen];exact s3)
     (grownCap_le_maxLen w _ _ _ (by simp only[maxLen];omega)) (by simp only[Array.size_append,List.size_toArray];rw[th,dy,de,ad,<-Nat.add_mul,<-Nat.add_mul];congr 1;omega) (uy _ _)
     (Cells.of_chunks (by rw[gd];exact c2.append _ _ _ _ adQ ba) _)
     (by rw[gd,List.take_append_of_le_length (by rw[agx];exact ca _),ia (by rw[agx];exact ca _)];exact adQ) ed.1 (ed.2 n3 (ca _) u)
    rwa [hlen]at this
   ·simp[HM.go]at e
  ·simp[HM.go]at e
 ·exact aou tab e h ah al ed
theorem an7 [Env] (tab:cN P cx) {T dX ty:bq} {d x:K} (e:(Oy cx T dX d x).go J n=some (r,aA,aJ)) (h:cg φ ι w J) {aP cH:az} (ah:d.rel φ ι w aP) (al:x.rel φ ι w cH)
  (ls: ∀i∈d.ids,(aF J i).live=true) (fG: ∀i∈x.ids,(aF J i).live=true) (ed:jg J n aJ):
  cG φ ι w J n r aA aJ ((Builtin.append_ #[T,dX] ty #[aP,cH]).run P w):=by
 unfold Oy at e;cases lk:qO cx dX
 ·rw[lk,ay]at e;exact apj tab e h ah al ed
 rw[lk,an]at e;split at e
 ·rename_i i E;split at e
  ·rename_i t aW;obtain ⟨ao,gC⟩:=kM tab E aW;have eH:G9 P T dX i.elem t i.bytes:=⟨ao,acV tab lk,gC⟩;obtain ⟨I,H1,dm,M,V⟩:=HM.go_bind_some e;clear e;obtain ⟨rfl,dE,g1,Cr⟩:=Fo M h al fG;obtain ⟨aZ,ff,ec,a1,bp⟩:=HM.go_bind_some V;clear V;obtain ⟨Co,rfl,rfl⟩:=go_opt a1;obtain ⟨news,src⟩:=as8 (P:=P) x Co Cr;have lR:=K.rel_step g1.step g1.keep ls ah;have azS: ∀i∈d.ids,(aF ff i).live=true:=λi E=>by rw[g1.live];exact ls i E
   have kt:=ed.ghost g1;refine cG.after g1 ?_;split at bp
   ·rename_i cl ae;have s:=go_chk2 bp;clear bp;obtain ⟨L,bp⟩:=s;have L:aZ.length*i.bytes<=am:=by simpa using L
    simp only[HM.go,bJ,c0]at bp;obtain ⟨rfl,rfl,rfl⟩:=bp;simp only[K.rel]at lR;subst lR;have h4:=kt.2 ec (ca _) u;by_cases bt:aZ.length=0
    ·have CY:aZ=[]:=kV bt;subst CY;have vs:news=[]:=kV (by simpa using src.chunks.len (λx c=>bz.len t x c));subst vs;have eU:=Dp (ty:=ty) eH (A:=none) (m:=0) (c:=0) src (ca _) (aq:=w) (λa _=>rfl) (λ_=>rfl);rw[eU];exact U3 g1.rel kt.1 h4
    ·obtain ⟨eD,eM,ag,aS,bP,dz,eU⟩:=Tu (ty:=ty) eH (A:=none) (m:=0) (c:=0) (gn:=[]) src u (run_firstCells_none _ _ _ _ _) (by simpa using L);rw[eU];have iY:=ic.drew_alloc w (.cells (([]:List az).toArray++news.toArray++eM) i.elem);have im:=src.chunks.len (λx c=>bz.len t x c);have vl:(([]:List az).toArray++news.toArray++eM).toList=news++eM.toList:=aU;have:=uQ (φ:=dE) (ι:=ι) (n:=ec) g1.rel (e:=i.elem) (t:=t) (xs:=aZ) (c:=eD) (b:=w.heap.size) iY (heap_alloc_new w.drew _) (ca _) u aS
      (by simp only[Array.size_append,List.size_toArray,List.length_nil,im,bP,Nat.zero_add];rw[<-Nat.add_mul];congr 1;omega) (uy _ _)
      (by obtain ⟨us,mx⟩:=dz;exact Cells.of_chunks (by rw[vl];exact c2.append _ _ _ _ (src.chunks.imp λx c=>bz.mono (λ_ _ h=>h) (λb k af=>iY.cell (kR g1.rel af)) t x c) (mx _ _)) _)
      (by rw[vl,List.take_append_of_le_length (by rw[im];exact ca _),ia (by rw[im];exact ca _)];exact src.chunks.imp λx c=>bz.mono (λ_ _ h=>h) (λb k af=>iY.cell (kR g1.rel af)) t x c) kt.1 h4
     simpa using this
   ·rename_i ae o;simp only[HM.go]at bp;split at bp
    ·rename_i cl iU xs fz W;obtain ⟨hB,l3,n3,cI,c9⟩:=HM.go_bind_some bp;clear bp;obtain ⟨aw,rfl,rfl⟩:=go_opt cI;obtain ⟨rfl,rfl⟩:=AF aw;have s:=go_bif c9;clear c9;obtain ⟨lf,c9⟩:=s;have lf:cl=i.elem:=by simpa using lf
     subst lf;have s:=go_chk2 c9;clear c9;obtain ⟨L,c9⟩:=s;have L:(hB.length+aZ.length)*i.bytes<=am:=by simpa using L
     simp only[HM.go,bJ,c0]at c9;obtain ⟨rfl,rfl,rfl⟩:=c9;obtain ⟨rfl,A,m,c,a8⟩:=lR;have cq:=g1.rel.obj o;rw[W]at cq;obtain ⟨jx,cV,ba,gy,mU,_⟩:=cq;rw[a8]at gy;obtain ⟨rfl,rfl,rfl⟩:=iO gy;have:=abp (ty:=ty) g1.rel eH W a8 (k:=m) (dh:=A) (ca _) (λ_=>rfl) (λ_=>rfl) src (by rw[<-mU];exact L) kt.1 (kt.2 n3 (ca _) u);rw[a8]
     rwa [ia u]at this
    ·simp[HM.go]at bp
   ·rename_i ae o dN;cases afk:U2 x o
    case true=>
     rw[afk,an]at bp;simp only[HM.go]at bp;split at bp
     ·rename_i cl iU xs fz W;obtain ⟨hB,l3,n3,cI,c9⟩:=HM.go_bind_some bp;clear bp;obtain ⟨aw,rfl,rfl⟩:=go_opt cI;obtain ⟨rfl,rfl⟩:=AF aw;have s:=go_bif c9;clear c9;obtain ⟨lf,c9⟩:=s;simp only[bQ,eT]at lf;obtain ⟨lf,rfl⟩:=lf;have lf:cl=i.elem:=by simpa using lf
      subst lf;have s:=go_chk2 c9;clear c9;obtain ⟨L,c9⟩:=s;have L:dN+aZ.length<=hB.length:=by simpa using L
      simp only[HM.go,bJ,c0]at c9;obtain ⟨rfl,rfl,rfl⟩:=c9;obtain ⟨A,m,c,dh,a8,q,G,ab,rfl,e4,di⟩:=lR;have cq:=g1.rel.obj o;rw[W]at cq;obtain ⟨jx,cV,ba,gy,mU,_⟩:=cq;rw[a8]at gy;obtain ⟨rfl,rfl,rfl⟩:=iO gy;by_cases hi:c=0
      ·have bt:aZ=[]:=kV u;have CX:hB=[]:=kV u;have au0:dN=0:=u;subst bt au0;have vs:news=[]:=kV (by simpa using src.chunks.len (λx c=>bz.len iU x c));subst vs;have eU:=Dp (ty:=ty) eH (A:=dh) (m:=0) (c:=c-0) src aU (aq:=w) (λa _=>rfl) (λ_=>rfl);rw[eU];have he:(aG.arr i.elem iU (hB.take 0++[]++hB.drop (0+([]:List iU.den).length)) false)=aF l3 o:=by rw[W];simp
       rw[he,N8 l3 o (gM (by rw[W];rfl))];exact cG.pure (r:=.view iU o 0 (0+([]:List iU.den).length)) g1.rel (A2 ⟨A,m,c,dh,a8,aU,aU,ab,aU,λh=>by simpa using e4 h,di⟩) (by
        intro j ak;have:j=o:=by simpa [K.ids] using ak
        subst this;rw[W];rfl) rfl
      ·have H8:dh=A:=by rw[e4 hi];obtain ⟨b,dq,rfl⟩:=di hi;simp[hI]
       obtain ⟨dn,bd,a6,cp,eh,gZ,ir⟩:=Pc (n:=n3) (k:=dN) (dh:=A.map (·.add (dN*iU.size))) g1.rel W a8 src.chunks L (λ_=>rfl);have eU:=Dp (ty:=ty) eH (A:=dh) (m:=dN) (c:=c-0) src u (aq:=dn) (λa aV=>bd _ (by rw[<-H8,aV];rfl)) (λaV=>a6 (by rw[<-H8,aV];rfl));have cl:dN-0=dN:=Nat.sub_zero _;rw[cl,eU];refine ⟨_,dn,dE,ι,rfl,cp,eh,gZ,ir,A2 ⟨A,m,c,dh,a8,Nat.zero_le _,u,ab,aU,λh=>by simpa using e4 h,di⟩,λj ak=> ?_⟩;have:j=o:=by simpa [K.ids] using ak
       subst this;rw[gL _ j _ j (Nat.le_of_lt (gM (by rw[W];rfl))),if_pos rfl];rfl
     ·simp[HM.go]at bp
    rw[afk,ay]at bp;simp only[HM.go]at bp;split at bp
    ·rename_i cl iU xs fz W;obtain ⟨hB,l3,n3,cI,c9⟩:=HM.go_bind_some bp;clear bp;obtain ⟨aw,rfl,rfl⟩:=go_opt cI;obtain ⟨rfl,rfl⟩:=AF aw;have s:=go_bif c9;clear c9;obtain ⟨lf,c9⟩:=s;simp only[bQ,eT]at lf;obtain ⟨lf,rfl⟩:=lf;have lf:cl=i.elem:=by simpa using lf
     subst lf;have s:=go_chk2 c9;clear c9;obtain ⟨L,c9⟩:=s;have L:((hB.take dN).length+aZ.length)*i.bytes<=am:=by simpa using L
     simp only[HM.go,bJ,c0]at c9;obtain ⟨rfl,rfl,rfl⟩:=c9;obtain ⟨A,m,c,dh,a8,q,G,ab,rfl,e4,di⟩:=lR;have cq:=g1.rel.obj o;rw[W]at cq;obtain ⟨jx,cV,ba,gy,mU,_⟩:=cq;rw[a8]at gy;obtain ⟨rfl,rfl,rfl⟩:=iO gy;have ad:(hB.take dN).length=dN:=by simp;omega
     rw[ad]at L;have:=abp (ty:=ty) g1.rel eH W a8 (k:=dN) (dh:=dh) G (λh=>by cases h) (λhi=>by rw[e4 hi];obtain ⟨b,dq,rfl⟩:=di hi;simp[hI]) src L kt.1 (kt.2 n3 (ca _) u)
     simpa using this
    ·simp[HM.go]at bp
   ·rename_i ae xs;obtain ⟨hB,l3,n3,cI,c9⟩:=HM.go_bind_some bp;clear bp;obtain ⟨aw,rfl,rfl⟩:=go_opt cI;obtain ⟨rfl,rfl⟩:=AF aw;have s:=go_chk2 c9;clear c9;obtain ⟨L,c9⟩:=s;simp only[bQ,dT]at L;simp only[HM.go,bJ,c0]at c9;obtain ⟨rfl,rfl,rfl⟩:=c9;obtain ⟨A,m,rfl,o8⟩:=lR;obtain ⟨jx,cV,ba,gy,ad,hle,bg⟩:=o8;injection gy with gy _
    obtain ⟨rfl,rfl,rfl⟩:=iO gy;obtain ⟨gn,hold,sY⟩: ∃gn,(Builtin.firstCells ae.size m (.slice A m m)).run P w.drew=.ok gn.toArray w.drew/\c2 (bz dE w ae) hB gn:=by
     rcases bg with bg |⟨b,o,EE,rfl,gB,af⟩
     ·subst bg;have:hB=[]:=kV ad;subst this;refine ⟨[],?_,rfl⟩;cases A with
      |none=>exact run_firstCells_none _ _ _ _ _
      |some a=>simpa using run_firstCells_some (P:=P) w.drew ae.size 0 a 0 0 [] aU aU
     ·have m6:=af.len (λx c=>bz.len ae x c);exact ⟨EE,run_firstCells_some (P:=P) w.drew ae.size m _ m m EE (by rw[m6,ad]) (λj v ak=>by rw[hI];exact (gB j v ak).2),af⟩
    obtain ⟨eD,eM,ag,aS,bP,dz,eU⟩:=Tu (ty:=ty) eH (A:=A) (m:=m) (c:=m) (gn:=gn) src u hold (by rw[<-ad];exact L.2);rw[eU];have iY:=ic.drew_alloc w (.cells (gn.toArray++news.toArray++eM) i.elem);have im:=src.chunks.len (λx c=>bz.len ae x c);have oC:=sY.len (λx c=>bz.len ae x c);have gd:=c2.append _ _ _ _ sY src.chunks;have hlen:(hB++aZ).length=m+aZ.length:=by simp[ad]
    have vl:(gn.toArray++news.toArray++eM).toList=(gn++news)++eM.toList:=aU;have ae7:(gn++news).length=(hB++aZ).length*ae.size:=by simp[oC,im,Nat.add_mul]
    have:=uQ (φ:=dE) (ι:=ι) (n:=n3) g1.rel (e:=i.elem) (t:=ae) (xs:=hB++aZ) (c:=eD) (b:=w.heap.size) iY (heap_alloc_new w.drew _) (ca _) (by rw[hlen];exact ag) aS
     (by simp only[Array.size_append,List.size_toArray,oC,im,bP,ad];rw[<-Nat.add_mul,<-Nat.add_mul];congr 1;omega) (uy _ _)
     (by obtain ⟨us,mx⟩:=dz;exact Cells.of_chunks (by rw[vl];exact c2.append _ _ _ _ (gd.imp λx c=>bz.mono (λ_ _ h=>h) (λb k af=>iY.cell (kR g1.rel af)) ae x c) (mx _ _)) _)
     (by rw[vl,List.take_append_of_le_length (by rw[ae7];exact ca _),ia (by rw[ae7];exact ca _)];exact gd.imp λx c=>bz.mono (λ_ _ h=>h) (λb k af=>iY.cell (kR g1.rel af)) ae x c) kt.1 (kt.2 n3 (ca _) u)
    rwa [hlen]at this
   ·simp[HM.go]at bp
  ·simp[HM.go]at e
 ·simp[HM.go]at e
end
open Go.RowKit
section
variable {P:cv} {cx:cj} {φ av:bL} {ι aH:Nat->az} {w aq:bk} {J:List aG} {n:Nat} {r:K} {aA:List aG} {aJ:Nat}
structure Ha (P:cv) (φ:bL) (w:bk) (t:aB) (aZ:List t.den) (x:az) (s:Nat) (news:List az):Prop where
 len: ∀w,(Builtin.lenOf x).run P w=.ok aZ.length w
 chunks:c2 (bz φ w t) (aZ.take s) news
 cells:(Builtin.firstCells t.size (Nat.min aZ.length s) x).run P w=.ok news.toArray w
theorem oW.first {t:aB} {aZ:List t.den} {v:az} (h:oW φ w t aZ v) (s:Nat): ∃news,Ha P φ w t aZ v s news:=by
 obtain ⟨A,c,news,rfl,aw,af,bg⟩:=h;have kv:=af.take (λx c=>bz.len t x c) s;have h5:=kv.len (λx c=>bz.len t x c);refine ⟨_,λw=>by simp[Builtin.lenOf],kv,?_⟩;have Rt:(aZ.take s).length=Nat.min aZ.length s:=by rw[ev,Nat.min_comm]
 rw[Rt]at h5;rcases bg with bg |⟨b,o,rfl,fX⟩
 ·have:aZ=[]:=kV bg;subst this;simp only[c2]at af;subst af;cases A with
  |none=>simp[Builtin.firstCells]
  |some a=>exact run_firstCells_some (P:=P) w t.size _ a 0 c _ h5 aU
 ·exact run_firstCells_some (P:=P) w t.size _ _ aZ.length c _ h5 (λj ae ak=>by
   rw[hI];refine fX j ae ?_;have bu:j<(news.take (s*t.size)).length:=(iK.1 ak).1;rw[ev]at bu
   rwa [List.getElem?_take_of_lt u]at ak)
theorem aqA (d:List UInt8) (s:Nat):Ha P φ w (.int .u8) (j8 d) (.string ⟨⟨d⟩⟩) s ((d.take s).map λb=>.int .u8 (b.toNat:Int)):=by
 have ea:(⟨⟨d⟩⟩:ByteArray).size=d.length:=rfl;refine ⟨λw=>by simp[Builtin.lenOf,j8,ea],?_,?_⟩
 ·have e:(j8 d).take s=j8 (d.take s):=by simp[j8,List.map_take]
  rw[e];exact (MU (P:=P) (φ:=φ) (w:=w) (d.take s)).chunks
 ·unfold Builtin.firstCells;simp only[Sem.run_pure];congr 1;apply Array.ext';have ad:(j8 d).length=d.length:=by simp[j8]
  rw[ad];simp only[ByteArray.data_extract,Array.toList_map,Array.toList_extract,List.extract_eq_take_drop,List.drop_zero,Nat.sub_zero];congr 1;rw[show d.length.min s=min d.length s from rfl,Nat.min_def];split
  ·rw[ia (ca _),ia u]
  ·rfl
theorem acZ {I:eN} {cH:az} {t:aB} {aZ:List t.den} (x:K) (s:Nat) (ao:I.t.cast? (.list t) I.x=some aZ) (h:(∃d,cH=.string ⟨⟨d⟩⟩/\I=⟨.list (.int .u8),j8 d⟩/\x.isStr=true)\/ ∀t xs,I=⟨.list t,xs⟩->oW φ w t xs cH):
  ∃news,Ha P φ w t aZ cH s news:=by
 obtain ⟨ae,z⟩:=I;obtain ⟨e,rfl⟩:=rN ao;simp only at e;subst e;rcases h with ⟨d,rfl,h,_⟩|h
 ·injection h with q G
  injection q with q
  subst q;obtain rfl:=eq_of_heq G;exact ⟨_,aqA d s⟩
 ·exact (h t _ rfl).first s
theorem acE [Env] {T dX ty e:bq} {t:aB} {bytes:Nat} (ao:P.underlying T=some (.slice e)) (gC:sN P e t bytes) (h:cg φ ι w J) {o:Nat} {cl:bq} {xs:List t.den} (W:aF J o=.arr cl t xs false) {A:Option Addr} {m c:Nat} (a8:ι o=.slice A m c) {aQ dN:Nat} (q:aQ<=dN) (G:dN<=xs.length)
  {dh:Option Addr} {eD:Nat} (e4:dN-aQ≠0->dh=A.map (·.add (aQ*t.size))) {aZ:List t.den} {cH:az} {news:List az} (aM:Ha P φ w t aZ cH (dN-aQ) news):
  cG φ ι w J n (.dat (.int .i64) ((aZ.take (dN-aQ)).length:Int)) (b8 J o (.arr cl t (xs.take aQ++aZ.take (dN-aQ)++xs.drop (aQ+(aZ.take (dN-aQ)).length)) false)) n ((Builtin.copy_ #[T,dX] ty #[.slice dh (dN-aQ) eD,cH]).run P w):=by
 have eH:(aZ.take (dN-aQ)).length=Nat.min aZ.length (dN-aQ):=by rw[ev,Nat.min_comm]
 have hle:(aZ.take (dN-aQ)).length<=dN-aQ:=by rw[ev];omega
 obtain ⟨dn,bd,a6,cp,eh,gZ,ir⟩:=Pc (P:=P) (n:=n) (k:=aQ) (dh:=dh) h W a8 aM.chunks u (λcw=>e4 u);obtain ⟨dO,z,g1,g2,g3,g4,g5,g6,g7,g8⟩:=gC;refine ⟨_,dn,φ,ι,?_,cp,eh,gZ,ir,h2 (cF.int.2 rfl),by simp[K.ids]⟩;unfold Builtin.copy_;simp only[List.getElem?_toArray,List.getElem?_cons_zero,List.getElem?_cons_succ,Sem.run_bind,run_underlying ao,Result.andThen_ok,Sem.run_pure,aM.len];have ea: ∀w,(sizeOf e).run P w=.ok t.size w:=λw=>by simp[sizeOf,typeInfo,g1,g2]
 rw[ea];simp only[Result.andThen_ok];rw[aM.cells];simp only[Result.andThen_ok];rw[eH];cases dh with
 |none=>simp[a6 rfl,goInt]
 |some a=>simp[bd a rfl,goInt]
theorem apl [Env] (tab:cN P cx) {T dX ty:bq} {I x:K} (e:(Pq cx T I x).go J n=some (r,aA,aJ)) (h:cg φ ι w J) {v cH:az} (ao:I.rel φ ι w v) (al:x.rel φ ι w cH)
  (ls: ∀i∈I.ids,(aF J i).live=true) (fG: ∀i∈x.ids,(aF J i).live=true):
  cG φ ι w J n r aA aJ ((Builtin.copy_ #[T,dX] ty #[v,cH]).run P w):=by
 unfold Pq at e;split at e
 ·rename_i t o;have s:=go_bif e;clear e;obtain ⟨bW,e⟩:=s;obtain ⟨i,E,aW⟩:=hO bW;obtain ⟨o9,gC⟩:=kM tab E aW;obtain ⟨atI,H1,dm,M,V⟩:=HM.go_bind_some e;clear e;obtain ⟨rfl,dE,g1,Cr⟩:=Fo M h al fG;refine cG.after g1 ?_;have m2:=K.rel_step g1.step g1.keep ls ao;simp only[HM.go]at V;split at V
  ·rename_i cl ae xs fz W;obtain ⟨aZ,ff,ec,a1,bp⟩:=HM.go_bind_some V;clear V;obtain ⟨Co,rfl,rfl⟩:=go_opt a1;have s:=go_bif bp;clear bp;obtain ⟨L,bp⟩:=s;simp only[bQ,dT,eT]at L;obtain ⟨rfl,rfl⟩:=L;simp only[HM.go,bJ,c0]at bp;obtain ⟨rfl,rfl,rfl⟩:=bp;obtain ⟨rfl,A,m,c,a8⟩:=m2;have cq:=g1.rel.obj o;rw[W]at cq;obtain ⟨jx,cV,ba,bw,bS,dD,du,bg⟩:=cq;rw[a8]at bw;obtain ⟨rfl,rfl,rfl⟩:=iO bw;subst bS;obtain ⟨news,aM⟩:=acZ (P:=P) x xs.length Co Cr;have:=acE (n:=ec) (ty:=ty) (dX:=dX) o9 gC g1.rel W a8 (aQ:=0) (dN:=xs.length) (dh:=A) (eD:=c) (Nat.zero_le _) (ca _) (λcw=>by
    rcases bg with bg |⟨b,pre,cur,c6,rfl,_⟩
    ·omega
    ·simp[hI]) aM
   rw[a8];simpa using this
  ·simp[HM.go]at V
 ·rename_i t o aQ dN;have s:=go_bif e;clear e;obtain ⟨bW,e⟩:=s;obtain ⟨i,E,aW⟩:=hO bW;obtain ⟨o9,gC⟩:=kM tab E aW;obtain ⟨atI,H1,dm,M,V⟩:=HM.go_bind_some e;clear e;obtain ⟨rfl,dE,g1,Cr⟩:=Fo M h al fG;refine cG.after g1 ?_;have m2:=K.rel_step g1.step g1.keep ls ao;simp only[HM.go]at V;split at V
  ·rename_i cl ae xs fz W;obtain ⟨aZ,ff,ec,a1,bp⟩:=HM.go_bind_some V;clear V;obtain ⟨Co,rfl,rfl⟩:=go_opt a1;have s:=go_bif bp;clear bp;obtain ⟨L,bp⟩:=s;simp only[bQ,dT,eT]at L;obtain ⟨rfl,rfl⟩:=L;simp only[HM.go,bJ,c0]at bp;obtain ⟨rfl,rfl,rfl⟩:=bp;obtain ⟨A,m,c,dh,a8,q,G,ab,rfl,e4,di⟩:=m2;have cq:=g1.rel.obj o;rw[W]at cq;obtain ⟨jx,cV,ba,bw,bS,dD,du,bg⟩:=cq;rw[a8]at bw;obtain ⟨rfl,rfl,rfl⟩:=iO bw;obtain ⟨news,aM⟩:=acZ (P:=P) x (dN-aQ) Co Cr;exact acE (n:=ec) (ty:=ty) (dX:=dX) o9 gC g1.rel W a8 q u (λcw=>e4 u) aM
  ·simp[HM.go]at V
 ·simp[HM.go]at e
end
open Go.RowKit
theorem UY {α:Type} (ax aP:List α) (a off k d a7:Nat) (q:off+k<=d) (G:a+d<=a7) (ab:a7<=ax.length) (a8:aP.length=k):
  (ax.take (a+off)++aP++ax.drop (a+off+k)).take a7=(ax.take a7).take a++(((((ax.take a7).drop a).take d).take off)++aP++((((ax.take a7).drop a).take d).drop (off+k)))++(ax.take a7).drop (a+d):=by
 apply List.ext_getElem?;intro j;simp only[List.getElem?_append,List.getElem?_take,List.getElem?_drop,eF,ev,List.length_drop]
 grind
section
variable {P:cv} {cx:cj} {φ av:bL} {ι aH:Nat->az} {w aq:bk} {J:List aG} {n:Nat} {r:K} {aA:List aG} {aJ:Nat}
theorem N1 {I:eN} {aP:List az} (ao:bz φ w I.t I.x aP): ∀(t:aB) (p:List Nat) (x y:t.den) (cs:List az),t.setAt x p I=some y->bz φ w t x cs->t.at_ p=some I.t/\bz φ w t y (cs.take (t.offAt p)++aP++cs.drop (t.offAt p+I.t.size))
 |t,[],x,y,cs,ah,aw=>by
  have pe:I.t.cast? t I.x=some y:=by cases t<;>exact ah
  obtain ⟨e,rfl⟩:=rN pe;obtain ⟨ae,z⟩:=I;simp only at e;subst e;refine ⟨rfl,?_⟩;simp only[aB.offAt,List.take_zero,List.nil_append,Nat.zero_add];rw[List.drop_of_length_le (by rw[aw.len];exact ca _),List.append_nil];exact ao
 | .pair a b,0::p,x,y,cs,ah,aw=>by
  obtain ⟨bh,ba,rfl,q,G⟩:=aw;simp only[aB.setAt]at ah;obtain ⟨z,bI,rfl⟩:=h9.1 ah;obtain ⟨bd,a6⟩:=N1 ao a p x.1 z bh bI q;have hle:=sf bd;have ad:=q.len;refine ⟨by simp[aB.at_,aB.nth,bd],_,ba,?_,a6,G⟩;have M:(aB.pair a b).offAt (0::p)=a.offAt p:=by simp[aB.offAt,aB.offs,aB.nth]
  rw[M,List.take_append_of_le_length u,List.drop_append_of_le_length u];simp
 | .pair a b,(i+1)::p,x,y,cs,ah,aw=>by
  obtain ⟨bh,ba,rfl,q,G⟩:=aw;simp only[aB.setAt]at ah;obtain ⟨z,bI,rfl⟩:=h9.1 ah;obtain ⟨bd,a6⟩:=N1 ao b (i::p) x.2 z ba bI G;have ad:=q.len;refine ⟨by simpa [aB.at_,aB.nth] using bd,bh,_,?_,q,a6⟩;have M:(aB.pair a b).offAt ((i+1)::p)=bh.length+b.offAt (i::p):=by simp[aB.offAt,aB.offs,aB.nth,ad,Nat.add_assoc]
  rw[M,List.take_length_add_append,Nat.add_assoc,<-List.drop_drop,List.drop_left];simp
 | .bool,_::_,x,y,cs,ah,aw=>by simp[aB.setAt]at ah
 | .int _,_::_,x,y,cs,ah,aw=>by simp[aB.setAt]at ah
 | .str,_::_,x,y,cs,ah,aw=>by simp[aB.setAt]at ah
 | .opq,_::_,x,y,cs,ah,aw=>by simp[aB.setAt]at ah
 | .unit,_::_,x,y,cs,ah,aw=>by simp[aB.setAt]at ah
 | .list _,_::_,x,y,cs,ah,aw=>by simp[aB.setAt]at ah
theorem acb: ∀(ae:aB) (z:ae.den) (cs:List az),ae.chain=true->bz φ w ae z cs->
  K.relL φ ι w ((ae.parts z).map λI=>K.dat I.t I.x) cs/\K.fitsL ((ae.parts z).map λI=>K.dat I.t I.x) ae=true/\K.idsL ((ae.parts z).map λI=>K.dat I.t I.x)=[]
 | .unit,z,cs,_,h=>⟨h,by simp[aB.parts,K.fitsL],rfl⟩
 | .pair a b,z,cs,aw,⟨bh,ba,e,q,G⟩=>by
  obtain ⟨bd,a6,cp⟩:=acb b z.2 ba aw G;obtain ⟨dy,de⟩:=cF.of q;refine ⟨⟨_,ba,by rw[de];exact e,h2 dy,bd⟩,?_,?_⟩
  ·simp only[aB.parts,List.map_cons,K.fitsL,K.fits,a6];simp
  ·simp only[aB.parts,List.map_cons,K.idsL,K.ids,cp];rfl
 | .bool,_,_,h,_=>by simp[aB.chain]at h
 | .int _,_,_,h,_=>by simp[aB.chain]at h
 | .str,_,_,h,_=>by simp[aB.chain]at h
 | .opq,_,_,h,_=>by simp[aB.chain]at h
 | .list _,_,_,h,_=>by simp[aB.chain]at h
theorem atg {ae:aB} (h:ae.chain=true):ae.isAgg=true:=by cases ae<;>first |rfl |(simp[aB.chain]at h)
theorem asl {x:K} {l:List K} {t:aB} {v:az} (al:x.rel φ ι w v) (aM:x.fits t=true) (W:x.open_=some l): ∃cs,v=.agg cs/\K.relL φ ι w l cs.toList/\K.fitsL l t=true/\ ∀i∈K.idsL l,i∈x.ids:=by
 unfold K.open_ at W;split at W
 ·rename_i m;injection W with W
  subst W;obtain ⟨cs,rfl,h⟩:=al;exact ⟨cs,rfl,h,by simpa [K.fits] using aM,by simp[K.ids]⟩
 ·rename_i ae z;have e:ae=t:=by simpa [K.fits] using aM
  subst e;by_cases aV:ae.chain=true
  ·simp only[aV,an,bJ]at W;subst W;obtain ⟨cs,rfl⟩:=uT (al.2.trans (atg aV));obtain ⟨bd,a6,cp⟩:=acb (ι:=ι) ae z cs.toList aV al.1;exact ⟨cs,rfl,bd,a6,by rw[cp];simp⟩
  ·simp[aV]at W
 ·cases W
theorem acQ: ∀(l:List K) (t:aB) (cs:List az) (i:Nat) (d:K),K.relL φ ι w l cs->K.fitsL l t=true->l[i]? =some d->
  ∃ae aP,t.nth i=some ae/\d.rel φ ι w aP/\d.fits ae=true/\aP.cells.toList=(cs.drop (t.offs i)).take ae.size/\ ∀j∈d.ids,j∈K.idsL l
 |[],_,_,_,_,_,_,h=>by simp at h
 |a::l,t,cs,i,d,⟨v,ba,e,q,G⟩,aM,E=>by
  subst e;cases t with
  |pair p s=>
   simp only[K.fitsL,bQ]at aM;obtain ⟨g1,g2⟩:=K.rel_fits a p v q aM.1;cases i with
   |zero=>
    simp only[List.getElem?_cons_zero,bJ]at E;subst E;refine ⟨p,v,rfl,q,aM.1,?_,λj ak=>by simp[K.idsL,ak]⟩;simp only[aB.offs,List.drop_zero];rw[<-g1,show v.cells.size=v.cells.toList.length by simp,List.take_left]
   |succ i=>
    obtain ⟨ae,aP,bd,a6,cp,eh,ir⟩:=acQ l s ba i d G aM.2 (by simpa using E);refine ⟨ae,aP,bd,a6,cp,?_,λj ak=>by simp[K.idsL,ir j ak]⟩;simp only[aB.offs];rw[<-g1,show v.cells.size=v.cells.toList.length by simp,<-List.drop_drop,List.drop_left];exact eh
  |_=>simp[K.fitsL]at aM
theorem Zh {y:K} {hb:az} (bt:y.rel φ ι w hb): ∀(p:List Nat) (t ae:aB) (x qs:K) (v:az),x.rel φ ι w v->x.fits t=true->K.setPath p x y=some qs->t.at_ p=some ae->y.fits ae=true->
  ∃lx,qs.rel φ ι w lx/\qs.fits t=true/\lx.cells.toList=v.cells.toList.take (t.offAt p)++hb.cells.toList++v.cells.toList.drop (t.offAt p+ae.size)/\ ∀i∈qs.ids,i∈x.ids\/i∈y.ids
 |[],t,ae,x,qs,v,al,aM,ah,aW,hu=>by simp only[K.setPath,bJ]at ah;simp only[aB.at_,bJ]at aW;subst ah aW;have ad:=(K.rel_fits x t v al aM).1;refine ⟨hb,bt,hu,?_,λi E=>.inr E⟩;simp only[aB.offAt,List.take_zero,List.nil_append,Nat.zero_add];rw[List.drop_of_length_le (by rw[ix,ad];exact ca _),List.append_nil]
 |i::p,t,ae,x,qs,v,al,aM,ah,aW,hu=>by
  simp only[K.setPath]at ah;split at ah
  ·rename_i l W;split at ah
   ·rename_i d avl;split at ah
    ·rename_i gG pe;injection ah with ah
     subst ah;obtain ⟨cs,rfl,mw,lO,aeV⟩:=asl al aM W;obtain ⟨e,aP,bd,a6,cp,eh,gZ⟩:=acQ l t cs.toList i d mw lO avl;simp only[aB.at_,bd]at aW;obtain ⟨lx,dH,cV,eV,lW⟩:=Zh bt p e ae d gG aP a6 cp pe aW hu;obtain ⟨bw,bS⟩:=Pd l t cs.toList i e gG lx mw lO bd dH cV;have hle:=sf aW;have Rn:=Gm bd;have jl:cs.toList.length=t.size:=(K.relL_fits l t _ mw lO).1;have CZ:hb.cells.toList.length=ae.size:=by rw[<-(K.rel_fits y ae hb bt hu).1];simp
     refine ⟨.agg (cs.toList.take (t.offs i)++lx.cells.toList++cs.toList.drop (t.offs i+e.size)).toArray,GO ⟨_,rfl,by simpa using bw⟩,by simpa [K.fits] using bS,?_,?_⟩
     ·have ah:=UY cs.toList hb.cells.toList (t.offs i) (e.offAt p) ae.size e.size t.size hle Rn (by rw[jl];exact ca _) CZ;have RO:cs.toList.take t.size=cs.toList:=ia (by rw[jl];exact ca _);rw[RO]at ah;have hlen:(cs.toList.take (t.offs i+e.offAt p)++hb.cells.toList++cs.toList.drop (t.offs i+e.offAt p+ae.size)).length=t.size:=by simp only[eF,ev,List.length_drop,jl,CZ];omega
      rw[ia (by rw[hlen];exact ca _)]at ah;show cs.toList.take (t.offs i)++lx.cells.toList++cs.toList.drop (t.offs i+e.size)=cs.toList.take (t.offAt (i::p))++hb.cells.toList++cs.toList.drop (t.offAt (i::p)+ae.size);rw[eV,eh];simp only[aB.offAt,bd];rw[ah]
     ·intro j ak;have iD:j∈K.idsL (l.set i gG):=by simpa [K.ids] using ak
      rcases ac7 l i gG j iD with q |q
      ·exact .inl (aeV j q)
      ·rcases lW j q with G |G
       ·exact .inl (aeV j (gZ j G))
       ·exact .inr G
    ·cases ah
   ·cases ah
  ·cases ah
theorem Zg (tab:cN P cx) {T:bq} {ti:gl} (E:cx.ti T=some ti) {v:az} (a8:v.cells.size=ti.ty.size) {b o:Nat} {e:bq} {c6:Nat×Nat} {cur:Array az} (L:w.heap[b]? =some (.cells cur e c6)) (aM:sQ c6 cur.size)
  (hle:o+ti.ty.size<=cur.size) (q: ∀ae∈v.cells.toList,ae.oneCell'=true):
  ∃aq,(storeVar T ⟨b,o,none⟩ v).run P w=.ok () aq/\aq.heap[b]? =some (.cells (cur.toList.take o++v.cells.toList++cur.toList.drop (o+ti.ty.size)).toArray e c6)/\jh w aq b:=by
 obtain ⟨aq,G,ab,aE⟩:=JH P o v.cells.toList 0 cur w L aM (by simp[a8];exact hle) q;refine ⟨aq,?_,?_,aE⟩
 ·unfold storeVar;simp only[Sem.run_bind,ED tab E,Result.andThen_ok];rw[if_neg (by simp[a8])];exact G
 ·rw[ab];simp[a8]
theorem apC [Env] (tab:cN P cx) {T:bq} {a x:K} (e:(Pj cx T a x).go J n=some (r,aA,aJ)) (h:cg φ ι w J) {mG cH:az} (aV:a.rel φ ι w mG) (al:x.rel φ ι w cH)
  (jG: ∀i∈a.ids,(aF J i).live=true) (fG: ∀i∈x.ids,(aF J i).live=true):
  r=.undef/\ ∃aq av aH,(Instr.storeAt T mG cH).run P w=.ok () aq/\cg av aH aq aA/\Step φ ι w J av aH aq aA/\eo ι J aH aA/\iW J n aA aJ:=by
 unfold Pj at e;split at e
 ·rename_i o d i p;have s:=go_bif e;clear e;obtain ⟨bW,e⟩:=s;obtain ⟨ti,ft,gB⟩:=Gk bW;simp only[HM.go]at e;split at e
  ·obtain ⟨I,H1,dm,M,V⟩:=HM.go_bind_some e;clear e;obtain ⟨rfl,dE,g1,a8⟩:=tD x φ cH J n I H1 dm M h al fG;have yc:=K.rel_step g1.step g1.keep jG aV;simp only[HM.go]at V;split at V
   ·rename_i cl t xs fz W;have s:=go_bif V;clear V;obtain ⟨L,V⟩:=s;simp only[bQ,dT,eT]at L;obtain ⟨⟨rfl,rfl⟩,auk⟩:=L;obtain ⟨azZ,IB,RP⟩:=hO auk;rw[ft]at IB;injection IB with IB
    subst IB;obtain ⟨y,ff,ec,a1,bp⟩:=HM.go_bind_some V;clear V;obtain ⟨lj,rfl,rfl⟩:=go_opt a1;simp only[HM.go,bJ,c0]at bp;obtain ⟨rfl,rfl,rfl⟩:=bp;obtain ⟨b,azi,c6,dq,rfl,bw,bS,dD,du,gq,hy,ng,s5⟩:=adG g1.rel W yc;have cq:=g1.rel.obj o;rw[W]at cq;obtain ⟨m,c,pre,cur,ad9,aD,z2,z3,z4,z5,kT,gi,od,z0,z9,ay0,ay1,z12⟩:=cq.blk_arr hy;rw[bw]at kT;injection kT with kT
    injection kT with kT _ ay2
    subst kT ay2;have kO:dq=pre.size:=by rw[<-s5,aD];rfl
    subst kO;rw[ajP]at ng;rw[Array.size_append]at gq;obtain ⟨bd,a6⟩:=N1 a8.1 d p _ y _ lj ng;have eL:cH.cells.toList.length=I.t.size:=a8.1.len;have hle:=sf bd;have jl:(i+1)*d.size=i*d.size+d.size:=by rw[Nat.add_mul,Nat.one_mul]
    obtain ⟨aq,ag,aS,bP⟩:=Zg (w:=w) tab ft (v:=cH) (b:=b) (o:=pre.size+i*d.size+d.offAt p) (by rw[RP];simpa using eL) bw bS (by rw[RP,Array.size_append];omega) (a8.1.one _ _ _);have lQ: ∀k,¬dE b k:=λk af=>by have:=(ay1 k af).1;cases this
    have Ir:m*d.size<=cur.size:=by rw[gi];exact gV _ z3
    have azA:(i+1)*d.size<=m*d.size:=gV _ u;rw[RP,Nat.add_assoc pre.size (i*d.size) (d.offAt p),Of]at aS;have ea:((cur.toList.take (i*d.size+d.offAt p)++cH.cells.toList++cur.toList.drop (i*d.size+d.offAt p+I.t.size)).toArray).size=cur.size:=by simp only[List.size_toArray,eF,ev,List.length_drop,ix,eL];omega
    have fX: ∀bX k,dE bX k->aq.cell? ⟨bX,k,none⟩=w.cell? ⟨bX,k,none⟩:=λbX k af=>bP.cell (λe=>lQ k (e▸af))
    have oD: ∀v∈(cur.toList.take (i*d.size+d.offAt p)++cH.cells.toList++cur.toList.drop (i*d.size+d.offAt p+I.t.size)).toArray.toList,v.oneCell'=true:=by
     intro v fb;simp only[dp]at fb;rcases fb with (fb |fb)|fb
     ·exact z9 v (List.mem_of_mem_take fb)
     ·exact a8.1.one _ _ _ v fb
     ·exact z9 v (List.mem_of_mem_drop fb)
    have auC:c2 (bz dE aq d) (xs.set i y) ((cur.toList.take (i*d.size+d.offAt p)++cH.cells.toList++cur.toList.drop (i*d.size+d.offAt p+I.t.size)).toArray.toList.take (m*d.size)):=by
     have vx:=UY cur.toList cH.cells.toList (i*d.size) (d.offAt p) I.t.size d.size (m*d.size) hle u (by simpa using Ir) eL;show c2 _ _ (List.take _ (cur.toList.take (i*d.size+d.offAt p)++cH.cells.toList++cur.toList.drop (i*d.size+d.offAt p+I.t.size)));rw[vx];have nC:((cur.toList.take (m*d.size)).drop (i*d.size)).take d.size=(cur.toList.drop (i*d.size)).take d.size:=by rw[List.drop_take,List.take_take,Nat.min_eq_left u]
     rw[<-nC]at a6;exact (c2.set (λx c=>bz.len d x c) xs (cur.toList.take (m*d.size)) ay0 i y _ du a6).imp λx c=>bz.mono (λ_ _ h=>h) fX d x c
    have re:d=.int .u8\/ ∃eM:List d.den,c2 (bz dE aq d) eM ((cur.toList.take (i*d.size+d.offAt p)++cH.cells.toList++cur.toList.drop (i*d.size+d.offAt p+I.t.size)).toArray.toList.drop (m*d.size)):=by
     have c9:((cur.toList.take (i*d.size+d.offAt p)++cH.cells.toList++cur.toList.drop (i*d.size+d.offAt p+I.t.size)).toArray).toList.drop (m*d.size)=cur.toList.drop (m*d.size):=by rw[<-eL];exact NS (by rw[ix];omega) u
     rw[c9];exact z9.rest.imp id λ⟨eM,bI⟩=>⟨eM,bI.imp λx c=>bz.mono (λ_ _ h=>h) fX d x c⟩
    have dB:jz dE ι aq o (.arr cl d (xs.set i y) false):=
     ⟨some ⟨b,pre.size,none⟩,m,c,aD,by simpa using z2,z3,z4,.inr ⟨b,pre,_,c6,rfl,aS,by rw[ea,gi],by rw[ea];exact od,z0,⟨oD,re⟩,auC,λk af=>absurd af (lQ k),λbI=>by cases bI⟩⟩
    obtain ⟨jW,pB,rT,D1⟩:=Br (n:=ec) (dg:=.arr cl d (xs.set i y) false) g1.rel (by rw[W];rfl) hy bP lQ dB (by simp[aG.ids]) rfl;exact ⟨rfl,aq,dE,ι,by simp[Instr.storeAt,Instr.sureAddr,ag],jW,g1.step.trans pB,g1.keep.trans rT,(g1.nx _).trans D1⟩
   ·simp[HM.go]at V
  ·obtain ⟨y,H1,dm,M,V⟩:=HM.go_bind_some e;clear e;obtain ⟨rfl,dE,g1,a8,vQ⟩:=NR M h al fG;have yc:=K.rel_step g1.step g1.keep jG aV;simp only[HM.go]at V;split at V
   ·rename_i U t z W;have s:=go_bif V;clear V;obtain ⟨L,V⟩:=s;have L:d=t:=by simpa using L
    subst L;rw[gB]at V;simp only at V;have s:=go_bif V;clear V;obtain ⟨s0,V⟩:=s;obtain ⟨mH,ff,ec,a1,bp⟩:=HM.go_bind_some V;clear V;obtain ⟨lj,rfl,rfl⟩:=go_opt a1;simp only[HM.go,bJ,c0]at bp;obtain ⟨rfl,rfl,rfl⟩:=bp;obtain ⟨b,cur,c6,ae,rfl,bw,bS,dD,du,gq,rfl,ng,y7⟩:=adH g1.rel W yc;obtain ⟨iU,dH,cV,eV,lW⟩:=Zh a8 p d ti.ty z mH ae gq ng lj gB s0;have CV:cH.cells.size=ti.ty.size:=(K.rel_fits y ti.ty cH a8 s0).1;have hle:=sf gB;obtain ⟨aq,ag,aS,bP⟩:=Zg (w:=w) tab ft (v:=cH) (b:=b) (o:=d.offAt p) CV bw dD u (K.rel_one y ti.ty cH a8 s0);have cq:=g1.rel.obj o;rw[W]at cq;have lQ: ∀k,¬dE b k:=by
     obtain ⟨bX,_,_,_,iV,_,_,_,_,_,_,_,ayX⟩:=cq;rw[iV]at y7;have:bX=b:=by simpa [dM] using y7
     subst this;exact ayX
    have fX: ∀bX k,dE bX k->aq.cell? ⟨bX,k,none⟩=w.cell? ⟨bX,k,none⟩:=λbX k af=>bP.cell (λe=>lQ k (e▸af))
    have nL:iU.cells=(ae.cells.toList.take (d.offAt p)++cH.cells.toList++ae.cells.toList.drop (d.offAt p+ti.ty.size)).toArray:=by apply Array.ext';rw[eV]
    have mx:=(K.rel_fits mH d iU dH cV).1;obtain ⟨n7,oP,tY,El⟩:=Br (n:=ec) (dg:=.box U d mH) g1.rel (by rw[W];rfl) y7 bP lQ
     ⟨b,iU.cells,c6,iU,by
      obtain ⟨bX,_,_,_,iV,_⟩:=cq;rw[iV]at y7 ⊢;have:bX=b:=by simpa [dM] using y7
      rw[this],by rw[aS,nL],mx,by rw[mx,<-bS];exact dD,K.rel_one mH d iU dH cV,K.rel_mono (λ_ _ h=>h) fX mH iU (λ_ _=>rfl) dH,rfl,cV,lQ⟩
     (λj ak=>by
      rcases lW j ak with q |q
      ·exact g1.rel.idsB o _ _ _ W j q
      ·exact vQ j q) rfl
    exact ⟨rfl,aq,dE,ι,by simp[Instr.storeAt,Instr.sureAddr,ag],n7,g1.step.trans oP,g1.keep.trans tY,(g1.nx _).trans El⟩
   ·simp[HM.go]at V
  ·simp[HM.go]at e
 ·simp[HM.go]at e
end
open Go.RowKit
section
variable {P:cv} {cx:cj} {φ av:bL} {ι aH:Nat->az} {w aq:bk} {J:List aG} {n:Nat} {r:K} {aA:List aG} {aJ:Nat}
def qE (x:K) (v:az) (m:Nat):Prop:=if x.isStr then ∃d,v=.string ⟨⟨d⟩⟩/\d.length=m else ∃A c,v=.slice A m c
theorem arG [Env] {x:K} {m:Nat} {v:az} (e:(lenOf x).go J n=some (m,aA,aJ)) (h:cg φ ι w J) (al:x.rel φ ι w v):aA=J/\aJ=n/\qE x v m:=by
 unfold lenOf at e;split at e
 ·obtain ⟨rfl,rfl,rfl⟩:=go_ret e;obtain ⟨A,m,c,rfl,ad,_⟩:=cF.list al;exact ⟨rfl,rfl,by simp only[qE,K.isStr,Bool.false_eq_true,if_false];exact ⟨A,c,by rw[ad]⟩⟩
 ·obtain ⟨rfl,rfl,rfl⟩:=go_ret e;obtain rfl:=cF.str.1 al;exact ⟨rfl,rfl,by simp only[qE,K.isStr,if_true];exact ⟨_,rfl,rfl⟩⟩
 ·obtain ⟨rfl,rfl,rfl⟩:=go_ret e;obtain ⟨A,m,rfl,aw⟩:=al;obtain ⟨jx,cV,ba,M,ad,_⟩:=aw;injection M with M _
  obtain ⟨rfl,rfl,rfl⟩:=iO M;exact ⟨rfl,rfl,by simp only[qE,K.isStr,Bool.false_eq_true,if_false];exact ⟨A,m,by rw[ad]⟩⟩
 ·obtain ⟨rfl,rfl,rfl⟩:=go_ret e;simp only[K.rel]at al;subst al;exact ⟨rfl,rfl,by simp only[qE,K.isStr,Bool.false_eq_true,if_false];exact ⟨_,_,rfl⟩⟩
 ·rename_i t o;simp only[HM.go]at e;split at e
  ·rename_i cl ae xs fz hm;obtain ⟨kL,W,rfl⟩:=oM hm;obtain ⟨rfl,rfl,rfl⟩:=go_ret e;obtain ⟨rfl,A,m,c,a8⟩:=al;have cq:=h.obj o;rw[W]at cq;obtain ⟨jx,aJ,eD,M,V,_⟩:=cq;rw[a8]at M;obtain ⟨rfl,rfl,rfl⟩:=iO M;exact ⟨rfl,rfl,by simp only[qE,K.isStr,Bool.false_eq_true,if_false];exact ⟨A,c,by rw[a8,V]⟩⟩
  ·simp[HM.go]at e
 ·obtain ⟨rfl,rfl,rfl⟩:=go_ret e;obtain ⟨A,m,c,dh,a8,q,G,ab,rfl,e4,_⟩:=al;exact ⟨rfl,rfl,by simp only[qE,K.isStr,Bool.false_eq_true,if_false];exact ⟨dh,_,rfl⟩⟩
 ·simp[HM.go]at e
theorem aqs [Env] (tab:cN P cx) {T ty:bq} {x:K} {cH:az} (e:(bif qO cx T&&(PA cx T==x.isStr) then (lenOf x).bind λn=>HM.ret (.dat (.int .i64) (n:Int)) else .fail).go J n=some (r,aA,aJ)) (h:cg φ ι w J) (al:x.rel φ ι w cH):
  cG φ ι w J n r aA aJ ((Builtin.len_ #[T] ty #[cH]).run P w):=by
 have s:=go_bif e;clear e;obtain ⟨L,e⟩:=s;simp only[bQ,beq_iff_eq]at L;obtain ⟨fl,eE⟩:=L;obtain ⟨m,H1,dm,M,V⟩:=HM.go_bind_some e;obtain ⟨rfl,rfl,ad⟩:=arG M h al;obtain ⟨rfl,rfl,rfl⟩:=go_ret V;refine cG.plain h (Plain.int _ _) ?_;unfold qO at fl;unfold PA at eE;split at fl
 ·rename_i j ak;rw[ak]at eE;simp only at eE;split at fl
  ·rename_i t aW;rw[aW]at eE;have:x.isStr=false:=by rw[<-eE];simp
   simp only[qE,this,Bool.false_eq_true,if_false]at ad;obtain ⟨A,c,rfl⟩:=ad;have ao:=(kM tab ak aW).1;simp[Builtin.len_,run_underlying ao,goInt]
  ·rename_i aW;rw[aW]at eE;have:x.isStr=true:=by rw[<-eE];simp
   simp only[qE,this,if_true]at ad;obtain ⟨d,rfl,rfl⟩:=ad;have ao:=rV tab ak aW;have ah:(⟨⟨d⟩⟩:ByteArray).size=d.length:=rfl;simp[Builtin.len_,run_underlying ao,goInt,ah]
  ·cases fl
 ·cases fl
theorem Kh {fQ:Bool}: ∀(l:List K) (x:K) (aP:List az) (v:az) (r:K),(xt fQ x l).go J n=some (r,aA,aJ)->K.relT φ ι w l aP->x.rel φ ι w v->(∀i∈x.ids,(aF J i).live=true)->
  aA=J/\aJ=n/\ ∃ae,(aP.foldlM (if fQ then Builtin.max2 else Builtin.min2) v).run P w=.ok ae w/\r.rel φ ι w ae/\ ∀i∈r.ids,(aF J i).live=true
 |[],x,aP,v,r,e,ad,al,fG=>by
  have ei:(HM.ret x).go J n=some (r,aA,aJ):=by cases x<;>exact e
  obtain ⟨rfl,rfl,rfl⟩:=go_ret ei;simp only[K.relT]at ad;subst ad;exact ⟨rfl,rfl,v,aU,al,fG⟩
 |y::l,x,aP,v,r,e,ad,al,fG=>by
  obtain ⟨hb,wD,rfl,bt,ad⟩:=ad;unfold xt at e;split at e
  ·rename_i heq;cases heq
  ·rename_i k a eB b fF heq;injection heq with q G
   subst q G;have s:=go_bif e;clear e;obtain ⟨af,e⟩:=s;have af:k=eB:=by simpa using af
   subst af;obtain rfl:=cF.int.1 al;obtain rfl:=cF.int.1 bt;obtain ⟨q,G,ae,hu,ar,rD⟩:=Kh l _ wD (.int k (if (if fQ then a<b else b<a) then b else a)) r e ad (h2 (cF.int.2 rfl)) (by simp[K.ids]);refine ⟨q,G,ae,?_,ar,rD⟩;rw[List.foldlM_cons];cases fQ
   ·simp only[Bool.false_eq_true,if_false]at hu ⊢;simp only[Builtin.min2,Sem.run_bind,Sem.run_pure,Result.andThen_ok];exact hu
   ·simp only[if_true]at hu ⊢;simp only[Builtin.max2,Sem.run_bind,Sem.run_pure,Result.andThen_ok,gt_iff_lt];exact hu
  ·rename_i a b fF heq;injection heq with q G
   subst q G;obtain rfl:=cF.str.1 al;obtain rfl:=cF.str.1 bt;obtain ⟨q,G,ae,hu,ar,rD⟩:=Kh l _ wD (.string ⟨⟨bif (bif fQ then !(Op.bytesLess a b) else (Op.bytesLess a b||decide (a=b))) then a else b⟩⟩) r e ad (h2 (cF.str.2 rfl)) (by simp[K.ids]);refine ⟨q,G,ae,?_,ar,rD⟩;rw[List.foldlM_cons];cases fQ
   ·simp only[Bool.false_eq_true,if_false,ay]at hu ⊢;simp only[Builtin.min2,Op.stringOp,qm,uF,Sem.run_bind,Sem.run_pure,Result.andThen_ok,asBool];cases L:(Op.bytesLess a b||decide (a=b))<;>simp only[L,an,ay]at hu<;>simpa using hu
   ·simp only[if_true,an]at hu ⊢;simp only[Builtin.max2,Op.stringOp,qm,uF,Sem.run_bind,Sem.run_pure,Result.andThen_ok,asBool];cases L:(Op.bytesLess a b)<;>simp only[L,cL,cU,an,ay]at hu<;>simpa using hu
  ·simp[HM.go]at e
end
open Go.RowKit
section
variable {P:cv} {cx:cj} {φ av:bL} {ι aH:Nat->az} {w aq:bk} {J:List aG} {n:Nat} {r:K} {aA:List aG} {aJ:Nat}
theorem ate (w:bk) (e:bq) (d:List UInt8) (ah:d.length<=am):
  ∃cur c6,ic w (Lib.bytesWorld w e ⟨⟨d⟩⟩)/\(Lib.bytesWorld w e ⟨⟨d⟩⟩).heap[w.heap.size]? =some (.cells cur e c6)/\cur.size=grownCap w d.length 0 e/\sQ c6 cur.size/\(∀v∈cur.toList,v.oneCell'=true)/\
   cur.toList.take d.length=d.map λb=>Value.int .u8 (b.toNat:Int):=by
 have s3:=grownCap_ge w d.length 0 e;have aw:Lib.bytesCells w e ⟨⟨d⟩⟩=(⟨d⟩:Array UInt8).map (λb=>Value.int .u8 (b.toNat:Int))++Array.replicate (grownCap w d.length 0 e-d.length) (.int .u8 0):=rfl;have ea:(Lib.bytesCells w e ⟨⟨d⟩⟩).size=grownCap w d.length 0 e:=by rw[aw];simp;omega
 have bg:(Lib.bytesWorld w e ⟨⟨d⟩⟩).heap[w.heap.size]? =some (.cells (Lib.bytesCells w e ⟨⟨d⟩⟩) e ((Lib.bytesCells w e ⟨⟨d⟩⟩).size,(Lib.bytesCells w e ⟨⟨d⟩⟩).size+1)):=by unfold Lib.bytesWorld World.freeze;rw[if_neg u];have bY:(w.drew.alloc (.cells (Lib.bytesCells w e ⟨⟨d⟩⟩) e)).heap[w.heap.size]? =some (.cells (Lib.bytesCells w e ⟨⟨d⟩⟩) e (0,0)):=heap_alloc_new w.drew _;simp only[Array.getElem?_modify,if_pos,bY];rfl
 refine ⟨_,_,⟨?_,?_,?_,?_,λb L=> ?_⟩,bg,ea,?_,?_,?_⟩
 ·unfold Lib.bytesWorld World.freeze;rw[if_neg u];rfl
 ·unfold Lib.bytesWorld World.freeze;rw[if_neg u];rfl
 ·unfold Lib.bytesWorld World.freeze;rw[if_neg u];rfl
 ·rw[Lib.bytesWorld_size];omega
 ·exact Lib.bytesWorld_at_old w e _ b L
 ·intro k af h;omega
 ·intro v a8;rw[aw]at a8;simp only[Array.toList_append,Array.toList_map,Array.toList_replicate,dp,List.mem_map]at a8;rcases a8 with ⟨b,_,rfl⟩|a8
  ·rfl
  ·rw[List.eq_of_mem_replicate a8];rfl
 ·rw[aw];simp
theorem abe {φ:bL} {w:bk} {k:IntKind}: ∀{xs:List Int} {aZ:List az},c2 (bz φ w (.int k)) xs aZ->aZ=xs.map (Value.int k)
 |[],aZ,h=>by simpa [c2] using h
 |x::xs,aZ,h=>by obtain ⟨bh,ba,rfl,q,G⟩:=h;have dr:bh=[.int k x]:=q;rw[dr,abe G];rfl
theorem apk [Env] (tab:cN P cx) {S T:bq} {x:K} {cH:az} (e:(Pp cx S T x).go J n=some (r,aA,aJ)) (h:cg φ ι w J) (al:x.rel φ ι w cH) (fG: ∀i∈x.ids,(aF J i).live=true) (ed:jg J n aJ):
  cG φ ι w J n r aA aJ ((convert S T cH).run P w):=by
 unfold Pp at e;split at e
 ·rename_i i j E ak;split at e
  ·rename_i dq k q G;split at e
   ·obtain ⟨rfl,rfl,rfl⟩:=go_ret e;obtain rfl:=cF.int.1 al;have d1:=Gj tab E q;have d2:=Gj tab ak G;exact cG.plain h (Plain.int _ _) (by simp[convert,run_underlying d1,run_underlying d2,Conv.intToInt])
   ·simp[HM.go]at e
  ·rename_i q G;split at e
   ·obtain ⟨rfl,rfl,rfl⟩:=go_ret e;obtain rfl:=cF.str.1 al;have d1:=rV tab E q;have d2:=rV tab ak G;exact cG.plain h (Plain.str _) (by simp[convert,run_underlying d1,run_underlying d2])
   ·simp[HM.go]at e
  ·rename_i q G;split at e
   ·rename_i a;have s:=go_chk2 e;clear e;obtain ⟨L,e⟩:=s;have L:a.length<=am:=by simpa using L
    simp only[HM.go,bJ,c0]at e;obtain ⟨rfl,rfl,rfl⟩:=e;obtain rfl:=cF.str.1 al;have d1:=rV tab E q;have d2:=kM tab ak G;obtain ⟨ae,hu,RS⟩:=ab7 tab ak G;have d3:=Gj tab hu RS;rw[Lib.run_convert_string_bytes w S T j.elem ⟨⟨a⟩⟩ d1 d2.1 d3];obtain ⟨cur,c6,g,bg,ea,aM,dr,jE⟩:=ate w j.elem a L;have hlen:(j8 a).length=a.length:=by simp[j8]
    have s3:=grownCap_ge w a.length 0 j.elem;have vw:am=140737488355328:=rfl;have:=uQ (φ:=φ) (ι:=ι) (n:=n) h (e:=j.elem) (t:=.int .u8) (xs:=j8 a) (c:=grownCap w a.length 0 j.elem) (b:=w.heap.size) g bg (ca _) (by rw[hlen];exact s3)
     (grownCap_le_maxLen w _ _ _ (by simp only[maxLen];omega)) (by rw[ea];simp[aB.size]) ⟨aM,.inl rfl⟩ ⟨dr,.inl rfl⟩ (by
      have cI:(j8 a).length*(aB.int IntKind.u8).size=a.length:=by rw[hlen];simp[aB.size]
      rw[cI,jE];exact (MU (P:=P) (φ:=φ) (w:=Lib.bytesWorld w j.elem ⟨⟨a⟩⟩) a).chunks) ed.1 (ed.2 n (ca _) u)
    rw[hlen]at this;exact this
   ·simp[HM.go]at e
  ·rename_i q G;have Is:x.isStr=false:=by
    cases ah:x.isStr with
    |false=>rfl
    |true=>rw[ah]at e;simp[HM.go]at e
   rw[Is]at e;simp only[ay]at e;obtain ⟨I,H1,dm,M,V⟩:=HM.go_bind_some e;clear e;obtain ⟨rfl,dE,g1,gC⟩:=Fo M h al fG;obtain ⟨l,ff,ec,a1,bp⟩:=HM.go_bind_some V;clear V;obtain ⟨aw,rfl,rfl⟩:=go_opt a1;obtain ⟨rfl,rfl,rfl⟩:=go_ret bp;have d1:=kM tab E q;have d2:=rV tab ak G;obtain ⟨ae,hu,RS⟩:=ab7 tab E q;have d3:=Gj tab hu RS;obtain ⟨azm,HD⟩:=I;obtain ⟨mf,rfl⟩:=rN aw;simp only at mf;subst mf;refine cG.ghost g1 ((Plain.str _).2 _ _ _) (by simp[K.ids]) ?_;rcases gC with ⟨d,_,_,ah⟩|gC
   ·rw[Is]at ah;cases ah
   ·obtain ⟨A,c,aZ,rfl,hle,af,bg⟩:=gC _ _ rfl;have C0:=abe af;rcases bg with bg |⟨b,o,rfl,fX⟩
    ·have:HD=[]:=kV bg;subst this;cases A with
     |none=>simp[convert,run_underlying d1.1,run_underlying d2,run_underlying d3,Conv.bytesToString,uf,ByteArray.empty,ByteArray.emptyWithCapacity];rfl
     |some a=>simp[convert,run_underlying d1.1,run_underlying d2,run_underlying d3,Conv.bytesToString,loadCells,loadCellsFrom,uf,ByteArray.empty,ByteArray.emptyWithCapacity];rfl
    ·exact run_convert_bytes_arg w S i.elem d1.1 d3 b o HD.length c HD rfl (λk e1=>by
      have:=fX k (.int .u8 (HD.getD k 0)) (by rw[C0];simp only[List.getElem?_map];rw[ac1 (I:=0) e1];rfl)
      exact this) T d2
  ·simp[HM.go]at e
 ·simp[HM.go]at e
theorem ZC [Env] {t:aB}: ∀(parts:List (Nat×K)) (aI:List (Nat×az)) (φ:bL) (xs:List t.den) (cells:Array az) (J:List aG) (n:Nat) (aZ:List t.den) (aA:List aG) (aJ:Nat),(DQ.go t xs parts).go J n=some (aZ,aA,aJ)->cg φ ι w J->
  c2 (bz φ w t) xs cells.toList->qv φ ι w J parts aI->
  aJ=n/\ ∃av mb,fe φ ι w J av aA/\Instr.fill (λi=>some (i*t.size,t.size)) cells aI=some mb/\c2 (bz av w t) aZ mb.toList/\aZ.length=xs.length
 |[],[],φ,xs,cells,J,n,aZ,aA,aJ,e,h,af,_=>by have ei:(HM.ret xs).go J n=some (aZ,aA,aJ):=e;obtain ⟨rfl,rfl,rfl⟩:=go_ret ei;exact ⟨rfl,φ,cells,fe.refl h,rfl,af,rfl⟩
 |[],_::_,_,_,_,_,_,_,_,_,_,_,_,W=>W.elim
 |_::_,[],_,_,_,_,_,_,_,_,_,_,_,W=>W.elim
 |(j,x)::parts,(gg,v)::aI,φ,xs,cells,J,n,aZ,aA,aJ,e,h,af,⟨ak,al,mn,W⟩=>by
  subst ak;unfold DQ.go at e;split at e
  ·rename_i z bI;obtain ⟨y,H1,dm,M,V⟩:=HM.go_bind_some e;clear e;obtain ⟨rfl,dE,g1,bt⟩:=FN M h al mn;have bu:j<xs.length:=by
    rcases Nat.lt_or_ge j xs.length with q |q
    ·exact q
    ·rw[List.getElem?_eq_none q]at bI;cases bI
   have kO:c2 (bz dE w t) xs cells.toList:=af.imp λx c=>bz.mono g1.step.phi g1.step.cells t x c
   have ah:=c2.set (λx c=>bz.len t x c) xs cells.toList kO j y v.cells.toList bu bt.1;have jl:=af.len (λx c=>bz.len t x c);have hle:(j+1)*t.size<=xs.length*t.size:=gV _ bu;rw[Nat.add_mul,Nat.one_mul]at hle;have eL:v.cells.size=t.size:=by have:=bt.1.len;simpa using this
   have qa:=ab1 (place:=λi=>some (i*t.size,t.size)) (i:=j) (rest:=aI) rfl eL (show j*t.size+t.size<=cells.size by rw[<-ix,jl];exact hle);obtain ⟨aO,av,mb,g2,p2,e1,ad⟩:=ZC parts aI dE (xs.set j y) (cells.toList.take (j*t.size)++v.cells.toList++cells.toList.drop (j*t.size+t.size)).toArray H1 dm aZ aA aJ V g1.rel (by simpa using ah) (W.ghost g1);exact ⟨aO,av,mb,g1.trans g2,by rw[qa];exact p2,e1,by rw[ad];simp⟩
  ·simp[HM.go]at e
theorem amv [Env] (tab:cN P cx) {T:bq} {len:Nat} {parts:List (Nat×K)} (e:(DQ cx T len parts).go J n=some (r,aA,aJ)) (h:cg φ ι w J) {aI:Array (Nat×az)} (W:qv φ ι w J parts aI.toList) (ed:jg J n aJ):
  cG φ ι w J n r aA aJ ((Instr.buildSlice T len aI).run P w):=by
 unfold DQ at e;split at e
 ·rename_i i E;split at e
  ·rename_i t aW;have s:=go_bif e;clear e;obtain ⟨L,e⟩:=s;have L:len*t.size<=100000:=by simpa using L
   obtain ⟨aZ,H1,dm,M,V⟩:=HM.go_bind_some e;clear e;simp only[HM.go,bJ,c0]at V;obtain ⟨rfl,rfl,rfl⟩:=V;obtain ⟨ao,gC⟩:=kM tab E aW;obtain ⟨z,bI,C2,afh,nE⟩:=tF gC len;obtain ⟨rfl,dE,mb,g1,p2,af,ad⟩:=ZC parts aI.toList φ (List.replicate len t.zero) ((Array.range (len*t.size)).map λi=>z.cells[i%z.cells.size]!) J n aZ H1 dm M h (nE φ w) W;rw[List.length_replicate]at ad;have kt:=ed.ghost g1;have jl:=af.len (λx c=>bz.len t x c);rw[ad]at jl;have hlen:len<=100000:=Nat.le_trans (Nat.le_mul_of_pos_right _ afh) L;have eU:(Instr.buildSlice T len aI).run P w=.ok (.slice (some ⟨w.heap.size,0,none⟩) len len) (w.alloc (.cells mb i.elem)):=by
    unfold Instr.buildSlice;have atX: ¬(len*t.size>2^24):=u;simp only[Sem.run_bind,run_underlying ao,Result.andThen_ok,yS (w:=w) gC,atX,if_false,Sem.run_pure];by_cases yu:len*t.size=0
    ·have Ix:Array.range 0= #[]:=rfl;rw[yu,Ix]at p2;simp only[List.map_toArray,List.map_nil,Array.map_empty]at p2;simp[yu,Ix,p2,newRow]
    ·simp only[yu,if_false,Sem.run_bind,bI,Result.andThen_ok,Sem.run_pure,p2,newRow,run_newObj_alloc]
   rw[eU];have iY:=ic.alloc w (.cells mb i.elem);have:=uQ (φ:=dE) (ι:=ι) (n:=dm) g1.rel (e:=i.elem) (t:=t) (xs:=aZ) (c:=len) (b:=w.heap.size) iY (heap_alloc_new w _) (ca _) u (by simp only[maxLen];omega) (by rw[<-ix,jl]) (uy _ _) (Cells.of_chunks (af.imp λx c=>bz.mono (λ_ _ h=>h) (λb k L=>iY.cell (kR g1.rel L)) t x c) _)
    (by rw[ad,ia (by rw[jl];exact ca _)];exact af.imp λx c=>bz.mono (λ_ _ h=>h) (λb k L=>iY.cell (kR g1.rel L)) t x c) kt.1 (kt.2 dm (ca _) u)
   rw[ad]at this;exact cG.after g1 this
  ·simp[HM.go]at e
 ·simp[HM.go]at e
end
open Go.RowKit
section
variable {P:cv} {cx:cj} {φ av:bL} {ι aH:Nat->az} {w aq:bk} {J:List aG} {n:Nat} {r:K} {aA:List aG} {aJ:Nat}
theorem arc {ty:bq} {b k:Nat} {d:ByteArray} (L:w.heap[b]? =some (.stringIter d k)) (h: ¬k<d.size):(Instr.next (.pointer (some ⟨b,0,none⟩)) true ty).run P w=.ok (.tuple #[.bool false]) w:=by simp only[Instr.next,getObj,Sem.run_bind,Sem.run,L,Result.andThen,h,if_false];rfl
theorem arv {ty:bq} {b k:Nat} {d:ByteArray} (L:w.heap[b]? =some (.stringIter d k)) (h:k<d.size):(Instr.next (.pointer (some ⟨b,0,none⟩)) true ty).run P w=
  .ok (.tuple #[.bool true,goInt k,.int .i32 (Utf8.decode d k).1]) {w with heap:=w.heap.setIfInBounds b (.stringIter d (k+(Utf8.decode d k).2))}:=by
 simp only[Instr.next,getObj,setObj,Sem.run_bind,Sem.run,L,Result.andThen,h,if_true];rfl
theorem aqh {T:bq} (ao:P.underlying T=some .string) (d:ByteArray):(Instr.range T (.string d)).run P w=.ok (.pointer (some ⟨w.heap.size,0,none⟩)) (w.alloc (.stringIter d 0)):=by simp[Instr.range,run_underlying ao]
theorem acR {l:List K} {v:az} (h: ∃aP,v=.tuple aP/\K.relT φ ι w l aP.toList):(K.tup l).rel φ ι w v:=h
theorem aoz [Env] (tab:cN P cx) {T:bq} {x:K} (e:(O7 cx T x).go J n=some (r,aA,aJ)) (h:cg φ ι w J) {v:az} (al:x.rel φ ι w v) (ed:jg J n aJ):cG φ ι w J n r aA aJ ((Instr.range T v).run P w):=by
 unfold O7 at e;split at e
 ·rename_i d;have s:=go_bif e;clear e;obtain ⟨bW,e⟩:=s;obtain ⟨i,E,aW⟩:=hO bW;have ao:=rV tab E aW;simp only[HM.go,bJ,c0]at e;obtain ⟨rfl,rfl,rfl⟩:=e;obtain rfl:=cF.str.1 al;have g:=ic.alloc w (.stringIter ⟨⟨d⟩⟩ 0);have L:(w.alloc (.stringIter ⟨⟨d⟩⟩ 0)).heap[w.heap.size]? =some (.stringIter ⟨⟨d⟩⟩ 0):=heap_alloc_new w _;obtain ⟨q,G,ab,aE⟩:=Bs (v:=.pointer (some ⟨w.heap.size,0,none⟩)) (dg:=.iter d 0) h ed.1 (ed.2 n (ca _) u) g
   ⟨w.heap.size,0,by simp[eg],L,rfl,λk af=>by have:=kR h af;omega⟩ (by simp[aG.ids]) rfl
   (λb L=>by
           have:w.heap.size=b:=by simpa [dM] using L
           omega)
  refine ⟨_,_,φ,_,aqh ao _,q,G,ab,aE,xj ⟨w.heap.size,0,.inr ⟨by simp[eg],rfl,rfl⟩,by simp[aB.offAt],by simp[aB.at_]⟩,?_⟩
  ·intro i E;have:i=n:=by simpa [K.ids] using E
   subst this;rw[gL J i _ i ed.1,if_pos rfl];rfl
 ·simp[HM.go]at e
theorem aps [Env] {ty:bq} {x:K} (e:(PD x).go J n=some (r,aA,aJ)) (h:cg φ ι w J) {v:az} (al:x.rel φ ι w v) (fG: ∀i∈x.ids,(aF J i).live=true):cG φ ι w J n r aA aJ ((Instr.next v true ty).run P w):=by
 unfold PD at e;split at e
 ·rename_i o;simp only[HM.go]at e;split at e
  ·rename_i d pos W;have cq:=h.obj o;rw[W]at cq;obtain ⟨b,k,M,L,rfl,kx⟩:=cq;obtain ⟨bX,bd,ID,rfl,-⟩:=al;have pZ:bX=b/\bd=0:=by
    rcases ID with ⟨azV,c,q,_⟩|⟨q,_,G⟩
    ·rw[M]at q;cases q
    ·rw[M]at q;injection q with q;injection q with q;injection q with q;exact ⟨q.symm,G⟩
   obtain ⟨rfl,rfl⟩:=pZ;have jS:dM (ι o)=some bX:=by rw[M];rfl
   have ea:(⟨⟨d⟩⟩:ByteArray).size=d.length:=rfl;have ae6:(0+0*aB.size .unit+aB.offAt .unit []:Nat)=0:=rfl;cases bu:decide ((k:Int)<(d.length:Int))
   ·simp only[bu,HM.go,ay,bJ,c0]at e;obtain ⟨rfl,rfl,rfl⟩:=e;have CF: ¬k<d.length:=by have:=of_decide_eq_false bu;omega
    refine cG.pure (r:=.tup [.dat .bool false]) (v:=.tuple #[.bool false]) h (acR ⟨#[.bool false],rfl,_,_,rfl,h2 (cF.bool.2 rfl),rfl⟩) (by simp[K.ids,K.idsL]) ?_;rw[ae6];exact arc L (by rw[ea];exact CF)
   ·simp only[bu,HM.go,an,bJ,c0]at e;obtain ⟨rfl,rfl,rfl⟩:=e;have CF:k<d.length:=by have:=of_decide_eq_true bu;omega
    have avh:bX<w.heap.size:=(kU.1 L).1;have eU:=arv (P:=P) (ty:=ty) L (by rw[ea];exact CF);have gY:jh w {w with heap:=w.heap.setIfInBounds bX (.stringIter ⟨⟨d⟩⟩ (k+(Utf8.decode ⟨⟨d⟩⟩ k).2))} bX:=
     ⟨rfl,rfl,rfl,aU,λj ak=>by simp[Array.getElem?_setIfInBounds_ne (Ne.symm ak)]⟩
    have dB:jz φ ι {w with heap:=w.heap.setIfInBounds bX (.stringIter ⟨⟨d⟩⟩ (k+(Utf8.decode ⟨⟨d⟩⟩ k).2))} o (.iter d ((k:Int)+(oS d (k:Int)).2)):=
     ⟨bX,k+(Utf8.decode ⟨⟨d⟩⟩ k).2,M,by simp[avh],by simp[oS],kx⟩
    obtain ⟨jW,pB,rT,D1⟩:=Br (n:=n) (dg:=.iter d ((k:Int)+(oS d (k:Int)).2)) h (by rw[W];rfl) jS gY kx dB (by simp[aG.ids]) rfl;rw[ae6];exact ⟨_,_,φ,ι,eU,jW,pB,rT,D1,acR ⟨_,rfl,_,_,rfl,h2 (cF.bool.2 rfl),_,_,rfl,h2 (cF.int.2 rfl),_,_,rfl,h2 (cF.int.2 (by simp[oS])),rfl⟩,by simp[K.ids,K.idsL]⟩
  ·simp[HM.go]at e
 ·simp[HM.go]at e
end
open Go.RowKit
def u2 (φ:bL) (ι:Nat->az) (w:bk) (J:List aG) (db:Operand->K) (ρ:Operand->az):Prop:= ∀x,(db x).rel φ ι w (ρ x)/\ ∀i∈(db x).ids,(aF J i).live=true
abbrev e9 (ro:Option Nat):Fence:={fn:=λ_=>True,depth:=none,alive:=false,round:=ro}
theorem Oj {P:cv} {f:FuncId} {args:Array az} {w:bk} {R:Ending->bk->Prop} (ro:Option Nat) (h:Calls P f args w R):CallsIn (e9 ro) 0 P f args w R:=(callsIn_wide (n:=0)).2 h
theorem uL {P:cv} {o:Oper} {a:Act} {w:bk} {ro:Option Nat} {next:Act->bk->Prop} {bA:Exit->Act->bk->Prop} (dK: ∀c,o.op≠ .defer c)
  (h:o.uponIn (e9 ro) 0 P a next bA ((execOp a.eval o).run P w)):o.wpIn (e9 ro) 0 P a w next bA:=⟨λ_ _=>trivial,by rw[Oper.semAt_eq _ _ _ dK];exact h⟩
def gk [Env] (P:cv) (o:Oper) (a:Act) (φ:bL) (ι:Nat->az) (w:bk) (J:List aG) (n:Nat) (r:K) (aA:List aG) (aJ:Nat):Prop:=
 ∀(ro:Option Nat) (next:Act->bk->Prop) (bA:Exit->Act->bk->Prop),(∀v aq av aH,cg av aH aq aA->Step φ ι w J av aH aq aA->eo ι J aH aA->iW J n aA aJ->r.rel av aH aq v->(∀i∈r.ids,(aF aA i).live=true)->next (a.put o.dst v) aq)->o.wpIn (e9 ro) 0 P a w next bA
def wG (P:cv) (f:FuncId) (aP:Array az) (w:bk) (R:Ending->bk->Prop):Prop:=
 ((callFunc f aP).run P w=.ok (.enter f aP) w/\Calls P f aP w R)\/ ∃v aq,(callFunc f aP).run P w=.ok (.value v) aq/\R (.returned v) aq
theorem wG.mono {P:cv} {f:FuncId} {aP:Array az} {w:bk} {R eQ:Ending->bk->Prop} (h:wG P f aP w R) (ar: ∀e aq,R e aq->eQ e aq):wG P f aP w eQ:=
 h.imp (λ⟨a,b⟩=>⟨a,Calls.mono b ar⟩) λ⟨v,aq,a,b⟩=>⟨v,aq,a,ar _ _ b⟩
theorem asg {P:cv} {f:FuncId} {aP:Array az} {w:bk} {R:Ending->bk->Prop} (h: ∃fn,P.funcs[f]? =some fn/\(fn.name== "runtime.NumGoroutine")=false/\fn.body.isNone=false) (aw:Calls P f aP w R):wG P f aP w R:=by
 obtain ⟨fn,Re,Ig,Cv⟩:=h;refine .inl ⟨?_,aw⟩;unfold callFunc;have Cw: ¬fn.name= "runtime.NumGoroutine":=by simpa using Ig
 have Rf: ¬fn.body=none:=by intro bY;rw[bY]at Cv;cases Cv
 simp[Re,Cw,Rf]
def jX [Env] (P:cv) (f:FuncId) (aP:Array az) (w:bk) (R:Ending->bk->Prop):Prop:=match Env.code f with
 |none=>wG P f aP w R
 |some _=> ∃l,aP[0]? =some (.func (.yield l) #[] #[])/\YieldAt (e9 none) 0 P l (aP.extract 1 aP.size) w R
theorem jX.mono [Env] {P:cv} {f:FuncId} {aP:Array az} {w:bk} {R eQ:Ending->bk->Prop} (h:jX P f aP w R) (ar: ∀e aq,R e aq->eQ e aq):jX P f aP w eQ:=by
 unfold jX at h ⊢;split at h
 ·exact h.mono ar
 ·obtain ⟨l,q,fn,tmps,assign,body,G,ab⟩:=h;exact ⟨l,q,fn,tmps,assign,body,G,ab.mono ar⟩
theorem jX.call [Env] {P:cv} {f:FuncId} {aP:Array az} {w:bk} {R:Ending->bk->Prop} (aM:jv f=false):jX P f aP w R↔wG P f aP w R:=by
 unfold jv at aM;unfold jX;cases h:Env.code f with
 |none=>exact Iff.rfl
 |some c=>rw[h]at aM;cases aM
theorem jX.round [Env] {P:cv} {f:FuncId} {aP:Array az} {w:bk} {R:Ending->bk->Prop} (aM:jv f=true):jX P f aP w R↔ ∃l,aP[0]? =some (.func (.yield l) #[] #[])/\YieldAt (e9 none) 0 P l (aP.extract 1 aP.size) w R:=by
 unfold jv at aM;unfold jX;cases h:Env.code f with
 |none=>rw[h]at aM;cases aM
 |some c=>exact Iff.rfl
def kk [Env] (P:cv) (f:FuncId) (args:List K) (J:List aG) (r:K) (aA:List aG):Prop:=
 (∃fn,P.funcs[f]? =some fn/\(fn.name== "runtime.NumGoroutine")=false/\fn.body.isNone=false)/\
 ∀(φ:bL) (ι:Nat->az) (w:bk) (aP:Array az),cg φ ι w J->(∀i,i<J.length->(aF J i).live=true)->K.relT φ ι w args aP.toList->(∀i∈K.idsL args,(aF J i).live=true)->
  Calls P f aP w λe aq=> ∃v av aH,e=.returned v/\cg av aH aq aA/\Step φ ι w J av aH aq aA/\eo ι J aH aA/\r.rel av aH aq v/\(∀i∈r.ids,(aF aA i).live=true)
def wH [Env] (P:cv) (f:FuncId) (args:List K) (J:List aG) (r:K) (aA:List aG):Prop:=
 ∀(φ:bL) (ι:Nat->az) (w:bk) (aP:Array az),cg φ ι w J->(∀i,i<J.length->(aF J i).live=true)->K.relT φ ι w args aP.toList->(∀i∈K.idsL args,(aF J i).live=true)->
  jX P f aP w λe aq=> ∃v av aH,e=.returned v/\cg av aH aq aA/\Step φ ι w J av aH aq aA/\eo ι J aH aA/\r.rel av aH aq v/\(∀i∈r.ids,(aF aA i).live=true)
theorem kk.x [Env] {P:cv} {f:FuncId} {args:List K} {J:List aG} {r:K} {aA:List aG} (aM:jv f=false) (h:kk P f args J r aA):wH P f args J r aA:=fun φ ι w aP q G ab aE=>(jX.call aM).2 (asg h.1 (h.2 φ ι w aP q G ab aE))
def cc [Env] (P:cv) (Γ:hM):Prop:= ∀f args J r aA,(Γ f args J).val=some (r,aA)->wH P f args J r aA
section
variable {P:cv} {cx:cj} {φ:bL} {ι:Nat->az} {w:bk} {J:List aG} {n:Nat} {r:K} {aA:List aG} {aJ:Nat} {o:Oper} {a:Act} {db:Operand->K}
theorem gk.of_yld [Env] (dK: ∀c,o.op≠ .defer c) {d:Sem az} (y:cG φ ι w J n r aA aJ (d.run P w)) (he:execOp a.eval o=(do pure (.value (<-d)):Sem Next)):gk P o a φ ι w J n r aA aJ:=by intro ro next bA k;obtain ⟨v,aq,av,aH,e,q,G,ab,aE,bf,bF⟩:=y;refine uL dK ?_;rw[he];simp only[Sem.run_bind,e,Result.andThen_ok,Sem.run_pure,Oper.uponIn_value];exact k v aq av aH q G ab aE bf bF
theorem gk.of_pure [Env] (dK: ∀c,o.op≠ .defer c) {v:az} (h:cg φ ι w J) (ar:r.rel φ ι w v) (rD: ∀i∈r.ids,(aF J i).live=true) (he:execOp a.eval o=(pure (.value v):Sem Next)):gk P o a φ ι w J n r J n:=by intro ro next bA k;refine uL dK ?_;rw[he];simp only[Sem.run_pure,Oper.uponIn_value];exact k v w φ ι h (Step.refl _ _ _ _) (eo.refl _ _) (iW.refl _ _) ar rD
theorem Aq {x:K} {i:Int} {v:az} (h:uU x=some i) (al:x.rel φ ι w v): ∃k,v=.int k i:=by
 unfold uU at h;split at h
 ·rename_i k a;obtain rfl:=eW h;exact ⟨k,cF.int.1 al⟩
 ·cases h
theorem NQ {x:K} {b:Bool} {v:az} (h:mB x=some b) (al:x.rel φ ι w v):v=.bool b:=by
 unfold mB at h;split at h
 ·obtain rfl:=eW h;exact cF.bool.1 al
 ·cases h
theorem OJ {x:Option Operand} {m:Option Int} (dd:u2 φ ι w J db a.eval) (h:xF (x.map db)=some m):n9 (x.map a.eval) m:=by
 cases x with
 |none=>
  simp only[Option.map_none,xF,bJ]at h;subst h;trivial
 |some y=>
  simp only[Option.map_some,xF,h9]at h;obtain ⟨i,E,rfl⟩:=h;obtain ⟨k,af⟩:=Aq E (dd y).1;exact ⟨k,af⟩
theorem PF (dd:u2 φ ι w J db a.eval): ∀(l:List (Nat×Operand)),qv φ ι w J (l.map λp=>(p.1,db p.2)) (l.map λp=>(p.1,a.eval p.2))
 |[]=>trivial
 |p::l=>⟨rfl,(dd p.2).1,(dd p.2).2,PF dd l⟩
theorem uM (dd:u2 φ ι w J db a.eval): ∀(l:List Operand),K.relT φ ι w (l.map db) (l.map a.eval)
 |[]=>rfl
 |p::l=>⟨_,_,rfl,(dd p).1,uM dd l⟩
theorem uB (dd:u2 φ ι w J db a.eval): ∀(l:List Operand),∀i∈K.idsL (l.map db),(aF J i).live=true
 |[],i,h=>by simp[K.idsL]at h
 |p::l,i,h=>by
  simp only[List.map_cons,K.idsL,dp]at h;rcases h with h |h
  ·exact (dd p).2 i h
  ·exact uB dd l i h
theorem U8 {f:FuncId} {l m:List K} {v:az} (h: ∃x y,v=.func (.func f) x y/\K.relT φ ι w l x.toList/\K.relT φ ι w m y.toList):(K.fn f l m).rel φ ι w v:=h
theorem as3 {T:bq} {x:K} {v:az} (h: ∃ae,v=.iface T ae/\x.rel φ ι w ae):(K.iface T x).rel φ ι w v:=h
theorem A1: ∀(hE:List bq) (l:List K) (aP:List az),K.relT φ ι w l aP->K.relT φ ι w (je cx hE l) aP
 |[],_,_,h=>by unfold je;exact h
 |_::_,[],_,h=>by unfold je;exact h
 |T::hE,r::l,_,⟨v,m,e,q,G⟩=>⟨v,m,e,xl q,A1 hE l m G⟩
theorem A0: ∀(hE:List bq) (l:List K),∀i∈K.idsL (je cx hE l),i∈K.idsL l
 |[],_,i,h=>by unfold je at h;exact h
 |_::_,[],i,h=>by unfold je at h;exact h
 |T::hE,r::l,i,h=>by
  simp only[je,K.idsL,dp]at h ⊢;rcases h with h |h
  ·exact .inl (xk i h)
  ·exact .inr (A0 hE l i h)
theorem ue: ∀{l:List K} {aP:List az} {j:Nat} {x:K},K.relT φ ι w l aP->l[j]? =some x-> ∃v,aP[j]? =some v/\x.rel φ ι w v
 |[],_,j,x,_,h=>by simp at h
 |y::l,_,0,x,⟨v,m,e,q,G⟩,h=>by
  subst e;obtain rfl:y=x:=by simpa using h
  exact ⟨v,aU,q⟩
 |y::l,_,j+1,x,⟨v,m,e,q,G⟩,h=>by subst e;obtain ⟨ae,ab,aE⟩:=ue G (by simpa using h:l[j]? =some x);exact ⟨ae,by simpa using ab,aE⟩
theorem tZ: ∀{l:List K} {j:Nat} {x:K},l[j]? =some x-> ∀i∈x.ids,i∈K.idsL l
 |[],j,x,h=>by simp at h
 |y::l,0,x,h=>by
  obtain rfl:y=x:=by simpa using h
  intro i E;simp only[K.idsL,dp];exact .inl E
 |y::l,j+1,x,h=>by intro i E;simp only[K.idsL,dp];exact .inr (tZ (by simpa using h) i E)
theorem aqn [Env] (tab:cN P cx) {T ty:bq} {x:K} {v:az} (e:(PS cx T x).go J n=some (r,aA,aJ)) (h:cg φ ι w J) (al:x.rel φ ι w v):cG φ ι w J n r aA aJ ((Builtin.cap_ #[T] ty #[v]).run P w):=by
 have key: ∀{t:aB} {A:Option Addr} {m c:Nat},cx.isTy T (.list t)=true->(Builtin.cap_ #[T] ty #[.slice A m c]).run P w=.ok (.int .i64 (c:Int)) w:=by intro t A m c bW;obtain ⟨i,E,aW⟩:=hO bW;have ao:=(kM tab E aW).1;simp[Builtin.cap_,run_underlying ao,goInt]
 unfold PS at e;split at e
 ·have s:=go_bif e;clear e;obtain ⟨bW,e⟩:=s;obtain ⟨rfl,rfl,rfl⟩:=go_ret e;simp only[K.rel]at al;subst al;exact cG.pure (r:=.dat (.int .i64) (0:Int)) (v:=.int .i64 0) h (h2 (cF.int.2 rfl)) (by simp[K.ids]) (key bW)
 ·have s:=go_bif e;clear e;obtain ⟨bW,e⟩:=s;obtain ⟨rfl,rfl,rfl⟩:=go_ret e;obtain ⟨A,m,rfl,o8⟩:=al;obtain ⟨jx,cV,ba,M,ad,-⟩:=o8;injection M with M _
  obtain ⟨rfl,rfl,rfl⟩:=iO M;rw[ad];exact cG.pure (r:=.dat (.int .i64) (m:Int)) (v:=.int .i64 (m:Int)) h (h2 (cF.int.2 rfl)) (by simp[K.ids]) (key bW)
 ·rename_i t o;have s:=go_bif e;clear e;obtain ⟨bW,e⟩:=s;simp only[HM.go]at e;split at e
  ·rename_i cl ae xs fz W;obtain ⟨rfl,rfl,rfl⟩:=go_ret e;obtain ⟨kL,iE,-⟩:=oM W;have cq:=h.obj o;rw[iE]at cq;obtain ⟨A,m,c,M,V,a1,_⟩:=cq;obtain ⟨rfl,_⟩:=al;rw[M];exact cG.pure (r:=.atl xs.length) (v:=.int .i64 (c:Int)) h ⟨c,rfl,u⟩ (by simp[K.ids]) (key bW)
  ·simp[HM.go]at e
 ·rename_i t o aQ E;have s:=go_bif e;clear e;obtain ⟨bW,e⟩:=s;simp only[HM.go]at e;split at e
  ·rename_i cl ae xs fz W;obtain ⟨rfl,rfl,rfl⟩:=go_ret e;obtain ⟨kL,iE,-⟩:=oM W;have cq:=h.obj o;rw[iE]at cq;obtain ⟨A,m,c,M,V,a1,_⟩:=cq;obtain ⟨jx,cV,ba,dh,bp,_,_,_,rfl,_⟩:=al;rw[M]at bp;obtain ⟨rfl,rfl,rfl⟩:=iO bp;exact cG.pure (r:=.atl (xs.length-aQ)) (v:=.int .i64 ((c-aQ:Nat):Int)) h ⟨c-aQ,rfl,u⟩ (by simp[K.ids]) (key bW)
  ·simp[HM.go]at e
 ·simp[HM.go]at e
theorem am7 [Env] (tab:cN P cx) {b:Builtin} {hE:Array bq} {ty:bq} {cs:Array Bool} {args:List K} {aP:Array az} (e:(Oi cx b hE.toList args).go J n=some (r,aA,aJ)) (h:cg φ ι w J)
  (aV:K.relT φ ι w args aP.toList) (jG: ∀i∈K.idsL args,(aF J i).live=true) (ed:jg J n aJ):
  ∃d:Sem az,builtin b hE ty cs aP=(do pure (.value (<-d)):Sem Next)/\cG φ ι w J n r aA aJ (d.run P w):=by
 unfold Oi at e;split at e
 ·rename_i T x bW;obtain ⟨v,m,a8,al,hm⟩:=aV;simp only[K.relT]at hm;subst hm;have mh:hE= #[T]:=by cases hE;simp at bW;simp[bW]
  have eL:aP= #[v]:=by cases aP;simp at a8;simp[a8]
  subst mh eL;exact ⟨_,rfl,aqs tab e h al⟩
 ·rename_i T dX d x bW;obtain ⟨v,m,a8,al,v2,cV,hm,pf,ja⟩:=aV;simp only[K.relT]at ja;subst ja hm;have mh:hE= #[T,dX]:=by cases hE;simp at bW;simp[bW]
  have eL:aP= #[v,v2]:=by cases aP;simp at a8;simp[a8]
  subst mh eL;exact ⟨_,rfl,an7 tab e h al pf (λi E=>jG i (by simp[K.idsL,E])) (λi E=>jG i (by simp[K.idsL,E])) ed⟩
 ·rename_i aiC x l;obtain ⟨v,m,a8,al,hm⟩:=aV;refine ⟨_,rfl,?_⟩;have s:=Kh (P:=P) l x m v r e hm al (λi E=>jG i (by simp[K.idsL,E]));clear e;obtain ⟨q,G,ae,hu,ar,rD⟩:=s;subst q G;refine cG.pure (r:=r) (v:=ae) h ar rD ?_;simp only[Bool.false_eq_true,if_false]at hu;unfold Builtin.min_;rw[a8];exact hu
 ·rename_i aiC x l;obtain ⟨v,m,a8,al,hm⟩:=aV;refine ⟨_,rfl,?_⟩;have s:=Kh (P:=P) l x m v r e hm al (λi E=>jG i (by simp[K.idsL,E]));clear e;obtain ⟨q,G,ae,hu,ar,rD⟩:=s;subst q G;refine cG.pure (r:=r) (v:=ae) h ar rD ?_;simp only[if_true]at hu;unfold Builtin.max_;rw[a8];exact hu
 ·rename_i T x bW;obtain ⟨v,m,a8,al,hm⟩:=aV;simp only[K.relT]at hm;subst hm;have mh:hE= #[T]:=by cases hE;simp at bW;simp[bW]
  have eL:aP= #[v]:=by cases aP;simp at a8;simp[a8]
  subst eL;have s:=go_bif e;clear e;obtain ⟨lk,e⟩:=s;obtain ⟨I,ao,-⟩:=acV tab lk;exact ⟨_,rfl,aol tab mh e h al ⟨I,ao⟩⟩
 ·rename_i T dX d x bW;obtain ⟨v,m,a8,al,v2,cV,hm,pf,ja⟩:=aV;simp only[K.relT]at ja;subst ja hm;have mh:hE= #[T,dX]:=by cases hE;simp at bW;simp[bW]
  have eL:aP= #[v,v2]:=by cases aP;simp at a8;simp[a8]
  subst mh eL;have s:=go_bif e;clear e;obtain ⟨lk,e⟩:=s;exact ⟨_,rfl,apl tab e h al pf (λi E=>jG i (by simp[K.idsL,E])) (λi E=>jG i (by simp[K.idsL,E]))⟩
 ·rename_i T x bW;obtain ⟨v,m,a8,al,hm⟩:=aV;simp only[K.relT]at hm;subst hm;have mh:hE= #[T]:=by cases hE;simp at bW;simp[bW]
  have eL:aP= #[v]:=by cases aP;simp at a8;simp[a8]
  subst mh eL;exact ⟨_,rfl,aqn tab e h al⟩
 ·simp[HM.go]at e
theorem ajk [Env] {T:bq} {x y:Operand} (ar:r=.undef) (Tw: ∃aq av aH,(Instr.storeAt T (a.eval x) (a.eval y)).run P w=.ok () aq/\cg av aH aq aA/\Step φ ι w J av aH aq aA/\eo ι J aH aA/\iW J n aA aJ) (W:o.op=.store T x y):
  gk P o a φ ι w J n r aA aJ:=by
 subst ar;intro ro next bA k;obtain ⟨aq,av,aH,e,q,G,ab,aE⟩:=Tw;refine uL (λc aw=>by rw[W]at aw;cases aw) ?_;unfold execOp;simp only[W,Sem.run_bind,e,Result.andThen_ok,Sem.run_pure,Oper.uponIn_value];exact k undef aq av aH q G ab aE trivial (by simp[K.ids])
theorem aro [Env] (tab:cN P cx) {Γ:hM} (Cn: ∀c x g l m,o.op=.call c->c.callee=.value x->db x=.fn g l m->jv g=false->(rY cx Γ g (l++je cx c.argTypes.toList (c.args.toList.map db)++m)).go J n=some (r,aA,aJ)->gk P o a φ ι w J n r aA aJ)
  (hinv: ∀c x nm T ag i f,o.op=.call c->c.callee=.invoke x nm->db x=.iface T ag->cx.ti T=some i->vV i.meths nm=some f->jv f=false->(rY cx Γ f (ag::je cx c.argTypes.toList (c.args.toList.map db))).go J n=some (r,aA,aJ)->gk P o a φ ι w J n r aA aJ)
  (awc: ∀c x Y fH,o.op=.call c->c.callee=.value x->db x=.yld Y fH->jv Y=true->(rY cx Γ Y (.yld Y fH::je cx c.argTypes.toList (c.args.toList.map db))).go J n=some (r,aA,aJ)->gk P o a φ ι w J n r aA aJ)
  (e:(nu cx Γ o db).go J n=some (r,aA,aJ)) (h:cg φ ι w J) (dd:u2 φ ι w J db a.eval) (ed:jg J n aJ):gk P o a φ ι w J n r aA aJ:=by
 have dK: ∀c,o.op≠ .defer c:=λc aw=>by unfold nu at e;rw[aw]at e;simp[HM.go]at e
 unfold nu at e;split at e
 ·rename_i x W;obtain ⟨rfl,rfl,rfl⟩:=go_ret e;exact gk.of_pure dK h (xl (dd x).1) (λi E=>(dd x).2 i (xk i E)) (by simp[execOp,W])
 ·rename_i x W;obtain ⟨rfl,rfl,rfl⟩:=go_ret e;exact gk.of_pure dK h (xl (dd x).1) (λi E=>(dd x).2 i (xk i E)) (by simp[execOp,W])
 ·rename_i c x y W;split at e
  ·rename_i t aW;have aw:=NQ aW (dd c).1;cases t
   ·simp only[HM.go,ay]at e;obtain ⟨rfl,rfl,rfl⟩:=go_ret e;refine gk.of_yld dK (d:=pure (a.eval y)) (cG.pure h (dd y).1 (dd y).2 rfl) ?_;simp[execOp,W,aw,asBool]
   ·simp only[HM.go,an]at e;obtain ⟨rfl,rfl,rfl⟩:=go_ret e;refine gk.of_yld dK (d:=pure (a.eval x)) (cG.pure h (dd x).1 (dd x).2 rfl) ?_;simp[execOp,W,aw,asBool]
  ·simp[HM.go]at e
 ·rename_i T W;exact gk.of_yld dK (aot tab e h ed) (by simp[execOp,W])
 ·rename_i T x W;exact gk.of_yld dK (aau tab e h (dd x).1 (dd x).2 ed) (by simp[execOp,W])
 ·rename_i T ps W;have M:(ps.map λp=>(p.1,a.eval p.2)).toList=ps.toList.map λp=>(p.1,a.eval p.2):=aU
  exact gk.of_yld dK (aok tab e h (aI:=ps.map λp=>(p.1,a.eval p.2)) (by rw[M];exact PF dd _)) (by simp[execOp,W])
 ·rename_i T m ps W;have M:(ps.map λp=>(p.1,a.eval p.2)).toList=ps.toList.map λp=>(p.1,a.eval p.2):=aU
  exact gk.of_yld dK (amv tab e h (aI:=ps.map λp=>(p.1,a.eval p.2)) (by rw[M];exact PF dd _) ed) (by simp[execOp,W])
 ·rename_i T x W;exact gk.of_yld dK (apo tab e h (dd x).1) (by simp[execOp,W])
 ·rename_i T x y W;obtain ⟨ar,Tw⟩:=apC tab e h (dd x).1 (xl (dd y).1) (dd x).2 (λi E=>(dd y).2 i (xk i E));exact ajk ar Tw W
 ·rename_i x W;have al:=dd x;split at e
  ·rename_i dV t i p aT;obtain ⟨rfl,rfl,rfl⟩:=go_ret e;rw[aT]at al;have oG:=al.1;obtain ⟨b,k,-,a8,-⟩:=oG;exact gk.of_pure dK h al.1 al.2 (by simp[execOp,W,a8])
  ·rename_i t y aT;obtain ⟨rfl,rfl,rfl⟩:=go_ret e;rw[aT]at al;have oG:=al.1;obtain ⟨b,i,cs,a8,-⟩:=oG;exact gk.of_pure dK h al.1 al.2 (by simp[execOp,W,a8])
  ·simp[HM.go]at e
 ·rename_i b T x y z W;cases aO:PK y
  case true=>
   rw[aO,an]at e;obtain rfl:y=.const .nilIface:=by
    unfold PK at aO;split at aO
    ·rfl
    ·cases aO
   exact gk.of_yld dK (aqS tab e h (dd x).1 (dd x).2 x .nilIface) (by simp[execOp,W,Act.eval])
  case false=>
   rw[aO,ay]at e;exact gk.of_yld dK (aqk tab e h (dd x).1 (dd y).1 (dd x).2 (dd y).2 x y) (by simp[execOp,W])
 ·rename_i b T x W;exact gk.of_yld dK (asc e h (dd x).1) (by simp[execOp,W])
 ·rename_i S T x W;exact gk.of_yld dK (apk tab e h (dd x).1 (dd x).2 ed) (by simp[execOp,W])
 ·rename_i f l m W;obtain ⟨rfl,rfl,rfl⟩:=go_ret e;refine gk.of_yld dK (d:=Instr.makeFunc (.func f) (l.map a.eval) (m.map a.eval)) (cG.pure (v:=.func (.func f) (l.map a.eval) (m.map a.eval)) h (U8 ⟨_,_,rfl,?_,?_⟩) ?_ ?_) (by simp[execOp,W])
  ·simpa using uM dd l.toList
  ·simpa using uM dd m.toList
  ·intro i E;simp only[K.ids,dp]at E;rcases E with E |E
   ·exact uB dd _ i E
   ·exact uB dd _ i E
  ·simp[Instr.makeFunc]
 ·rename_i T x W;split at e
  ·rename_i i E;cases aN:decide (i.ty=.opq)
   ·simp only[aN,ay]at e;obtain ⟨rfl,rfl,rfl⟩:=go_ret e;refine gk.of_yld dK (d:=Instr.makeInterface T (a.eval x)) (cG.pure (v:=.iface T (a.eval x)) h (as3 ⟨_,rfl,(dd x).1⟩) (dd x).2 ?_) (by simp[execOp,W]);have ao:=(tab T i E).desc;have aN:i.ty≠ .opq:=by simpa using aN
    unfold k6 at ao;split at ao
    ·simp[Instr.makeInterface,run_underlying ao]
    ·simp[Instr.makeInterface,run_underlying ao]
    ·simp[Instr.makeInterface,run_underlying ao]
    ·simp[Instr.makeInterface,run_underlying ao.1]
    ·rename_i e;exact absurd e aN
    ·rcases ao with ⟨_,dx,ao,_⟩|⟨_,n,e,dO,ao,_⟩<;>simp[Instr.makeInterface,run_underlying ao]
   ·simp[aN,HM.go]at e
  ·simp[HM.go]at e
 ·rename_i T x y W;split at e
  ·rename_i i j E ak;obtain ⟨bd,q⟩:=Aq E (dd x).1;obtain ⟨a6,G⟩:=Aq ak (dd y).1;refine gk.of_yld dK (d:=Instr.makeSlice T (a.eval x) (a.eval y)) ?_ (by simp[execOp,W]);rw[q,G];exact amL tab e h ed
  ·simp[HM.go]at e
 ·rename_i T x aQ E fQ W;split at e
  ·rename_i l cB m q G ab;exact gk.of_yld dK (apy tab e h (dd x).1 (dd x).2 (OJ dd q) (OJ dd G) (OJ dd ab)) (by simp[execOp,W])
  ·simp[HM.go]at e
 ·rename_i T x f W;exact gk.of_yld dK (amG tab e h (dd x).1 (dd x).2) (by simp[execOp,W])
 ·rename_i T x f W;exact gk.of_yld dK (aoo tab e h (dd x).1 (dd x).2) (by simp[execOp,W])
 ·rename_i T x y W;split at e
  ·rename_i i E;obtain ⟨k,af⟩:=Aq E (dd y).1;refine gk.of_yld dK (d:=Instr.indexAt T (a.eval x) (a.eval y)) ?_ (by simp[execOp,W]);rw[af];exact amH tab e h (dd x).1 (dd x).2 k
  ·simp[HM.go]at e
 ·rename_i T x y W;split at e
  ·rename_i i E;obtain ⟨k,af⟩:=Aq E (dd y).1;refine gk.of_yld dK (d:=Instr.index T (a.eval x) (a.eval y)) ?_ (by simp[execOp,W]);rw[af];exact aoY tab e h (dd x).1 k
  ·simp[HM.go]at e
 ·rename_i T x W;exact gk.of_yld dK (aoz tab e h (dd x).1 ed) (by simp[execOp,W])
 ·rename_i x b W;cases b
  ·simp[HM.go]at e
  ·exact gk.of_yld dK (aps (ty:=o.type) e h (dd x).1 (dd x).2) (by simp[execOp,W])
 ·rename_i x j W;have al:=dd x;split at e
  ·rename_i l ad;rw[ad]at al;obtain ⟨oG,pf⟩:=al;obtain ⟨aP,a8,ar⟩:=oG;obtain ⟨bt,rfl,rfl⟩:=go_opt e;obtain ⟨ae,hu,RI⟩:=ue ar bt;refine gk.of_yld dK (d:=Instr.extract (a.eval x) j) (cG.pure (v:=ae) h RI (λi E=>pf i (tZ bt i E)) ?_) (by simp[execOp,W]);rw[a8];have nL:aP[j]? =some ae:=by simpa using hu
   simp[Instr.extract,nL]
  ·simp[HM.go]at e
 ·rename_i c W;split at e
  ·rename_i b L;obtain ⟨d,ah,y⟩:=am7 tab (ty:=o.type) (cs:=c.args.map fun | .const _=>true |_=>false) (aP:=c.args.map a.eval) e h (by simpa using A1 (cx:=cx) c.argTypes.toList _ _ (uM dd c.args.toList)) (λi E=>uB dd c.args.toList i (A0 _ _ i E)) ed;refine gk.of_yld dK y ?_;simp only[execOp,W,resolve,L,pure_bind,invoke];exact ah
  ·rename_i x al;split at e
   ·rename_i g l m bC;cases ar:jv g
    ·rw[ar,ay]at e;exact Cn c x g l m W al bC ar e
    ·simp[ar,HM.go]at e
   ·rename_i Y fH bt;cases ar:jv Y
    ·simp[ar,HM.go]at e
    ·rw[ar,an]at e;exact awc c x Y fH W al bt ar e
   ·simp[HM.go]at e
  ·rename_i x nm al;split at e
   ·rename_i T ag CP;split at e
    ·rename_i i E;split at e
     ·rename_i f aM;cases ar:jv f
      ·rw[ar,ay]at e;exact hinv c x nm T ag i f W al CP E aM ar e
      ·simp[ar,HM.go]at e
     ·simp[HM.go]at e
    ·simp[HM.go]at e
   ·simp[HM.go]at e
 ·simp[HM.go]at e
end
open Go.RowKit
theorem A4 {l:List Nat} {o:Nat}:has l o=true↔o∈l:=by
 induction l with
 |nil=>simp[has]
 |cons a l aR=>
  have:(has (a::l) o=true)=((Nat.beq a o||has l o)=true):=rfl;rw[this,Bool.or_eq_true,aR,e7,Nat.beq_eq];exact ⟨λh=>h.imp Eq.symm id,λh=>h.imp Eq.symm id⟩
theorem akZ (l:List Nat) (o:Nat): ∀n,idx.go o l n=n+idx.go o l 0:=by
 induction l with
 |nil=>intro n;simp[idx.go]
 |cons a l aR=>
  intro n;simp only[idx.go];cases Nat.beq a o
  ·simp only[ay];rw[aR (n+1),aR (0+1)];omega
  ·simp
theorem aiL (a:Nat) (l:List Nat) (o:Nat):idx (a::l) o=bif Nat.beq a o then 0 else idx l o+1:=by
 unfold idx;simp only[idx.go];cases Nat.beq a o
 ·simp only[ay];rw[akZ];omega
 ·rfl
theorem rZ {l:List Nat} {o:Nat} (h:o∈l):l[idx l o]? =some o:=by
 induction l with
 |nil=>cases h
 |cons a l aR=>
  rw[aiL];cases L:Nat.beq a o
  ·have cw:o≠a:=by rintro rfl;simp at L
   simpa using aR (by simpa [cw] using h)
  ·have:a=o:=by simpa using L
   simp[this]
theorem ak0 {l:List Nat} {o:Nat} (h:o∈l):idx l o<l.length:=(iK.1 (rZ h)).1
theorem OE {l:List Nat} (aO:l.Nodup) {i o:Nat} (h:l[i]? =some o):idx l o=i:=by have q:=rZ (List.mem_of_getElem? h);obtain ⟨E,M⟩:=iK.1 h;obtain ⟨ak,V⟩:=iK.1 q;exact (List.getElem_inj aO).1 (by rw[M,V])
mutual
theorem K.ren_ids (ρ:Nat->Nat): ∀r:K,(r.ren ρ).ids=r.ids.map ρ
 | .own ..=>rfl | .view ..=>rfl | .ptr ..=>rfl
 | .agg l=>by simp[K.ren,K.ids,K.renL_ids ρ l]
 | .tup l=>by simp[K.ren,K.ids,K.renL_ids ρ l]
 | .fn f a b=>by simp[K.ren,K.ids,K.renL_ids ρ a,K.renL_ids ρ b]
 | .iface T r=>by simp[K.ren,K.ids,K.ren_ids ρ r]
 | .dfr f a b t xs=>by simp[K.ren,K.ids,K.renL_ids ρ a,K.renL_ids ρ b]
 | .undef=>rfl | .dat ..=>rfl | .clip ..=>rfl | .nilv=>rfl | .nils ..=>rfl | .fptr ..=>rfl | .nilI=>rfl | .nilF=>rfl | .nilP=>rfl | .atl _=>rfl | .lim ..=>rfl | .yld ..=>rfl | .gp ..=>rfl
theorem K.renL_ids (ρ:Nat->Nat): ∀l:List K,K.idsL (K.renL ρ l)=(K.idsL l).map ρ
 |[]=>rfl
 |r::l=>by simp[K.renL,K.idsL,K.ren_ids ρ r,K.renL_ids ρ l]
end
mutual
theorem K.ren_fits (ρ:Nat->Nat): ∀(r:K) (t:aB),(r.ren ρ).fits t=r.fits t
 | .own ..,_=>rfl | .view ..,_=>rfl | .ptr ..,_=>rfl
 | .agg l,t=>by simp[K.ren,K.fits,K.renL_fits ρ l]
 | .tup l,t=>by simp[K.ren,K.fits]
 | .fn f a b,t=>by simp[K.ren,K.fits]
 | .iface T r,t=>by simp[K.ren,K.fits]
 | .dfr ..,t=>by simp[K.ren,K.fits]
 | .undef,_=>rfl | .dat ..,_=>rfl | .clip ..,_=>rfl | .nilv,_=>rfl | .nils ..,_=>rfl | .fptr ..,_=>rfl | .nilI,_=>rfl | .nilF,_=>rfl | .nilP,_=>rfl | .atl _,_=>rfl | .lim ..,_=>rfl | .yld ..,_=>rfl | .gp ..,_=>rfl
theorem K.renL_fits (ρ:Nat->Nat): ∀(l:List K) (t:aB),K.fitsL (K.renL ρ l) t=K.fitsL l t
 |[],t=>rfl
 |r::l,t=>by cases t<;>simp[K.renL,K.fitsL,K.ren_fits ρ r,K.renL_fits ρ l]
end
mutual
theorem K.ren_rel {φ:bL} {ι fo:Nat->az} {w:bk} (ρ:Nat->Nat): ∀(r:K) (v:az),(∀i∈r.ids,fo (ρ i)=ι i)->r.rel φ ι w v->(r.ren ρ).rel φ fo w v
 | .undef,_,_,_=>trivial
 | .dat t x,v,_,h=>h
 | .clip t xs,v,_,h=>h
 | .nilv,_,_,h=>h
 | .nils _ _,_,_,h=>h
 | .own t o,v,E,h=>by simp only[K.rel,K.ren]at h ⊢;rw[E o (by simp[K.ids])];exact h
 | .view t o aQ dN,v,E,h=>by simp only[K.rel,K.ren]at h ⊢;rw[E o (by simp[K.ids])];exact h
 | .ptr o t i p,v,E,h=>by simp only[K.rel,K.ren]at h ⊢;rw[E o (by simp[K.ids])];exact h
 | .fptr t x,v,_,h=>h
 | .agg l,v,E,⟨cs,e,h⟩=>⟨cs,e,K.renL_relL ρ l _ (λi h=>E i (by simpa [K.ids] using h)) h⟩
 | .tup l,v,E,⟨cs,e,h⟩=>⟨cs,e,K.renL_relT ρ l _ (λi h=>E i (by simpa [K.ids] using h)) h⟩
 | .fn f a b,v,E,⟨x,y,e,q,G⟩=>⟨x,y,e,K.renL_relT ρ a _ (λi h=>E i (by simp[K.ids,h])) q,K.renL_relT ρ b _ (λi h=>E i (by simp[K.ids,h])) G⟩
 | .iface T r,v,E,⟨ae,e,h⟩=>⟨ae,e,K.ren_rel ρ r ae (λi h=>E i (by simpa [K.ids] using h)) h⟩
 | .nilI,_,_,h=>h
 | .nilF,_,_,h=>h
 | .nilP,_,_,h=>h
 | .atl _,_,_,h=>h
 | .lim ..,_,_,h=>h
 | .yld Y o,v,E,h=>by simp only[K.rel,K.ren]at h ⊢;rw[E o (by simp[K.ids])];exact h
 | .gp ..,_,_,h=>h
 | .dfr f a b t xs,v,E,⟨aP,e,ad,h⟩=>⟨aP,e,ad,λi x ae al hu=>
   let ⟨bh,lG,ba,M,q,G,aE⟩:=h i x ae al hu
   ⟨bh,lG,ba,M,K.renL_relT ρ a _ (λi h=>E i (by simp[K.ids,h])) q,G,K.renL_relT ρ b _ (λi h=>E i (by simp[K.ids,h])) aE⟩⟩
theorem K.renL_relL {φ:bL} {ι fo:Nat->az} {w:bk} (ρ:Nat->Nat): ∀(l:List K) (cs:List az),(∀i∈K.idsL l,fo (ρ i)=ι i)->K.relL φ ι w l cs->K.relL φ fo w (K.renL ρ l) cs
 |[],_,_,h=>h
 |r::l,_,E,⟨v,ba,e,q,G⟩=>⟨v,ba,e,K.ren_rel ρ r v (λi h=>E i (by simp[K.idsL,h])) q,K.renL_relL ρ l ba (λi h=>E i (by simp[K.idsL,h])) G⟩
theorem K.renL_relT {φ:bL} {ι fo:Nat->az} {w:bk} (ρ:Nat->Nat): ∀(l:List K) (aP:List az),(∀i∈K.idsL l,fo (ρ i)=ι i)->K.relT φ ι w l aP->K.relT φ fo w (K.renL ρ l) aP
 |[],_,_,h=>h
 |r::l,_,E,⟨v,ba,e,q,G⟩=>⟨v,ba,e,K.ren_rel ρ r v (λi h=>E i (by simp[K.idsL,h])) q,K.renL_relT ρ l ba (λi h=>E i (by simp[K.idsL,h])) G⟩
end
theorem aG.ren_owns (ρ:Nat->Nat) (b:aG):(b.ren ρ).owns=b.owns:=by cases b<;>rfl
theorem aG.ren_live (ρ:Nat->Nat) (b:aG):(b.ren ρ).live=b.live:=by cases b<;>rfl
theorem bR.ren_ids (ρ:Nat->Nat) (R:bR):(R.ren ρ).ids=R.ids.map ρ:=by
 induction R with
 |nil=>rfl
 |cons p l aR=>simp[bR.ren,bR.ids,K.ren_ids,aR]
theorem bR.mem_ren {ρ:Nat->Nat} {R:bR} {s:Nat×K} (h:s∈R.ren ρ): ∃x∈R,s=(x.1,x.2.ren ρ):=by
 induction R with
 |nil=>cases h
 |cons p l aR=>
  rcases e7.1 h with rfl |h
  ·exact ⟨p,aU,rfl⟩
  ·obtain ⟨x,q,G⟩:=aR h;exact ⟨x,by simp[q],G⟩
theorem aG.ren_ids (ρ:Nat->Nat) (b:aG):(b.ren ρ).ids=b.ids.map ρ:=by cases b<;>simp[aG.ren,aG.ids,K.ren_ids,bR.ren_ids]
theorem jz.ren [Env] {φ:bL} {ι fo:Nat->az} {w:bk} {o dV:Nat} {dg:aG} (ρ:Nat->Nat) (W:fo dV=ι o) (E: ∀i∈dg.ids,fo (ρ i)=ι i) (h:jz φ ι w o dg):jz φ fo w dV (dg.ren ρ):=by
 cases dg with
 |hole=>trivial
 |gone=>trivial
 |arr e t xs fz=>
  obtain ⟨A,n,c,M,h⟩:=h;exact ⟨A,n,c,W.trans M,h⟩
 |box T t r=>
  obtain ⟨b,cur,c6,v,M,q,G,ab,aE,bf,bF,dU,hh⟩:=h;exact ⟨b,cur,c6,v,W.trans M,q,G,ab,aE,K.ren_rel ρ r v E bf,bF,by rw[K.ren_fits];exact dU,hh⟩
 |iter d pos=>
  obtain ⟨b,n,M,h⟩:=h;exact ⟨b,n,W.trans M,h⟩
 |loop Y R p=>
  obtain ⟨l,rec,c,M,h⟩:=h;refine ⟨l,rec,c,W.trans M,⟨h.code,h.heap,h.params,h.assign,h.body,h.nt,h.st,λs aN=> ?_,h.phi⟩⟩;obtain ⟨x,q,rfl⟩:=bR.mem_ren aN;exact K.ren_rel ρ x.2 _ (λi al=>E i (bR.mem_ids q i al)) (h.regs x q)
structure qP (J:List aG) (done:List Nat) (obs:List aG):Prop where
 obs:obs=done.map (aF J)
 nodup:done.Nodup
 closed: ∀o∈done,∀i∈(aF J o).ids,i∈done
theorem zn {J:List aG} {n:Nat}: ∀(k:Nat) (todo done:List Nat) (obs:List aG) (s:List Nat×List aG) (ff:List aG) (ec:Nat),(lr k todo done obs).go J n=some (s,ff,ec)->
  obs=done.map (aF J)->done.Nodup->(∀o∈done,∀i∈(aF J o).ids,i∈done\/i∈todo)->ff=J/\ec=n/\qP J s.1 s.2/\(∀i∈todo,i∈s.1)/\(∃m,s.1=done++m)/\
   ((∀o,∀i∈(aF J o).ids,(aF J i).live=true)->(∀i∈todo,(aF J i).live=true)->(∀i∈done,(aF J i).live=true)-> ∀i∈s.1,(aF J i).live=true)
 |0,todo,done,obs,s,ff,ec,e,_,_,_=>by simp[lr,HM.go]at e
 |k+1,[],done,obs,s,ff,ec,e,W,aO,aw=>by simp only[lr]at e;obtain ⟨rfl,rfl,rfl⟩:=go_ret e;exact ⟨rfl,rfl,⟨W,aO,λo h i E=>by simpa using aw o h i E⟩,aU,⟨[],aU⟩,λ_ _ h=>h⟩
 |k+1,o::todo,done,obs,s,ff,ec,e,W,aO,aw=>by
  simp only[lr]at e;cases L:has done o
  ·simp only[L,ay,HM.go]at e;have mq:o∉done:=λh=>by rw[A4.2 h]at L;cases L
   obtain ⟨q,G,ab,aE,⟨m,bf⟩,bF⟩:=zn k _ _ _ s ff ec e (by simp[W]) (by
     rw[List.nodup_append];exact ⟨aO,aU,λa aV b L=>by simp at L;subst L;rintro rfl;exact mq aV⟩) (λa aV i E=>by
     rcases dp.1 aV with aV |aV
     ·rcases aw a aV i E with h |h
      ·exact .inl (dp.2 (.inl h))
      ·rcases e7.1 h with h |h
       ·exact .inl (by simp[h])
       ·exact .inr (dp.2 (.inl h))
     ·simp at aV;subst aV;exact .inr (dp.2 (.inr E)))
   refine ⟨q,G,ab,λi E=> ?_,⟨[o]++m,by rw[bf];simp⟩,λdy de nQ=>bF dy (λi E=> ?_) (λi E=> ?_)⟩
   ·rcases e7.1 E with h |h
    ·rw[bf,h];simp
    ·exact aE i (dp.2 (.inl h))
   ·rcases dp.1 E with h |h
    ·exact de i (by simp[h])
    ·exact dy o i h
   ·rcases dp.1 E with h |h
    ·exact nQ i h
    ·simp at h;subst h;exact de i aU
  ·simp only[L,an]at e;have dS:=A4.1 L;obtain ⟨q,G,ab,aE,bf,bF⟩:=zn k todo done obs s ff ec e W aO (λa aV i E=>by
     rcases aw a aV i E with h |h
     ·exact .inl h
     ·rcases e7.1 h with h |h
      ·exact .inl (by rw[h];exact dS)
      ·exact .inr h)
   refine ⟨q,G,ab,λi E=> ?_,bf,λdy de nQ=>bF dy (λi E=>de i (by simp[E])) nQ⟩;rcases e7.1 E with h |h
   ·obtain ⟨m,bf⟩:=bf;rw[bf,h];exact dp.2 (.inl dS)
   ·exact aE i h
theorem aaw {J:List aG} {n:Nat}: ∀(pre:List Nat) (k:Nat) (rest done:List Nat) (obs:List aG) (s:List Nat×List aG) (ff:List aG) (ec:Nat),(lr k (pre++rest) done obs).go J n=some (s,ff,ec)->
  (done++pre).Nodup-> ∃m,s.1=done++pre++m
 |[],k,rest,done,obs,s,ff,ec,e,aO=>by
  have: ∀(k:Nat) (todo done:List Nat) (obs:List aG),(lr k todo done obs).go J n=some (s,ff,ec)-> ∃m,s.1=done++m:=by
   intro k
   induction k with
   |zero=>intro todo done obs e;simp[lr,HM.go]at e
   |succ k aR=>
    intro todo done obs e;cases todo with
    |nil=>
     simp only[lr]at e;obtain ⟨rfl,-,-⟩:=go_ret e;exact ⟨[],aU⟩
    |cons o todo=>
     simp only[lr]at e;cases L:has done o
     ·simp only[L,ay,HM.go]at e;obtain ⟨m,hm⟩:=aR _ _ _ e;exact ⟨[o]++m,by rw[hm];simp⟩
     ·simp only[L,an]at e;exact aR _ _ _ e
  simpa using this k rest done obs e
 |o::pre,0,rest,done,obs,s,ff,ec,e,aO=>by simp[lr,HM.go]at e
 |o::pre,k+1,rest,done,obs,s,ff,ec,e,aO=>by
  simp only[List.cons_append,lr]at e;have mq:o∉done:=λh=>by have:=(List.nodup_append.1 aO).2.2 o h o aU;exact this rfl
  have L:has done o=false:=by
   cases h:has done o
   ·rfl
   ·exact absurd (A4.1 h) mq
  simp only[L,ay,HM.go]at e;rw[List.append_assoc]at e;obtain ⟨m,hm⟩:=aaw pre k _ _ _ s ff ec e (by simpa using aO);exact ⟨m,by rw[hm];simp⟩
theorem acL {n i:Nat}:i∈k3 n↔i<n:=by
 induction n with
 |zero=>simp[k3]
 |succ n aR=>simp[k3,aR];omega
theorem asx (n:Nat):(k3 n).Nodup:=by
 induction n with
 |zero=>simp[k3]
 |succ n aR=>
  rw[k3,List.nodup_append];exact ⟨aR,aU,λa aV b L=>by have:=acL.1 aV;simp at L;omega⟩
theorem aju {n i:Nat} (h:i<n):(k3 n)[i]? =some i:=by
 induction n with
 |zero=>omega
 |succ n aR=>
  have ad:(k3 n).length=n:=by
   clear h aR
   induction n with
   |zero=>rfl
   |succ n aR=>simp[k3,aR]
  rw[k3];rcases Nat.lt_or_ge i n with q |q
  ·rw[List.getElem?_append_left u];exact aR q
  ·have:i=n:=u;subst this;rw[List.getElem?_append_right u];simp[ad]
theorem adh (n:Nat):(k3 n).length=n:=by
 induction n with
 |zero=>rfl
 |succ n aR=>simp[k3,aR]
section
variable {φ:bL} {ι:Nat->az} {w:bk} {J:List aG} {done:List Nat} {obs:List aG}
def k2 (ι:Nat->az) (done:List Nat):Nat->az:=λi=>ι (done.getD i 0)
def kG (done:List Nat) (obs:List aG):List aG:=obs.map (aG.ren (idx done))
theorem Gx {o:Nat} (h:o∈done):k2 ι done (idx done o)=ι o:=by unfold k2;rw[jN,rZ h];rfl
theorem nV (g:qP J done obs) {i o:Nat} (h:done[i]? =some o):aF (kG done obs) i=(aF J o).ren (idx done):=by have e:=g.obs;subst e;simp[kG,aF,jN,h]
theorem zM (g:qP J done obs) {i:Nat} (h:done.length<=i):aF (kG done obs) i=.hole:=by have e:=g.obs;subst e;have:done[i]? =none:=List.getElem?_eq_none h;simp[kG,aF,jN,this]
theorem Ge (g:qP J done obs) {b:Nat} (h:jY (k2 ι done) (kG done obs) b):jY ι J b:=by
 obtain ⟨i,q,G⟩:=h;cases ao:done[i]? with
 |none=>
  rw[zM g (List.getElem?_eq_none_iff.1 ao)]at q;cases q
 |some o=>
  rw[nV g ao,aG.ren_owns]at q;refine ⟨o,q,?_⟩;rw[<-G];simp[k2,jN,ao]
theorem adM [Env] (h:cg φ ι w J) (g:qP J done obs) (ad: ∀o∈done,(aF J o).live=true):cg φ (k2 ι done) w (kG done obs):=by
 have E: ∀{i o:Nat},done[i]? =some o->k2 ι done i=ι o:=λ{i o} ao=>by simp[k2,jN,ao]
 refine ⟨λi=> ?_,λi j b q G ab aE=> ?_,h.phi,λi j ak=> ?_,h.glob⟩
 ·cases ao:done[i]? with
  |none=>rw[zM g (List.getElem?_eq_none_iff.1 ao)];trivial
  |some o=>
   rw[nV g ao];exact (h.obj o).ren (idx done) (E ao) λk af=>Gx (g.closed o (List.mem_of_getElem? ao) k af)
 ·cases ao:done[i]? with
  |none=>rw[zM g (List.getElem?_eq_none_iff.1 ao)]at q;cases q
  |some o=>
   cases p1:done[j]? with
   |none=>rw[zM g (List.getElem?_eq_none_iff.1 p1)]at G;cases G
   |some jJ=>
    rw[nV g ao,aG.ren_owns]at q;rw[nV g p1,aG.ren_owns]at G;rw[E ao]at ab;rw[E p1]at aE;have:=h.apart o jJ b q G ab aE;subst this;rw[<-OE g.nodup ao,<-OE g.nodup p1]
 ·cases ao:done[i]? with
  |none=>rw[zM g (List.getElem?_eq_none_iff.1 ao)]at ak;simp[aG.ids]at ak
  |some o=>
   rw[nV g ao,aG.ren_ids]at ak;obtain ⟨k,af,rfl⟩:=List.mem_map.1 ak;have kv:=g.closed o (List.mem_of_getElem? ao) k af;rw[nV g (rZ kv),aG.ren_live];exact ad k kv
theorem ade (g:qP J done obs) (ad: ∀o∈done,(aF J o).live=true) {l:List Nat} (dS: ∀i∈l,i∈done): ∀i∈l.map (idx done),(aF (kG done obs) i).live=true:=by intro i E;obtain ⟨k,af,rfl⟩:=List.mem_map.1 E;rw[nV g (rZ (dS k af)),aG.ren_live];exact ad k (dS k af)
theorem adL (g:qP J done obs) (ad: ∀o∈done,(aF J o).live=true): ∀i,i<(kG done obs).length->(aF (kG done obs) i).live=true:=by
 intro i E;have e:=g.obs;have dN:i<done.length:=by rw[kG,e]at E;simpa using E
 have ao:done[i]? =some done[i]:=hr dN;rw[nV g ao,aG.ren_live];exact ad _ (dI dN)
theorem ajl (g:qP J done obs):Step φ ι w J φ (k2 ι done) w (kG done obs):=
 ⟨λ_ _ h=>h,λ_ _ _=>rfl,λ_ _ h=>.inl h,ca _,rfl,rfl,rfl,λ_ _ _=>rfl,λ_ h=>.inr (Ge g h)⟩
theorem cg.live_ids [Env] (h:cg φ ι w J): ∀o,∀i∈(aF J o).ids,(aF J i).live=true:=by exact h.ids
end
open Go.RowKit
section
variable {P:cv} {cx:cj} {φ:bL} {ι:Nat->az} {w:bk} {J:List aG} {n:Nat} {aA:List aG} {aJ:Nat}
theorem aat [Env] {r gT:K} (e:(GS r).go J n=some (gT,aA,aJ)) (h:cg φ ι w J) {v:az} (ar:r.rel φ ι w v) (ad: ∀i∈r.ids,(aF J i).live=true):
  aJ=n/\ ∃av,fe φ ι w J av aA/\gT.rel av ι w v/\ ∀i∈gT.ids,(aF aA i).live=true:=by
 have key: ∀{x:HM eN},x=hn r->(x.bind λI=>HM.ret (K.dat I.t I.x)).go J n=some (gT,aA,aJ)->aJ=n/\ ∃av,fe φ ι w J av aA/\gT.rel av ι w v/\ ∀i∈gT.ids,(aF aA i).live=true:=by intro x al e;subst al;obtain ⟨I,H1,dm,M,V⟩:=HM.go_bind_some e;obtain ⟨rfl,rfl,rfl⟩:=go_ret V;obtain ⟨q,dE,g,a8⟩:=tD r φ v J n I _ _ M h ar ad;exact ⟨q,dE,g,h2 a8,by simp[K.ids]⟩
 unfold GS at e;split at e
 ·rename_i l;exact key (x:=uS l) (by simp[hn]) e
 ·exact key rfl e
 ·exact key rfl e
 ·exact key (x:=.ret ⟨.list _,[]⟩) (by simp[hn]) e
 ·exact key (x:=.ret ⟨.list _,_⟩) (by simp[hn]) e
 ·obtain ⟨rfl,rfl,rfl⟩:=go_ret e;exact ⟨rfl,φ,fe.refl h,ar,ad⟩
theorem ZB [Env] {f:FuncId}: ∀(l:List K) (j:Nat) (aP:List az) (φ:bL) (J:List aG) (n:Nat) (fF:List K) (aA:List aG) (aJ:Nat),(A9 cx f j l).go J n=some (fF,aA,aJ)->cg φ ι w J->K.relT φ ι w l aP->(∀i∈K.idsL l,(aF J i).live=true)->
  aJ=n/\ ∃av,fe φ ι w J av aA/\K.relT av ι w fF aP/\ ∀i∈K.idsL fF,(aF aA i).live=true
 |[],j,aP,φ,J,n,fF,aA,aJ,e,h,ar,ad=>by simp only[A9]at e;obtain ⟨rfl,rfl,rfl⟩:=go_ret e;exact ⟨rfl,φ,fe.refl h,ar,ad⟩
 |r::l,j,aP,φ,J,n,fF,aA,aJ,e,h,⟨v,m,a8,q,G⟩,ad=>by
  subst a8;simp only[A9]at e;obtain ⟨ag,H1,dm,M,e⟩:=HM.go_bind_some e;obtain ⟨dy,ff,ec,V,e⟩:=HM.go_bind_some e;obtain ⟨rfl,rfl,rfl⟩:=go_ret e;have vp: ∀i∈r.ids,(aF J i).live=true:=λi E=>ad i (by simp[K.idsL,E])
  have s:dm=n/\ ∃av,fe φ ι w J av H1/\ag.rel av ι w v/\ ∀i∈ag.ids,(aF H1 i).live=true:=by
   cases L:cx.rawArg f j
   ·simp only[L,ay]at M;exact aat M h q vp
   ·simp only[L,an]at M;obtain ⟨rfl,rfl,rfl⟩:=go_ret M;exact ⟨rfl,φ,fe.refl h,q,vp⟩
  obtain ⟨rfl,dE,g1,CP,avf⟩:=s;obtain ⟨rfl,ee,g2,avI,h5⟩:=ZB l (j+1) m dE H1 _ dy _ _ V g1.rel (K.relT_mono g1.step.phi g1.step.cells l m (λ_ _=>rfl) G) (λi E=>by rw[g1.live];exact ad i (by simp[K.idsL,E]));refine ⟨rfl,ee,g1.trans g2,⟨v,m,rfl,K.rel_mono g2.step.phi g2.step.cells ag v (λ_ _=>rfl) CP,avI⟩,λi E=> ?_⟩;simp only[K.idsL,dp]at E;rcases E with E |E
  ·rw[g2.live];exact avf i E
  ·exact h5 i E
structure Li (ρ:Nat->Nat) (os:List Nat) (l:List aG) (J:List aG) (n:Nat) (aA:List aG) (aJ:Nat):Prop where
 le:os.length<=l.length
 next:aJ=n+(l.length-os.length)
 old: ∀i o,os[i]? =some o->aF aA o=(aF l i).ren ρ
 new: ∀j,j<l.length-os.length->aF aA (n+j)=(aF l (os.length+j)).ren ρ
 other: ∀o,o∉os->(o<n\/aJ<=o)->aF aA o=aF J o
 len:J.length<=aA.length
 top:aJ<=aA.length
 seq:n=J.length->aA.length=aJ
theorem aq3 (J:List aG) (o:Nat) (b:aG) (W:o<=J.length):J.length<=(b8 J o b).length/\o+1<=(b8 J o b).length/\(o<J.length->(b8 J o b).length=J.length)/\(o=J.length->(b8 J o b).length=o+1):=by
 rcases Nat.lt_or_ge o J.length with h |h
 ·have:=ij J o b h;exact ⟨u,u,λ_=>this,λh=>u⟩
 ·have:o=J.length:=u;subst this;have:=tJ J b;exact ⟨u,u,λh=>u,λ_=>this⟩
theorem aaV {ρ:Nat->Nat}: ∀(l:List aG) (J:List aG) (n:Nat) (ae:Unit) (aA:List aG) (aJ:Nat),(rX ρ [] l).go J n=some (ae,aA,aJ)->n<=J.length->Li ρ [] l J n aA aJ
 |[],J,n,ae,aA,aJ,e,aO=>by simp only[rX]at e;obtain ⟨-,rfl,rfl⟩:=go_ret e;exact ⟨ca _,rfl,aU,aU,λ_ _ _=>rfl,ca _,aO,λh=>h.symm⟩
 |b::l,J,n,ae,aA,aJ,e,aO=>by
  simp only[rX,HM.go]at e;obtain ⟨bd,a6,cp,eh⟩:=aq3 J n (b.ren ρ) aO;have aR:=aaV l (b8 J n (b.ren ρ)) (n+1) ae aA aJ e a6;have M:=aR.next;simp only[List.length_nil,Nat.sub_zero]at M;refine ⟨aU,by rw[M];simp;omega,aU,λj ak=> ?_,λo W h=> ?_,Nat.le_trans bd aR.len,aR.top,λh=>aR.seq (eh h).symm⟩
  ·cases j with
   |zero=>
    rw[Nat.add_zero,aR.other n aU (.inl u),gL J n _ n aO];simp[aF]
   |succ j=>
    have:=aR.new j (by simp at ak ⊢;omega);rw[show n+(j+1)=n+1+j by omega,this];simp[aF]
  ·rw[aR.other o aU u,gL J n _ o aO];rw[if_neg];omega
theorem aai {ρ:Nat->Nat}: ∀(os:List Nat) (l:List aG) (J:List aG) (n:Nat) (ae:Unit) (aA:List aG) (aJ:Nat),(rX ρ os l).go J n=some (ae,aA,aJ)->n<=J.length->os.Nodup->(∀o∈os,o<J.length/\(o<n\/aJ<=o))->Li ρ os l J n aA aJ
 |[],l,J,n,ae,aA,aJ,e,aO,_,_=>aaV l J n ae aA aJ e aO
 |o::os,[],J,n,ae,aA,aJ,e,aO,_,_=>by simp[rX,HM.go]at e
 |o::os,b::l,J,n,ae,aA,aJ,e,aO,dK,bu=>by
  simp only[rX,HM.go]at e;have W:=(bu o aU).1;have hlen:=ij J o (b.ren ρ) W;have aR:=aai os l (b8 J o (b.ren ρ)) n ae aA aJ e (by rw[hlen];exact aO) (by simp at dK;exact dK.2) (λp aT=>by rw[hlen];exact bu p (by simp[aT]));have mo:o∉os:=by simp at dK;exact dK.1
  refine ⟨by simpa using aR.le,by rw[aR.next];simp,λi p aT=> ?_,λj ak=> ?_,λp aT h=> ?_,by rw[<-hlen];exact aR.len,aR.top,λh=>aR.seq (by rw[hlen];exact h)⟩
  ·cases i with
   |zero=>
    obtain rfl:o=p:=by simpa using aT
    rw[aR.other o mo (bu o aU).2,gL J o _ o (Nat.le_of_lt W)];simp[aF]
   |succ i=>
    have:=aR.old i p (by simpa using aT);rw[this];simp[aF]
  ·have:=aR.new j (by simpa using ak);rw[this];simp only[iy,aF];rw[show os.length+1+j=(os.length+j)+1 by omega];simp
  ·rw[aR.other p (λh=>aT (by simp[h])) h,gL J o _ p (Nat.le_of_lt W),if_neg];rintro rfl;exact aT aU
theorem asf [Env] {done:List Nat} {obs ax:List aG} {av:bL} {aH:Nat->az} {aq:bk} (h:cg φ ι w J) (g:qP J done obs) (ad: ∀o∈done,(aF J o).live=true) (ed:jg J n aJ)
  (b:Li (λi=>done.getD i (n+(i-done.length))) done ax J n aA aJ) (cB:cg av aH aq ax) (d:Step φ (k2 ι done) w (kG done obs) av aH aq ax) (k:eo (k2 ι done) (kG done obs) aH ax):
  ∃hL,cg av hL aq aA/\Step φ ι w J av hL aq aA/\eo ι J hL aA/\iW J n aA aJ/\ ∀i,(aF ax i).live=true->hL (done.getD i (n+(i-done.length)))=aH i/\(aF aA (done.getD i (n+(i-done.length)))).live=true:=by
 let ρ:Nat->Nat:=λi=>done.getD i (n+(i-done.length))
 let hL:Nat->az:=λo=>if o∈done then aH (idx done o) else if n<=o/\o<aJ then aH (done.length+(o-n)) else ι o
 have hle:=b.le;have azK:=b.next;have fs: ∀{J:List aG} {i:Nat},(aF J i).owns=true->(aF J i).live=true:=λ{J i} W=>by cases dB:aF J i<;>rw[dB]at W<;>first |rfl |(cases W)
 have auI: ∀o∈done,o<n\/aJ<=o:=λo W=>by
  rcases Nat.lt_or_ge o n with q |q
  ·exact .inl q
  ·rcases Nat.lt_or_ge o aJ with G |G
   ·have:=ed.2 o q G;rw[ad o W]at this;cases this
   ·exact .inr G
 have A: ∀o,(o∈done\/(n<=o/\o<aJ))-> ∃i,i<ax.length/\ρ i=o/\hL o=aH i/\aF aA o=(aF ax i).ren ρ:=by
  intro o W;by_cases ao:o∈done
  ·refine ⟨idx done o,Nat.lt_of_lt_of_le (ak0 ao) hle,?_,by simp[hL,ao],b.old _ o (rZ ao)⟩;simp[ρ,jN,rZ ao]
  ·have W:=W.resolve_left ao;refine ⟨done.length+(o-n),u,?_,by simp[hL,ao,W],?_⟩
   ·simp[ρ,jN];omega
   ·have:=b.new (o-n) u
    rwa [show n+(o-n)=o by omega]at this
 have B: ∀i,i<ax.length->(ρ i∈done\/(n<=ρ i/\ρ i<aJ))/\hL (ρ i)=aH i/\aF aA (ρ i)=(aF ax i).ren ρ:=by
  intro i E;rcases Nat.lt_or_ge i done.length with q |q
  ·have M:done[i]? =some (done[i]):=hr q;have V:ρ i=done[i]:=by simp[ρ,jN,M]
   have ao:done[i]∈done:=dI q;rw[V];exact ⟨.inl ao,by simp[hL,ao,OE g.nodup M],b.old i _ M⟩
  ·have V:ρ i=n+(i-done.length):=by simp[ρ,jN,List.getElem?_eq_none q]
   have dK:ρ i∉done:=λao=>by rcases auI _ ao with h |h<;>omega
   refine ⟨.inr u,?_,?_⟩
   ·have ab:n<=ρ i/\ρ i<aJ:=u;simp only[hL,dK,if_false,ab,and_self,if_true];rw[V];congr 1;omega
   ·have:=b.new (i-done.length) u;rw[V,this];congr 2;omega
 have C: ∀o,¬(o∈done\/(n<=o/\o<aJ))->aF aA o=aF J o/\hL o=ι o:=by
  intro o W;have q:o∉done:=λh=>W (.inl h)
  have G: ¬(n<=o/\o<aJ):=λh=>W (.inr h)
  exact ⟨b.other o q u,by simp only[hL,q,if_false,G]⟩
 have yg: ∀o,(aF J o).live=true->hL o=ι o:=by
  intro o W;by_cases ao:o∈done
  ·have M:=rZ ao;have q:(aF (kG done obs) (idx done o)).live=true:=by rw[nV g M,aG.ren_live];exact W
   simp only[hL,ao,if_true];rw[k.iota _ q,Gx ao]
  ·by_cases ar:n<=o/\o<aJ
   ·rw[ed.2 o ar.1 ar.2]at W;cases W
   ·exact (C o (by simp[ao,ar])).2
 have e2: ∀o,(aF J o).live=true->(aF aA o).live=true:=by
  intro o W;by_cases ao:o∈done
  ·have M:=rZ ao;have q:(aF (kG done obs) (idx done o)).live=true:=by rw[nV g M,aG.ren_live];exact W
   have:=k.live _ q;rw[b.old _ o M,aG.ren_live];exact this
  ·by_cases ar:n<=o/\o<aJ
   ·rw[ed.2 o ar.1 ar.2]at W;cases W
   ·rw[(C o (by simp[ao,ar])).1];exact W
 have QY: ∀{i},(aF ax i).live=true->i<ax.length:=λE=>gM E
 have rk: ∀o fq,¬(o∈done\/(n<=o/\o<aJ))->(aF J o).owns=true->dM (ι o)=some fq->fq<w.heap.size/\ ¬jY (k2 ι done) (kG done obs) fq:=by
  intro o fq W q G;refine ⟨uE h q G,?_⟩;rintro ⟨i,ab,aE⟩;cases ao:done[i]? with
  |none=>rw[zM g (List.getElem?_eq_none_iff.1 ao)]at ab;cases ab
  |some jJ=>
   rw[nV g ao,aG.ren_owns]at ab;have e:k2 ι done i=ι jJ:=by simp[k2,jN,ao]
   rw[e]at aE;have:=h.apart o jJ fq q ab G aE;exact W (.inl (by rw[this];exact List.mem_of_getElem? ao))
 have ae0: ∀i j fq,(i∈done\/(n<=i/\i<aJ))-> ¬(j∈done\/(n<=j/\j<aJ))->(aF aA i).owns=true->(aF aA j).owns=true->dM (hL i)=some fq->dM (hL j)=some fq->False:=by
  intro i j fq E ak q G ab aE;obtain ⟨x,oG,pf,s8,rm⟩:=A i E;obtain ⟨bh,ba⟩:=C j ak;rw[bh]at G;rw[ba]at aE;rw[rm,aG.ren_owns]at q;rw[s8]at ab;obtain ⟨bd,a6⟩:=rk j fq ak G aE;rcases d.own fq ⟨x,q,ab⟩ with bf |bf
  ·omega
  ·exact a6 bf
 have avC: ∀fq,jY hL aA fq->w.heap.size<=fq\/jY ι J fq:=by
  rintro fq ⟨o,q,G⟩;by_cases eG:o∈done\/(n<=o/\o<aJ)
  ·obtain ⟨x,oG,pf,s8,rm⟩:=A o eG;rw[rm,aG.ren_owns]at q;rw[s8]at G;exact (d.own fq ⟨x,q,G⟩).imp id (Ge g)
  ·obtain ⟨bh,ba⟩:=C o eG;rw[bh]at q;rw[ba]at G;exact .inr ⟨o,q,G⟩
 refine ⟨hL,⟨λo=> ?_,λi j fq q G ab aE=> ?_,cB.phi,λo j ak=> ?_,cB.glob⟩,⟨d.phi,d.cells,λfq c8 L=> ?_,d.size,d.os,d.tape,d.output,λfq L W=>d.blocks fq L λaw=>W (Ge g aw),avC⟩,⟨yg,e2⟩,⟨u,b.len,λ_=>b.top,λi E=> ?_,b.seq⟩,λi E=> ?_⟩
 ·by_cases eG:o∈done\/(n<=o/\o<aJ)
  ·obtain ⟨x,oG,pf,s8,rm⟩:=A o eG;rw[rm];exact (cB.obj x).ren ρ s8 λj ak=>(B j (QY (cB.live_ids x j ak))).2.1
  ·obtain ⟨bh,ba⟩:=C o eG;rw[bh];refine (h.obj o).keep d.phi d.cells (λ_=>ba) (λj ak=>yg j (h.live_ids o j ak)) λfq W L=> ?_
   obtain ⟨bd,a6⟩:=rk o fq eG W L;refine ⟨d.blocks fq bd a6,λc8 af=> ?_⟩;rcases d.newphi fq c8 af with q |q |q
   ·exact q
   ·omega
   ·exact absurd q a6
 ·by_cases eG:i∈done\/(n<=i/\i<aJ)
  ·by_cases Ch:j∈done\/(n<=j/\j<aJ)
   ·obtain ⟨x,oG,pf,s8,rm⟩:=A i eG;obtain ⟨y,azQ,av9,awa,awb⟩:=A j Ch;rw[rm,aG.ren_owns]at q;rw[awb,aG.ren_owns]at G;rw[s8]at ab;rw[awa]at aE;have:=cB.apart x y fq q G ab aE;subst this;rw[<-pf,<-av9]
   ·exact (ae0 i j fq eG Ch q G ab aE).elim
  ·by_cases Ch:j∈done\/(n<=j/\j<aJ)
   ·exact (ae0 j i fq Ch eG G q aE ab).elim
   ·obtain ⟨bh,ba⟩:=C i eG;obtain ⟨d1,d2⟩:=C j Ch;rw[bh]at q;rw[d1]at G;rw[ba]at ab;rw[d2]at aE;exact h.apart i j fq q G ab aE
 ·by_cases eG:o∈done\/(n<=o/\o<aJ)
  ·obtain ⟨x,oG,pf,s8,rm⟩:=A o eG;have hj:j∈((aF ax x).ren ρ).ids:=by rw[<-rm];exact ak
   rw[aG.ren_ids]at hj;obtain ⟨y,bt,rfl⟩:=List.mem_map.1 hj;have CZ:=cB.live_ids x y bt;rw[(B y (QY CZ)).2.2,aG.ren_live];exact CZ
  ·rw[(C o eG).1]at ak;exact e2 j (h.ids o j ak)
 ·rcases d.newphi fq c8 L with q |q |q
  ·exact .inl q
  ·exact .inr (.inl q)
  ·exact .inr (.inr (Ge g q))
 ·by_cases ao:i∈done
  ·rw[ad i ao,e2 i (ad i ao)]
  ·rw[(C i (by simp[ao];omega)).1]
 ·have:=B i (QY E);refine ⟨this.2.1,?_⟩;rw[this.2.2,aG.ren_live];exact E
theorem J3 [Env] {Γ:hM} (c7:cc P Γ) {f:FuncId} {args:List K} {aP:Array az} {r:K} (e:(rY cx Γ f args).go J n=some (r,aA,aJ)) (h:cg φ ι w J) (aV:K.relT φ ι w args aP.toList) (jG: ∀i∈K.idsL args,(aF J i).live=true) (ed:jg J n aJ):
  jX P f aP w λe aq=> ∃v av aH,e=.returned v/\cg av aH aq aA/\Step φ ι w J av aH aq aA/\eo ι J aH aA/\iW J n aA aJ/\r.rel av aH aq v/\(∀i∈r.ids,(aF aA i).live=true):=by
 unfold rY at e;obtain ⟨abx,H1,dm,M,HN⟩:=HM.go_bind_some e;clear e;obtain ⟨rfl,dE,g1,yc,awp⟩:=ZB args 0 aP.toList φ J n abx H1 dm M h aV jG;obtain ⟨pt,ff,ec,V,P7⟩:=HM.go_bind_some HN;clear HN;have bw:=zn 200 _ [] [] pt ff ec V rfl aU aU;clear V;obtain ⟨done,obs⟩:=pt;obtain ⟨q,G,m0,dS,-,gP⟩:=bw;subst q G;have pd:=gP g1.rel.live_ids awp aU;simp only at m0 dS pd P7;obtain ⟨⟨ag,ax⟩,l3,n3,a1,mf⟩:=HM.go_bind_some P7;clear P7;rw[HM.go_ofDT]at a1;obtain ⟨s,aN,a1⟩:=h9.1 a1;simp only[c0]at a1;obtain ⟨rfl,rfl,rfl⟩:=a1;simp only[HM.go]at mf;obtain ⟨ae,KB,n4,bp,atO⟩:=HM.go_bind_some mf;clear mf;obtain ⟨rfl,rfl,rfl⟩:=go_ret atO;have aw:=c7 _ _ _ _ _ aN;have kt:jg ff ec aJ:=ed.ghost g1;have di:=aai done ax ff ec ae aA aJ bp kt.1 m0.nodup λo W=>⟨gM (pd o W),by
  rcases Nat.lt_or_ge o ec with q |q
  ·exact .inl q
  ·rcases Nat.lt_or_ge o aJ with G |G
   ·have:=kt.2 o q G;rw[pd o W]at this;cases this
   ·exact .inr G⟩
 have Cn:=aw dE (k2 ι done) w aP (adM g1.rel m0 pd) (λi E=>adL m0 pd i E) (K.renL_relT (idx done) abx _ (λi E=>Gx (dS i E)) yc) (by rw[K.renL_ids];exact ade m0 pd dS)
 refine jX.mono Cn λe aq=> ?_
 rintro ⟨v,av,aH,he,cB,d,k,ar,ad⟩;obtain ⟨hL,b1,b2,b3,hG,hN⟩:=asf g1.rel m0 pd kt di cB d k;refine ⟨v,av,hL,he,b1,g1.step.trans b2,g1.keep.trans b3,(g1.nx ec).trans hG,K.ren_rel _ ag v (λi E=>(hN i (ad i E)).1) ar,λi E=> ?_⟩;rw[K.ren_ids]at E;obtain ⟨j,ak,rfl⟩:=List.mem_map.1 E;exact (hN j (ad j ak)).2
end
open Go.RowKit
theorem xp {e I:Nat} (h: ¬e=I):Nat.beq e I=false:=by
 cases L:Nat.beq e I
 ·rfl
 ·exact absurd (Nat.eq_of_beq_eq_true L) h
theorem bR.get_put (R:bR) (I:Nat) (r:K) (e:Nat):(R.put I r).get e=if e=I then some r else R.get e:=by
 induction R with
 |nil=>
  simp only[bR.put,bR.get];by_cases h:e=I
  ·subst h;simp
  ·have:Nat.beq e I=false:=xp h;simp[this,h]
 |cons p l aR=>
  obtain ⟨k,d⟩:=p;simp only[bR.put];cases q:Nat.beq I k
  ·cases G:Nat.blt I k
   ·simp only[ay,bR.get];rw[aR];cases ab:Nat.beq e k
    ·rfl
    ·have M:e=k:=by simpa using ab
     have: ¬e=I:=by rintro rfl;rw[M]at q;simp at q
     simp[this]
   ·simp only[ay,an,bR.get];by_cases h:e=I
    ·subst h;simp
    ·have:Nat.beq e I=false:=xp h;simp[this,h]
  ·have M:I=k:=by simpa using q
   subst M;simp only[an,bR.get];by_cases h:e=I
   ·subst h;simp
   ·have:Nat.beq e I=false:=xp h;simp[this,h]
structure jy where
 n:Nat
 base:Nat
 D:List Deferred
 ro:Option Nat
 nm:Bool
def jy.rf (nt:jy):Prop:=nt.ro=none/\nt.nm=false
def jy.df (nt:jy):Prop:=nt.ro=none/\nt.nm=true/\nt.D=[]
def xB (r:Nat):Deferred:={target:=.collected r,args:= #[]}
def clo:az->Deferred
 | .func f x y=>{target:=.fn f y,args:=x}
 |_=>{target:=.collected 0,args:= #[]}
def su (I:Deferred):az:=match I.target with
 | .fn f y=>.func f I.args y
 |_=>undef
def Marks (nt:jy) (w:bk) (Own:Nat->Prop) (fi:List Deferred):Prop:=
 nt.base<=w.heap.size/\(nt.nm=false-> ∃ms:List Nat,fi=ms.map xB++nt.D/\ms.Nodup/\ ∀r∈ms,nt.base<=r/\w.heap[r]? =some (.deferred (some []))/\ ¬Own r)
def nh (a:Act) (I:Nat):az:=bif Nat.beq I dJ then .tuple (a.defers.map su).toArray else a.tmps.getD I undef
theorem iR {a:Act} {I:Nat} (h:I≠dJ):nh a I=a.tmps.getD I undef:=by have:Nat.beq I dJ=false:=xp h;simp[nh,this]
theorem qJ {a:Act}:nh a dJ=.tuple (a.defers.map su).toArray:=by have:Nat.beq dJ dJ=true:=Nat.beq_refl dJ;simp[nh,this]
theorem Marks.step {nt:jy} {φ:bL} {ι:Nat->az} {w:bk} {J:List aG} {av:bL} {aH:Nat->az} {aq:bk} {aA:List aG} {fi:List Deferred} (m:Marks nt w (jY ι J) fi) (d:Step φ ι w J av aH aq aA):Marks nt aq (jY aH aA) fi:=by obtain ⟨bY,m⟩:=m;refine ⟨Nat.le_trans bY d.size,λaO=> ?_⟩;obtain ⟨ms,q,G,ab⟩:=m aO;refine ⟨ms,q,G,λr ar=> ?_⟩;obtain ⟨bd,a6,cp⟩:=ab r ar;have bu:=(kU.1 a6).1;exact ⟨bd,(d.blocks r bu cp).trans a6,λh=>(d.own r h).elim (λaE=>u) cp⟩
structure ds [Env] (φ:bL) (ι:Nat->az) (w:bk) (a7:jy) (st:bU) (a:Act):Prop where
 heap:cg φ ι w st.heap
 regs: ∀I r,st.regs.get I=some r->r.rel φ ι w (nh a I)/\ ∀i∈r.ids,(aF st.heap i).live=true
 nt:a.tmps.size=a7.n
 small:a7.n<=dJ
 defers:Marks a7 w (jY ι st.heap) a.defers
def u1 (o:Oper):Bool:=match o.op with
 | .defer _=>true
 |_=>false
theorem ash {t:aB} {x:t.den}:t.cast? t x=some x:=by simp[aB.cast?]
def pO (nt:Nat) (o:Oper):Bool:=match o.dst with
 |some I=>Nat.blt I nt
 |none=>true
section
variable {P:cv} {cx:cj} {Γ:hM} {φ:bL} {ι:Nat->az} {w:bk} {nt:jy} {st:bU} {a:Act} {n aJ:Nat}
theorem ati (v:az):(GD v).rel φ ι w v/\(GD v).ids=[]:=by
 unfold GD;split
 ·exact ⟨h2 (cF.bool.2 rfl),rfl⟩
 ·exact ⟨h2 (cF.int.2 rfl),rfl⟩
 ·rename_i d;refine ⟨h2 (cF.str.2 ?_),rfl⟩;congr 1
 ·exact ⟨rfl,rfl⟩
 ·exact ⟨rfl,rfl⟩
 ·exact ⟨rfl,rfl⟩
 ·exact ⟨rfl,rfl⟩
 ·exact ⟨trivial,rfl⟩
theorem ds.eval [Env] (d:ds φ ι w nt st a):u2 φ ι w st.heap (h1 st.regs) a.eval:=by
 intro x;cases x with
 |tmp t=>
  simp only[h1,Act.eval];cases L:Nat.beq t dJ with
  |true=>exact ⟨trivial,by simp[K.ids]⟩
  |false=>
   simp only[ay];cases h:st.regs.get t with
   |none=>exact ⟨trivial,by simp[K.ids]⟩
   |some r=>
    have:=d.regs t r h;rw[iR (λe=>by subst e;simp at L)]at this;exact this
 |const v=>
  have:=ati (φ:=φ) (ι:=ι) (w:=w) v;exact ⟨this.1,by simp only[h1];rw[this.2];simp⟩
 |global g=>
  simp only[h1,Act.eval];cases h:Env.glob g with
  |nil=>exact ⟨trivial,by simp[K.ids]⟩
  |cons x l=>
   have:=d.heap.glob g;rw[h]at this;exact ⟨⟨rfl,this⟩,by simp[K.ids]⟩
 |func f=>exact ⟨U8 ⟨#[],#[],rfl,rfl,rfl⟩,by simp[h1,K.ids,K.idsL]⟩
theorem ds.after [Env] {av:bL} {aH:Nat->az} {aq:bk} {aA:List aG} (d:ds φ ι w nt st a) (cB:cg av aH aq aA) (t:Step φ ι w st.heap av aH aq aA) (k:eo ι st.heap aH aA)
  {dst:Option Tmp} {r:K} {v:az} (ao: ∀I,dst=some I->I<nt.n) (ar:r.rel av aH aq v) (ad: ∀i∈r.ids,(aF aA i).live=true):ds av aH aq nt ⟨lY st.regs dst r,aA⟩ (a.put dst v):=by
 have old: ∀e x,st.regs.get e=some x->x.rel av aH aq (nh a e)/\ ∀i∈x.ids,(aF aA i).live=true:=λe x al=>
  ⟨K.rel_step t k (d.regs e x al).2 (d.regs e x al).1,λi E=>k.live i ((d.regs e x al).2 i E)⟩
 cases dst with
 |none=>exact ⟨cB,old,d.nt,d.small,d.defers.step t⟩
 |some I=>
  refine ⟨cB,λe x al=> ?_,by simp[Act.put,d.nt],d.small,d.defers.step t⟩;have al:(st.regs.put I r).get e=some x:=al;rw[bR.get_put]at al;by_cases he:e=I
  ·subst he;simp only[if_true,bJ]at al;subst al;have bu:e<a.tmps.size:=by rw[d.nt];exact ao e rfl
   have:nh (a.put (some e) v) e=v:=by rw[iR (by have:=d.small;have:=d.nt;omega)];simp[Act.put,jc,bu]
   rw[this];exact ⟨ar,ad⟩
  ·simp only[he,if_false]at al;have:nh (a.put (some I) v) e=nh a e:=by
    have cw:I≠e:=λh=>he h.symm
    simp[nh,Act.put,jc,Array.getElem?_setIfInBounds,cw]
   rw[this];exact old e x al
theorem asj [Env] (tab:cN P cx) (c7:cc P Γ) {o:Oper} {db:Operand->K} {J:List aG} {r:K} {aA:List aG} (e:(nu cx Γ o db).go J n=some (r,aA,aJ)) (h:cg φ ι w J) (dd:u2 φ ι w J db a.eval) (ed:jg J n aJ):gk P o a φ ι w J n r aA aJ:=by
 have dK: ∀c,o.op=.call c-> ∀I,o.op≠ .defer I:=λc aw I ao=>by rw[aw]at ao;cases ao
 refine aro tab (λc x g l m W aw al ar e=> ?_) (λc x nm T ag i f W aw al E aM ar e=> ?_) (λc x Y fH W aw al ar e=> ?_) e h dd ed
 case refine_3=>
  have rn:=(dd x).1;have nM:=(dd x).2;rw[al]at rn nM;have av7:=rn;obtain ⟨-,l,a8⟩:=av7;have ab:K.relT φ ι w (je cx c.argTypes.toList (c.args.toList.map db)) (c.args.map a.eval).toList:=by simpa using A1 (cx:=cx) c.argTypes.toList _ _ (uM dd c.args.toList)
  have ek:K.relT φ ι w (.yld Y fH::je cx c.argTypes.toList (c.args.toList.map db)) (#[a.eval x]++c.args.map a.eval).toList:=by rw[Array.toList_append];exact ⟨a.eval x,_,rfl,rn,ab⟩
  have gP: ∀i∈K.idsL (.yld Y fH::je cx c.argTypes.toList (c.args.toList.map db)),(aF J i).live=true:=by
   intro i E;simp only[K.idsL,dp]at E;rcases E with E |E
   ·exact nM i E
   ·exact uB dd _ i (A0 _ _ i E)
  obtain ⟨fF,s6,fn,tmps,assign,body,bt,kq⟩:=(jX.round ar).1 (J3 c7 e h ek gP ed);have q7:fF=l:=by
   have:(#[a.eval x]++c.args.map a.eval)[0]? =some (a.eval x):=by rw[Array.getElem?_append_left (by exact Nat.zero_lt_one)];rfl
   rw[this,a8]at s6;simpa using s6.symm
  subst q7;have Cu:(#[a.eval x]++c.args.map a.eval).extract 1 (#[a.eval x]++c.args.map a.eval).size=c.args.map a.eval:=by rw[Array.extract_append];simp
  rw[Cu]at bt;intro ro next bA k;refine uL (dK c W) ?_;have he:(execOp a.eval o).run P w=.ok (.round fF fn tmps assign body) w:=by simp only[execOp,W,resolve,aw,a8,Deferred.ofValue,pure_bind,invoke];simpa using bt
  rw[he,Oper.uponIn_round];refine ⟨λh=>(by cases h),RoundIn.mono (R:=_) (show RoundIn (e9 ro) 0 P fF fn tmps assign body w _ from kq) λe aq=> ?_⟩;rintro ⟨v,av,aH,rfl,b1,b2,b3,hG,hN,j1⟩;exact k v aq av aH b1 b2 b3 hG hN j1
 case refine_2=>
  have rn:=(dd x).1;have nM:=(dd x).2;rw[al]at rn nM;obtain ⟨ae,a8,q⟩:=rn;have ab:K.relT φ ι w (je cx c.argTypes.toList (c.args.toList.map db)) (c.args.map a.eval).toList:=by simpa using A1 (cx:=cx) c.argTypes.toList _ _ (uM dd c.args.toList)
  have ek:K.relT φ ι w (ag::je cx c.argTypes.toList (c.args.toList.map db)) (#[ae]++c.args.map a.eval).toList:=by rw[Array.toList_append];exact ⟨ae,_,rfl,q,ab⟩
  have gP: ∀i∈K.idsL (ag::je cx c.argTypes.toList (c.args.toList.map db)),(aF J i).live=true:=by
   intro i E;simp only[K.idsL,dp]at E;rcases E with E |E
   ·exact nM i (by simp[K.ids,E])
   ·exact uB dd _ i (A0 _ _ i E)
  have s:=(jX.call ar).1 (J3 c7 e h ek gP ed);intro ro next bA k;refine uL (dK c W) ?_;have hm:=(tab T i E).meth nm f aM ae w;have he:(execOp a.eval o).run P w=(callFunc f (#[ae]++c.args.map a.eval)).run P w:=by
   have bO:(#[Value.iface T ae]++c.args.map a.eval)[0]? =some (.iface T ae):=by rw[Array.getElem?_append_left (by exact Nat.zero_lt_one)];rfl
   have Cu:(#[Value.iface T ae]++c.args.map a.eval).extract 1 (#[Value.iface T ae]++c.args.map a.eval).size=c.args.map a.eval:=by rw[Array.extract_append];simp
   simp only[execOp,W,resolve,aw,a8,pure_bind,invoke,bO,Cu,callMethod,Sem.run_bind,run_program,Result.andThen_ok];rw[hm];rfl
  rw[he];rcases s with ⟨bw,bS⟩|⟨v0,aq,bw,v,av,aH,j5,b1,b2,b3,hG,hN,j1⟩
  ·rw[bw];rw[Oper.uponIn_enter];refine ⟨λh=>(by cases h),Oj ro (Calls.mono bS λe aq=> ?_)⟩;rintro ⟨v,av,aH,rfl,b1,b2,b3,hG,hN,j1⟩;exact k v aq av aH b1 b2 b3 hG hN j1
  ·injection j5 with j5
   subst j5;rw[bw];rw[Oper.uponIn_value];exact k _ aq av aH b1 b2 b3 hG hN j1
 have rn:=(dd x).1;have nM:=(dd x).2;rw[al]at rn nM;obtain ⟨xs,aZ,a8,q,G⟩:=rn;have ek:K.relT φ ι w (l++je cx c.argTypes.toList (c.args.toList.map db)++m) ((xs++c.args.map a.eval)++aZ).toList:=by
  have app: ∀(l m:List K) (xs aZ:List az),K.relT φ ι w l xs->K.relT φ ι w m aZ->K.relT φ ι w (l++m) (xs++aZ):=by
   intro l
   induction l with
   |nil=>intro m xs aZ q G;simp only[K.relT]at q;subst q;exact G
   |cons r l aR=>intro m xs aZ q G;obtain ⟨v,rE,rfl,ab,aE⟩:=q;exact ⟨v,rE++aZ,rfl,ab,aR m rE aZ aE G⟩
  have ab:K.relT φ ι w (je cx c.argTypes.toList (c.args.toList.map db)) (c.args.map a.eval).toList:=by simpa using A1 (cx:=cx) c.argTypes.toList _ _ (uM dd c.args.toList)
  rw[Array.toList_append,Array.toList_append];exact app _ _ _ _ (app _ _ _ _ q ab) G
 have gP: ∀i∈K.idsL (l++je cx c.argTypes.toList (c.args.toList.map db)++m),(aF J i).live=true:=by
  have app: ∀(l m:List K),K.idsL (l++m)=K.idsL l++K.idsL m:=by
   intro l m
   induction l with
   |nil=>rfl
   |cons r l aR=>simp[K.idsL,aR]
  intro i E;rw[app,app]at E;simp only[dp]at E;rcases E with (E |E)|E
  ·exact nM i (by simp[K.ids,E])
  ·exact uB dd _ i (A0 _ _ i E)
  ·exact nM i (by simp[K.ids,E])
 have s:=(jX.call ar).1 (J3 c7 e h ek gP ed);intro ro next bA k;refine uL (dK c W) ?_;have he:execOp a.eval o=callFunc g ((xs++c.args.map a.eval)++aZ):=by simp only[execOp,W,resolve,aw,a8,Deferred.ofValue,pure_bind,invoke]
 rw[he];rcases s with ⟨bw,bS⟩|⟨v0,aq,bw,v,av,aH,j5,b1,b2,b3,hG,hN,j1⟩
 ·rw[bw];rw[Oper.uponIn_enter];refine ⟨λh=>(by cases h),Oj ro (Calls.mono bS λe aq=> ?_)⟩;rintro ⟨v,av,aH,rfl,b1,b2,b3,hG,hN,j1⟩;exact k v aq av aH b1 b2 b3 hG hN j1
 ·injection j5 with j5
  subst j5;rw[bw];rw[Oper.uponIn_value];exact k _ aq av aH b1 b2 b3 hG hN j1
theorem Ap {R:bR} {I:Nat} {b:Bool} (h:(R.get I).bind mB=some b):R.get I=some (.dat .bool b):=by
 obtain ⟨x,al,L⟩:=Option.bind_eq_some_iff.1 h;unfold mB at L;split at L
 ·obtain rfl:=eW L;exact al
 ·cases L
theorem tK {R:bR} {I:Nat} {b:Bool} (h:R.get I=some (.dat .bool b)) (e:Nat):(refine R I b).get e=R.get e:=by
 unfold refine;rw[bR.get_put];split
 ·rename_i he;rw[he,h]
 ·rfl
theorem ds.regs_eq [Env] {eQ:bR} (d:ds φ ι w nt st a) (h: ∀e,eQ.get e=st.regs.get e):ds φ ι w nt ⟨eQ,st.heap⟩ a:=
 ⟨d.heap,λI r ao=>d.regs I r (by rw[<-h I];exact ao),d.nt,d.small,d.defers⟩
theorem ach:(K.tup []).rel φ ι w undef:=⟨#[],rfl,rfl⟩
theorem arw [Env] {o:Oper} {s:bU×Nat×dj} (e:(uK cx Γ o st n).val=some s):
  ∃r,(nu cx Γ o (h1 st.regs)).go st.heap n=some (r,s.1.heap,s.2.1)/\s.1.regs=lY st.regs o.dst r:=by
 unfold uK at e;obtain ⟨⟨r,h,m,p⟩,M,V⟩:=DT.val_bind_some e;simp only[DT.val,bJ]at V;subst V;exact ⟨r,HM.go_run _ _ _ _ _ _ _ _ M,rfl⟩
theorem aqJ {ops:Array Oper} {j I:Nat} {b:Bool} (ak:(ops[j]?).bind (·.dst)=some I) (h:a.tmps.getD I undef=.bool b):yielded ops a.tmps j=some b:=by
 have q:a.tmps[I]? =some (.bool b):=by
  rw[jc]at h;cases G:a.tmps[I]? with
  |none=>rw[G]at h;simp[undef]at h
  |some v=>rw[G]at h;simpa using h
 simp[yielded,ak,q]
theorem Nr [Env] (tab:cN P cx) (c7:cc P Γ) {ops:Array Oper} {o:Oper} {s:bU×Nat×dj} (e:(qo cx Γ ops o st n).val=some s) (d:ds φ ι w nt st a) (ed:jg st.heap n s.2.1) (ao:pO nt.n o=true)
  {og:Act->bk->Prop} {bA:Exit->Act->bk->Prop}
  (k: ∀bs aq av aH,ds av aH aq nt s.1 bs->Step φ ι w st.heap av aH aq s.1.heap->eo ι st.heap aH s.1.heap->iW st.heap n s.1.heap s.2.1->og bs aq):
  if Region.wanted o (yielded ops a.tmps) then o.wpIn (e9 nt.ro) 0 P a w og bA else og (a.put o.dst undef) w:=by
 have ld: ∀I,o.dst=some I->I<nt.n:=λI h=>by simpa [pO,h] using ao
 have act: ∀(gQ:bU) (s:bU×Nat×dj),ds φ ι w nt gQ a->gQ.heap=st.heap->(uK cx Γ o gQ n).val=some s->jg st.heap n s.2.1->
   (∀bs aq av aH,ds av aH aq nt s.1 bs->Step φ ι w st.heap av aH aq s.1.heap->eo ι st.heap aH s.1.heap->iW st.heap n s.1.heap s.2.1->og bs aq)->o.wpIn (e9 nt.ro) 0 P a w og bA:=by
  intro gQ s iI bg e ed k;obtain ⟨r,M,V⟩:=arw e;rw[<-bg]at ed;refine asj tab c7 M iI.heap iI.eval ed nt.ro og bA λv aq av aH q G ab aE bf bF=> ?_
  have:=iI.after q G ab ld bf bF;rw[<-V]at this;rw[bg]at G ab aE;exact k _ _ av aH this G ab aE
 unfold qo at e;split at e
 ·rename_i bC;have hw:Region.wanted o (yielded ops a.tmps)=true:=by simp[Region.wanted,bC]
  rw[if_pos hw];exact act st s d rfl e ed k
 ·rename_i j want bC;split at e
  ·rename_i I ak;split at e
   ·rename_i b L;have bO:=Ap L;have cw:I≠dJ:=λh=>by have:=cF.bool.1 (d.regs I _ bO).1;rw[h,qJ]at this;cases this
    have bt:=aqJ ak (cF.bool.1 (by have:=(d.regs I _ bO).1;rw[iR cw]at this;exact this));have hw:Region.wanted o (yielded ops a.tmps)=Ag b want:=by simp only[Region.wanted,bC,bt];cases b<;>cases want<;>rfl
    rw[hw];cases E:Ag b want
    ·have o7:b= !want:=by cases b<;>cases want<;>first |rfl |cases E
     simp only[E,DT.val,ay,bJ]at e;subst e;simp only[Bool.false_eq_true,if_false];have iI:=d.regs_eq (eQ:=refine st.regs I (!want)) (tK (by rw[bO,o7]));exact k _ _ φ ι (iI.after iI.heap (Step.refl _ _ _ _) (eo.refl _ _) ld ach (by simp[K.ids,K.idsL])) (Step.refl _ _ _ _) (eo.refl _ _) (iW.refl _ _)
    ·have o7:b=want:=by cases b<;>cases want<;>first |rfl |cases E
     simp only[E,DT.val,an]at e;simp only[if_true];exact act ⟨refine st.regs I want,st.heap⟩ s (d.regs_eq (tK (by rw[bO,o7]))) rfl e ed k
   ·split at e
    ·rename_i L bO;obtain ⟨aP,a8,eL⟩:=(d.regs I _ bO).1;have eL:aP= #[]:=by cases aP;simpa [K.relT] using eL
     subst eL;have bt:yielded ops a.tmps j=none:=by
      unfold yielded;rw[ak];simp only[Option.bind_some];split
      ·rename_i c aw;have bu:=(kU.1 aw).1;rw[iR (by have:=d.small;have:=d.nt;omega),jc,aw]at a8;cases a8
      ·rfl
     have hw:Region.wanted o (yielded ops a.tmps)=false:=by simp only[Region.wanted,bC,bt];rfl
     rw[hw];simp only[DT.val,bJ]at e;subst e;simp only[Bool.false_eq_true,if_false];exact k _ _ φ ι (d.after d.heap (Step.refl _ _ _ _) (eo.refl _ _) ld ach (by simp[K.ids,K.idsL])) (Step.refl _ _ _ _) (eo.refl _ _) (iW.refl _ _)
    ·simp[DT.val]at e
  ·simp[DT.val]at e
theorem pn {J:List aG} {i:Nat} (h:J.length<=i):aF J i=.hole:=by simp[aF,jN,List.getElem?_eq_none h]
theorem O1 (J:List aG) (aJ:Nat):jg J J.length aJ:=⟨ca _,λi h _=>by rw[pn h];rfl⟩
theorem ajp [Env] {J:List aG} (h:cg φ ι w J) {p:Nat} {T:bq} {t:aB} {x:t.den} (aT:aF J p=.box T t (.dat t x)):
  ∃av,fe φ ι w J av (b8 J p .gone)/\ ∃b cs,ι p=.pointer (some ⟨b,0,none⟩)/\kB av w b 0 cs/\bz av w t x cs:=by
 have bu:p<J.length:=gM (by rw[aT];rfl);have bO: ∀i,aF (b8 J p .gone) i=if i=p then .gone else aF J i:=λi=>gL J p _ i (Nat.le_of_lt bu)
 have dB:=h.obj p;rw[aT]at dB;obtain ⟨b,cur,c6,v,M,bg,ea,ed,oD,ek,auB,azz,azL⟩:=dB;have jS:dM (ι p)=some b:=by rw[M];rfl
 have ae8:(aF J p).owns=true:=by rw[aT];rfl
 have e2: ∀i,(aF (b8 J p .gone) i).live=(aF J i).live:=λi=>by
  rw[bO];split
  ·rename_i E;subst E;rw[aT];rfl
  ·rfl
 have m7: ∀i,(aF (b8 J p .gone) i).owns=true->i≠p/\(aF J i).owns=true:=λi E=>by
  rw[bO]at E;split at E
  ·cases E
  ·rename_i cw;exact ⟨cw,E⟩
 let av:bL:=λc k=>φ c k\/(c=b/\k<cur.size)
 have Iw: ∀c k,φ c k->av c k:=λc k L=>.inl L
 refine ⟨av,⟨⟨λi=> ?_,λi j c E ak q G=>h.apart i j c (m7 i E).2 (m7 j ak).2 q G,?_,λi j ak=> ?_,λg=>(h.glob g).mono Iw (λ_ _ _=>rfl)⟩,
  ⟨Iw,λ_ _ _=>rfl,?_,ca _,rfl,rfl,rfl,λ_ _ _=>rfl,λc ⟨i,q,G⟩=>.inr ⟨i,(m7 i q).2,G⟩⟩,e2,ij J p _ bu⟩,b,cur.toList,M,?_,?_⟩
 ·rw[bO];split
  ·trivial
  ·rename_i E;refine (h.obj i).keep Iw (λ_ _ _=>rfl) (λ_=>rfl) (λ_ _=>rfl) λc iE L=>⟨rfl,λk af=> ?_⟩
   rcases af with af |⟨rfl,_⟩
   ·exact af
   ·exact absurd (h.apart i p c iE ae8 L jS) E
 ·rintro c k (af |⟨rfl,af⟩)
  ·exact h.phi c k af
  ·exact ⟨cur[k],by simp[World.cell?,bg,Array.getElem?_eq_getElem af]⟩
 ·rw[bO]at ak;rw[e2];split at ak
  ·simp[aG.ids]at ak
  ·exact h.ids i j ak
 ·rintro c k (af |⟨rfl,_⟩)
  ·exact .inl af
  ·exact .inr (.inr ⟨p,ae8,jS⟩)
 ·intro i ae hu;have nL:cur[i]? =some ae:=by simpa using hu
  have E:=(kU.1 nL).1;rw[Nat.zero_add];exact ⟨.inr ⟨rfl,E⟩,by simp[World.cell?,bg,nL]⟩
 ·have:=ek.1;rw[auB]at this;exact bz.mono Iw (λ_ _ _=>rfl) t x _ this
theorem Pf: ∀(l m:List K),uY l m=true->l=m
 |[],[],_=>rfl
 |[],_::_,h=>by simp[uY]at h
 |a::l,[],h=>by cases a<;>simp[uY]at h
 |a::l,b::m,h=>by cases a<;>cases b<;>simp only[uY,bQ,dT,Nat.beq_eq,reduceCtorEq]at h;obtain ⟨⟨⟨⟨rfl,rfl⟩,rfl⟩,rfl⟩,h⟩:=h;rw[Pf l m h]
theorem aaC {p:Nat} {t:aB} {x:t.den} {I:Nat} {r:K}: ∀(R:bR),(ua p t x R).get I=some r-> ∃aa,R.get I=some aa/\(r=aa\/(aa=.ptr p t 0 []/\r=.fptr t x))
 |[],h=>by simp[ua,bR.get]at h
 |(e,ag)::l,h=>by
  have key: ∀aS,(ua p t x ((e,ag)::l))=(e,aS)::ua p t x l->(aS=ag\/(ag=.ptr p t 0 []/\aS=.fptr t x))-> ∃aa,bR.get ((e,ag)::l) I=some aa/\(r=aa\/(aa=.ptr p t 0 []/\r=.fptr t x)):=by
   intro aS q G;rw[q]at h;simp only[bR.get]at h ⊢;cases L:Nat.beq I e
   ·simp only[L,ay]at h ⊢;exact aaC l h
   ·simp only[L,an,bJ]at h ⊢;subst h;exact ⟨ag,rfl,G⟩
  cases ag with
  |ptr dV iJ i s=>
   refine key _ rfl ?_;cases L:Nat.beq p dV&&decide (t=iJ)&&Nat.beq i 0&&s.isEmpty
   ·exact .inl rfl
   ·simp only[bQ,dT,Nat.beq_eq,List.isEmpty_iff]at L;obtain ⟨⟨⟨rfl,rfl⟩,rfl⟩,rfl⟩:=L;exact .inr ⟨rfl,rfl⟩
  |_=>exact key _ rfl (.inl rfl)
theorem abJ: ∀(l m:List K) (aP:List az),K.relT φ ι w (l++m) aP-> ∃bh ba,aP=bh++ba/\K.relT φ ι w l bh/\K.relT φ ι w m ba
 |[],m,aP,h=>⟨[],aP,rfl,rfl,h⟩
 |r::l,m,aP,⟨v,c,e,q,G⟩=>by obtain ⟨bh,ba,V,ab,aE⟩:=abJ l m c G;exact ⟨v::bh,ba,by rw[e,V];rfl,⟨v,bh,rfl,q,ab⟩,aE⟩
theorem DT.val_opt {α β:Type} {o:Option α} {k:α->DT β} {r:β} (h:(DT.opt o k).val=some r): ∃x,o=some x/\(k x).val=some r:=by
 cases o with
 |none=>simp[DT.val]at h
 |some x=>exact ⟨x,rfl,h⟩
theorem DT.val_bif {α:Type} {b:Bool} {x:DT α} {r:α} (h:(bif b then x else .fail).val=some r):b=true/\x.val=some r:=by
 cases b
 ·simp[DT.val]at h
 ·exact ⟨rfl,h⟩
theorem aom [Env] {c:Call} {o:Oper} {bb:bU} (W:o.op=.defer c) (e:(OW c o st).val=some bb) (d:ds φ ι w nt st a) (jT:nt.df) {og:Act->bk->Prop} {bA:Exit->Act->bk->Prop}
  (k: ∀bs aq av aH,ds av aH aq nt bb bs->Step φ ι w st.heap av aH aq bb.heap->eo ι st.heap aH bb.heap->og bs aq):o.guard=none/\o.wpIn (e9 nt.ro) 0 P a w og bA:=by
 unfold OW at e;split at e
 ·rename_i f g A B t xs aw fE Rd auY q5;split at e
  ·rename_i Qy lF dd;split at e
   ·rename_i p ae bX auL;have s:=DT.val_bif e;clear e;obtain ⟨bw,e⟩:=s;split at e
    ·rename_i T iU v Ek dB;have s:=DT.val_bif e;clear e;obtain ⟨bS,e⟩:=s;simp only[bQ,dT,Nat.beq_eq]at bw bS;obtain ⟨⟨rfl,q⟩,G⟩:=bw;obtain ⟨rfl,rfl⟩:=bS;have q:=Pf _ _ q;have G:=Pf _ _ G;subst G;obtain ⟨n7,al,V⟩:=DT.val_opt e;clear e;have av4:v=iU:=by
      by_cases h:v=iU
      ·exact h
      ·simp[aB.cast?,h]at al
     subst av4;obtain rfl:Ek=n7:=by rw[ash]at al;exact eW al
     have a1:=eW V;clear V
     ·have e:=a1;clear a1;subst e;refine ⟨auY,?_⟩;obtain ⟨av,hd,fq,cs,i1,i2,i3⟩:=ajp d.heap dB;have aM:=d.eval f;rw[dd]at aM;obtain ⟨⟨ah8,aZ,a8,CX,C0⟩,gP⟩:=aM;have CX:ah8= #[]:=by cases ah8;simpa [K.relT] using CX
      subst CX;have hi:c.args= #[]:=by cases Cm:c.args;rw[Cm]at fE;simpa using fE
      have eU:(o.semAt (e9 nt.ro).round a.eval).run P w=.ok (.defer {target:=.fn (.func g) aZ,args:= #[]}) w:=by have:(e9 nt.ro).round=none:=jT.1;rw[this,Oper.semAt_none];simp only[execOp,W,resolve,aw,a8,Deferred.ofValue,hi];simp[go_sem]
      have lj:K.relT φ ι w (A++ .ptr p v 0 []::bX) aZ.toList:=by
       have:lF=A++ .ptr p v 0 []::bX:=by rw[<-q,<-auL,List.take_append_drop]
       rw[<-this];exact C0
      obtain ⟨bh,ba,M,ag,lG,c3,V,aS,bP⟩:=abJ _ _ _ lj;have auF:lG=.pointer (some ⟨fq,0,none⟩):=by
       obtain ⟨b2,a6,g1,g2,-⟩:=aS;rw[i1]at g1;rcases g1 with ⟨n,c,g1,-⟩|⟨g1,-,rfl⟩
       ·cases g1
       ·have:fq=b2:=by simpa using g1
        subst this;simpa [aB.offAt] using g2
      refine ⟨λ_ _=>trivial,?_⟩;rw[eU,Oper.uponIn_defer,Rd];refine k _ w av ι ⟨hd.rel,λI r ao=> ?_,d.nt,d.small,⟨d.defers.1,λaO=>by rw[jT.2.1]at aO;cases aO⟩⟩ hd.step hd.keep;simp only[Act.put];have ao:(((ua p v Ek st.regs).put dJ (.dfr g A bX v (Ek::xs))).get I)=some r:=ao;rw[bR.get_put]at ao;by_cases mi:I=dJ
      ·subst mi;simp only[if_true,bJ]at ao;subst ao;rw[qJ];have hold:=d.regs dJ _ q5;obtain ⟨aP,eL,ad,gd⟩:=K.rel_mono (aH:=ι) hd.step.phi hd.step.cells _ _ (λ_ _=>rfl) hold.1;rw[qJ]at eL;have eL:a.defers.map su=aP:=by simpa using eL
       refine ⟨⟨.func (.func g) #[] aZ::aP,by rw[<-eL];rfl,by simp[ad],λi x ae al hu=> ?_⟩,λi E=> ?_⟩
       ·cases i with
        |zero=>
         simp only[List.getElem?_cons_zero,bJ]at al hu;subst al hu;refine ⟨bh,lG,c3,?_,K.relT_mono hd.step.phi hd.step.cells A _ (λ_ _=>rfl) ag,⟨fq,0,cs,auF,i2,i3⟩,K.relT_mono hd.step.phi hd.step.cells bX _ (λ_ _=>rfl) bP⟩;rw[<-V,<-M]
        |succ i=>exact gd i x ae (by simpa using al) (by simpa using hu)
       ·rw[hd.live];exact hold.2 i E
      ·simp only[mi,if_false]at ao;obtain ⟨aa,bd,a6⟩:=aaC _ ao;have hold:=d.regs I aa bd;have IC:nh {tmps:=a.tmps,defers:={target:=.fn (.func g) aZ,args:= #[]}::a.defers} I=nh a I:=by rw[iR mi,iR mi]
       rw[IC];rcases a6 with rfl |⟨rfl,rfl⟩
       ·exact ⟨K.rel_mono hd.step.phi hd.step.cells _ _ (λ_ _=>rfl) hold.1,λi E=>by rw[hd.live];exact hold.2 i E⟩
       ·refine ⟨?_,by simp[K.ids]⟩;obtain ⟨b2,a6,g1,g2,-⟩:=hold.1;rw[i1]at g1;rcases g1 with ⟨n,c,g1,-⟩|⟨g1,-,rfl⟩
        ·cases g1
        ·have:fq=b2:=by simpa using g1
         subst this;exact ⟨fq,0,cs,by simpa [aB.offAt] using g2,i2,i3⟩
    ·simp[DT.val]at e
   ·simp[DT.val]at e
  ·simp[DT.val]at e
 ·simp[DT.val]at e
theorem Kr [Env] (tab:cN P cx) (c7:cc P Γ) {ops:Array Oper} {bA:Exit->Act->bk->Prop}: ∀(l:List Oper) (st bb:bU) (φ:bL) (ι:Nat->az) (w:bk) (a:Act),(oO cx Γ ops l st).val=some bb->ds φ ι w nt st a->l.all (pO nt.n)=true->(l.any u1=true->nt.df)->
  (∀bs aq av aH,ds av aH aq nt bb bs->Step φ ι w st.heap av aH aq bb.heap->eo ι st.heap aH bb.heap->bA .normal bs aq)->wpListIn (e9 nt.ro) 0 P ops bA l a w
 |[],st,bb,φ,ι,w,a,e,d,ao,jT,k=>by simp only[oO,DT.val,bJ]at e;subst e;exact k a w φ ι d (Step.refl _ _ _ _) (eo.refl _ _)
 |o::l,st,bb,φ,ι,w,a,e,d,ao,jT,k=>by
  simp only[oO]at e;obtain ⟨cd,M,V⟩:=DT.val_bind_some e;simp only[List.all_cons,bQ]at ao;have s:if Region.wanted o (yielded ops a.tmps) then o.wpIn (e9 nt.ro) 0 P a w (wpListIn (e9 nt.ro) 0 P ops bA l) bA else wpListIn (e9 nt.ro) 0 P ops bA l (a.put o.dst undef) w:=by
   split at M
   ·rename_i c W;obtain ⟨bC,s⟩:=aom (P:=P) (bA:=bA) W M d (jT (by simp[u1,W])) λbs aq av aH s1 t1 bd=>
     Kr tab c7 l cd bb av aH aq bs V s1 ao.2 (λh=>jT (by rw[List.any_cons,h];simp)) λa2 da ee en s2 t2 a6=>k a2 da ee en s2 (t1.trans t2) (bd.trans a6)
    have hw:Region.wanted o (yielded ops a.tmps)=true:=by simp[Region.wanted,bC]
    rw[if_pos hw];exact s
   ·obtain ⟨⟨dL,m,p⟩,a1,bp⟩:=DT.val_bind_some M;simp only[DT.val,bJ]at bp;subst bp;exact Nr (bA:=bA) tab c7 a1 d (O1 _ _) ao.1 λbs aq av aH s1 t1 bd dm=>
     Kr tab c7 l dL bb av aH aq bs V s1 ao.2 (λh=>jT (by rw[List.any_cons,h];simp)) λa2 da ee en s2 t2 a6=>k a2 da ee en s2 (t1.trans t2) (bd.trans a6)
  unfold wpListIn;split
  ·rename_i h;rw[if_pos h]at s;exact s
  ·rename_i h;rw[if_neg h]at s;exact ⟨λ_ _=>trivial,s⟩
end
end Go.X
