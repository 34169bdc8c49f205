import Derived.Test.YtmmmpanpbphkdaaGreatDoorXA
import Derived.Great.FillDense
import Derived.Laws.Tables
import Derived.ChangeMaps3
import Derived.Laws.BytesArg
import Derived.Lib.AppendZeros
import Derived.Lib.AppendZerosOnto
import Derived.Lib.ConvBytes
import Derived.OrdersIn
import Derived.TacticsIn
import Derived.LoopNIn
import Derived.RangeFuncLeaves
import Derived.RangeFuncRecord
import Derived.RangeFuncSeq
import Derived.Tactics
set_option linter.unusedVariables false
set_option linter.unusedSimpArgs false
namespace Go.X
open Go.RowKit
section
variable {P:Program} {cx:bS} {φ:bw} {ι ι':Nat->Value} {w w':World} {H:List aG} {n:Nat} {r:ae} {aC:List aG} {aI:Nat}
theorem XL {place:Nat->Option (Nat×Nat)} {cells:Array Value} {i:Nat} {v:Value} {rest:List (Nat×Value)} {off size:Nat} (aP:place i=some (off,size)) (aX:v.cells.size=size) (an:off+size<=cells.size):
  Instr.fill place cells ((i,v)::rest)=Instr.fill place (cells.toList.take off++v.cells.toList++cells.toList.drop (off+size)).toArray rest:=by
 rw[Instr.fill,aP];have aa: ¬(v.cells.size≠size||decide (off+v.cells.size>cells.size))=true:=by simp;omega
 simp only[aa,Bool.false_eq_true,if_false];congr 1;rw[<-Array.foldl_toList];apply Array.ext_getElem?;intro k;have:=(Great.foldl_set off v.cells.toList 0 cells).2 k;simp only[Array.toList_zipIdx]at this ⊢;rw[this];simp only[Nat.add_zero,Array.length_toList,List.getElem?_toArray];by_cases av:off<=k/\k<off+v.cells.size/\k<cells.size
 ·rw[if_pos av];rw[List.append_assoc,List.getElem?_append_right (by simp;omega),List.getElem?_append_left (by simp;omega)];congr 1;simp;omega
 ·rw[if_neg av];rcases Nat.lt_or_ge k off with ad |ad
  ·rw[List.append_assoc,List.getElem?_append_left (by simp;omega),List.getElem?_take];simp[ad]
  ·rw[List.getElem?_append_right (by simp;omega),List.getElem?_drop];simp only[List.length_append,List.length_take,Array.length_toList];rcases Nat.lt_or_ge k cells.size with al |al
   ·rw[show off+size+(k-(min off cells.size+v.cells.size))=k by omega];simp
   ·rw[Array.getElem?_eq_none al]
    symm
    rw[List.getElem?_eq_none];simp;omega
theorem XM (z:Array Value) (s:Nat) (au:z.size=s) (bX:0<s): ∀m,((List.range (m*s)).map fun i=>z[i%s]!)=(List.replicate m z.toList).flatten
 |0=>by simp
 |m+1=>by
  rw[show (m+1)*s=s+m*s by rw[Nat.add_mul];omega,List.range_add,List.map_append,List.map_map,List.replicate_succ,List.flatten_cons,<-XM z s au bX m];congr 1
  ·apply List.ext_getElem
   ·simp[au]
   ·intro i aa ad;have ab:i<s:=by simpa using aa
    simp[Nat.mod_eq_of_lt ab,au,ab]
  ·apply List.map_congr_left;intro i _;simp
theorem rj {e:TypeId} {t:aD} {bytes:Nat} (h:qC P e t bytes) (m:Nat): ∃z,(∀w,(zeroValue e).run P w=.ok z w)/\z.cells.size=t.size/\0<t.size/\
  ∀φ w,cw (bg φ w t) (List.replicate m t.zero) ((Array.range (m*t.size)).map fun i=>z.cells[i%z.cells.size]!).toList:=by
 obtain ⟨cW,z,aa,ad,al,_,aE,aZ,bt,dn⟩:=h;have jd:z.cells.size=t.size:=by simpa using bt
 refine ⟨z,fun w=>by simp[zeroValue,typeInfo,aa,aE],jd,aZ,fun φ w=> ?_⟩;have:((Array.range (m*t.size)).map fun i=>z.cells[i%z.cells.size]!).toList=(List.replicate m z.cells.toList).flatten:=by
  rw[Array.toList_map,Array.toList_range,jd];exact XM z.cells t.size jd aZ m
 rw[this];exact cw.replicate (dn φ w) m
theorem cw.one {φ:bw} {w:World} {t:aD} {xs:List t.den} {cs:List Value} (h:cw (bg φ w t) xs cs): ∀v∈cs,v.oneCell'=true:=by
 induction xs generalizing cs with
 |nil=>simp only[cw]at h;subst h;simp
 |cons x xs aO=>
  obtain ⟨a7,aY,rfl,aa,ad⟩:=h;intro v aX;rcases List.mem_append.1 aX with aX |aX
  ·exact bg.one t _ _ aa v aX
  ·exact aO ad v aX
theorem Cells.of_chunks {φ:bw} {w:World} {t:aD} {cur:Array Value} {zs:List t.den} (h:cw (bg φ w t) zs cur.toList) (n:Nat):Cells φ w t n cur:=
 ⟨h.one,.inr ⟨_,h.drop (fun x c=>bg.len t x c) n⟩⟩
theorem si [Env] (h:bP φ ι w H) {e:TypeId} {t:aD} {xs:List t.den} {cur:Array Value} {c b:Nat} {fr:Nat×Nat} (g:gG w w') (ag:w'.heap[b]? =some (.cells cur e fr)) (au9:w.heap.size<=b) (aw:xs.length<=c) (aB:c<=maxLen)
  (au:cur.size=c*t.size) (aJ:vt t fr cur.size) (aa:Cells φ w' t xs.length cur) (av:cw (bg φ w' t) xs (cur.toList.take (xs.length*t.size))) (aQ:n<=H.length) (gB:(aF H n).live=false):
  ch φ ι w H n (.own t n) (bL H n (.arr e t xs false)) (n+1) (.ok (.slice (some ⟨b,0,none⟩) xs.length c) w'):=by
 have j5: ∀k,¬φ b k:=fun k av=>by have:=jm h av;omega
 obtain ⟨a1,k2,b5,dD⟩:=ys (v:=.slice (some ⟨b,0,none⟩) xs.length c) (ob:=.arr e t xs false) h aQ gB g
  ⟨some ⟨b,0,none⟩,xs.length,c,by simp[dw],rfl,aw,aB,.inr ⟨b,#[],cur,fr,rfl,by simpa using ag,au,by simpa using aJ,by simp,aa,av,fun k av=>absurd av (j5 k),fun bz=>by cases bz⟩⟩ (by simp[aG.ids]) rfl
  (fun bJ gA=>by
   simp only[c1]at gA;split at gA
   ·cases gA
   ·injection gA with gA;omega)
 refine ⟨_,_,φ,_,rfl,a1,k2,b5,dD,sa ⟨by simp[dw],_,_,_,rfl⟩,?_⟩;intro i ab;have:i=n:=by simpa [ae.ids] using ab
 subst this;rw[fk H i _ i aQ,if_pos rfl];rfl
theorem ZM [Env] (h:bP φ ι w H) {e:TypeId} {t:aD} {A:Option Addr} (aQ:n<=H.length) (gB:(aF H n).live=false):
  ch φ ι w H n (.own t n) (bL H n (.arr e t [] false)) (n+1) (.ok (.slice A 0 0) w):=by
 obtain ⟨a1,k2,b5,dD⟩:=ys (v:=.slice A 0 0) (ob:=.arr e t [] false) (w':=w) h aQ gB ⟨rfl,rfl,rfl,Nat.le_refl _,fun _ _=>rfl⟩
  ⟨A,0,0,by simp[dw],rfl,Nat.le_refl _,by simp,.inl rfl⟩ (by simp[aG.ids]) rfl (fun bJ gA=>by cases A<;>simp[c1]at gA)
 refine ⟨_,_,φ,_,rfl,a1,k2,b5,dD,sa ⟨by simp[dw],_,_,_,rfl⟩,?_⟩;intro i ab;have:i=n:=by simpa [ae.ids] using ab
 subst this;rw[fk H i _ i aQ,if_pos rfl];rfl
theorem ch.after [Env] {cU:bw} {H1:List aG} {run:Result Value} (g:ee φ ι w H cU H1) (y:ch cU ι w H1 n r aC aI run):ch φ ι w H n r aC aI run:=by
 obtain ⟨v,w',φ',ι',a1,k2,b5,dD,fZ,hj,vZ⟩:=y;exact ⟨v,w',φ',ι',a1,k2,g.step.trans b5,g.keep.trans dD,(g.nx n).trans fZ,hj,vZ⟩
theorem Li {x:Int} (bX: -9223372036854775808<=x) (aa:x<9223372036854775808):IntKind.i64.wrap x=x:=by
 have ai:IntKind.i64.bits=64:=rfl;have aq:IntKind.i64.signed=true:=rfl;simp only[IntKind.wrap,ai,aq,Bool.true_and];have bb:(2:Int)^64=18446744073709551616:=by decide
 have bx:(2:Int)^(64-1)=9223372036854775808:=by decide
 rw[bb,bx];split
 ·rename_i h;simp only[db]at h;omega
 ·rename_i h;simp only[db]at h;omega
theorem ahI [Env] (tab:cA P cx) {T:TypeId} {a b:Int} {acB h0:IntKind} (e:(IW cx T a b).go H n=some (r,aC,aI)) (h:bP φ ι w H) (ds:hD H n aI):
  ch φ ι w H n r aC aI ((Instr.makeSlice T (.int acB a) (.int h0 b)).run P w):=by
 unfold IW at e;split at e
 ·rename_i i ab;split at e
  ·rename_i t aU;have q:=go_chk2 e;clear e;obtain ⟨ag,e⟩:=q;simp only[bB,db]at ag;obtain ⟨⟨bX,aa⟩,ad⟩:=ag;simp only[HM.go,bs,ct]at e;obtain ⟨rfl,rfl,rfl⟩:=e;obtain ⟨ax,fg⟩:=jb tab ab aU;obtain ⟨z,bz,Ad,abd,lM⟩:=rj fg b.toNat;obtain ⟨cW,kS,g1,g2,g3,g4,_⟩:=fg;have hbound:b.toNat*i.bytes<=bm:=by
    have:((b.toNat*i.bytes:Nat):Int)<=(bm:Int):=by rw[Int.natCast_mul,Int.toNat_of_nonneg (by omega)];exact ad
    omega
   have au7:b.toNat<=bm:=Nat.le_trans (Nat.le_mul_of_pos_right _ g4) hbound;have sS:bm=140737488355328:=rfl;have aut:IntKind.i64.wrap a=a:=Li (by omega) (by omega);have gR:IntKind.i64.wrap b=b:=Li (by omega) (by omega);have hmul:(i.bytes:Int)*b<=281474976710656:=by
    have:(i.bytes:Int)*b=b*i.bytes:=Int.mul_comm _ _;omega
   have aqS: ∀x:Int,0<=x->x<=b->(decide (x<0)||decide ((i.bytes:Int)*x>2^48))=false:=by
    intro x z6 mF;have:(i.bytes:Int)*x<=(i.bytes:Int)*b:=Int.mul_le_mul_of_nonneg_left mF (by omega);simp only[Bool.or_eq_false_iff,decide_eq_false_iff_not];omega
   have dU:(Instr.makeSlice T (.int acB a) (.int h0 b)).run P w=.ok (.slice (some ⟨w.heap.size,0,none⟩) a.toNat b.toNat) (w.alloc (.cells ((Array.range (b.toNat*t.size)).map fun i=>z.cells[i%z.cells.size]!) i.elem)):=by
    unfold Instr.makeSlice;have my:=aqS b (by omega) (Int.le_refl _);have dh:=wm (P:=P) (w:=w) (jb tab ab aU).2;have ew:(typeInfo i.elem).run P w=.ok cW w:=by simp[typeInfo,g1]
    have gL: ¬(a<0):=by omega
    have apM: ¬(a>b):=by omega
    have n5: ¬(b.toNat*i.bytes>roomBytes):=by unfold roomBytes;omega
    simp only[Sem.run_bind,run_underlying ax,Result.andThen_ok,asInt,asIntOf,Sem.run_pure,ew,g3,aut,gR,my,gL,apM,decide_false,Bool.or_false,Bool.false_eq_true,if_false,askRoom,n5,dh];by_cases vU:b.toNat*t.size=0
    ·have Fe:Array.range 0= #[]:=rfl;simp[vU,newRow,Fe]
    ·simp[vU,newRow,bz]
   rw[dU];have lX:(List.replicate a.toNat t.zero).length=a.toNat:=List.length_replicate;have:=si (φ:=φ) (ι:=ι) (n:=n) h (e:=i.elem) (t:=t) (xs:=List.replicate a.toNat t.zero) (cur:=(Array.range (b.toNat*t.size)).map fun i=>z.cells[i%z.cells.size]!) (c:=b.toNat) (b:=w.heap.size) (fr:=(0,0)) (gG.alloc w _)
    (heap_alloc_new w _) (Nat.le_refl _) (by rw[lX];omega) (by simp only[maxLen];omega) (by simp) (tS _ _) (Cells.of_chunks (lM φ _) _) (by
     rw[lX];have aa:=(lM φ (w.alloc (.cells ((Array.range (b.toNat*t.size)).map fun i=>z.cells[i%z.cells.size]!) i.elem))).take (fun x c=>bg.len t x c) a.toNat
     rwa [List.take_replicate,Nat.min_eq_left (by omega)]at aa) ds.1 (ds.2 n (Nat.le_refl _) (by omega))
   rwa [lX]at this
  ·simp[HM.go]at e
 ·simp[HM.go]at e
end
open Go.RowKit
section
variable {P:Program} {cx:bS} {φ:bw} {ι ι':Nat->Value} {w w':World} {H:List aG} {n:Nat} {r:ae} {aC:List aG} {aI:Nat}
theorem KO: ∀(l:List ae) (t:aD) (cs:List Value) (j:Nat) (u:aD) (x:ae) (v:Value),ae.relL φ ι w l cs->ae.fitsL l t=true->t.nth j=some u->x.rel φ ι w v->x.fits u=true->
  ae.relL φ ι w (l.set j x) (cs.take (t.offs j)++v.cells.toList++cs.drop (t.offs j+u.size))/\ae.fitsL (l.set j x) t=true
 |[],t,cs,j,u,x,v,h,aJ,aQ,aw,hu=>by
  have e:t=.unit:=by simpa [ae.fitsL] using aJ
  subst e;cases j<;>simp[aD.nth]at aQ
 |r::l,t,cs,j,u,x,v,⟨v0,aY,e,aa,ad⟩,aJ,aQ,aw,hu=>by
  subst e;cases t with
  |pair a b=>
   simp only[ae.fitsL,bB]at aJ;have hlen:v0.cells.toList.length=a.size:=by rw[<-(ae.rel_fits r a v0 aa aJ.1).1];simp
   cases j with
   |zero=>
    simp only[aD.nth,bs]at aQ;subst aQ;refine ⟨⟨v,aY,?_,aw,ad⟩,?_⟩
    ·simp only[aD.offs,List.take_zero,List.nil_append,Nat.zero_add];rw[<-hlen,List.drop_left]
    ·simp[ae.fitsL,hu,aJ.2]
   |succ j=>
    obtain ⟨a1,k2⟩:=KO l b aY j u x v ad aJ.2 (by simpa [aD.nth] using aQ) aw hu;refine ⟨⟨v0,_,?_,aa,a1⟩,?_⟩
    ·simp only[aD.offs];rw[<-hlen,List.take_length_add_append,Nat.add_assoc,<-List.drop_drop,List.drop_left];simp
    ·simp[ae.fitsL,aJ.1,k2]
  |_=>simp[ae.fitsL]at aJ
theorem Ym (l:List ae) (j:Nat) (x:ae): ∀i∈ae.idsL (l.set j x),i∈ae.idsL l\/i∈x.ids:=by
 induction l generalizing j with
 |nil=>intro i ab;simp[ae.idsL]at ab
 |cons a l aO=>
  cases j with
  |zero=>
   intro i ab;simp only[List.set_cons_zero,ae.idsL,List.mem_append]at ab ⊢;rcases ab with ab |ab
   ·exact .inr ab
   ·exact .inl (.inr ab)
  |succ j=>
   intro i ab;simp only[List.set_cons_succ,ae.idsL,List.mem_append]at ab ⊢;rcases ab with ab |ab
   ·exact .inl (.inl ab)
   ·rcases aO j i ab with h |h
    ·exact .inl (.inr h)
    ·exact .inr h
def oz (φ:bw) (ι:Nat->Value) (w:World) (H:List aG):List (Nat×ae)->List (Nat×Value)->Prop
 |[],[]=>True
 |(i,x)::l,(j,v)::m=>i=j/\x.rel φ ι w v/\(∀k∈x.ids,(aF H k).live=true)/\oz φ ι w H l m
 |_,_=>False
theorem oz.ghost [Env] {φ':bw} (g:ee φ ι w H φ' aC): ∀{l:List (Nat×ae)} {m:List (Nat×Value)},oz φ ι w H l m->oz φ' ι w aC l m
 |[],[],_=>trivial
 |(i,x)::l,(j,v)::m,⟨aa,ad,al,aE⟩=>⟨aa,ae.rel_step g.step g.keep al ad,fun k av=>by rw[g.live];exact al k av,aE.ghost g⟩
 |[],_::_,h=>h.elim
 |_::_,[],h=>h.elim
theorem DN {l:List ae} {v:Value} (h: ∃cs,v=.agg cs/\ae.relL φ ι w l cs.toList):(ae.agg l).rel φ ι w v:=h
theorem YA [Env] {i:e4} {place:Nat->Option (Nat×Nat)} (aP: ∀j U u,i.fields[j]? =some U->i.ty.nth j=some u->place j=some (i.ty.offs j,u.size)):
  ∀(parts:List (Nat×ae)) (pv:List (Nat×Value)) (φ:bw) (l:List ae) (cells:Array Value) (H:List aG) (n:Nat) (r:ae) (aC:List aG) (aI:Nat),(xY.go cx i l parts).go H n=some (r,aC,aI)->bP φ ι w H->
  ae.relL φ ι w l cells.toList->ae.fitsL l i.ty=true->(∀k∈ae.idsL l,(aF H k).live=true)->oz φ ι w H parts pv->
  aI=n/\ ∃φ' kp eI,ee φ ι w H φ' aC/\Instr.fill place cells pv=some kp/\r=.agg eI/\ae.relL φ' ι w eI kp.toList/\ae.fitsL eI i.ty=true/\ ∀k∈ae.idsL eI,(aF aC k).live=true
 |[],[],φ,l,cells,H,n,r,aC,aI,e,h,ao,aJ,hid,_=>by
  obtain ⟨rfl,rfl,rfl⟩:=go_ret e;exact ⟨rfl,φ,cells,l,ee.refl h,rfl,rfl,ao,aJ,hid⟩
 |[],_::_,_,_,_,_,_,_,_,_,_,_,_,_,_,an=>an.elim
 |_::_,[],_,_,_,_,_,_,_,_,_,_,_,_,_,an=>an.elim
 |(j,x)::parts,(gY,v)::pv,φ,l,cells,H,n,r,aC,aI,e,h,ao,aJ,hid,⟨ay,aw,kE,an⟩=>by
  subst ay;unfold xY.go at e;split at e
  ·rename_i U u hH hu;obtain ⟨y,H1,cC,ai,aq⟩:=HM.go_bind_some e;clear e;obtain ⟨rfl,cU,g1,bf,q1⟩:=JD ai h (uO (cx:=cx) (T:=U) aw) (fun k av=>kE k (uN k av));have q:=go_bif aq;clear aq;obtain ⟨qP,aq⟩:=q;have vF:ae.relL cU ι w l cells.toList:=ae.relL_mono g1.step.phi g1.step.cells l _ (fun _ _=>rfl) ao;obtain ⟨a1,k2⟩:=KO l i.ty cells.toList j u y v vF aJ hu bf qP;have hlen:cells.toList.length=i.ty.size:=(ae.relL_fits l i.ty _ ao aJ).1;have vK:=Dh hu;have dL:=(ae.rel_fits y u v bf qP).1;have qS:=XL (rest:=pv) (aP j U u hH hu) dL (show i.ty.offs j+u.size<=cells.size by rw[<-Array.length_toList,hlen];exact vK);obtain ⟨aQ,φ',kp,eI,g2,nX,az,pe,aaE,Nf⟩:=YA aP parts pv cU (l.set j y) (cells.toList.take (i.ty.offs j)++v.cells.toList++cells.toList.drop (i.ty.offs j+u.size)).toArray H1 cC r aC aI aq g1.rel (by simpa using a1) k2
    (fun k av=>by
     rcases Ym l j y k av with aa |aa
     ·rw[g1.live];exact hid k aa
     ·exact q1 k aa) (an.ghost g1)
   exact ⟨aQ,φ',kp,eI,g1.trans g2,by rw[qS];exact nX,az,pe,aaE,Nf⟩
  ·simp[HM.go]at e
theorem ajt [Env] (tab:cA P cx) {T:TypeId} {parts:List (Nat×ae)} (e:(xY cx T parts).go H n=some (r,aC,aI)) (h:bP φ ι w H) {pv:Array (Nat×Value)} (an:oz φ ι w H parts pv.toList):
  ch φ ι w H n r aC aI ((Instr.build T pv).run P w):=by
 unfold xY at e;split at e
 ·rename_i i l ab bz;obtain ⟨pr,z,hi',dU,Ad,Fl,arN,arO,arR⟩:=XJ tab bz ⟨i,ab⟩;rw[ab]at hi';injection hi' with hi'
  subst hi';obtain ⟨info,zF,_,arP⟩:=(tab T i ab).info;obtain ⟨kS,NZ,_⟩:=arP _ bz;have sW:z=kS:=by
   have:=dU w;simp[zeroValue,typeInfo,zF,NZ]at this;exact this.symm
  subst sW;obtain ⟨cs,rfl,mE⟩:=arR φ ι w;have hZ:i.ty.isAgg=true:=Fl.symm;obtain ⟨place,aP,aqe⟩: ∃place:Nat->Option (Nat×Nat),(∀j U u,i.fields[j]? =some U->i.ty.nth j=some u->place j=some (i.ty.offs j,u.size))/\P.built T pv.toList=Instr.fill place cs pv.toList:=by
   have ax:=(tab T i ab).desc;unfold jB at ax;split at ax
   ·rename_i e;rw[e]at hZ;cases hZ
   ·rename_i e;rw[e]at hZ;cases hZ
   ·rename_i e;rw[e]at hZ;cases hZ
   ·rename_i e;rw[e]at hZ;cases hZ
   ·rename_i e;rw[e]at hZ;cases hZ
   ·rcases ax with ⟨_,fs,ax,au,av⟩|⟨_,m,b8,cW,ax,hm,he,av⟩
    ·have arz:=Go.ChangeMaps.mapM_total (f:=fun (f:Field)=>(P.info? f.type).map fun i=>(f.offset,i.size)) (0,0) (l:=fs.toList) (by
      intro fd lf;obtain ⟨k,jf,jg⟩:=List.getElem_of_mem lf;have iN:k<i.fields.length:=by rw[<-au];simpa using jf
      obtain ⟨Z5,aa,ad,_,j,ay,_,_⟩:=av k _ (List.getElem?_eq_getElem iN);have al:Z5=fd:=by
       have aqO:k<fs.size:=by simpa using jf
       rw[Array.getElem?_eq_getElem aqO]at aa;injection aa with aa
       rw[<-aa,<-jg];simp
      subst al;obtain ⟨abz,hI,_⟩:=(tab _ j ay).info;rw[ad,hI];exact ⟨_,rfl⟩)
     refine ⟨fun x=>((fs.toList.map fun x=>(((P.info? x.type).map fun i=>(x.offset,i.size)).getD (0,0))).toArray)[x]?,?_,?_⟩
     ·intro j U u hH hu;obtain ⟨fd,aa,ad,al,gY,jG,aE,aZ⟩:=av j U hH;rw[hu]at aE;injection aE with aE
      subst aE;obtain ⟨abz,hI,eY,_⟩:=(tab _ gY jG).info;have dc:fs.toList[j]? =some fd:=by simpa using aa
      simp[aa,ad,hI,eY,al]
     ·unfold Program.built;rw[zF,ax];simp only[NZ,arz];rfl
    ·refine ⟨fun i=>some (i*cW.size,cW.size),?_,?_⟩
     ·intro j U u hH hu;obtain ⟨aa,ad,gY,jG,aE,aZ⟩:=av j U hH;rw[hu]at aE;injection aE with aE
      subst aE;obtain ⟨abz,hI,eY,_⟩:=(tab _ gY jG).info;rw[aa,he]at hI;injection hI with hI
      subst hI;simp[<-ad,eY]
     ·unfold Program.built;rw[zF,ax];simp only[NZ,he];rfl
  obtain ⟨aQ,φ',kp,eI,g,nX,rfl,pe,aaE,Nf⟩:=YA (cx:=cx) aP parts pv.toList φ l cs H n r aC aI e h mE (by simpa [ae.fits] using arN) (by
   have:ae.idsL l=[]:=by simpa [ae.ids] using arO
   rw[this];simp) an
  subst aQ;exact ch.ghost g (DN ⟨kp,rfl,pe⟩) (by simpa [ae.ids] using Nf) (run_build w T pv kp (by rw[aqe,nX]))
 ·simp[HM.go]at e
end
open Go.RowKit
section
variable {P:Program} {cx:bS} {φ φ':bw} {ι ι':Nat->Value} {w w':World} {H:List aG} {n:Nat} {r:ae} {aC:List aG} {aI:Nat}
theorem uG [Env] (h:bP φ ι w H) {o:Nat} (an:(aF H o).owns=true) (aQ:n<=H.length) (gB:(aF H n).live=false) {v:Value} {ob:aG} (mD:ob.owns=true) (eu:ob.ids=[])
  (ara:w'.os=w.os) (arx:w'.tape=w.tape) (Ny:w'.output=w.output) (ars:w.heap.size<=w'.heap.size) (aay: ∀b,b<w.heap.size->c1 (ι o)≠some b->w'.heap[b]? =w.heap[b]?)
  (aP: ∀b k,φ b k->φ' b k) (aB: ∀b k,φ b k->w'.cell? ⟨b,k,none⟩=w.cell? ⟨b,k,none⟩) (Nu: ∀b k,φ' b k->φ b k\/(c1 v=some b/\ ∃u,w'.cell? ⟨b,k,none⟩=some u))
  (aX: ∀b,c1 v=some b->w.heap.size<=b\/c1 (ι o)=some b) (cP:hS φ' (dw ι n v) w' n ob):
  bP φ' (dw ι n v) w' (bL (bL H o .gone) n ob)/\Step φ ι w H φ' (dw ι n v) w' (bL (bL H o .gone) n ob)/\dA ι H (dw ι n v) (bL (bL H o .gone) n ob)/\hs H n (bL (bL H o .gone) n ob) (n+1):=by
 have eH: ∀i,(aF H i).owns=true->(aF H i).live=true:=fun i an=>by cases cP:aF H i<;>rw[cP]at an<;>first |rfl |(cases an)
 have a8:=fl (eH o an);have cf: ∀i,(aF H i).live=true->i≠n:=fun i ab e=>by subst e;rw[gB]at ab;cases ab
 have aq8:o≠n:=cf o (eH o an);have bo: ∀i,aF (bL (bL H o .gone) n ob) i=if i=n then ob else if i=o then .gone else aF H i:=fun i=>by
  rw[fk _ n ob i (by rw[gK H o _ a8];exact aQ)];split
  ·rfl
  ·rw[fk H o _ i (Nat.le_of_lt a8)]
 have ab: ∀i,(aF H i).live=true->dw ι n v i=ι i:=fun i ab=>by simp[dw,cf i ab]
 have ft:ob.live=true:=by cases ob<;>first |rfl |(cases mD)
 have ao: ∀i,(aF H i).live=true->(aF (bL (bL H o .gone) n ob) i).live=true:=fun i h=>by
  rw[bo,if_neg (cf i h)];split
  ·rfl
  ·exact h
 have MZ:(dw ι n v) n=v:=by simp[dw]
 have Nx: ∀i b,i≠n->i≠o->(aF H i).owns=true->c1 (ι i)=some b->c1 v≠some b/\b<w.heap.size/\c1 (ι o)≠some b:=by
  intro i b aa ad al aE;have ag:=tR h al aE;have aZ:c1 (ι o)≠some b:=fun e=>ad (h.apart i o b al an aE e)
  exact ⟨fun e=>by
            rcases aX b e with bt |bt
            ·omega
            ·exact aZ bt,ag,aZ⟩
 refine ⟨⟨fun i=> ?_,fun i j b hJ jH aa ad=> ?_,fun b k ag=> ?_,fun i j ay=> ?_,fun g=>(h.glob g).mono aP aB⟩,⟨aP,aB,fun b k ag=> ?_,ars,ara,arx,Ny,fun b ag vI=>aay b ag (fun e=>vI ⟨o,an,e⟩),fun b ag=> ?_⟩,⟨ab,ao⟩,?_⟩
 ·rw[bo];split
  ·rename_i e;subst e;exact cP
  ·rename_i aa;split
   ·trivial
   ·rename_i ad;refine (h.obj i).keep aP aB (ab i) (fun j ay=>ab j (h.ids i j ay)) fun b gW ag=> ?_
    ·obtain ⟨a1,k2,b5⟩:=Nx i b aa ad gW ag;refine ⟨aay b k2 b5,fun k av=> ?_⟩;rcases Nu b k av with al |al
     ·exact al
     ·exact absurd al.1 a1
 ·rw[bo]at hJ jH;by_cases al:i=n
  ·by_cases aE:j=n
   ·rw[al,aE]
   ·rw[if_neg aE]at jH;split at jH
    ·cases jH
    ·rename_i aZ;subst al;rw[MZ]at aa;rw[ab j (eH j jH)]at ad;exact absurd aa (Nx j b aE aZ jH ad).1
  ·rw[if_neg al]at hJ;split at hJ
   ·cases hJ
   ·rename_i aZ;rw[ab i (eH i hJ)]at aa;by_cases aE:j=n
    ·subst aE;rw[MZ]at ad;exact absurd ad (Nx i b al aZ hJ aa).1
    ·rw[if_neg aE]at jH;split at jH
     ·cases jH
     ·rw[ab j (eH j jH)]at ad;exact h.apart i j b hJ jH aa ad
 ·rcases Nu b k ag with aa |aa
  ·rw[aB b k aa];exact h.phi b k aa
  ·exact aa.2
 ·rw[bo]at ay;split at ay
  ·rw[eu]at ay;simp at ay
  ·split at ay
   ·simp[aG.ids]at ay
   ·exact ao j (h.ids i j ay)
 ·rcases Nu b k ag with aa |aa
  ·exact .inl aa
  ·rcases aX b aa.1 with ad |ad
   ·exact .inr (.inl ad)
   ·exact .inr (.inr ⟨o,an,ad⟩)
 ·obtain ⟨i,aa,ad⟩:=ag;rw[bo]at aa;split at aa
  ·rename_i e;subst e;rw[MZ]at ad;rcases aX b ad with al |al
   ·exact .inl al
   ·exact .inr ⟨o,an,al⟩
  ·split at aa
   ·cases aa
   ·rw[ab i (eH i aa)]at ad;exact .inr ⟨i,aa,ad⟩
 ·have gM:=gK H o .gone a8;refine ⟨by omega,?_,fun h=> ?_,fun i ab=> ?_,fun h=> ?_⟩
  ·rcases Nat.lt_or_ge n H.length with aa |aa
   ·rw[gK _ n ob (by rw[gM];exact aa),gM];exact Nat.le_refl _
   ·have:n=(bL H o .gone).length:=by omega
    rw[this,rk];omega
  ·rcases Nat.lt_or_ge n H.length with aa |aa
   ·rw[gK _ n ob (by rw[gM];exact aa),gM];exact aa
   ·have:n=(bL H o .gone).length:=by omega
    rw[this,rk];exact Nat.le_refl _
  ·rw[bo,if_neg (by omega)];split
   ·rename_i e;subst e;rw[eH i an];rfl
   ·rfl
  ·have:n=(bL H o .gone).length:=by omega
   rw[this,rk]
structure uY (P:Program) (φ:bw) (w:World) (t:aD) (aT:List t.den) (x:Value) (news:List Value):Prop where
 len: ∀w,(Builtin.lenOf x).run P w=.ok aT.length w
 chunks:cw (bg φ w t) aT news
 cells: ∀w',gG w w'->(Builtin.firstCells t.size aT.length x).run P w'=.ok news.toArray w'
structure DW (P:Program) (T T2 e:TypeId) (t:aD) (bytes:Nat):Prop where
 dst:P.underlying T=some (.slice e)
 src: ∃d,P.underlying T2=some d/\ ∀k,d≠ .int k
 el:qC P e t bytes
theorem gG.refl (w:World):gG w w:=⟨rfl,rfl,rfl,Nat.le_refl _,fun _ _=>rfl⟩
theorem gG.drew (w:World):gG w w.drew:=⟨rfl,rfl,rfl,Nat.le_refl _,fun _ _=>rfl⟩
theorem As {T T2 ty e:TypeId} {t:aD} {bytes:Nat} (aU:DW P T T2 e t bytes) {A:Option Addr} {m c:Nat} {x:Value} {aT:List t.den} {news:List Value} (au:uY P φ w t aT x news) (az:m+aT.length<=c)
  {w':World} (fF: ∀a,A=some a->(storeCells (a.add (m*t.size)) news).run P w=.ok () w') (jj:A=none->w'=w):
  (Builtin.append_ #[T,T2] ty #[.slice A m c,x]).run P w=.ok (.slice A (m+aT.length) c) w':=by
 obtain ⟨d,ax,av⟩:=aU.src;have bz:(match d with | .int _=>true |_=>false)=false:=by
  cases d<;>first |rfl |(exact absurd rfl (av _))
 have aa:=wm (w:=w) aU.el;have ad:=au.cells w (gG.refl w);unfold Builtin.append_;simp only[List.getElem?_toArray,List.getElem?_cons_zero,List.getElem?_cons_succ,Sem.run_bind,run_underlying aU.dst,run_underlying ax,Result.andThen_ok,aa,Sem.run_pure,bz,Bool.false_eq_true,if_false,au.len,az,if_true,dr,ad];cases A with
 |none=>simp[jj rfl]
 |some a=>simp[fF a rfl]
theorem Pd {T T2 ty e:TypeId} {t:aD} {bytes:Nat} (aU:DW P T T2 e t bytes) {A:Option Addr} {m c:Nat} {x:Value} {aT:List t.den} {news olds:List Value} (au:uY P φ w t aT x news) (az:c<m+aT.length)
  (hold:(Builtin.firstCells t.size m (.slice A m c)).run P w.drew=.ok olds.toArray w.drew) (ag:(m+aT.length)*bytes<=bm):
  ∃c' zs,m+aT.length<=c'/\c'<=maxLen/\zs.size=(c'-(m+aT.length))*t.size/\(∃us:List t.den,∀φ w,cw (bg φ w t) us zs.toList)/\
  (Builtin.append_ #[T,T2] ty #[.slice A m c,x]).run P w=.ok (.slice (some ⟨w.heap.size,0,none⟩) (m+aT.length) c') (w.drew.alloc (.cells (olds.toArray++news.toArray++zs) e)):=by
 obtain ⟨d,ax,av⟩:=aU.src;have bz:(match d with | .int _=>true |_=>false)=false:=by
  cases d<;>first |rfl |(exact absurd rfl (av _))
 have aa:=wm (w:=w) aU.el;have ad:=au.cells w.drew (gG.drew w);obtain ⟨cW,z,g1,g2,g3,g4,g5,g6,g7,g8⟩:=aU.el;have sS:bm=140737488355328:=rfl;have dB:m+aT.length<=bm:=Nat.le_trans (Nat.le_mul_of_pos_right _ g4) ag;have qP:=growslice_fits (bytes:=bytes) az (by omega);have aQ: ¬(m+aT.length<=c):=by omega
 have au5: ¬(((m+aT.length:Nat):Int)>IntKind.i64.max/\((false=true)\/bytes=0)):=by
  rintro ⟨_,h |h⟩
  ·cases h
  ·omega
 have apO: ¬(Builtin.nextslicecap (m+aT.length) c*bytes>2^48):=by omega
 have ew: ∀w,(typeInfo e).run P w=.ok cW w:=fun w=>by simp[typeInfo,g1]
 have abm: ∀w,(zeroValue e).run P w=.ok z w:=fun w=>by simp[zeroValue,typeInfo,g1,g5]
 have Ac:z.cells.size=t.size:=by simpa using g7
 refine ⟨grownCap w (m+aT.length) c e,Builtin.zeroCells z.cells (grownCap w (m+aT.length) c e-(m+aT.length)),grownCap_ge w _ _ _,grownCap_le_maxLen w _ _ _ (by simp only[maxLen];omega),by rw[size_zeroCells,Ac],?_,?_⟩
 ·obtain ⟨kS,a1,k2,b5,dD⟩:=rj (P:=P) (bytes:=bytes) ⟨cW,z,g1,g2,g3,g4,g5,g6,g7,g8⟩ (grownCap w (m+aT.length) c e-(m+aT.length));have sW:kS=z:=by
   have ai:=a1 w;rw[abm]at ai;injection ai with ai _
   exact ai.symm
  subst sW;refine ⟨List.replicate (grownCap w (m+aT.length) c e-(m+aT.length)) t.zero,fun φ w=> ?_⟩;have:=dD φ w;rw[<-Ac]at this;exact this
 ·unfold Builtin.append_;simp only[List.getElem?_toArray,List.getElem?_cons_zero,List.getElem?_cons_succ,Sem.run_bind,run_underlying aU.dst,run_underlying ax,Result.andThen_ok,aa,Sem.run_pure,bz,Bool.false_eq_true,if_false,au.len,aQ,ew,g3,dr];rw[if_neg (by rintro ⟨_,h |h⟩;exact h;omega)];simp only[Sem.run_bind,ew,Result.andThen_ok,g3];rw[if_neg apO];have aN:(choose (.appendCap (m+aT.length) c e)).run P w=.ok (grownCap w (m+aT.length) c e) w.drew:=by simp[Question.forced,grownCap]
  have n5: ∀b,(askRoom b).run P w.drew=.ok () w.drew:=fun b=>by unfold askRoom;split<;>rfl
  simp only[Sem.run_pure,Result.andThen_ok,Sem.run_bind,aN,ew,g3,n5,hold,ad,if_true,abm,newRow,run_newObj_alloc];rfl
end
open Go.RowKit
section
variable {P:Program} {cx:bS} {φ φ':bw} {ι ι':Nat->Value} {w w':World} {H:List aG} {n:Nat} {r:ae} {aC:List aG} {aI:Nat}
structure mY (φ:bw) (w:World) (t:aD) (xs:List t.den) (v:Value):Prop where
 ex: ∃A c aT,v=.slice A xs.length c/\xs.length<=c/\cw (bg φ w t) xs aT/\(xs.length=0\/ ∃b o,A=some ⟨b,o,none⟩/\ ∀i u,aT[i]? =some u->w.cell? ⟨b,o+i,none⟩=some u)
theorem mY.of_CR {t:aD} {xs:List t.den} {v:Value} (h:bg φ w (.list t) xs [v]):mY φ w t xs v:=by
 obtain ⟨A,n,c,e,ao,aQ,bC⟩:=h;injection e with e _
 subst ao;rcases bC with bC |⟨b,o,aT,rfl,ff,av⟩
 ·refine ⟨A,c,[],e,aQ,?_,.inl bC⟩;have:xs=[]:=List.eq_nil_of_length_eq_zero bC;subst this;rfl
 ·exact ⟨_,c,aT,e,aQ,av,.inr ⟨b,o,rfl,fun i u hu=>(ff i u hu).2⟩⟩
theorem Yz [Env] {o:Nat} {e:TypeId} {t:aD} {xs:List t.den} {fz:Bool} (h:hS φ ι w o (.arr e t xs fz)) {A A':Option Addr} {n c lo ab:Nat} (aX:ι o=.slice A n c) (aa:lo<=ab) (ad:ab<=n) (dO:c≠lo->A'=A.map (·.add (lo*t.size))):
  mY φ w t ((xs.take ab).drop lo) (.slice A' (ab-lo) (c-lo)):=by
 obtain ⟨hQ,aI,c',ai,aq,bb,bx,bC⟩:=h;rw[aX]at ai;obtain ⟨rfl,rfl,rfl⟩:=hh ai;have hlen:((xs.take ab).drop lo).length=ab-lo:=by simp[aq];omega
 by_cases bz:ab-lo=0
 ·have:(xs.take ab).drop lo=[]:=List.eq_nil_of_length_eq_zero (by omega);refine ⟨A',c-lo,[],by rw[hlen],by omega,?_,.inl (by omega)⟩;rw[this];rfl
 ·have aB:c≠lo:=by omega
  rcases bC with bC |⟨b,pre,cur,fr,rfl,g1,g2,g3,g0,g4,g5,g6,g7⟩
  ·omega
  ·have hle:ab*t.size<=n*t.size:=Nat.mul_le_mul_right _ ad;refine ⟨A',c-lo,(cur.toList.take (ab*t.size)).drop (lo*t.size),by rw[hlen],by omega,?_,.inr ⟨b,pre.size+lo*t.size,by rw[dO aB];simp[fY],?_⟩⟩
   ·have:=(g5.take (fun x c=>bg.len t x c) ab).drop (fun x c=>bg.len t x c) lo
    rwa [List.take_take,Nat.min_eq_left hle]at this
   ·intro i v hi';rw[List.getElem?_drop,List.getElem?_take]at hi';split at hi'
    ·rw[n8 g1,Nat.add_assoc,DM];simpa using hi'
    ·cases hi'
theorem Cw [Env] {x:ae} {d:dN} {cj:Value} (e:(mm x).go H n=some (d,aC,aI)) (h:bP φ ι w H) (aw:x.rel φ ι w cj) (eJ: ∀i∈x.ids,(aF H i).live=true):
  aI=n/\ ∃φ',ee φ ι w H φ' aC/\((∃s,cj=.string ⟨⟨s⟩⟩/\d=⟨.list (.int .u8),ix s⟩/\x.isStr=true)\/ ∀t xs,d=⟨.list t,xs⟩->mY φ' w t xs cj):=by
 unfold mm at e;split at e
 ·rename_i t o;simp only[HM.go]at e;split at e
  ·rename_i b8 u xs fz hm;obtain ⟨ja,an,rfl⟩:=mM hm;obtain ⟨rfl,rfl,rfl⟩:=go_ret e;refine ⟨rfl,φ,ee.refl h,.inr fun hb fU ax=> ?_⟩;injection ax with aa ad
   injection aa with aa
   subst aa;obtain rfl:=eq_of_heq ad;obtain ⟨rfl,A,m,c,aX⟩:=aw;have bY:=h.obj o;rw[an]at bY;have az:=Yz bY aX (A':=A) (Nat.zero_le m) (Nat.le_refl m) (fun _=>by cases A<;>simp[Addr.add]);obtain ⟨hQ,aI,c',ai,aq,_⟩:=bY;rw[aX]at ai;obtain ⟨rfl,rfl,rfl⟩:=hh ai;rw[aX];simpa [<-aq] using az
  ·simp[HM.go]at e
 ·rename_i t o lo ab;simp only[HM.go]at e;split at e
  ·rename_i b8 u xs fz hm;obtain ⟨ja,an,rfl⟩:=mM hm;have q:=go_bif e;clear e;obtain ⟨hu,e⟩:=q;have hu:u=t:=by simpa using hu
   subst hu;obtain ⟨rfl,rfl,rfl⟩:=go_ret e;refine ⟨rfl,φ,ee.refl h,.inr fun hb fU ax=> ?_⟩;injection ax with aa ad
   injection aa with aa
   subst aa;obtain rfl:=eq_of_heq ad;obtain ⟨A,m,c,A',aX,aa,ad,al,rfl,dO,_⟩:=aw;have bY:=h.obj o;rw[an]at bY;exact Yz bY aX aa ad dO
  ·simp[HM.go]at e
 ·obtain ⟨rfl,rfl,rfl⟩:=go_ret e;exact ⟨rfl,φ,ee.refl h,.inl ⟨_,cd.str.1 aw,rfl,rfl⟩⟩
 ·obtain ⟨aQ,φ',g,aX⟩:=re x φ cj H n d aC aI e h aw eJ;refine ⟨aQ,φ',g,.inr fun t xs ax=> ?_⟩;subst ax;have aB:=aX.1;rw[pE aX.2]at aB;exact mY.of_CR (by simpa using aB)
theorem mY.source {t:aD} {aT:List t.den} {v:Value} (h:mY φ w t aT v): ∃news,uY P φ w t aT v news:=by
 obtain ⟨A,c,news,rfl,aB,av,bC⟩:=h;refine ⟨news,fun w=>by simp[Builtin.lenOf],av,fun w' g=> ?_⟩;have ao:=av.len (fun x c=>bg.len t x c);rcases bC with bC |⟨b,o,rfl,eX⟩
 ·have:aT=[]:=List.eq_nil_of_length_eq_zero bC;subst this;simp only[cw]at av;subst av;cases A with
  |none=>exact run_firstCells_none _ _ _ _ _
  |some a=>simpa using run_firstCells_some (P:=P) w' t.size 0 a 0 c [] (by simp) (by simp)
 ·exact run_firstCells_some (P:=P) w' t.size aT.length _ aT.length c news ao (fun j u ay=>by
   rw[fY];have aa:=eX j u ay;rw[g.cell (World.block_lt_of_cell? w _ aa)];exact aa)
theorem Is (s:List UInt8):uY P φ w (.int .u8) (ix s) (.string ⟨⟨s⟩⟩) (s.map fun b=>.int .u8 (b.toNat:Int)):=by
 refine ⟨fun w=> ?_,?_,fun w' g=> ?_⟩
 ·have:(⟨⟨s⟩⟩:ByteArray).size=s.length:=rfl;simp[Builtin.lenOf,ix,this]
 ·induction s with
  |nil=>rfl
  |cons a s aO=>exact ⟨[.int .u8 (a.toNat:Int)],_,rfl,rfl,aO⟩
 ·unfold Builtin.firstCells;simp only[Sem.run_pure];congr 1;apply Array.ext';simp[ix,ByteArray.data_extract,List.extract_eq_take_drop]
theorem YW (tab:cA P cx) {T:TypeId} (h:oV cx T=true): ∃d,P.underlying T=some d/\ ∀k,d≠ .int k:=by
 unfold oV at h;split at h
 ·rename_i j ay;split at h
  ·rename_i t aU;exact ⟨_,(jb tab ay aU).1,fun k e=>by cases e⟩
  ·rename_i aU;exact ⟨_,pS tab ay aU,fun k e=>by cases e⟩
  ·cases h
 ·cases h
theorem Xl [Env] (h:bP φ ι w H) {T T2 ty e:TypeId} {t:aD} {bytes:Nat} (aU:DW P T T2 e t bytes) {o:Nat} {xs:List t.den} {fz:Bool} (an:aF H o=.arr e t xs fz) {A A':Option Addr} {m c k:Nat} (aX:ι o=.slice A m c)
  (av:k<=m) (aqQ:fz=true->k=m) (dO:c≠0->A'=A) {x:Value} {aT:List t.den} {news:List Value} (au:uY P φ w t aT x news) (ag:(k+aT.length)*bytes<=bm) (aQ:n<=H.length) (gB:(aF H n).live=false):
  ch φ ι w H n (.own t n) (bL (bL H o .gone) n (.arr e t (xs.take k++aT) fz)) (n+1) ((Builtin.append_ #[T,T2] ty #[.slice A' k c,x]).run P w):=by
 have bY:=h.obj o;rw[an]at bY;obtain ⟨hQ,cr,aY,ai,aq,bb,bx,bC⟩:=bY;rw[aX]at ai;obtain ⟨rfl,rfl,rfl⟩:=hh ai;have Nz:(aF H o).owns=true:=by rw[an];rfl
 have gN:=au.chunks.len (fun x c=>bg.len t x c);have NX:(xs.take k).length=k:=by simp[aq];omega
 have hlen:(xs.take k++aT).length=k+aT.length:=by simp[aq];omega
 have ei: ∀i∈(ae.own t n).ids,(aF (bL (bL H o .gone) n (.arr e t (xs.take k++aT) fz)) i).live=true:=by
  intro i ab;have:i=n:=by simpa [ae.ids] using ab
  subst this;rw[fk _ i _ i (by rw[gK H o _ (fl (by rw[an];rfl))];exact aQ),if_pos rfl];rfl
 have kG:=au.chunks.one;obtain ⟨cW,z,g1,g2,g3,g4,g5,g6,g7,g8⟩:=aU.el;have sS:bm=140737488355328:=rfl;have avh:k+aT.length<=bm:=Nat.le_trans (Nat.le_mul_of_pos_right _ g4) ag;by_cases n5:k+aT.length<=c
 ·by_cases fO:c=0
  ·have qR:k=0:=by omega
   have NY:aT=[]:=List.eq_nil_of_length_eq_zero (by omega);subst fO qR NY;have sO:news=[]:=List.eq_nil_of_length_eq_zero (by simpa using gN);subst sO;have dU:=As (ty:=ty) aU (A:=A') au n5 (w':=w) (fun a _=>rfl) (fun _=>rfl);rw[dU];have aqf: ∀b,c1 (Value.slice A' (0+([]:List t.den).length) 0)≠some b:=fun b=>by cases A'<;>simp[c1]
   obtain ⟨a1,k2,b5,dD⟩:=uG (v:=.slice A' (0+([]:List t.den).length) 0) (ob:=.arr e t (xs.take 0++[]) fz) (w':=w) (φ':=φ) h Nz aQ gB rfl rfl rfl rfl rfl (Nat.le_refl _) (fun _ _ _=>rfl) (fun _ _ h=>h) (fun _ _ _=>rfl) (fun _ _ h=>.inl h)
    (fun b ag=>absurd ag (aqf b)) ⟨A',0+([]:List t.den).length,0,by simp[dw],by simp,by simp,by simp,.inl rfl⟩
   exact ⟨_,_,φ,_,rfl,a1,k2,b5,dD,sa ⟨by simp[dw],_,_,_,rfl⟩,ei⟩
  ·obtain rfl:=dO fO;rcases bC with bC |⟨b,pre,cur,fr,rfl,bh,bZ,da,ny,c4,fh,gq,lq⟩
   ·exact absurd bC fO
   ·have h9:c1 (ι o)=some b:=by rw[aX];simp[c1,fO]
    have hle:(k+aT.length)*t.size<=c*t.size:=Nat.mul_le_mul_right _ n5;rw[Nat.add_mul]at hle;obtain ⟨cY,fF,eo,fG⟩:=Gi P (pre.size+k*t.size) news 0 (pre++cur) w bh (by rw[Array.size_append];exact da.ok) (by rw[gN,Array.size_append,bZ];omega) kG;have dU:=As (ty:=ty) aU au n5 (A:=some ⟨b,pre.size,none⟩) (w':=cY) (fun a aR=>by injection aR with aR;subst aR;rw[fY];simpa using fF) (fun h=>by cases h);rw[dU];simp only[Nat.add_zero]at eo;rw[J9]at eo
    let φ':bw:=fun bJ j=>φ bJ j\/(fz=true/\bJ=b/\pre.size<=j/\j<pre.size+(k+aT.length)*t.size)
    have ji:k*t.size<=m*t.size:=Nat.mul_le_mul_right _ av;have j5: ∀j,φ b j->pre.size<=j/\j<pre.size+k*t.size:=fun j ay=>by
     obtain ⟨bz,jG⟩:=gq j ay;rw[aqQ bz];exact jG
    have aaS:k*t.size<=cur.size:=by rw[bZ];exact Nat.mul_le_mul_right _ (by omega)
    have aqi: ∀j,pre.size<=j/\j<pre.size+k*t.size->cY.cell? ⟨b,j,none⟩=w.cell? ⟨b,j,none⟩:=fun j ay=>by
     obtain ⟨gY,rfl⟩: ∃gY,j=pre.size+gY:=⟨j-pre.size,by omega⟩;rw[n8 eo,n8 bh,DM,DM];simp only[List.getElem?_toArray];rw[List.append_assoc,List.getElem?_append_left (by simp only[List.length_take,Array.length_toList];omega),List.getElem?_take,if_pos (by omega)];simp
    have eX: ∀bJ j,φ bJ j->cY.cell? ⟨bJ,j,none⟩=w.cell? ⟨bJ,j,none⟩:=fun bJ j ay=>by
     by_cases nV:bJ=b
     ·subst nV;exact aqi j (j5 j ay)
     ·exact fG.cell nV
    have vP:((cur.toList.take (k*t.size)++news++cur.toList.drop (k*t.size+news.length)).toArray).size=cur.size:=by
     simp only[List.size_toArray,List.length_append,List.length_take,List.length_drop,Array.length_toList,gN];omega
    have cP:hS φ' (dw ι n (.slice (some ⟨b,pre.size,none⟩) (k+aT.length) c)) cY n (.arr e t (xs.take k++aT) fz):=by
     refine ⟨some ⟨b,pre.size,none⟩,k+aT.length,c,by simp[dw],hlen,n5,bx,.inr ⟨b,pre,_,fr,rfl,eo,by rw[vP,bZ],by rw[vP];exact da,ny,?_,?_,?_,fun bz j ay=>.inr ⟨bz,rfl,by omega,by omega⟩⟩⟩
     ·refine ⟨?_,?_⟩
      ·intro v ed;simp only[List.mem_append]at ed;rcases ed with (ed |ed)|ed
       ·exact c4 v (List.mem_of_mem_take ed)
       ·exact kG v ed
       ·exact c4 v (List.mem_of_mem_drop ed)
      ·have cV:((cur.toList.take (k*t.size)++news++cur.toList.drop (k*t.size+news.length)).toArray).toList.drop ((k+aT.length)*t.size)=cur.toList.drop ((k+aT.length)*t.size):=
        JK (by simpa using aaS) (by rw[gN,Nat.add_mul];exact Nat.le_refl _)
       rw[cV];exact (c4.at_ fh _).imp id fun ⟨zs,bz⟩=>⟨zs,bz.imp fun x c=>bg.mono (fun _ _ h=>.inl h) eX t x c⟩
     ·have c9:((cur.toList.take (k*t.size)++news++cur.toList.drop (k*t.size+news.length)).toArray).toList.take ((k+aT.length)*t.size)=cur.toList.take (k*t.size)++news:=by
       simp only[];rw[List.take_append_of_le_length (by simp[gN,Nat.add_mul];omega),List.take_of_length_le (by simp[gN,Nat.add_mul];omega)]
      rw[c9];have aa:=fh.take (fun x c=>bg.len t x c) k;rw[List.take_take,Nat.min_eq_left ji]at aa;exact cw.append _ _ _ _ (aa.imp fun x c=>bg.mono (fun _ _ h=>.inl h) eX t x c) (au.chunks.imp fun x c=>bg.mono (fun _ _ h=>.inl h) eX t x c)
     ·rintro j (ay |⟨bz,_,ay⟩)
      ·refine ⟨(gq j ay).1,?_⟩;have:=j5 j ay;rw[Nat.add_mul];omega
      ·exact ⟨bz,ay⟩
    obtain ⟨a1,k2,b5,dD⟩:=uG (v:=.slice (some ⟨b,pre.size,none⟩) (k+aT.length) c) (ob:=.arr e t (xs.take k++aT) fz) (w':=cY) (φ':=φ') h Nz aQ gB rfl rfl fG.os fG.tape fG.output (by rw[fG.size];exact Nat.le_refl _)
     (fun bJ gA cf=>fG.blocks bJ (fun e=>cf (e▸h9))) (fun _ _ h=>.inl h) eX
     (fun bJ j ay=>by
      rcases ay with ay |⟨bz,rfl,ay⟩
      ·exact .inl ay
      ·refine .inr ⟨by simp[c1,fO],?_⟩;rw[Nat.add_mul]at ay;have a8:j<(pre++(cur.toList.take (k*t.size)++news++cur.toList.drop (k*t.size+news.length)).toArray).size:=by rw[Array.size_append,vP,bZ];omega
       exact ⟨_,by rw[n8 eo];exact Array.getElem?_eq_getElem a8⟩)
     (fun bJ gA=>.inr (by
                 have:b=bJ:=by simpa [c1,fO] using gA
                 rw[<-this];exact h9)) cP
    exact ⟨_,_,φ',_,rfl,a1,k2,b5,dD,sa ⟨by simp[dw],_,_,_,rfl⟩,ei⟩
 ·
  have aqD:c<k+aT.length:=by omega
  obtain ⟨olds,hold,qN⟩: ∃olds,(Builtin.firstCells t.size k (.slice A' k c)).run P w.drew=.ok olds.toArray w.drew/\cw (bg φ w t) (xs.take k) olds:=by
   by_cases qR:k=0
   ·subst qR;refine ⟨[],?_,by simp[cw]⟩;cases A' with
    |none=>exact run_firstCells_none _ _ _ _ _
    |some a=>simpa using run_firstCells_some (P:=P) w.drew t.size 0 a 0 c [] (by simp) (by simp)
   ·have fO:c≠0:=by omega
    obtain rfl:=dO fO;rcases bC with bC |⟨b,pre,cur,fr,rfl,bh,bZ,da,ny,c4,fh,gq,lq⟩
    ·exact absurd bC fO
    ·have ji:k*t.size<=m*t.size:=Nat.mul_le_mul_right _ av;have aaS:k*t.size<=cur.size:=by rw[bZ];exact Nat.mul_le_mul_right _ (by omega)
     have aa:=fh.take (fun x c=>bg.len t x c) k;rw[List.take_take,Nat.min_eq_left ji]at aa;refine ⟨_,run_firstCells_some (P:=P) w.drew t.size k _ k c (cur.toList.take (k*t.size)) (by simp;omega) (fun j u ay=> ?_),aa⟩;rw[fY];rw[List.getElem?_take]at ay;split at ay
     ·show w.cell? _=_;rw[n8 bh,DM];simpa using ay
     ·cases ay
  have Fa:=qN.len (fun x c=>bg.len t x c);rw[NX]at Fa;obtain ⟨c',zs,ar,aM,bF,cT,dU⟩:=Pd (ty:=ty) aU au aqD hold ag;rw[dU];have hz:=gG.drew_alloc w (.cells (olds.toArray++news.toArray++zs) e);have E5:(w.drew.alloc (.cells (olds.toArray++news.toArray++zs) e)).heap[w.heap.size]? =some (.cells (olds.toArray++news.toArray++zs) e (0,0)):=heap_alloc_new w.drew _;generalize lL:w.drew.alloc (.cells (olds.toArray++news.toArray++zs) e)=W at hz E5 ⊢;have au6:w.heap.size<W.heap.size:=(Array.getElem?_eq_some_iff.1 E5).1
  let φ':bw:=fun bJ j=>φ bJ j\/(fz=true/\bJ=w.heap.size/\j<(k+aT.length)*t.size)
  have eX: ∀bJ j,φ bJ j->W.cell? ⟨bJ,j,none⟩=w.cell? ⟨bJ,j,none⟩:=fun bJ j ay=>hz.cell (jm h ay)
  have aaz:c'≠0:=by omega
  have abc:(olds.toArray++news.toArray++zs).size=c'*t.size:=by
   simp only[Array.size_append,List.size_toArray,Fa,gN,bF];rw[<-Nat.add_mul,<-Nat.add_mul];congr 1;omega
  have cP:hS φ' (dw ι n (.slice (some ⟨w.heap.size,0,none⟩) (k+aT.length) c')) W n (.arr e t (xs.take k++aT) fz):=by
   refine ⟨some ⟨w.heap.size,0,none⟩,k+aT.length,c',by simp[dw],hlen,ar,aM,.inr ⟨w.heap.size,#[],_,(0,0),rfl,by rw[Array.empty_append];exact E5,abc,tS _ _,by simp,?_,?_,?_,fun bz j ay=>.inr ⟨bz,rfl,by simpa using ay⟩⟩⟩
   ·obtain ⟨us,kI⟩:=cT;have nU:=cw.append _ _ _ _ (cw.append _ _ _ _ (qN.imp fun x c=>bg.mono (fun _ _ h=>(.inl h:φ' _ _)) eX t x c) (au.chunks.imp fun x c=>bg.mono (fun _ _ h=>(.inl h:φ' _ _)) eX t x c)) (kI φ' W);refine Cells.of_chunks (zs:=xs.take k++aT++us) ?_ _;simp only[Array.toList_append];exact nU
   ·have c9:(olds.toArray++news.toArray++zs).toList.take ((k+aT.length)*t.size)=olds++news:=by
     simp only[Array.toList_append];rw[List.take_append_of_le_length (by simp[Fa,gN,Nat.add_mul]),List.take_of_length_le (by simp[Fa,gN,Nat.add_mul])]
    rw[c9];exact cw.append _ _ _ _ (qN.imp fun x c=>bg.mono (fun _ _ h=>.inl h) eX t x c) (au.chunks.imp fun x c=>bg.mono (fun _ _ h=>.inl h) eX t x c)
   ·rintro j (ay |⟨bz,_,ay⟩)
    ·have:=jm h ay;omega
    ·exact ⟨bz,by simp,by simpa using ay⟩
  obtain ⟨a1,k2,b5,dD⟩:=uG (v:=.slice (some ⟨w.heap.size,0,none⟩) (k+aT.length) c') (ob:=.arr e t (xs.take k++aT) fz) (w':=W) (φ':=φ') h Nz aQ gB rfl rfl hz.os hz.tape hz.output hz.size
   (fun bJ gA _=>hz.blocks bJ gA) (fun _ _ h=>.inl h) eX
   (fun bJ j ay=>by
    rcases ay with ay |⟨bz,rfl,ay⟩
    ·exact .inl ay
    ·refine .inr ⟨by simp[c1,aaz],?_⟩;have a8:j<(olds.toArray++news.toArray++zs).size:=by
      rw[abc];exact Nat.lt_of_lt_of_le ay (Nat.mul_le_mul_right _ ar)
     exact ⟨_,by rw[n8 E5];exact Array.getElem?_eq_getElem a8⟩)
   (fun bJ gA=>.inl (by
               have:w.heap.size=bJ:=by simpa [c1,aaz] using gA
               omega)) cP
  exact ⟨_,_,φ',_,rfl,a1,k2,b5,dD,sa ⟨by simp[dw],_,_,_,rfl⟩,ei⟩
end
open Go.RowKit
section
variable {P:Program} {cx:bS} {φ φ':bw} {ι ι':Nat->Value} {w w':World} {H:List aG} {n:Nat} {r:ae} {aC:List aG} {aI:Nat}
theorem J1: ∀(H:List aG) (o:Nat),o<H.length->bL H o (aF H o)=H
 |[],o,h=>by simp at h
 |a::l,0,h=>by simp[bL,aF]
 |a::l,o+1,h=>by
  have aO:=J1 l o (by simpa using h);have:aF (a::l) (o+1)=aF l o:=by simp[aF]
  rw[this];simp[bL,aO]
theorem K0 [Env] (h:bP φ ι w H) {o:Nat} {e:TypeId} {t:aD} {xs:List t.den} (an:aF H o=.arr e t xs false) {A:Option Addr} {m c:Nat} (aX:ι o=.slice A m c) {k:Nat} {aT:List t.den} {news:List Value} (lM:cw (bg φ w t) aT news)
  (av:k+aT.length<=xs.length) {A':Option Addr} (dO:aT.length≠0->A'=A.map (·.add (k*t.size))):
  ∃w',(∀a,A'=some a->(storeCells a news).run P w=.ok () w')/\(A'=none->w'=w)/\bP φ ι w' (bL H o (.arr e t (xs.take k++aT++xs.drop (k+aT.length)) false))/\Step φ ι w H φ ι w' (bL H o (.arr e t (xs.take k++aT++xs.drop (k+aT.length)) false))/\
   dA ι H ι (bL H o (.arr e t (xs.take k++aT++xs.drop (k+aT.length)) false))/\hs H n (bL H o (.arr e t (xs.take k++aT++xs.drop (k+aT.length)) false)) n:=by
 have a8:o<H.length:=fl (by rw[an];rfl);have gN:=lM.len (fun x c=>bg.len t x c);by_cases bf:aT.length=0
 ·have z8:aT=[]:=List.eq_nil_of_length_eq_zero bf;subst z8;have sO:news=[]:=List.eq_nil_of_length_eq_zero (by simpa using gN);subst sO;have he:(aG.arr e t (xs.take k++[]++xs.drop (k+([]:List t.den).length)) false)=aF H o:=by
   rw[an];simp
  rw[he,J1 H o a8];exact ⟨w,fun a _=>rfl,fun _=>rfl,h,Step.refl _ _ _ _,dA.refl _ _,hs.refl _ _⟩
 ·have bY:=h.obj o;rw[an]at bY;have aro:=bY;obtain ⟨hQ,cr,aY,ai,aq,bb,bx,bC⟩:=aro;rw[aX]at ai;obtain ⟨rfl,rfl,rfl⟩:=hh ai;rcases bC with bC |⟨b,pre,cur,fr,rfl,bh,bZ,da,ny,c4,fh,gq,lq⟩
  ·omega
  ·have fO:c≠0:=by omega
   have h9:c1 (ι o)=some b:=by rw[aX];simp[c1,fO]
   have j5: ∀j,¬φ b j:=fun j ay=>by have:=(gq j ay).1;cases this
   have ji:(k+aT.length)*t.size<=m*t.size:=Nat.mul_le_mul_right _ (by omega);have sM:m*t.size<=c*t.size:=Nat.mul_le_mul_right _ bb;rw[Nat.add_mul]at ji;obtain ⟨cY,fF,eo,fG⟩:=Gi P (pre.size+k*t.size) news 0 (pre++cur) w bh (by rw[Array.size_append];exact da.ok) (by rw[gN,Array.size_append,bZ];omega) lM.one;simp only[Nat.add_zero]at eo;rw[J9]at eo;rw[dO bf];have vP:((cur.toList.take (k*t.size)++news++cur.toList.drop (k*t.size+news.length)).toArray).size=cur.size:=by
    simp only[List.size_toArray,List.length_append,List.length_take,List.length_drop,Array.length_toList,gN];omega
   have eX: ∀bJ j,φ bJ j->cY.cell? ⟨bJ,j,none⟩=w.cell? ⟨bJ,j,none⟩:=fun bJ j ay=>fG.cell (fun e=>j5 j (e▸ay))
   have cP:hS φ ι cY o (.arr e t (xs.take k++aT++xs.drop (k+aT.length)) false):=by
    refine ⟨some ⟨b,pre.size,none⟩,m,c,aX,by simp;omega,bb,bx,.inr ⟨b,pre,_,fr,rfl,eo,by rw[vP,bZ],by rw[vP];exact da,ny,?_,?_,fun j ay=>absurd ay (j5 j),fun bz=>by cases bz⟩⟩
    ·refine ⟨?_,?_⟩
     ·intro v ed;simp only[List.mem_append]at ed;rcases ed with (ed |ed)|ed
      ·exact c4 v (List.mem_of_mem_take ed)
      ·exact lM.one v ed
      ·exact c4 v (List.mem_of_mem_drop ed)
     ·have cV:((cur.toList.take (k*t.size)++news++cur.toList.drop (k*t.size+news.length)).toArray).toList.drop (m*t.size)=cur.toList.drop (m*t.size):=
       JK (by rw[Array.length_toList,bZ];omega) (by rw[gN];exact ji)
      rw[cV];exact c4.rest.imp id fun ⟨zs,bz⟩=>⟨zs,bz.imp fun x c=>bg.mono (fun _ _ h=>h) eX t x c⟩
    ·have c9:((cur.toList.take (k*t.size)++news++cur.toList.drop (k*t.size+news.length)).toArray).toList.take (m*t.size)=(cur.toList.take (m*t.size)).take (k*t.size)++news++(cur.toList.take (m*t.size)).drop ((k+aT.length)*t.size):=by
      simp only[];rw[List.take_take,Nat.min_eq_left (by omega),List.drop_take,Nat.add_mul,<-gN,List.take_append,List.take_of_length_le (by simp[gN];omega)];congr 2;simp[gN];omega
     rw[c9];have aa:=fh.take (fun x c=>bg.len t x c) k;have ad:=fh.drop (fun x c=>bg.len t x c) (k+aT.length);exact cw.append _ _ _ _ (cw.append _ _ _ _ (aa.imp fun x c=>bg.mono (fun _ _ h=>h) eX t x c) (lM.imp fun x c=>bg.mono (fun _ _ h=>h) eX t x c)) (ad.imp fun x c=>bg.mono (fun _ _ h=>h) eX t x c)
   obtain ⟨mQ,mR,ot,A9⟩:=yr (n:=n) (ob:=.arr e t (xs.take k++aT++xs.drop (k+aT.length)) false) h (by rw[an];rfl) h9 fG j5 cP (by simp[aG.ids]) rfl;refine ⟨cY,fun a aR=> ?_,fun aR=>by simp at aR,mQ,mR,ot,A9⟩;simp only[Option.map_some,bs]at aR;subst aR;rw[fY];exact fF
end
open Go.RowKit
section
variable {P:Program} {cx:bS} {φ φ':bw} {ι ι':Nat->Value} {w w':World} {H:List aG} {n:Nat} {r:ae} {aC:List aG} {aI:Nat}
theorem YR:(ae.tup []).rel φ ι w (.tuple #[]):=⟨#[],rfl,rfl⟩
theorem Ya [Env] (tab:cA P cx) {T:TypeId} {i:e4} {t:aD} (ab:cx.ti T=some i) (aU:i.ty=.list t) {fW:Array TypeId} (kA:fW= #[T]) {ty:TypeId} (h:bP φ ι w H) {o:Nat} {e:TypeId} {xs:List t.den} (an:aF H o=.arr e t xs false) {A:Option Addr} {m c:Nat} (aX:ι o=.slice A m c) {lo hi':Nat} (aa:lo<=hi') (ad:hi'<=xs.length)
  {A':Option Addr} {c':Nat} (dO:hi'-lo≠0->A'=A.map (·.add (lo*t.size))):
  ch φ ι w H n (.tup []) (bL H o (.arr e t (xs.take lo++List.replicate (hi'-lo) t.zero++xs.drop (lo+(hi'-lo))) false)) n ((Builtin.clear_ fW ty #[.slice A' (hi'-lo) c']).run P w):=by
 subst kA;obtain ⟨ax,fg⟩:=jb tab ab aU;obtain ⟨z,aH,z2,z3,z4⟩:=rj fg (hi'-lo);have lM:=z4 φ w;rw[<-z2]at lM;obtain ⟨cY,a1,k2,b5,dD,fZ,hj⟩:=K0 (P:=P) (n:=n) (k:=lo) (A':=A') h an aX lM (by simp;omega) (fun cf=>dO (by simpa using cf));rw[List.length_replicate]at b5 dD fZ hj;refine ⟨_,cY,φ,ι,?_,b5,dD,fZ,hj,YR,by simp[ae.ids,ae.idsL]⟩;unfold Builtin.clear_;simp only[List.getElem?_toArray,List.getElem?_cons_zero,Sem.run_bind,run_underlying ax,Result.andThen_ok,Sem.run_pure];cases A' with
 |none=>simp[k2 rfl]
 |some a=>
  cases aQ:hi'-lo with
  |zero=>
   have au:=a1 a rfl;rw[aQ]at au;simp[storeCells]at au;simp[au]
  |succ q=>
   have au:=a1 a rfl;rw[aQ]at au;have b8:(Array.map (fun i=>z.cells[i%z.cells.size]!) (Array.range ((q+1)*z.cells.size)))=Builtin.zeroCells z.cells (q+1):=rfl;rw[b8]at au;simp[aH,au]
theorem aju [Env] (tab:cA P cx) {T ty:TypeId} {fW:Array TypeId} (kA:fW= #[T]) {x:ae} (e:(KM cx T x).go H n=some (r,aC,aI)) (h:bP φ ι w H) {v:Value} (aw:x.rel φ ι w v) (gX: ∃d,P.underlying T=some d):
  ch φ ι w H n r aC aI ((Builtin.clear_ fW ty #[v]).run P w):=by
 unfold KM at e;split at e
 ·rename_i t o;have q:=go_bif e;clear e;obtain ⟨bW,e⟩:=q;obtain ⟨i,ab,aU⟩:=gh bW;simp only[HM.go]at e;split at e
  ·rename_i b8 u xs fz an;have q:=go_bif e;clear e;obtain ⟨ag,e⟩:=q;simp only[bB,db,Bool.not_eq_true']at ag;obtain ⟨rfl,rfl⟩:=ag;simp only[HM.go,bs,ct]at e;obtain ⟨rfl,rfl,rfl⟩:=e;obtain ⟨rfl,A,m,c,aX⟩:=aw;have bY:=h.obj o;rw[an]at bY;obtain ⟨hQ,cr,aY,ai,aq,bb,bx,bC⟩:=bY;rw[aX]at ai;obtain ⟨rfl,rfl,rfl⟩:=hh ai;subst aq;have:=Ya (n:=n) (ty:=ty) tab ab aU kA h an aX (lo:=0) (hi':=xs.length) (A':=A) (c':=c) (Nat.zero_le _) (Nat.le_refl _) (fun cf=>by
    rcases bC with bC |⟨b,pre,cur,fr,rfl,_⟩
    ·omega
    ·simp[fY])
   rw[aX];simpa using this
  ·simp[HM.go]at e
 ·rename_i t o lo hi';have q:=go_bif e;clear e;obtain ⟨bW,e⟩:=q;obtain ⟨i,ab,aU⟩:=gh bW;simp only[HM.go]at e;split at e
  ·rename_i b8 u xs fz an;have q:=go_bif e;clear e;obtain ⟨ag,e⟩:=q;simp only[bB,db,Bool.not_eq_true']at ag;obtain ⟨rfl,rfl⟩:=ag;simp only[HM.go,bs,ct]at e;obtain ⟨rfl,rfl,rfl⟩:=e;obtain ⟨A,m,c,A',aX,aa,ad,al,rfl,dO,cG⟩:=aw;have bY:=h.obj o;rw[an]at bY;obtain ⟨hQ,cr,aY,ai,aq,_⟩:=bY;rw[aX]at ai;obtain ⟨rfl,rfl,rfl⟩:=hh ai;exact Ya (n:=n) (ty:=ty) tab ab aU kA h an aX aa (by omega) (fun cf=>dO (by omega))
  ·simp[HM.go]at e
 ·obtain ⟨rfl,rfl,rfl⟩:=go_ret e;simp only[ae.rel]at aw;subst aw;obtain ⟨d,ax⟩:=gX;subst kA;refine ch.pure (r:=.tup []) (v:=.tuple #[]) h YR (by simp[ae.ids,ae.idsL]) ?_;unfold Builtin.clear_;cases d<;>simp[run_underlying ax]
 ·simp[HM.go]at e
end
open Go.RowKit
section
variable {P:Program} {cx:bS} {φ φ':bw} {ι ι':Nat->Value} {w w':World} {H:List aG} {n:Nat} {r:ae} {aC:List aG} {aI:Nat}
theorem aoo {d:dN} {cj:Value} {t:aD} {aT:List t.den} (x:ae) (ax:d.t.cast? (.list t) d.x=some aT) (h:(∃s,cj=.string ⟨⟨s⟩⟩/\d=⟨.list (.int .u8),ix s⟩/\x.isStr=true)\/ ∀t xs,d=⟨.list t,xs⟩->mY φ w t xs cj):
  ∃news,uY P φ w t aT cj news:=by
 obtain ⟨u,z⟩:=d;obtain ⟨e,rfl⟩:=pJ ax;simp only at e;subst e;rcases h with ⟨s,rfl,h,_⟩|h
 ·injection h with aa ad
  injection aa with aa
  subst aa;obtain rfl:=eq_of_heq ad;exact ⟨_,Is s⟩
 ·exact (h t _ rfl).source
theorem xJ {u t:aD} {xs:List u.den} {aT:List t.den} (h:u.list.cast? t.list xs=some aT): ∃e:u=t,aT=e▸xs:=by
 obtain ⟨e,rfl⟩:=pJ h;injection e with e
 subst e;exact ⟨rfl,rfl⟩
theorem ajs [Env] (tab:cA P cx) {T T2 ty:TypeId} {s x:ae} (e:(KK cx T T2 s x).go H n=some (r,aC,aI)) (h:bP φ ι w H) {vs cj:Value} (au:s.rel φ ι w vs) (aw:x.rel φ ι w cj) (ds:hD H n aI):
  ch φ ι w H n r aC aI ((Builtin.append_ #[T,T2] ty #[vs,cj]).run P w):=by
 unfold KK at e;split at e
 ·rename_i b8 t0 k m;have q:=go_bif e;clear e;obtain ⟨MP,e⟩:=q;obtain ⟨i2,eY,zW⟩:=gh MP;split at e
  ·rename_i i ab;split at e
   ·rename_i t aU;obtain ⟨ax,fg⟩:=jb tab ab aU;have nW:P.underlying T2=some (.int k):=by
     have:=(tab T2 i2 eY).desc;unfold jB at this;rw[zW]at this;exact this
    have q:=go_chk2 e;clear e;obtain ⟨ag,e⟩:=q;simp only[bB,db]at ag;obtain ⟨eo,dB⟩:=ag;simp only[HM.go,bs,ct]at e;obtain ⟨rfl,rfl,rfl⟩:=e;simp only[ae.rel]at au;subst au;obtain rfl:=cd.int.1 aw;have eo:(0:Int)<(m:Int):=eo;have dB:(m:Int)*(i.bytes:Int)<=(bm:Int):=dB;obtain ⟨a,rfl⟩:=Int.eq_ofNat_of_zero_le (show (0:Int)<=(m:Int) by omega);rw[bQ];obtain ⟨z,aH,z2,z3,z4⟩:=rj fg a;obtain ⟨cW,kS,g1,g2,g3,g4,g5,g6,g7,g8⟩:=fg;have sW:z=kS:=by
     have ai:=aH w;simp[zeroValue,typeInfo,g1,g5]at ai;exact ai.symm
    subst sW;have sS:bm=140737488355328:=rfl;have o9:a*i.bytes<=140737488355328:=by
     have q:((a*i.bytes:Nat):Int)<=((bm:Nat):Int):=by rw[Int.natCast_mul];exact dB
     exact sS▸Int.ofNat_le.1 q
    have MT:0<a:=by omega
    have aR:a<=a*i.bytes:=Nat.le_mul_of_pos_right _ g4;have dU:=Lib.run_append_nil_zeros (P:=P) w T T2 ty i.elem cW z k k ax nW g1 g5 a MT (by rw[g2];exact g6) (by omega) (by rw[g3];omega);rw[dU];have qQ:=grownCap_ge w a 0 i.elem;obtain ⟨gF,hq,GU,y3,y4⟩:=rj (P:=P) (t:=t) (bytes:=i.bytes) ⟨cW,z,g1,g2,g3,g4,g5,g6,g7,g8⟩ (grownCap w a 0 i.elem-a);have vV:gF=z:=by
     have ai:=hq w;simp[zeroValue,typeInfo,g1,g5]at ai;exact ai.symm
    subst vV;have hz:=gG.drew_alloc w (.cells (Builtin.zeroCells gF.cells a++Builtin.zeroCells gF.cells (grownCap w a 0 i.elem-a)) i.elem);have zt: ∀q,(Builtin.zeroCells gF.cells q).toList=((Array.range (q*t.size)).map fun i=>gF.cells[i%gF.cells.size]!).toList:=fun q=>by rw[<-z2];rfl
    have a7:=z4 φ (w.drew.alloc (.cells (Builtin.zeroCells gF.cells a++Builtin.zeroCells gF.cells (grownCap w a 0 i.elem-a)) i.elem));have aY:=y4 φ (w.drew.alloc (.cells (Builtin.zeroCells gF.cells a++Builtin.zeroCells gF.cells (grownCap w a 0 i.elem-a)) i.elem));rw[<-zt]at a7 aY;have dd:=a7.len (fun x c=>bg.len t x c);have cM:=aY.len (fun x c=>bg.len t x c);simp only[List.length_replicate,Array.length_toList]at dd cM;have:=si (φ:=φ) (ι:=ι) (n:=n) h (e:=i.elem) (t:=t) (xs:=List.replicate a t.zero) (c:=grownCap w a 0 i.elem) (b:=w.heap.size) hz (heap_alloc_new w.drew _) (Nat.le_refl _) (by simpa using qQ)
     (grownCap_le_maxLen w _ _ _ (by simp only[maxLen];omega)) (by rw[Array.size_append,dd,cM,<-Nat.add_mul];congr 1;omega) (tS _ _)
     (Cells.of_chunks (by rw[Array.toList_append];exact cw.append _ _ _ _ a7 aY) _)
     (by
      rw[Array.toList_append,List.length_replicate,List.take_append_of_le_length (by rw[Array.length_toList,dd];exact Nat.le_refl _),List.take_of_length_le (by rw[Array.length_toList,dd];exact Nat.le_refl _)];exact a7) ds.1 (ds.2 n (Nat.le_refl _) (by omega))
    simpa using this
   ·simp[HM.go]at e
  ·simp[HM.go]at e
 ·simp[HM.go]at e
theorem aj7 [Env] (tab:cA P cx) {T T2 ty:TypeId} {s x:ae} (e:(K3 cx T T2 s x).go H n=some (r,aC,aI)) (h:bP φ ι w H) {vs cj:Value} (au:s.rel φ ι w vs) (aw:x.rel φ ι w cj) (ds:hD H n aI):
  ch φ ι w H n r aC aI ((Builtin.append_ #[T,T2] ty #[vs,cj]).run P w):=by
 unfold K3 at e;split at e
 ·rename_i u xs c k m;have q:=go_bif e;clear e;obtain ⟨MP,e⟩:=q;obtain ⟨i2,eY,zW⟩:=gh MP;split at e
  ·rename_i i ab;split at e
   ·rename_i t aU;obtain ⟨ax,fg⟩:=jb tab ab aU;have nW:P.underlying T2=some (.int k):=by
     have:=(tab T2 i2 eY).desc;unfold jB at this;rw[zW]at this;exact this
    obtain ⟨fU,kg,n3,c9,cV⟩:=HM.go_bind_some e;clear e;obtain ⟨aB,rfl,rfl⟩:=go_opt c9;obtain ⟨rfl,rfl⟩:=xJ aB;have q:=go_chk2 cV;clear cV;obtain ⟨ag,e⟩:=q;simp only[bB,db]at ag;obtain ⟨⟨eo,EX⟩,dB⟩:=ag;simp only[HM.go,bs,ct]at e;obtain ⟨rfl,rfl,rfl⟩:=e;obtain ⟨A,sl,rfl,nf⟩:=au;obtain ⟨hQ,cr,aY,fy,ao,hle,bC⟩:=nf;injection fy with fy _
    obtain ⟨rfl,rfl,rfl⟩:=hh fy;obtain rfl:=cd.int.1 aw;have eo:(0:Int)<(m:Int):=eo;have dB:((fU.length:Int)+(m:Int))*(i.bytes:Int)<=(bm:Int):=dB;have EX:(c:Int)<(fU.length:Int)+(m:Int):=EX;obtain ⟨a,rfl⟩:=Int.eq_ofNat_of_zero_le (show (0:Int)<=(m:Int) by omega);rw[bQ];obtain ⟨z,aH,z2,z3,z4⟩:=rj fg a;have avb:=fg;obtain ⟨cW,kS,g1,g2,g3,g4,g5,g6,g7,g8⟩:=fg;have sW:z=kS:=by
     have ai:=aH w;simp[zeroValue,typeInfo,g1,g5]at ai;exact ai.symm
    subst sW;have sS:bm=140737488355328:=rfl;have o9:(fU.length+a)*i.bytes<=140737488355328:=by
     have q:(((fU.length+a)*i.bytes:Nat):Int)<=((bm:Nat):Int):=by rw[Int.natCast_mul,Int.natCast_add];exact dB
     exact sS▸Int.ofNat_le.1 q
    have MT:0<a:=by omega
    have aR:fU.length+a<=(fU.length+a)*i.bytes:=Nat.le_mul_of_pos_right _ g4;have fc:a*i.bytes<=(fU.length+a)*i.bytes:=Nat.mul_le_mul_right _ (by omega);have pa:c<sl+a:=by omega
    obtain ⟨olds,hold,qN⟩: ∃olds,(Builtin.firstCells u.size sl (.slice A sl c)).run P w.drew=.ok olds.toArray w.drew/\cw (bg φ w u) fU olds:=by
     rcases bC with bC |⟨b,o,BI,rfl,ff,av⟩
     ·subst bC;have:fU=[]:=List.eq_nil_of_length_eq_zero ao;subst this;refine ⟨[],?_,rfl⟩;cases A with
      |none=>exact run_firstCells_none _ _ _ _ _
      |some a=>simpa using run_firstCells_some (P:=P) w.drew u.size 0 a 0 c [] (by simp) (by simp)
     ·have iN:=av.len (fun x c=>bg.len u x c);exact ⟨BI,run_firstCells_some (P:=P) w.drew u.size sl _ sl c BI (by rw[iN,ao]) (fun j v ay=>by rw[fY];exact (ff j v ay).2),av⟩
    have qP:=growslice_fits (bytes:=i.bytes) pa (by rw[<-ao];omega);have dU:=Lib.run_append_grow_zeros (P:=P) w T T2 ty i.elem cW z k k ax nW g1 g5 A sl c olds (by rw[g2];exact hold) a MT (by rw[g2];exact g6) pa (by rw[<-ao];omega) (by rw[g3];omega) (by rw[g3];omega);rw[dU];have qQ:=grownCap_ge w (sl+a) c i.elem;obtain ⟨gF,hq,GU,y3,y4⟩:=rj (P:=P) (t:=u) (bytes:=i.bytes) ⟨cW,z,g1,g2,g3,g4,g5,g6,g7,g8⟩ (grownCap w (sl+a) c i.elem-(sl+a));have vV:gF=z:=by
     have ai:=hq w;simp[zeroValue,typeInfo,g1,g5]at ai;exact ai.symm
    subst vV;have hz:=gG.drew_alloc w (.cells (olds.toArray++Builtin.zeroCells gF.cells a++Builtin.zeroCells gF.cells (grownCap w (sl+a) c i.elem-(sl+a))) i.elem);have zt: ∀q,(Builtin.zeroCells gF.cells q).toList=((Array.range (q*u.size)).map fun i=>gF.cells[i%gF.cells.size]!).toList:=fun q=>by rw[<-z2];rfl
    have a7:=z4 φ (w.drew.alloc (.cells (olds.toArray++Builtin.zeroCells gF.cells a++Builtin.zeroCells gF.cells (grownCap w (sl+a) c i.elem-(sl+a))) i.elem));have aY:=y4 φ (w.drew.alloc (.cells (olds.toArray++Builtin.zeroCells gF.cells a++Builtin.zeroCells gF.cells (grownCap w (sl+a) c i.elem-(sl+a))) i.elem));rw[<-zt]at a7 aY;have Ea:=qN.imp fun x ZS=>bg.mono (φ':=φ) (w':=w.drew.alloc (.cells (olds.toArray++Builtin.zeroCells gF.cells a++Builtin.zeroCells gF.cells (grownCap w (sl+a) c i.elem-(sl+a))) i.elem)) (fun _ _ h=>h) (fun b k av=>hz.cell (jm h av)) u x ZS
    have acP:=Ea.len (fun x c=>bg.len u x c);have dd:=a7.len (fun x c=>bg.len u x c);have cM:=aY.len (fun x c=>bg.len u x c);simp only[List.length_replicate,Array.length_toList]at dd cM;have hlen:(fU++List.replicate a u.zero).length=sl+a:=by simp[ao]
    have ZR:=cw.append _ _ _ _ Ea a7;have fq:(olds.toArray++Builtin.zeroCells gF.cells a++Builtin.zeroCells gF.cells (grownCap w (sl+a) c i.elem-(sl+a))).toList=(olds++(Builtin.zeroCells gF.cells a).toList)++(Builtin.zeroCells gF.cells (grownCap w (sl+a) c i.elem-(sl+a))).toList:=by simp
    have acQ:(olds++(Builtin.zeroCells gF.cells a).toList).length=(fU++List.replicate a u.zero).length*u.size:=by
     rw[hlen,List.length_append,acP,ao,Nat.add_mul];congr 1
    have:=si (φ:=φ) (ι:=ι) (n:=n3) h (e:=i.elem) (t:=u) (xs:=fU++List.replicate a u.zero) (c:=grownCap w (sl+a) c i.elem) (b:=w.heap.size) hz (heap_alloc_new w.drew _) (Nat.le_refl _) (by rw[hlen];exact qQ)
     (grownCap_le_maxLen w _ _ _ (by simp only[maxLen];omega)) (by
      simp only[Array.size_append,List.size_toArray];rw[acP,dd,cM,ao,<-Nat.add_mul,<-Nat.add_mul];congr 1;omega) (tS _ _)
     (Cells.of_chunks (by rw[fq];exact cw.append _ _ _ _ ZR aY) _)
     (by
      rw[fq,List.take_append_of_le_length (by rw[acQ];exact Nat.le_refl _),List.take_of_length_le (by rw[acQ];exact Nat.le_refl _)];exact ZR) ds.1 (ds.2 n3 (Nat.le_refl _) (by omega))
    rwa [hlen]at this
   ·simp[HM.go]at e
  ·simp[HM.go]at e
 ·exact ajs tab e h au aw ds
theorem aiY [Env] (tab:cA P cx) {T T2 ty:TypeId} {s x:ae} (e:(Kd cx T T2 s x).go H n=some (r,aC,aI)) (h:bP φ ι w H) {vs cj:Value} (au:s.rel φ ι w vs) (aw:x.rel φ ι w cj)
  (ls: ∀i∈s.ids,(aF H i).live=true) (eJ: ∀i∈x.ids,(aF H i).live=true) (ds:hD H n aI):
  ch φ ι w H n r aC aI ((Builtin.append_ #[T,T2] ty #[vs,cj]).run P w):=by
 unfold Kd at e;cases gX:oV cx T2
 ·rw[gX,aL]at e;exact aj7 tab e h au aw ds
 rw[gX,aA]at e;split at e
 ·rename_i i ab;split at e
  ·rename_i t aU;obtain ⟨ax,fg⟩:=jb tab ab aU;have dH:DW P T T2 i.elem t i.bytes:=⟨ax,YW tab gX,fg⟩;obtain ⟨d,H1,cC,ai,aq⟩:=HM.go_bind_some e;clear e;obtain ⟨rfl,cU,g1,zy⟩:=Cw ai h aw eJ;obtain ⟨aT,ef,dj,bb,bx⟩:=HM.go_bind_some aq;clear aq;obtain ⟨zv,rfl,rfl⟩:=go_opt bb;obtain ⟨news,src⟩:=aoo (P:=P) x zv zy;have j6:=ae.rel_step g1.step g1.keep ls au;have avz: ∀i∈s.ids,(aF ef i).live=true:=fun i ab=>by rw[g1.live];exact ls i ab
   have iM:=ds.ghost g1;refine ch.after g1 ?_;split at bx
   ·rename_i b8 u;have q:=go_chk2 bx;clear bx;obtain ⟨ag,bx⟩:=q;have ag:aT.length*i.bytes<=bm:=by simpa using ag
    simp only[HM.go,bs,ct]at bx;obtain ⟨rfl,rfl,rfl⟩:=bx;simp only[ae.rel]at j6;subst j6;have gB:=iM.2 dj (Nat.le_refl _) (by omega);by_cases bf:aT.length=0
    ·have z8:aT=[]:=List.eq_nil_of_length_eq_zero bf;subst z8;have sO:news=[]:=List.eq_nil_of_length_eq_zero (by simpa using src.chunks.len (fun x c=>bg.len t x c));subst sO;have dU:=As (ty:=ty) dH (A:=none) (m:=0) (c:=0) src (Nat.le_refl _) (w':=w) (fun a _=>rfl) (fun _=>rfl);rw[dU];exact ZM g1.rel iM.1 gB
    ·obtain ⟨c',zs,ar,aM,bF,cT,dU⟩:=Pd (ty:=ty) dH (A:=none) (m:=0) (c:=0) (olds:=[]) src (by omega) (run_firstCells_none _ _ _ _ _) (by simpa using ag);rw[dU];have hz:=gG.drew_alloc w (.cells (([]:List Value).toArray++news.toArray++zs) i.elem);have gN:=src.chunks.len (fun x c=>bg.len t x c);have sJ:(([]:List Value).toArray++news.toArray++zs).toList=news++zs.toList:=by simp
     have:=si (φ:=cU) (ι:=ι) (n:=dj) g1.rel (e:=i.elem) (t:=t) (xs:=aT) (c:=c') (b:=w.heap.size) hz (heap_alloc_new w.drew _) (Nat.le_refl _) (by omega) aM
      (by simp only[Array.size_append,List.size_toArray,List.length_nil,gN,bF,Nat.zero_add];rw[<-Nat.add_mul];congr 1;omega) (tS _ _)
      (by
        obtain ⟨us,kI⟩:=cT;exact Cells.of_chunks (by rw[sJ];exact cw.append _ _ _ _ (src.chunks.imp fun x c=>bg.mono (fun _ _ h=>h) (fun b k av=>hz.cell (jm g1.rel av)) t x c) (kI _ _)) _)
      (by
        rw[sJ,List.take_append_of_le_length (by rw[gN];exact Nat.le_refl _),List.take_of_length_le (by rw[gN];exact Nat.le_refl _)];exact src.chunks.imp fun x c=>bg.mono (fun _ _ h=>h) (fun b k av=>hz.cell (jm g1.rel av)) t x c) iM.1 gB
     simpa using this
   ·rename_i u o;simp only[HM.go]at bx;split at bx
    ·rename_i b8 hp xs fz an;obtain ⟨fU,kg,n3,c9,cV⟩:=HM.go_bind_some bx;clear bx;obtain ⟨aB,rfl,rfl⟩:=go_opt c9;obtain ⟨rfl,rfl⟩:=xJ aB;have q:=go_bif cV;clear cV;obtain ⟨jF,cV⟩:=q;have jF:b8=i.elem:=by simpa using jF
     subst jF;have q:=go_chk2 cV;clear cV;obtain ⟨ag,cV⟩:=q;have ag:(fU.length+aT.length)*i.bytes<=bm:=by simpa using ag
     simp only[HM.go,bs,ct]at cV;obtain ⟨rfl,rfl,rfl⟩:=cV;obtain ⟨rfl,A,m,c,aX⟩:=j6;have bY:=g1.rel.obj o;rw[an]at bY;obtain ⟨hQ,cr,aY,fy,k6,_⟩:=bY;rw[aX]at fy;obtain ⟨rfl,rfl,rfl⟩:=hh fy;have:=Xl (ty:=ty) g1.rel dH an aX (k:=m) (A':=A) (Nat.le_refl _) (fun _=>rfl) (fun _=>rfl) src (by rw[<-k6];exact ag) iM.1 (iM.2 n3 (Nat.le_refl _) (by omega));rw[aX]
     rwa [List.take_of_length_le (by omega)]at this
    ·simp[HM.go]at bx
   ·rename_i u o hi';cases abg:ZJ x o
    case true=>
     rw[abg,aA]at bx;simp only[HM.go]at bx;split at bx
     ·rename_i b8 hp xs fz an;obtain ⟨fU,kg,n3,c9,cV⟩:=HM.go_bind_some bx;clear bx;obtain ⟨aB,rfl,rfl⟩:=go_opt c9;obtain ⟨rfl,rfl⟩:=xJ aB;have q:=go_bif cV;clear cV;obtain ⟨jF,cV⟩:=q;simp only[bB,Bool.not_eq_true']at jF;obtain ⟨jF,rfl⟩:=jF;have jF:b8=i.elem:=by simpa using jF
      subst jF;have q:=go_chk2 cV;clear cV;obtain ⟨ag,cV⟩:=q;have ag:hi'+aT.length<=fU.length:=by simpa using ag
      simp only[HM.go,bs,ct]at cV;obtain ⟨rfl,rfl,rfl⟩:=cV;obtain ⟨A,m,c,A',aX,aa,ad,al,rfl,dO,cG⟩:=j6;have bY:=g1.rel.obj o;rw[an]at bY;obtain ⟨hQ,cr,aY,fy,k6,_⟩:=bY;rw[aX]at fy;obtain ⟨rfl,rfl,rfl⟩:=hh fy;by_cases fO:c=0
      ·have bf:aT=[]:=List.eq_nil_of_length_eq_zero (by omega);have z6:fU=[]:=List.eq_nil_of_length_eq_zero (by omega);have aqG:hi'=0:=by omega
       subst bf aqG;have sO:news=[]:=List.eq_nil_of_length_eq_zero (by simpa using src.chunks.len (fun x c=>bg.len hp x c));subst sO;have dU:=As (ty:=ty) dH (A:=A') (m:=0) (c:=c-0) src (by simp) (w':=w) (fun a _=>rfl) (fun _=>rfl);rw[dU];have he:(aG.arr i.elem hp (fU.take 0++[]++fU.drop (0+([]:List hp.den).length)) false)=aF kg o:=by rw[an];simp
       rw[he,J1 kg o (fl (by rw[an];rfl))];exact ch.pure (r:=.view hp o 0 (0+([]:List hp.den).length)) g1.rel (xV ⟨A,m,c,A',aX,by simp,by simp,al,by simp,fun h=>by simpa using dO h,cG⟩) (by
        intro j ay;have:j=o:=by simpa [ae.ids] using ay
        subst this;rw[an];rfl) rfl
      ·have EV:A'=A:=by
        rw[dO fO];obtain ⟨b,bk,rfl⟩:=cG fO;simp[fY]
       obtain ⟨cY,a1,k2,b5,dD,fZ,hj⟩:=K0 (n:=n3) (k:=hi') (A':=A.map (·.add (hi'*hp.size))) g1.rel an aX src.chunks ag (fun _=>rfl);have dU:=As (ty:=ty) dH (A:=A') (m:=hi') (c:=c-0) src (by omega) (w':=cY) (fun a aR=>a1 _ (by rw[<-EV,aR];rfl)) (fun aR=>k2 (by rw[<-EV,aR];rfl));have b8:hi'-0=hi':=Nat.sub_zero _;rw[b8,dU];refine ⟨_,cY,cU,ι,rfl,b5,dD,fZ,hj,xV ⟨A,m,c,A',aX,Nat.zero_le _,by omega,al,by simp,fun h=>by simpa using dO h,cG⟩,fun j ay=> ?_⟩;have:j=o:=by simpa [ae.ids] using ay
       subst this;rw[fk _ j _ j (Nat.le_of_lt (fl (by rw[an];rfl))),if_pos rfl];rfl
     ·simp[HM.go]at bx
    rw[abg,aL]at bx;simp only[HM.go]at bx;split at bx
    ·rename_i b8 hp xs fz an;obtain ⟨fU,kg,n3,c9,cV⟩:=HM.go_bind_some bx;clear bx;obtain ⟨aB,rfl,rfl⟩:=go_opt c9;obtain ⟨rfl,rfl⟩:=xJ aB;have q:=go_bif cV;clear cV;obtain ⟨jF,cV⟩:=q;simp only[bB,Bool.not_eq_true']at jF;obtain ⟨jF,rfl⟩:=jF;have jF:b8=i.elem:=by simpa using jF
     subst jF;have q:=go_chk2 cV;clear cV;obtain ⟨ag,cV⟩:=q;have ag:((fU.take hi').length+aT.length)*i.bytes<=bm:=by simpa using ag
     simp only[HM.go,bs,ct]at cV;obtain ⟨rfl,rfl,rfl⟩:=cV;obtain ⟨A,m,c,A',aX,aa,ad,al,rfl,dO,cG⟩:=j6;have bY:=g1.rel.obj o;rw[an]at bY;obtain ⟨hQ,cr,aY,fy,k6,_⟩:=bY;rw[aX]at fy;obtain ⟨rfl,rfl,rfl⟩:=hh fy;have ao:(fU.take hi').length=hi':=by simp;omega
     rw[ao]at ag;have:=Xl (ty:=ty) g1.rel dH an aX (k:=hi') (A':=A') ad (fun h=>by cases h) (fun fO=>by
      rw[dO fO];obtain ⟨b,bk,rfl⟩:=cG fO;simp[fY]) src ag iM.1 (iM.2 n3 (Nat.le_refl _) (by omega))
     simpa using this
    ·simp[HM.go]at bx
   ·rename_i u xs;obtain ⟨fU,kg,n3,c9,cV⟩:=HM.go_bind_some bx;clear bx;obtain ⟨aB,rfl,rfl⟩:=go_opt c9;obtain ⟨rfl,rfl⟩:=xJ aB;have q:=go_chk2 cV;clear cV;obtain ⟨ag,cV⟩:=q;simp only[bB,db]at ag;simp only[HM.go,bs,ct]at cV;obtain ⟨rfl,rfl,rfl⟩:=cV;obtain ⟨A,m,rfl,nf⟩:=j6;obtain ⟨hQ,cr,aY,fy,ao,hle,bC⟩:=nf;injection fy with fy _
    obtain ⟨rfl,rfl,rfl⟩:=hh fy;obtain ⟨olds,hold,qN⟩: ∃olds,(Builtin.firstCells u.size m (.slice A m m)).run P w.drew=.ok olds.toArray w.drew/\cw (bg cU w u) fU olds:=by
     rcases bC with bC |⟨b,o,BI,rfl,ff,av⟩
     ·subst bC;have:fU=[]:=List.eq_nil_of_length_eq_zero ao;subst this;refine ⟨[],?_,rfl⟩;cases A with
      |none=>exact run_firstCells_none _ _ _ _ _
      |some a=>simpa using run_firstCells_some (P:=P) w.drew u.size 0 a 0 0 [] (by simp) (by simp)
     ·have iN:=av.len (fun x c=>bg.len u x c);exact ⟨BI,run_firstCells_some (P:=P) w.drew u.size m _ m m BI (by rw[iN,ao]) (fun j v ay=>by rw[fY];exact (ff j v ay).2),av⟩
    obtain ⟨c',zs,ar,aM,bF,cT,dU⟩:=Pd (ty:=ty) dH (A:=A) (m:=m) (c:=m) (olds:=olds) src (by omega) hold (by rw[<-ao];exact ag.2);rw[dU];have hz:=gG.drew_alloc w (.cells (olds.toArray++news.toArray++zs) i.elem);have gN:=src.chunks.len (fun x c=>bg.len u x c);have mC:=qN.len (fun x c=>bg.len u x c);have fq:=cw.append _ _ _ _ qN src.chunks;have hlen:(fU++aT).length=m+aT.length:=by simp[ao]
    have sJ:(olds.toArray++news.toArray++zs).toList=(olds++news)++zs.toList:=by simp
    have aa4:(olds++news).length=(fU++aT).length*u.size:=by simp[mC,gN,Nat.add_mul]
    have:=si (φ:=cU) (ι:=ι) (n:=n3) g1.rel (e:=i.elem) (t:=u) (xs:=fU++aT) (c:=c') (b:=w.heap.size) hz (heap_alloc_new w.drew _) (Nat.le_refl _) (by rw[hlen];exact ar) aM
     (by simp only[Array.size_append,List.size_toArray,mC,gN,bF,ao];rw[<-Nat.add_mul,<-Nat.add_mul];congr 1;omega) (tS _ _)
     (by
       obtain ⟨us,kI⟩:=cT;exact Cells.of_chunks (by rw[sJ];exact cw.append _ _ _ _ (fq.imp fun x c=>bg.mono (fun _ _ h=>h) (fun b k av=>hz.cell (jm g1.rel av)) u x c) (kI _ _)) _)
     (by
       rw[sJ,List.take_append_of_le_length (by rw[aa4];exact Nat.le_refl _),List.take_of_length_le (by rw[aa4];exact Nat.le_refl _)];exact fq.imp fun x c=>bg.mono (fun _ _ h=>h) (fun b k av=>hz.cell (jm g1.rel av)) u x c) iM.1 (iM.2 n3 (Nat.le_refl _) (by omega))
    rwa [hlen]at this
   ·simp[HM.go]at bx
  ·simp[HM.go]at e
 ·simp[HM.go]at e
end
open Go.RowKit
section
variable {P:Program} {cx:bS} {φ φ':bw} {ι ι':Nat->Value} {w w':World} {H:List aG} {n:Nat} {r:ae} {aC:List aG} {aI:Nat}
structure DX (P:Program) (φ:bw) (w:World) (t:aD) (aT:List t.den) (x:Value) (q:Nat) (news:List Value):Prop where
 len: ∀w,(Builtin.lenOf x).run P w=.ok aT.length w
 chunks:cw (bg φ w t) (aT.take q) news
 cells:(Builtin.firstCells t.size (Nat.min aT.length q) x).run P w=.ok news.toArray w
theorem mY.first {t:aD} {aT:List t.den} {v:Value} (h:mY φ w t aT v) (q:Nat): ∃news,DX P φ w t aT v q news:=by
 obtain ⟨A,c,news,rfl,aB,av,bC⟩:=h;have jg:=av.take (fun x c=>bg.len t x c) q;have gM:=jg.len (fun x c=>bg.len t x c);refine ⟨_,fun w=>by simp[Builtin.lenOf],jg,?_⟩;have Nr:(aT.take q).length=Nat.min aT.length q:=by rw[List.length_take,Nat.min_comm]
 rw[Nr]at gM;rcases bC with bC |⟨b,o,rfl,eX⟩
 ·have:aT=[]:=List.eq_nil_of_length_eq_zero bC;subst this;simp only[cw]at av;subst av;cases A with
  |none=>simp[Builtin.firstCells]
  |some a=>exact run_firstCells_some (P:=P) w t.size _ a 0 c _ gM (by simp)
 ·exact run_firstCells_some (P:=P) w t.size _ _ aT.length c _ gM (fun j u ay=>by
   rw[fY];refine eX j u ?_;have a8:j<(news.take (q*t.size)).length:=(List.getElem?_eq_some_iff.1 ay).1;rw[List.length_take]at a8
   rwa [List.getElem?_take_of_lt (by omega)]at ay)
theorem alA (s:List UInt8) (q:Nat):DX P φ w (.int .u8) (ix s) (.string ⟨⟨s⟩⟩) q ((s.take q).map fun b=>.int .u8 (b.toNat:Int)):=by
 have dh:(⟨⟨s⟩⟩:ByteArray).size=s.length:=rfl;refine ⟨fun w=>by simp[Builtin.lenOf,ix,dh],?_,?_⟩
 ·have e:(ix s).take q=ix (s.take q):=by simp[ix,List.map_take]
  rw[e];exact (Is (P:=P) (φ:=φ) (w:=w) (s.take q)).chunks
 ·unfold Builtin.firstCells;simp only[Sem.run_pure];congr 1;apply Array.ext';have ao:(ix s).length=s.length:=by simp[ix]
  rw[ao];simp only[ByteArray.data_extract,Array.toList_map,Array.toList_extract,List.extract_eq_take_drop,List.drop_zero,Nat.sub_zero];congr 1;rw[show s.length.min q=min s.length q from rfl,Nat.min_def];split
  ·rw[List.take_of_length_le (Nat.le_refl _),List.take_of_length_le (by omega)]
  ·rfl
theorem YG {d:dN} {cj:Value} {t:aD} {aT:List t.den} (x:ae) (q:Nat) (ax:d.t.cast? (.list t) d.x=some aT) (h:(∃s,cj=.string ⟨⟨s⟩⟩/\d=⟨.list (.int .u8),ix s⟩/\x.isStr=true)\/ ∀t xs,d=⟨.list t,xs⟩->mY φ w t xs cj):
  ∃news,DX P φ w t aT cj q news:=by
 obtain ⟨u,z⟩:=d;obtain ⟨e,rfl⟩:=pJ ax;simp only at e;subst e;rcases h with ⟨s,rfl,h,_⟩|h
 ·injection h with aa ad
  injection aa with aa
  subst aa;obtain rfl:=eq_of_heq ad;exact ⟨_,alA s q⟩
 ·exact (h t _ rfl).first q
theorem YD [Env] {T T2 ty e:TypeId} {t:aD} {bytes:Nat} (ax:P.underlying T=some (.slice e)) (fg:qC P e t bytes) (h:bP φ ι w H) {o:Nat} {b8:TypeId} {xs:List t.den} (an:aF H o=.arr b8 t xs false) {A:Option Addr} {m c:Nat} (aX:ι o=.slice A m c) {lo hi':Nat} (aa:lo<=hi') (ad:hi'<=xs.length)
  {A':Option Addr} {c':Nat} (dO:hi'-lo≠0->A'=A.map (·.add (lo*t.size))) {aT:List t.den} {cj:Value} {news:List Value} (aJ:DX P φ w t aT cj (hi'-lo) news):
  ch φ ι w H n (.dat (.int .i64) ((aT.take (hi'-lo)).length:Int)) (bL H o (.arr b8 t (xs.take lo++aT.take (hi'-lo)++xs.drop (lo+(aT.take (hi'-lo)).length)) false)) n ((Builtin.copy_ #[T,T2] ty #[.slice A' (hi'-lo) c',cj]).run P w):=by
 have dH:(aT.take (hi'-lo)).length=Nat.min aT.length (hi'-lo):=by rw[List.length_take,Nat.min_comm]
 have hle:(aT.take (hi'-lo)).length<=hi'-lo:=by rw[List.length_take];omega
 obtain ⟨cY,a1,k2,b5,dD,fZ,hj⟩:=K0 (P:=P) (n:=n) (k:=lo) (A':=A') h an aX aJ.chunks (by omega) (fun cf=>dO (by omega));obtain ⟨cW,z,g1,g2,g3,g4,g5,g6,g7,g8⟩:=fg;refine ⟨_,cY,φ,ι,?_,b5,dD,fZ,hj,gz (cd.int.2 rfl),by simp[ae.ids]⟩;unfold Builtin.copy_;simp only[List.getElem?_toArray,List.getElem?_cons_zero,List.getElem?_cons_succ,Sem.run_bind,run_underlying ax,Result.andThen_ok,Sem.run_pure,aJ.len];have dh: ∀w,(sizeOf e).run P w=.ok t.size w:=fun w=>by simp[sizeOf,typeInfo,g1,g2]
 rw[dh];simp only[Result.andThen_ok];rw[aJ.cells];simp only[Result.andThen_ok];rw[dH];cases A' with
 |none=>simp[k2 rfl,goInt]
 |some a=>simp[a1 a rfl,goInt]
theorem aj9 [Env] (tab:cA P cx) {T T2 ty:TypeId} {d x:ae} (e:(K7 cx T d x).go H n=some (r,aC,aI)) (h:bP φ ι w H) {v cj:Value} (ax:d.rel φ ι w v) (aw:x.rel φ ι w cj)
  (ls: ∀i∈d.ids,(aF H i).live=true) (eJ: ∀i∈x.ids,(aF H i).live=true):
  ch φ ι w H n r aC aI ((Builtin.copy_ #[T,T2] ty #[v,cj]).run P w):=by
 unfold K7 at e;split at e
 ·rename_i t o;have q:=go_bif e;clear e;obtain ⟨bW,e⟩:=q;obtain ⟨i,ab,aU⟩:=gh bW;obtain ⟨ng,fg⟩:=jb tab ab aU;obtain ⟨apz,H1,cC,ai,aq⟩:=HM.go_bind_some e;clear e;obtain ⟨rfl,cU,g1,zy⟩:=Cw ai h aw eJ;refine ch.after g1 ?_;have kB:=ae.rel_step g1.step g1.keep ls ax;simp only[HM.go]at aq;split at aq
  ·rename_i b8 u xs fz an;obtain ⟨aT,ef,dj,bb,bx⟩:=HM.go_bind_some aq;clear aq;obtain ⟨zv,rfl,rfl⟩:=go_opt bb;have q:=go_bif bx;clear bx;obtain ⟨ag,bx⟩:=q;simp only[bB,db,Bool.not_eq_true']at ag;obtain ⟨rfl,rfl⟩:=ag;simp only[HM.go,bs,ct]at bx;obtain ⟨rfl,rfl,rfl⟩:=bx;obtain ⟨rfl,A,m,c,aX⟩:=kB;have bY:=g1.rel.obj o;rw[an]at bY;obtain ⟨hQ,cr,aY,bh,bZ,da,c4,bC⟩:=bY;rw[aX]at bh;obtain ⟨rfl,rfl,rfl⟩:=hh bh;subst bZ;obtain ⟨news,aJ⟩:=YG (P:=P) x xs.length zv zy;have:=YD (n:=dj) (ty:=ty) (T2:=T2) ng fg g1.rel an aX (lo:=0) (hi':=xs.length) (A':=A) (c':=c) (Nat.zero_le _) (Nat.le_refl _) (fun cf=>by
    rcases bC with bC |⟨b,pre,cur,fr,rfl,_⟩
    ·omega
    ·simp[fY]) aJ
   rw[aX];simpa using this
  ·simp[HM.go]at aq
 ·rename_i t o lo hi';have q:=go_bif e;clear e;obtain ⟨bW,e⟩:=q;obtain ⟨i,ab,aU⟩:=gh bW;obtain ⟨ng,fg⟩:=jb tab ab aU;obtain ⟨apz,H1,cC,ai,aq⟩:=HM.go_bind_some e;clear e;obtain ⟨rfl,cU,g1,zy⟩:=Cw ai h aw eJ;refine ch.after g1 ?_;have kB:=ae.rel_step g1.step g1.keep ls ax;simp only[HM.go]at aq;split at aq
  ·rename_i b8 u xs fz an;obtain ⟨aT,ef,dj,bb,bx⟩:=HM.go_bind_some aq;clear aq;obtain ⟨zv,rfl,rfl⟩:=go_opt bb;have q:=go_bif bx;clear bx;obtain ⟨ag,bx⟩:=q;simp only[bB,db,Bool.not_eq_true']at ag;obtain ⟨rfl,rfl⟩:=ag;simp only[HM.go,bs,ct]at bx;obtain ⟨rfl,rfl,rfl⟩:=bx;obtain ⟨A,m,c,A',aX,aa,ad,al,rfl,dO,cG⟩:=kB;have bY:=g1.rel.obj o;rw[an]at bY;obtain ⟨hQ,cr,aY,bh,bZ,da,c4,bC⟩:=bY;rw[aX]at bh;obtain ⟨rfl,rfl,rfl⟩:=hh bh;obtain ⟨news,aJ⟩:=YG (P:=P) x (hi'-lo) zv zy;exact YD (n:=dj) (ty:=ty) (T2:=T2) ng fg g1.rel an aX aa (by omega) (fun cf=>dO (by omega)) aJ
  ·simp[HM.go]at aq
 ·simp[HM.go]at e
end
open Go.RowKit
theorem ZG {α:Type} (L vs:List α) (a off k s N:Nat) (aa:off+k<=s) (ad:a+s<=N) (al:N<=L.length) (aX:vs.length=k):
  (L.take (a+off)++vs++L.drop (a+off+k)).take N=(L.take N).take a++(((((L.take N).drop a).take s).take off)++vs++((((L.take N).drop a).take s).drop (off+k)))++(L.take N).drop (a+s):=by
 apply List.ext_getElem?;intro j;simp only[List.getElem?_append,List.getElem?_take,List.getElem?_drop,List.length_append,List.length_take,List.length_drop]
 grind
section
variable {P:Program} {cx:bS} {φ φ':bw} {ι ι':Nat->Value} {w w':World} {H:List aG} {n:Nat} {r:ae} {aC:List aG} {aI:Nat}
theorem JI {d:dN} {vs:List Value} (ax:bg φ w d.t d.x vs): ∀(t:aD) (p:List Nat) (x y:t.den) (cs:List Value),t.setAt x p d=some y->bg φ w t x cs->t.at_ p=some d.t/\bg φ w t y (cs.take (t.offAt p)++vs++cs.drop (t.offAt p+d.t.size))
 |t,[],x,y,cs,au,aB=>by
  have sT:d.t.cast? t d.x=some y:=by cases t<;>exact au
  obtain ⟨e,rfl⟩:=pJ sT;obtain ⟨u,z⟩:=d;simp only at e;subst e;refine ⟨rfl,?_⟩;simp only[aD.offAt,List.take_zero,List.nil_append,Nat.zero_add];rw[List.drop_of_length_le (by rw[aB.len];exact Nat.le_refl _),List.append_nil];exact ax
 | .pair a b,0::p,x,y,cs,au,aB=>by
  obtain ⟨a7,aY,rfl,aa,ad⟩:=aB;simp only[aD.setAt]at au;obtain ⟨z,bz,rfl⟩:=Option.map_eq_some_iff.1 au;obtain ⟨a1,k2⟩:=JI ax a p x.1 z a7 bz aa;have hle:=qc a1;have ao:=aa.len;refine ⟨by simp[aD.at_,aD.nth,a1],_,aY,?_,k2,ad⟩;have ai:(aD.pair a b).offAt (0::p)=a.offAt p:=by simp[aD.offAt,aD.offs,aD.nth]
  rw[ai,List.take_append_of_le_length (by omega),List.drop_append_of_le_length (by omega)];simp
 | .pair a b,(i+1)::p,x,y,cs,au,aB=>by
  obtain ⟨a7,aY,rfl,aa,ad⟩:=aB;simp only[aD.setAt]at au;obtain ⟨z,bz,rfl⟩:=Option.map_eq_some_iff.1 au;obtain ⟨a1,k2⟩:=JI ax b (i::p) x.2 z aY bz ad;have ao:=aa.len;refine ⟨by simpa [aD.at_,aD.nth] using a1,a7,_,?_,aa,k2⟩;have ai:(aD.pair a b).offAt ((i+1)::p)=a7.length+b.offAt (i::p):=by simp[aD.offAt,aD.offs,aD.nth,ao,Nat.add_assoc]
  rw[ai,List.take_length_add_append,Nat.add_assoc,<-List.drop_drop,List.drop_left];simp
 | .bool,_::_,x,y,cs,au,aB=>by simp[aD.setAt]at au
 | .int _,_::_,x,y,cs,au,aB=>by simp[aD.setAt]at au
 | .str,_::_,x,y,cs,au,aB=>by simp[aD.setAt]at au
 | .opq,_::_,x,y,cs,au,aB=>by simp[aD.setAt]at au
 | .unit,_::_,x,y,cs,au,aB=>by simp[aD.setAt]at au
 | .list _,_::_,x,y,cs,au,aB=>by simp[aD.setAt]at au
theorem XT: ∀(u:aD) (z:u.den) (cs:List Value),u.chain=true->bg φ w u z cs->
  ae.relL φ ι w ((u.parts z).map fun d=>ae.dat d.t d.x) cs/\ae.fitsL ((u.parts z).map fun d=>ae.dat d.t d.x) u=true/\ae.idsL ((u.parts z).map fun d=>ae.dat d.t d.x)=[]
 | .unit,z,cs,_,h=>⟨h,by simp[aD.parts,ae.fitsL],rfl⟩
 | .pair a b,z,cs,aB,⟨a7,aY,e,aa,ad⟩=>by
  obtain ⟨a1,k2,b5⟩:=XT b z.2 aY aB ad;obtain ⟨dd,cM⟩:=cd.of aa;refine ⟨⟨_,aY,by rw[cM];exact e,gz dd,a1⟩,?_,?_⟩
  ·simp only[aD.parts,List.map_cons,ae.fitsL,ae.fits,k2];simp
  ·simp only[aD.parts,List.map_cons,ae.idsL,ae.ids,b5];rfl
 | .bool,_,_,h,_=>by simp[aD.chain]at h
 | .int _,_,_,h,_=>by simp[aD.chain]at h
 | .str,_,_,h,_=>by simp[aD.chain]at h
 | .opq,_,_,h,_=>by simp[aD.chain]at h
 | .list _,_,_,h,_=>by simp[aD.chain]at h
theorem anV {u:aD} (h:u.chain=true):u.isAgg=true:=by cases u<;>first |rfl |(simp[aD.chain]at h)
theorem am4 {x:ae} {l:List ae} {t:aD} {v:Value} (aw:x.rel φ ι w v) (aJ:x.fits t=true) (an:x.open_=some l): ∃cs,v=.agg cs/\ae.relL φ ι w l cs.toList/\ae.fitsL l t=true/\ ∀i∈ae.idsL l,i∈x.ids:=by
 unfold ae.open_ at an;split at an
 ·rename_i m;injection an with an
  subst an;obtain ⟨cs,rfl,h⟩:=aw;exact ⟨cs,rfl,h,by simpa [ae.fits] using aJ,by simp[ae.ids]⟩
 ·rename_i u z;have e:u=t:=by simpa [ae.fits] using aJ
  subst e;by_cases aR:u.chain=true
  ·simp only[aR,aA,bs]at an;subst an;obtain ⟨cs,rfl⟩:=sf (aw.2.trans (anV aR));obtain ⟨a1,k2,b5⟩:=XT (ι:=ι) u z cs.toList aR aw.1;exact ⟨cs,rfl,a1,k2,by rw[b5];simp⟩
  ·simp[aR]at an
 ·cases an
theorem YP: ∀(l:List ae) (t:aD) (cs:List Value) (i:Nat) (s:ae),ae.relL φ ι w l cs->ae.fitsL l t=true->l[i]? =some s->
  ∃u vs,t.nth i=some u/\s.rel φ ι w vs/\s.fits u=true/\vs.cells.toList=(cs.drop (t.offs i)).take u.size/\ ∀j∈s.ids,j∈ae.idsL l
 |[],_,_,_,_,_,_,h=>by simp at h
 |a::l,t,cs,i,s,⟨v,aY,e,aa,ad⟩,aJ,ab=>by
  subst e;cases t with
  |pair p q=>
   simp only[ae.fitsL,bB]at aJ;obtain ⟨g1,g2⟩:=ae.rel_fits a p v aa aJ.1;cases i with
   |zero=>
    simp only[List.getElem?_cons_zero,bs]at ab;subst ab;refine ⟨p,v,rfl,aa,aJ.1,?_,fun j ay=>by simp[ae.idsL,ay]⟩;simp only[aD.offs,List.drop_zero];rw[<-g1,show v.cells.size=v.cells.toList.length by simp,List.take_left]
   |succ i=>
    obtain ⟨u,vs,a1,k2,b5,dD,hj⟩:=YP l q aY i s ad aJ.2 (by simpa using ab);refine ⟨u,vs,a1,k2,b5,?_,fun j ay=>by simp[ae.idsL,hj j ay]⟩;simp only[aD.offs];rw[<-g1,show v.cells.size=v.cells.toList.length by simp,<-List.drop_drop,List.drop_left];exact dD
  |_=>simp[ae.fitsL]at aJ
theorem U6 {y:ae} {fI:Value} (bf:y.rel φ ι w fI): ∀(p:List Nat) (t u:aD) (x oy:ae) (v:Value),x.rel φ ι w v->x.fits t=true->ae.setPath p x y=some oy->t.at_ p=some u->y.fits u=true->
  ∃jR,oy.rel φ ι w jR/\oy.fits t=true/\jR.cells.toList=v.cells.toList.take (t.offAt p)++fI.cells.toList++v.cells.toList.drop (t.offAt p+u.size)/\ ∀i∈oy.ids,i∈x.ids\/i∈y.ids
 |[],t,u,x,oy,v,aw,aJ,au,aU,hu=>by
  simp only[ae.setPath,bs]at au;simp only[aD.at_,bs]at aU;subst au aU;have ao:=(ae.rel_fits x t v aw aJ).1;refine ⟨fI,bf,hu,?_,fun i ab=>.inr ab⟩;simp only[aD.offAt,List.take_zero,List.nil_append,Nat.zero_add];rw[List.drop_of_length_le (by rw[Array.length_toList,ao];exact Nat.le_refl _),List.append_nil]
 |i::p,t,u,x,oy,v,aw,aJ,au,aU,hu=>by
  simp only[ae.setPath]at au;split at au
  ·rename_i l an;split at au
   ·rename_i s aqX;split at au
    ·rename_i gd sT;injection au with au
     subst au;obtain ⟨cs,rfl,mE,lN,aaP⟩:=am4 aw aJ an;obtain ⟨e,vs,a1,k2,b5,dD,fZ⟩:=YP l t cs.toList i s mE lN aqX;simp only[aD.at_,a1]at aU;obtain ⟨jR,c2,cr,ey,ka⟩:=U6 bf p e u s gd vs k2 b5 sT aU hu;obtain ⟨bh,bZ⟩:=KO l t cs.toList i e gd jR mE lN a1 c2 cr;have hle:=qc aU;have Nl:=Dh a1;have ir:cs.toList.length=t.size:=(ae.relL_fits l t _ mE lN).1;have Aa:fI.cells.toList.length=u.size:=by rw[<-(ae.rel_fits y u fI bf hu).1];simp
     refine ⟨.agg (cs.toList.take (t.offs i)++jR.cells.toList++cs.toList.drop (t.offs i+e.size)).toArray,DN ⟨_,rfl,by simpa using bh⟩,by simpa [ae.fits] using bZ,?_,?_⟩
     ·have au:=ZG cs.toList fI.cells.toList (t.offs i) (e.offAt p) u.size e.size t.size hle Nl (by rw[ir];exact Nat.le_refl _) Aa;have NP:cs.toList.take t.size=cs.toList:=List.take_of_length_le (by rw[ir];exact Nat.le_refl _);rw[NP]at au;have hlen:(cs.toList.take (t.offs i+e.offAt p)++fI.cells.toList++cs.toList.drop (t.offs i+e.offAt p+u.size)).length=t.size:=by
       simp only[List.length_append,List.length_take,List.length_drop,ir,Aa];omega
      rw[List.take_of_length_le (by rw[hlen];exact Nat.le_refl _)]at au;show cs.toList.take (t.offs i)++jR.cells.toList++cs.toList.drop (t.offs i+e.size)=cs.toList.take (t.offAt (i::p))++fI.cells.toList++cs.toList.drop (t.offAt (i::p)+u.size);rw[ey,dD];simp only[aD.offAt,a1];rw[au]
     ·intro j ay;have jG:j∈ae.idsL (l.set i gd):=by simpa [ae.ids] using ay
      rcases Ym l i gd j jG with aa |aa
      ·exact .inl (aaP j aa)
      ·rcases ka j aa with ad |ad
       ·exact .inl (aaP j (fZ j ad))
       ·exact .inr ad
    ·cases au
   ·cases au
  ·cases au
theorem U5 (tab:cA P cx) {T:TypeId} {ti:e4} (ab:cx.ti T=some ti) {v:Value} (aX:v.cells.size=ti.ty.size) {b o:Nat} {e:TypeId} {fr:Nat×Nat} {cur:Array Value} (ag:w.heap[b]? =some (.cells cur e fr)) (aJ:qG fr cur.size)
  (hle:o+ti.ty.size<=cur.size) (aa: ∀u∈v.cells.toList,u.oneCell'=true):
  ∃w',(storeVar T ⟨b,o,none⟩ v).run P w=.ok () w'/\w'.heap[b]? =some (.cells (cur.toList.take o++v.cells.toList++cur.toList.drop (o+ti.ty.size)).toArray e fr)/\hE w w' b:=by
 obtain ⟨w',ad,al,aE⟩:=Gi P o v.cells.toList 0 cur w ag aJ (by simp[aX];exact hle) aa;refine ⟨w',?_,?_,aE⟩
 ·unfold storeVar;simp only[Sem.run_bind,BF tab ab,Result.andThen_ok];rw[if_neg (by simp[aX])];exact ad
 ·rw[al];simp[aX]
theorem ajN [Env] (tab:cA P cx) {T:TypeId} {a x:ae} (e:(KT cx T a x).go H n=some (r,aC,aI)) (h:bP φ ι w H) {kR cj:Value} (aR:a.rel φ ι w kR) (aw:x.rel φ ι w cj)
  (h1: ∀i∈a.ids,(aF H i).live=true) (eJ: ∀i∈x.ids,(aF H i).live=true):
  r=.undef/\ ∃w' φ' ι',(Instr.storeAt T kR cj).run P w=.ok () w'/\bP φ' ι' w' aC/\Step φ ι w H φ' ι' w' aC/\dA ι H ι' aC/\hs H n aC aI:=by
 unfold KT at e;split at e
 ·rename_i o s i p;have q:=go_bif e;clear e;obtain ⟨bW,e⟩:=q;obtain ⟨ti,ew,ff⟩:=Dt bW;simp only[HM.go]at e;split at e
  ·obtain ⟨d,H1,cC,ai,aq⟩:=HM.go_bind_some e;clear e;obtain ⟨rfl,cU,g1,aX⟩:=re x φ cj H n d H1 cC ai h aw eJ;have vz:=ae.rel_step g1.step g1.keep h1 aR;simp only[HM.go]at aq;split at aq
   ·rename_i b8 t xs fz an;have q:=go_bif aq;clear aq;obtain ⟨ag,aq⟩:=q;simp only[bB,db,Bool.not_eq_true']at ag;obtain ⟨⟨rfl,rfl⟩,ap4⟩:=ag;obtain ⟨avG,Fh,NQ⟩:=gh ap4;rw[ew]at Fh;injection Fh with Fh
    subst Fh;obtain ⟨y,ef,dj,bb,bx⟩:=HM.go_bind_some aq;clear aq;obtain ⟨jI,rfl,rfl⟩:=go_opt bb;simp only[HM.go,bs,ct]at bx;obtain ⟨rfl,rfl,rfl⟩:=bx;obtain ⟨b,auV,fr,bk,rfl,bh,bZ,da,c4,fh,gq,lq,qR⟩:=Zn g1.rel an vz;have bY:=g1.rel.obj o;rw[an]at bY;obtain ⟨m,c,pre,cur,aab,aH,z2,z3,z4,z5,jq,e2,mf,z0,z9,auH,auI,z12⟩:=bY.blk_arr gq;rw[bh]at jq;injection jq with jq
    injection jq with jq _ auJ
    subst jq auJ;have jf:bk=pre.size:=by rw[<-qR,aH];rfl
    subst jf;rw[ape]at lq;rw[Array.size_append]at fh;obtain ⟨a1,k2⟩:=JI aX.1 s p _ y _ jI lq;have dL:cj.cells.toList.length=d.t.size:=aX.1.len;have hle:=qc a1;have ir:(i+1)*s.size=i*s.size+s.size:=by rw[Nat.add_mul,Nat.one_mul]
    obtain ⟨w',ar,aM,bF⟩:=U5 (w:=w) tab ew (v:=cj) (b:=b) (o:=pre.size+i*s.size+s.offAt p) (by rw[NQ];simpa using dL) bh bZ (by rw[NQ,Array.size_append];omega) (aX.1.one _ _ _);have j5: ∀k,¬cU b k:=fun k av=>by have:=(auI k av).1;cases this
    have E7:m*s.size<=cur.size:=by rw[e2];exact Nat.mul_le_mul_right _ z3
    have ave:(i+1)*s.size<=m*s.size:=Nat.mul_le_mul_right _ (by omega);rw[NQ,Nat.add_assoc pre.size (i*s.size) (s.offAt p),J9]at aM;have dh:((cur.toList.take (i*s.size+s.offAt p)++cj.cells.toList++cur.toList.drop (i*s.size+s.offAt p+d.t.size)).toArray).size=cur.size:=by
     simp only[List.size_toArray,List.length_append,List.length_take,List.length_drop,Array.length_toList,dL];omega
    have eX: ∀bJ k,cU bJ k->w'.cell? ⟨bJ,k,none⟩=w.cell? ⟨bJ,k,none⟩:=fun bJ k av=>bF.cell (fun e=>j5 k (e▸av))
    have kG: ∀v∈(cur.toList.take (i*s.size+s.offAt p)++cj.cells.toList++cur.toList.drop (i*s.size+s.offAt p+d.t.size)).toArray.toList,v.oneCell'=true:=by
     intro v ed;simp only[List.mem_append]at ed;rcases ed with (ed |ed)|ed
     ·exact z9 v (List.mem_of_mem_take ed)
     ·exact aX.1.one _ _ _ v ed
     ·exact z9 v (List.mem_of_mem_drop ed)
    have aqk:cw (bg cU w' s) (xs.set i y) ((cur.toList.take (i*s.size+s.offAt p)++cj.cells.toList++cur.toList.drop (i*s.size+s.offAt p+d.t.size)).toArray.toList.take (m*s.size)):=by
     have sU:=ZG cur.toList cj.cells.toList (i*s.size) (s.offAt p) d.t.size s.size (m*s.size) hle (by omega) (by simpa using E7) dL;show cw _ _ (List.take _ (cur.toList.take (i*s.size+s.offAt p)++cj.cells.toList++cur.toList.drop (i*s.size+s.offAt p+d.t.size)));rw[sU];have o4:((cur.toList.take (m*s.size)).drop (i*s.size)).take s.size=(cur.toList.drop (i*s.size)).take s.size:=by
      rw[List.drop_take,List.take_take,Nat.min_eq_left (by omega)]
     rw[<-o4]at k2;exact (cw.set (fun x c=>bg.len s x c) xs (cur.toList.take (m*s.size)) auH i y _ c4 k2).imp fun x c=>bg.mono (fun _ _ h=>h) eX s x c
    have ph:s=.int .u8\/ ∃zs:List s.den,cw (bg cU w' s) zs ((cur.toList.take (i*s.size+s.offAt p)++cj.cells.toList++cur.toList.drop (i*s.size+s.offAt p+d.t.size)).toArray.toList.drop (m*s.size)):=by
     have cV:((cur.toList.take (i*s.size+s.offAt p)++cj.cells.toList++cur.toList.drop (i*s.size+s.offAt p+d.t.size)).toArray).toList.drop (m*s.size)=cur.toList.drop (m*s.size):=by
      rw[<-dL];exact JK (by rw[Array.length_toList];omega) (by omega)
     rw[cV];exact z9.rest.imp id fun ⟨zs,bz⟩=>⟨zs,bz.imp fun x c=>bg.mono (fun _ _ h=>h) eX s x c⟩
    have cP:hS cU ι w' o (.arr b8 s (xs.set i y) false):=
     ⟨some ⟨b,pre.size,none⟩,m,c,aH,by simpa using z2,z3,z4,.inr ⟨b,pre,_,fr,rfl,aM,by rw[dh,e2],by rw[dh];exact mf,z0,⟨kG,ph⟩,aqk,fun k av=>absurd av (j5 k),fun bz=>by cases bz⟩⟩
    obtain ⟨mQ,mR,ot,A9⟩:=yr (n:=dj) (ob:=.arr b8 s (xs.set i y) false) g1.rel (by rw[an];rfl) gq bF j5 cP (by simp[aG.ids]) rfl;exact ⟨rfl,w',cU,ι,by simp[Instr.storeAt,Instr.sureAddr,ar],mQ,g1.step.trans mR,g1.keep.trans ot,(g1.nx _).trans A9⟩
   ·simp[HM.go]at aq
  ·obtain ⟨y,H1,cC,ai,aq⟩:=HM.go_bind_some e;clear e;obtain ⟨rfl,cU,g1,aX,te⟩:=JD ai h aw eJ;have vz:=ae.rel_step g1.step g1.keep h1 aR;simp only[HM.go]at aq;split at aq
   ·rename_i U t z an;have q:=go_bif aq;clear aq;obtain ⟨ag,aq⟩:=q;have ag:s=t:=by simpa using ag
    subst ag;rw[ff]at aq;simp only at aq;have q:=go_bif aq;clear aq;obtain ⟨qP,aq⟩:=q;obtain ⟨kS,ef,dj,bb,bx⟩:=HM.go_bind_some aq;clear aq;obtain ⟨jI,rfl,rfl⟩:=go_opt bb;simp only[HM.go,bs,ct]at bx;obtain ⟨rfl,rfl,rfl⟩:=bx;obtain ⟨b,cur,fr,u,rfl,bh,bZ,da,c4,fh,rfl,lq,wJ⟩:=Zo g1.rel an vz;obtain ⟨hp,c2,cr,ey,ka⟩:=U6 aX p s ti.ty z kS u fh lq jI ff qP;have zZ:cj.cells.size=ti.ty.size:=(ae.rel_fits y ti.ty cj aX qP).1;have hle:=qc ff;obtain ⟨w',ar,aM,bF⟩:=U5 (w:=w) tab ew (v:=cj) (b:=b) (o:=s.offAt p) zZ bh da (by omega) (ae.rel_one y ti.ty cj aX qP);have bY:=g1.rel.obj o;rw[an]at bY;have j5: ∀k,¬cU b k:=by
     obtain ⟨bJ,_,_,_,hq,_,_,_,_,_,_,_,auE⟩:=bY;rw[hq]at wJ;have:bJ=b:=by simpa [c1] using wJ
     subst this;exact auE
    have eX: ∀bJ k,cU bJ k->w'.cell? ⟨bJ,k,none⟩=w.cell? ⟨bJ,k,none⟩:=fun bJ k av=>bF.cell (fun e=>j5 k (e▸av))
    have vR:hp.cells=(u.cells.toList.take (s.offAt p)++cj.cells.toList++u.cells.toList.drop (s.offAt p+ti.ty.size)).toArray:=by
     apply Array.ext';rw[ey]
    have kI:=(ae.rel_fits kS s hp c2 cr).1;obtain ⟨mb,mS,rN,Bx⟩:=yr (n:=dj) (ob:=.box U s kS) g1.rel (by rw[an];rfl) wJ bF j5
     ⟨b,hp.cells,fr,hp,by
      obtain ⟨bJ,_,_,_,hq,_⟩:=bY;rw[hq]at wJ ⊢;have:bJ=b:=by simpa [c1] using wJ
      rw[this],by rw[aM,vR],kI,by rw[kI,<-bZ];exact da,ae.rel_one kS s hp c2 cr,ae.rel_mono (fun _ _ h=>h) eX kS hp (fun _ _=>rfl) c2,rfl,cr,j5⟩
     (fun j ay=>by
      rcases ka j ay with aa |aa
      ·exact g1.rel.idsB o _ _ _ an j aa
      ·exact te j aa) rfl
    exact ⟨rfl,w',cU,ι,by simp[Instr.storeAt,Instr.sureAddr,ar],mb,g1.step.trans mS,g1.keep.trans rN,(g1.nx _).trans Bx⟩
   ·simp[HM.go]at aq
  ·simp[HM.go]at e
 ·simp[HM.go]at e
end
open Go.RowKit
section
variable {P:Program} {cx:bS} {φ φ':bw} {ι ι':Nat->Value} {w w':World} {H:List aG} {n:Nat} {r:ae} {aC:List aG} {aI:Nat}
def oP (x:ae) (v:Value) (m:Nat):Prop:=if x.isStr then ∃s,v=.string ⟨⟨s⟩⟩/\s.length=m else ∃A c,v=.slice A m c
theorem al0 [Env] {x:ae} {m:Nat} {v:Value} (e:(lenOf x).go H n=some (m,aC,aI)) (h:bP φ ι w H) (aw:x.rel φ ι w v):aC=H/\aI=n/\oP x v m:=by
 unfold lenOf at e;split at e
 ·obtain ⟨rfl,rfl,rfl⟩:=go_ret e;obtain ⟨A,m,c,rfl,ao,_⟩:=cd.list aw;exact ⟨rfl,rfl,by simp only[oP,ae.isStr,Bool.false_eq_true,if_false];exact ⟨A,c,by rw[ao]⟩⟩
 ·obtain ⟨rfl,rfl,rfl⟩:=go_ret e;obtain rfl:=cd.str.1 aw;exact ⟨rfl,rfl,by simp only[oP,ae.isStr,if_true];exact ⟨_,rfl,rfl⟩⟩
 ·obtain ⟨rfl,rfl,rfl⟩:=go_ret e;obtain ⟨A,m,rfl,aB⟩:=aw;obtain ⟨hQ,cr,aY,ai,ao,_⟩:=aB;injection ai with ai _
  obtain ⟨rfl,rfl,rfl⟩:=hh ai;exact ⟨rfl,rfl,by simp only[oP,ae.isStr,Bool.false_eq_true,if_false];exact ⟨A,m,by rw[ao]⟩⟩
 ·obtain ⟨rfl,rfl,rfl⟩:=go_ret e;simp only[ae.rel]at aw;subst aw;exact ⟨rfl,rfl,by simp only[oP,ae.isStr,Bool.false_eq_true,if_false];exact ⟨_,_,rfl⟩⟩
 ·rename_i t o;simp only[HM.go]at e;split at e
  ·rename_i b8 u xs fz hm;obtain ⟨ja,an,rfl⟩:=mM hm;obtain ⟨rfl,rfl,rfl⟩:=go_ret e;obtain ⟨rfl,A,m,c,aX⟩:=aw;have bY:=h.obj o;rw[an]at bY;obtain ⟨hQ,aI,c',ai,aq,_⟩:=bY;rw[aX]at ai;obtain ⟨rfl,rfl,rfl⟩:=hh ai;exact ⟨rfl,rfl,by simp only[oP,ae.isStr,Bool.false_eq_true,if_false];exact ⟨A,c,by rw[aX,aq]⟩⟩
  ·simp[HM.go]at e
 ·obtain ⟨rfl,rfl,rfl⟩:=go_ret e;obtain ⟨A,m,c,A',aX,aa,ad,al,rfl,dO,_⟩:=aw;exact ⟨rfl,rfl,by simp only[oP,ae.isStr,Bool.false_eq_true,if_false];exact ⟨A',_,rfl⟩⟩
 ·simp[HM.go]at e
theorem alR [Env] (tab:cA P cx) {T ty:TypeId} {x:ae} {cj:Value} (e:(bif oV cx T&&(Le cx T==x.isStr) then (lenOf x).bind fun n=>HM.ret (.dat (.int .i64) (n:Int)) else .fail).go H n=some (r,aC,aI)) (h:bP φ ι w H) (aw:x.rel φ ι w cj):
  ch φ ι w H n r aC aI ((Builtin.len_ #[T] ty #[cj]).run P w):=by
 have q:=go_bif e;clear e;obtain ⟨ag,e⟩:=q;simp only[bB,beq_iff_eq]at ag;obtain ⟨eo,dB⟩:=ag;obtain ⟨m,H1,cC,ai,aq⟩:=HM.go_bind_some e;obtain ⟨rfl,rfl,ao⟩:=al0 ai h aw;obtain ⟨rfl,rfl,rfl⟩:=go_ret aq;refine ch.plain h (Plain.int _ _) ?_;unfold oV at eo;unfold Le at dB;split at eo
 ·rename_i j ay;rw[ay]at dB;simp only at dB;split at eo
  ·rename_i t aU;rw[aU]at dB;have:x.isStr=false:=by rw[<-dB];simp
   simp only[oP,this,Bool.false_eq_true,if_false]at ao;obtain ⟨A,c,rfl⟩:=ao;have ax:=(jb tab ay aU).1;simp[Builtin.len_,run_underlying ax,goInt]
  ·rename_i aU;rw[aU]at dB;have:x.isStr=true:=by rw[<-dB];simp
   simp only[oP,this,if_true]at ao;obtain ⟨s,rfl,rfl⟩:=ao;have ax:=pS tab ay aU;have au:(⟨⟨s⟩⟩:ByteArray).size=s.length:=rfl;simp[Builtin.len_,run_underlying ax,goInt,au]
  ·cases eo
 ·cases eo
theorem G4 {eT:Bool}: ∀(l:List ae) (x:ae) (vs:List Value) (v:Value) (r:ae),(uU eT x l).go H n=some (r,aC,aI)->ae.relT φ ι w l vs->x.rel φ ι w v->(∀i∈x.ids,(aF H i).live=true)->
  aC=H/\aI=n/\ ∃u,(vs.foldlM (if eT then Builtin.max2 else Builtin.min2) v).run P w=.ok u w/\r.rel φ ι w u/\ ∀i∈r.ids,(aF H i).live=true
 |[],x,vs,v,r,e,ao,aw,eJ=>by
  have dx:(HM.ret x).go H n=some (r,aC,aI):=by
   cases x<;>exact e
  obtain ⟨rfl,rfl,rfl⟩:=go_ret dx;simp only[ae.relT]at ao;subst ao;exact ⟨rfl,rfl,v,by simp,aw,eJ⟩
 |y::l,x,vs,v,r,e,ao,aw,eJ=>by
  obtain ⟨fI,tL,rfl,bf,ao⟩:=ao;unfold uU at e;split at e
  ·rename_i heq;cases heq
  ·rename_i k a k' b eI heq;injection heq with aa ad
   subst aa ad;have q:=go_bif e;clear e;obtain ⟨av,e⟩:=q;have av:k=k':=by simpa using av
   subst av;obtain rfl:=cd.int.1 aw;obtain rfl:=cd.int.1 bf;obtain ⟨aa,ad,u,hu,az,pC⟩:=G4 l _ tL (.int k (if (if eT then a<b else b<a) then b else a)) r e ao (gz (cd.int.2 rfl)) (by simp[ae.ids]);refine ⟨aa,ad,u,?_,az,pC⟩;rw[List.foldlM_cons];cases eT
   ·simp only[Bool.false_eq_true,if_false]at hu ⊢;simp only[Builtin.min2,Sem.run_bind,Sem.run_pure,Result.andThen_ok];exact hu
   ·simp only[if_true]at hu ⊢;simp only[Builtin.max2,Sem.run_bind,Sem.run_pure,Result.andThen_ok,gt_iff_lt];exact hu
  ·rename_i a b eI heq;injection heq with aa ad
   subst aa ad;obtain rfl:=cd.str.1 aw;obtain rfl:=cd.str.1 bf;obtain ⟨aa,ad,u,hu,az,pC⟩:=G4 l _ tL (.string ⟨⟨bif (bif eT then !(Op.bytesLess a b) else (Op.bytesLess a b||decide (a=b))) then a else b⟩⟩) r e ao (gz (cd.str.2 rfl)) (by simp[ae.ids]);refine ⟨aa,ad,u,?_,az,pC⟩;rw[List.foldlM_cons];cases eT
   ·simp only[Bool.false_eq_true,if_false,aL]at hu ⊢;simp only[Builtin.min2,Op.stringOp,oi,r6,Sem.run_bind,Sem.run_pure,Result.andThen_ok,asBool];cases ag:(Op.bytesLess a b||decide (a=b))<;>simp only[ag,aA,aL]at hu<;>simpa using hu
   ·simp only[if_true,aA]at hu ⊢;simp only[Builtin.max2,Op.stringOp,oi,r6,Sem.run_bind,Sem.run_pure,Result.andThen_ok,asBool];cases ag:(Op.bytesLess a b)<;>simp only[ag,dt,dr,aA,aL]at hu<;>simpa using hu
  ·simp[HM.go]at e
end
open Go.RowKit
section
variable {P:Program} {cx:bS} {φ φ':bw} {ι ι':Nat->Value} {w w':World} {H:List aG} {n:Nat} {r:ae} {aC:List aG} {aI:Nat}
theorem anT (w:World) (e:TypeId) (s:List UInt8) (au:s.length<=bm):
  ∃cur fr,gG w (Lib.bytesWorld w e ⟨⟨s⟩⟩)/\(Lib.bytesWorld w e ⟨⟨s⟩⟩).heap[w.heap.size]? =some (.cells cur e fr)/\cur.size=grownCap w s.length 0 e/\qG fr cur.size/\(∀v∈cur.toList,v.oneCell'=true)/\
   cur.toList.take s.length=s.map fun b=>Value.int .u8 (b.toNat:Int):=by
 have qQ:=grownCap_ge w s.length 0 e;have aB:Lib.bytesCells w e ⟨⟨s⟩⟩=(⟨s⟩:Array UInt8).map (fun b=>Value.int .u8 (b.toNat:Int))++Array.replicate (grownCap w s.length 0 e-s.length) (.int .u8 0):=rfl;have dh:(Lib.bytesCells w e ⟨⟨s⟩⟩).size=grownCap w s.length 0 e:=by rw[aB];simp;omega
 have bC:(Lib.bytesWorld w e ⟨⟨s⟩⟩).heap[w.heap.size]? =some (.cells (Lib.bytesCells w e ⟨⟨s⟩⟩) e ((Lib.bytesCells w e ⟨⟨s⟩⟩).size,(Lib.bytesCells w e ⟨⟨s⟩⟩).size+1)):=by
  unfold Lib.bytesWorld World.freeze;rw[if_neg (by omega)];have bX:(w.drew.alloc (.cells (Lib.bytesCells w e ⟨⟨s⟩⟩) e)).heap[w.heap.size]? =some (.cells (Lib.bytesCells w e ⟨⟨s⟩⟩) e (0,0)):=heap_alloc_new w.drew _;simp only[Array.getElem?_modify,if_pos,bX];rfl
 refine ⟨_,_,⟨?_,?_,?_,?_,fun b ag=> ?_⟩,bC,dh,?_,?_,?_⟩
 ·unfold Lib.bytesWorld World.freeze;rw[if_neg (by omega)];rfl
 ·unfold Lib.bytesWorld World.freeze;rw[if_neg (by omega)];rfl
 ·unfold Lib.bytesWorld World.freeze;rw[if_neg (by omega)];rfl
 ·rw[Lib.bytesWorld_size];omega
 ·exact Lib.bytesWorld_at_old w e _ b ag
 ·intro k av h;omega
 ·intro v aX;rw[aB]at aX;simp only[Array.toList_append,Array.toList_map,Array.toList_replicate,List.mem_append,List.mem_map]at aX;rcases aX with ⟨b,_,rfl⟩|aX
  ·rfl
  ·rw[List.eq_of_mem_replicate aX];rfl
 ·rw[aB];simp
theorem Xp {φ:bw} {w:World} {k:IntKind}: ∀{xs:List Int} {aT:List Value},cw (bg φ w (.int k)) xs aT->aT=xs.map (Value.int k)
 |[],aT,h=>by simpa [cw] using h
 |x::xs,aT,h=>by
  obtain ⟨a7,aY,rfl,aa,ad⟩:=h;have dc:a7=[.int k x]:=aa;rw[dc,Xp ad];rfl
theorem aj8 [Env] (tab:cA P cx) {S T:TypeId} {x:ae} {cj:Value} (e:(K6 cx S T x).go H n=some (r,aC,aI)) (h:bP φ ι w H) (aw:x.rel φ ι w cj) (eJ: ∀i∈x.ids,(aF H i).live=true) (ds:hD H n aI):
  ch φ ι w H n r aC aI ((convert S T cj).run P w):=by
 unfold K6 at e;split at e
 ·rename_i i j ab ay;split at e
  ·rename_i bk k aa ad;split at e
   ·obtain ⟨rfl,rfl,rfl⟩:=go_ret e;obtain rfl:=cd.int.1 aw;have d1:=Ds tab ab aa;have d2:=Ds tab ay ad;exact ch.plain h (Plain.int _ _) (by simp[convert,run_underlying d1,run_underlying d2,Conv.intToInt])
   ·simp[HM.go]at e
  ·rename_i aa ad;split at e
   ·obtain ⟨rfl,rfl,rfl⟩:=go_ret e;obtain rfl:=cd.str.1 aw;have d1:=pS tab ab aa;have d2:=pS tab ay ad;exact ch.plain h (Plain.str _) (by simp[convert,run_underlying d1,run_underlying d2])
   ·simp[HM.go]at e
  ·rename_i aa ad;split at e
   ·rename_i a;have q:=go_chk2 e;clear e;obtain ⟨ag,e⟩:=q;have ag:a.length<=bm:=by simpa using ag
    simp only[HM.go,bs,ct]at e;obtain ⟨rfl,rfl,rfl⟩:=e;obtain rfl:=cd.str.1 aw;have d1:=pS tab ab aa;have d2:=jb tab ay ad;obtain ⟨u,hu,NT⟩:=XQ tab ay ad;have d3:=Ds tab hu NT;rw[Lib.run_convert_string_bytes w S T j.elem ⟨⟨a⟩⟩ d1 d2.1 d3];obtain ⟨cur,fr,g,bC,dh,aJ,dc,iP⟩:=anT w j.elem a ag;have hlen:(ix a).length=a.length:=by simp[ix]
    have qQ:=grownCap_ge w a.length 0 j.elem;have sS:bm=140737488355328:=rfl;have:=si (φ:=φ) (ι:=ι) (n:=n) h (e:=j.elem) (t:=.int .u8) (xs:=ix a) (c:=grownCap w a.length 0 j.elem) (b:=w.heap.size) g bC (Nat.le_refl _) (by rw[hlen];exact qQ)
     (grownCap_le_maxLen w _ _ _ (by simp only[maxLen];omega)) (by rw[dh];simp[aD.size]) ⟨aJ,.inl rfl⟩ ⟨dc,.inl rfl⟩ (by
      have c9:(ix a).length*(aD.int IntKind.u8).size=a.length:=by rw[hlen];simp[aD.size]
      rw[c9,iP];exact (Is (P:=P) (φ:=φ) (w:=Lib.bytesWorld w j.elem ⟨⟨a⟩⟩) a).chunks) ds.1 (ds.2 n (Nat.le_refl _) (by omega))
    rw[hlen]at this;exact this
   ·simp[HM.go]at e
  ·rename_i aa ad;have E8:x.isStr=false:=by
    cases au:x.isStr with
    |false=>rfl
    |true=>rw[au]at e;simp[HM.go]at e
   rw[E8]at e;simp only[aL]at e;obtain ⟨d,H1,cC,ai,aq⟩:=HM.go_bind_some e;clear e;obtain ⟨rfl,cU,g1,fg⟩:=Cw ai h aw eJ;obtain ⟨l,ef,dj,bb,bx⟩:=HM.go_bind_some aq;clear aq;obtain ⟨aB,rfl,rfl⟩:=go_opt bb;obtain ⟨rfl,rfl,rfl⟩:=go_ret bx;have d1:=jb tab ab aa;have d2:=pS tab ay ad;obtain ⟨u,hu,NT⟩:=XQ tab ab aa;have d3:=Ds tab hu NT;obtain ⟨auZ,EC⟩:=d;obtain ⟨kt,rfl⟩:=pJ aB;simp only at kt;subst kt;refine ch.ghost g1 ((Plain.str _).2 _ _ _) (by simp[ae.ids]) ?_;rcases fg with ⟨s,_,_,au⟩|fg
   ·rw[E8]at au;cases au
   ·obtain ⟨A,c,aT,rfl,hle,av,bC⟩:=fg _ _ rfl;have Ab:=Xp av;rcases bC with bC |⟨b,o,rfl,eX⟩
    ·have:EC=[]:=List.eq_nil_of_length_eq_zero bC;subst this;cases A with
     |none=>simp[convert,run_underlying d1.1,run_underlying d2,run_underlying d3,Conv.bytesToString,rQ,ByteArray.empty,ByteArray.emptyWithCapacity];rfl
     |some a=>simp[convert,run_underlying d1.1,run_underlying d2,run_underlying d3,Conv.bytesToString,loadCells,loadCellsFrom,rQ,ByteArray.empty,ByteArray.emptyWithCapacity];rfl
    ·exact run_convert_bytes_arg w S i.elem d1.1 d3 b o EC.length c EC rfl (fun k fD=>by
      have:=eX k (.int .u8 (EC.getD k 0)) (by
       rw[Ab];simp only[List.getElem?_map];rw[Yj (d:=0) fD];rfl)
      exact this) T d2
  ·simp[HM.go]at e
 ·simp[HM.go]at e
theorem UI [Env] {t:aD}: ∀(parts:List (Nat×ae)) (pv:List (Nat×Value)) (φ:bw) (xs:List t.den) (cells:Array Value) (H:List aG) (n:Nat) (aT:List t.den) (aC:List aG) (aI:Nat),(AU.go t xs parts).go H n=some (aT,aC,aI)->bP φ ι w H->
  cw (bg φ w t) xs cells.toList->oz φ ι w H parts pv->
  aI=n/\ ∃φ' kp,ee φ ι w H φ' aC/\Instr.fill (fun i=>some (i*t.size,t.size)) cells pv=some kp/\cw (bg φ' w t) aT kp.toList/\aT.length=xs.length
 |[],[],φ,xs,cells,H,n,aT,aC,aI,e,h,av,_=>by
  have dx:(HM.ret xs).go H n=some (aT,aC,aI):=e;obtain ⟨rfl,rfl,rfl⟩:=go_ret dx;exact ⟨rfl,φ,cells,ee.refl h,rfl,av,rfl⟩
 |[],_::_,_,_,_,_,_,_,_,_,_,_,_,an=>an.elim
 |_::_,[],_,_,_,_,_,_,_,_,_,_,_,an=>an.elim
 |(j,x)::parts,(gY,v)::pv,φ,xs,cells,H,n,aT,aC,aI,e,h,av,⟨ay,aw,kE,an⟩=>by
  subst ay;unfold AU.go at e;split at e
  ·rename_i z bz;obtain ⟨y,H1,cC,ai,aq⟩:=HM.go_bind_some e;clear e;obtain ⟨rfl,cU,g1,bf⟩:=CX ai h aw kE;have a8:j<xs.length:=by
    rcases Nat.lt_or_ge j xs.length with aa |aa
    ·exact aa
    ·rw[List.getElem?_eq_none aa]at bz;cases bz
   have jf:cw (bg cU w t) xs cells.toList:=av.imp fun x c=>bg.mono g1.step.phi g1.step.cells t x c
   have au:=cw.set (fun x c=>bg.len t x c) xs cells.toList jf j y v.cells.toList a8 bf.1;have ir:=av.len (fun x c=>bg.len t x c);have hle:(j+1)*t.size<=xs.length*t.size:=Nat.mul_le_mul_right _ a8;rw[Nat.add_mul,Nat.one_mul]at hle;have dL:v.cells.size=t.size:=by have:=bf.1.len;simpa using this
   have qS:=XL (place:=fun i=>some (i*t.size,t.size)) (i:=j) (rest:=pv) rfl dL (show j*t.size+t.size<=cells.size by rw[<-Array.length_toList,ir];exact hle);obtain ⟨aQ,φ',kp,g2,nX,fD,ao⟩:=UI parts pv cU (xs.set j y) (cells.toList.take (j*t.size)++v.cells.toList++cells.toList.drop (j*t.size+t.size)).toArray H1 cC aT aC aI aq g1.rel (by simpa using au) (an.ghost g1);exact ⟨aQ,φ',kp,g1.trans g2,by rw[qS];exact nX,fD,by rw[ao];simp⟩
  ·simp[HM.go]at e
theorem ahi [Env] (tab:cA P cx) {T:TypeId} {len:Nat} {parts:List (Nat×ae)} (e:(AU cx T len parts).go H n=some (r,aC,aI)) (h:bP φ ι w H) {pv:Array (Nat×Value)} (an:oz φ ι w H parts pv.toList) (ds:hD H n aI):
  ch φ ι w H n r aC aI ((Instr.buildSlice T len pv).run P w):=by
 unfold AU at e;split at e
 ·rename_i i ab;split at e
  ·rename_i t aU;have q:=go_bif e;clear e;obtain ⟨ag,e⟩:=q;have ag:len*t.size<=100000:=by simpa using ag
   obtain ⟨aT,H1,cC,ai,aq⟩:=HM.go_bind_some e;clear e;simp only[HM.go,bs,ct]at aq;obtain ⟨rfl,rfl,rfl⟩:=aq;obtain ⟨ax,fg⟩:=jb tab ab aU;obtain ⟨z,bz,Ad,abd,lM⟩:=rj fg len;obtain ⟨rfl,cU,kp,g1,nX,av,ao⟩:=UI parts pv.toList φ (List.replicate len t.zero) ((Array.range (len*t.size)).map fun i=>z.cells[i%z.cells.size]!) H n aT H1 cC ai h (lM φ w) an;rw[List.length_replicate]at ao;have iM:=ds.ghost g1;have ir:=av.len (fun x c=>bg.len t x c);rw[ao]at ir;have hlen:len<=100000:=Nat.le_trans (Nat.le_mul_of_pos_right _ abd) ag;have dU:(Instr.buildSlice T len pv).run P w=.ok (.slice (some ⟨w.heap.size,0,none⟩) len len) (w.alloc (.cells kp i.elem)):=by
    unfold Instr.buildSlice;have apL: ¬(len*t.size>2^24):=by omega
    simp only[Sem.run_bind,run_underlying ax,Result.andThen_ok,wm (w:=w) fg,apL,if_false,Sem.run_pure];by_cases vU:len*t.size=0
    ·have Fe:Array.range 0= #[]:=rfl;rw[vU,Fe]at nX;simp only[List.map_toArray,List.map_nil,Array.map_empty]at nX;simp[vU,Fe,nX,newRow]
    ·simp only[vU,if_false,Sem.run_bind,bz,Result.andThen_ok,Sem.run_pure,nX,newRow,run_newObj_alloc]
   rw[dU];have hz:=gG.alloc w (.cells kp i.elem);have:=si (φ:=cU) (ι:=ι) (n:=cC) g1.rel (e:=i.elem) (t:=t) (xs:=aT) (c:=len) (b:=w.heap.size) hz (heap_alloc_new w _) (Nat.le_refl _) (by omega) (by simp only[maxLen];omega) (by rw[<-Array.length_toList,ir]) (tS _ _) (Cells.of_chunks (av.imp fun x c=>bg.mono (fun _ _ h=>h) (fun b k ag=>hz.cell (jm g1.rel ag)) t x c) _)
    (by
      rw[ao,List.take_of_length_le (by rw[ir];exact Nat.le_refl _)];exact av.imp fun x c=>bg.mono (fun _ _ h=>h) (fun b k ag=>hz.cell (jm g1.rel ag)) t x c) iM.1 (iM.2 cC (Nat.le_refl _) (by omega))
   rw[ao]at this;exact ch.after g1 this
  ·simp[HM.go]at e
 ·simp[HM.go]at e
end
open Go.RowKit
section
variable {P:Program} {cx:bS} {φ φ':bw} {ι ι':Nat->Value} {w w':World} {H:List aG} {n:Nat} {r:ae} {aC:List aG} {aI:Nat}
theorem alw {ty:TypeId} {b k:Nat} {s:ByteArray} (ag:w.heap[b]? =some (.stringIter s k)) (h: ¬k<s.size):(Instr.next (.pointer (some ⟨b,0,none⟩)) true ty).run P w=.ok (.tuple #[.bool false]) w:=by
 simp only[Instr.next,getObj,Sem.run_bind,Sem.run,ag,Result.andThen,h,if_false];rfl
theorem amN {ty:TypeId} {b k:Nat} {s:ByteArray} (ag:w.heap[b]? =some (.stringIter s k)) (h:k<s.size):(Instr.next (.pointer (some ⟨b,0,none⟩)) true ty).run P w=
  .ok (.tuple #[.bool true,goInt k,.int .i32 (Utf8.decode s k).1]) {w with heap:=w.heap.setIfInBounds b (.stringIter s (k+(Utf8.decode s k).2))}:=by
 simp only[Instr.next,getObj,setObj,Sem.run_bind,Sem.run,ag,Result.andThen,h,if_true];rfl
theorem ak2 {T:TypeId} (ax:P.underlying T=some .string) (s:ByteArray):(Instr.range T (.string s)).run P w=.ok (.pointer (some ⟨w.heap.size,0,none⟩)) (w.alloc (.stringIter s 0)):=by
 simp[Instr.range,run_underlying ax]
theorem YQ {l:List ae} {v:Value} (h: ∃vs,v=.tuple vs/\ae.relT φ ι w l vs.toList):(ae.tup l).rel φ ι w v:=h
theorem ajT [Env] (tab:cA P cx) {T:TypeId} {x:ae} (e:(KW cx T x).go H n=some (r,aC,aI)) (h:bP φ ι w H) {v:Value} (aw:x.rel φ ι w v) (ds:hD H n aI):ch φ ι w H n r aC aI ((Instr.range T v).run P w):=by
 unfold KW at e;split at e
 ·rename_i s;have q:=go_bif e;clear e;obtain ⟨bW,e⟩:=q;obtain ⟨i,ab,aU⟩:=gh bW;have ax:=pS tab ab aU;simp only[HM.go,bs,ct]at e;obtain ⟨rfl,rfl,rfl⟩:=e;obtain rfl:=cd.str.1 aw;have g:=gG.alloc w (.stringIter ⟨⟨s⟩⟩ 0);have ag:(w.alloc (.stringIter ⟨⟨s⟩⟩ 0)).heap[w.heap.size]? =some (.stringIter ⟨⟨s⟩⟩ 0):=heap_alloc_new w _;obtain ⟨aa,ad,al,aE⟩:=ys (v:=.pointer (some ⟨w.heap.size,0,none⟩)) (ob:=.iter s 0) h ds.1 (ds.2 n (Nat.le_refl _) (by omega)) g
   ⟨w.heap.size,0,by simp[dw],ag,rfl,fun k av=>by have:=jm h av;omega⟩ (by simp[aG.ids]) rfl
   (fun b ag=>by
           have:w.heap.size=b:=by simpa [c1] using ag
           omega)
  refine ⟨_,_,φ,_,ak2 ax _,aa,ad,al,aE,uL ⟨w.heap.size,0,.inr ⟨by simp[dw],rfl,rfl⟩,by simp[aD.offAt],by simp[aD.at_]⟩,?_⟩
  ·intro i ab;have:i=n:=by simpa [ae.ids] using ab
   subst this;rw[fk H i _ i ds.1,if_pos rfl];rfl
 ·simp[HM.go]at e
theorem akg [Env] {ty:TypeId} {x:ae} (e:(K4 x).go H n=some (r,aC,aI)) (h:bP φ ι w H) {v:Value} (aw:x.rel φ ι w v) (eJ: ∀i∈x.ids,(aF H i).live=true):ch φ ι w H n r aC aI ((Instr.next v true ty).run P w):=by
 unfold K4 at e;split at e
 ·rename_i o;simp only[HM.go]at e;split at e
  ·rename_i s pos an;have bY:=h.obj o;rw[an]at bY;obtain ⟨b,k,ai,ag,rfl,iQ⟩:=bY;obtain ⟨bJ,a1,Fj,rfl,-⟩:=aw;have nV:bJ=b/\a1=0:=by
    rcases Fj with ⟨avC,c,aa,_⟩|⟨aa,_,ad⟩
    ·rw[ai]at aa;cases aa
    ·rw[ai]at aa;injection aa with aa;injection aa with aa;injection aa with aa;exact ⟨aa.symm,ad⟩
   obtain ⟨rfl,rfl⟩:=nV;have h9:c1 (ι o)=some bJ:=by rw[ai];rfl
   have dh:(⟨⟨s⟩⟩:ByteArray).size=s.length:=rfl;have aa3:(0+0*aD.size .unit+aD.offAt .unit []:Nat)=0:=rfl;cases a8:decide ((k:Int)<(s.length:Int))
   ·simp only[a8,HM.go,aL,bs,ct]at e;obtain ⟨rfl,rfl,rfl⟩:=e;have zJ: ¬k<s.length:=by have:=of_decide_eq_false a8;omega
    refine ch.pure (r:=.tup [.dat .bool false]) (v:=.tuple #[.bool false]) h (YQ ⟨#[.bool false],rfl,_,_,rfl,gz (cd.bool.2 rfl),rfl⟩) (by simp[ae.ids,ae.idsL]) ?_;rw[aa3];exact alw ag (by rw[dh];exact zJ)
   ·simp only[a8,HM.go,aA,bs,ct]at e;obtain ⟨rfl,rfl,rfl⟩:=e;have zJ:k<s.length:=by have:=of_decide_eq_true a8;omega
    have Nk:bJ<w.heap.size:=(Array.getElem?_eq_some_iff.1 ag).1;have dU:=amN (P:=P) (ty:=ty) ag (by rw[dh];exact zJ);have fG:hE w {w with heap:=w.heap.setIfInBounds bJ (.stringIter ⟨⟨s⟩⟩ (k+(Utf8.decode ⟨⟨s⟩⟩ k).2))} bJ:=
     ⟨rfl,rfl,rfl,by simp,fun j ay=>by simp[Array.getElem?_setIfInBounds_ne (Ne.symm ay)]⟩
    have cP:hS φ ι {w with heap:=w.heap.setIfInBounds bJ (.stringIter ⟨⟨s⟩⟩ (k+(Utf8.decode ⟨⟨s⟩⟩ k).2))} o (.iter s ((k:Int)+(mV s (k:Int)).2)):=
     ⟨bJ,k+(Utf8.decode ⟨⟨s⟩⟩ k).2,ai,by simp[Nk],by simp[mV],iQ⟩
    obtain ⟨mQ,mR,ot,A9⟩:=yr (n:=n) (ob:=.iter s ((k:Int)+(mV s (k:Int)).2)) h (by rw[an];rfl) h9 fG iQ cP (by simp[aG.ids]) rfl;rw[aa3];exact ⟨_,_,φ,ι,dU,mQ,mR,ot,A9,YQ ⟨_,rfl,_,_,rfl,gz (cd.bool.2 rfl),_,_,rfl,gz (cd.int.2 rfl),_,_,rfl,gz (cd.int.2 (by simp[mV])),rfl⟩,by simp[ae.ids,ae.idsL]⟩
  ·simp[HM.go]at e
 ·simp[HM.go]at e
end
open Go.RowKit
def sq (φ:bw) (ι:Nat->Value) (w:World) (H:List aG) (ev:Operand->ae) (ρ:Operand->Value):Prop:= ∀x,(ev x).rel φ ι w (ρ x)/\ ∀i∈(ev x).ids,(aF H i).live=true
abbrev ec (ro:Option Nat):Fence:={fn:=fun _=>True,depth:=none,alive:=false,round:=ro}
theorem JQ {P:Program} {f:FuncId} {args:Array Value} {w:World} {R:Ending->World->Prop} (ro:Option Nat) (h:Calls P f args w R):CallsIn (ec ro) 0 P f args w R:=(callsIn_wide (n:=0)).2 h
theorem sd {P:Program} {o:Oper} {a:Act} {w:World} {ro:Option Nat} {next:Act->World->Prop} {Q:Exit->Act->World->Prop} (dT: ∀c,o.op≠ .defer c)
  (h:o.uponIn (ec ro) 0 P a next Q ((execOp a.eval o).run P w)):o.wpIn (ec ro) 0 P a w next Q:=⟨fun _ _=>trivial,by rw[Oper.semAt_eq _ _ _ dT];exact h⟩
def e3 [Env] (P:Program) (o:Oper) (a:Act) (φ:bw) (ι:Nat->Value) (w:World) (H:List aG) (n:Nat) (r:ae) (aC:List aG) (aI:Nat):Prop:=
 ∀(ro:Option Nat) (next:Act->World->Prop) (Q:Exit->Act->World->Prop),(∀v w' φ' ι',bP φ' ι' w' aC->Step φ ι w H φ' ι' w' aC->dA ι H ι' aC->hs H n aC aI->r.rel φ' ι' w' v->(∀i∈r.ids,(aF aC i).live=true)->next (a.put o.dst v) w')->o.wpIn (ec ro) 0 P a w next Q
def tV (P:Program) (f:FuncId) (vs:Array Value) (w:World) (R:Ending->World->Prop):Prop:=
 ((callFunc f vs).run P w=.ok (.enter f vs) w/\Calls P f vs w R)\/ ∃v w',(callFunc f vs).run P w=.ok (.value v) w'/\R (.returned v) w'
theorem tV.mono {P:Program} {f:FuncId} {vs:Array Value} {w:World} {R R':Ending->World->Prop} (h:tV P f vs w R) (az: ∀e w',R e w'->R' e w'):tV P f vs w R':=
 h.imp (fun ⟨a,b⟩=>⟨a,Calls.mono b az⟩) fun ⟨v,w',a,b⟩=>⟨v,w',a,az _ _ b⟩
theorem ams {P:Program} {f:FuncId} {vs:Array Value} {w:World} {R:Ending->World->Prop} (h: ∃fn,P.funcs[f]? =some fn/\(fn.name== "runtime.NumGoroutine")=false/\fn.body.isNone=false) (aB:Calls P f vs w R):tV P f vs w R:=by
 obtain ⟨fn,M6,M7,zB⟩:=h;refine .inl ⟨?_,aB⟩;unfold callFunc;have zC: ¬fn.name= "runtime.NumGoroutine":=by simpa using M7
 have M8: ¬fn.body=none:=by
  intro bX;rw[bX]at zB;cases zB
 simp[M6,zC,M8]
def ie [Env] (P:Program) (f:FuncId) (vs:Array Value) (w:World) (R:Ending->World->Prop):Prop:=match Env.code f with
 |none=>tV P f vs w R
 |some _=> ∃l,vs[0]? =some (.func (.yield l) #[] #[])/\YieldAt (ec none) 0 P l (vs.extract 1 vs.size) w R
theorem ie.mono [Env] {P:Program} {f:FuncId} {vs:Array Value} {w:World} {R R':Ending->World->Prop} (h:ie P f vs w R) (az: ∀e w',R e w'->R' e w'):ie P f vs w R':=by
 unfold ie at h ⊢;split at h
 ·exact h.mono az
 ·obtain ⟨l,aa,fn,tmps,assign,body,ad,al⟩:=h;exact ⟨l,aa,fn,tmps,assign,body,ad,al.mono az⟩
theorem ie.call [Env] {P:Program} {f:FuncId} {vs:Array Value} {w:World} {R:Ending->World->Prop} (aJ:hP f=false):ie P f vs w R↔tV P f vs w R:=by
 unfold hP at aJ;unfold ie;cases h:Env.code f with
 |none=>exact Iff.rfl
 |some c=>rw[h]at aJ;cases aJ
theorem ie.round [Env] {P:Program} {f:FuncId} {vs:Array Value} {w:World} {R:Ending->World->Prop} (aJ:hP f=true):ie P f vs w R↔ ∃l,vs[0]? =some (.func (.yield l) #[] #[])/\YieldAt (ec none) 0 P l (vs.extract 1 vs.size) w R:=by
 unfold hP at aJ;unfold ie;cases h:Env.code f with
 |none=>rw[h]at aJ;cases aJ
 |some c=>exact Iff.rfl
def iG [Env] (P:Program) (f:FuncId) (args:List ae) (H:List aG) (r:ae) (aC:List aG):Prop:=
 (∃fn,P.funcs[f]? =some fn/\(fn.name== "runtime.NumGoroutine")=false/\fn.body.isNone=false)/\
 ∀(φ:bw) (ι:Nat->Value) (w:World) (vs:Array Value),bP φ ι w H->(∀i,i<H.length->(aF H i).live=true)->ae.relT φ ι w args vs.toList->(∀i∈ae.idsL args,(aF H i).live=true)->
  Calls P f vs w fun e w'=> ∃v φ' ι',e=.returned v/\bP φ' ι' w' aC/\Step φ ι w H φ' ι' w' aC/\dA ι H ι' aC/\r.rel φ' ι' w' v/\(∀i∈r.ids,(aF aC i).live=true)
def tX [Env] (P:Program) (f:FuncId) (args:List ae) (H:List aG) (r:ae) (aC:List aG):Prop:=
 ∀(φ:bw) (ι:Nat->Value) (w:World) (vs:Array Value),bP φ ι w H->(∀i,i<H.length->(aF H i).live=true)->ae.relT φ ι w args vs.toList->(∀i∈ae.idsL args,(aF H i).live=true)->
  ie P f vs w fun e w'=> ∃v φ' ι',e=.returned v/\bP φ' ι' w' aC/\Step φ ι w H φ' ι' w' aC/\dA ι H ι' aC/\r.rel φ' ι' w' v/\(∀i∈r.ids,(aF aC i).live=true)
theorem iG.x [Env] {P:Program} {f:FuncId} {args:List ae} {H:List aG} {r:ae} {aC:List aG} (aJ:hP f=false) (h:iG P f args H r aC):tX P f args H r aC:=fun φ ι w vs aa ad al aE=>(ie.call aJ).2 (ams h.1 (h.2 φ ι w vs aa ad al aE))
def bO [Env] (P:Program) (Γ:gg):Prop:= ∀f args H r aC,(Γ f args H).val=some (r,aC)->tX P f args H r aC
section
variable {P:Program} {cx:bS} {φ:bw} {ι:Nat->Value} {w:World} {H:List aG} {n:Nat} {r:ae} {aC:List aG} {aI:Nat} {o:Oper} {a:Act} {ev:Operand->ae}
theorem e3.of_yld [Env] (dT: ∀c,o.op≠ .defer c) {s:Sem Value} (y:ch φ ι w H n r aC aI (s.run P w)) (he:execOp a.eval o=(do pure (.value (<-s)):Sem Next)):e3 P o a φ ι w H n r aC aI:=by
 intro ro next Q k;obtain ⟨v,w',φ',ι',e,aa,ad,al,aE,aZ,bt⟩:=y;refine sd dT ?_;rw[he];simp only[Sem.run_bind,e,Result.andThen_ok,Sem.run_pure,Oper.uponIn_value];exact k v w' φ' ι' aa ad al aE aZ bt
theorem e3.of_pure [Env] (dT: ∀c,o.op≠ .defer c) {v:Value} (h:bP φ ι w H) (az:r.rel φ ι w v) (pC: ∀i∈r.ids,(aF H i).live=true) (he:execOp a.eval o=(pure (.value v):Sem Next)):e3 P o a φ ι w H n r H n:=by
 intro ro next Q k;refine sd dT ?_;rw[he];simp only[Sem.run_pure,Oper.uponIn_value];exact k v w φ ι h (Step.refl _ _ _ _) (dA.refl _ _) (hs.refl _ _) az pC
theorem BP {x:ae} {i:Int} {v:Value} (h:sg x=some i) (aw:x.rel φ ι w v): ∃k,v=.int k i:=by
 unfold sg at h;split at h
 ·rename_i k a;obtain rfl:=Option.some.inj h;exact ⟨k,cd.int.1 aw⟩
 ·cases h
theorem JC {x:ae} {b:Bool} {v:Value} (h:kL x=some b) (aw:x.rel φ ι w v):v=.bool b:=by
 unfold kL at h;split at h
 ·obtain rfl:=Option.some.inj h;exact cd.bool.1 aw
 ·cases h
theorem Kn {x:Option Operand} {m:Option Int} (cH:sq φ ι w H ev a.eval) (h:u6 (x.map ev)=some m):ma (x.map a.eval) m:=by
 cases x with
 |none=>
  simp only[Option.map_none,u6,bs]at h;subst h;trivial
 |some y=>
  simp only[Option.map_some,u6,Option.map_eq_some_iff]at h;obtain ⟨i,ab,rfl⟩:=h;obtain ⟨k,av⟩:=BP ab (cH y).1;exact ⟨k,av⟩
theorem at9 (cH:sq φ ι w H ev a.eval): ∀(l:List (Nat×Operand)),oz φ ι w H (l.map fun p=>(p.1,ev p.2)) (l.map fun p=>(p.1,a.eval p.2))
 |[]=>trivial
 |p::l=>⟨rfl,(cH p.2).1,(cH p.2).2,at9 cH l⟩
theorem r9 (cH:sq φ ι w H ev a.eval): ∀(l:List Operand),ae.relT φ ι w (l.map ev) (l.map a.eval)
 |[]=>rfl
 |p::l=>⟨_,_,rfl,(cH p).1,r9 cH l⟩
theorem tP (cH:sq φ ι w H ev a.eval): ∀(l:List Operand),∀i∈ae.idsL (l.map ev),(aF H i).live=true
 |[],i,h=>by simp[ae.idsL]at h
 |p::l,i,h=>by
  simp only[List.map_cons,ae.idsL,List.mem_append]at h;rcases h with h |h
  ·exact (cH p).2 i h
  ·exact tP cH l i h
theorem ZO {f:FuncId} {l m:List ae} {v:Value} (h: ∃x y,v=.func (.func f) x y/\ae.relT φ ι w l x.toList/\ae.relT φ ι w m y.toList):(ae.fn f l m).rel φ ι w v:=h
theorem anL {T:TypeId} {x:ae} {v:Value} (h: ∃u,v=.iface T u/\x.rel φ ι w u):(ae.iface T x).rel φ ι w v:=h
theorem x5: ∀(fW:List TypeId) (l:List ae) (vs:List Value),ae.relT φ ι w l vs->ae.relT φ ι w (hC cx fW l) vs
 |[],_,_,h=>by unfold hC;exact h
 |_::_,[],_,h=>by unfold hC;exact h
 |T::fW,r::l,_,⟨v,m,e,aa,ad⟩=>⟨v,m,e,uO aa,x5 fW l m ad⟩
theorem x4: ∀(fW:List TypeId) (l:List ae),∀i∈ae.idsL (hC cx fW l),i∈ae.idsL l
 |[],_,i,h=>by unfold hC at h;exact h
 |_::_,[],i,h=>by unfold hC at h;exact h
 |T::fW,r::l,i,h=>by
  simp only[hC,ae.idsL,List.mem_append]at h ⊢;rcases h with h |h
  ·exact .inl (uN i h)
  ·exact .inr (x4 fW l i h)
theorem rP: ∀{l:List ae} {vs:List Value} {j:Nat} {x:ae},ae.relT φ ι w l vs->l[j]? =some x-> ∃v,vs[j]? =some v/\x.rel φ ι w v
 |[],_,j,x,_,h=>by simp at h
 |y::l,_,0,x,⟨v,m,e,aa,ad⟩,h=>by
  subst e;obtain rfl:y=x:=by simpa using h
  exact ⟨v,by simp,aa⟩
 |y::l,_,j+1,x,⟨v,m,e,aa,ad⟩,h=>by
  subst e;obtain ⟨u,al,aE⟩:=rP ad (by simpa using h:l[j]? =some x);exact ⟨u,by simpa using al,aE⟩
theorem rM: ∀{l:List ae} {j:Nat} {x:ae},l[j]? =some x-> ∀i∈x.ids,i∈ae.idsL l
 |[],j,x,h=>by simp at h
 |y::l,0,x,h=>by
  obtain rfl:y=x:=by simpa using h
  intro i ab;simp only[ae.idsL,List.mem_append];exact .inl ab
 |y::l,j+1,x,h=>by
  intro i ab;simp only[ae.idsL,List.mem_append];exact .inr (rM (by simpa using h) i ab)
theorem alL [Env] (tab:cA P cx) {T ty:TypeId} {x:ae} {v:Value} (e:(Ll cx T x).go H n=some (r,aC,aI)) (h:bP φ ι w H) (aw:x.rel φ ι w v):ch φ ι w H n r aC aI ((Builtin.cap_ #[T] ty #[v]).run P w):=by
 have key: ∀{t:aD} {A:Option Addr} {m c:Nat},cx.isTy T (.list t)=true->(Builtin.cap_ #[T] ty #[.slice A m c]).run P w=.ok (.int .i64 (c:Int)) w:=by
  intro t A m c bW;obtain ⟨i,ab,aU⟩:=gh bW;have ax:=(jb tab ab aU).1;simp[Builtin.cap_,run_underlying ax,goInt]
 unfold Ll at e;split at e
 ·have q:=go_bif e;clear e;obtain ⟨bW,e⟩:=q;obtain ⟨rfl,rfl,rfl⟩:=go_ret e;simp only[ae.rel]at aw;subst aw;exact ch.pure (r:=.dat (.int .i64) (0:Int)) (v:=.int .i64 0) h (gz (cd.int.2 rfl)) (by simp[ae.ids]) (key bW)
 ·have q:=go_bif e;clear e;obtain ⟨bW,e⟩:=q;obtain ⟨rfl,rfl,rfl⟩:=go_ret e;obtain ⟨A,m,rfl,nf⟩:=aw;obtain ⟨hQ,cr,aY,ai,ao,-⟩:=nf;injection ai with ai _
  obtain ⟨rfl,rfl,rfl⟩:=hh ai;rw[ao];exact ch.pure (r:=.dat (.int .i64) (m:Int)) (v:=.int .i64 (m:Int)) h (gz (cd.int.2 rfl)) (by simp[ae.ids]) (key bW)
 ·rename_i t o;have q:=go_bif e;clear e;obtain ⟨bW,e⟩:=q;simp only[HM.go]at e;split at e
  ·rename_i b8 u xs fz an;obtain ⟨rfl,rfl,rfl⟩:=go_ret e;obtain ⟨ja,gW,-⟩:=mM an;have bY:=h.obj o;rw[gW]at bY;obtain ⟨A,m,c,ai,aq,bb,_⟩:=bY;obtain ⟨rfl,_⟩:=aw;rw[ai];exact ch.pure (r:=.atl xs.length) (v:=.int .i64 (c:Int)) h ⟨c,rfl,by omega⟩ (by simp[ae.ids]) (key bW)
  ·simp[HM.go]at e
 ·rename_i t o lo ab;have q:=go_bif e;clear e;obtain ⟨bW,e⟩:=q;simp only[HM.go]at e;split at e
  ·rename_i b8 u xs fz an;obtain ⟨rfl,rfl,rfl⟩:=go_ret e;obtain ⟨ja,gW,-⟩:=mM an;have bY:=h.obj o;rw[gW]at bY;obtain ⟨A,m,c,ai,aq,bb,_⟩:=bY;obtain ⟨hQ,cr,aY,A',bx,_,_,_,rfl,_⟩:=aw;rw[ai]at bx;obtain ⟨rfl,rfl,rfl⟩:=hh bx;exact ch.pure (r:=.atl (xs.length-lo)) (v:=.int .i64 ((c-lo:Nat):Int)) h ⟨c-lo,rfl,by omega⟩ (by simp[ae.ids]) (key bW)
  ·simp[HM.go]at e
 ·simp[HM.go]at e
theorem ah6 [Env] (tab:cA P cx) {b:Builtin} {fW:Array TypeId} {ty:TypeId} {cs:Array Bool} {args:List ae} {vs:Array Value} (e:(JP cx b fW.toList args).go H n=some (r,aC,aI)) (h:bP φ ι w H)
  (aR:ae.relT φ ι w args vs.toList) (h1: ∀i∈ae.idsL args,(aF H i).live=true) (ds:hD H n aI):
  ∃s:Sem Value,builtin b fW ty cs vs=(do pure (.value (<-s)):Sem Next)/\ch φ ι w H n r aC aI (s.run P w):=by
 unfold JP at e;split at e
 ·rename_i T x bW;obtain ⟨v,m,aX,aw,hm⟩:=aR;simp only[ae.relT]at hm;subst hm;have kA:fW= #[T]:=by cases fW;simp at bW;simp[bW]
  have dL:vs= #[v]:=by cases vs;simp at aX;simp[aX]
  subst kA dL;exact ⟨_,rfl,alR tab e h aw⟩
 ·rename_i T T2 s x bW;obtain ⟨v,m,aX,aw,v2,cr,hm,nq,hK⟩:=aR;simp only[ae.relT]at hK;subst hK hm;have kA:fW= #[T,T2]:=by cases fW;simp at bW;simp[bW]
  have dL:vs= #[v,v2]:=by cases vs;simp at aX;simp[aX]
  subst kA dL;exact ⟨_,rfl,aiY tab e h aw nq (fun i ab=>h1 i (by simp[ae.idsL,ab])) (fun i ab=>h1 i (by simp[ae.idsL,ab])) ds⟩
 ·rename_i ae2 x l;obtain ⟨v,m,aX,aw,hm⟩:=aR;refine ⟨_,rfl,?_⟩;have q:=G4 (P:=P) l x m v r e hm aw (fun i ab=>h1 i (by simp[ae.idsL,ab]));clear e;obtain ⟨aa,ad,u,hu,az,pC⟩:=q;subst aa ad;refine ch.pure (r:=r) (v:=u) h az pC ?_;simp only[Bool.false_eq_true,if_false]at hu;unfold Builtin.min_;rw[aX];exact hu
 ·rename_i ae2 x l;obtain ⟨v,m,aX,aw,hm⟩:=aR;refine ⟨_,rfl,?_⟩;have q:=G4 (P:=P) l x m v r e hm aw (fun i ab=>h1 i (by simp[ae.idsL,ab]));clear e;obtain ⟨aa,ad,u,hu,az,pC⟩:=q;subst aa ad;refine ch.pure (r:=r) (v:=u) h az pC ?_;simp only[if_true]at hu;unfold Builtin.max_;rw[aX];exact hu
 ·rename_i T x bW;obtain ⟨v,m,aX,aw,hm⟩:=aR;simp only[ae.relT]at hm;subst hm;have kA:fW= #[T]:=by cases fW;simp at bW;simp[bW]
  have dL:vs= #[v]:=by cases vs;simp at aX;simp[aX]
  subst dL;have q:=go_bif e;clear e;obtain ⟨gX,e⟩:=q;obtain ⟨d,ax,-⟩:=YW tab gX;exact ⟨_,rfl,aju tab kA e h aw ⟨d,ax⟩⟩
 ·rename_i T T2 s x bW;obtain ⟨v,m,aX,aw,v2,cr,hm,nq,hK⟩:=aR;simp only[ae.relT]at hK;subst hK hm;have kA:fW= #[T,T2]:=by cases fW;simp at bW;simp[bW]
  have dL:vs= #[v,v2]:=by cases vs;simp at aX;simp[aX]
  subst kA dL;have q:=go_bif e;clear e;obtain ⟨gX,e⟩:=q;exact ⟨_,rfl,aj9 tab e h aw nq (fun i ab=>h1 i (by simp[ae.idsL,ab])) (fun i ab=>h1 i (by simp[ae.idsL,ab]))⟩
 ·rename_i T x bW;obtain ⟨v,m,aX,aw,hm⟩:=aR;simp only[ae.relT]at hm;subst hm;have kA:fW= #[T]:=by cases fW;simp at bW;simp[bW]
  have dL:vs= #[v]:=by cases vs;simp at aX;simp[aX]
  subst kA dL;exact ⟨_,rfl,alL tab e h aw⟩
 ·simp[HM.go]at e
theorem aoF [Env] {T:TypeId} {x y:Operand} (az:r=.undef) (PD: ∃w' φ' ι',(Instr.storeAt T (a.eval x) (a.eval y)).run P w=.ok () w'/\bP φ' ι' w' aC/\Step φ ι w H φ' ι' w' aC/\dA ι H ι' aC/\hs H n aC aI) (an:o.op=.store T x y):
  e3 P o a φ ι w H n r aC aI:=by
 subst az;intro ro next Q k;obtain ⟨w',φ',ι',e,aa,ad,al,aE⟩:=PD;refine sd (fun c aB=>by rw[an]at aB;cases aB) ?_;unfold execOp;simp only[an,Sem.run_bind,e,Result.andThen_ok,Sem.run_pure,Oper.uponIn_value];exact k undef w' φ' ι' aa ad al aE trivial (by simp[ae.ids])
theorem amG [Env] (tab:cA P cx) {Γ:gg} (zu: ∀c x g l m,o.op=.call c->c.callee=.value x->ev x=.fn g l m->hP g=false->(pT cx Γ g (l++hC cx c.argTypes.toList (c.args.toList.map ev)++m)).go H n=some (r,aC,aI)->e3 P o a φ ι w H n r aC aI)
  (hinv: ∀c x nm T ar i f,o.op=.call c->c.callee=.invoke x nm->ev x=.iface T ar->cx.ti T=some i->tg i.meths nm=some f->hP f=false->(pT cx Γ f (ar::hC cx c.argTypes.toList (c.args.toList.map ev))).go H n=some (r,aC,aI)->e3 P o a φ ι w H n r aC aI)
  (arL: ∀c x Y eL,o.op=.call c->c.callee=.value x->ev x=.yld Y eL->hP Y=true->(pT cx Γ Y (.yld Y eL::hC cx c.argTypes.toList (c.args.toList.map ev))).go H n=some (r,aC,aI)->e3 P o a φ ι w H n r aC aI)
  (e:(lG cx Γ o ev).go H n=some (r,aC,aI)) (h:bP φ ι w H) (cH:sq φ ι w H ev a.eval) (ds:hD H n aI):e3 P o a φ ι w H n r aC aI:=by
 have dT: ∀c,o.op≠ .defer c:=fun c aB=>by
  unfold lG at e;rw[aB]at e;simp[HM.go]at e
 unfold lG at e;split at e
 ·rename_i x an;obtain ⟨rfl,rfl,rfl⟩:=go_ret e;exact e3.of_pure dT h (uO (cH x).1) (fun i ab=>(cH x).2 i (uN i ab)) (by simp[execOp,an])
 ·rename_i x an;obtain ⟨rfl,rfl,rfl⟩:=go_ret e;exact e3.of_pure dT h (uO (cH x).1) (fun i ab=>(cH x).2 i (uN i ab)) (by simp[execOp,an])
 ·rename_i c x y an;split at e
  ·rename_i t aU;have aB:=JC aU (cH c).1;cases t
   ·simp only[HM.go,aL]at e;obtain ⟨rfl,rfl,rfl⟩:=go_ret e;refine e3.of_yld dT (s:=pure (a.eval y)) (ch.pure h (cH y).1 (cH y).2 rfl) ?_;simp[execOp,an,aB,asBool]
   ·simp only[HM.go,aA]at e;obtain ⟨rfl,rfl,rfl⟩:=go_ret e;refine e3.of_yld dT (s:=pure (a.eval x)) (ch.pure h (cH x).1 (cH x).2 rfl) ?_;simp[execOp,an,aB,asBool]
  ·simp[HM.go]at e
 ·rename_i T an;exact e3.of_yld dT (ajr tab e h ds) (by simp[execOp,an])
 ·rename_i T x an;exact e3.of_yld dT (VT tab e h (cH x).1 (cH x).2 ds) (by simp[execOp,an])
 ·rename_i T ps an;have ai:(ps.map fun p=>(p.1,a.eval p.2)).toList=ps.toList.map fun p=>(p.1,a.eval p.2):=by simp
  exact e3.of_yld dT (ajt tab e h (pv:=ps.map fun p=>(p.1,a.eval p.2)) (by rw[ai];exact at9 cH _)) (by simp[execOp,an])
 ·rename_i T m ps an;have ai:(ps.map fun p=>(p.1,a.eval p.2)).toList=ps.toList.map fun p=>(p.1,a.eval p.2):=by simp
  exact e3.of_yld dT (ahi tab e h (pv:=ps.map fun p=>(p.1,a.eval p.2)) (by rw[ai];exact at9 cH _) ds) (by simp[execOp,an])
 ·rename_i T x an;exact e3.of_yld dT (akd tab e h (cH x).1) (by simp[execOp,an])
 ·rename_i T x y an;obtain ⟨az,PD⟩:=ajN tab e h (cH x).1 (uO (cH y).1) (cH x).2 (fun i ab=>(cH y).2 i (uN i ab));exact aoF az PD an
 ·rename_i x an;have aw:=cH x;split at e
  ·rename_i de t i p aP;obtain ⟨rfl,rfl,rfl⟩:=go_ret e;rw[aP]at aw;have mF:=aw.1;obtain ⟨b,k,-,aX,-⟩:=mF;exact e3.of_pure dT h aw.1 aw.2 (by simp[execOp,an,aX])
  ·rename_i t y aP;obtain ⟨rfl,rfl,rfl⟩:=go_ret e;rw[aP]at aw;have mF:=aw.1;obtain ⟨b,i,cs,aX,-⟩:=mF;exact e3.of_pure dT h aw.1 aw.2 (by simp[execOp,an,aX])
  ·simp[HM.go]at e
 ·rename_i b T x y z an;cases aQ:Lo y
  case true=>
   rw[aQ,aA]at e;obtain rfl:y=.const .nilIface:=by
    unfold Lo at aQ;split at aQ
    ·rfl
    ·cases aQ
   exact e3.of_yld dT (ale tab e h (cH x).1 (cH x).2 x .nilIface) (by simp[execOp,an,Act.eval])
  case false=>
   rw[aQ,aL]at e;exact e3.of_yld dT (alI tab e h (cH x).1 (cH y).1 (cH x).2 (cH y).2 x y) (by simp[execOp,an])
 ·rename_i b T x an;exact e3.of_yld dT (amp e h (cH x).1) (by simp[execOp,an])
 ·rename_i S T x an;exact e3.of_yld dT (aj8 tab e h (cH x).1 (cH x).2 ds) (by simp[execOp,an])
 ·rename_i f l m an;obtain ⟨rfl,rfl,rfl⟩:=go_ret e;refine e3.of_yld dT (s:=Instr.makeFunc (.func f) (l.map a.eval) (m.map a.eval)) (ch.pure (v:=.func (.func f) (l.map a.eval) (m.map a.eval)) h (ZO ⟨_,_,rfl,?_,?_⟩) ?_ ?_) (by simp[execOp,an])
  ·simpa using r9 cH l.toList
  ·simpa using r9 cH m.toList
  ·intro i ab;simp only[ae.ids,List.mem_append]at ab;rcases ab with ab |ab
   ·exact tP cH _ i ab
   ·exact tP cH _ i ab
  ·simp[Instr.makeFunc]
 ·rename_i T x an;split at e
  ·rename_i i ab;cases aN:decide (i.ty=.opq)
   ·simp only[aN,aL]at e;obtain ⟨rfl,rfl,rfl⟩:=go_ret e;refine e3.of_yld dT (s:=Instr.makeInterface T (a.eval x)) (ch.pure (v:=.iface T (a.eval x)) h (anL ⟨_,rfl,(cH x).1⟩) (cH x).2 ?_) (by simp[execOp,an]);have ax:=(tab T i ab).desc;have aN:i.ty≠ .opq:=by simpa using aN
    unfold jB at ax;split at ax
    ·simp[Instr.makeInterface,run_underlying ax]
    ·simp[Instr.makeInterface,run_underlying ax]
    ·simp[Instr.makeInterface,run_underlying ax]
    ·simp[Instr.makeInterface,run_underlying ax.1]
    ·rename_i e;exact absurd e aN
    ·rcases ax with ⟨_,fs,ax,_⟩|⟨_,n,e,cW,ax,_⟩<;>simp[Instr.makeInterface,run_underlying ax]
   ·simp[aN,HM.go]at e
  ·simp[HM.go]at e
 ·rename_i T x y an;split at e
  ·rename_i i j ab ay;obtain ⟨a1,aa⟩:=BP ab (cH x).1;obtain ⟨k2,ad⟩:=BP ay (cH y).1;refine e3.of_yld dT (s:=Instr.makeSlice T (a.eval x) (a.eval y)) ?_ (by simp[execOp,an]);rw[aa,ad];exact ahI tab e h ds
  ·simp[HM.go]at e
 ·rename_i T x lo ab eT an;split at e
  ·rename_i l ca m aa ad al;exact e3.of_yld dT (ajI tab e h (cH x).1 (cH x).2 (Kn cH aa) (Kn cH ad) (Kn cH al)) (by simp[execOp,an])
  ·simp[HM.go]at e
 ·rename_i T x f an;exact e3.of_yld dT (ahD tab e h (cH x).1 (cH x).2) (by simp[execOp,an])
 ·rename_i T x f an;exact e3.of_yld dT (ajl tab e h (cH x).1 (cH x).2) (by simp[execOp,an])
 ·rename_i T x y an;split at e
  ·rename_i i ab;obtain ⟨k,av⟩:=BP ab (cH y).1;refine e3.of_yld dT (s:=Instr.indexAt T (a.eval x) (a.eval y)) ?_ (by simp[execOp,an]);rw[av];exact ahE tab e h (cH x).1 (cH x).2 k
  ·simp[HM.go]at e
 ·rename_i T x y an;split at e
  ·rename_i i ab;obtain ⟨k,av⟩:=BP ab (cH y).1;refine e3.of_yld dT (s:=Instr.index T (a.eval x) (a.eval y)) ?_ (by simp[execOp,an]);rw[av];exact ajm tab e h (cH x).1 k
  ·simp[HM.go]at e
 ·rename_i T x an;exact e3.of_yld dT (ajT tab e h (cH x).1 ds) (by simp[execOp,an])
 ·rename_i x b an;cases b
  ·simp[HM.go]at e
  ·exact e3.of_yld dT (akg (ty:=o.type) e h (cH x).1 (cH x).2) (by simp[execOp,an])
 ·rename_i x j an;have aw:=cH x;split at e
  ·rename_i l ao;rw[ao]at aw;obtain ⟨mF,nq⟩:=aw;obtain ⟨vs,aX,az⟩:=mF;obtain ⟨bf,rfl,rfl⟩:=go_opt e;obtain ⟨u,hu,NK⟩:=rP az bf;refine e3.of_yld dT (s:=Instr.extract (a.eval x) j) (ch.pure (v:=u) h NK (fun i ab=>nq i (rM bf i ab)) ?_) (by simp[execOp,an]);rw[aX];have vR:vs[j]? =some u:=by simpa using hu
   simp[Instr.extract,vR]
  ·simp[HM.go]at e
 ·rename_i c an;split at e
  ·rename_i b ag;obtain ⟨s,au,y⟩:=ah6 tab (ty:=o.type) (cs:=c.args.map fun | .const _=>true |_=>false) (vs:=c.args.map a.eval) e h (by simpa using x5 (cx:=cx) c.argTypes.toList _ _ (r9 cH c.args.toList)) (fun i ab=>tP cH c.args.toList i (x4 _ _ i ab)) ds;refine e3.of_yld dT y ?_;simp only[execOp,an,resolve,ag,pure_bind,invoke];exact au
  ·rename_i x aw;split at e
   ·rename_i g l m bH;cases az:hP g
    ·rw[az,aL]at e;exact zu c x g l m an aw bH az e
    ·simp[az,HM.go]at e
   ·rename_i Y eL bf;cases az:hP Y
    ·simp[az,HM.go]at e
    ·rw[az,aA]at e;exact arL c x Y eL an aw bf az e
   ·simp[HM.go]at e
  ·rename_i x nm aw;split at e
   ·rename_i T ar zS;split at e
    ·rename_i i ab;split at e
     ·rename_i f aJ;cases az:hP f
      ·rw[az,aL]at e;exact hinv c x nm T ar i f an aw zS ab aJ az e
      ·simp[az,HM.go]at e
     ·simp[HM.go]at e
    ·simp[HM.go]at e
   ·simp[HM.go]at e
 ·simp[HM.go]at e
end
open Go.RowKit
theorem yf {l:List Nat} {o:Nat}:has l o=true↔o∈l:=by
 induction l with
 |nil=>simp[has]
 |cons a l aO=>
  have:(has (a::l) o=true)=((Nat.beq a o||has l o)=true):=rfl;rw[this,Bool.or_eq_true,aO,List.mem_cons,Nat.beq_eq];exact ⟨fun h=>h.imp Eq.symm id,fun h=>h.imp Eq.symm id⟩
theorem afj (l:List Nat) (o:Nat): ∀n,idx.go o l n=n+idx.go o l 0:=by
 induction l with
 |nil=>intro n;simp[idx.go]
 |cons a l aO=>
  intro n;simp only[idx.go];cases Nat.beq a o
  ·simp only[aL];rw[aO (n+1),aO (0+1)];omega
  ·simp
theorem an8 (a:Nat) (l:List Nat) (o:Nat):idx (a::l) o=bif Nat.beq a o then 0 else idx l o+1:=by
 unfold idx;simp only[idx.go];cases Nat.beq a o
 ·simp only[aL];rw[afj];omega
 ·rfl
theorem pU {l:List Nat} {o:Nat} (h:o∈l):l[idx l o]? =some o:=by
 induction l with
 |nil=>cases h
 |cons a l aO=>
  rw[an8];cases ag:Nat.beq a o
  ·have cf:o≠a:=by rintro rfl;simp at ag
   simpa using aO (by simpa [cf] using h)
  ·have:a=o:=by simpa using ag
   simp[this]
theorem afk {l:List Nat} {o:Nat} (h:o∈l):idx l o<l.length:=(List.getElem?_eq_some_iff.1 (pU h)).1
theorem Kh {l:List Nat} (aQ:l.Nodup) {i o:Nat} (h:l[i]? =some o):idx l o=i:=by
 have aa:=pU (List.mem_of_getElem? h);obtain ⟨ab,ai⟩:=List.getElem?_eq_some_iff.1 h;obtain ⟨ay,aq⟩:=List.getElem?_eq_some_iff.1 aa;exact (List.getElem_inj aQ).1 (by rw[ai,aq])
mutual
theorem ae.ren_ids (ρ:Nat->Nat): ∀r:ae,(r.ren ρ).ids=r.ids.map ρ
 | .own ..=>rfl | .view ..=>rfl | .ptr ..=>rfl
 | .agg l=>by simp[ae.ren,ae.ids,ae.renL_ids ρ l]
 | .tup l=>by simp[ae.ren,ae.ids,ae.renL_ids ρ l]
 | .fn f a b=>by simp[ae.ren,ae.ids,ae.renL_ids ρ a,ae.renL_ids ρ b]
 | .iface T r=>by simp[ae.ren,ae.ids,ae.ren_ids ρ r]
 | .dfr f a b t xs=>by simp[ae.ren,ae.ids,ae.renL_ids ρ a,ae.renL_ids ρ b]
 | .undef=>rfl | .dat ..=>rfl | .clip ..=>rfl | .nilv=>rfl | .nils ..=>rfl | .fptr ..=>rfl | .nilI=>rfl | .nilF=>rfl | .nilP=>rfl | .atl _=>rfl | .lim ..=>rfl | .yld ..=>rfl | .gp ..=>rfl
theorem ae.renL_ids (ρ:Nat->Nat): ∀l:List ae,ae.idsL (ae.renL ρ l)=(ae.idsL l).map ρ
 |[]=>rfl
 |r::l=>by simp[ae.renL,ae.idsL,ae.ren_ids ρ r,ae.renL_ids ρ l]
end
mutual
theorem ae.ren_fits (ρ:Nat->Nat): ∀(r:ae) (t:aD),(r.ren ρ).fits t=r.fits t
 | .own ..,_=>rfl | .view ..,_=>rfl | .ptr ..,_=>rfl
 | .agg l,t=>by simp[ae.ren,ae.fits,ae.renL_fits ρ l]
 | .tup l,t=>by simp[ae.ren,ae.fits]
 | .fn f a b,t=>by simp[ae.ren,ae.fits]
 | .iface T r,t=>by simp[ae.ren,ae.fits]
 | .dfr ..,t=>by simp[ae.ren,ae.fits]
 | .undef,_=>rfl | .dat ..,_=>rfl | .clip ..,_=>rfl | .nilv,_=>rfl | .nils ..,_=>rfl | .fptr ..,_=>rfl | .nilI,_=>rfl | .nilF,_=>rfl | .nilP,_=>rfl | .atl _,_=>rfl | .lim ..,_=>rfl | .yld ..,_=>rfl | .gp ..,_=>rfl
theorem ae.renL_fits (ρ:Nat->Nat): ∀(l:List ae) (t:aD),ae.fitsL (ae.renL ρ l) t=ae.fitsL l t
 |[],t=>rfl
 |r::l,t=>by cases t<;>simp[ae.renL,ae.fitsL,ae.ren_fits ρ r,ae.renL_fits ρ l]
end
mutual
theorem ae.ren_rel {φ:bw} {ι ep:Nat->Value} {w:World} (ρ:Nat->Nat): ∀(r:ae) (v:Value),(∀i∈r.ids,ep (ρ i)=ι i)->r.rel φ ι w v->(r.ren ρ).rel φ ep w v
 | .undef,_,_,_=>trivial
 | .dat t x,v,_,h=>h
 | .clip t xs,v,_,h=>h
 | .nilv,_,_,h=>h
 | .nils _ _,_,_,h=>h
 | .own t o,v,ab,h=>by simp only[ae.rel,ae.ren]at h ⊢;rw[ab o (by simp[ae.ids])];exact h
 | .view t o lo hi',v,ab,h=>by simp only[ae.rel,ae.ren]at h ⊢;rw[ab o (by simp[ae.ids])];exact h
 | .ptr o t i p,v,ab,h=>by simp only[ae.rel,ae.ren]at h ⊢;rw[ab o (by simp[ae.ids])];exact h
 | .fptr t x,v,_,h=>h
 | .agg l,v,ab,⟨cs,e,h⟩=>⟨cs,e,ae.renL_relL ρ l _ (fun i h=>ab i (by simpa [ae.ids] using h)) h⟩
 | .tup l,v,ab,⟨cs,e,h⟩=>⟨cs,e,ae.renL_relT ρ l _ (fun i h=>ab i (by simpa [ae.ids] using h)) h⟩
 | .fn f a b,v,ab,⟨x,y,e,aa,ad⟩=>⟨x,y,e,ae.renL_relT ρ a _ (fun i h=>ab i (by simp[ae.ids,h])) aa,ae.renL_relT ρ b _ (fun i h=>ab i (by simp[ae.ids,h])) ad⟩
 | .iface T r,v,ab,⟨u,e,h⟩=>⟨u,e,ae.ren_rel ρ r u (fun i h=>ab i (by simpa [ae.ids] using h)) h⟩
 | .nilI,_,_,h=>h
 | .nilF,_,_,h=>h
 | .nilP,_,_,h=>h
 | .atl _,_,_,h=>h
 | .lim ..,_,_,h=>h
 | .yld Y o,v,ab,h=>by simp only[ae.rel,ae.ren]at h ⊢;rw[ab o (by simp[ae.ids])];exact h
 | .gp ..,_,_,h=>h
 | .dfr f a b t xs,v,ab,⟨vs,e,ao,h⟩=>⟨vs,e,ao,fun i x u aw hu=>
   let ⟨a7,jZ,aY,ai,aa,ad,aE⟩:=h i x u aw hu
   ⟨a7,jZ,aY,ai,ae.renL_relT ρ a _ (fun i h=>ab i (by simp[ae.ids,h])) aa,ad,ae.renL_relT ρ b _ (fun i h=>ab i (by simp[ae.ids,h])) aE⟩⟩
theorem ae.renL_relL {φ:bw} {ι ep:Nat->Value} {w:World} (ρ:Nat->Nat): ∀(l:List ae) (cs:List Value),(∀i∈ae.idsL l,ep (ρ i)=ι i)->ae.relL φ ι w l cs->ae.relL φ ep w (ae.renL ρ l) cs
 |[],_,_,h=>h
 |r::l,_,ab,⟨v,aY,e,aa,ad⟩=>⟨v,aY,e,ae.ren_rel ρ r v (fun i h=>ab i (by simp[ae.idsL,h])) aa,ae.renL_relL ρ l aY (fun i h=>ab i (by simp[ae.idsL,h])) ad⟩
theorem ae.renL_relT {φ:bw} {ι ep:Nat->Value} {w:World} (ρ:Nat->Nat): ∀(l:List ae) (vs:List Value),(∀i∈ae.idsL l,ep (ρ i)=ι i)->ae.relT φ ι w l vs->ae.relT φ ep w (ae.renL ρ l) vs
 |[],_,_,h=>h
 |r::l,_,ab,⟨v,aY,e,aa,ad⟩=>⟨v,aY,e,ae.ren_rel ρ r v (fun i h=>ab i (by simp[ae.idsL,h])) aa,ae.renL_relT ρ l aY (fun i h=>ab i (by simp[ae.idsL,h])) ad⟩
end
theorem aG.ren_owns (ρ:Nat->Nat) (b:aG):(b.ren ρ).owns=b.owns:=by cases b<;>rfl
theorem aG.ren_live (ρ:Nat->Nat) (b:aG):(b.ren ρ).live=b.live:=by cases b<;>rfl
theorem bD.ren_ids (ρ:Nat->Nat) (R:bD):(R.ren ρ).ids=R.ids.map ρ:=by
 induction R with
 |nil=>rfl
 |cons p l aO=>simp[bD.ren,bD.ids,ae.ren_ids,aO]
theorem bD.mem_ren {ρ:Nat->Nat} {R:bD} {q:Nat×ae} (h:q∈R.ren ρ): ∃x∈R,q=(x.1,x.2.ren ρ):=by
 induction R with
 |nil=>cases h
 |cons p l aO=>
  rcases List.mem_cons.1 h with rfl |h
  ·exact ⟨p,by simp,rfl⟩
  ·obtain ⟨x,aa,ad⟩:=aO h;exact ⟨x,by simp[aa],ad⟩
theorem aG.ren_ids (ρ:Nat->Nat) (b:aG):(b.ren ρ).ids=b.ids.map ρ:=by cases b<;>simp[aG.ren,aG.ids,ae.ren_ids,bD.ren_ids]
theorem hS.ren [Env] {φ:bw} {ι ep:Nat->Value} {w:World} {o de:Nat} {ob:aG} (ρ:Nat->Nat) (an:ep de=ι o) (ab: ∀i∈ob.ids,ep (ρ i)=ι i) (h:hS φ ι w o ob):hS φ ep w de (ob.ren ρ):=by
 cases ob with
 |hole=>trivial
 |gone=>trivial
 |arr e t xs fz=>
  obtain ⟨A,n,c,ai,h⟩:=h;exact ⟨A,n,c,an.trans ai,h⟩
 |box T t r=>
  obtain ⟨b,cur,fr,v,ai,aa,ad,al,aE,aZ,bt,dn,hX⟩:=h;exact ⟨b,cur,fr,v,an.trans ai,aa,ad,al,aE,ae.ren_rel ρ r v ab aZ,bt,by rw[ae.ren_fits];exact dn,hX⟩
 |iter s pos=>
  obtain ⟨b,n,ai,h⟩:=h;exact ⟨b,n,an.trans ai,h⟩
 |loop Y R p=>
  obtain ⟨l,rec,c,ai,h⟩:=h;refine ⟨l,rec,c,an.trans ai,⟨h.code,h.heap,h.params,h.assign,h.body,h.nt,h.st,fun q aN=> ?_,h.phi⟩⟩;obtain ⟨x,aa,rfl⟩:=bD.mem_ren aN;exact ae.ren_rel ρ x.2 _ (fun i aw=>ab i (bD.mem_ids aa i aw)) (h.regs x aa)
structure oY (H:List aG) (done:List Nat) (obs:List aG):Prop where
 obs:obs=done.map (aF H)
 nodup:done.Nodup
 closed: ∀o∈done,∀i∈(aF H o).ids,i∈done
theorem wV {H:List aG} {n:Nat}: ∀(k:Nat) (todo done:List Nat) (obs:List aG) (q:List Nat×List aG) (ef:List aG) (dj:Nat),(jO k todo done obs).go H n=some (q,ef,dj)->
  obs=done.map (aF H)->done.Nodup->(∀o∈done,∀i∈(aF H o).ids,i∈done\/i∈todo)->ef=H/\dj=n/\oY H q.1 q.2/\(∀i∈todo,i∈q.1)/\(∃m,q.1=done++m)/\
   ((∀o,∀i∈(aF H o).ids,(aF H i).live=true)->(∀i∈todo,(aF H i).live=true)->(∀i∈done,(aF H i).live=true)-> ∀i∈q.1,(aF H i).live=true)
 |0,todo,done,obs,q,ef,dj,e,_,_,_=>by simp[jO,HM.go]at e
 |k+1,[],done,obs,q,ef,dj,e,an,aQ,aB=>by
  simp only[jO]at e;obtain ⟨rfl,rfl,rfl⟩:=go_ret e;exact ⟨rfl,rfl,⟨an,aQ,fun o h i ab=>by simpa using aB o h i ab⟩,by simp,⟨[],by simp⟩,fun _ _ h=>h⟩
 |k+1,o::todo,done,obs,q,ef,dj,e,an,aQ,aB=>by
  simp only[jO]at e;cases ag:has done o
  ·simp only[ag,aL,HM.go]at e;have pg:o∉done:=fun h=>by rw[yf.2 h]at ag;cases ag
   obtain ⟨aa,ad,al,aE,⟨m,aZ⟩,bt⟩:=wV k _ _ _ q ef dj e (by simp[an]) (by
     rw[List.nodup_append];exact ⟨aQ,by simp,fun a aR b ag=>by simp at ag;subst ag;rintro rfl;exact pg aR⟩) (fun a aR i ab=>by
     rcases List.mem_append.1 aR with aR |aR
     ·rcases aB a aR i ab with h |h
      ·exact .inl (List.mem_append.2 (.inl h))
      ·rcases List.mem_cons.1 h with h |h
       ·exact .inl (by simp[h])
       ·exact .inr (List.mem_append.2 (.inl h))
     ·simp at aR;subst aR;exact .inr (List.mem_append.2 (.inr ab)))
   refine ⟨aa,ad,al,fun i ab=> ?_,⟨[o]++m,by rw[aZ];simp⟩,fun dd cM nu=>bt dd (fun i ab=> ?_) (fun i ab=> ?_)⟩
   ·rcases List.mem_cons.1 ab with h |h
    ·rw[aZ,h];simp
    ·exact aE i (List.mem_append.2 (.inl h))
   ·rcases List.mem_append.1 ab with h |h
    ·exact cM i (by simp[h])
    ·exact dd o i h
   ·rcases List.mem_append.1 ab with h |h
    ·exact nu i h
    ·simp at h;subst h;exact cM i (by simp)
  ·simp only[ag,aA]at e;have dq:=yf.1 ag;obtain ⟨aa,ad,al,aE,aZ,bt⟩:=wV k todo done obs q ef dj e an aQ (fun a aR i ab=>by
     rcases aB a aR i ab with h |h
     ·exact .inl h
     ·rcases List.mem_cons.1 h with h |h
      ·exact .inl (by rw[h];exact dq)
      ·exact .inr h)
   refine ⟨aa,ad,al,fun i ab=> ?_,aZ,fun dd cM nu=>bt dd (fun i ab=>cM i (by simp[ab])) nu⟩;rcases List.mem_cons.1 ab with h |h
   ·obtain ⟨m,aZ⟩:=aZ;rw[aZ,h];exact List.mem_append.2 (.inl dq)
   ·exact aE i h
theorem We {H:List aG} {n:Nat}: ∀(pre:List Nat) (k:Nat) (rest done:List Nat) (obs:List aG) (q:List Nat×List aG) (ef:List aG) (dj:Nat),(jO k (pre++rest) done obs).go H n=some (q,ef,dj)->
  (done++pre).Nodup-> ∃m,q.1=done++pre++m
 |[],k,rest,done,obs,q,ef,dj,e,aQ=>by
  have: ∀(k:Nat) (todo done:List Nat) (obs:List aG),(jO k todo done obs).go H n=some (q,ef,dj)-> ∃m,q.1=done++m:=by
   intro k
   induction k with
   |zero=>intro todo done obs e;simp[jO,HM.go]at e
   |succ k aO=>
    intro todo done obs e;cases todo with
    |nil=>
     simp only[jO]at e;obtain ⟨rfl,-,-⟩:=go_ret e;exact ⟨[],by simp⟩
    |cons o todo=>
     simp only[jO]at e;cases ag:has done o
     ·simp only[ag,aL,HM.go]at e;obtain ⟨m,hm⟩:=aO _ _ _ e;exact ⟨[o]++m,by rw[hm];simp⟩
     ·simp only[ag,aA]at e;exact aO _ _ _ e
  simpa using this k rest done obs e
 |o::pre,0,rest,done,obs,q,ef,dj,e,aQ=>by simp[jO,HM.go]at e
 |o::pre,k+1,rest,done,obs,q,ef,dj,e,aQ=>by
  simp only[List.cons_append,jO]at e;have pg:o∉done:=fun h=>by
   have:=(List.nodup_append.1 aQ).2.2 o h o (by simp);exact this rfl
  have ag:has done o=false:=by
   cases h:has done o
   ·rfl
   ·exact absurd (yf.1 h) pg
  simp only[ag,aL,HM.go]at e;rw[List.append_assoc]at e;obtain ⟨m,hm⟩:=We pre k _ _ _ q ef dj e (by simpa using aQ);exact ⟨m,by rw[hm];simp⟩
theorem Yu {n i:Nat}:i∈jv n↔i<n:=by
 induction n with
 |zero=>simp[jv]
 |succ n aO=>simp[jv,aO];omega
theorem amR (n:Nat):(jv n).Nodup:=by
 induction n with
 |zero=>simp[jv]
 |succ n aO=>
  rw[jv,List.nodup_append];exact ⟨aO,by simp,fun a aR b ag=>by have:=Yu.1 aR;simp at ag;omega⟩
theorem aoN {n i:Nat} (h:i<n):(jv n)[i]? =some i:=by
 induction n with
 |zero=>omega
 |succ n aO=>
  have ao:(jv n).length=n:=by
   clear h aO
   induction n with
   |zero=>rfl
   |succ n aO=>simp[jv,aO]
  rw[jv];rcases Nat.lt_or_ge i n with aa |aa
  ·rw[List.getElem?_append_left (by omega)];exact aO aa
  ·have:i=n:=by omega
   subst this;rw[List.getElem?_append_right (by omega)];simp[ao]
theorem YK (n:Nat):(jv n).length=n:=by
 induction n with
 |zero=>rfl
 |succ n aO=>simp[jv,aO]
section
variable {φ:bw} {ι:Nat->Value} {w:World} {H:List aG} {done:List Nat} {obs:List aG}
def jw (ι:Nat->Value) (done:List Nat):Nat->Value:=fun i=>ι (done.getD i 0)
def iX (done:List Nat) (obs:List aG):List aG:=obs.map (aG.ren (idx done))
theorem Dx {o:Nat} (h:o∈done):jw ι done (idx done o)=ι o:=by
 unfold jw;rw[List.getD_eq_getElem?_getD,pU h];rfl
theorem l3 (g:oY H done obs) {i o:Nat} (h:done[i]? =some o):aF (iX done obs) i=(aF H o).ren (idx done):=by
 have e:=g.obs;subst e;simp[iX,aF,List.getD_eq_getElem?_getD,h]
theorem xd (g:oY H done obs) {i:Nat} (h:done.length<=i):aF (iX done obs) i=.hole:=by
 have e:=g.obs;subst e;have:done[i]? =none:=List.getElem?_eq_none h;simp[iX,aF,List.getD_eq_getElem?_getD,this]
theorem Dc (g:oY H done obs) {b:Nat} (h:ig (jw ι done) (iX done obs) b):ig ι H b:=by
 obtain ⟨i,aa,ad⟩:=h;cases ax:done[i]? with
 |none=>
  rw[xd g (List.getElem?_eq_none_iff.1 ax)]at aa;cases aa
 |some o=>
  rw[l3 g ax,aG.ren_owns]at aa;refine ⟨o,aa,?_⟩;rw[<-ad];simp[jw,List.getD_eq_getElem?_getD,ax]
theorem Zs [Env] (h:bP φ ι w H) (g:oY H done obs) (ao: ∀o∈done,(aF H o).live=true):bP φ (jw ι done) w (iX done obs):=by
 have ab: ∀{i o:Nat},done[i]? =some o->jw ι done i=ι o:=fun {i o} ax=>by simp[jw,List.getD_eq_getElem?_getD,ax]
 refine ⟨fun i=> ?_,fun i j b aa ad al aE=> ?_,h.phi,fun i j ay=> ?_,h.glob⟩
 ·cases ax:done[i]? with
  |none=>rw[xd g (List.getElem?_eq_none_iff.1 ax)];trivial
  |some o=>
   rw[l3 g ax];exact (h.obj o).ren (idx done) (ab ax) fun k av=>Dx (g.closed o (List.mem_of_getElem? ax) k av)
 ·cases ax:done[i]? with
  |none=>rw[xd g (List.getElem?_eq_none_iff.1 ax)]at aa;cases aa
  |some o=>
   cases nW:done[j]? with
   |none=>rw[xd g (List.getElem?_eq_none_iff.1 nW)]at ad;cases ad
   |some h4=>
    rw[l3 g ax,aG.ren_owns]at aa;rw[l3 g nW,aG.ren_owns]at ad;rw[ab ax]at al;rw[ab nW]at aE;have:=h.apart o h4 b aa ad al aE;subst this;rw[<-Kh g.nodup ax,<-Kh g.nodup nW]
 ·cases ax:done[i]? with
  |none=>rw[xd g (List.getElem?_eq_none_iff.1 ax)]at ay;simp[aG.ids]at ay
  |some o=>
   rw[l3 g ax,aG.ren_ids]at ay;obtain ⟨k,av,rfl⟩:=List.mem_map.1 ay;have jg:=g.closed o (List.mem_of_getElem? ax) k av;rw[l3 g (pU jg),aG.ren_live];exact ao k jg
theorem Y0 (g:oY H done obs) (ao: ∀o∈done,(aF H o).live=true) {l:List Nat} (dq: ∀i∈l,i∈done): ∀i∈l.map (idx done),(aF (iX done obs) i).live=true:=by
 intro i ab;obtain ⟨k,av,rfl⟩:=List.mem_map.1 ab;rw[l3 g (pU (dq k av)),aG.ren_live];exact ao k (dq k av)
theorem Zr (g:oY H done obs) (ao: ∀o∈done,(aF H o).live=true): ∀i,i<(iX done obs).length->(aF (iX done obs) i).live=true:=by
 intro i ab;have e:=g.obs;have hi':i<done.length:=by
  rw[iX,e]at ab;simpa using ab
 have ax:done[i]? =some done[i]:=List.getElem?_eq_getElem hi';rw[l3 g ax,aG.ren_live];exact ao _ (List.getElem_mem hi')
theorem aoG (g:oY H done obs):Step φ ι w H φ (jw ι done) w (iX done obs):=
 ⟨fun _ _ h=>h,fun _ _ _=>rfl,fun _ _ h=>.inl h,Nat.le_refl _,rfl,rfl,rfl,fun _ _ _=>rfl,fun _ h=>.inr (Dc g h)⟩
theorem bP.live_ids [Env] (h:bP φ ι w H): ∀o,∀i∈(aF H o).ids,(aF H i).live=true:=by
 exact h.ids
end
open Go.RowKit
section
variable {P:Program} {cx:bS} {φ:bw} {ι:Nat->Value} {w:World} {H:List aG} {n:Nat} {aC:List aG} {aI:Nat}
theorem VS [Env] {r fB:ae} (e:(DQ r).go H n=some (fB,aC,aI)) (h:bP φ ι w H) {v:Value} (az:r.rel φ ι w v) (ao: ∀i∈r.ids,(aF H i).live=true):
  aI=n/\ ∃φ',ee φ ι w H φ' aC/\fB.rel φ' ι w v/\ ∀i∈fB.ids,(aF aC i).live=true:=by
 have key: ∀{x:HM dN},x=fQ r->(x.bind fun d=>HM.ret (ae.dat d.t d.x)).go H n=some (fB,aC,aI)->aI=n/\ ∃φ',ee φ ι w H φ' aC/\fB.rel φ' ι w v/\ ∀i∈fB.ids,(aF aC i).live=true:=by
  intro x aw e;subst aw;obtain ⟨d,H1,cC,ai,aq⟩:=HM.go_bind_some e;obtain ⟨rfl,rfl,rfl⟩:=go_ret aq;obtain ⟨aa,cU,g,aX⟩:=re r φ v H n d _ _ ai h az ao;exact ⟨aa,cU,g,gz aX,by simp[ae.ids]⟩
 unfold DQ at e;split at e
 ·rename_i l;exact key (x:=sk l) (by simp[fQ]) e
 ·exact key rfl e
 ·exact key rfl e
 ·exact key (x:=.ret ⟨.list _,[]⟩) (by simp[fQ]) e
 ·exact key (x:=.ret ⟨.list _,_⟩) (by simp[fQ]) e
 ·obtain ⟨rfl,rfl,rfl⟩:=go_ret e;exact ⟨rfl,φ,ee.refl h,az,ao⟩
theorem UH [Env] {f:FuncId}: ∀(l:List ae) (j:Nat) (vs:List Value) (φ:bw) (H:List aG) (n:Nat) (eI:List ae) (aC:List aG) (aI:Nat),(x8 cx f j l).go H n=some (eI,aC,aI)->bP φ ι w H->ae.relT φ ι w l vs->(∀i∈ae.idsL l,(aF H i).live=true)->
  aI=n/\ ∃φ',ee φ ι w H φ' aC/\ae.relT φ' ι w eI vs/\ ∀i∈ae.idsL eI,(aF aC i).live=true
 |[],j,vs,φ,H,n,eI,aC,aI,e,h,az,ao=>by
  simp only[x8]at e;obtain ⟨rfl,rfl,rfl⟩:=go_ret e;exact ⟨rfl,φ,ee.refl h,az,ao⟩
 |r::l,j,vs,φ,H,n,eI,aC,aI,e,h,⟨v,m,aX,aa,ad⟩,ao=>by
  subst aX;simp only[x8]at e;obtain ⟨ar,H1,cC,ai,e⟩:=HM.go_bind_some e;obtain ⟨dd,ef,dj,aq,e⟩:=HM.go_bind_some e;obtain ⟨rfl,rfl,rfl⟩:=go_ret e;have vF: ∀i∈r.ids,(aF H i).live=true:=fun i ab=>ao i (by simp[ae.idsL,ab])
  have q:cC=n/\ ∃φ',ee φ ι w H φ' H1/\ar.rel φ' ι w v/\ ∀i∈ar.ids,(aF H1 i).live=true:=by
   cases ag:cx.rawArg f j
   ·simp only[ag,aL]at ai;exact VS ai h aa vF
   ·simp only[ag,aA]at ai;obtain ⟨rfl,rfl,rfl⟩:=go_ret ai;exact ⟨rfl,φ,ee.refl h,aa,vF⟩
  obtain ⟨rfl,cU,g1,zS,aqR⟩:=q;obtain ⟨rfl,du,g2,ari,gM⟩:=UH l (j+1) m cU H1 _ dd _ _ aq g1.rel (ae.relT_mono g1.step.phi g1.step.cells l m (fun _ _=>rfl) ad) (fun i ab=>by rw[g1.live];exact ao i (by simp[ae.idsL,ab]));refine ⟨rfl,du,g1.trans g2,⟨v,m,rfl,ae.rel_mono g2.step.phi g2.step.cells ar v (fun _ _=>rfl) zS,ari⟩,fun i ab=> ?_⟩;simp only[ae.idsL,List.mem_append]at ab;rcases ab with ab |ab
  ·rw[g2.live];exact aqR i ab
  ·exact gM i ab
structure HG (ρ:Nat->Nat) (os:List Nat) (l:List aG) (H:List aG) (n:Nat) (aC:List aG) (aI:Nat):Prop where
 le:os.length<=l.length
 next:aI=n+(l.length-os.length)
 old: ∀i o,os[i]? =some o->aF aC o=(aF l i).ren ρ
 new: ∀j,j<l.length-os.length->aF aC (n+j)=(aF l (os.length+j)).ren ρ
 other: ∀o,o∉os->(o<n\/aI<=o)->aF aC o=aF H o
 len:H.length<=aC.length
 top:aI<=aC.length
 seq:n=H.length->aC.length=aI
theorem aln (H:List aG) (o:Nat) (b:aG) (an:o<=H.length):H.length<=(bL H o b).length/\o+1<=(bL H o b).length/\(o<H.length->(bL H o b).length=H.length)/\(o=H.length->(bL H o b).length=o+1):=by
 rcases Nat.lt_or_ge o H.length with h |h
 ·have:=gK H o b h;exact ⟨by omega,by omega,fun _=>this,fun h=>by omega⟩
 ·have:o=H.length:=by omega
  subst this;have:=rk H b;exact ⟨by omega,by omega,fun h=>by omega,fun _=>this⟩
theorem WM {ρ:Nat->Nat}: ∀(l:List aG) (H:List aG) (n:Nat) (u:Unit) (aC:List aG) (aI:Nat),(pW ρ [] l).go H n=some (u,aC,aI)->n<=H.length->HG ρ [] l H n aC aI
 |[],H,n,u,aC,aI,e,aQ=>by
  simp only[pW]at e;obtain ⟨-,rfl,rfl⟩:=go_ret e;exact ⟨Nat.le_refl _,rfl,by simp,by simp,fun _ _ _=>rfl,Nat.le_refl _,aQ,fun h=>h.symm⟩
 |b::l,H,n,u,aC,aI,e,aQ=>by
  simp only[pW,HM.go]at e;obtain ⟨a1,k2,b5,dD⟩:=aln H n (b.ren ρ) aQ;have aO:=WM l (bL H n (b.ren ρ)) (n+1) u aC aI e k2;have ai:=aO.next;simp only[List.length_nil,Nat.sub_zero]at ai;refine ⟨by simp,by rw[ai];simp;omega,by simp,fun j ay=> ?_,fun o an h=> ?_,Nat.le_trans a1 aO.len,aO.top,fun h=>aO.seq (dD h).symm⟩
  ·cases j with
   |zero=>
    rw[Nat.add_zero,aO.other n (by simp) (.inl (by omega)),fk H n _ n aQ];simp[aF]
   |succ j=>
    have:=aO.new j (by simp at ay ⊢;omega);rw[show n+(j+1)=n+1+j by omega,this];simp[aF]
  ·rw[aO.other o (by simp) (by omega),fk H n _ o aQ];rw[if_neg];omega
theorem V2 {ρ:Nat->Nat}: ∀(os:List Nat) (l:List aG) (H:List aG) (n:Nat) (u:Unit) (aC:List aG) (aI:Nat),(pW ρ os l).go H n=some (u,aC,aI)->n<=H.length->os.Nodup->(∀o∈os,o<H.length/\(o<n\/aI<=o))->HG ρ os l H n aC aI
 |[],l,H,n,u,aC,aI,e,aQ,_,_=>WM l H n u aC aI e aQ
 |o::os,[],H,n,u,aC,aI,e,aQ,_,_=>by simp[pW,HM.go]at e
 |o::os,b::l,H,n,u,aC,aI,e,aQ,dT,a8=>by
  simp only[pW,HM.go]at e;have an:=(a8 o (by simp)).1;have hlen:=gK H o (b.ren ρ) an;have aO:=V2 os l (bL H o (b.ren ρ)) n u aC aI e (by rw[hlen];exact aQ) (by simp at dT;exact dT.2) (fun p aP=>by rw[hlen];exact a8 p (by simp[aP]));have jj:o∉os:=by simp at dT;exact dT.1
  refine ⟨by simpa using aO.le,by rw[aO.next];simp,fun i p aP=> ?_,fun j ay=> ?_,fun p aP h=> ?_,by rw[<-hlen];exact aO.len,aO.top,fun h=>aO.seq (by rw[hlen];exact h)⟩
  ·cases i with
   |zero=>
    obtain rfl:o=p:=by simpa using aP
    rw[aO.other o jj (a8 o (by simp)).2,fk H o _ o (Nat.le_of_lt an)];simp[aF]
   |succ i=>
    have:=aO.old i p (by simpa using aP);rw[this];simp[aF]
  ·have:=aO.new j (by simpa using ay);rw[this];simp only[List.length_cons,aF];rw[show os.length+1+j=(os.length+j)+1 by omega];simp
  ·rw[aO.other p (fun h=>aP (by simp[h])) h,fk H o _ p (Nat.le_of_lt an),if_neg];rintro rfl;exact aP (by simp)
theorem amr [Env] {done:List Nat} {obs L:List aG} {φ':bw} {ι':Nat->Value} {w':World} (h:bP φ ι w H) (g:oY H done obs) (ao: ∀o∈done,(aF H o).live=true) (ds:hD H n aI)
  (b:HG (fun i=>done.getD i (n+(i-done.length))) done L H n aC aI) (ca:bP φ' ι' w' L) (s:Step φ (jw ι done) w (iX done obs) φ' ι' w' L) (k:dA (jw ι done) (iX done obs) ι' L):
  ∃gf,bP φ' gf w' aC/\Step φ ι w H φ' gf w' aC/\dA ι H gf aC/\hs H n aC aI/\ ∀i,(aF L i).live=true->gf (done.getD i (n+(i-done.length)))=ι' i/\(aF aC (done.getD i (n+(i-done.length)))).live=true:=by
 let ρ:Nat->Nat:=fun i=>done.getD i (n+(i-done.length))
 let gf:Nat->Value:=fun o=>if o∈done then ι' (idx done o) else if n<=o/\o<aI then ι' (done.length+(o-n)) else ι o
 have hle:=b.le;have avr:=b.next;have eH: ∀{H:List aG} {i:Nat},(aF H i).owns=true->(aF H i).live=true:=fun {H i} an=>by cases cP:aF H i<;>rw[cP]at an<;>first |rfl |(cases an)
 have aqq: ∀o∈done,o<n\/aI<=o:=fun o an=>by
  rcases Nat.lt_or_ge o n with aa |aa
  ·exact .inl aa
  ·rcases Nat.lt_or_ge o aI with ad |ad
   ·have:=ds.2 o aa ad;rw[ao o an]at this;cases this
   ·exact .inr ad
 have A: ∀o,(o∈done\/(n<=o/\o<aI))-> ∃i,i<L.length/\ρ i=o/\gf o=ι' i/\aF aC o=(aF L i).ren ρ:=by
  intro o an;by_cases ax:o∈done
  ·refine ⟨idx done o,Nat.lt_of_lt_of_le (afk ax) hle,?_,by simp[gf,ax],b.old _ o (pU ax)⟩;simp[ρ,List.getD_eq_getElem?_getD,pU ax]
  ·have an:=an.resolve_left ax;refine ⟨done.length+(o-n),by omega,?_,by simp[gf,ax,an],?_⟩
   ·simp[ρ,List.getD_eq_getElem?_getD];omega
   ·have:=b.new (o-n) (by omega)
    rwa [show n+(o-n)=o by omega]at this
 have B: ∀i,i<L.length->(ρ i∈done\/(n<=ρ i/\ρ i<aI))/\gf (ρ i)=ι' i/\aF aC (ρ i)=(aF L i).ren ρ:=by
  intro i ab;rcases Nat.lt_or_ge i done.length with aa |aa
  ·have ai:done[i]? =some (done[i]):=List.getElem?_eq_getElem aa;have aq:ρ i=done[i]:=by simp[ρ,List.getD_eq_getElem?_getD,ai]
   have ax:done[i]∈done:=List.getElem_mem aa;rw[aq];exact ⟨.inl ax,by simp[gf,ax,Kh g.nodup ai],b.old i _ ai⟩
  ·have aq:ρ i=n+(i-done.length):=by simp[ρ,List.getD_eq_getElem?_getD,List.getElem?_eq_none aa]
   have dT:ρ i∉done:=fun ax=>by rcases aqq _ ax with h |h<;>omega
   refine ⟨.inr (by omega),?_,?_⟩
   ·have al:n<=ρ i/\ρ i<aI:=by omega
    simp only[gf,dT,if_false,al,and_self,if_true];rw[aq];congr 1;omega
   ·have:=b.new (i-done.length) (by omega);rw[aq,this];congr 2;omega
 have C: ∀o,¬(o∈done\/(n<=o/\o<aI))->aF aC o=aF H o/\gf o=ι o:=by
  intro o an;have aa:o∉done:=fun h=>an (.inl h)
  have ad: ¬(n<=o/\o<aI):=fun h=>an (.inr h)
  exact ⟨b.other o aa (by omega),by simp only[gf,aa,if_false,ad]⟩
 have vE: ∀o,(aF H o).live=true->gf o=ι o:=by
  intro o an;by_cases ax:o∈done
  ·have ai:=pU ax;have aa:(aF (iX done obs) (idx done o)).live=true:=by rw[l3 g ai,aG.ren_live];exact an
   simp only[gf,ax,if_true];rw[k.iota _ aa,Dx ax]
  ·by_cases az:n<=o/\o<aI
   ·rw[ds.2 o az.1 az.2]at an;cases an
   ·exact (C o (by simp[ax,az])).2
 have ei: ∀o,(aF H o).live=true->(aF aC o).live=true:=by
  intro o an;by_cases ax:o∈done
  ·have ai:=pU ax;have aa:(aF (iX done obs) (idx done o)).live=true:=by rw[l3 g ai,aG.ren_live];exact an
   have:=k.live _ aa;rw[b.old _ o ai,aG.ren_live];exact this
  ·by_cases az:n<=o/\o<aI
   ·rw[ds.2 o az.1 az.2]at an;cases an
   ·rw[(C o (by simp[ax,az])).1];exact an
 have MM: ∀{i},(aF L i).live=true->i<L.length:=fun ab=>fl ab
 have pk: ∀o et,¬(o∈done\/(n<=o/\o<aI))->(aF H o).owns=true->c1 (ι o)=some et->et<w.heap.size/\ ¬ig (jw ι done) (iX done obs) et:=by
  intro o et an aa ad;refine ⟨tR h aa ad,?_⟩;rintro ⟨i,al,aE⟩;cases ax:done[i]? with
  |none=>rw[xd g (List.getElem?_eq_none_iff.1 ax)]at al;cases al
  |some h4=>
   rw[l3 g ax,aG.ren_owns]at al;have e:jw ι done i=ι h4:=by simp[jw,List.getD_eq_getElem?_getD,ax]
   rw[e]at aE;have:=h.apart o h4 et aa al ad aE;exact an (.inl (by rw[this];exact List.mem_of_getElem? ax))
 have aaX: ∀i j et,(i∈done\/(n<=i/\i<aI))-> ¬(j∈done\/(n<=j/\j<aI))->(aF aC i).owns=true->(aF aC j).owns=true->c1 (gf i)=some et->c1 (gf j)=some et->False:=by
  intro i j et ab ay aa ad al aE;obtain ⟨x,mF,nq,qT,po⟩:=A i ab;obtain ⟨a7,aY⟩:=C j ay;rw[a7]at ad;rw[aY]at aE;rw[po,aG.ren_owns]at aa;rw[qT]at al;obtain ⟨a1,k2⟩:=pk j et ay ad aE;rcases s.own et ⟨x,aa,al⟩ with aZ |aZ
  ·omega
  ·exact k2 aZ
 have arb: ∀et,ig gf aC et->w.heap.size<=et\/ig ι H et:=by
  rintro et ⟨o,aa,ad⟩;by_cases dg:o∈done\/(n<=o/\o<aI)
  ·obtain ⟨x,mF,nq,qT,po⟩:=A o dg;rw[po,aG.ren_owns]at aa;rw[qT]at ad;exact (s.own et ⟨x,aa,ad⟩).imp id (Dc g)
  ·obtain ⟨a7,aY⟩:=C o dg;rw[a7]at aa;rw[aY]at ad;exact .inr ⟨o,aa,ad⟩
 refine ⟨gf,⟨fun o=> ?_,fun i j et aa ad al aE=> ?_,ca.phi,fun o j ay=> ?_,ca.glob⟩,⟨s.phi,s.cells,fun et cB ag=> ?_,s.size,s.os,s.tape,s.output,fun et ag an=>s.blocks et ag fun aB=>an (Dc g aB),arb⟩,⟨vE,ei⟩,⟨by omega,b.len,fun _=>b.top,fun i ab=> ?_,b.seq⟩,fun i ab=> ?_⟩
 ·by_cases dg:o∈done\/(n<=o/\o<aI)
  ·obtain ⟨x,mF,nq,qT,po⟩:=A o dg;rw[po];exact (ca.obj x).ren ρ qT fun j ay=>(B j (MM (ca.live_ids x j ay))).2.1
  ·obtain ⟨a7,aY⟩:=C o dg;rw[a7];refine (h.obj o).keep s.phi s.cells (fun _=>aY) (fun j ay=>vE j (h.live_ids o j ay)) fun et an ag=> ?_
   obtain ⟨a1,k2⟩:=pk o et dg an ag;refine ⟨s.blocks et a1 k2,fun cB av=> ?_⟩;rcases s.newphi et cB av with aa |aa |aa
   ·exact aa
   ·omega
   ·exact absurd aa k2
 ·by_cases dg:i∈done\/(n<=i/\i<aI)
  ·by_cases zo:j∈done\/(n<=j/\j<aI)
   ·obtain ⟨x,mF,nq,qT,po⟩:=A i dg;obtain ⟨y,avx,arI,arJ,arK⟩:=A j zo;rw[po,aG.ren_owns]at aa;rw[arK,aG.ren_owns]at ad;rw[qT]at al;rw[arJ]at aE;have:=ca.apart x y et aa ad al aE;subst this;rw[<-nq,<-arI]
   ·exact (aaX i j et dg zo aa ad al aE).elim
  ·by_cases zo:j∈done\/(n<=j/\j<aI)
   ·exact (aaX j i et zo dg ad aa aE al).elim
   ·obtain ⟨a7,aY⟩:=C i dg;obtain ⟨d1,d2⟩:=C j zo;rw[a7]at aa;rw[d1]at ad;rw[aY]at al;rw[d2]at aE;exact h.apart i j et aa ad al aE
 ·by_cases dg:o∈done\/(n<=o/\o<aI)
  ·obtain ⟨x,mF,nq,qT,po⟩:=A o dg;have fP:j∈((aF L x).ren ρ).ids:=by rw[<-po];exact ay
   rw[aG.ren_ids]at fP;obtain ⟨y,bf,rfl⟩:=List.mem_map.1 fP;have Aa:=ca.live_ids x y bf;rw[(B y (MM Aa)).2.2,aG.ren_live];exact Aa
  ·rw[(C o dg).1]at ay;exact ei j (h.ids o j ay)
 ·rcases s.newphi et cB ag with aa |aa |aa
  ·exact .inl aa
  ·exact .inr (.inl aa)
  ·exact .inr (.inr (Dc g aa))
 ·by_cases ax:i∈done
  ·rw[ao i ax,ei i (ao i ax)]
  ·rw[(C i (by simp[ax];omega)).1]
 ·have:=B i (MM ab);refine ⟨this.2.1,?_⟩;rw[this.2.2,aG.ren_live];exact ab
theorem GJ [Env] {Γ:gg} (cE:bO P Γ) {f:FuncId} {args:List ae} {vs:Array Value} {r:ae} (e:(pT cx Γ f args).go H n=some (r,aC,aI)) (h:bP φ ι w H) (aR:ae.relT φ ι w args vs.toList) (h1: ∀i∈ae.idsL args,(aF H i).live=true) (ds:hD H n aI):
  ie P f vs w fun e w'=> ∃v φ' ι',e=.returned v/\bP φ' ι' w' aC/\Step φ ι w H φ' ι' w' aC/\dA ι H ι' aC/\hs H n aC aI/\r.rel φ' ι' w' v/\(∀i∈r.ids,(aF aC i).live=true):=by
 unfold pT at e;obtain ⟨XH,H1,cC,ai,EH⟩:=HM.go_bind_some e;clear e;obtain ⟨rfl,cU,g1,vz,arY⟩:=UH args 0 vs.toList φ H n XH H1 cC ai h aR h1;obtain ⟨ny,ef,dj,aq,L4⟩:=HM.go_bind_some EH;clear EH;have bh:=wV 200 _ [] [] ny ef dj aq rfl (by simp) (by simp);clear aq;obtain ⟨done,obs⟩:=ny;obtain ⟨aa,ad,la,dq,-,ft⟩:=bh;subst aa ad;have np:=ft g1.rel.live_ids arY (by simp);simp only at la dq np L4;obtain ⟨⟨ar,L⟩,kg,n3,bb,kt⟩:=HM.go_bind_some L4;clear L4;rw[HM.go_ofDT]at bb;obtain ⟨q,aN,bb⟩:=Option.map_eq_some_iff.1 bb;simp only[ct]at bb;obtain ⟨rfl,rfl,rfl⟩:=bb;simp only[HM.go]at kt;obtain ⟨u,Hb,n4,bx,apE⟩:=HM.go_bind_some kt;clear kt;obtain ⟨rfl,rfl,rfl⟩:=go_ret apE;have aB:=cE _ _ _ _ _ aN;have iM:hD ef dj aI:=ds.ghost g1;have cG:=V2 done L ef dj u aC aI bx iM.1 la.nodup fun o an=>⟨fl (np o an),by
  rcases Nat.lt_or_ge o dj with aa |aa
  ·exact .inl aa
  ·rcases Nat.lt_or_ge o aI with ad |ad
   ·have:=iM.2 o aa ad;rw[np o an]at this;cases this
   ·exact .inr ad⟩
 have zu:=aB cU (jw ι done) w vs (Zs g1.rel la np) (fun i ab=>Zr la np i ab) (ae.renL_relT (idx done) XH _ (fun i ab=>Dx (dq i ab)) vz) (by
  rw[ae.renL_ids];exact Y0 la np dq)
 refine ie.mono zu fun e w'=> ?_
 rintro ⟨v,φ',ι',he,ca,s,k,az,ao⟩;obtain ⟨gf,b1,b2,b3,gI,gU⟩:=amr g1.rel la np iM cG ca s k;refine ⟨v,φ',gf,he,b1,g1.step.trans b2,g1.keep.trans b3,(g1.nx dj).trans gI,ae.ren_rel _ ar v (fun i ab=>(gU i (ao i ab)).1) az,fun i ab=> ?_⟩;rw[ae.ren_ids]at ab;obtain ⟨j,ay,rfl⟩:=List.mem_map.1 ab;exact (gU j (ao j ay)).2
end
open Go.RowKit
theorem uR {e d:Nat} (h: ¬e=d):Nat.beq e d=false:=by
 cases ag:Nat.beq e d
 ·rfl
 ·exact absurd (Nat.eq_of_beq_eq_true ag) h
theorem bD.get_put (R:bD) (d:Nat) (r:ae) (e:Nat):(R.put d r).get e=if e=d then some r else R.get e:=by
 induction R with
 |nil=>
  simp only[bD.put,bD.get];by_cases h:e=d
  ·subst h;simp
  ·have:Nat.beq e d=false:=uR h;simp[this,h]
 |cons p l aO=>
  obtain ⟨k,s⟩:=p;simp only[bD.put];cases aa:Nat.beq d k
  ·cases ad:Nat.blt d k
   ·simp only[aL,bD.get];rw[aO];cases al:Nat.beq e k
    ·rfl
    ·have ai:e=k:=by simpa using al
     have: ¬e=d:=by
      rintro rfl;rw[ai]at aa;simp at aa
     simp[this]
   ·simp only[aL,aA,bD.get];by_cases h:e=d
    ·subst h;simp
    ·have:Nat.beq e d=false:=uR h;simp[this,h]
  ·have ai:d=k:=by simpa using aa
   subst ai;simp only[aA,bD.get];by_cases h:e=d
   ·subst h;simp
   ·have:Nat.beq e d=false:=uR h;simp[this,h]
structure hR where
 n:Nat
 base:Nat
 D:List Deferred
 ro:Option Nat
 nm:Bool
def hR.rf (nt:hR):Prop:=nt.ro=none/\nt.nm=false
def hR.df (nt:hR):Prop:=nt.ro=none/\nt.nm=true/\nt.D=[]
def u2 (r:Nat):Deferred:={target:=.collected r,args:= #[]}
def qm (d:Deferred):Value:=match d.target with
 | .fn f y=>.func f d.args y
 |_=>undef
def Marks (nt:hR) (w:World) (Own:Nat->Prop) (eh:List Deferred):Prop:=
 nt.base<=w.heap.size/\(nt.nm=false-> ∃ms:List Nat,eh=ms.map u2++nt.D/\ms.Nodup/\ ∀r∈ms,nt.base<=r/\w.heap[r]? =some (.deferred (some []))/\ ¬Own r)
def lu (a:Act) (d:Nat):Value:=bif Nat.beq d cZ then .tuple (a.defers.map qm).toArray else a.tmps.getD d undef
theorem hk {a:Act} {d:Nat} (h:d≠cZ):lu a d=a.tmps.getD d undef:=by
 have:Nat.beq d cZ=false:=uR h;simp[lu,this]
theorem oR {a:Act}:lu a cZ=.tuple (a.defers.map qm).toArray:=by
 have:Nat.beq cZ cZ=true:=Nat.beq_refl cZ;simp[lu,this]
theorem Marks.step {nt:hR} {φ:bw} {ι:Nat->Value} {w:World} {H:List aG} {φ':bw} {ι':Nat->Value} {w':World} {aC:List aG} {eh:List Deferred} (m:Marks nt w (ig ι H) eh) (s:Step φ ι w H φ' ι' w' aC):Marks nt w' (ig ι' aC) eh:=by
 obtain ⟨bX,m⟩:=m;refine ⟨Nat.le_trans bX s.size,fun aQ=> ?_⟩;obtain ⟨ms,aa,ad,al⟩:=m aQ;refine ⟨ms,aa,ad,fun r az=> ?_⟩;obtain ⟨a1,k2,b5⟩:=al r az;have a8:=(Array.getElem?_eq_some_iff.1 k2).1;exact ⟨a1,(s.blocks r a8 b5).trans k2,fun h=>(s.own r h).elim (fun aE=>by omega) b5⟩
structure cL [Env] (φ:bw) (ι:Nat->Value) (w:World) (N:hR) (st:bn) (a:Act):Prop where
 heap:bP φ ι w st.heap
 regs: ∀d r,st.regs.get d=some r->r.rel φ ι w (lu a d)/\ ∀i∈r.ids,(aF st.heap i).live=true
 nt:a.tmps.size=N.n
 small:N.n<=cZ
 defers:Marks N w (ig ι st.heap) a.defers
def sv (o:Oper):Bool:=match o.op with
 | .defer _=>true
 |_=>false
theorem amt {t:aD} {x:t.den}:t.cast? t x=some x:=by simp[aD.cast?]
def nM (nt:Nat) (o:Oper):Bool:=match o.dst with
 |some d=>Nat.blt d nt
 |none=>true
section
variable {P:Program} {cx:bS} {Γ:gg} {φ:bw} {ι:Nat->Value} {w:World} {nt:hR} {st:bn} {a:Act} {n aI:Nat}
theorem anY (v:Value):(DD v).rel φ ι w v/\(DD v).ids=[]:=by
 unfold DD;split
 ·exact ⟨gz (cd.bool.2 rfl),rfl⟩
 ·exact ⟨gz (cd.int.2 rfl),rfl⟩
 ·rename_i s;refine ⟨gz (cd.str.2 ?_),rfl⟩;congr 1
 ·exact ⟨rfl,rfl⟩
 ·exact ⟨rfl,rfl⟩
 ·exact ⟨rfl,rfl⟩
 ·exact ⟨rfl,rfl⟩
 ·exact ⟨trivial,rfl⟩
theorem cL.eval [Env] (s:cL φ ι w nt st a):sq φ ι w st.heap (gy st.regs) a.eval:=by
 intro x;cases x with
 |tmp t=>
  simp only[gy,Act.eval];cases ag:Nat.beq t cZ with
  |true=>exact ⟨trivial,by simp[ae.ids]⟩
  |false=>
   simp only[aL];cases h:st.regs.get t with
   |none=>exact ⟨trivial,by simp[ae.ids]⟩
   |some r=>
    have:=s.regs t r h;rw[hk (fun e=>by subst e;simp at ag)]at this;exact this
 |const v=>
  have:=anY (φ:=φ) (ι:=ι) (w:=w) v;exact ⟨this.1,by simp only[gy];rw[this.2];simp⟩
 |global g=>
  simp only[gy,Act.eval];cases h:Env.glob g with
  |nil=>exact ⟨trivial,by simp[ae.ids]⟩
  |cons x l=>
   have:=s.heap.glob g;rw[h]at this;exact ⟨⟨rfl,this⟩,by simp[ae.ids]⟩
 |func f=>exact ⟨ZO ⟨#[],#[],rfl,rfl,rfl⟩,by simp[gy,ae.ids,ae.idsL]⟩
theorem cL.after [Env] {φ':bw} {ι':Nat->Value} {w':World} {aC:List aG} (s:cL φ ι w nt st a) (ca:bP φ' ι' w' aC) (t:Step φ ι w st.heap φ' ι' w' aC) (k:dA ι st.heap ι' aC)
  {dst:Option Tmp} {r:ae} {v:Value} (ax: ∀d,dst=some d->d<nt.n) (az:r.rel φ' ι' w' v) (ao: ∀i∈r.ids,(aF aC i).live=true):cL φ' ι' w' nt ⟨ke st.regs dst r,aC⟩ (a.put dst v):=by
 have old: ∀e x,st.regs.get e=some x->x.rel φ' ι' w' (lu a e)/\ ∀i∈x.ids,(aF aC i).live=true:=fun e x aw=>
  ⟨ae.rel_step t k (s.regs e x aw).2 (s.regs e x aw).1,fun i ab=>k.live i ((s.regs e x aw).2 i ab)⟩
 cases dst with
 |none=>exact ⟨ca,old,s.nt,s.small,s.defers.step t⟩
 |some d=>
  refine ⟨ca,fun e x aw=> ?_,by simp[Act.put,s.nt],s.small,s.defers.step t⟩;have aw:(st.regs.put d r).get e=some x:=aw;rw[bD.get_put]at aw;by_cases he:e=d
  ·subst he;simp only[if_true,bs]at aw;subst aw;have a8:e<a.tmps.size:=by rw[s.nt];exact ax e rfl
   have:lu (a.put (some e) v) e=v:=by
    rw[hk (by have:=s.small;have:=s.nt;omega)];simp[Act.put,Array.getD_eq_getD_getElem?,a8]
   rw[this];exact ⟨az,ao⟩
  ·simp only[he,if_false]at aw;have:lu (a.put (some d) v) e=lu a e:=by
    have cf:d≠e:=fun h=>he h.symm
    simp[lu,Act.put,Array.getD_eq_getD_getElem?,Array.getElem?_setIfInBounds,cf]
   rw[this];exact old e x aw
theorem am3 [Env] (tab:cA P cx) (cE:bO P Γ) {o:Oper} {ev:Operand->ae} {H:List aG} {r:ae} {aC:List aG} (e:(lG cx Γ o ev).go H n=some (r,aC,aI)) (h:bP φ ι w H) (cH:sq φ ι w H ev a.eval) (ds:hD H n aI):e3 P o a φ ι w H n r aC aI:=by
 have dT: ∀c,o.op=.call c-> ∀d,o.op≠ .defer d:=fun c aB d ax=>by rw[aB]at ax;cases ax
 refine amG tab (fun c x g l m an aB aw az e=> ?_) (fun c x nm T ar i f an aB aw ab aJ az e=> ?_) (fun c x Y eL an aB aw az e=> ?_) e h cH ds
 case refine_3=>
  have pq:=(cH x).1;have lX:=(cH x).2;rw[aw]at pq lX;have arG:=pq;obtain ⟨-,l,aX⟩:=arG;have al:ae.relT φ ι w (hC cx c.argTypes.toList (c.args.toList.map ev)) (c.args.map a.eval).toList:=by simpa using x5 (cx:=cx) c.argTypes.toList _ _ (r9 cH c.args.toList)
  have dy:ae.relT φ ι w (.yld Y eL::hC cx c.argTypes.toList (c.args.toList.map ev)) (#[a.eval x]++c.args.map a.eval).toList:=by
   rw[Array.toList_append];exact ⟨a.eval x,_,rfl,pq,al⟩
  have ft: ∀i∈ae.idsL (.yld Y eL::hC cx c.argTypes.toList (c.args.toList.map ev)),(aF H i).live=true:=by
   intro i ab;simp only[ae.idsL,List.mem_append]at ab;rcases ab with ab |ab
   ·exact lX i ab
   ·exact tP cH _ i (x4 _ _ i ab)
  obtain ⟨eI,E3,fn,tmps,assign,body,bf,kz⟩:=(ie.round az).1 (GJ cE e h dy ft ds);have pe:eI=l:=by
   have:(#[a.eval x]++c.args.map a.eval)[0]? =some (a.eval x):=by
    rw[Array.getElem?_append_left (by exact Nat.zero_lt_one)];rfl
   rw[this,aX]at E3;simpa using E3.symm
  subst pe;have zA:(#[a.eval x]++c.args.map a.eval).extract 1 (#[a.eval x]++c.args.map a.eval).size=c.args.map a.eval:=by
   rw[Array.extract_append];simp
  rw[zA]at bf;intro ro next Q k;refine sd (dT c an) ?_;have he:(execOp a.eval o).run P w=.ok (.round eI fn tmps assign body) w:=by
   simp only[execOp,an,resolve,aB,aX,Deferred.ofValue,pure_bind,invoke];simpa using bf
  rw[he,Oper.uponIn_round];refine ⟨fun h=>(by cases h),RoundIn.mono (R:=_) (show RoundIn (ec ro) 0 P eI fn tmps assign body w _ from kz) fun e w'=> ?_⟩;rintro ⟨v,φ',ι',rfl,b1,b2,b3,gI,gU,jy⟩;exact k v w' φ' ι' b1 b2 b3 gI gU jy
 case refine_2=>
  have pq:=(cH x).1;have lX:=(cH x).2;rw[aw]at pq lX;obtain ⟨u,aX,aa⟩:=pq;have al:ae.relT φ ι w (hC cx c.argTypes.toList (c.args.toList.map ev)) (c.args.map a.eval).toList:=by simpa using x5 (cx:=cx) c.argTypes.toList _ _ (r9 cH c.args.toList)
  have dy:ae.relT φ ι w (ar::hC cx c.argTypes.toList (c.args.toList.map ev)) (#[u]++c.args.map a.eval).toList:=by
   rw[Array.toList_append];exact ⟨u,_,rfl,aa,al⟩
  have ft: ∀i∈ae.idsL (ar::hC cx c.argTypes.toList (c.args.toList.map ev)),(aF H i).live=true:=by
   intro i ab;simp only[ae.idsL,List.mem_append]at ab;rcases ab with ab |ab
   ·exact lX i (by simp[ae.ids,ab])
   ·exact tP cH _ i (x4 _ _ i ab)
  have q:=(ie.call az).1 (GJ cE e h dy ft ds);intro ro next Q k;refine sd (dT c an) ?_;have hm:=(tab T i ab).meth nm f aJ u w;have he:(execOp a.eval o).run P w=(callFunc f (#[u]++c.args.map a.eval)).run P w:=by
   have bo:(#[Value.iface T u]++c.args.map a.eval)[0]? =some (.iface T u):=by
    rw[Array.getElem?_append_left (by exact Nat.zero_lt_one)];rfl
   have zA:(#[Value.iface T u]++c.args.map a.eval).extract 1 (#[Value.iface T u]++c.args.map a.eval).size=c.args.map a.eval:=by
    rw[Array.extract_append];simp
   simp only[execOp,an,resolve,aB,aX,pure_bind,invoke,bo,zA,callMethod,Sem.run_bind,run_program,Result.andThen_ok];rw[hm];rfl
  rw[he];rcases q with ⟨bh,bZ⟩|⟨v0,w',bh,v,φ',ι',iu,b1,b2,b3,gI,gU,jy⟩
  ·rw[bh];rw[Oper.uponIn_enter];refine ⟨fun h=>(by cases h),JQ ro (Calls.mono bZ fun e w'=> ?_)⟩;rintro ⟨v,φ',ι',rfl,b1,b2,b3,gI,gU,jy⟩;exact k v w' φ' ι' b1 b2 b3 gI gU jy
  ·injection iu with iu
   subst iu;rw[bh];rw[Oper.uponIn_value];exact k _ w' φ' ι' b1 b2 b3 gI gU jy
 have pq:=(cH x).1;have lX:=(cH x).2;rw[aw]at pq lX;obtain ⟨xs,aT,aX,aa,ad⟩:=pq;have dy:ae.relT φ ι w (l++hC cx c.argTypes.toList (c.args.toList.map ev)++m) ((xs++c.args.map a.eval)++aT).toList:=by
  have app: ∀(l m:List ae) (xs aT:List Value),ae.relT φ ι w l xs->ae.relT φ ι w m aT->ae.relT φ ι w (l++m) (xs++aT):=by
   intro l
   induction l with
   |nil=>intro m xs aT aa ad;simp only[ae.relT]at aa;subst aa;exact ad
   |cons r l aO=>intro m xs aT aa ad;obtain ⟨v,pD,rfl,al,aE⟩:=aa;exact ⟨v,pD++aT,rfl,al,aO m pD aT aE ad⟩
  have al:ae.relT φ ι w (hC cx c.argTypes.toList (c.args.toList.map ev)) (c.args.map a.eval).toList:=by simpa using x5 (cx:=cx) c.argTypes.toList _ _ (r9 cH c.args.toList)
  rw[Array.toList_append,Array.toList_append];exact app _ _ _ _ (app _ _ _ _ aa al) ad
 have ft: ∀i∈ae.idsL (l++hC cx c.argTypes.toList (c.args.toList.map ev)++m),(aF H i).live=true:=by
  have app: ∀(l m:List ae),ae.idsL (l++m)=ae.idsL l++ae.idsL m:=by
   intro l m
   induction l with
   |nil=>rfl
   |cons r l aO=>simp[ae.idsL,aO]
  intro i ab;rw[app,app]at ab;simp only[List.mem_append]at ab;rcases ab with (ab |ab)|ab
  ·exact lX i (by simp[ae.ids,ab])
  ·exact tP cH _ i (x4 _ _ i ab)
  ·exact lX i (by simp[ae.ids,ab])
 have q:=(ie.call az).1 (GJ cE e h dy ft ds);intro ro next Q k;refine sd (dT c an) ?_;have he:execOp a.eval o=callFunc g ((xs++c.args.map a.eval)++aT):=by
  simp only[execOp,an,resolve,aB,aX,Deferred.ofValue,pure_bind,invoke]
 rw[he];rcases q with ⟨bh,bZ⟩|⟨v0,w',bh,v,φ',ι',iu,b1,b2,b3,gI,gU,jy⟩
 ·rw[bh];rw[Oper.uponIn_enter];refine ⟨fun h=>(by cases h),JQ ro (Calls.mono bZ fun e w'=> ?_)⟩;rintro ⟨v,φ',ι',rfl,b1,b2,b3,gI,gU,jy⟩;exact k v w' φ' ι' b1 b2 b3 gI gU jy
 ·injection iu with iu
  subst iu;rw[bh];rw[Oper.uponIn_value];exact k _ w' φ' ι' b1 b2 b3 gI gU jy
theorem BO {R:bD} {d:Nat} {b:Bool} (h:(R.get d).bind kL=some b):R.get d=some (.dat .bool b):=by
 obtain ⟨x,aw,ag⟩:=Option.bind_eq_some_iff.1 h;unfold kL at ag;split at ag
 ·obtain rfl:=Option.some.inj ag;exact aw
 ·cases ag
theorem rl {R:bD} {d:Nat} {b:Bool} (h:R.get d=some (.dat .bool b)) (e:Nat):(refine R d b).get e=R.get e:=by
 unfold refine;rw[bD.get_put];split
 ·rename_i he;rw[he,h]
 ·rfl
theorem cL.regs_eq [Env] {R':bD} (s:cL φ ι w nt st a) (h: ∀e,R'.get e=st.regs.get e):cL φ ι w nt ⟨R',st.heap⟩ a:=
 ⟨s.heap,fun d r ax=>s.regs d r (by rw[<-h d];exact ax),s.nt,s.small,s.defers⟩
theorem XY:(ae.tup []).rel φ ι w undef:=⟨#[],rfl,rfl⟩
theorem amO [Env] {o:Oper} {q:bn×Nat×cI} (e:(sc cx Γ o st n).val=some q):
  ∃r,(lG cx Γ o (gy st.regs)).go st.heap n=some (r,q.1.heap,q.2.1)/\q.1.regs=ke st.regs o.dst r:=by
 unfold sc at e;obtain ⟨⟨r,h,m,p⟩,ai,aq⟩:=DT.val_bind_some e;simp only[DT.val,bs]at aq;subst aq;exact ⟨r,HM.go_run _ _ _ _ _ _ _ _ ai,rfl⟩
theorem amb {ops:Array Oper} {j d:Nat} {b:Bool} (ay:(ops[j]?).bind (·.dst)=some d) (h:a.tmps.getD d undef=.bool b):yielded ops a.tmps j=some b:=by
 have aa:a.tmps[d]? =some (.bool b):=by
  rw[Array.getD_eq_getD_getElem?]at h;cases ad:a.tmps[d]? with
  |none=>rw[ad]at h;simp[undef]at h
  |some v=>rw[ad]at h;simpa using h
 simp[yielded,ay,aa]
theorem Jt [Env] (tab:cA P cx) (cE:bO P Γ) {ops:Array Oper} {o:Oper} {q:bn×Nat×cI} (e:(om cx Γ ops o st n).val=some q) (s:cL φ ι w nt st a) (ds:hD st.heap n q.2.1) (ax:nM nt.n o=true)
  {K:Act->World->Prop} {Q:Exit->Act->World->Prop}
  (k: ∀bc w' φ' ι',cL φ' ι' w' nt q.1 bc->Step φ ι w st.heap φ' ι' w' q.1.heap->dA ι st.heap ι' q.1.heap->hs st.heap n q.1.heap q.2.1->K bc w'):
  if Region.wanted o (yielded ops a.tmps) then o.wpIn (ec nt.ro) 0 P a w K Q else K (a.put o.dst undef) w:=by
 have jE: ∀d,o.dst=some d->d<nt.n:=fun d h=>by simpa [nM,h] using ax
 have act: ∀(fv:bn) (q:bn×Nat×cI),cL φ ι w nt fv a->fv.heap=st.heap->(sc cx Γ o fv n).val=some q->hD st.heap n q.2.1->
   (∀bc w' φ' ι',cL φ' ι' w' nt q.1 bc->Step φ ι w st.heap φ' ι' w' q.1.heap->dA ι st.heap ι' q.1.heap->hs st.heap n q.1.heap q.2.1->K bc w')->o.wpIn (ec nt.ro) 0 P a w K Q:=by
  intro fv q ic bC e ds k;obtain ⟨r,ai,aq⟩:=amO e;rw[<-bC]at ds;refine am3 tab cE ai ic.heap ic.eval ds nt.ro K Q fun v w' φ' ι' aa ad al aE aZ bt=> ?_
  have:=ic.after aa ad al jE aZ bt;rw[<-aq]at this;rw[bC]at ad al aE;exact k _ _ φ' ι' this ad al aE
 unfold om at e;split at e
 ·rename_i bH;have hw:Region.wanted o (yielded ops a.tmps)=true:=by simp[Region.wanted,bH]
  rw[if_pos hw];exact act st q s rfl e ds k
 ·rename_i j want bH;split at e
  ·rename_i d ay;split at e
   ·rename_i b ag;have bo:=BO ag;have cf:d≠cZ:=fun h=>by
     have:=cd.bool.1 (s.regs d _ bo).1;rw[h,oR]at this;cases this
    have bf:=amb ay (cd.bool.1 (by have:=(s.regs d _ bo).1;rw[hk cf]at this;exact this));have hw:Region.wanted o (yielded ops a.tmps)=yy b want:=by
     simp only[Region.wanted,bH,bf];cases b<;>cases want<;>rfl
    rw[hw];cases ab:yy b want
    ·have nd:b= !want:=by cases b<;>cases want<;>first |rfl |cases ab
     simp only[ab,DT.val,aL,bs]at e;subst e;simp only[Bool.false_eq_true,if_false];have ic:=s.regs_eq (R':=refine st.regs d (!want)) (rl (by rw[bo,nd]));exact k _ _ φ ι (ic.after ic.heap (Step.refl _ _ _ _) (dA.refl _ _) jE XY (by simp[ae.ids,ae.idsL])) (Step.refl _ _ _ _) (dA.refl _ _) (hs.refl _ _)
    ·have nd:b=want:=by cases b<;>cases want<;>first |rfl |cases ab
     simp only[ab,DT.val,aA]at e;simp only[if_true];exact act ⟨refine st.regs d want,st.heap⟩ q (s.regs_eq (rl (by rw[bo,nd]))) rfl e ds k
   ·split at e
    ·rename_i ag bo;obtain ⟨vs,aX,dL⟩:=(s.regs d _ bo).1;have dL:vs= #[]:=by cases vs;simpa [ae.relT] using dL
     subst dL;have bf:yielded ops a.tmps j=none:=by
      unfold yielded;rw[ay];simp only[Option.bind_some];split
      ·rename_i c aB;have a8:=(Array.getElem?_eq_some_iff.1 aB).1;rw[hk (by have:=s.small;have:=s.nt;omega),Array.getD_eq_getD_getElem?,aB]at aX;cases aX
      ·rfl
     have hw:Region.wanted o (yielded ops a.tmps)=false:=by
      simp only[Region.wanted,bH,bf];rfl
     rw[hw];simp only[DT.val,bs]at e;subst e;simp only[Bool.false_eq_true,if_false];exact k _ _ φ ι (s.after s.heap (Step.refl _ _ _ _) (dA.refl _ _) jE XY (by simp[ae.ids,ae.idsL])) (Step.refl _ _ _ _) (dA.refl _ _) (hs.refl _ _)
    ·simp[DT.val]at e
  ·simp[DT.val]at e
theorem nv {H:List aG} {i:Nat} (h:H.length<=i):aF H i=.hole:=by simp[aF,List.getD_eq_getElem?_getD,List.getElem?_eq_none h]
theorem KF (H:List aG) (aI:Nat):hD H H.length aI:=⟨Nat.le_refl _,fun i h _=>by rw[nv h];rfl⟩
theorem aoJ [Env] {H:List aG} (h:bP φ ι w H) {p:Nat} {T:TypeId} {t:aD} {x:t.den} (aP:aF H p=.box T t (.dat t x)):
  ∃φ',ee φ ι w H φ' (bL H p .gone)/\ ∃b cs,ι p=.pointer (some ⟨b,0,none⟩)/\iT φ' w b 0 cs/\bg φ' w t x cs:=by
 have a8:p<H.length:=fl (by rw[aP];rfl);have bo: ∀i,aF (bL H p .gone) i=if i=p then .gone else aF H i:=fun i=>fk H p _ i (Nat.le_of_lt a8)
 have cP:=h.obj p;rw[aP]at cP;obtain ⟨b,cur,fr,v,ai,bC,dh,ds,kG,dy,aqj,avd,avs⟩:=cP;have h9:c1 (ι p)=some b:=by rw[ai];rfl
 have aa5:(aF H p).owns=true:=by rw[aP];rfl
 have ei: ∀i,(aF (bL H p .gone) i).live=(aF H i).live:=fun i=>by
  rw[bo];split
  ·rename_i ab;subst ab;rw[aP];rfl
  ·rfl
 have lj: ∀i,(aF (bL H p .gone) i).owns=true->i≠p/\(aF H i).owns=true:=fun i ab=>by
  rw[bo]at ab;split at ab
  ·cases ab
  ·rename_i cf;exact ⟨cf,ab⟩
 let φ':bw:=fun c k=>φ c k\/(c=b/\k<cur.size)
 have Fc: ∀c k,φ c k->φ' c k:=fun c k ag=>.inl ag
 refine ⟨φ',⟨⟨fun i=> ?_,fun i j c ab ay aa ad=>h.apart i j c (lj i ab).2 (lj j ay).2 aa ad,?_,fun i j ay=> ?_,fun g=>(h.glob g).mono Fc (fun _ _ _=>rfl)⟩,
  ⟨Fc,fun _ _ _=>rfl,?_,Nat.le_refl _,rfl,rfl,rfl,fun _ _ _=>rfl,fun c ⟨i,aa,ad⟩=>.inr ⟨i,(lj i aa).2,ad⟩⟩,ei,gK H p _ a8⟩,b,cur.toList,ai,?_,?_⟩
 ·rw[bo];split
  ·trivial
  ·rename_i ab;refine (h.obj i).keep Fc (fun _ _ _=>rfl) (fun _=>rfl) (fun _ _=>rfl) fun c gW ag=>⟨rfl,fun k av=> ?_⟩
   rcases av with av |⟨rfl,_⟩
   ·exact av
   ·exact absurd (h.apart i p c gW aa5 ag h9) ab
 ·rintro c k (av |⟨rfl,av⟩)
  ·exact h.phi c k av
  ·exact ⟨cur[k],by simp[World.cell?,bC,Array.getElem?_eq_getElem av]⟩
 ·rw[bo]at ay;rw[ei];split at ay
  ·simp[aG.ids]at ay
  ·exact h.ids i j ay
 ·rintro c k (av |⟨rfl,_⟩)
  ·exact .inl av
  ·exact .inr (.inr ⟨p,aa5,h9⟩)
 ·intro i u hu;have vR:cur[i]? =some u:=by simpa using hu
  have ab:=(Array.getElem?_eq_some_iff.1 vR).1;rw[Nat.zero_add];exact ⟨.inr ⟨rfl,ab⟩,by simp[World.cell?,bC,vR]⟩
 ·have:=dy.1;rw[aqj]at this;exact bg.mono Fc (fun _ _ _=>rfl) t x _ this
theorem KQ: ∀(l m:List ae),so l m=true->l=m
 |[],[],_=>rfl
 |[],_::_,h=>by simp[so]at h
 |a::l,[],h=>by cases a<;>simp[so]at h
 |a::l,b::m,h=>by
  cases a<;>cases b<;>simp only[so,bB,db,Nat.beq_eq,reduceCtorEq]at h;obtain ⟨⟨⟨⟨rfl,rfl⟩,rfl⟩,rfl⟩,h⟩:=h;rw[KQ l m h]
theorem Wo {p:Nat} {t:aD} {x:t.den} {d:Nat} {r:ae}: ∀(R:bD),(rR p t x R).get d=some r-> ∃aj,R.get d=some aj/\(r=aj\/(aj=.ptr p t 0 []/\r=.fptr t x))
 |[],h=>by simp[rR,bD.get]at h
 |(e,ar)::l,h=>by
  have key: ∀aM,(rR p t x ((e,ar)::l))=(e,aM)::rR p t x l->(aM=ar\/(ar=.ptr p t 0 []/\aM=.fptr t x))-> ∃aj,bD.get ((e,ar)::l) d=some aj/\(r=aj\/(aj=.ptr p t 0 []/\r=.fptr t x)):=by
   intro aM aa ad;rw[aa]at h;simp only[bD.get]at h ⊢;cases ag:Nat.beq d e
   ·simp only[ag,aL]at h ⊢;exact Wo l h
   ·simp only[ag,aA,bs]at h ⊢;subst h;exact ⟨ar,rfl,ad⟩
  cases ar with
  |ptr de hb i q=>
   refine key _ rfl ?_;cases ag:Nat.beq p de&&decide (t=hb)&&Nat.beq i 0&&q.isEmpty
   ·exact .inl rfl
   ·simp only[bB,db,Nat.beq_eq,List.isEmpty_iff]at ag;obtain ⟨⟨⟨rfl,rfl⟩,rfl⟩,rfl⟩:=ag;exact .inr ⟨rfl,rfl⟩
  |_=>exact key _ rfl (.inl rfl)
theorem Xv: ∀(l m:List ae) (vs:List Value),ae.relT φ ι w (l++m) vs-> ∃a7 aY,vs=a7++aY/\ae.relT φ ι w l a7/\ae.relT φ ι w m aY
 |[],m,vs,h=>⟨[],vs,rfl,rfl,h⟩
 |r::l,m,vs,⟨v,c,e,aa,ad⟩=>by
  obtain ⟨a7,aY,aq,al,aE⟩:=Xv l m c ad;exact ⟨v::a7,aY,by rw[e,aq];rfl,⟨v,a7,rfl,aa,al⟩,aE⟩
theorem DT.val_opt {α β:Type} {o:Option α} {k:α->DT β} {r:β} (h:(DT.opt o k).val=some r): ∃x,o=some x/\(k x).val=some r:=by
 cases o with
 |none=>simp[DT.val]at h
 |some x=>exact ⟨x,rfl,h⟩
theorem DT.val_bif {α:Type} {b:Bool} {x:DT α} {r:α} (h:(bif b then x else .fail).val=some r):b=true/\x.val=some r:=by
 cases b
 ·simp[DT.val]at h
 ·exact ⟨rfl,h⟩
theorem ajj [Env] {c:Call} {o:Oper} {aV:bn} (an:o.op=.defer c) (e:(KA c o st).val=some aV) (s:cL φ ι w nt st a) (ia:nt.df) {K:Act->World->Prop} {Q:Exit->Act->World->Prop}
  (k: ∀bc w' φ' ι',cL φ' ι' w' nt aV bc->Step φ ι w st.heap φ' ι' w' aV.heap->dA ι st.heap ι' aV.heap->K bc w'):o.guard=none/\o.wpIn (ec nt.ro) 0 P a w K Q:=by
 unfold KA at e;split at e
 ·rename_i f g A B t xs aB eG M5 aqE pc;split at e
  ·rename_i Mq jY cH;split at e
   ·rename_i p u bJ M3;have q:=DT.val_bif e;clear e;obtain ⟨bh,e⟩:=q;split at e
    ·rename_i T hp v Bw cP;have q:=DT.val_bif e;clear e;obtain ⟨bZ,e⟩:=q;simp only[bB,db,Nat.beq_eq]at bh bZ;obtain ⟨⟨rfl,aa⟩,ad⟩:=bh;obtain ⟨rfl,rfl⟩:=bZ;have aa:=KQ _ _ aa;have ad:=KQ _ _ ad;subst ad;obtain ⟨mb,aw,aq⟩:=DT.val_opt e;clear e;have arD:v=hp:=by
      by_cases h:v=hp
      ·exact h
      ·simp[aD.cast?,h]at aw
     subst arD;obtain rfl:Bw=mb:=by
      rw[amt]at aw;exact Option.some.inj aw
     have bb:=Option.some.inj aq;clear aq
     ·have e:=bb;clear bb;subst e;refine ⟨aqE,?_⟩;obtain ⟨φ',G,et,cs,i1,i2,i3⟩:=aoJ s.heap cP;have aJ:=s.eval f;rw[cH]at aJ;obtain ⟨⟨aeq,aT,aX,z6,Ab⟩,ft⟩:=aJ;have z6:aeq= #[]:=by cases aeq;simpa [ae.relT] using z6
      subst z6;have fO:c.args= #[]:=by cases zt:c.args;rw[zt]at eG;simpa using eG
      have dU:(o.semAt (ec nt.ro).round a.eval).run P w=.ok (.defer {target:=.fn (.func g) aT,args:= #[]}) w:=by
       have:(ec nt.ro).round=none:=ia.1;rw[this,Oper.semAt_none];simp only[execOp,an,resolve,aB,aX,Deferred.ofValue,fO];simp[go_sem]
      have jI:ae.relT φ ι w (A++ .ptr p v 0 []::bJ) aT.toList:=by
       have:jY=A++ .ptr p v 0 []::bJ:=by rw[<-aa,<-M3,List.take_append_drop]
       rw[<-this];exact Ab
      obtain ⟨a7,aY,ai,ar,jZ,c3,aq,aM,bF⟩:=Xv _ _ _ jI;have aqn:jZ=.pointer (some ⟨et,0,none⟩):=by
       obtain ⟨b2,k2,g1,g2,-⟩:=aM;rw[i1]at g1;rcases g1 with ⟨n,c,g1,-⟩|⟨g1,-,rfl⟩
       ·cases g1
       ·have:et=b2:=by simpa using g1
        subst this;simpa [aD.offAt] using g2
      refine ⟨fun _ _=>trivial,?_⟩;rw[dU,Oper.uponIn_defer,M5];refine k _ w φ' ι ⟨G.rel,fun d r ax=> ?_,s.nt,s.small,⟨s.defers.1,fun aQ=>by rw[ia.2.1]at aQ;cases aQ⟩⟩ G.step G.keep;simp only[Act.put];have ax:(((rR p v Bw st.regs).put cZ (.dfr g A bJ v (Bw::xs))).get d)=some r:=ax;rw[bD.get_put]at ax;by_cases kC:d=cZ
      ·subst kC;simp only[if_true,bs]at ax;subst ax;rw[oR];have hold:=s.regs cZ _ pc;obtain ⟨vs,dL,ao,fq⟩:=ae.rel_mono (ι':=ι) G.step.phi G.step.cells _ _ (fun _ _=>rfl) hold.1;rw[oR]at dL;have dL:a.defers.map qm=vs:=by simpa using dL
       refine ⟨⟨.func (.func g) #[] aT::vs,by rw[<-dL];rfl,by simp[ao],fun i x u aw hu=> ?_⟩,fun i ab=> ?_⟩
       ·cases i with
        |zero=>
         simp only[List.getElem?_cons_zero,bs]at aw hu;subst aw hu;refine ⟨a7,jZ,c3,?_,ae.relT_mono G.step.phi G.step.cells A _ (fun _ _=>rfl) ar,⟨et,0,cs,aqn,i2,i3⟩,ae.relT_mono G.step.phi G.step.cells bJ _ (fun _ _=>rfl) bF⟩;rw[<-aq,<-ai]
        |succ i=>exact fq i x u (by simpa using aw) (by simpa using hu)
       ·rw[G.live];exact hold.2 i ab
      ·simp only[kC,if_false]at ax;obtain ⟨aj,a1,k2⟩:=Wo _ ax;have hold:=s.regs d aj a1;have Fi:lu {tmps:=a.tmps,defers:={target:=.fn (.func g) aT,args:= #[]}::a.defers} d=lu a d:=by rw[hk kC,hk kC]
       rw[Fi];rcases k2 with rfl |⟨rfl,rfl⟩
       ·exact ⟨ae.rel_mono G.step.phi G.step.cells _ _ (fun _ _=>rfl) hold.1,fun i ab=>by rw[G.live];exact hold.2 i ab⟩
       ·refine ⟨?_,by simp[ae.ids]⟩;obtain ⟨b2,k2,g1,g2,-⟩:=hold.1;rw[i1]at g1;rcases g1 with ⟨n,c,g1,-⟩|⟨g1,-,rfl⟩
        ·cases g1
        ·have:et=b2:=by simpa using g1
         subst this;exact ⟨et,0,cs,by simpa [aD.offAt] using g2,i2,i3⟩
    ·simp[DT.val]at e
   ·simp[DT.val]at e
  ·simp[DT.val]at e
 ·simp[DT.val]at e
theorem y6 [Env] (tab:cA P cx) (cE:bO P Γ) {ops:Array Oper} {Q:Exit->Act->World->Prop}: ∀(l:List Oper) (st aV:bn) (φ:bw) (ι:Nat->Value) (w:World) (a:Act),(mO cx Γ ops l st).val=some aV->cL φ ι w nt st a->l.all (nM nt.n)=true->(l.any sv=true->nt.df)->
  (∀bc w' φ' ι',cL φ' ι' w' nt aV bc->Step φ ι w st.heap φ' ι' w' aV.heap->dA ι st.heap ι' aV.heap->Q .normal bc w')->wpListIn (ec nt.ro) 0 P ops Q l a w
 |[],st,aV,φ,ι,w,a,e,s,ax,ia,k=>by
  simp only[mO,DT.val,bs]at e;subst e;exact k a w φ ι s (Step.refl _ _ _ _) (dA.refl _ _)
 |o::l,st,aV,φ,ι,w,a,e,s,ax,ia,k=>by
  simp only[mO]at e;obtain ⟨b6,ai,aq⟩:=DT.val_bind_some e;simp only[List.all_cons,bB]at ax;have q:if Region.wanted o (yielded ops a.tmps) then o.wpIn (ec nt.ro) 0 P a w (wpListIn (ec nt.ro) 0 P ops Q l) Q else wpListIn (ec nt.ro) 0 P ops Q l (a.put o.dst undef) w:=by
   split at ai
   ·rename_i c an;obtain ⟨bH,q⟩:=ajj (P:=P) (Q:=Q) an ai s (ia (by simp[sv,an])) fun bc w' φ' ι' s1 t1 a1=>
     y6 tab cE l b6 aV φ' ι' w' bc aq s1 ax.2 (fun h=>ia (by rw[List.any_cons,h];simp)) fun a2 c0 du dz s2 t2 k2=>k a2 c0 du dz s2 (t1.trans t2) (a1.trans k2)
    have hw:Region.wanted o (yielded ops a.tmps)=true:=by simp[Region.wanted,bH]
    rw[if_pos hw];exact q
   ·obtain ⟨⟨dC,m,p⟩,bb,bx⟩:=DT.val_bind_some ai;simp only[DT.val,bs]at bx;subst bx;exact Jt (Q:=Q) tab cE bb s (KF _ _) ax.1 fun bc w' φ' ι' s1 t1 a1 cC=>
     y6 tab cE l dC aV φ' ι' w' bc aq s1 ax.2 (fun h=>ia (by rw[List.any_cons,h];simp)) fun a2 c0 du dz s2 t2 k2=>k a2 c0 du dz s2 (t1.trans t2) (a1.trans k2)
  unfold wpListIn;split
  ·rename_i h;rw[if_pos h]at q;exact q
  ·rename_i h;rw[if_neg h]at q;exact ⟨fun _ _=>trivial,q⟩
end
end Go.X
