import Derived.Test.YtmmmpanpbphkdaaGreatDoorXA
import Derived.Great.FillDense
import Derived.Laws.Tables
import Derived.ChangeMaps3
import Derived.Laws.BytesArg
import Derived.Lib.AppendZeros
import Derived.Lib.AppendZerosOnto
import Derived.Lib.ConvBytes
import Derived.OrdersIn
import Derived.TacticsIn
import Derived.LoopNIn
import Derived.RangeFuncLeaves
import Derived.RangeFuncRecord
import Derived.RangeFuncSeq
import Derived.Tactics
set_option linter.unusedVariables false
set_option linter.unusedSimpArgs false
namespace Go.X
open Go.RowKit
section
variable {P:Program} {cx:bS} {φ:bw} {ι ι':Nat->Value} {w w':World} {H:List aG} {n:Nat} {r:ae} {aC:List aG} {aJ:Nat}
theorem Zb {place:Nat->Option (Nat×Nat)} {cells:Array Value} {i:Nat} {v:Value} {rest:List (Nat×Value)} {off size:Nat} (aP:place i=some (off,size)) (aX:v.cells.size=size) (an:off+size<=cells.size):
  Instr.fill place cells ((i,v)::rest)=Instr.fill place (cells.toList.take off++v.cells.toList++cells.toList.drop (off+size)).toArray rest:=by
 rw[Instr.fill,aP];have aa: ¬(v.cells.size≠size||decide (off+v.cells.size>cells.size))=true:=by simp;omega
 simp only[aa,Bool.false_eq_true,if_false];congr 1;rw[<-Array.foldl_toList];apply Array.ext_getElem?;intro k;have:=(Great.foldl_set off v.cells.toList 0 cells).2 k;simp only[Array.toList_zipIdx]at this ⊢;rw[this];simp only[Nat.add_zero,Array.length_toList,List.getElem?_toArray];by_cases av:off<=k/\k<off+v.cells.size/\k<cells.size
 ·rw[if_pos av];rw[List.append_assoc,List.getElem?_append_right (by simp;omega),List.getElem?_append_left (by simp;omega)];congr 1;simp;omega
 ·rw[if_neg av];rcases Nat.lt_or_ge k off with ad |ad
  ·rw[List.append_assoc,List.getElem?_append_left (by simp;omega),List.getElem?_take];simp[ad]
  ·rw[List.getElem?_append_right (by simp;omega),List.getElem?_drop];simp only[List.length_append,List.length_take,Array.length_toList];rcases Nat.lt_or_ge k cells.size with al |al
   ·rw[show off+size+(k-(min off cells.size+v.cells.size))=k by omega];simp
   ·rw[Array.getElem?_eq_none al]
    symm
    rw[List.getElem?_eq_none];simp;omega
theorem Zc (z:Array Value) (s:Nat) (ar:z.size=s) (bY:0<s): ∀m,((List.range (m*s)).map fun i=>z[i%s]!)=(List.replicate m z.toList).flatten
 |0=>by simp
 |m+1=>by
  rw[show (m+1)*s=s+m*s by rw[Nat.add_mul];omega,List.range_add,List.map_append,List.map_map,List.replicate_succ,List.flatten_cons,<-Zc z s ar bY m];congr 1
  ·apply List.ext_getElem
   ·simp[ar]
   ·intro i aa ad;have ab:i<s:=by simpa using aa
    simp[Nat.mod_eq_of_lt ab,ar,ab]
  ·apply List.map_congr_left;intro i _;simp
theorem rA {e:TypeId} {t:aD} {bytes:Nat} (h:qK P e t bytes) (m:Nat): ∃z,(∀w,(zeroValue e).run P w=.ok z w)/\z.cells.size=t.size/\0<t.size/\
  ∀φ w,cz (bh φ w t) (List.replicate m t.zero) ((Array.range (m*t.size)).map fun i=>z.cells[i%z.cells.size]!).toList:=by
 obtain ⟨cW,z,aa,ad,al,_,aE,aZ,bu,dq⟩:=h;have ix:z.cells.size=t.size:=by simpa using bu
 refine ⟨z,fun w=>by simp[zeroValue,typeInfo,aa,aE],ix,aZ,fun φ w=> ?_⟩;have:((Array.range (m*t.size)).map fun i=>z.cells[i%z.cells.size]!).toList=(List.replicate m z.cells.toList).flatten:=by
  rw[Array.toList_map,Array.toList_range,ix];exact Zc z.cells t.size ix aZ m
 rw[this];exact cz.replicate (dq φ w) m
theorem cz.one {φ:bw} {w:World} {t:aD} {xs:List t.den} {cs:List Value} (h:cz (bh φ w t) xs cs): ∀v∈cs,v.oneCell'=true:=by
 induction xs generalizing cs with
 |nil=>simp only[cz]at h;subst h;simp
 |cons x xs aO=>
  obtain ⟨a7,aY,rfl,aa,ad⟩:=h;intro v aX;rcases List.mem_append.1 aX with aX |aX
  ·exact bh.one t _ _ aa v aX
  ·exact aO ad v aX
theorem Cells.of_chunks {φ:bw} {w:World} {t:aD} {cur:Array Value} {zs:List t.den} (h:cz (bh φ w t) zs cur.toList) (n:Nat):Cells φ w t n cur:=
 ⟨h.one,.inr ⟨_,h.drop (fun x c=>bh.len t x c) n⟩⟩
theorem sz [Env] (h:bR φ ι w H) {e:TypeId} {t:aD} {xs:List t.den} {cur:Array Value} {c b:Nat} {fr:Nat×Nat} (g:gJ w w') (ag:w'.heap[b]? =some (.cells cur e fr)) (awj:w.heap.size<=b) (aw:xs.length<=c) (aB:c<=maxLen)
  (ar:cur.size=c*t.size) (aK:vw t fr cur.size) (aa:Cells φ w' t xs.length cur) (av:cz (bh φ w' t) xs (cur.toList.take (xs.length*t.size))) (aQ:n<=H.length) (gE:(aF H n).live=false):
  ch φ ι w H n (.own t n) (bM H n (.arr e t xs false)) (n+1) (.ok (.slice (some ⟨b,0,none⟩) xs.length c) w'):=by
 have kd: ∀k,¬φ b k:=fun k av=>by have:=jt h av;omega
 obtain ⟨a1,k2,b8,dD⟩:=yW (v:=.slice (some ⟨b,0,none⟩) xs.length c) (ob:=.arr e t xs false) h aQ gE g
  ⟨some ⟨b,0,none⟩,xs.length,c,by simp[ip],rfl,aw,aB,.inr ⟨b,#[],cur,fr,rfl,by simpa using ag,ar,by simpa using aK,by simp,aa,av,fun k av=>absurd av (kd k),fun bA=>by cases bA⟩⟩ (by simp[aG.ids]) rfl
  (fun bK gD=>by
   simp only[c6]at gD;split at gD
   ·cases gD
   ·injection gD with gD;omega)
 refine ⟨_,_,φ,_,rfl,a1,k2,b8,dD,sn ⟨by simp[ip],_,_,_,rfl⟩,?_⟩;intro i ab;have:i=n:=by simpa [ae.ids] using ab
 subst this;rw[fm H i _ i aQ,if_pos rfl];rfl
theorem R1 [Env] (h:bR φ ι w H) {e:TypeId} {t:aD} {A:Option Addr} (aQ:n<=H.length) (gE:(aF H n).live=false):
  ch φ ι w H n (.own t n) (bM H n (.arr e t [] false)) (n+1) (.ok (.slice A 0 0) w):=by
 obtain ⟨a1,k2,b8,dD⟩:=yW (v:=.slice A 0 0) (ob:=.arr e t [] false) (w':=w) h aQ gE ⟨rfl,rfl,rfl,Nat.le_refl _,fun _ _=>rfl⟩
  ⟨A,0,0,by simp[ip],rfl,Nat.le_refl _,by simp,.inl rfl⟩ (by simp[aG.ids]) rfl (fun bK gD=>by cases A<;>simp[c6]at gD)
 refine ⟨_,_,φ,_,rfl,a1,k2,b8,dD,sn ⟨by simp[ip],_,_,_,rfl⟩,?_⟩;intro i ab;have:i=n:=by simpa [ae.ids] using ab
 subst this;rw[fm H i _ i aQ,if_pos rfl];rfl
theorem ch.after [Env] {cT:bw} {H1:List aG} {run:Result Value} (g:ef φ ι w H cT H1) (y:ch cT ι w H1 n r aC aJ run):ch φ ι w H n r aC aJ run:=by
 obtain ⟨v,w',φ',ι',a1,k2,b8,dD,gb,ho,wc⟩:=y;exact ⟨v,w',φ',ι',a1,k2,g.step.trans b8,g.keep.trans dD,(g.nx n).trans gb,ho,wc⟩
theorem L6 {x:Int} (bY: -9223372036854775808<=x) (aa:x<9223372036854775808):IntKind.i64.wrap x=x:=by
 have ai:IntKind.i64.bits=64:=rfl;have aq:IntKind.i64.signed=true:=rfl;simp only[IntKind.wrap,ai,aq,Bool.true_and];have bc:(2:Int)^64=18446744073709551616:=by decide
 have bz:(2:Int)^(64-1)=9223372036854775808:=by decide
 rw[bc,bz];split
 ·rename_i h;simp only[dd]at h;omega
 ·rename_i h;simp only[dd]at h;omega
theorem ajo [Env] (tab:cA P cx) {T:TypeId} {a b:Int} {adI h7:IntKind} (e:(J8 cx T a b).go H n=some (r,aC,aJ)) (h:bR φ ι w H) (dt:hG H n aJ):
  ch φ ι w H n r aC aJ ((Instr.makeSlice T (.int adI a) (.int h7 b)).run P w):=by
 unfold J8 at e;split at e
 ·rename_i i ab;split at e
  ·rename_i t aU;have q:=go_chk2 e;clear e;obtain ⟨ag,e⟩:=q;simp only[bB,dd]at ag;obtain ⟨⟨bY,aa⟩,ad⟩:=ag;simp only[HM.go,bt,cw]at e;obtain ⟨rfl,rfl,rfl⟩:=e;obtain ⟨ax,fj⟩:=jj tab ab aU;obtain ⟨z,bA,AD,acm,lT⟩:=rA fj b.toNat;obtain ⟨cW,kY,g1,g2,g3,g4,_⟩:=fj;have hbound:b.toNat*i.bytes<=bm:=by
    have:((b.toNat*i.bytes:Nat):Int)<=(bm:Int):=by rw[Int.natCast_mul,Int.toNat_of_nonneg (by omega)];exact ad
    omega
   have awh:b.toNat<=bm:=Nat.le_trans (Nat.le_mul_of_pos_right _ g4) hbound;have s9:bm=140737488355328:=rfl;have avD:IntKind.i64.wrap a=a:=L6 (by omega) (by omega);have gT:IntKind.i64.wrap b=b:=L6 (by omega) (by omega);have hmul:(i.bytes:Int)*b<=281474976710656:=by
    have:(i.bytes:Int)*b=b*i.bytes:=Int.mul_comm _ _;omega
   have asa: ∀x:Int,0<=x->x<=b->(decide (x<0)||decide ((i.bytes:Int)*x>2^48))=false:=by
    intro x Aw mM;have:(i.bytes:Int)*x<=(i.bytes:Int)*b:=Int.mul_le_mul_of_nonneg_left mM (by omega);simp only[Bool.or_eq_false_iff,decide_eq_false_iff_not];omega
   have dU:(Instr.makeSlice T (.int adI a) (.int h7 b)).run P w=.ok (.slice (some ⟨w.heap.size,0,none⟩) a.toNat b.toNat) (w.alloc (.cells ((Array.range (b.toNat*t.size)).map fun i=>z.cells[i%z.cells.size]!) i.elem)):=by
    unfold Instr.makeSlice;have mE:=asa b (by omega) (Int.le_refl _);have di:=wD (P:=P) (w:=w) (jj tab ab aU).2;have ew:(typeInfo i.elem).run P w=.ok cW w:=by simp[typeInfo,g1]
    have gO: ¬(a<0):=by omega
    have aq1: ¬(a>b):=by omega
    have oe: ¬(b.toNat*i.bytes>roomBytes):=by unfold roomBytes;omega
    simp only[Sem.run_bind,run_underlying ax,Result.andThen_ok,asInt,asIntOf,Sem.run_pure,ew,g3,avD,gT,mE,gO,aq1,decide_false,Bool.or_false,Bool.false_eq_true,if_false,askRoom,oe,di];by_cases vX:b.toNat*t.size=0
    ·have FF:Array.range 0= #[]:=rfl;simp[vX,newRow,FF]
    ·simp[vX,newRow,bA]
   rw[dU];have l2:(List.replicate a.toNat t.zero).length=a.toNat:=List.length_replicate;have:=sz (φ:=φ) (ι:=ι) (n:=n) h (e:=i.elem) (t:=t) (xs:=List.replicate a.toNat t.zero) (cur:=(Array.range (b.toNat*t.size)).map fun i=>z.cells[i%z.cells.size]!) (c:=b.toNat) (b:=w.heap.size) (fr:=(0,0)) (gJ.alloc w _)
    (heap_alloc_new w _) (Nat.le_refl _) (by rw[l2];omega) (by simp only[maxLen];omega) (by simp) (tZ _ _) (Cells.of_chunks (lT φ _) _) (by
     rw[l2];have aa:=(lT φ (w.alloc (.cells ((Array.range (b.toNat*t.size)).map fun i=>z.cells[i%z.cells.size]!) i.elem))).take (fun x c=>bh.len t x c) a.toNat
     rwa [List.take_replicate,Nat.min_eq_left (by omega)]at aa) dt.1 (dt.2 n (Nat.le_refl _) (by omega))
   rwa [l2]at this
  ·simp[HM.go]at e
 ·simp[HM.go]at e
end
open Go.RowKit
section
variable {P:Program} {cx:bS} {φ:bw} {ι ι':Nat->Value} {w w':World} {H:List aG} {n:Nat} {r:ae} {aC:List aG} {aJ:Nat}
theorem Ly: ∀(l:List ae) (t:aD) (cs:List Value) (j:Nat) (u:aD) (x:ae) (v:Value),ae.relL φ ι w l cs->ae.fitsL l t=true->t.nth j=some u->x.rel φ ι w v->x.fits u=true->
  ae.relL φ ι w (l.set j x) (cs.take (t.offs j)++v.cells.toList++cs.drop (t.offs j+u.size))/\ae.fitsL (l.set j x) t=true
 |[],t,cs,j,u,x,v,h,aK,aQ,aw,hu=>by
  have e:t=.unit:=by simpa [ae.fitsL] using aK
  subst e;cases j<;>simp[aD.nth]at aQ
 |r::l,t,cs,j,u,x,v,⟨v0,aY,e,aa,ad⟩,aK,aQ,aw,hu=>by
  subst e;cases t with
  |pair a b=>
   simp only[ae.fitsL,bB]at aK;have hlen:v0.cells.toList.length=a.size:=by rw[<-(ae.rel_fits r a v0 aa aK.1).1];simp
   cases j with
   |zero=>
    simp only[aD.nth,bt]at aQ;subst aQ;refine ⟨⟨v,aY,?_,aw,ad⟩,?_⟩
    ·simp only[aD.offs,List.take_zero,List.nil_append,Nat.zero_add];rw[<-hlen,List.drop_left]
    ·simp[ae.fitsL,hu,aK.2]
   |succ j=>
    obtain ⟨a1,k2⟩:=Ly l b aY j u x v ad aK.2 (by simpa [aD.nth] using aQ) aw hu;refine ⟨⟨v0,_,?_,aa,a1⟩,?_⟩
    ·simp only[aD.offs];rw[<-hlen,List.take_length_add_append,Nat.add_assoc,<-List.drop_drop,List.drop_left];simp
    ·simp[ae.fitsL,aK.1,k2]
  |_=>simp[ae.fitsL]at aK
theorem ZH (l:List ae) (j:Nat) (x:ae): ∀i∈ae.idsL (l.set j x),i∈ae.idsL l\/i∈x.ids:=by
 induction l generalizing j with
 |nil=>intro i ab;simp[ae.idsL]at ab
 |cons a l aO=>
  cases j with
  |zero=>
   intro i ab;simp only[List.set_cons_zero,ae.idsL,List.mem_append]at ab ⊢;rcases ab with ab |ab
   ·exact .inr ab
   ·exact .inl (.inr ab)
  |succ j=>
   intro i ab;simp only[List.set_cons_succ,ae.idsL,List.mem_append]at ab ⊢;rcases ab with ab |ab
   ·exact .inl (.inl ab)
   ·rcases aO j i ab with h |h
    ·exact .inl (.inr h)
    ·exact .inr h
def oI (φ:bw) (ι:Nat->Value) (w:World) (H:List aG):List (Nat×ae)->List (Nat×Value)->Prop
 |[],[]=>True
 |(i,x)::l,(j,v)::m=>i=j/\x.rel φ ι w v/\(∀k∈x.ids,(aF H k).live=true)/\oI φ ι w H l m
 |_,_=>False
theorem oI.ghost [Env] {φ':bw} (g:ef φ ι w H φ' aC): ∀{l:List (Nat×ae)} {m:List (Nat×Value)},oI φ ι w H l m->oI φ' ι w aC l m
 |[],[],_=>trivial
 |(i,x)::l,(j,v)::m,⟨aa,ad,al,aE⟩=>⟨aa,ae.rel_step g.step g.keep al ad,fun k av=>by rw[g.live];exact al k av,aE.ghost g⟩
 |[],_::_,h=>h.elim
 |_::_,[],h=>h.elim
theorem Ed {l:List ae} {v:Value} (h: ∃cs,v=.agg cs/\ae.relL φ ι w l cs.toList):(ae.agg l).rel φ ι w v:=h
theorem ZV [Env] {i:e5} {place:Nat->Option (Nat×Nat)} (aP: ∀j U u,i.fields[j]? =some U->i.ty.nth j=some u->place j=some (i.ty.offs j,u.size)):
  ∀(parts:List (Nat×ae)) (pv:List (Nat×Value)) (φ:bw) (l:List ae) (cells:Array Value) (H:List aG) (n:Nat) (r:ae) (aC:List aG) (aJ:Nat),(ym.go cx i l parts).go H n=some (r,aC,aJ)->bR φ ι w H->
  ae.relL φ ι w l cells.toList->ae.fitsL l i.ty=true->(∀k∈ae.idsL l,(aF H k).live=true)->oI φ ι w H parts pv->
  aJ=n/\ ∃φ' ky eJ,ef φ ι w H φ' aC/\Instr.fill place cells pv=some ky/\r=.agg eJ/\ae.relL φ' ι w eJ ky.toList/\ae.fitsL eJ i.ty=true/\ ∀k∈ae.idsL eJ,(aF aC k).live=true
 |[],[],φ,l,cells,H,n,r,aC,aJ,e,h,ao,aK,hid,_=>by
  obtain ⟨rfl,rfl,rfl⟩:=go_ret e;exact ⟨rfl,φ,cells,l,ef.refl h,rfl,rfl,ao,aK,hid⟩
 |[],_::_,_,_,_,_,_,_,_,_,_,_,_,_,_,an=>an.elim
 |_::_,[],_,_,_,_,_,_,_,_,_,_,_,_,_,an=>an.elim
 |(j,x)::parts,(hb,v)::pv,φ,l,cells,H,n,r,aC,aJ,e,h,ao,aK,hid,⟨ay,aw,kL,an⟩=>by
  subst ay;unfold ym.go at e;split at e
  ·rename_i U u hK hu;obtain ⟨y,H1,cC,ai,aq⟩:=HM.go_bind_some e;clear e;obtain ⟨rfl,cT,g1,bf,ri⟩:=Ki ai h (uO (cx:=cx) (T:=U) aw) (fun k av=>kL k (uN k av));have q:=go_bif aq;clear aq;obtain ⟨qX,aq⟩:=q;have vI:ae.relL cT ι w l cells.toList:=ae.relL_mono g1.step.phi g1.step.cells l _ (fun _ _=>rfl) ao;obtain ⟨a1,k2⟩:=Ly l i.ty cells.toList j u y v vI aK hu bf qX;have hlen:cells.toList.length=i.ty.size:=(ae.relL_fits l i.ty _ ao aK).1;have vN:=DS hu;have dK:=(ae.rel_fits y u v bf qX).1;have q1:=Zb (rest:=pv) (aP j U u hK hu) dK (show i.ty.offs j+u.size<=cells.size by rw[<-Array.length_toList,hlen];exact vN);obtain ⟨aQ,φ',ky,eJ,g2,n7,aA,pk,abL,NY⟩:=ZV aP parts pv cT (l.set j y) (cells.toList.take (i.ty.offs j)++v.cells.toList++cells.toList.drop (i.ty.offs j+u.size)).toArray H1 cC r aC aJ aq g1.rel (by simpa using a1) k2
    (fun k av=>by
     rcases ZH l j y k av with aa |aa
     ·rw[g1.live];exact hid k aa
     ·exact ri k aa) (an.ghost g1)
   exact ⟨aQ,φ',ky,eJ,g1.trans g2,by rw[q1];exact n7,aA,pk,abL,NY⟩
  ·simp[HM.go]at e
theorem alh [Env] (tab:cA P cx) {T:TypeId} {parts:List (Nat×ae)} (e:(ym cx T parts).go H n=some (r,aC,aJ)) (h:bR φ ι w H) {pv:Array (Nat×Value)} (an:oI φ ι w H parts pv.toList):
  ch φ ι w H n r aC aJ ((Instr.build T pv).run P w):=by
 unfold ym at e;split at e
 ·rename_i i l ab bA;obtain ⟨pz,z,hi',dU,AD,FM,as4,as5,as8⟩:=Y6 tab bA ⟨i,ab⟩;rw[ab]at hi';injection hi' with hi'
  subst hi';obtain ⟨info,Ab,_,as6⟩:=(tab T i ab).info;obtain ⟨kY,OJ,_⟩:=as6 _ bA;have td:z=kY:=by
   have:=dU w;simp[zeroValue,typeInfo,Ab,OJ]at this;exact this.symm
  subst td;obtain ⟨cs,rfl,mL⟩:=as8 φ ι w;have h6:i.ty.isAgg=true:=FM.symm;obtain ⟨place,aP,arv⟩: ∃place:Nat->Option (Nat×Nat),(∀j U u,i.fields[j]? =some U->i.ty.nth j=some u->place j=some (i.ty.offs j,u.size))/\P.built T pv.toList=Instr.fill place cs pv.toList:=by
   have ax:=(tab T i ab).desc;unfold jK at ax;split at ax
   ·rename_i e;rw[e]at h6;cases h6
   ·rename_i e;rw[e]at h6;cases h6
   ·rename_i e;rw[e]at h6;cases h6
   ·rename_i e;rw[e]at h6;cases h6
   ·rename_i e;rw[e]at h6;cases h6
   ·rcases ax with ⟨_,fs,ax,ar,av⟩|⟨_,m,b6,cW,ax,hm,he,av⟩
    ·have asQ:=Go.ChangeMaps.mapM_total (f:=fun (f:Field)=>(P.info? f.type).map fun i=>(f.offset,i.size)) (0,0) (l:=fs.toList) (by
      intro fd ll;obtain ⟨k,jl,jm⟩:=List.getElem_of_mem ll;have jQ:k<i.fields.length:=by rw[<-ar];simpa using jl
      obtain ⟨abb,aa,ad,_,j,ay,_,_⟩:=av k _ (List.getElem?_eq_getElem jQ);have al:abb=fd:=by
       have ar6:k<fs.size:=by simpa using jl
       rw[Array.getElem?_eq_getElem ar6]at aa;injection aa with aa
       rw[<-aa,<-jm];simp
      subst al;obtain ⟨acH,hL,_⟩:=(tab _ j ay).info;rw[ad,hL];exact ⟨_,rfl⟩)
     refine ⟨fun x=>((fs.toList.map fun x=>(((P.info? x.type).map fun i=>(x.offset,i.size)).getD (0,0))).toArray)[x]?,?_,?_⟩
     ·intro j U u hK hu;obtain ⟨fd,aa,ad,al,hb,jO,aE,aZ⟩:=av j U hK;rw[hu]at aE;injection aE with aE
      subst aE;obtain ⟨acH,hL,e0,_⟩:=(tab _ hb jO).info;have db:fs.toList[j]? =some fd:=by simpa using aa
      simp[aa,ad,hL,e0,al]
     ·unfold Program.built;rw[Ab,ax];simp only[OJ,asQ];rfl
    ·refine ⟨fun i=>some (i*cW.size,cW.size),?_,?_⟩
     ·intro j U u hK hu;obtain ⟨aa,ad,hb,jO,aE,aZ⟩:=av j U hK;rw[hu]at aE;injection aE with aE
      subst aE;obtain ⟨acH,hL,e0,_⟩:=(tab _ hb jO).info;rw[aa,he]at hL;injection hL with hL
      subst hL;simp[<-ad,e0]
     ·unfold Program.built;rw[Ab,ax];simp only[OJ,he];rfl
  obtain ⟨aQ,φ',ky,eJ,g,n7,rfl,pk,abL,NY⟩:=ZV (cx:=cx) aP parts pv.toList φ l cs H n r aC aJ e h mL (by simpa [ae.fits] using as4) (by
   have:ae.idsL l=[]:=by simpa [ae.ids] using as5
   rw[this];simp) an
  subst aQ;exact ch.ghost g (Ed ⟨ky,rfl,pk⟩) (by simpa [ae.ids] using NY) (run_build w T pv ky (by rw[arv,n7]))
 ·simp[HM.go]at e
end
open Go.RowKit
section
variable {P:Program} {cx:bS} {φ φ':bw} {ι ι':Nat->Value} {w w':World} {H:List aG} {n:Nat} {r:ae} {aC:List aG} {aJ:Nat}
theorem uI [Env] (h:bR φ ι w H) {o:Nat} (an:(aF H o).owns=true) (aQ:n<=H.length) (gE:(aF H n).live=false) {v:Value} {ob:aG} (mK:ob.owns=true) (eu:ob.ids=[])
  (ast:w'.os=w.os) (asO:w'.tape=w.tape) (Of:w'.output=w.output) (asJ:w.heap.size<=w'.heap.size) (abF: ∀b,b<w.heap.size->c6 (ι o)≠some b->w'.heap[b]? =w.heap[b]?)
  (aP: ∀b k,φ b k->φ' b k) (aB: ∀b k,φ b k->w'.cell? ⟨b,k,none⟩=w.cell? ⟨b,k,none⟩) (Ob: ∀b k,φ' b k->φ b k\/(c6 v=some b/\ ∃u,w'.cell? ⟨b,k,none⟩=some u))
  (aX: ∀b,c6 v=some b->w.heap.size<=b\/c6 (ι o)=some b) (cR:hW φ' (ip ι n v) w' n ob):
  bR φ' (ip ι n v) w' (bM (bM H o .gone) n ob)/\Step φ ι w H φ' (ip ι n v) w' (bM (bM H o .gone) n ob)/\dA ι H (ip ι n v) (bM (bM H o .gone) n ob)/\hy H n (bM (bM H o .gone) n ob) (n+1):=by
 have eI: ∀i,(aF H i).owns=true->(aF H i).live=true:=fun i an=>by cases cR:aF H i<;>rw[cR]at an<;>first |rfl |(cases an)
 have bb:=fo (eI o an);have cp: ∀i,(aF H i).live=true->i≠n:=fun i ab e=>by subst e;rw[gE]at ab;cases ab
 have asr:o≠n:=cp o (eI o an);have bo: ∀i,aF (bM (bM H o .gone) n ob) i=if i=n then ob else if i=o then .gone else aF H i:=fun i=>by
  rw[fm _ n ob i (by rw[gM H o _ bb];exact aQ)];split
  ·rfl
  ·rw[fm H o _ i (Nat.le_of_lt bb)]
 have ab: ∀i,(aF H i).live=true->ip ι n v i=ι i:=fun i ab=>by simp[ip,cp i ab]
 have ft:ob.live=true:=by cases ob<;>first |rfl |(cases mK)
 have ao: ∀i,(aF H i).live=true->(aF (bM (bM H o .gone) n ob) i).live=true:=fun i h=>by
  rw[bo,if_neg (cp i h)];split
  ·rfl
  ·exact h
 have NL:(ip ι n v) n=v:=by simp[ip]
 have Oe: ∀i b,i≠n->i≠o->(aF H i).owns=true->c6 (ι i)=some b->c6 v≠some b/\b<w.heap.size/\c6 (ι o)≠some b:=by
  intro i b aa ad al aE;have ag:=sg h al aE;have aZ:c6 (ι o)≠some b:=fun e=>ad (h.apart i o b al an aE e)
  exact ⟨fun e=>by
            rcases aX b e with bu |bu
            ·omega
            ·exact aZ bu,ag,aZ⟩
 refine ⟨⟨fun i=> ?_,fun i j b hM jP aa ad=> ?_,fun b k ag=> ?_,fun i j ay=> ?_,fun g=>(h.glob g).mono aP aB⟩,⟨aP,aB,fun b k ag=> ?_,asJ,ast,asO,Of,fun b ag vL=>abF b ag (fun e=>vL ⟨o,an,e⟩),fun b ag=> ?_⟩,⟨ab,ao⟩,?_⟩
 ·rw[bo];split
  ·rename_i e;subst e;exact cR
  ·rename_i aa;split
   ·trivial
   ·rename_i ad;refine (h.obj i).keep aP aB (ab i) (fun j ay=>ab j (h.ids i j ay)) fun b gZ ag=> ?_
    ·obtain ⟨a1,k2,b8⟩:=Oe i b aa ad gZ ag;refine ⟨abF b k2 b8,fun k av=> ?_⟩;rcases Ob b k av with al |al
     ·exact al
     ·exact absurd al.1 a1
 ·rw[bo]at hM jP;by_cases al:i=n
  ·by_cases aE:j=n
   ·rw[al,aE]
   ·rw[if_neg aE]at jP;split at jP
    ·cases jP
    ·rename_i aZ;subst al;rw[NL]at aa;rw[ab j (eI j jP)]at ad;exact absurd aa (Oe j b aE aZ jP ad).1
  ·rw[if_neg al]at hM;split at hM
   ·cases hM
   ·rename_i aZ;rw[ab i (eI i hM)]at aa;by_cases aE:j=n
    ·subst aE;rw[NL]at ad;exact absurd ad (Oe i b al aZ hM aa).1
    ·rw[if_neg aE]at jP;split at jP
     ·cases jP
     ·rw[ab j (eI j jP)]at ad;exact h.apart i j b hM jP aa ad
 ·rcases Ob b k ag with aa |aa
  ·rw[aB b k aa];exact h.phi b k aa
  ·exact aa.2
 ·rw[bo]at ay;split at ay
  ·rw[eu]at ay;simp at ay
  ·split at ay
   ·simp[aG.ids]at ay
   ·exact ao j (h.ids i j ay)
 ·rcases Ob b k ag with aa |aa
  ·exact .inl aa
  ·rcases aX b aa.1 with ad |ad
   ·exact .inr (.inl ad)
   ·exact .inr (.inr ⟨o,an,ad⟩)
 ·obtain ⟨i,aa,ad⟩:=ag;rw[bo]at aa;split at aa
  ·rename_i e;subst e;rw[NL]at ad;rcases aX b ad with al |al
   ·exact .inl al
   ·exact .inr ⟨o,an,al⟩
  ·split at aa
   ·cases aa
   ·rw[ab i (eI i aa)]at ad;exact .inr ⟨i,aa,ad⟩
 ·have gP:=gM H o .gone bb;refine ⟨by omega,?_,fun h=> ?_,fun i ab=> ?_,fun h=> ?_⟩
  ·rcases Nat.lt_or_ge n H.length with aa |aa
   ·rw[gM _ n ob (by rw[gP];exact aa),gP];exact Nat.le_refl _
   ·have:n=(bM H o .gone).length:=by omega
    rw[this,rB];omega
  ·rcases Nat.lt_or_ge n H.length with aa |aa
   ·rw[gM _ n ob (by rw[gP];exact aa),gP];exact aa
   ·have:n=(bM H o .gone).length:=by omega
    rw[this,rB];exact Nat.le_refl _
  ·rw[bo,if_neg (by omega)];split
   ·rename_i e;subst e;rw[eI i an];rfl
   ·rfl
  ·have:n=(bM H o .gone).length:=by omega
   rw[this,rB]
structure uY (P:Program) (φ:bw) (w:World) (t:aD) (aT:List t.den) (x:Value) (news:List Value):Prop where
 len: ∀w,(Builtin.lenOf x).run P w=.ok aT.length w
 chunks:cz (bh φ w t) aT news
 cells: ∀w',gJ w w'->(Builtin.firstCells t.size aT.length x).run P w'=.ok news.toArray w'
structure Em (P:Program) (T T2 e:TypeId) (t:aD) (bytes:Nat):Prop where
 dst:P.underlying T=some (.slice e)
 src: ∃d,P.underlying T2=some d/\ ∀k,d≠ .int k
 el:qK P e t bytes
theorem gJ.refl (w:World):gJ w w:=⟨rfl,rfl,rfl,Nat.le_refl _,fun _ _=>rfl⟩
theorem gJ.drew (w:World):gJ w w.drew:=⟨rfl,rfl,rfl,Nat.le_refl _,fun _ _=>rfl⟩
theorem AY {T T2 ty e:TypeId} {t:aD} {bytes:Nat} (aU:Em P T T2 e t bytes) {A:Option Addr} {m c:Nat} {x:Value} {aT:List t.den} {news:List Value} (ar:uY P φ w t aT x news) (aA:m+aT.length<=c)
  {w':World} (fH: ∀a,A=some a->(storeCells (a.add (m*t.size)) news).run P w=.ok () w') (jq:A=none->w'=w):
  (Builtin.append_ #[T,T2] ty #[.slice A m c,x]).run P w=.ok (.slice A (m+aT.length) c) w':=by
 obtain ⟨d,ax,av⟩:=aU.src;have bA:(match d with | .int _=>true |_=>false)=false:=by
  cases d<;>first |rfl |(exact absurd rfl (av _))
 have aa:=wD (w:=w) aU.el;have ad:=ar.cells w (gJ.refl w);unfold Builtin.append_;simp only[List.getElem?_toArray,List.getElem?_cons_zero,List.getElem?_cons_succ,Sem.run_bind,run_underlying aU.dst,run_underlying ax,Result.andThen_ok,aa,Sem.run_pure,bA,Bool.false_eq_true,if_false,ar.len,aA,if_true,dm,ad];cases A with
 |none=>simp[jq rfl]
 |some a=>simp[fH a rfl]
theorem P1 {T T2 ty e:TypeId} {t:aD} {bytes:Nat} (aU:Em P T T2 e t bytes) {A:Option Addr} {m c:Nat} {x:Value} {aT:List t.den} {news olds:List Value} (ar:uY P φ w t aT x news) (aA:c<m+aT.length)
  (hold:(Builtin.firstCells t.size m (.slice A m c)).run P w.drew=.ok olds.toArray w.drew) (ag:(m+aT.length)*bytes<=bm):
  ∃c' zs,m+aT.length<=c'/\c'<=maxLen/\zs.size=(c'-(m+aT.length))*t.size/\(∃us:List t.den,∀φ w,cz (bh φ w t) us zs.toList)/\
  (Builtin.append_ #[T,T2] ty #[.slice A m c,x]).run P w=.ok (.slice (some ⟨w.heap.size,0,none⟩) (m+aT.length) c') (w.drew.alloc (.cells (olds.toArray++news.toArray++zs) e)):=by
 obtain ⟨d,ax,av⟩:=aU.src;have bA:(match d with | .int _=>true |_=>false)=false:=by
  cases d<;>first |rfl |(exact absurd rfl (av _))
 have aa:=wD (w:=w) aU.el;have ad:=ar.cells w.drew (gJ.drew w);obtain ⟨cW,z,g1,g2,g3,g4,g5,g6,g7,g8⟩:=aU.el;have s9:bm=140737488355328:=rfl;have dB:m+aT.length<=bm:=Nat.le_trans (Nat.le_mul_of_pos_right _ g4) ag;have qX:=growslice_fits (bytes:=bytes) aA (by omega);have aQ: ¬(m+aT.length<=c):=by omega
 have awe: ¬(((m+aT.length:Nat):Int)>IntKind.i64.max/\((false=true)\/bytes=0)):=by
  rintro ⟨_,h |h⟩
  ·cases h
  ·omega
 have aq3: ¬(Builtin.nextslicecap (m+aT.length) c*bytes>2^48):=by omega
 have ew: ∀w,(typeInfo e).run P w=.ok cW w:=fun w=>by simp[typeInfo,g1]
 have acw: ∀w,(zeroValue e).run P w=.ok z w:=fun w=>by simp[zeroValue,typeInfo,g1,g5]
 have AB:z.cells.size=t.size:=by simpa using g7
 refine ⟨grownCap w (m+aT.length) c e,Builtin.zeroCells z.cells (grownCap w (m+aT.length) c e-(m+aT.length)),grownCap_ge w _ _ _,grownCap_le_maxLen w _ _ _ (by simp only[maxLen];omega),by rw[size_zeroCells,AB],?_,?_⟩
 ·obtain ⟨kY,a1,k2,b8,dD⟩:=rA (P:=P) (bytes:=bytes) ⟨cW,z,g1,g2,g3,g4,g5,g6,g7,g8⟩ (grownCap w (m+aT.length) c e-(m+aT.length));have td:kY=z:=by
   have ai:=a1 w;rw[acw]at ai;injection ai with ai _
   exact ai.symm
  subst td;refine ⟨List.replicate (grownCap w (m+aT.length) c e-(m+aT.length)) t.zero,fun φ w=> ?_⟩;have:=dD φ w;rw[<-AB]at this;exact this
 ·unfold Builtin.append_;simp only[List.getElem?_toArray,List.getElem?_cons_zero,List.getElem?_cons_succ,Sem.run_bind,run_underlying aU.dst,run_underlying ax,Result.andThen_ok,aa,Sem.run_pure,bA,Bool.false_eq_true,if_false,ar.len,aQ,ew,g3,dm];rw[if_neg (by rintro ⟨_,h |h⟩;exact h;omega)];simp only[Sem.run_bind,ew,Result.andThen_ok,g3];rw[if_neg aq3];have aN:(choose (.appendCap (m+aT.length) c e)).run P w=.ok (grownCap w (m+aT.length) c e) w.drew:=by simp[Question.forced,grownCap]
  have oe: ∀b,(askRoom b).run P w.drew=.ok () w.drew:=fun b=>by unfold askRoom;split<;>rfl
  simp only[Sem.run_pure,Result.andThen_ok,Sem.run_bind,aN,ew,g3,oe,hold,ad,if_true,acw,newRow,run_newObj_alloc];rfl
end
open Go.RowKit
section
variable {P:Program} {cx:bS} {φ φ':bw} {ι ι':Nat->Value} {w w':World} {H:List aG} {n:Nat} {r:ae} {aC:List aG} {aJ:Nat}
structure m3 (φ:bw) (w:World) (t:aD) (xs:List t.den) (v:Value):Prop where
 ex: ∃A c aT,v=.slice A xs.length c/\xs.length<=c/\cz (bh φ w t) xs aT/\(xs.length=0\/ ∃b o,A=some ⟨b,o,none⟩/\ ∀i u,aT[i]? =some u->w.cell? ⟨b,o+i,none⟩=some u)
theorem m3.of_CR {t:aD} {xs:List t.den} {v:Value} (h:bh φ w (.list t) xs [v]):m3 φ w t xs v:=by
 obtain ⟨A,n,c,e,ao,aQ,bC⟩:=h;injection e with e _
 subst ao;rcases bC with bC |⟨b,o,aT,rfl,fi,av⟩
 ·refine ⟨A,c,[],e,aQ,?_,.inl bC⟩;have:xs=[]:=List.eq_nil_of_length_eq_zero bC;subst this;rfl
 ·exact ⟨_,c,aT,e,aQ,av,.inr ⟨b,o,rfl,fun i u hu=>(fi i u hu).2⟩⟩
theorem ZU [Env] {o:Nat} {e:TypeId} {t:aD} {xs:List t.den} {fz:Bool} (h:hW φ ι w o (.arr e t xs fz)) {A A':Option Addr} {n c lo ab:Nat} (aX:ι o=.slice A n c) (aa:lo<=ab) (ad:ab<=n) (ec:c≠lo->A'=A.map (·.add (lo*t.size))):
  m3 φ w t ((xs.take ab).drop lo) (.slice A' (ab-lo) (c-lo)):=by
 obtain ⟨hU,aJ,c',ai,aq,bc,bz,bC⟩:=h;rw[aX]at ai;obtain ⟨rfl,rfl,rfl⟩:=hj ai;have hlen:((xs.take ab).drop lo).length=ab-lo:=by simp[aq];omega
 by_cases bA:ab-lo=0
 ·have:(xs.take ab).drop lo=[]:=List.eq_nil_of_length_eq_zero (by omega);refine ⟨A',c-lo,[],by rw[hlen],by omega,?_,.inl (by omega)⟩;rw[this];rfl
 ·have aB:c≠lo:=by omega
  rcases bC with bC |⟨b,pre,cur,fr,rfl,g1,g2,g3,g0,g4,g5,g6,g7⟩
  ·omega
  ·have hle:ab*t.size<=n*t.size:=Nat.mul_le_mul_right _ ad;refine ⟨A',c-lo,(cur.toList.take (ab*t.size)).drop (lo*t.size),by rw[hlen],by omega,?_,.inr ⟨b,pre.size+lo*t.size,by rw[ec aB];simp[ga],?_⟩⟩
   ·have:=(g5.take (fun x c=>bh.len t x c) ab).drop (fun x c=>bh.len t x c) lo
    rwa [List.take_take,Nat.min_eq_left hle]at this
   ·intro i v hi';rw[List.getElem?_drop,List.getElem?_take]at hi';split at hi'
    ·rw[oh g1,Nat.add_assoc,Ec];simpa using hi'
    ·cases hi'
theorem CX [Env] {x:ae} {d:dM} {cj:Value} (e:(mu x).go H n=some (d,aC,aJ)) (h:bR φ ι w H) (aw:x.rel φ ι w cj) (eK: ∀i∈x.ids,(aF H i).live=true):
  aJ=n/\ ∃φ',ef φ ι w H φ' aC/\((∃s,cj=.string ⟨⟨s⟩⟩/\d=⟨.list (.int .u8),iC s⟩/\x.isStr=true)\/ ∀t xs,d=⟨.list t,xs⟩->m3 φ' w t xs cj):=by
 unfold mu at e;split at e
 ·rename_i t o;simp only[HM.go]at e;split at e
  ·rename_i b6 u xs fz hm;obtain ⟨ji,an,rfl⟩:=mS hm;obtain ⟨rfl,rfl,rfl⟩:=go_ret e;refine ⟨rfl,φ,ef.refl h,.inr fun hd fX ax=> ?_⟩;injection ax with aa ad
   injection aa with aa
   subst aa;obtain rfl:=eq_of_heq ad;obtain ⟨rfl,A,m,c,aX⟩:=aw;have bZ:=h.obj o;rw[an]at bZ;have aA:=ZU bZ aX (A':=A) (Nat.zero_le m) (Nat.le_refl m) (fun _=>by cases A<;>simp[Addr.add]);obtain ⟨hU,aJ,c',ai,aq,_⟩:=bZ;rw[aX]at ai;obtain ⟨rfl,rfl,rfl⟩:=hj ai;rw[aX];simpa [<-aq] using aA
  ·simp[HM.go]at e
 ·rename_i t o lo ab;simp only[HM.go]at e;split at e
  ·rename_i b6 u xs fz hm;obtain ⟨ji,an,rfl⟩:=mS hm;have q:=go_bif e;clear e;obtain ⟨hu,e⟩:=q;have hu:u=t:=by simpa using hu
   subst hu;obtain ⟨rfl,rfl,rfl⟩:=go_ret e;refine ⟨rfl,φ,ef.refl h,.inr fun hd fX ax=> ?_⟩;injection ax with aa ad
   injection aa with aa
   subst aa;obtain rfl:=eq_of_heq ad;obtain ⟨A,m,c,A',aX,aa,ad,al,rfl,ec,_⟩:=aw;have bZ:=h.obj o;rw[an]at bZ;exact ZU bZ aX aa ad ec
  ·simp[HM.go]at e
 ·obtain ⟨rfl,rfl,rfl⟩:=go_ret e;exact ⟨rfl,φ,ef.refl h,.inl ⟨_,cf.str.1 aw,rfl,rfl⟩⟩
 ·obtain ⟨aQ,φ',g,aX⟩:=rq x φ cj H n d aC aJ e h aw eK;refine ⟨aQ,φ',g,.inr fun t xs ax=> ?_⟩;subst ax;have aB:=aX.1;rw[pJ aX.2]at aB;exact m3.of_CR (by simpa using aB)
theorem m3.source {t:aD} {aT:List t.den} {v:Value} (h:m3 φ w t aT v): ∃news,uY P φ w t aT v news:=by
 obtain ⟨A,c,news,rfl,aB,av,bC⟩:=h;refine ⟨news,fun w=>by simp[Builtin.lenOf],av,fun w' g=> ?_⟩;have ao:=av.len (fun x c=>bh.len t x c);rcases bC with bC |⟨b,o,rfl,eZ⟩
 ·have:aT=[]:=List.eq_nil_of_length_eq_zero bC;subst this;simp only[cz]at av;subst av;cases A with
  |none=>exact run_firstCells_none _ _ _ _ _
  |some a=>simpa using run_firstCells_some (P:=P) w' t.size 0 a 0 c [] (by simp) (by simp)
 ·exact run_firstCells_some (P:=P) w' t.size aT.length _ aT.length c news ao (fun j u ay=>by
   rw[ga];have aa:=eZ j u ay;rw[g.cell (World.block_lt_of_cell? w _ aa)];exact aa)
theorem Jx (s:List UInt8):uY P φ w (.int .u8) (iC s) (.string ⟨⟨s⟩⟩) (s.map fun b=>.int .u8 (b.toNat:Int)):=by
 refine ⟨fun w=> ?_,?_,fun w' g=> ?_⟩
 ·have:(⟨⟨s⟩⟩:ByteArray).size=s.length:=rfl;simp[Builtin.lenOf,iC,this]
 ·induction s with
  |nil=>rfl
  |cons a s aO=>exact ⟨[.int .u8 (a.toNat:Int)],_,rfl,rfl,aO⟩
 ·unfold Builtin.firstCells;simp only[Sem.run_pure];congr 1;apply Array.ext';simp[iC,ByteArray.data_extract,List.extract_eq_take_drop]
theorem aaj (tab:cA P cx) {T:TypeId} (h:o1 cx T=true): ∃d,P.underlying T=some d/\ ∀k,d≠ .int k:=by
 unfold o1 at h;split at h
 ·rename_i j ay;split at h
  ·rename_i t aU;exact ⟨_,(jj tab ay aU).1,fun k e=>by cases e⟩
  ·rename_i aU;exact ⟨_,p0 tab ay aU,fun k e=>by cases e⟩
  ·cases h
 ·cases h
theorem YK [Env] (h:bR φ ι w H) {T T2 ty e:TypeId} {t:aD} {bytes:Nat} (aU:Em P T T2 e t bytes) {o:Nat} {xs:List t.den} {fz:Bool} (an:aF H o=.arr e t xs fz) {A A':Option Addr} {m c k:Nat} (aX:ι o=.slice A m c)
  (av:k<=m) (ar8:fz=true->k=m) (ec:c≠0->A'=A) {x:Value} {aT:List t.den} {news:List Value} (ar:uY P φ w t aT x news) (ag:(k+aT.length)*bytes<=bm) (aQ:n<=H.length) (gE:(aF H n).live=false):
  ch φ ι w H n (.own t n) (bM (bM H o .gone) n (.arr e t (xs.take k++aT) fz)) (n+1) ((Builtin.append_ #[T,T2] ty #[.slice A' k c,x]).run P w):=by
 have bZ:=h.obj o;rw[an]at bZ;obtain ⟨hU,cr,aY,ai,aq,bc,bz,bC⟩:=bZ;rw[aX]at ai;obtain ⟨rfl,rfl,rfl⟩:=hj ai;have Og:(aF H o).owns=true:=by rw[an];rfl
 have gQ:=ar.chunks.len (fun x c=>bh.len t x c);have OH:(xs.take k).length=k:=by simp[aq];omega
 have hlen:(xs.take k++aT).length=k+aT.length:=by simp[aq];omega
 have ej: ∀i∈(ae.own t n).ids,(aF (bM (bM H o .gone) n (.arr e t (xs.take k++aT) fz)) i).live=true:=by
  intro i ab;have:i=n:=by simpa [ae.ids] using ab
  subst this;rw[fm _ i _ i (by rw[gM H o _ (fo (by rw[an];rfl))];exact aQ),if_pos rfl];rfl
 have mJ:=ar.chunks.one;obtain ⟨cW,z,g1,g2,g3,g4,g5,g6,g7,g8⟩:=aU.el;have s9:bm=140737488355328:=rfl;have awr:k+aT.length<=bm:=Nat.le_trans (Nat.le_mul_of_pos_right _ g4) ag;by_cases oe:k+aT.length<=c
 ·by_cases fQ:c=0
  ·have qZ:k=0:=by omega
   have OI:aT=[]:=List.eq_nil_of_length_eq_zero (by omega);subst fQ qZ OI;have s5:news=[]:=List.eq_nil_of_length_eq_zero (by simpa using gQ);subst s5;have dU:=AY (ty:=ty) aU (A:=A') ar oe (w':=w) (fun a _=>rfl) (fun _=>rfl);rw[dU];have arw: ∀b,c6 (Value.slice A' (0+([]:List t.den).length) 0)≠some b:=fun b=>by cases A'<;>simp[c6]
   obtain ⟨a1,k2,b8,dD⟩:=uI (v:=.slice A' (0+([]:List t.den).length) 0) (ob:=.arr e t (xs.take 0++[]) fz) (w':=w) (φ':=φ) h Og aQ gE rfl rfl rfl rfl rfl (Nat.le_refl _) (fun _ _ _=>rfl) (fun _ _ h=>h) (fun _ _ _=>rfl) (fun _ _ h=>.inl h)
    (fun b ag=>absurd ag (arw b)) ⟨A',0+([]:List t.den).length,0,by simp[ip],by simp,by simp,by simp,.inl rfl⟩
   exact ⟨_,_,φ,_,rfl,a1,k2,b8,dD,sn ⟨by simp[ip],_,_,_,rfl⟩,ej⟩
  ·obtain rfl:=ec fQ;rcases bC with bC |⟨b,pre,cur,fr,rfl,bj,bU,da,nE,c8,fk,gv,lC⟩
   ·exact absurd bC fQ
   ·have ij:c6 (ι o)=some b:=by rw[aX];simp[c6,fQ]
    have hle:(k+aT.length)*t.size<=c*t.size:=Nat.mul_le_mul_right _ oe;rw[Nat.add_mul]at hle;obtain ⟨cV,fH,ep,fI⟩:=GS P (pre.size+k*t.size) news 0 (pre++cur) w bj (by rw[Array.size_append];exact da.ok) (by rw[gQ,Array.size_append,bU];omega) mJ;have dU:=AY (ty:=ty) aU ar oe (A:=some ⟨b,pre.size,none⟩) (w':=cV) (fun a aR=>by injection aR with aR;subst aR;rw[ga];simpa using fH) (fun h=>by cases h);rw[dU];simp only[Nat.add_zero]at ep;rw[KV]at ep
    let φ':bw:=fun bK j=>φ bK j\/(fz=true/\bK=b/\pre.size<=j/\j<pre.size+(k+aT.length)*t.size)
    have jo:k*t.size<=m*t.size:=Nat.mul_le_mul_right _ av;have kd: ∀j,φ b j->pre.size<=j/\j<pre.size+k*t.size:=fun j ay=>by
     obtain ⟨bA,jO⟩:=gv j ay;rw[ar8 bA];exact jO
    have abZ:k*t.size<=cur.size:=by rw[bU];exact Nat.mul_le_mul_right _ (by omega)
    have arz: ∀j,pre.size<=j/\j<pre.size+k*t.size->cV.cell? ⟨b,j,none⟩=w.cell? ⟨b,j,none⟩:=fun j ay=>by
     obtain ⟨hb,rfl⟩: ∃hb,j=pre.size+hb:=⟨j-pre.size,by omega⟩;rw[oh ep,oh bj,Ec,Ec];simp only[List.getElem?_toArray];rw[List.append_assoc,List.getElem?_append_left (by simp only[List.length_take,Array.length_toList];omega),List.getElem?_take,if_pos (by omega)];simp
    have eZ: ∀bK j,φ bK j->cV.cell? ⟨bK,j,none⟩=w.cell? ⟨bK,j,none⟩:=fun bK j ay=>by
     by_cases n2:bK=b
     ·subst n2;exact arz j (kd j ay)
     ·exact fI.cell n2
    have vS:((cur.toList.take (k*t.size)++news++cur.toList.drop (k*t.size+news.length)).toArray).size=cur.size:=by
     simp only[List.size_toArray,List.length_append,List.length_take,List.length_drop,Array.length_toList,gQ];omega
    have cR:hW φ' (ip ι n (.slice (some ⟨b,pre.size,none⟩) (k+aT.length) c)) cV n (.arr e t (xs.take k++aT) fz):=by
     refine ⟨some ⟨b,pre.size,none⟩,k+aT.length,c,by simp[ip],hlen,oe,bz,.inr ⟨b,pre,_,fr,rfl,ep,by rw[vS,bU],by rw[vS];exact da,nE,?_,?_,?_,fun bA j ay=>.inr ⟨bA,rfl,by omega,by omega⟩⟩⟩
     ·refine ⟨?_,?_⟩
      ·intro v ee;simp only[List.mem_append]at ee;rcases ee with (ee |ee)|ee
       ·exact c8 v (List.mem_of_mem_take ee)
       ·exact mJ v ee
       ·exact c8 v (List.mem_of_mem_drop ee)
      ·have c7:((cur.toList.take (k*t.size)++news++cur.toList.drop (k*t.size+news.length)).toArray).toList.drop ((k+aT.length)*t.size)=cur.toList.drop ((k+aT.length)*t.size):=
        Kq (by simpa using abZ) (by rw[gQ,Nat.add_mul];exact Nat.le_refl _)
       rw[c7];exact (c8.at_ fk _).imp id fun ⟨zs,bA⟩=>⟨zs,bA.imp fun x c=>bh.mono (fun _ _ h=>.inl h) eZ t x c⟩
     ·have dh:((cur.toList.take (k*t.size)++news++cur.toList.drop (k*t.size+news.length)).toArray).toList.take ((k+aT.length)*t.size)=cur.toList.take (k*t.size)++news:=by
       simp only[];rw[List.take_append_of_le_length (by simp[gQ,Nat.add_mul];omega),List.take_of_length_le (by simp[gQ,Nat.add_mul];omega)]
      rw[dh];have aa:=fk.take (fun x c=>bh.len t x c) k;rw[List.take_take,Nat.min_eq_left jo]at aa;exact cz.append _ _ _ _ (aa.imp fun x c=>bh.mono (fun _ _ h=>.inl h) eZ t x c) (ar.chunks.imp fun x c=>bh.mono (fun _ _ h=>.inl h) eZ t x c)
     ·rintro j (ay |⟨bA,_,ay⟩)
      ·refine ⟨(gv j ay).1,?_⟩;have:=kd j ay;rw[Nat.add_mul];omega
      ·exact ⟨bA,ay⟩
    obtain ⟨a1,k2,b8,dD⟩:=uI (v:=.slice (some ⟨b,pre.size,none⟩) (k+aT.length) c) (ob:=.arr e t (xs.take k++aT) fz) (w':=cV) (φ':=φ') h Og aQ gE rfl rfl fI.os fI.tape fI.output (by rw[fI.size];exact Nat.le_refl _)
     (fun bK gD cp=>fI.blocks bK (fun e=>cp (e▸ij))) (fun _ _ h=>.inl h) eZ
     (fun bK j ay=>by
      rcases ay with ay |⟨bA,rfl,ay⟩
      ·exact .inl ay
      ·refine .inr ⟨by simp[c6,fQ],?_⟩;rw[Nat.add_mul]at ay;have bb:j<(pre++(cur.toList.take (k*t.size)++news++cur.toList.drop (k*t.size+news.length)).toArray).size:=by rw[Array.size_append,vS,bU];omega
       exact ⟨_,by rw[oh ep];exact Array.getElem?_eq_getElem bb⟩)
     (fun bK gD=>.inr (by
                 have:b=bK:=by simpa [c6,fQ] using gD
                 rw[<-this];exact ij)) cR
    exact ⟨_,_,φ',_,rfl,a1,k2,b8,dD,sn ⟨by simp[ip],_,_,_,rfl⟩,ej⟩
 ·
  have arV:c<k+aT.length:=by omega
  obtain ⟨olds,hold,qV⟩: ∃olds,(Builtin.firstCells t.size k (.slice A' k c)).run P w.drew=.ok olds.toArray w.drew/\cz (bh φ w t) (xs.take k) olds:=by
   by_cases qZ:k=0
   ·subst qZ;refine ⟨[],?_,by simp[cz]⟩;cases A' with
    |none=>exact run_firstCells_none _ _ _ _ _
    |some a=>simpa using run_firstCells_some (P:=P) w.drew t.size 0 a 0 c [] (by simp) (by simp)
   ·have fQ:c≠0:=by omega
    obtain rfl:=ec fQ;rcases bC with bC |⟨b,pre,cur,fr,rfl,bj,bU,da,nE,c8,fk,gv,lC⟩
    ·exact absurd bC fQ
    ·have jo:k*t.size<=m*t.size:=Nat.mul_le_mul_right _ av;have abZ:k*t.size<=cur.size:=by rw[bU];exact Nat.mul_le_mul_right _ (by omega)
     have aa:=fk.take (fun x c=>bh.len t x c) k;rw[List.take_take,Nat.min_eq_left jo]at aa;refine ⟨_,run_firstCells_some (P:=P) w.drew t.size k _ k c (cur.toList.take (k*t.size)) (by simp;omega) (fun j u ay=> ?_),aa⟩;rw[ga];rw[List.getElem?_take]at ay;split at ay
     ·show w.cell? _=_;rw[oh bj,Ec];simpa using ay
     ·cases ay
  have FC:=qV.len (fun x c=>bh.len t x c);rw[OH]at FC;obtain ⟨c',zs,au,aL,bF,cN,dU⟩:=P1 (ty:=ty) aU ar arV hold ag;rw[dU];have hC:=gJ.drew_alloc w (.cells (olds.toArray++news.toArray++zs) e);have Fx:(w.drew.alloc (.cells (olds.toArray++news.toArray++zs) e)).heap[w.heap.size]? =some (.cells (olds.toArray++news.toArray++zs) e (0,0)):=heap_alloc_new w.drew _;generalize hl:w.drew.alloc (.cells (olds.toArray++news.toArray++zs) e)=W at hC Fx ⊢;have awg:w.heap.size<W.heap.size:=(Array.getElem?_eq_some_iff.1 Fx).1
  let φ':bw:=fun bK j=>φ bK j\/(fz=true/\bK=w.heap.size/\j<(k+aT.length)*t.size)
  have eZ: ∀bK j,φ bK j->W.cell? ⟨bK,j,none⟩=w.cell? ⟨bK,j,none⟩:=fun bK j ay=>hC.cell (jt h ay)
  have abG:c'≠0:=by omega
  have ack:(olds.toArray++news.toArray++zs).size=c'*t.size:=by
   simp only[Array.size_append,List.size_toArray,FC,gQ,bF];rw[<-Nat.add_mul,<-Nat.add_mul];congr 1;omega
  have cR:hW φ' (ip ι n (.slice (some ⟨w.heap.size,0,none⟩) (k+aT.length) c')) W n (.arr e t (xs.take k++aT) fz):=by
   refine ⟨some ⟨w.heap.size,0,none⟩,k+aT.length,c',by simp[ip],hlen,au,aL,.inr ⟨w.heap.size,#[],_,(0,0),rfl,by rw[Array.empty_append];exact Fx,ack,tZ _ _,by simp,?_,?_,?_,fun bA j ay=>.inr ⟨bA,rfl,by simpa using ay⟩⟩⟩
   ·obtain ⟨us,kO⟩:=cN;have n1:=cz.append _ _ _ _ (cz.append _ _ _ _ (qV.imp fun x c=>bh.mono (fun _ _ h=>(.inl h:φ' _ _)) eZ t x c) (ar.chunks.imp fun x c=>bh.mono (fun _ _ h=>(.inl h:φ' _ _)) eZ t x c)) (kO φ' W);refine Cells.of_chunks (zs:=xs.take k++aT++us) ?_ _;simp only[Array.toList_append];exact n1
   ·have dh:(olds.toArray++news.toArray++zs).toList.take ((k+aT.length)*t.size)=olds++news:=by
     simp only[Array.toList_append];rw[List.take_append_of_le_length (by simp[FC,gQ,Nat.add_mul]),List.take_of_length_le (by simp[FC,gQ,Nat.add_mul])]
    rw[dh];exact cz.append _ _ _ _ (qV.imp fun x c=>bh.mono (fun _ _ h=>.inl h) eZ t x c) (ar.chunks.imp fun x c=>bh.mono (fun _ _ h=>.inl h) eZ t x c)
   ·rintro j (ay |⟨bA,_,ay⟩)
    ·have:=jt h ay;omega
    ·exact ⟨bA,by simp,by simpa using ay⟩
  obtain ⟨a1,k2,b8,dD⟩:=uI (v:=.slice (some ⟨w.heap.size,0,none⟩) (k+aT.length) c') (ob:=.arr e t (xs.take k++aT) fz) (w':=W) (φ':=φ') h Og aQ gE rfl rfl hC.os hC.tape hC.output hC.size
   (fun bK gD _=>hC.blocks bK gD) (fun _ _ h=>.inl h) eZ
   (fun bK j ay=>by
    rcases ay with ay |⟨bA,rfl,ay⟩
    ·exact .inl ay
    ·refine .inr ⟨by simp[c6,abG],?_⟩;have bb:j<(olds.toArray++news.toArray++zs).size:=by
      rw[ack];exact Nat.lt_of_lt_of_le ay (Nat.mul_le_mul_right _ au)
     exact ⟨_,by rw[oh Fx];exact Array.getElem?_eq_getElem bb⟩)
   (fun bK gD=>.inl (by
               have:w.heap.size=bK:=by simpa [c6,abG] using gD
               omega)) cR
  exact ⟨_,_,φ',_,rfl,a1,k2,b8,dD,sn ⟨by simp[ip],_,_,_,rfl⟩,ej⟩
end
open Go.RowKit
section
variable {P:Program} {cx:bS} {φ φ':bw} {ι ι':Nat->Value} {w w':World} {H:List aG} {n:Nat} {r:ae} {aC:List aG} {aJ:Nat}
theorem KN: ∀(H:List aG) (o:Nat),o<H.length->bM H o (aF H o)=H
 |[],o,h=>by simp at h
 |a::l,0,h=>by simp[bM,aF]
 |a::l,o+1,h=>by
  have aO:=KN l o (by simpa using h);have:aF (a::l) (o+1)=aF l o:=by simp[aF]
  rw[this];simp[bM,aO]
theorem LK [Env] (h:bR φ ι w H) {o:Nat} {e:TypeId} {t:aD} {xs:List t.den} (an:aF H o=.arr e t xs false) {A:Option Addr} {m c:Nat} (aX:ι o=.slice A m c) {k:Nat} {aT:List t.den} {news:List Value} (lT:cz (bh φ w t) aT news)
  (av:k+aT.length<=xs.length) {A':Option Addr} (ec:aT.length≠0->A'=A.map (·.add (k*t.size))):
  ∃w',(∀a,A'=some a->(storeCells a news).run P w=.ok () w')/\(A'=none->w'=w)/\bR φ ι w' (bM H o (.arr e t (xs.take k++aT++xs.drop (k+aT.length)) false))/\Step φ ι w H φ ι w' (bM H o (.arr e t (xs.take k++aT++xs.drop (k+aT.length)) false))/\
   dA ι H ι (bM H o (.arr e t (xs.take k++aT++xs.drop (k+aT.length)) false))/\hy H n (bM H o (.arr e t (xs.take k++aT++xs.drop (k+aT.length)) false)) n:=by
 have bb:o<H.length:=fo (by rw[an];rfl);have gQ:=lT.len (fun x c=>bh.len t x c);by_cases bf:aT.length=0
 ·have Ay:aT=[]:=List.eq_nil_of_length_eq_zero bf;subst Ay;have s5:news=[]:=List.eq_nil_of_length_eq_zero (by simpa using gQ);subst s5;have he:(aG.arr e t (xs.take k++[]++xs.drop (k+([]:List t.den).length)) false)=aF H o:=by
   rw[an];simp
  rw[he,KN H o bb];exact ⟨w,fun a _=>rfl,fun _=>rfl,h,Step.refl _ _ _ _,dA.refl _ _,hy.refl _ _⟩
 ·have bZ:=h.obj o;rw[an]at bZ;have asF:=bZ;obtain ⟨hU,cr,aY,ai,aq,bc,bz,bC⟩:=asF;rw[aX]at ai;obtain ⟨rfl,rfl,rfl⟩:=hj ai;rcases bC with bC |⟨b,pre,cur,fr,rfl,bj,bU,da,nE,c8,fk,gv,lC⟩
  ·omega
  ·have fQ:c≠0:=by omega
   have ij:c6 (ι o)=some b:=by rw[aX];simp[c6,fQ]
   have kd: ∀j,¬φ b j:=fun j ay=>by have:=(gv j ay).1;cases this
   have jo:(k+aT.length)*t.size<=m*t.size:=Nat.mul_le_mul_right _ (by omega);have s3:m*t.size<=c*t.size:=Nat.mul_le_mul_right _ bc;rw[Nat.add_mul]at jo;obtain ⟨cV,fH,ep,fI⟩:=GS P (pre.size+k*t.size) news 0 (pre++cur) w bj (by rw[Array.size_append];exact da.ok) (by rw[gQ,Array.size_append,bU];omega) lT.one;simp only[Nat.add_zero]at ep;rw[KV]at ep;rw[ec bf];have vS:((cur.toList.take (k*t.size)++news++cur.toList.drop (k*t.size+news.length)).toArray).size=cur.size:=by
    simp only[List.size_toArray,List.length_append,List.length_take,List.length_drop,Array.length_toList,gQ];omega
   have eZ: ∀bK j,φ bK j->cV.cell? ⟨bK,j,none⟩=w.cell? ⟨bK,j,none⟩:=fun bK j ay=>fI.cell (fun e=>kd j (e▸ay))
   have cR:hW φ ι cV o (.arr e t (xs.take k++aT++xs.drop (k+aT.length)) false):=by
    refine ⟨some ⟨b,pre.size,none⟩,m,c,aX,by simp;omega,bc,bz,.inr ⟨b,pre,_,fr,rfl,ep,by rw[vS,bU],by rw[vS];exact da,nE,?_,?_,fun j ay=>absurd ay (kd j),fun bA=>by cases bA⟩⟩
    ·refine ⟨?_,?_⟩
     ·intro v ee;simp only[List.mem_append]at ee;rcases ee with (ee |ee)|ee
      ·exact c8 v (List.mem_of_mem_take ee)
      ·exact lT.one v ee
      ·exact c8 v (List.mem_of_mem_drop ee)
     ·have c7:((cur.toList.take (k*t.size)++news++cur.toList.drop (k*t.size+news.length)).toArray).toList.drop (m*t.size)=cur.toList.drop (m*t.size):=
       Kq (by rw[Array.length_toList,bU];omega) (by rw[gQ];exact jo)
      rw[c7];exact c8.rest.imp id fun ⟨zs,bA⟩=>⟨zs,bA.imp fun x c=>bh.mono (fun _ _ h=>h) eZ t x c⟩
    ·have dh:((cur.toList.take (k*t.size)++news++cur.toList.drop (k*t.size+news.length)).toArray).toList.take (m*t.size)=(cur.toList.take (m*t.size)).take (k*t.size)++news++(cur.toList.take (m*t.size)).drop ((k+aT.length)*t.size):=by
      simp only[];rw[List.take_take,Nat.min_eq_left (by omega),List.drop_take,Nat.add_mul,<-gQ,List.take_append,List.take_of_length_le (by simp[gQ];omega)];congr 2;simp[gQ];omega
     rw[dh];have aa:=fk.take (fun x c=>bh.len t x c) k;have ad:=fk.drop (fun x c=>bh.len t x c) (k+aT.length);exact cz.append _ _ _ _ (cz.append _ _ _ _ (aa.imp fun x c=>bh.mono (fun _ _ h=>h) eZ t x c) (lT.imp fun x c=>bh.mono (fun _ _ h=>h) eZ t x c)) (ad.imp fun x c=>bh.mono (fun _ _ h=>h) eZ t x c)
   obtain ⟨oC,oD,rM,By⟩:=yV (n:=n) (ob:=.arr e t (xs.take k++aT++xs.drop (k+aT.length)) false) h (by rw[an];rfl) ij fI kd cR (by simp[aG.ids]) rfl;refine ⟨cV,fun a aR=> ?_,fun aR=>by simp at aR,oC,oD,rM,By⟩;simp only[Option.map_some,bt]at aR;subst aR;rw[ga];exact fH
end
open Go.RowKit
section
variable {P:Program} {cx:bS} {φ φ':bw} {ι ι':Nat->Value} {w w':World} {H:List aG} {n:Nat} {r:ae} {aC:List aG} {aJ:Nat}
theorem aae:(ae.tup []).rel φ ι w (.tuple #[]):=⟨#[],rfl,rfl⟩
theorem Zw [Env] (tab:cA P cx) {T:TypeId} {i:e5} {t:aD} (ab:cx.ti T=some i) (aU:i.ty=.list t) {fY:Array TypeId} (kH:fY= #[T]) {ty:TypeId} (h:bR φ ι w H) {o:Nat} {e:TypeId} {xs:List t.den} (an:aF H o=.arr e t xs false) {A:Option Addr} {m c:Nat} (aX:ι o=.slice A m c) {lo hi':Nat} (aa:lo<=hi') (ad:hi'<=xs.length)
  {A':Option Addr} {c':Nat} (ec:hi'-lo≠0->A'=A.map (·.add (lo*t.size))):
  ch φ ι w H n (.tup []) (bM H o (.arr e t (xs.take lo++List.replicate (hi'-lo) t.zero++xs.drop (lo+(hi'-lo))) false)) n ((Builtin.clear_ fY ty #[.slice A' (hi'-lo) c']).run P w):=by
 subst kH;obtain ⟨ax,fj⟩:=jj tab ab aU;obtain ⟨z,aH,z2,z3,z4⟩:=rA fj (hi'-lo);have lT:=z4 φ w;rw[<-z2]at lT;obtain ⟨cV,a1,k2,b8,dD,gb,ho⟩:=LK (P:=P) (n:=n) (k:=lo) (A':=A') h an aX lT (by simp;omega) (fun cp=>ec (by simpa using cp));rw[List.length_replicate]at b8 dD gb ho;refine ⟨_,cV,φ,ι,?_,b8,dD,gb,ho,aae,by simp[ae.ids,ae.idsL]⟩;unfold Builtin.clear_;simp only[List.getElem?_toArray,List.getElem?_cons_zero,Sem.run_bind,run_underlying ax,Result.andThen_ok,Sem.run_pure];cases A' with
 |none=>simp[k2 rfl]
 |some a=>
  cases aQ:hi'-lo with
  |zero=>
   have ar:=a1 a rfl;rw[aQ]at ar;simp[storeCells]at ar;simp[ar]
  |succ q=>
   have ar:=a1 a rfl;rw[aQ]at ar;have b6:(Array.map (fun i=>z.cells[i%z.cells.size]!) (Array.range ((q+1)*z.cells.size)))=Builtin.zeroCells z.cells (q+1):=rfl;rw[b6]at ar;simp[aH,ar]
theorem ali [Env] (tab:cA P cx) {T ty:TypeId} {fY:Array TypeId} (kH:fY= #[T]) {x:ae} (e:(Lx cx T x).go H n=some (r,aC,aJ)) (h:bR φ ι w H) {v:Value} (aw:x.rel φ ι w v) (ha: ∃d,P.underlying T=some d):
  ch φ ι w H n r aC aJ ((Builtin.clear_ fY ty #[v]).run P w):=by
 unfold Lx at e;split at e
 ·rename_i t o;have q:=go_bif e;clear e;obtain ⟨b4,e⟩:=q;obtain ⟨i,ab,aU⟩:=gk b4;simp only[HM.go]at e;split at e
  ·rename_i b6 u xs fz an;have q:=go_bif e;clear e;obtain ⟨ag,e⟩:=q;simp only[bB,dd,Bool.not_eq_true']at ag;obtain ⟨rfl,rfl⟩:=ag;simp only[HM.go,bt,cw]at e;obtain ⟨rfl,rfl,rfl⟩:=e;obtain ⟨rfl,A,m,c,aX⟩:=aw;have bZ:=h.obj o;rw[an]at bZ;obtain ⟨hU,cr,aY,ai,aq,bc,bz,bC⟩:=bZ;rw[aX]at ai;obtain ⟨rfl,rfl,rfl⟩:=hj ai;subst aq;have:=Zw (n:=n) (ty:=ty) tab ab aU kH h an aX (lo:=0) (hi':=xs.length) (A':=A) (c':=c) (Nat.zero_le _) (Nat.le_refl _) (fun cp=>by
    rcases bC with bC |⟨b,pre,cur,fr,rfl,_⟩
    ·omega
    ·simp[ga])
   rw[aX];simpa using this
  ·simp[HM.go]at e
 ·rename_i t o lo hi';have q:=go_bif e;clear e;obtain ⟨b4,e⟩:=q;obtain ⟨i,ab,aU⟩:=gk b4;simp only[HM.go]at e;split at e
  ·rename_i b6 u xs fz an;have q:=go_bif e;clear e;obtain ⟨ag,e⟩:=q;simp only[bB,dd,Bool.not_eq_true']at ag;obtain ⟨rfl,rfl⟩:=ag;simp only[HM.go,bt,cw]at e;obtain ⟨rfl,rfl,rfl⟩:=e;obtain ⟨A,m,c,A',aX,aa,ad,al,rfl,ec,cM⟩:=aw;have bZ:=h.obj o;rw[an]at bZ;obtain ⟨hU,cr,aY,ai,aq,_⟩:=bZ;rw[aX]at ai;obtain ⟨rfl,rfl,rfl⟩:=hj ai;exact Zw (n:=n) (ty:=ty) tab ab aU kH h an aX aa (by omega) (fun cp=>ec (by omega))
  ·simp[HM.go]at e
 ·obtain ⟨rfl,rfl,rfl⟩:=go_ret e;simp only[ae.rel]at aw;subst aw;obtain ⟨d,ax⟩:=ha;subst kH;refine ch.pure (r:=.tup []) (v:=.tuple #[]) h aae (by simp[ae.ids,ae.idsL]) ?_;unfold Builtin.clear_;cases d<;>simp[run_underlying ax]
 ·simp[HM.go]at e
end
open Go.RowKit
section
variable {P:Program} {cx:bS} {φ φ':bw} {ι ι':Nat->Value} {w w':World} {H:List aG} {n:Nat} {r:ae} {aC:List aG} {aJ:Nat}
theorem aqm {d:dM} {cj:Value} {t:aD} {aT:List t.den} (x:ae) (ax:d.t.cast? (.list t) d.x=some aT) (h:(∃s,cj=.string ⟨⟨s⟩⟩/\d=⟨.list (.int .u8),iC s⟩/\x.isStr=true)\/ ∀t xs,d=⟨.list t,xs⟩->m3 φ w t xs cj):
  ∃news,uY P φ w t aT cj news:=by
 obtain ⟨u,z⟩:=d;obtain ⟨e,rfl⟩:=pP ax;simp only at e;subst e;rcases h with ⟨s,rfl,h,_⟩|h
 ·injection h with aa ad
  injection aa with aa
  subst aa;obtain rfl:=eq_of_heq ad;exact ⟨_,Jx s⟩
 ·exact (h t _ rfl).source
theorem adc {u t:aD} {xs:List u.den} {aT:List t.den} (h:u.list.cast? t.list xs=some aT): ∃e:u=t,aT=e▸xs:=by
 obtain ⟨e,rfl⟩:=pP h;injection e with e
 subst e;exact ⟨rfl,rfl⟩
theorem alg [Env] (tab:cA P cx) {T T2 ty:TypeId} {s x:ae} (e:(Lv cx T T2 s x).go H n=some (r,aC,aJ)) (h:bR φ ι w H) {vs cj:Value} (ar:s.rel φ ι w vs) (aw:x.rel φ ι w cj) (dt:hG H n aJ):
  ch φ ι w H n r aC aJ ((Builtin.append_ #[T,T2] ty #[vs,cj]).run P w):=by
 unfold Lv at e;split at e
 ·rename_i b6 t0 k m;have q:=go_bif e;clear e;obtain ⟨Nz,e⟩:=q;obtain ⟨i2,e0,Ar⟩:=gk Nz;split at e
  ·rename_i i ab;split at e
   ·rename_i t aU;obtain ⟨ax,fj⟩:=jj tab ab aU;have n5:P.underlying T2=some (.int k):=by
     have:=(tab T2 i2 e0).desc;unfold jK at this;rw[Ar]at this;exact this
    have q:=go_chk2 e;clear e;obtain ⟨ag,e⟩:=q;simp only[bB,dd]at ag;obtain ⟨ep,dB⟩:=ag;simp only[HM.go,bt,cw]at e;obtain ⟨rfl,rfl,rfl⟩:=e;simp only[ae.rel]at ar;subst ar;obtain rfl:=cf.int.1 aw;have ep:(0:Int)<(m:Int):=ep;have dB:(m:Int)*(i.bytes:Int)<=(bm:Int):=dB;obtain ⟨a,rfl⟩:=Int.eq_ofNat_of_zero_le (show (0:Int)<=(m:Int) by omega);rw[bQ];obtain ⟨z,aH,z2,z3,z4⟩:=rA fj a;obtain ⟨cW,kY,g1,g2,g3,g4,g5,g6,g7,g8⟩:=fj;have td:z=kY:=by
     have ai:=aH w;simp[zeroValue,typeInfo,g1,g5]at ai;exact ai.symm
    subst td;have s9:bm=140737488355328:=rfl;have pe:a*i.bytes<=140737488355328:=by
     have q:((a*i.bytes:Nat):Int)<=((bm:Nat):Int):=by rw[Int.natCast_mul];exact dB
     exact s9▸Int.ofNat_le.1 q
    have NF:0<a:=by omega
    have aR:a<=a*i.bytes:=Nat.le_mul_of_pos_right _ g4;have dU:=Lib.run_append_nil_zeros (P:=P) w T T2 ty i.elem cW z k k ax n5 g1 g5 a NF (by rw[g2];exact g6) (by omega) (by rw[g3];omega);rw[dU];have qY:=grownCap_ge w a 0 i.elem;obtain ⟨gI,hx,jw,y3,y4⟩:=rA (P:=P) (t:=t) (bytes:=i.bytes) ⟨cW,z,g1,g2,g3,g4,g5,g6,g7,g8⟩ (grownCap w a 0 i.elem-a);have vY:gI=z:=by
     have ai:=hx w;simp[zeroValue,typeInfo,g1,g5]at ai;exact ai.symm
    subst vY;have hC:=gJ.drew_alloc w (.cells (Builtin.zeroCells gI.cells a++Builtin.zeroCells gI.cells (grownCap w a 0 i.elem-a)) i.elem);have zT: ∀q,(Builtin.zeroCells gI.cells q).toList=((Array.range (q*t.size)).map fun i=>gI.cells[i%gI.cells.size]!).toList:=fun q=>by rw[<-z2];rfl
    have a7:=z4 φ (w.drew.alloc (.cells (Builtin.zeroCells gI.cells a++Builtin.zeroCells gI.cells (grownCap w a 0 i.elem-a)) i.elem));have aY:=y4 φ (w.drew.alloc (.cells (Builtin.zeroCells gI.cells a++Builtin.zeroCells gI.cells (grownCap w a 0 i.elem-a)) i.elem));rw[<-zT]at a7 aY;have de:=a7.len (fun x c=>bh.len t x c);have cP:=aY.len (fun x c=>bh.len t x c);simp only[List.length_replicate,Array.length_toList]at de cP;have:=sz (φ:=φ) (ι:=ι) (n:=n) h (e:=i.elem) (t:=t) (xs:=List.replicate a t.zero) (c:=grownCap w a 0 i.elem) (b:=w.heap.size) hC (heap_alloc_new w.drew _) (Nat.le_refl _) (by simpa using qY)
     (grownCap_le_maxLen w _ _ _ (by simp only[maxLen];omega)) (by rw[Array.size_append,de,cP,<-Nat.add_mul];congr 1;omega) (tZ _ _)
     (Cells.of_chunks (by rw[Array.toList_append];exact cz.append _ _ _ _ a7 aY) _)
     (by
      rw[Array.toList_append,List.length_replicate,List.take_append_of_le_length (by rw[Array.length_toList,de];exact Nat.le_refl _),List.take_of_length_le (by rw[Array.length_toList,de];exact Nat.le_refl _)];exact a7) dt.1 (dt.2 n (Nat.le_refl _) (by omega))
    simpa using this
   ·simp[HM.go]at e
  ·simp[HM.go]at e
 ·simp[HM.go]at e
theorem alY [Env] (tab:cA P cx) {T T2 ty:TypeId} {s x:ae} (e:(LO cx T T2 s x).go H n=some (r,aC,aJ)) (h:bR φ ι w H) {vs cj:Value} (ar:s.rel φ ι w vs) (aw:x.rel φ ι w cj) (dt:hG H n aJ):
  ch φ ι w H n r aC aJ ((Builtin.append_ #[T,T2] ty #[vs,cj]).run P w):=by
 unfold LO at e;split at e
 ·rename_i u xs c k m;have q:=go_bif e;clear e;obtain ⟨Nz,e⟩:=q;obtain ⟨i2,e0,Ar⟩:=gk Nz;split at e
  ·rename_i i ab;split at e
   ·rename_i t aU;obtain ⟨ax,fj⟩:=jj tab ab aU;have n5:P.underlying T2=some (.int k):=by
     have:=(tab T2 i2 e0).desc;unfold jK at this;rw[Ar]at this;exact this
    obtain ⟨fX,ko,n3,dh,c7⟩:=HM.go_bind_some e;clear e;obtain ⟨aB,rfl,rfl⟩:=go_opt dh;obtain ⟨rfl,rfl⟩:=adc aB;have q:=go_chk2 c7;clear c7;obtain ⟨ag,e⟩:=q;simp only[bB,dd]at ag;obtain ⟨⟨ep,Fo⟩,dB⟩:=ag;simp only[HM.go,bt,cw]at e;obtain ⟨rfl,rfl,rfl⟩:=e;obtain ⟨A,sl,rfl,nk⟩:=ar;obtain ⟨hU,cr,aY,fB,ao,hle,bC⟩:=nk;injection fB with fB _
    obtain ⟨rfl,rfl,rfl⟩:=hj fB;obtain rfl:=cf.int.1 aw;have ep:(0:Int)<(m:Int):=ep;have dB:((fX.length:Int)+(m:Int))*(i.bytes:Int)<=(bm:Int):=dB;have Fo:(c:Int)<(fX.length:Int)+(m:Int):=Fo;obtain ⟨a,rfl⟩:=Int.eq_ofNat_of_zero_le (show (0:Int)<=(m:Int) by omega);rw[bQ];obtain ⟨z,aH,z2,z3,z4⟩:=rA fj a;have awl:=fj;obtain ⟨cW,kY,g1,g2,g3,g4,g5,g6,g7,g8⟩:=fj;have td:z=kY:=by
     have ai:=aH w;simp[zeroValue,typeInfo,g1,g5]at ai;exact ai.symm
    subst td;have s9:bm=140737488355328:=rfl;have pe:(fX.length+a)*i.bytes<=140737488355328:=by
     have q:(((fX.length+a)*i.bytes:Nat):Int)<=((bm:Nat):Int):=by rw[Int.natCast_mul,Int.natCast_add];exact dB
     exact s9▸Int.ofNat_le.1 q
    have NF:0<a:=by omega
    have aR:fX.length+a<=(fX.length+a)*i.bytes:=Nat.le_mul_of_pos_right _ g4;have fg:a*i.bytes<=(fX.length+a)*i.bytes:=Nat.mul_le_mul_right _ (by omega);have pf:c<sl+a:=by omega
    obtain ⟨olds,hold,qV⟩: ∃olds,(Builtin.firstCells u.size sl (.slice A sl c)).run P w.drew=.ok olds.toArray w.drew/\cz (bh φ w u) fX olds:=by
     rcases bC with bC |⟨b,o,B7,rfl,fi,av⟩
     ·subst bC;have:fX=[]:=List.eq_nil_of_length_eq_zero ao;subst this;refine ⟨[],?_,rfl⟩;cases A with
      |none=>exact run_firstCells_none _ _ _ _ _
      |some a=>simpa using run_firstCells_some (P:=P) w.drew u.size 0 a 0 c [] (by simp) (by simp)
     ·have jQ:=av.len (fun x c=>bh.len u x c);exact ⟨B7,run_firstCells_some (P:=P) w.drew u.size sl _ sl c B7 (by rw[jQ,ao]) (fun j v ay=>by rw[ga];exact (fi j v ay).2),av⟩
    have qX:=growslice_fits (bytes:=i.bytes) pf (by rw[<-ao];omega);have dU:=Lib.run_append_grow_zeros (P:=P) w T T2 ty i.elem cW z k k ax n5 g1 g5 A sl c olds (by rw[g2];exact hold) a NF (by rw[g2];exact g6) pf (by rw[<-ao];omega) (by rw[g3];omega) (by rw[g3];omega);rw[dU];have qY:=grownCap_ge w (sl+a) c i.elem;obtain ⟨gI,hx,jw,y3,y4⟩:=rA (P:=P) (t:=u) (bytes:=i.bytes) ⟨cW,z,g1,g2,g3,g4,g5,g6,g7,g8⟩ (grownCap w (sl+a) c i.elem-(sl+a));have vY:gI=z:=by
     have ai:=hx w;simp[zeroValue,typeInfo,g1,g5]at ai;exact ai.symm
    subst vY;have hC:=gJ.drew_alloc w (.cells (olds.toArray++Builtin.zeroCells gI.cells a++Builtin.zeroCells gI.cells (grownCap w (sl+a) c i.elem-(sl+a))) i.elem);have zT: ∀q,(Builtin.zeroCells gI.cells q).toList=((Array.range (q*u.size)).map fun i=>gI.cells[i%gI.cells.size]!).toList:=fun q=>by rw[<-z2];rfl
    have a7:=z4 φ (w.drew.alloc (.cells (olds.toArray++Builtin.zeroCells gI.cells a++Builtin.zeroCells gI.cells (grownCap w (sl+a) c i.elem-(sl+a))) i.elem));have aY:=y4 φ (w.drew.alloc (.cells (olds.toArray++Builtin.zeroCells gI.cells a++Builtin.zeroCells gI.cells (grownCap w (sl+a) c i.elem-(sl+a))) i.elem));rw[<-zT]at a7 aY;have Ez:=qV.imp fun x aaY=>bh.mono (φ':=φ) (w':=w.drew.alloc (.cells (olds.toArray++Builtin.zeroCells gI.cells a++Builtin.zeroCells gI.cells (grownCap w (sl+a) c i.elem-(sl+a))) i.elem)) (fun _ _ h=>h) (fun b k av=>hC.cell (jt h av)) u x aaY
    have adU:=Ez.len (fun x c=>bh.len u x c);have de:=a7.len (fun x c=>bh.len u x c);have cP:=aY.len (fun x c=>bh.len u x c);simp only[List.length_replicate,Array.length_toList]at de cP;have hlen:(fX++List.replicate a u.zero).length=sl+a:=by simp[ao]
    have aaX:=cz.append _ _ _ _ Ez a7;have eY:(olds.toArray++Builtin.zeroCells gI.cells a++Builtin.zeroCells gI.cells (grownCap w (sl+a) c i.elem-(sl+a))).toList=(olds++(Builtin.zeroCells gI.cells a).toList)++(Builtin.zeroCells gI.cells (grownCap w (sl+a) c i.elem-(sl+a))).toList:=by simp
    have adV:(olds++(Builtin.zeroCells gI.cells a).toList).length=(fX++List.replicate a u.zero).length*u.size:=by
     rw[hlen,List.length_append,adU,ao,Nat.add_mul];congr 1
    have:=sz (φ:=φ) (ι:=ι) (n:=n3) h (e:=i.elem) (t:=u) (xs:=fX++List.replicate a u.zero) (c:=grownCap w (sl+a) c i.elem) (b:=w.heap.size) hC (heap_alloc_new w.drew _) (Nat.le_refl _) (by rw[hlen];exact qY)
     (grownCap_le_maxLen w _ _ _ (by simp only[maxLen];omega)) (by
      simp only[Array.size_append,List.size_toArray];rw[adU,de,cP,ao,<-Nat.add_mul,<-Nat.add_mul];congr 1;omega) (tZ _ _)
     (Cells.of_chunks (by rw[eY];exact cz.append _ _ _ _ aaX aY) _)
     (by
      rw[eY,List.take_append_of_le_length (by rw[adV];exact Nat.le_refl _),List.take_of_length_le (by rw[adV];exact Nat.le_refl _)];exact aaX) dt.1 (dt.2 n3 (Nat.le_refl _) (by omega))
    rwa [hlen]at this
   ·simp[HM.go]at e
  ·simp[HM.go]at e
 ·exact alg tab e h ar aw dt
theorem akm [Env] (tab:cA P cx) {T T2 ty:TypeId} {s x:ae} (e:(Ld cx T T2 s x).go H n=some (r,aC,aJ)) (h:bR φ ι w H) {vs cj:Value} (ar:s.rel φ ι w vs) (aw:x.rel φ ι w cj)
  (ls: ∀i∈s.ids,(aF H i).live=true) (eK: ∀i∈x.ids,(aF H i).live=true) (dt:hG H n aJ):
  ch φ ι w H n r aC aJ ((Builtin.append_ #[T,T2] ty #[vs,cj]).run P w):=by
 unfold Ld at e;cases ha:o1 cx T2
 ·rw[ha,aM]at e;exact alY tab e h ar aw dt
 rw[ha,az]at e;split at e
 ·rename_i i ab;split at e
  ·rename_i t aU;obtain ⟨ax,fj⟩:=jj tab ab aU;have dH:Em P T T2 i.elem t i.bytes:=⟨ax,aaj tab ha,fj⟩;obtain ⟨d,H1,cC,ai,aq⟩:=HM.go_bind_some e;clear e;obtain ⟨rfl,cT,g1,zY⟩:=CX ai h aw eK;obtain ⟨aT,eg,dk,bc,bz⟩:=HM.go_bind_some aq;clear aq;obtain ⟨zV,rfl,rfl⟩:=go_opt bc;obtain ⟨news,src⟩:=aqm (P:=P) x zV zY;have ke:=ae.rel_step g1.step g1.keep ls ar;have awJ: ∀i∈s.ids,(aF eg i).live=true:=fun i ab=>by rw[g1.live];exact ls i ab
   have iT:=dt.ghost g1;refine ch.after g1 ?_;split at bz
   ·rename_i b6 u;have q:=go_chk2 bz;clear bz;obtain ⟨ag,bz⟩:=q;have ag:aT.length*i.bytes<=bm:=by simpa using ag
    simp only[HM.go,bt,cw]at bz;obtain ⟨rfl,rfl,rfl⟩:=bz;simp only[ae.rel]at ke;subst ke;have gE:=iT.2 dk (Nat.le_refl _) (by omega);by_cases bf:aT.length=0
    ·have Ay:aT=[]:=List.eq_nil_of_length_eq_zero bf;subst Ay;have s5:news=[]:=List.eq_nil_of_length_eq_zero (by simpa using src.chunks.len (fun x c=>bh.len t x c));subst s5;have dU:=AY (ty:=ty) dH (A:=none) (m:=0) (c:=0) src (Nat.le_refl _) (w':=w) (fun a _=>rfl) (fun _=>rfl);rw[dU];exact R1 g1.rel iT.1 gE
    ·obtain ⟨c',zs,au,aL,bF,cN,dU⟩:=P1 (ty:=ty) dH (A:=none) (m:=0) (c:=0) (olds:=[]) src (by omega) (run_firstCells_none _ _ _ _ _) (by simpa using ag);rw[dU];have hC:=gJ.drew_alloc w (.cells (([]:List Value).toArray++news.toArray++zs) i.elem);have gQ:=src.chunks.len (fun x c=>bh.len t x c);have sY:(([]:List Value).toArray++news.toArray++zs).toList=news++zs.toList:=by simp
     have:=sz (φ:=cT) (ι:=ι) (n:=dk) g1.rel (e:=i.elem) (t:=t) (xs:=aT) (c:=c') (b:=w.heap.size) hC (heap_alloc_new w.drew _) (Nat.le_refl _) (by omega) aL
      (by simp only[Array.size_append,List.size_toArray,List.length_nil,gQ,bF,Nat.zero_add];rw[<-Nat.add_mul];congr 1;omega) (tZ _ _)
      (by
        obtain ⟨us,kO⟩:=cN;exact Cells.of_chunks (by rw[sY];exact cz.append _ _ _ _ (src.chunks.imp fun x c=>bh.mono (fun _ _ h=>h) (fun b k av=>hC.cell (jt g1.rel av)) t x c) (kO _ _)) _)
      (by
        rw[sY,List.take_append_of_le_length (by rw[gQ];exact Nat.le_refl _),List.take_of_length_le (by rw[gQ];exact Nat.le_refl _)];exact src.chunks.imp fun x c=>bh.mono (fun _ _ h=>h) (fun b k av=>hC.cell (jt g1.rel av)) t x c) iT.1 gE
     simpa using this
   ·rename_i u o;simp only[HM.go]at bz;split at bz
    ·rename_i b6 hv xs fz an;obtain ⟨fX,ko,n3,dh,c7⟩:=HM.go_bind_some bz;clear bz;obtain ⟨aB,rfl,rfl⟩:=go_opt dh;obtain ⟨rfl,rfl⟩:=adc aB;have q:=go_bif c7;clear c7;obtain ⟨jN,c7⟩:=q;have jN:b6=i.elem:=by simpa using jN
     subst jN;have q:=go_chk2 c7;clear c7;obtain ⟨ag,c7⟩:=q;have ag:(fX.length+aT.length)*i.bytes<=bm:=by simpa using ag
     simp only[HM.go,bt,cw]at c7;obtain ⟨rfl,rfl,rfl⟩:=c7;obtain ⟨rfl,A,m,c,aX⟩:=ke;have bZ:=g1.rel.obj o;rw[an]at bZ;obtain ⟨hU,cr,aY,fB,lb,_⟩:=bZ;rw[aX]at fB;obtain ⟨rfl,rfl,rfl⟩:=hj fB;have:=YK (ty:=ty) g1.rel dH an aX (k:=m) (A':=A) (Nat.le_refl _) (fun _=>rfl) (fun _=>rfl) src (by rw[<-lb];exact ag) iT.1 (iT.2 n3 (Nat.le_refl _) (by omega));rw[aX]
     rwa [List.take_of_length_le (by omega)]at this
    ·simp[HM.go]at bz
   ·rename_i u o hi';cases acp:RY x o
    case true=>
     rw[acp,az]at bz;simp only[HM.go]at bz;split at bz
     ·rename_i b6 hv xs fz an;obtain ⟨fX,ko,n3,dh,c7⟩:=HM.go_bind_some bz;clear bz;obtain ⟨aB,rfl,rfl⟩:=go_opt dh;obtain ⟨rfl,rfl⟩:=adc aB;have q:=go_bif c7;clear c7;obtain ⟨jN,c7⟩:=q;simp only[bB,Bool.not_eq_true']at jN;obtain ⟨jN,rfl⟩:=jN;have jN:b6=i.elem:=by simpa using jN
      subst jN;have q:=go_chk2 c7;clear c7;obtain ⟨ag,c7⟩:=q;have ag:hi'+aT.length<=fX.length:=by simpa using ag
      simp only[HM.go,bt,cw]at c7;obtain ⟨rfl,rfl,rfl⟩:=c7;obtain ⟨A,m,c,A',aX,aa,ad,al,rfl,ec,cM⟩:=ke;have bZ:=g1.rel.obj o;rw[an]at bZ;obtain ⟨hU,cr,aY,fB,lb,_⟩:=bZ;rw[aX]at fB;obtain ⟨rfl,rfl,rfl⟩:=hj fB;by_cases fQ:c=0
      ·have bf:aT=[]:=List.eq_nil_of_length_eq_zero (by omega);have Aw:fX=[]:=List.eq_nil_of_length_eq_zero (by omega);have arY:hi'=0:=by omega
       subst bf arY;have s5:news=[]:=List.eq_nil_of_length_eq_zero (by simpa using src.chunks.len (fun x c=>bh.len hv x c));subst s5;have dU:=AY (ty:=ty) dH (A:=A') (m:=0) (c:=c-0) src (by simp) (w':=w) (fun a _=>rfl) (fun _=>rfl);rw[dU];have he:(aG.arr i.elem hv (fX.take 0++[]++fX.drop (0+([]:List hv.den).length)) false)=aF ko o:=by rw[an];simp
       rw[he,KN ko o (fo (by rw[an];rfl))];exact ch.pure (r:=.view hv o 0 (0+([]:List hv.den).length)) g1.rel (yq ⟨A,m,c,A',aX,by simp,by simp,al,by simp,fun h=>by simpa using ec h,cM⟩) (by
        intro j ay;have:j=o:=by simpa [ae.ids] using ay
        subst this;rw[an];rfl) rfl
      ·have Fl:A'=A:=by
        rw[ec fQ];obtain ⟨b,bk,rfl⟩:=cM fQ;simp[ga]
       obtain ⟨cV,a1,k2,b8,dD,gb,ho⟩:=LK (n:=n3) (k:=hi') (A':=A.map (·.add (hi'*hv.size))) g1.rel an aX src.chunks ag (fun _=>rfl);have dU:=AY (ty:=ty) dH (A:=A') (m:=hi') (c:=c-0) src (by omega) (w':=cV) (fun a aR=>a1 _ (by rw[<-Fl,aR];rfl)) (fun aR=>k2 (by rw[<-Fl,aR];rfl));have b6:hi'-0=hi':=Nat.sub_zero _;rw[b6,dU];refine ⟨_,cV,cT,ι,rfl,b8,dD,gb,ho,yq ⟨A,m,c,A',aX,Nat.zero_le _,by omega,al,by simp,fun h=>by simpa using ec h,cM⟩,fun j ay=> ?_⟩;have:j=o:=by simpa [ae.ids] using ay
       subst this;rw[fm _ j _ j (Nat.le_of_lt (fo (by rw[an];rfl))),if_pos rfl];rfl
     ·simp[HM.go]at bz
    rw[acp,aM]at bz;simp only[HM.go]at bz;split at bz
    ·rename_i b6 hv xs fz an;obtain ⟨fX,ko,n3,dh,c7⟩:=HM.go_bind_some bz;clear bz;obtain ⟨aB,rfl,rfl⟩:=go_opt dh;obtain ⟨rfl,rfl⟩:=adc aB;have q:=go_bif c7;clear c7;obtain ⟨jN,c7⟩:=q;simp only[bB,Bool.not_eq_true']at jN;obtain ⟨jN,rfl⟩:=jN;have jN:b6=i.elem:=by simpa using jN
     subst jN;have q:=go_chk2 c7;clear c7;obtain ⟨ag,c7⟩:=q;have ag:((fX.take hi').length+aT.length)*i.bytes<=bm:=by simpa using ag
     simp only[HM.go,bt,cw]at c7;obtain ⟨rfl,rfl,rfl⟩:=c7;obtain ⟨A,m,c,A',aX,aa,ad,al,rfl,ec,cM⟩:=ke;have bZ:=g1.rel.obj o;rw[an]at bZ;obtain ⟨hU,cr,aY,fB,lb,_⟩:=bZ;rw[aX]at fB;obtain ⟨rfl,rfl,rfl⟩:=hj fB;have ao:(fX.take hi').length=hi':=by simp;omega
     rw[ao]at ag;have:=YK (ty:=ty) g1.rel dH an aX (k:=hi') (A':=A') ad (fun h=>by cases h) (fun fQ=>by
      rw[ec fQ];obtain ⟨b,bk,rfl⟩:=cM fQ;simp[ga]) src ag iT.1 (iT.2 n3 (Nat.le_refl _) (by omega))
     simpa using this
    ·simp[HM.go]at bz
   ·rename_i u xs;obtain ⟨fX,ko,n3,dh,c7⟩:=HM.go_bind_some bz;clear bz;obtain ⟨aB,rfl,rfl⟩:=go_opt dh;obtain ⟨rfl,rfl⟩:=adc aB;have q:=go_chk2 c7;clear c7;obtain ⟨ag,c7⟩:=q;simp only[bB,dd]at ag;simp only[HM.go,bt,cw]at c7;obtain ⟨rfl,rfl,rfl⟩:=c7;obtain ⟨A,m,rfl,nk⟩:=ke;obtain ⟨hU,cr,aY,fB,ao,hle,bC⟩:=nk;injection fB with fB _
    obtain ⟨rfl,rfl,rfl⟩:=hj fB;obtain ⟨olds,hold,qV⟩: ∃olds,(Builtin.firstCells u.size m (.slice A m m)).run P w.drew=.ok olds.toArray w.drew/\cz (bh cT w u) fX olds:=by
     rcases bC with bC |⟨b,o,B7,rfl,fi,av⟩
     ·subst bC;have:fX=[]:=List.eq_nil_of_length_eq_zero ao;subst this;refine ⟨[],?_,rfl⟩;cases A with
      |none=>exact run_firstCells_none _ _ _ _ _
      |some a=>simpa using run_firstCells_some (P:=P) w.drew u.size 0 a 0 0 [] (by simp) (by simp)
     ·have jQ:=av.len (fun x c=>bh.len u x c);exact ⟨B7,run_firstCells_some (P:=P) w.drew u.size m _ m m B7 (by rw[jQ,ao]) (fun j v ay=>by rw[ga];exact (fi j v ay).2),av⟩
    obtain ⟨c',zs,au,aL,bF,cN,dU⟩:=P1 (ty:=ty) dH (A:=A) (m:=m) (c:=m) (olds:=olds) src (by omega) hold (by rw[<-ao];exact ag.2);rw[dU];have hC:=gJ.drew_alloc w (.cells (olds.toArray++news.toArray++zs) i.elem);have gQ:=src.chunks.len (fun x c=>bh.len u x c);have mI:=qV.len (fun x c=>bh.len u x c);have eY:=cz.append _ _ _ _ qV src.chunks;have hlen:(fX++aT).length=m+aT.length:=by simp[ao]
    have sY:(olds.toArray++news.toArray++zs).toList=(olds++news)++zs.toList:=by simp
    have acb:(olds++news).length=(fX++aT).length*u.size:=by simp[mI,gQ,Nat.add_mul]
    have:=sz (φ:=cT) (ι:=ι) (n:=n3) g1.rel (e:=i.elem) (t:=u) (xs:=fX++aT) (c:=c') (b:=w.heap.size) hC (heap_alloc_new w.drew _) (Nat.le_refl _) (by rw[hlen];exact au) aL
     (by simp only[Array.size_append,List.size_toArray,mI,gQ,bF,ao];rw[<-Nat.add_mul,<-Nat.add_mul];congr 1;omega) (tZ _ _)
     (by
       obtain ⟨us,kO⟩:=cN;exact Cells.of_chunks (by rw[sY];exact cz.append _ _ _ _ (eY.imp fun x c=>bh.mono (fun _ _ h=>h) (fun b k av=>hC.cell (jt g1.rel av)) u x c) (kO _ _)) _)
     (by
       rw[sY,List.take_append_of_le_length (by rw[acb];exact Nat.le_refl _),List.take_of_length_le (by rw[acb];exact Nat.le_refl _)];exact eY.imp fun x c=>bh.mono (fun _ _ h=>h) (fun b k av=>hC.cell (jt g1.rel av)) u x c) iT.1 (iT.2 n3 (Nat.le_refl _) (by omega))
    rwa [hlen]at this
   ·simp[HM.go]at bz
  ·simp[HM.go]at e
 ·simp[HM.go]at e
end
open Go.RowKit
section
variable {P:Program} {cx:bS} {φ φ':bw} {ι ι':Nat->Value} {w w':World} {H:List aG} {n:Nat} {r:ae} {aC:List aG} {aJ:Nat}
structure En (P:Program) (φ:bw) (w:World) (t:aD) (aT:List t.den) (x:Value) (q:Nat) (news:List Value):Prop where
 len: ∀w,(Builtin.lenOf x).run P w=.ok aT.length w
 chunks:cz (bh φ w t) (aT.take q) news
 cells:(Builtin.firstCells t.size (Nat.min aT.length q) x).run P w=.ok news.toArray w
theorem m3.first {t:aD} {aT:List t.den} {v:Value} (h:m3 φ w t aT v) (q:Nat): ∃news,En P φ w t aT v q news:=by
 obtain ⟨A,c,news,rfl,aB,av,bC⟩:=h;have jm:=av.take (fun x c=>bh.len t x c) q;have gP:=jm.len (fun x c=>bh.len t x c);refine ⟨_,fun w=>by simp[Builtin.lenOf],jm,?_⟩;have N8:(aT.take q).length=Nat.min aT.length q:=by rw[List.length_take,Nat.min_comm]
 rw[N8]at gP;rcases bC with bC |⟨b,o,rfl,eZ⟩
 ·have:aT=[]:=List.eq_nil_of_length_eq_zero bC;subst this;simp only[cz]at av;subst av;cases A with
  |none=>simp[Builtin.firstCells]
  |some a=>exact run_firstCells_some (P:=P) w t.size _ a 0 c _ gP (by simp)
 ·exact run_firstCells_some (P:=P) w t.size _ _ aT.length c _ gP (fun j u ay=>by
   rw[ga];refine eZ j u ?_;have bb:j<(news.take (q*t.size)).length:=(List.getElem?_eq_some_iff.1 ay).1;rw[List.length_take]at bb
   rwa [List.getElem?_take_of_lt (by omega)]at ay)
theorem anu (s:List UInt8) (q:Nat):En P φ w (.int .u8) (iC s) (.string ⟨⟨s⟩⟩) q ((s.take q).map fun b=>.int .u8 (b.toNat:Int)):=by
 have di:(⟨⟨s⟩⟩:ByteArray).size=s.length:=rfl;refine ⟨fun w=>by simp[Builtin.lenOf,iC,di],?_,?_⟩
 ·have e:(iC s).take q=iC (s.take q):=by simp[iC,List.map_take]
  rw[e];exact (Jx (P:=P) (φ:=φ) (w:=w) (s.take q)).chunks
 ·unfold Builtin.firstCells;simp only[Sem.run_pure];congr 1;apply Array.ext';have ao:(iC s).length=s.length:=by simp[iC]
  rw[ao];simp only[ByteArray.data_extract,Array.toList_map,Array.toList_extract,List.extract_eq_take_drop,List.drop_zero,Nat.sub_zero];congr 1;rw[show s.length.min q=min s.length q from rfl,Nat.min_def];split
  ·rw[List.take_of_length_le (Nat.le_refl _),List.take_of_length_le (by omega)]
  ·rfl
theorem ZC {d:dM} {cj:Value} {t:aD} {aT:List t.den} (x:ae) (q:Nat) (ax:d.t.cast? (.list t) d.x=some aT) (h:(∃s,cj=.string ⟨⟨s⟩⟩/\d=⟨.list (.int .u8),iC s⟩/\x.isStr=true)\/ ∀t xs,d=⟨.list t,xs⟩->m3 φ w t xs cj):
  ∃news,En P φ w t aT cj q news:=by
 obtain ⟨u,z⟩:=d;obtain ⟨e,rfl⟩:=pP ax;simp only at e;subst e;rcases h with ⟨s,rfl,h,_⟩|h
 ·injection h with aa ad
  injection aa with aa
  subst aa;obtain rfl:=eq_of_heq ad;exact ⟨_,anu s q⟩
 ·exact (h t _ rfl).first q
theorem ZY [Env] {T T2 ty e:TypeId} {t:aD} {bytes:Nat} (ax:P.underlying T=some (.slice e)) (fj:qK P e t bytes) (h:bR φ ι w H) {o:Nat} {b6:TypeId} {xs:List t.den} (an:aF H o=.arr b6 t xs false) {A:Option Addr} {m c:Nat} (aX:ι o=.slice A m c) {lo hi':Nat} (aa:lo<=hi') (ad:hi'<=xs.length)
  {A':Option Addr} {c':Nat} (ec:hi'-lo≠0->A'=A.map (·.add (lo*t.size))) {aT:List t.den} {cj:Value} {news:List Value} (aK:En P φ w t aT cj (hi'-lo) news):
  ch φ ι w H n (.dat (.int .i64) ((aT.take (hi'-lo)).length:Int)) (bM H o (.arr b6 t (xs.take lo++aT.take (hi'-lo)++xs.drop (lo+(aT.take (hi'-lo)).length)) false)) n ((Builtin.copy_ #[T,T2] ty #[.slice A' (hi'-lo) c',cj]).run P w):=by
 have dH:(aT.take (hi'-lo)).length=Nat.min aT.length (hi'-lo):=by rw[List.length_take,Nat.min_comm]
 have hle:(aT.take (hi'-lo)).length<=hi'-lo:=by rw[List.length_take];omega
 obtain ⟨cV,a1,k2,b8,dD,gb,ho⟩:=LK (P:=P) (n:=n) (k:=lo) (A':=A') h an aX aK.chunks (by omega) (fun cp=>ec (by omega));obtain ⟨cW,z,g1,g2,g3,g4,g5,g6,g7,g8⟩:=fj;refine ⟨_,cV,φ,ι,?_,b8,dD,gb,ho,gC (cf.int.2 rfl),by simp[ae.ids]⟩;unfold Builtin.copy_;simp only[List.getElem?_toArray,List.getElem?_cons_zero,List.getElem?_cons_succ,Sem.run_bind,run_underlying ax,Result.andThen_ok,Sem.run_pure,aK.len];have di: ∀w,(sizeOf e).run P w=.ok t.size w:=fun w=>by simp[sizeOf,typeInfo,g1,g2]
 rw[di];simp only[Result.andThen_ok];rw[aK.cells];simp only[Result.andThen_ok];rw[dH];cases A' with
 |none=>simp[k2 rfl,goInt]
 |some a=>simp[a1 a rfl,goInt]
theorem al0 [Env] (tab:cA P cx) {T T2 ty:TypeId} {d x:ae} (e:(LW cx T d x).go H n=some (r,aC,aJ)) (h:bR φ ι w H) {v cj:Value} (ax:d.rel φ ι w v) (aw:x.rel φ ι w cj)
  (ls: ∀i∈d.ids,(aF H i).live=true) (eK: ∀i∈x.ids,(aF H i).live=true):
  ch φ ι w H n r aC aJ ((Builtin.copy_ #[T,T2] ty #[v,cj]).run P w):=by
 unfold LW at e;split at e
 ·rename_i t o;have q:=go_bif e;clear e;obtain ⟨b4,e⟩:=q;obtain ⟨i,ab,aU⟩:=gk b4;obtain ⟨nn,fj⟩:=jj tab ab aU;obtain ⟨aqO,H1,cC,ai,aq⟩:=HM.go_bind_some e;clear e;obtain ⟨rfl,cT,g1,zY⟩:=CX ai h aw eK;refine ch.after g1 ?_;have kI:=ae.rel_step g1.step g1.keep ls ax;simp only[HM.go]at aq;split at aq
  ·rename_i b6 u xs fz an;obtain ⟨aT,eg,dk,bc,bz⟩:=HM.go_bind_some aq;clear aq;obtain ⟨zV,rfl,rfl⟩:=go_opt bc;have q:=go_bif bz;clear bz;obtain ⟨ag,bz⟩:=q;simp only[bB,dd,Bool.not_eq_true']at ag;obtain ⟨rfl,rfl⟩:=ag;simp only[HM.go,bt,cw]at bz;obtain ⟨rfl,rfl,rfl⟩:=bz;obtain ⟨rfl,A,m,c,aX⟩:=kI;have bZ:=g1.rel.obj o;rw[an]at bZ;obtain ⟨hU,cr,aY,bj,bU,da,c8,bC⟩:=bZ;rw[aX]at bj;obtain ⟨rfl,rfl,rfl⟩:=hj bj;subst bU;obtain ⟨news,aK⟩:=ZC (P:=P) x xs.length zV zY;have:=ZY (n:=dk) (ty:=ty) (T2:=T2) nn fj g1.rel an aX (lo:=0) (hi':=xs.length) (A':=A) (c':=c) (Nat.zero_le _) (Nat.le_refl _) (fun cp=>by
    rcases bC with bC |⟨b,pre,cur,fr,rfl,_⟩
    ·omega
    ·simp[ga]) aK
   rw[aX];simpa using this
  ·simp[HM.go]at aq
 ·rename_i t o lo hi';have q:=go_bif e;clear e;obtain ⟨b4,e⟩:=q;obtain ⟨i,ab,aU⟩:=gk b4;obtain ⟨nn,fj⟩:=jj tab ab aU;obtain ⟨aqO,H1,cC,ai,aq⟩:=HM.go_bind_some e;clear e;obtain ⟨rfl,cT,g1,zY⟩:=CX ai h aw eK;refine ch.after g1 ?_;have kI:=ae.rel_step g1.step g1.keep ls ax;simp only[HM.go]at aq;split at aq
  ·rename_i b6 u xs fz an;obtain ⟨aT,eg,dk,bc,bz⟩:=HM.go_bind_some aq;clear aq;obtain ⟨zV,rfl,rfl⟩:=go_opt bc;have q:=go_bif bz;clear bz;obtain ⟨ag,bz⟩:=q;simp only[bB,dd,Bool.not_eq_true']at ag;obtain ⟨rfl,rfl⟩:=ag;simp only[HM.go,bt,cw]at bz;obtain ⟨rfl,rfl,rfl⟩:=bz;obtain ⟨A,m,c,A',aX,aa,ad,al,rfl,ec,cM⟩:=kI;have bZ:=g1.rel.obj o;rw[an]at bZ;obtain ⟨hU,cr,aY,bj,bU,da,c8,bC⟩:=bZ;rw[aX]at bj;obtain ⟨rfl,rfl,rfl⟩:=hj bj;obtain ⟨news,aK⟩:=ZC (P:=P) x (hi'-lo) zV zY;exact ZY (n:=dk) (ty:=ty) (T2:=T2) nn fj g1.rel an aX aa (by omega) (fun cp=>ec (by omega)) aK
  ·simp[HM.go]at aq
 ·simp[HM.go]at e
end
open Go.RowKit
theorem RV {α:Type} (L vs:List α) (a off k s N:Nat) (aa:off+k<=s) (ad:a+s<=N) (al:N<=L.length) (aX:vs.length=k):
  (L.take (a+off)++vs++L.drop (a+off+k)).take N=(L.take N).take a++(((((L.take N).drop a).take s).take off)++vs++((((L.take N).drop a).take s).drop (off+k)))++(L.take N).drop (a+s):=by
 apply List.ext_getElem?;intro j;simp only[List.getElem?_append,List.getElem?_take,List.getElem?_drop,List.length_append,List.length_take,List.length_drop]
 grind
section
variable {P:Program} {cx:bS} {φ φ':bw} {ι ι':Nat->Value} {w w':World} {H:List aG} {n:Nat} {r:ae} {aC:List aG} {aJ:Nat}
theorem Ko {d:dM} {vs:List Value} (ax:bh φ w d.t d.x vs): ∀(t:aD) (p:List Nat) (x y:t.den) (cs:List Value),t.setAt x p d=some y->bh φ w t x cs->t.at_ p=some d.t/\bh φ w t y (cs.take (t.offAt p)++vs++cs.drop (t.offAt p+d.t.size))
 |t,[],x,y,cs,ar,aB=>by
  have ta:d.t.cast? t d.x=some y:=by cases t<;>exact ar
  obtain ⟨e,rfl⟩:=pP ta;obtain ⟨u,z⟩:=d;simp only at e;subst e;refine ⟨rfl,?_⟩;simp only[aD.offAt,List.take_zero,List.nil_append,Nat.zero_add];rw[List.drop_of_length_le (by rw[aB.len];exact Nat.le_refl _),List.append_nil];exact ax
 | .pair a b,0::p,x,y,cs,ar,aB=>by
  obtain ⟨a7,aY,rfl,aa,ad⟩:=aB;simp only[aD.setAt]at ar;obtain ⟨z,bA,rfl⟩:=Option.map_eq_some_iff.1 ar;obtain ⟨a1,k2⟩:=Ko ax a p x.1 z a7 bA aa;have hle:=qk a1;have ao:=aa.len;refine ⟨by simp[aD.at_,aD.nth,a1],_,aY,?_,k2,ad⟩;have ai:(aD.pair a b).offAt (0::p)=a.offAt p:=by simp[aD.offAt,aD.offs,aD.nth]
  rw[ai,List.take_append_of_le_length (by omega),List.drop_append_of_le_length (by omega)];simp
 | .pair a b,(i+1)::p,x,y,cs,ar,aB=>by
  obtain ⟨a7,aY,rfl,aa,ad⟩:=aB;simp only[aD.setAt]at ar;obtain ⟨z,bA,rfl⟩:=Option.map_eq_some_iff.1 ar;obtain ⟨a1,k2⟩:=Ko ax b (i::p) x.2 z aY bA ad;have ao:=aa.len;refine ⟨by simpa [aD.at_,aD.nth] using a1,a7,_,?_,aa,k2⟩;have ai:(aD.pair a b).offAt ((i+1)::p)=a7.length+b.offAt (i::p):=by simp[aD.offAt,aD.offs,aD.nth,ao,Nat.add_assoc]
  rw[ai,List.take_length_add_append,Nat.add_assoc,<-List.drop_drop,List.drop_left];simp
 | .bool,_::_,x,y,cs,ar,aB=>by simp[aD.setAt]at ar
 | .int _,_::_,x,y,cs,ar,aB=>by simp[aD.setAt]at ar
 | .str,_::_,x,y,cs,ar,aB=>by simp[aD.setAt]at ar
 | .opq,_::_,x,y,cs,ar,aB=>by simp[aD.setAt]at ar
 | .unit,_::_,x,y,cs,ar,aB=>by simp[aD.setAt]at ar
 | .list _,_::_,x,y,cs,ar,aB=>by simp[aD.setAt]at ar
theorem Zi: ∀(u:aD) (z:u.den) (cs:List Value),u.chain=true->bh φ w u z cs->
  ae.relL φ ι w ((u.parts z).map fun d=>ae.dat d.t d.x) cs/\ae.fitsL ((u.parts z).map fun d=>ae.dat d.t d.x) u=true/\ae.idsL ((u.parts z).map fun d=>ae.dat d.t d.x)=[]
 | .unit,z,cs,_,h=>⟨h,by simp[aD.parts,ae.fitsL],rfl⟩
 | .pair a b,z,cs,aB,⟨a7,aY,e,aa,ad⟩=>by
  obtain ⟨a1,k2,b8⟩:=Zi b z.2 aY aB ad;obtain ⟨de,cP⟩:=cf.of aa;refine ⟨⟨_,aY,by rw[cP];exact e,gC de,a1⟩,?_,?_⟩
  ·simp only[aD.parts,List.map_cons,ae.fitsL,ae.fits,k2];simp
  ·simp only[aD.parts,List.map_cons,ae.idsL,ae.ids,b8];rfl
 | .bool,_,_,h,_=>by simp[aD.chain]at h
 | .int _,_,_,h,_=>by simp[aD.chain]at h
 | .str,_,_,h,_=>by simp[aD.chain]at h
 | .opq,_,_,h,_=>by simp[aD.chain]at h
 | .list _,_,_,h,_=>by simp[aD.chain]at h
theorem apR {u:aD} (h:u.chain=true):u.isAgg=true:=by cases u<;>first |rfl |(simp[aD.chain]at h)
theorem ao3 {x:ae} {l:List ae} {t:aD} {v:Value} (aw:x.rel φ ι w v) (aK:x.fits t=true) (an:x.open_=some l): ∃cs,v=.agg cs/\ae.relL φ ι w l cs.toList/\ae.fitsL l t=true/\ ∀i∈ae.idsL l,i∈x.ids:=by
 unfold ae.open_ at an;split at an
 ·rename_i m;injection an with an
  subst an;obtain ⟨cs,rfl,h⟩:=aw;exact ⟨cs,rfl,h,by simpa [ae.fits] using aK,by simp[ae.ids]⟩
 ·rename_i u z;have e:u=t:=by simpa [ae.fits] using aK
  subst e;by_cases aR:u.chain=true
  ·simp only[aR,az,bt]at an;subst an;obtain ⟨cs,rfl⟩:=sx (aw.2.trans (apR aR));obtain ⟨a1,k2,b8⟩:=Zi (ι:=ι) u z cs.toList aR aw.1;exact ⟨cs,rfl,a1,k2,by rw[b8];simp⟩
  ·simp[aR]at an
 ·cases an
theorem aac: ∀(l:List ae) (t:aD) (cs:List Value) (i:Nat) (s:ae),ae.relL φ ι w l cs->ae.fitsL l t=true->l[i]? =some s->
  ∃u vs,t.nth i=some u/\s.rel φ ι w vs/\s.fits u=true/\vs.cells.toList=(cs.drop (t.offs i)).take u.size/\ ∀j∈s.ids,j∈ae.idsL l
 |[],_,_,_,_,_,_,h=>by simp at h
 |a::l,t,cs,i,s,⟨v,aY,e,aa,ad⟩,aK,ab=>by
  subst e;cases t with
  |pair p q=>
   simp only[ae.fitsL,bB]at aK;obtain ⟨g1,g2⟩:=ae.rel_fits a p v aa aK.1;cases i with
   |zero=>
    simp only[List.getElem?_cons_zero,bt]at ab;subst ab;refine ⟨p,v,rfl,aa,aK.1,?_,fun j ay=>by simp[ae.idsL,ay]⟩;simp only[aD.offs,List.drop_zero];rw[<-g1,show v.cells.size=v.cells.toList.length by simp,List.take_left]
   |succ i=>
    obtain ⟨u,vs,a1,k2,b8,dD,ho⟩:=aac l q aY i s ad aK.2 (by simpa using ab);refine ⟨u,vs,a1,k2,b8,?_,fun j ay=>by simp[ae.idsL,ho j ay]⟩;simp only[aD.offs];rw[<-g1,show v.cells.size=v.cells.toList.length by simp,<-List.drop_drop,List.drop_left];exact dD
  |_=>simp[ae.fitsL]at aK
theorem WU {y:ae} {fK:Value} (bf:y.rel φ ι w fK): ∀(p:List Nat) (t u:aD) (x oG:ae) (v:Value),x.rel φ ι w v->x.fits t=true->ae.setPath p x y=some oG->t.at_ p=some u->y.fits u=true->
  ∃j0,oG.rel φ ι w j0/\oG.fits t=true/\j0.cells.toList=v.cells.toList.take (t.offAt p)++fK.cells.toList++v.cells.toList.drop (t.offAt p+u.size)/\ ∀i∈oG.ids,i∈x.ids\/i∈y.ids
 |[],t,u,x,oG,v,aw,aK,ar,aU,hu=>by
  simp only[ae.setPath,bt]at ar;simp only[aD.at_,bt]at aU;subst ar aU;have ao:=(ae.rel_fits x t v aw aK).1;refine ⟨fK,bf,hu,?_,fun i ab=>.inr ab⟩;simp only[aD.offAt,List.take_zero,List.nil_append,Nat.zero_add];rw[List.drop_of_length_le (by rw[Array.length_toList,ao];exact Nat.le_refl _),List.append_nil]
 |i::p,t,u,x,oG,v,aw,aK,ar,aU,hu=>by
  simp only[ae.setPath]at ar;split at ar
  ·rename_i l an;split at ar
   ·rename_i s asf;split at ar
    ·rename_i gg ta;injection ar with ar
     subst ar;obtain ⟨cs,rfl,mL,ln,abW⟩:=ao3 aw aK an;obtain ⟨e,vs,a1,k2,b8,dD,gb⟩:=aac l t cs.toList i s mL ln asf;simp only[aD.at_,a1]at aU;obtain ⟨j0,cZ,cr,ey,ki⟩:=WU bf p e u s gg vs k2 b8 ta aU hu;obtain ⟨bj,bU⟩:=Ly l t cs.toList i e gg j0 mL ln a1 cZ cr;have hle:=qk aU;have N3:=DS a1;have iy:cs.toList.length=t.size:=(ae.relL_fits l t _ mL ln).1;have Az:fK.cells.toList.length=u.size:=by rw[<-(ae.rel_fits y u fK bf hu).1];simp
     refine ⟨.agg (cs.toList.take (t.offs i)++j0.cells.toList++cs.toList.drop (t.offs i+e.size)).toArray,Ed ⟨_,rfl,by simpa using bj⟩,by simpa [ae.fits] using bU,?_,?_⟩
     ·have ar:=RV cs.toList fK.cells.toList (t.offs i) (e.offAt p) u.size e.size t.size hle N3 (by rw[iy];exact Nat.le_refl _) Az;have Oz:cs.toList.take t.size=cs.toList:=List.take_of_length_le (by rw[iy];exact Nat.le_refl _);rw[Oz]at ar;have hlen:(cs.toList.take (t.offs i+e.offAt p)++fK.cells.toList++cs.toList.drop (t.offs i+e.offAt p+u.size)).length=t.size:=by
       simp only[List.length_append,List.length_take,List.length_drop,iy,Az];omega
      rw[List.take_of_length_le (by rw[hlen];exact Nat.le_refl _)]at ar;show cs.toList.take (t.offs i)++j0.cells.toList++cs.toList.drop (t.offs i+e.size)=cs.toList.take (t.offAt (i::p))++fK.cells.toList++cs.toList.drop (t.offAt (i::p)+u.size);rw[ey,dD];simp only[aD.offAt,a1];rw[ar]
     ·intro j ay;have jO:j∈ae.idsL (l.set i gg):=by simpa [ae.ids] using ay
      rcases ZH l i gg j jO with aa |aa
      ·exact .inl (abW j aa)
      ·rcases ki j aa with ad |ad
       ·exact .inl (abW j (gb j ad))
       ·exact .inr ad
    ·cases ar
   ·cases ar
  ·cases ar
theorem WT (tab:cA P cx) {T:TypeId} {ti:e5} (ab:cx.ti T=some ti) {v:Value} (aX:v.cells.size=ti.ty.size) {b o:Nat} {e:TypeId} {fr:Nat×Nat} {cur:Array Value} (ag:w.heap[b]? =some (.cells cur e fr)) (aK:qO fr cur.size)
  (hle:o+ti.ty.size<=cur.size) (aa: ∀u∈v.cells.toList,u.oneCell'=true):
  ∃w',(storeVar T ⟨b,o,none⟩ v).run P w=.ok () w'/\w'.heap[b]? =some (.cells (cur.toList.take o++v.cells.toList++cur.toList.drop (o+ti.ty.size)).toArray e fr)/\hH w w' b:=by
 obtain ⟨w',ad,al,aE⟩:=GS P o v.cells.toList 0 cur w ag aK (by simp[aX];exact hle) aa;refine ⟨w',?_,?_,aE⟩
 ·unfold storeVar;simp only[Sem.run_bind,BW tab ab,Result.andThen_ok];rw[if_neg (by simp[aX])];exact ad
 ·rw[al];simp[aX]
theorem alH [Env] (tab:cA P cx) {T:TypeId} {a x:ae} (e:(LD cx T a x).go H n=some (r,aC,aJ)) (h:bR φ ι w H) {kX cj:Value} (aR:a.rel φ ι w kX) (aw:x.rel φ ι w cj)
  (h8: ∀i∈a.ids,(aF H i).live=true) (eK: ∀i∈x.ids,(aF H i).live=true):
  r=.undef/\ ∃w' φ' ι',(Instr.storeAt T kX cj).run P w=.ok () w'/\bR φ' ι' w' aC/\Step φ ι w H φ' ι' w' aC/\dA ι H ι' aC/\hy H n aC aJ:=by
 unfold LD at e;split at e
 ·rename_i o s i p;have q:=go_bif e;clear e;obtain ⟨b4,e⟩:=q;obtain ⟨ti,ew,fi⟩:=DP b4;simp only[HM.go]at e;split at e
  ·obtain ⟨d,H1,cC,ai,aq⟩:=HM.go_bind_some e;clear e;obtain ⟨rfl,cT,g1,aX⟩:=rq x φ cj H n d H1 cC ai h aw eK;have vC:=ae.rel_step g1.step g1.keep h8 aR;simp only[HM.go]at aq;split at aq
   ·rename_i b6 t xs fz an;have q:=go_bif aq;clear aq;obtain ⟨ag,aq⟩:=q;simp only[bB,dd,Bool.not_eq_true']at ag;obtain ⟨⟨rfl,rfl⟩,arj⟩:=ag;obtain ⟨awQ,FI,OA⟩:=gk arj;rw[ew]at FI;injection FI with FI
    subst FI;obtain ⟨y,eg,dk,bc,bz⟩:=HM.go_bind_some aq;clear aq;obtain ⟨jR,rfl,rfl⟩:=go_opt bc;simp only[HM.go,bt,cw]at bz;obtain ⟨rfl,rfl,rfl⟩:=bz;obtain ⟨b,av3,fr,bk,rfl,bj,bU,da,c8,fk,gv,lC,qZ⟩:=aaD g1.rel an vC;have bZ:=g1.rel.obj o;rw[an]at bZ;obtain ⟨m,c,pre,cur,abh,aH,z2,z3,z4,z5,jx,e3,mj,z0,z9,avO,avP,z12⟩:=bZ.blk_arr gv;rw[bj]at jx;injection jx with jx
    injection jx with jx _ avQ
    subst jx avQ;have jl:bk=pre.size:=by rw[<-qZ,aH];rfl
    subst jl;rw[agA]at lC;rw[Array.size_append]at fk;obtain ⟨a1,k2⟩:=Ko aX.1 s p _ y _ jR lC;have dK:cj.cells.toList.length=d.t.size:=aX.1.len;have hle:=qk a1;have iy:(i+1)*s.size=i*s.size+s.size:=by rw[Nat.add_mul,Nat.one_mul]
    obtain ⟨w',au,aL,bF⟩:=WT (w:=w) tab ew (v:=cj) (b:=b) (o:=pre.size+i*s.size+s.offAt p) (by rw[OA];simpa using dK) bj bU (by rw[OA,Array.size_append];omega) (aX.1.one _ _ _);have kd: ∀k,¬cT b k:=fun k av=>by have:=(avP k av).1;cases this
    have Fz:m*s.size<=cur.size:=by rw[e3];exact Nat.mul_le_mul_right _ z3
    have awo:(i+1)*s.size<=m*s.size:=Nat.mul_le_mul_right _ (by omega);rw[OA,Nat.add_assoc pre.size (i*s.size) (s.offAt p),KV]at aL;have di:((cur.toList.take (i*s.size+s.offAt p)++cj.cells.toList++cur.toList.drop (i*s.size+s.offAt p+d.t.size)).toArray).size=cur.size:=by
     simp only[List.size_toArray,List.length_append,List.length_take,List.length_drop,Array.length_toList,dK];omega
    have eZ: ∀bK k,cT bK k->w'.cell? ⟨bK,k,none⟩=w.cell? ⟨bK,k,none⟩:=fun bK k av=>bF.cell (fun e=>kd k (e▸av))
    have mJ: ∀v∈(cur.toList.take (i*s.size+s.offAt p)++cj.cells.toList++cur.toList.drop (i*s.size+s.offAt p+d.t.size)).toArray.toList,v.oneCell'=true:=by
     intro v ee;simp only[List.mem_append]at ee;rcases ee with (ee |ee)|ee
     ·exact z9 v (List.mem_of_mem_take ee)
     ·exact aX.1.one _ _ _ v ee
     ·exact z9 v (List.mem_of_mem_drop ee)
    have arB:cz (bh cT w' s) (xs.set i y) ((cur.toList.take (i*s.size+s.offAt p)++cj.cells.toList++cur.toList.drop (i*s.size+s.offAt p+d.t.size)).toArray.toList.take (m*s.size)):=by
     have tb:=RV cur.toList cj.cells.toList (i*s.size) (s.offAt p) d.t.size s.size (m*s.size) hle (by omega) (by simpa using Fz) dK;show cz _ _ (List.take _ (cur.toList.take (i*s.size+s.offAt p)++cj.cells.toList++cur.toList.drop (i*s.size+s.offAt p+d.t.size)));rw[tb];have o9:((cur.toList.take (m*s.size)).drop (i*s.size)).take s.size=(cur.toList.drop (i*s.size)).take s.size:=by
      rw[List.drop_take,List.take_take,Nat.min_eq_left (by omega)]
     rw[<-o9]at k2;exact (cz.set (fun x c=>bh.len s x c) xs (cur.toList.take (m*s.size)) avO i y _ c8 k2).imp fun x c=>bh.mono (fun _ _ h=>h) eZ s x c
    have pq:s=.int .u8\/ ∃zs:List s.den,cz (bh cT w' s) zs ((cur.toList.take (i*s.size+s.offAt p)++cj.cells.toList++cur.toList.drop (i*s.size+s.offAt p+d.t.size)).toArray.toList.drop (m*s.size)):=by
     have c7:((cur.toList.take (i*s.size+s.offAt p)++cj.cells.toList++cur.toList.drop (i*s.size+s.offAt p+d.t.size)).toArray).toList.drop (m*s.size)=cur.toList.drop (m*s.size):=by
      rw[<-dK];exact Kq (by rw[Array.length_toList];omega) (by omega)
     rw[c7];exact z9.rest.imp id fun ⟨zs,bA⟩=>⟨zs,bA.imp fun x c=>bh.mono (fun _ _ h=>h) eZ s x c⟩
    have cR:hW cT ι w' o (.arr b6 s (xs.set i y) false):=
     ⟨some ⟨b,pre.size,none⟩,m,c,aH,by simpa using z2,z3,z4,.inr ⟨b,pre,_,fr,rfl,aL,by rw[di,e3],by rw[di];exact mj,z0,⟨mJ,pq⟩,arB,fun k av=>absurd av (kd k),fun bA=>by cases bA⟩⟩
    obtain ⟨oC,oD,rM,By⟩:=yV (n:=dk) (ob:=.arr b6 s (xs.set i y) false) g1.rel (by rw[an];rfl) gv bF kd cR (by simp[aG.ids]) rfl;exact ⟨rfl,w',cT,ι,by simp[Instr.storeAt,Instr.sureAddr,au],oC,g1.step.trans oD,g1.keep.trans rM,(g1.nx _).trans By⟩
   ·simp[HM.go]at aq
  ·obtain ⟨y,H1,cC,ai,aq⟩:=HM.go_bind_some e;clear e;obtain ⟨rfl,cT,g1,aX,tv⟩:=Ki ai h aw eK;have vC:=ae.rel_step g1.step g1.keep h8 aR;simp only[HM.go]at aq;split at aq
   ·rename_i U t z an;have q:=go_bif aq;clear aq;obtain ⟨ag,aq⟩:=q;have ag:s=t:=by simpa using ag
    subst ag;rw[fi]at aq;simp only at aq;have q:=go_bif aq;clear aq;obtain ⟨qX,aq⟩:=q;obtain ⟨kY,eg,dk,bc,bz⟩:=HM.go_bind_some aq;clear aq;obtain ⟨jR,rfl,rfl⟩:=go_opt bc;simp only[HM.go,bt,cw]at bz;obtain ⟨rfl,rfl,rfl⟩:=bz;obtain ⟨b,cur,fr,u,rfl,bj,bU,da,c8,fk,rfl,lC,wX⟩:=aaE g1.rel an vC;obtain ⟨hv,cZ,cr,ey,ki⟩:=WU aX p s ti.ty z kY u fk lC jR fi qX;have Au:cj.cells.size=ti.ty.size:=(ae.rel_fits y ti.ty cj aX qX).1;have hle:=qk fi;obtain ⟨w',au,aL,bF⟩:=WT (w:=w) tab ew (v:=cj) (b:=b) (o:=s.offAt p) Au bj da (by omega) (ae.rel_one y ti.ty cj aX qX);have bZ:=g1.rel.obj o;rw[an]at bZ;have kd: ∀k,¬cT b k:=by
     obtain ⟨bK,_,_,_,hx,_,_,_,_,_,_,_,avM⟩:=bZ;rw[hx]at wX;have:bK=b:=by simpa [c6] using wX
     subst this;exact avM
    have eZ: ∀bK k,cT bK k->w'.cell? ⟨bK,k,none⟩=w.cell? ⟨bK,k,none⟩:=fun bK k av=>bF.cell (fun e=>kd k (e▸av))
    have vU:hv.cells=(u.cells.toList.take (s.offAt p)++cj.cells.toList++u.cells.toList.drop (s.offAt p+ti.ty.size)).toArray:=by
     apply Array.ext';rw[ey]
    have kO:=(ae.rel_fits kY s hv cZ cr).1;obtain ⟨mg,mW,rS,BQ⟩:=yV (n:=dk) (ob:=.box U s kY) g1.rel (by rw[an];rfl) wX bF kd
     ⟨b,hv.cells,fr,hv,by
      obtain ⟨bK,_,_,_,hx,_⟩:=bZ;rw[hx]at wX ⊢;have:bK=b:=by simpa [c6] using wX
      rw[this],by rw[aL,vU],kO,by rw[kO,<-bU];exact da,ae.rel_one kY s hv cZ cr,ae.rel_mono (fun _ _ h=>h) eZ kY hv (fun _ _=>rfl) cZ,rfl,cr,kd⟩
     (fun j ay=>by
      rcases ki j ay with aa |aa
      ·exact g1.rel.idsB o _ _ _ an j aa
      ·exact tv j aa) rfl
    exact ⟨rfl,w',cT,ι,by simp[Instr.storeAt,Instr.sureAddr,au],mg,g1.step.trans mW,g1.keep.trans rS,(g1.nx _).trans BQ⟩
   ·simp[HM.go]at aq
  ·simp[HM.go]at e
 ·simp[HM.go]at e
end
open Go.RowKit
section
variable {P:Program} {cx:bS} {φ φ':bw} {ι ι':Nat->Value} {w w':World} {H:List aG} {n:Nat} {r:ae} {aC:List aG} {aJ:Nat}
def oT (x:ae) (v:Value) (m:Nat):Prop:=if x.isStr then ∃s,v=.string ⟨⟨s⟩⟩/\s.length=m else ∃A c,v=.slice A m c
theorem anT [Env] {x:ae} {m:Nat} {v:Value} (e:(lenOf x).go H n=some (m,aC,aJ)) (h:bR φ ι w H) (aw:x.rel φ ι w v):aC=H/\aJ=n/\oT x v m:=by
 unfold lenOf at e;split at e
 ·obtain ⟨rfl,rfl,rfl⟩:=go_ret e;obtain ⟨A,m,c,rfl,ao,_⟩:=cf.list aw;exact ⟨rfl,rfl,by simp only[oT,ae.isStr,Bool.false_eq_true,if_false];exact ⟨A,c,by rw[ao]⟩⟩
 ·obtain ⟨rfl,rfl,rfl⟩:=go_ret e;obtain rfl:=cf.str.1 aw;exact ⟨rfl,rfl,by simp only[oT,ae.isStr,if_true];exact ⟨_,rfl,rfl⟩⟩
 ·obtain ⟨rfl,rfl,rfl⟩:=go_ret e;obtain ⟨A,m,rfl,aB⟩:=aw;obtain ⟨hU,cr,aY,ai,ao,_⟩:=aB;injection ai with ai _
  obtain ⟨rfl,rfl,rfl⟩:=hj ai;exact ⟨rfl,rfl,by simp only[oT,ae.isStr,Bool.false_eq_true,if_false];exact ⟨A,m,by rw[ao]⟩⟩
 ·obtain ⟨rfl,rfl,rfl⟩:=go_ret e;simp only[ae.rel]at aw;subst aw;exact ⟨rfl,rfl,by simp only[oT,ae.isStr,Bool.false_eq_true,if_false];exact ⟨_,_,rfl⟩⟩
 ·rename_i t o;simp only[HM.go]at e;split at e
  ·rename_i b6 u xs fz hm;obtain ⟨ji,an,rfl⟩:=mS hm;obtain ⟨rfl,rfl,rfl⟩:=go_ret e;obtain ⟨rfl,A,m,c,aX⟩:=aw;have bZ:=h.obj o;rw[an]at bZ;obtain ⟨hU,aJ,c',ai,aq,_⟩:=bZ;rw[aX]at ai;obtain ⟨rfl,rfl,rfl⟩:=hj ai;exact ⟨rfl,rfl,by simp only[oT,ae.isStr,Bool.false_eq_true,if_false];exact ⟨A,c,by rw[aX,aq]⟩⟩
  ·simp[HM.go]at e
 ·obtain ⟨rfl,rfl,rfl⟩:=go_ret e;obtain ⟨A,m,c,A',aX,aa,ad,al,rfl,ec,_⟩:=aw;exact ⟨rfl,rfl,by simp only[oT,ae.isStr,Bool.false_eq_true,if_false];exact ⟨A',_,rfl⟩⟩
 ·simp[HM.go]at e
theorem aux [Env] (tab:cA P cx) {T ty:TypeId} {x:ae} {cj:Value} (e:(bif o1 cx T&&(L3 cx T==x.isStr) then (lenOf x).bind fun n=>HM.ret (.dat (.int .i64) (n:Int)) else .fail).go H n=some (r,aC,aJ)) (h:bR φ ι w H) (aw:x.rel φ ι w cj):
  ch φ ι w H n r aC aJ ((Builtin.len_ #[T] ty #[cj]).run P w):=by
 have q:=go_bif e;clear e;obtain ⟨ag,e⟩:=q;simp only[bB,beq_iff_eq]at ag;obtain ⟨ep,dB⟩:=ag;obtain ⟨m,H1,cC,ai,aq⟩:=HM.go_bind_some e;obtain ⟨rfl,rfl,ao⟩:=anT ai h aw;obtain ⟨rfl,rfl,rfl⟩:=go_ret aq;refine ch.plain h (Plain.int _ _) ?_;unfold o1 at ep;unfold L3 at dB;split at ep
 ·rename_i j ay;rw[ay]at dB;simp only at dB;split at ep
  ·rename_i t aU;rw[aU]at dB;have:x.isStr=false:=by rw[<-dB];simp
   simp only[oT,this,Bool.false_eq_true,if_false]at ao;obtain ⟨A,c,rfl⟩:=ao;have ax:=(jj tab ay aU).1;simp[Builtin.len_,run_underlying ax,goInt]
  ·rename_i aU;rw[aU]at dB;have:x.isStr=true:=by rw[<-dB];simp
   simp only[oT,this,if_true]at ao;obtain ⟨s,rfl,rfl⟩:=ao;have ax:=p0 tab ay aU;have ar:(⟨⟨s⟩⟩:ByteArray).size=s.length:=rfl;simp[Builtin.len_,run_underlying ax,goInt,ar]
  ·cases ep
 ·cases ep
theorem Hp {eS:Bool}: ∀(l:List ae) (x:ae) (vs:List Value) (v:Value) (r:ae),(uT eS x l).go H n=some (r,aC,aJ)->ae.relT φ ι w l vs->x.rel φ ι w v->(∀i∈x.ids,(aF H i).live=true)->
  aC=H/\aJ=n/\ ∃u,(vs.foldlM (if eS then Builtin.max2 else Builtin.min2) v).run P w=.ok u w/\r.rel φ ι w u/\ ∀i∈r.ids,(aF H i).live=true
 |[],x,vs,v,r,e,ao,aw,eK=>by
  have dx:(HM.ret x).go H n=some (r,aC,aJ):=by
   cases x<;>exact e
  obtain ⟨rfl,rfl,rfl⟩:=go_ret dx;simp only[ae.relT]at ao;subst ao;exact ⟨rfl,rfl,v,by simp,aw,eK⟩
 |y::l,x,vs,v,r,e,ao,aw,eK=>by
  obtain ⟨fK,tV,rfl,bf,ao⟩:=ao;unfold uT at e;split at e
  ·rename_i heq;cases heq
  ·rename_i k a k' b eJ heq;injection heq with aa ad
   subst aa ad;have q:=go_bif e;clear e;obtain ⟨av,e⟩:=q;have av:k=k':=by simpa using av
   subst av;obtain rfl:=cf.int.1 aw;obtain rfl:=cf.int.1 bf;obtain ⟨aa,ad,u,hu,aA,pH⟩:=Hp l _ tV (.int k (if (if eS then a<b else b<a) then b else a)) r e ao (gC (cf.int.2 rfl)) (by simp[ae.ids]);refine ⟨aa,ad,u,?_,aA,pH⟩;rw[List.foldlM_cons];cases eS
   ·simp only[Bool.false_eq_true,if_false]at hu ⊢;simp only[Builtin.min2,Sem.run_bind,Sem.run_pure,Result.andThen_ok];exact hu
   ·simp only[if_true]at hu ⊢;simp only[Builtin.max2,Sem.run_bind,Sem.run_pure,Result.andThen_ok,gt_iff_lt];exact hu
  ·rename_i a b eJ heq;injection heq with aa ad
   subst aa ad;obtain rfl:=cf.str.1 aw;obtain rfl:=cf.str.1 bf;obtain ⟨aa,ad,u,hu,aA,pH⟩:=Hp l _ tV (.string ⟨⟨bif (bif eS then !(Op.bytesLess a b) else (Op.bytesLess a b||decide (a=b))) then a else b⟩⟩) r e ao (gC (cf.str.2 rfl)) (by simp[ae.ids]);refine ⟨aa,ad,u,?_,aA,pH⟩;rw[List.foldlM_cons];cases eS
   ·simp only[Bool.false_eq_true,if_false,aM]at hu ⊢;simp only[Builtin.min2,Op.stringOp,ov,si,Sem.run_bind,Sem.run_pure,Result.andThen_ok,asBool];cases ag:(Op.bytesLess a b||decide (a=b))<;>simp only[ag,az,aM]at hu<;>simpa using hu
   ·simp only[if_true,az]at hu ⊢;simp only[Builtin.max2,Op.stringOp,ov,si,Sem.run_bind,Sem.run_pure,Result.andThen_ok,asBool];cases ag:(Op.bytesLess a b)<;>simp only[ag,du,dm,az,aM]at hu<;>simpa using hu
  ·simp[HM.go]at e
end
open Go.RowKit
section
variable {P:Program} {cx:bS} {φ φ':bw} {ι ι':Nat->Value} {w w':World} {H:List aG} {n:Nat} {r:ae} {aC:List aG} {aJ:Nat}
theorem apP (w:World) (e:TypeId) (s:List UInt8) (ar:s.length<=bm):
  ∃cur fr,gJ w (Lib.bytesWorld w e ⟨⟨s⟩⟩)/\(Lib.bytesWorld w e ⟨⟨s⟩⟩).heap[w.heap.size]? =some (.cells cur e fr)/\cur.size=grownCap w s.length 0 e/\qO fr cur.size/\(∀v∈cur.toList,v.oneCell'=true)/\
   cur.toList.take s.length=s.map fun b=>Value.int .u8 (b.toNat:Int):=by
 have qY:=grownCap_ge w s.length 0 e;have aB:Lib.bytesCells w e ⟨⟨s⟩⟩=(⟨s⟩:Array UInt8).map (fun b=>Value.int .u8 (b.toNat:Int))++Array.replicate (grownCap w s.length 0 e-s.length) (.int .u8 0):=rfl;have di:(Lib.bytesCells w e ⟨⟨s⟩⟩).size=grownCap w s.length 0 e:=by rw[aB];simp;omega
 have bC:(Lib.bytesWorld w e ⟨⟨s⟩⟩).heap[w.heap.size]? =some (.cells (Lib.bytesCells w e ⟨⟨s⟩⟩) e ((Lib.bytesCells w e ⟨⟨s⟩⟩).size,(Lib.bytesCells w e ⟨⟨s⟩⟩).size+1)):=by
  unfold Lib.bytesWorld World.freeze;rw[if_neg (by omega)];have bY:(w.drew.alloc (.cells (Lib.bytesCells w e ⟨⟨s⟩⟩) e)).heap[w.heap.size]? =some (.cells (Lib.bytesCells w e ⟨⟨s⟩⟩) e (0,0)):=heap_alloc_new w.drew _;simp only[Array.getElem?_modify,if_pos,bY];rfl
 refine ⟨_,_,⟨?_,?_,?_,?_,fun b ag=> ?_⟩,bC,di,?_,?_,?_⟩
 ·unfold Lib.bytesWorld World.freeze;rw[if_neg (by omega)];rfl
 ·unfold Lib.bytesWorld World.freeze;rw[if_neg (by omega)];rfl
 ·unfold Lib.bytesWorld World.freeze;rw[if_neg (by omega)];rfl
 ·rw[Lib.bytesWorld_size];omega
 ·exact Lib.bytesWorld_at_old w e _ b ag
 ·intro k av h;omega
 ·intro v aX;rw[aB]at aX;simp only[Array.toList_append,Array.toList_map,Array.toList_replicate,List.mem_append,List.mem_map]at aX;rcases aX with ⟨b,_,rfl⟩|aX
  ·rfl
  ·rw[List.eq_of_mem_replicate aX];rfl
 ·rw[aB];simp
theorem YO {φ:bw} {w:World} {k:IntKind}: ∀{xs:List Int} {aT:List Value},cz (bh φ w (.int k)) xs aT->aT=xs.map (Value.int k)
 |[],aT,h=>by simpa [cz] using h
 |x::xs,aT,h=>by
  obtain ⟨a7,aY,rfl,aa,ad⟩:=h;have db:a7=[.int k x]:=aa;rw[db,YO ad];rfl
theorem alZ [Env] (tab:cA P cx) {S T:TypeId} {x:ae} {cj:Value} (e:(LV cx S T x).go H n=some (r,aC,aJ)) (h:bR φ ι w H) (aw:x.rel φ ι w cj) (eK: ∀i∈x.ids,(aF H i).live=true) (dt:hG H n aJ):
  ch φ ι w H n r aC aJ ((convert S T cj).run P w):=by
 unfold LV at e;split at e
 ·rename_i i j ab ay;split at e
  ·rename_i bk k aa ad;split at e
   ·obtain ⟨rfl,rfl,rfl⟩:=go_ret e;obtain rfl:=cf.int.1 aw;have d1:=DO tab ab aa;have d2:=DO tab ay ad;exact ch.plain h (Plain.int _ _) (by simp[convert,run_underlying d1,run_underlying d2,Conv.intToInt])
   ·simp[HM.go]at e
  ·rename_i aa ad;split at e
   ·obtain ⟨rfl,rfl,rfl⟩:=go_ret e;obtain rfl:=cf.str.1 aw;have d1:=p0 tab ab aa;have d2:=p0 tab ay ad;exact ch.plain h (Plain.str _) (by simp[convert,run_underlying d1,run_underlying d2])
   ·simp[HM.go]at e
  ·rename_i aa ad;split at e
   ·rename_i a;have q:=go_chk2 e;clear e;obtain ⟨ag,e⟩:=q;have ag:a.length<=bm:=by simpa using ag
    simp only[HM.go,bt,cw]at e;obtain ⟨rfl,rfl,rfl⟩:=e;obtain rfl:=cf.str.1 aw;have d1:=p0 tab ab aa;have d2:=jj tab ay ad;obtain ⟨u,hu,OD⟩:=Zf tab ay ad;have d3:=DO tab hu OD;rw[Lib.run_convert_string_bytes w S T j.elem ⟨⟨a⟩⟩ d1 d2.1 d3];obtain ⟨cur,fr,g,bC,di,aK,db,iV⟩:=apP w j.elem a ag;have hlen:(iC a).length=a.length:=by simp[iC]
    have qY:=grownCap_ge w a.length 0 j.elem;have s9:bm=140737488355328:=rfl;have:=sz (φ:=φ) (ι:=ι) (n:=n) h (e:=j.elem) (t:=.int .u8) (xs:=iC a) (c:=grownCap w a.length 0 j.elem) (b:=w.heap.size) g bC (Nat.le_refl _) (by rw[hlen];exact qY)
     (grownCap_le_maxLen w _ _ _ (by simp only[maxLen];omega)) (by rw[di];simp[aD.size]) ⟨aK,.inl rfl⟩ ⟨db,.inl rfl⟩ (by
      have dh:(iC a).length*(aD.int IntKind.u8).size=a.length:=by rw[hlen];simp[aD.size]
      rw[dh,iV];exact (Jx (P:=P) (φ:=φ) (w:=Lib.bytesWorld w j.elem ⟨⟨a⟩⟩) a).chunks) dt.1 (dt.2 n (Nat.le_refl _) (by omega))
    rw[hlen]at this;exact this
   ·simp[HM.go]at e
  ·rename_i aa ad;have FA:x.isStr=false:=by
    cases ar:x.isStr with
    |false=>rfl
    |true=>rw[ar]at e;simp[HM.go]at e
   rw[FA]at e;simp only[aM]at e;obtain ⟨d,H1,cC,ai,aq⟩:=HM.go_bind_some e;clear e;obtain ⟨rfl,cT,g1,fj⟩:=CX ai h aw eK;obtain ⟨l,eg,dk,bc,bz⟩:=HM.go_bind_some aq;clear aq;obtain ⟨aB,rfl,rfl⟩:=go_opt bc;obtain ⟨rfl,rfl,rfl⟩:=go_ret bz;have d1:=jj tab ab aa;have d2:=p0 tab ay ad;obtain ⟨u,hu,OD⟩:=Zf tab ab aa;have d3:=DO tab hu OD;obtain ⟨av8,E4⟩:=d;obtain ⟨kA,rfl⟩:=pP aB;simp only at kA;subst kA;refine ch.ghost g1 ((Plain.str _).2 _ _ _) (by simp[ae.ids]) ?_;rcases fj with ⟨s,_,_,ar⟩|fj
   ·rw[FA]at ar;cases ar
   ·obtain ⟨A,c,aT,rfl,hle,av,bC⟩:=fj _ _ rfl;have AA:=YO av;rcases bC with bC |⟨b,o,rfl,eZ⟩
    ·have:E4=[]:=List.eq_nil_of_length_eq_zero bC;subst this;cases A with
     |none=>simp[convert,run_underlying d1.1,run_underlying d2,run_underlying d3,Conv.bytesToString,rV,ByteArray.empty,ByteArray.emptyWithCapacity];rfl
     |some a=>simp[convert,run_underlying d1.1,run_underlying d2,run_underlying d3,Conv.bytesToString,loadCells,loadCellsFrom,rV,ByteArray.empty,ByteArray.emptyWithCapacity];rfl
    ·exact run_convert_bytes_arg w S i.elem d1.1 d3 b o E4.length c E4 rfl (fun k fF=>by
      have:=eZ k (.int .u8 (E4.getD k 0)) (by
       rw[AA];simp only[List.getElem?_map];rw[ZE (d:=0) fF];rfl)
      exact this) T d2
  ·simp[HM.go]at e
 ·simp[HM.go]at e
theorem VR [Env] {t:aD}: ∀(parts:List (Nat×ae)) (pv:List (Nat×Value)) (φ:bw) (xs:List t.den) (cells:Array Value) (H:List aG) (n:Nat) (aT:List t.den) (aC:List aG) (aJ:Nat),(Bt.go t xs parts).go H n=some (aT,aC,aJ)->bR φ ι w H->
  cz (bh φ w t) xs cells.toList->oI φ ι w H parts pv->
  aJ=n/\ ∃φ' ky,ef φ ι w H φ' aC/\Instr.fill (fun i=>some (i*t.size,t.size)) cells pv=some ky/\cz (bh φ' w t) aT ky.toList/\aT.length=xs.length
 |[],[],φ,xs,cells,H,n,aT,aC,aJ,e,h,av,_=>by
  have dx:(HM.ret xs).go H n=some (aT,aC,aJ):=e;obtain ⟨rfl,rfl,rfl⟩:=go_ret dx;exact ⟨rfl,φ,cells,ef.refl h,rfl,av,rfl⟩
 |[],_::_,_,_,_,_,_,_,_,_,_,_,_,an=>an.elim
 |_::_,[],_,_,_,_,_,_,_,_,_,_,_,an=>an.elim
 |(j,x)::parts,(hb,v)::pv,φ,xs,cells,H,n,aT,aC,aJ,e,h,av,⟨ay,aw,kL,an⟩=>by
  subst ay;unfold Bt.go at e;split at e
  ·rename_i z bA;obtain ⟨y,H1,cC,ai,aq⟩:=HM.go_bind_some e;clear e;obtain ⟨rfl,cT,g1,bf⟩:=De ai h aw kL;have bb:j<xs.length:=by
    rcases Nat.lt_or_ge j xs.length with aa |aa
    ·exact aa
    ·rw[List.getElem?_eq_none aa]at bA;cases bA
   have jl:cz (bh cT w t) xs cells.toList:=av.imp fun x c=>bh.mono g1.step.phi g1.step.cells t x c
   have ar:=cz.set (fun x c=>bh.len t x c) xs cells.toList jl j y v.cells.toList bb bf.1;have iy:=av.len (fun x c=>bh.len t x c);have hle:(j+1)*t.size<=xs.length*t.size:=Nat.mul_le_mul_right _ bb;rw[Nat.add_mul,Nat.one_mul]at hle;have dK:v.cells.size=t.size:=by have:=bf.1.len;simpa using this
   have q1:=Zb (place:=fun i=>some (i*t.size,t.size)) (i:=j) (rest:=pv) rfl dK (show j*t.size+t.size<=cells.size by rw[<-Array.length_toList,iy];exact hle);obtain ⟨aQ,φ',ky,g2,n7,fF,ao⟩:=VR parts pv cT (xs.set j y) (cells.toList.take (j*t.size)++v.cells.toList++cells.toList.drop (j*t.size+t.size)).toArray H1 cC aT aC aJ aq g1.rel (by simpa using ar) (an.ghost g1);exact ⟨aQ,φ',ky,g1.trans g2,by rw[q1];exact n7,fF,by rw[ao];simp⟩
  ·simp[HM.go]at e
theorem aiV [Env] (tab:cA P cx) {T:TypeId} {len:Nat} {parts:List (Nat×ae)} (e:(Bt cx T len parts).go H n=some (r,aC,aJ)) (h:bR φ ι w H) {pv:Array (Nat×Value)} (an:oI φ ι w H parts pv.toList) (dt:hG H n aJ):
  ch φ ι w H n r aC aJ ((Instr.buildSlice T len pv).run P w):=by
 unfold Bt at e;split at e
 ·rename_i i ab;split at e
  ·rename_i t aU;have q:=go_bif e;clear e;obtain ⟨ag,e⟩:=q;have ag:len*t.size<=100000:=by simpa using ag
   obtain ⟨aT,H1,cC,ai,aq⟩:=HM.go_bind_some e;clear e;simp only[HM.go,bt,cw]at aq;obtain ⟨rfl,rfl,rfl⟩:=aq;obtain ⟨ax,fj⟩:=jj tab ab aU;obtain ⟨z,bA,AD,acm,lT⟩:=rA fj len;obtain ⟨rfl,cT,ky,g1,n7,av,ao⟩:=VR parts pv.toList φ (List.replicate len t.zero) ((Array.range (len*t.size)).map fun i=>z.cells[i%z.cells.size]!) H n aT H1 cC ai h (lT φ w) an;rw[List.length_replicate]at ao;have iT:=dt.ghost g1;have iy:=av.len (fun x c=>bh.len t x c);rw[ao]at iy;have hlen:len<=100000:=Nat.le_trans (Nat.le_mul_of_pos_right _ acm) ag;have dU:(Instr.buildSlice T len pv).run P w=.ok (.slice (some ⟨w.heap.size,0,none⟩) len len) (w.alloc (.cells ky i.elem)):=by
    unfold Instr.buildSlice;have aq0: ¬(len*t.size>2^24):=by omega
    simp only[Sem.run_bind,run_underlying ax,Result.andThen_ok,wD (w:=w) fj,aq0,if_false,Sem.run_pure];by_cases vX:len*t.size=0
    ·have FF:Array.range 0= #[]:=rfl;rw[vX,FF]at n7;simp only[List.map_toArray,List.map_nil,Array.map_empty]at n7;simp[vX,FF,n7,newRow]
    ·simp only[vX,if_false,Sem.run_bind,bA,Result.andThen_ok,Sem.run_pure,n7,newRow,run_newObj_alloc]
   rw[dU];have hC:=gJ.alloc w (.cells ky i.elem);have:=sz (φ:=cT) (ι:=ι) (n:=cC) g1.rel (e:=i.elem) (t:=t) (xs:=aT) (c:=len) (b:=w.heap.size) hC (heap_alloc_new w _) (Nat.le_refl _) (by omega) (by simp only[maxLen];omega) (by rw[<-Array.length_toList,iy]) (tZ _ _) (Cells.of_chunks (av.imp fun x c=>bh.mono (fun _ _ h=>h) (fun b k ag=>hC.cell (jt g1.rel ag)) t x c) _)
    (by
      rw[ao,List.take_of_length_le (by rw[iy];exact Nat.le_refl _)];exact av.imp fun x c=>bh.mono (fun _ _ h=>h) (fun b k ag=>hC.cell (jt g1.rel ag)) t x c) iT.1 (iT.2 cC (Nat.le_refl _) (by omega))
   rw[ao]at this;exact ch.after g1 this
  ·simp[HM.go]at e
 ·simp[HM.go]at e
end
open Go.RowKit
section
variable {P:Program} {cx:bS} {φ φ':bw} {ι ι':Nat->Value} {w w':World} {H:List aG} {n:Nat} {r:ae} {aC:List aG} {aJ:Nat}
theorem anq {ty:TypeId} {b k:Nat} {s:ByteArray} (ag:w.heap[b]? =some (.stringIter s k)) (h: ¬k<s.size):(Instr.next (.pointer (some ⟨b,0,none⟩)) true ty).run P w=.ok (.tuple #[.bool false]) w:=by
 simp only[Instr.next,getObj,Sem.run_bind,Sem.run,ag,Result.andThen,h,if_false];rfl
theorem aoJ {ty:TypeId} {b k:Nat} {s:ByteArray} (ag:w.heap[b]? =some (.stringIter s k)) (h:k<s.size):(Instr.next (.pointer (some ⟨b,0,none⟩)) true ty).run P w=
  .ok (.tuple #[.bool true,goInt k,.int .i32 (Utf8.decode s k).1]) {w with heap:=w.heap.setIfInBounds b (.stringIter s (k+(Utf8.decode s k).2))}:=by
 simp only[Instr.next,getObj,setObj,Sem.run_bind,Sem.run,ag,Result.andThen,h,if_true];rfl
theorem amT {T:TypeId} (ax:P.underlying T=some .string) (s:ByteArray):(Instr.range T (.string s)).run P w=.ok (.pointer (some ⟨w.heap.size,0,none⟩)) (w.alloc (.stringIter s 0)):=by
 simp[Instr.range,run_underlying ax]
theorem aad {l:List ae} {v:Value} (h: ∃vs,v=.tuple vs/\ae.relT φ ι w l vs.toList):(ae.tup l).rel φ ι w v:=h
theorem alM [Env] (tab:cA P cx) {T:TypeId} {x:ae} (e:(arm cx T x).go H n=some (r,aC,aJ)) (h:bR φ ι w H) {v:Value} (aw:x.rel φ ι w v) (dt:hG H n aJ):ch φ ι w H n r aC aJ ((Instr.range T v).run P w):=by
 unfold arm at e;split at e
 ·rename_i s;have q:=go_bif e;clear e;obtain ⟨b4,e⟩:=q;obtain ⟨i,ab,aU⟩:=gk b4;have ax:=p0 tab ab aU;simp only[HM.go,bt,cw]at e;obtain ⟨rfl,rfl,rfl⟩:=e;obtain rfl:=cf.str.1 aw;have g:=gJ.alloc w (.stringIter ⟨⟨s⟩⟩ 0);have ag:(w.alloc (.stringIter ⟨⟨s⟩⟩ 0)).heap[w.heap.size]? =some (.stringIter ⟨⟨s⟩⟩ 0):=heap_alloc_new w _;obtain ⟨aa,ad,al,aE⟩:=yW (v:=.pointer (some ⟨w.heap.size,0,none⟩)) (ob:=.iter s 0) h dt.1 (dt.2 n (Nat.le_refl _) (by omega)) g
   ⟨w.heap.size,0,by simp[ip],ag,rfl,fun k av=>by have:=jt h av;omega⟩ (by simp[aG.ids]) rfl
   (fun b ag=>by
           have:w.heap.size=b:=by simpa [c6] using ag
           omega)
  refine ⟨_,_,φ,_,amT ax _,aa,ad,al,aE,uM ⟨w.heap.size,0,.inr ⟨by simp[ip],rfl,rfl⟩,by simp[aD.offAt],by simp[aD.at_]⟩,?_⟩
  ·intro i ab;have:i=n:=by simpa [ae.ids] using ab
   subst this;rw[fm H i _ i dt.1,if_pos rfl];rfl
 ·simp[HM.go]at e
theorem al7 [Env] {ty:TypeId} {x:ae} (e:(LR x).go H n=some (r,aC,aJ)) (h:bR φ ι w H) {v:Value} (aw:x.rel φ ι w v) (eK: ∀i∈x.ids,(aF H i).live=true):ch φ ι w H n r aC aJ ((Instr.next v true ty).run P w):=by
 unfold LR at e;split at e
 ·rename_i o;simp only[HM.go]at e;split at e
  ·rename_i s pos an;have bZ:=h.obj o;rw[an]at bZ;obtain ⟨b,k,ai,ag,rfl,iW⟩:=bZ;obtain ⟨bK,a1,FK,rfl,-⟩:=aw;have n2:bK=b/\a1=0:=by
    rcases FK with ⟨awM,c,aa,_⟩|⟨aa,_,ad⟩
    ·rw[ai]at aa;cases aa
    ·rw[ai]at aa;injection aa with aa;injection aa with aa;injection aa with aa;exact ⟨aa.symm,ad⟩
   obtain ⟨rfl,rfl⟩:=n2;have ij:c6 (ι o)=some bK:=by rw[ai];rfl
   have di:(⟨⟨s⟩⟩:ByteArray).size=s.length:=rfl;have aca:(0+0*aD.size .unit+aD.offAt .unit []:Nat)=0:=rfl;cases bb:decide ((k:Int)<(s.length:Int))
   ·simp only[bb,HM.go,aM,bt,cw]at e;obtain ⟨rfl,rfl,rfl⟩:=e;have Af: ¬k<s.length:=by have:=of_decide_eq_false bb;omega
    refine ch.pure (r:=.tup [.dat .bool false]) (v:=.tuple #[.bool false]) h (aad ⟨#[.bool false],rfl,_,_,rfl,gC (cf.bool.2 rfl),rfl⟩) (by simp[ae.ids,ae.idsL]) ?_;rw[aca];exact anq ag (by rw[di];exact Af)
   ·simp only[bb,HM.go,az,bt,cw]at e;obtain ⟨rfl,rfl,rfl⟩:=e;have Af:k<s.length:=by have:=of_decide_eq_true bb;omega
    have N2:bK<w.heap.size:=(Array.getElem?_eq_some_iff.1 ag).1;have dU:=aoJ (P:=P) (ty:=ty) ag (by rw[di];exact Af);have fI:hH w {w with heap:=w.heap.setIfInBounds bK (.stringIter ⟨⟨s⟩⟩ (k+(Utf8.decode ⟨⟨s⟩⟩ k).2))} bK:=
     ⟨rfl,rfl,rfl,by simp,fun j ay=>by simp[Array.getElem?_setIfInBounds_ne (Ne.symm ay)]⟩
    have cR:hW φ ι {w with heap:=w.heap.setIfInBounds bK (.stringIter ⟨⟨s⟩⟩ (k+(Utf8.decode ⟨⟨s⟩⟩ k).2))} o (.iter s ((k:Int)+(mZ s (k:Int)).2)):=
     ⟨bK,k+(Utf8.decode ⟨⟨s⟩⟩ k).2,ai,by simp[N2],by simp[mZ],iW⟩
    obtain ⟨oC,oD,rM,By⟩:=yV (n:=n) (ob:=.iter s ((k:Int)+(mZ s (k:Int)).2)) h (by rw[an];rfl) ij fI iW cR (by simp[aG.ids]) rfl;rw[aca];exact ⟨_,_,φ,ι,dU,oC,oD,rM,By,aad ⟨_,rfl,_,_,rfl,gC (cf.bool.2 rfl),_,_,rfl,gC (cf.int.2 rfl),_,_,rfl,gC (cf.int.2 (by simp[mZ])),rfl⟩,by simp[ae.ids,ae.idsL]⟩
  ·simp[HM.go]at e
 ·simp[HM.go]at e
end
open Go.RowKit
def sF (φ:bw) (ι:Nat->Value) (w:World) (H:List aG) (ev:Operand->ae) (ρ:Operand->Value):Prop:= ∀x,(ev x).rel φ ι w (ρ x)/\ ∀i∈(ev x).ids,(aF H i).live=true
abbrev ed (ro:Option Nat):Fence:={fn:=fun _=>True,depth:=none,alive:=false,round:=ro}
theorem KC {P:Program} {f:FuncId} {args:Array Value} {w:World} {R:Ending->World->Prop} (ro:Option Nat) (h:Calls P f args w R):CallsIn (ed ro) 0 P f args w R:=(callsIn_wide (n:=0)).2 h
theorem sw {P:Program} {o:Oper} {a:Act} {w:World} {ro:Option Nat} {next:Act->World->Prop} {Q:Exit->Act->World->Prop} (dT: ∀c,o.op≠ .defer c)
  (h:o.uponIn (ed ro) 0 P a next Q ((execOp a.eval o).run P w)):o.wpIn (ed ro) 0 P a w next Q:=⟨fun _ _=>trivial,by rw[Oper.semAt_eq _ _ _ dT];exact h⟩
def e4 [Env] (P:Program) (o:Oper) (a:Act) (φ:bw) (ι:Nat->Value) (w:World) (H:List aG) (n:Nat) (r:ae) (aC:List aG) (aJ:Nat):Prop:=
 ∀(ro:Option Nat) (next:Act->World->Prop) (Q:Exit->Act->World->Prop),(∀v w' φ' ι',bR φ' ι' w' aC->Step φ ι w H φ' ι' w' aC->dA ι H ι' aC->hy H n aC aJ->r.rel φ' ι' w' v->(∀i∈r.ids,(aF aC i).live=true)->next (a.put o.dst v) w')->o.wpIn (ed ro) 0 P a w next Q
def ua (P:Program) (f:FuncId) (vs:Array Value) (w:World) (R:Ending->World->Prop):Prop:=
 ((callFunc f vs).run P w=.ok (.enter f vs) w/\Calls P f vs w R)\/ ∃v w',(callFunc f vs).run P w=.ok (.value v) w'/\R (.returned v) w'
theorem ua.mono {P:Program} {f:FuncId} {vs:Array Value} {w:World} {R R':Ending->World->Prop} (h:ua P f vs w R) (aA: ∀e w',R e w'->R' e w'):ua P f vs w R':=
 h.imp (fun ⟨a,b⟩=>⟨a,Calls.mono b aA⟩) fun ⟨v,w',a,b⟩=>⟨v,w',a,aA _ _ b⟩
theorem aon {P:Program} {f:FuncId} {vs:Array Value} {w:World} {R:Ending->World->Prop} (h: ∃fn,P.funcs[f]? =some fn/\(fn.name== "runtime.NumGoroutine")=false/\fn.body.isNone=false) (aB:Calls P f vs w R):ua P f vs w R:=by
 obtain ⟨fn,NR,NS,z6⟩:=h;refine .inl ⟨?_,aB⟩;unfold callFunc;have z7: ¬fn.name= "runtime.NumGoroutine":=by simpa using NS
 have NT: ¬fn.body=none:=by
  intro bY;rw[bY]at z6;cases z6
 simp[NR,z7,NT]
def iq [Env] (P:Program) (f:FuncId) (vs:Array Value) (w:World) (R:Ending->World->Prop):Prop:=match Env.code f with
 |none=>ua P f vs w R
 |some _=> ∃l,vs[0]? =some (.func (.yield l) #[] #[])/\YieldAt (ed none) 0 P l (vs.extract 1 vs.size) w R
theorem iq.mono [Env] {P:Program} {f:FuncId} {vs:Array Value} {w:World} {R R':Ending->World->Prop} (h:iq P f vs w R) (aA: ∀e w',R e w'->R' e w'):iq P f vs w R':=by
 unfold iq at h ⊢;split at h
 ·exact h.mono aA
 ·obtain ⟨l,aa,fn,tmps,assign,body,ad,al⟩:=h;exact ⟨l,aa,fn,tmps,assign,body,ad,al.mono aA⟩
theorem iq.call [Env] {P:Program} {f:FuncId} {vs:Array Value} {w:World} {R:Ending->World->Prop} (aK:hS f=false):iq P f vs w R↔ua P f vs w R:=by
 unfold hS at aK;unfold iq;cases h:Env.code f with
 |none=>exact Iff.rfl
 |some c=>rw[h]at aK;cases aK
theorem iq.round [Env] {P:Program} {f:FuncId} {vs:Array Value} {w:World} {R:Ending->World->Prop} (aK:hS f=true):iq P f vs w R↔ ∃l,vs[0]? =some (.func (.yield l) #[] #[])/\YieldAt (ed none) 0 P l (vs.extract 1 vs.size) w R:=by
 unfold hS at aK;unfold iq;cases h:Env.code f with
 |none=>rw[h]at aK;cases aK
 |some c=>exact Iff.rfl
def iL [Env] (P:Program) (f:FuncId) (args:List ae) (H:List aG) (r:ae) (aC:List aG):Prop:=
 (∃fn,P.funcs[f]? =some fn/\(fn.name== "runtime.NumGoroutine")=false/\fn.body.isNone=false)/\
 ∀(φ:bw) (ι:Nat->Value) (w:World) (vs:Array Value),bR φ ι w H->(∀i,i<H.length->(aF H i).live=true)->ae.relT φ ι w args vs.toList->(∀i∈ae.idsL args,(aF H i).live=true)->
  Calls P f vs w fun e w'=> ∃v φ' ι',e=.returned v/\bR φ' ι' w' aC/\Step φ ι w H φ' ι' w' aC/\dA ι H ι' aC/\r.rel φ' ι' w' v/\(∀i∈r.ids,(aF aC i).live=true)
def uc [Env] (P:Program) (f:FuncId) (args:List ae) (H:List aG) (r:ae) (aC:List aG):Prop:=
 ∀(φ:bw) (ι:Nat->Value) (w:World) (vs:Array Value),bR φ ι w H->(∀i,i<H.length->(aF H i).live=true)->ae.relT φ ι w args vs.toList->(∀i∈ae.idsL args,(aF H i).live=true)->
  iq P f vs w fun e w'=> ∃v φ' ι',e=.returned v/\bR φ' ι' w' aC/\Step φ ι w H φ' ι' w' aC/\dA ι H ι' aC/\r.rel φ' ι' w' v/\(∀i∈r.ids,(aF aC i).live=true)
theorem iL.x [Env] {P:Program} {f:FuncId} {args:List ae} {H:List aG} {r:ae} {aC:List aG} (aK:hS f=false) (h:iL P f args H r aC):uc P f args H r aC:=fun φ ι w vs aa ad al aE=>(iq.call aK).2 (aon h.1 (h.2 φ ι w vs aa ad al aE))
def bL [Env] (P:Program) (Γ:gi):Prop:= ∀f args H r aC,(Γ f args H).val=some (r,aC)->uc P f args H r aC
section
variable {P:Program} {cx:bS} {φ:bw} {ι:Nat->Value} {w:World} {H:List aG} {n:Nat} {r:ae} {aC:List aG} {aJ:Nat} {o:Oper} {a:Act} {ev:Operand->ae}
theorem e4.of_yld [Env] (dT: ∀c,o.op≠ .defer c) {s:Sem Value} (y:ch φ ι w H n r aC aJ (s.run P w)) (he:execOp a.eval o=(do pure (.value (<-s)):Sem Next)):e4 P o a φ ι w H n r aC aJ:=by
 intro ro next Q k;obtain ⟨v,w',φ',ι',e,aa,ad,al,aE,aZ,bu⟩:=y;refine sw dT ?_;rw[he];simp only[Sem.run_bind,e,Result.andThen_ok,Sem.run_pure,Oper.uponIn_value];exact k v w' φ' ι' aa ad al aE aZ bu
theorem e4.of_pure [Env] (dT: ∀c,o.op≠ .defer c) {v:Value} (h:bR φ ι w H) (aA:r.rel φ ι w v) (pH: ∀i∈r.ids,(aF H i).live=true) (he:execOp a.eval o=(pure (.value v):Sem Next)):e4 P o a φ ι w H n r H n:=by
 intro ro next Q k;refine sw dT ?_;rw[he];simp only[Sem.run_pure,Oper.uponIn_value];exact k v w φ ι h (Step.refl _ _ _ _) (dA.refl _ _) (hy.refl _ _) aA pH
theorem Cb {x:ae} {i:Int} {v:Value} (h:sy x=some i) (aw:x.rel φ ι w v): ∃k,v=.int k i:=by
 unfold sy at h;split at h
 ·rename_i k a;obtain rfl:=Option.some.inj h;exact ⟨k,cf.int.1 aw⟩
 ·cases h
theorem Kh {x:ae} {b:Bool} {v:Value} (h:kS x=some b) (aw:x.rel φ ι w v):v=.bool b:=by
 unfold kS at h;split at h
 ·obtain rfl:=Option.some.inj h;exact cf.bool.1 aw
 ·cases h
theorem K3 {x:Option Operand} {m:Option Int} (cH:sF φ ι w H ev a.eval) (h:u9 (x.map ev)=some m):me (x.map a.eval) m:=by
 cases x with
 |none=>
  simp only[Option.map_none,u9,bt]at h;subst h;trivial
 |some y=>
  simp only[Option.map_some,u9,Option.map_eq_some_iff]at h;obtain ⟨i,ab,rfl⟩:=h;obtain ⟨k,av⟩:=Cb ab (cH y).1;exact ⟨k,av⟩
theorem LS (cH:sF φ ι w H ev a.eval): ∀(l:List (Nat×Operand)),oI φ ι w H (l.map fun p=>(p.1,ev p.2)) (l.map fun p=>(p.1,a.eval p.2))
 |[]=>trivial
 |p::l=>⟨rfl,(cH p.2).1,(cH p.2).2,LS cH l⟩
theorem sm (cH:sF φ ι w H ev a.eval): ∀(l:List Operand),ae.relT φ ι w (l.map ev) (l.map a.eval)
 |[]=>rfl
 |p::l=>⟨_,_,rfl,(cH p).1,sm cH l⟩
theorem se (cH:sF φ ι w H ev a.eval): ∀(l:List Operand),∀i∈ae.idsL (l.map ev),(aF H i).live=true
 |[],i,h=>by simp[ae.idsL]at h
 |p::l,i,h=>by
  simp only[List.map_cons,ae.idsL,List.mem_append]at h;rcases h with h |h
  ·exact (cH p).2 i h
  ·exact se cH l i h
theorem R3 {f:FuncId} {l m:List ae} {v:Value} (h: ∃x y,v=.func (.func f) x y/\ae.relT φ ι w l x.toList/\ae.relT φ ι w m y.toList):(ae.fn f l m).rel φ ι w v:=h
theorem apI {T:TypeId} {x:ae} {v:Value} (h: ∃u,v=.iface T u/\x.rel φ ι w u):(ae.iface T x).rel φ ι w v:=h
theorem yA: ∀(fY:List TypeId) (l:List ae) (vs:List Value),ae.relT φ ι w l vs->ae.relT φ ι w (hF cx fY l) vs
 |[],_,_,h=>by unfold hF;exact h
 |_::_,[],_,h=>by unfold hF;exact h
 |T::fY,r::l,_,⟨v,m,e,aa,ad⟩=>⟨v,m,e,uO aa,yA fY l m ad⟩
theorem yz: ∀(fY:List TypeId) (l:List ae),∀i∈ae.idsL (hF cx fY l),i∈ae.idsL l
 |[],_,i,h=>by unfold hF at h;exact h
 |_::_,[],i,h=>by unfold hF at h;exact h
 |T::fY,r::l,i,h=>by
  simp only[hF,ae.idsL,List.mem_append]at h ⊢;rcases h with h |h
  ·exact .inl (uN i h)
  ·exact .inr (yz fY l i h)
theorem rU: ∀{l:List ae} {vs:List Value} {j:Nat} {x:ae},ae.relT φ ι w l vs->l[j]? =some x-> ∃v,vs[j]? =some v/\x.rel φ ι w v
 |[],_,j,x,_,h=>by simp at h
 |y::l,_,0,x,⟨v,m,e,aa,ad⟩,h=>by
  subst e;obtain rfl:y=x:=by simpa using h
  exact ⟨v,by simp,aa⟩
 |y::l,_,j+1,x,⟨v,m,e,aa,ad⟩,h=>by
  subst e;obtain ⟨u,al,aE⟩:=rU ad (by simpa using h:l[j]? =some x);exact ⟨u,by simpa using al,aE⟩
theorem rX: ∀{l:List ae} {j:Nat} {x:ae},l[j]? =some x-> ∀i∈x.ids,i∈ae.idsL l
 |[],j,x,h=>by simp at h
 |y::l,0,x,h=>by
  obtain rfl:y=x:=by simpa using h
  intro i ab;simp only[ae.idsL,List.mem_append];exact .inl ab
 |y::l,j+1,x,h=>by
  intro i ab;simp only[ae.idsL,List.mem_append];exact .inr (rX (by simpa using h) i ab)
theorem anF [Env] (tab:cA P cx) {T ty:TypeId} {x:ae} {v:Value} (e:(L9 cx T x).go H n=some (r,aC,aJ)) (h:bR φ ι w H) (aw:x.rel φ ι w v):ch φ ι w H n r aC aJ ((Builtin.cap_ #[T] ty #[v]).run P w):=by
 have key: ∀{t:aD} {A:Option Addr} {m c:Nat},cx.isTy T (.list t)=true->(Builtin.cap_ #[T] ty #[.slice A m c]).run P w=.ok (.int .i64 (c:Int)) w:=by
  intro t A m c b4;obtain ⟨i,ab,aU⟩:=gk b4;have ax:=(jj tab ab aU).1;simp[Builtin.cap_,run_underlying ax,goInt]
 unfold L9 at e;split at e
 ·have q:=go_bif e;clear e;obtain ⟨b4,e⟩:=q;obtain ⟨rfl,rfl,rfl⟩:=go_ret e;simp only[ae.rel]at aw;subst aw;exact ch.pure (r:=.dat (.int .i64) (0:Int)) (v:=.int .i64 0) h (gC (cf.int.2 rfl)) (by simp[ae.ids]) (key b4)
 ·have q:=go_bif e;clear e;obtain ⟨b4,e⟩:=q;obtain ⟨rfl,rfl,rfl⟩:=go_ret e;obtain ⟨A,m,rfl,nk⟩:=aw;obtain ⟨hU,cr,aY,ai,ao,-⟩:=nk;injection ai with ai _
  obtain ⟨rfl,rfl,rfl⟩:=hj ai;rw[ao];exact ch.pure (r:=.dat (.int .i64) (m:Int)) (v:=.int .i64 (m:Int)) h (gC (cf.int.2 rfl)) (by simp[ae.ids]) (key b4)
 ·rename_i t o;have q:=go_bif e;clear e;obtain ⟨b4,e⟩:=q;simp only[HM.go]at e;split at e
  ·rename_i b6 u xs fz an;obtain ⟨rfl,rfl,rfl⟩:=go_ret e;obtain ⟨ji,gZ,-⟩:=mS an;have bZ:=h.obj o;rw[gZ]at bZ;obtain ⟨A,m,c,ai,aq,bc,_⟩:=bZ;obtain ⟨rfl,_⟩:=aw;rw[ai];exact ch.pure (r:=.atl xs.length) (v:=.int .i64 (c:Int)) h ⟨c,rfl,by omega⟩ (by simp[ae.ids]) (key b4)
  ·simp[HM.go]at e
 ·rename_i t o lo ab;have q:=go_bif e;clear e;obtain ⟨b4,e⟩:=q;simp only[HM.go]at e;split at e
  ·rename_i b6 u xs fz an;obtain ⟨rfl,rfl,rfl⟩:=go_ret e;obtain ⟨ji,gZ,-⟩:=mS an;have bZ:=h.obj o;rw[gZ]at bZ;obtain ⟨A,m,c,ai,aq,bc,_⟩:=bZ;obtain ⟨hU,cr,aY,A',bz,_,_,_,rfl,_⟩:=aw;rw[ai]at bz;obtain ⟨rfl,rfl,rfl⟩:=hj bz;exact ch.pure (r:=.atl (xs.length-lo)) (v:=.int .i64 ((c-lo:Nat):Int)) h ⟨c-lo,rfl,by omega⟩ (by simp[ae.ids]) (key b4)
  ·simp[HM.go]at e
 ·simp[HM.go]at e
theorem aki [Env] (tab:cA P cx) {b:Builtin} {fY:Array TypeId} {ty:TypeId} {cs:Array Bool} {args:List ae} {vs:Array Value} (e:(KB cx b fY.toList args).go H n=some (r,aC,aJ)) (h:bR φ ι w H)
  (aR:ae.relT φ ι w args vs.toList) (h8: ∀i∈ae.idsL args,(aF H i).live=true) (dt:hG H n aJ):
  ∃s:Sem Value,builtin b fY ty cs vs=(do pure (.value (<-s)):Sem Next)/\ch φ ι w H n r aC aJ (s.run P w):=by
 unfold KB at e;split at e
 ·rename_i T x b4;obtain ⟨v,m,aX,aw,hm⟩:=aR;simp only[ae.relT]at hm;subst hm;have kH:fY= #[T]:=by cases fY;simp at b4;simp[b4]
  have dK:vs= #[v]:=by cases vs;simp at aX;simp[aX]
  subst kH dK;exact ⟨_,rfl,aux tab e h aw⟩
 ·rename_i T T2 s x b4;obtain ⟨v,m,aX,aw,v2,cr,hm,nz,hN⟩:=aR;simp only[ae.relT]at hN;subst hN hm;have kH:fY= #[T,T2]:=by cases fY;simp at b4;simp[b4]
  have dK:vs= #[v,v2]:=by cases vs;simp at aX;simp[aX]
  subst kH dK;exact ⟨_,rfl,akm tab e h aw nz (fun i ab=>h8 i (by simp[ae.idsL,ab])) (fun i ab=>h8 i (by simp[ae.idsL,ab])) dt⟩
 ·rename_i afX x l;obtain ⟨v,m,aX,aw,hm⟩:=aR;refine ⟨_,rfl,?_⟩;have q:=Hp (P:=P) l x m v r e hm aw (fun i ab=>h8 i (by simp[ae.idsL,ab]));clear e;obtain ⟨aa,ad,u,hu,aA,pH⟩:=q;subst aa ad;refine ch.pure (r:=r) (v:=u) h aA pH ?_;simp only[Bool.false_eq_true,if_false]at hu;unfold Builtin.min_;rw[aX];exact hu
 ·rename_i afX x l;obtain ⟨v,m,aX,aw,hm⟩:=aR;refine ⟨_,rfl,?_⟩;have q:=Hp (P:=P) l x m v r e hm aw (fun i ab=>h8 i (by simp[ae.idsL,ab]));clear e;obtain ⟨aa,ad,u,hu,aA,pH⟩:=q;subst aa ad;refine ch.pure (r:=r) (v:=u) h aA pH ?_;simp only[if_true]at hu;unfold Builtin.max_;rw[aX];exact hu
 ·rename_i T x b4;obtain ⟨v,m,aX,aw,hm⟩:=aR;simp only[ae.relT]at hm;subst hm;have kH:fY= #[T]:=by cases fY;simp at b4;simp[b4]
  have dK:vs= #[v]:=by cases vs;simp at aX;simp[aX]
  subst dK;have q:=go_bif e;clear e;obtain ⟨ha,e⟩:=q;obtain ⟨d,ax,-⟩:=aaj tab ha;exact ⟨_,rfl,ali tab kH e h aw ⟨d,ax⟩⟩
 ·rename_i T T2 s x b4;obtain ⟨v,m,aX,aw,v2,cr,hm,nz,hN⟩:=aR;simp only[ae.relT]at hN;subst hN hm;have kH:fY= #[T,T2]:=by cases fY;simp at b4;simp[b4]
  have dK:vs= #[v,v2]:=by cases vs;simp at aX;simp[aX]
  subst kH dK;have q:=go_bif e;clear e;obtain ⟨ha,e⟩:=q;exact ⟨_,rfl,al0 tab e h aw nz (fun i ab=>h8 i (by simp[ae.idsL,ab])) (fun i ab=>h8 i (by simp[ae.idsL,ab]))⟩
 ·rename_i T x b4;obtain ⟨v,m,aX,aw,hm⟩:=aR;simp only[ae.relT]at hm;subst hm;have kH:fY= #[T]:=by cases fY;simp at b4;simp[b4]
  have dK:vs= #[v]:=by cases vs;simp at aX;simp[aX]
  subst kH dK;exact ⟨_,rfl,anF tab e h aw⟩
 ·simp[HM.go]at e
theorem afZ [Env] {T:TypeId} {x y:Operand} (aA:r=.undef) (Qf: ∃w' φ' ι',(Instr.storeAt T (a.eval x) (a.eval y)).run P w=.ok () w'/\bR φ' ι' w' aC/\Step φ ι w H φ' ι' w' aC/\dA ι H ι' aC/\hy H n aC aJ) (an:o.op=.store T x y):
  e4 P o a φ ι w H n r aC aJ:=by
 subst aA;intro ro next Q k;obtain ⟨w',φ',ι',e,aa,ad,al,aE⟩:=Qf;refine sw (fun c aB=>by rw[an]at aB;cases aB) ?_;unfold execOp;simp only[an,Sem.run_bind,e,Result.andThen_ok,Sem.run_pure,Oper.uponIn_value];exact k undef w' φ' ι' aa ad al aE trivial (by simp[ae.ids])
theorem aoC [Env] (tab:cA P cx) {Γ:gi} (zU: ∀c x g l m,o.op=.call c->c.callee=.value x->ev x=.fn g l m->hS g=false->(p2 cx Γ g (l++hF cx c.argTypes.toList (c.args.toList.map ev)++m)).go H n=some (r,aC,aJ)->e4 P o a φ ι w H n r aC aJ)
  (hinv: ∀c x nm T au i f,o.op=.call c->c.callee=.invoke x nm->ev x=.iface T au->cx.ti T=some i->tx i.meths nm=some f->hS f=false->(p2 cx Γ f (au::hF cx c.argTypes.toList (c.args.toList.map ev))).go H n=some (r,aC,aJ)->e4 P o a φ ι w H n r aC aJ)
  (as2: ∀c x Y eM,o.op=.call c->c.callee=.value x->ev x=.yld Y eM->hS Y=true->(p2 cx Γ Y (.yld Y eM::hF cx c.argTypes.toList (c.args.toList.map ev))).go H n=some (r,aC,aJ)->e4 P o a φ ι w H n r aC aJ)
  (e:(lO cx Γ o ev).go H n=some (r,aC,aJ)) (h:bR φ ι w H) (cH:sF φ ι w H ev a.eval) (dt:hG H n aJ):e4 P o a φ ι w H n r aC aJ:=by
 have dT: ∀c,o.op≠ .defer c:=fun c aB=>by
  unfold lO at e;rw[aB]at e;simp[HM.go]at e
 unfold lO at e;split at e
 ·rename_i x an;obtain ⟨rfl,rfl,rfl⟩:=go_ret e;exact e4.of_pure dT h (uO (cH x).1) (fun i ab=>(cH x).2 i (uN i ab)) (by simp[execOp,an])
 ·rename_i x an;obtain ⟨rfl,rfl,rfl⟩:=go_ret e;exact e4.of_pure dT h (uO (cH x).1) (fun i ab=>(cH x).2 i (uN i ab)) (by simp[execOp,an])
 ·rename_i c x y an;split at e
  ·rename_i t aU;have aB:=Kh aU (cH c).1;cases t
   ·simp only[HM.go,aM]at e;obtain ⟨rfl,rfl,rfl⟩:=go_ret e;refine e4.of_yld dT (s:=pure (a.eval y)) (ch.pure h (cH y).1 (cH y).2 rfl) ?_;simp[execOp,an,aB,asBool]
   ·simp only[HM.go,az]at e;obtain ⟨rfl,rfl,rfl⟩:=go_ret e;refine e4.of_yld dT (s:=pure (a.eval x)) (ch.pure h (cH x).1 (cH x).2 rfl) ?_;simp[execOp,an,aB,asBool]
  ·simp[HM.go]at e
 ·rename_i T an;exact e4.of_yld dT (alf tab e h dt) (by simp[execOp,an])
 ·rename_i T x an;exact e4.of_yld dT (W9 tab e h (cH x).1 (cH x).2 dt) (by simp[execOp,an])
 ·rename_i T ps an;have ai:(ps.map fun p=>(p.1,a.eval p.2)).toList=ps.toList.map fun p=>(p.1,a.eval p.2):=by simp
  exact e4.of_yld dT (alh tab e h (pv:=ps.map fun p=>(p.1,a.eval p.2)) (by rw[ai];exact LS cH _)) (by simp[execOp,an])
 ·rename_i T m ps an;have ai:(ps.map fun p=>(p.1,a.eval p.2)).toList=ps.toList.map fun p=>(p.1,a.eval p.2):=by simp
  exact e4.of_yld dT (aiV tab e h (pv:=ps.map fun p=>(p.1,a.eval p.2)) (by rw[ai];exact LS cH _) dt) (by simp[execOp,an])
 ·rename_i T x an;exact e4.of_yld dT (al4 tab e h (cH x).1) (by simp[execOp,an])
 ·rename_i T x y an;obtain ⟨aA,Qf⟩:=alH tab e h (cH x).1 (uO (cH y).1) (cH x).2 (fun i ab=>(cH y).2 i (uN i ab));exact afZ aA Qf an
 ·rename_i x an;have aw:=cH x;split at e
  ·rename_i dg t i p aP;obtain ⟨rfl,rfl,rfl⟩:=go_ret e;rw[aP]at aw;have mM:=aw.1;obtain ⟨b,k,-,aX,-⟩:=mM;exact e4.of_pure dT h aw.1 aw.2 (by simp[execOp,an,aX])
  ·rename_i t y aP;obtain ⟨rfl,rfl,rfl⟩:=go_ret e;rw[aP]at aw;have mM:=aw.1;obtain ⟨b,i,cs,aX,-⟩:=mM;exact e4.of_pure dT h aw.1 aw.2 (by simp[execOp,an,aX])
  ·simp[HM.go]at e
 ·rename_i b T x y z an;cases aQ:Mf y
  case true=>
   rw[aQ,az]at e;obtain rfl:y=.const .nilIface:=by
    unfold Mf at aQ;split at aQ
    ·rfl
    ·cases aQ
   exact e4.of_yld dT (am6 tab e h (cH x).1 (cH x).2 x .nilIface) (by simp[execOp,an,Act.eval])
  case false=>
   rw[aQ,aM]at e;exact e4.of_yld dT (anC tab e h (cH x).1 (cH y).1 (cH x).2 (cH y).2 x y) (by simp[execOp,an])
 ·rename_i b T x an;exact e4.of_yld dT (aok e h (cH x).1) (by simp[execOp,an])
 ·rename_i S T x an;exact e4.of_yld dT (alZ tab e h (cH x).1 (cH x).2 dt) (by simp[execOp,an])
 ·rename_i f l m an;obtain ⟨rfl,rfl,rfl⟩:=go_ret e;refine e4.of_yld dT (s:=Instr.makeFunc (.func f) (l.map a.eval) (m.map a.eval)) (ch.pure (v:=.func (.func f) (l.map a.eval) (m.map a.eval)) h (R3 ⟨_,_,rfl,?_,?_⟩) ?_ ?_) (by simp[execOp,an])
  ·simpa using sm cH l.toList
  ·simpa using sm cH m.toList
  ·intro i ab;simp only[ae.ids,List.mem_append]at ab;rcases ab with ab |ab
   ·exact se cH _ i ab
   ·exact se cH _ i ab
  ·simp[Instr.makeFunc]
 ·rename_i T x an;split at e
  ·rename_i i ab;cases aN:decide (i.ty=.opq)
   ·simp only[aN,aM]at e;obtain ⟨rfl,rfl,rfl⟩:=go_ret e;refine e4.of_yld dT (s:=Instr.makeInterface T (a.eval x)) (ch.pure (v:=.iface T (a.eval x)) h (apI ⟨_,rfl,(cH x).1⟩) (cH x).2 ?_) (by simp[execOp,an]);have ax:=(tab T i ab).desc;have aN:i.ty≠ .opq:=by simpa using aN
    unfold jK at ax;split at ax
    ·simp[Instr.makeInterface,run_underlying ax]
    ·simp[Instr.makeInterface,run_underlying ax]
    ·simp[Instr.makeInterface,run_underlying ax]
    ·simp[Instr.makeInterface,run_underlying ax.1]
    ·rename_i e;exact absurd e aN
    ·rcases ax with ⟨_,fs,ax,_⟩|⟨_,n,e,cW,ax,_⟩<;>simp[Instr.makeInterface,run_underlying ax]
   ·simp[aN,HM.go]at e
  ·simp[HM.go]at e
 ·rename_i T x y an;split at e
  ·rename_i i j ab ay;obtain ⟨a1,aa⟩:=Cb ab (cH x).1;obtain ⟨k2,ad⟩:=Cb ay (cH y).1;refine e4.of_yld dT (s:=Instr.makeSlice T (a.eval x) (a.eval y)) ?_ (by simp[execOp,an]);rw[aa,ad];exact ajo tab e h dt
  ·simp[HM.go]at e
 ·rename_i T x lo ab eS an;split at e
  ·rename_i l cb m aa ad al;exact e4.of_yld dT (alC tab e h (cH x).1 (cH x).2 (K3 cH aa) (K3 cH ad) (K3 cH al)) (by simp[execOp,an])
  ·simp[HM.go]at e
 ·rename_i T x f an;exact e4.of_yld dT (ajj tab e h (cH x).1 (cH x).2) (by simp[execOp,an])
 ·rename_i T x f an;exact e4.of_yld dT (ak7 tab e h (cH x).1 (cH x).2) (by simp[execOp,an])
 ·rename_i T x y an;split at e
  ·rename_i i ab;obtain ⟨k,av⟩:=Cb ab (cH y).1;refine e4.of_yld dT (s:=Instr.indexAt T (a.eval x) (a.eval y)) ?_ (by simp[execOp,an]);rw[av];exact ajk tab e h (cH x).1 (cH x).2 k
  ·simp[HM.go]at e
 ·rename_i T x y an;split at e
  ·rename_i i ab;obtain ⟨k,av⟩:=Cb ab (cH y).1;refine e4.of_yld dT (s:=Instr.index T (a.eval x) (a.eval y)) ?_ (by simp[execOp,an]);rw[av];exact ak8 tab e h (cH x).1 k
  ·simp[HM.go]at e
 ·rename_i T x an;exact e4.of_yld dT (alM tab e h (cH x).1 dt) (by simp[execOp,an])
 ·rename_i x b an;cases b
  ·simp[HM.go]at e
  ·exact e4.of_yld dT (al7 (ty:=o.type) e h (cH x).1 (cH x).2) (by simp[execOp,an])
 ·rename_i x j an;have aw:=cH x;split at e
  ·rename_i l ao;rw[ao]at aw;obtain ⟨mM,nz⟩:=aw;obtain ⟨vs,aX,aA⟩:=mM;obtain ⟨bf,rfl,rfl⟩:=go_opt e;obtain ⟨u,hu,Ou⟩:=rU aA bf;refine e4.of_yld dT (s:=Instr.extract (a.eval x) j) (ch.pure (v:=u) h Ou (fun i ab=>nz i (rX bf i ab)) ?_) (by simp[execOp,an]);rw[aX];have vU:vs[j]? =some u:=by simpa using hu
   simp[Instr.extract,vU]
  ·simp[HM.go]at e
 ·rename_i c an;split at e
  ·rename_i b ag;obtain ⟨s,ar,y⟩:=aki tab (ty:=o.type) (cs:=c.args.map fun | .const _=>true |_=>false) (vs:=c.args.map a.eval) e h (by simpa using yA (cx:=cx) c.argTypes.toList _ _ (sm cH c.args.toList)) (fun i ab=>se cH c.args.toList i (yz _ _ i ab)) dt;refine e4.of_yld dT y ?_;simp only[execOp,an,resolve,ag,pure_bind,invoke];exact ar
  ·rename_i x aw;split at e
   ·rename_i g l m bH;cases aA:hS g
    ·rw[aA,aM]at e;exact zU c x g l m an aw bH aA e
    ·simp[aA,HM.go]at e
   ·rename_i Y eM bf;cases aA:hS Y
    ·simp[aA,HM.go]at e
    ·rw[aA,az]at e;exact as2 c x Y eM an aw bf aA e
   ·simp[HM.go]at e
  ·rename_i x nm aw;split at e
   ·rename_i T au An;split at e
    ·rename_i i ab;split at e
     ·rename_i f aK;cases aA:hS f
      ·rw[aA,aM]at e;exact hinv c x nm T au i f an aw An ab aK aA e
      ·simp[aA,HM.go]at e
     ·simp[HM.go]at e
    ·simp[HM.go]at e
   ·simp[HM.go]at e
 ·simp[HM.go]at e
end
open Go.RowKit
theorem yH {l:List Nat} {o:Nat}:has l o=true↔o∈l:=by
 induction l with
 |nil=>simp[has]
 |cons a l aO=>
  have:(has (a::l) o=true)=((Nat.beq a o||has l o)=true):=rfl;rw[this,Bool.or_eq_true,aO,List.mem_cons,Nat.beq_eq];exact ⟨fun h=>h.imp Eq.symm id,fun h=>h.imp Eq.symm id⟩
theorem agX (l:List Nat) (o:Nat): ∀n,idx.go o l n=n+idx.go o l 0:=by
 induction l with
 |nil=>intro n;simp[idx.go]
 |cons a l aO=>
  intro n;simp only[idx.go];cases Nat.beq a o
  ·simp only[aM];rw[aO (n+1),aO (0+1)];omega
  ·simp
theorem ap6 (a:Nat) (l:List Nat) (o:Nat):idx (a::l) o=bif Nat.beq a o then 0 else idx l o+1:=by
 unfold idx;simp only[idx.go];cases Nat.beq a o
 ·simp only[aM];rw[agX];omega
 ·rfl
theorem p3 {l:List Nat} {o:Nat} (h:o∈l):l[idx l o]? =some o:=by
 induction l with
 |nil=>cases h
 |cons a l aO=>
  rw[ap6];cases ag:Nat.beq a o
  ·have cp:o≠a:=by rintro rfl;simp at ag
   simpa using aO (by simpa [cp] using h)
  ·have:a=o:=by simpa using ag
   simp[this]
theorem agY {l:List Nat} {o:Nat} (h:o∈l):idx l o<l.length:=(List.getElem?_eq_some_iff.1 (p3 h)).1
theorem KZ {l:List Nat} (aQ:l.Nodup) {i o:Nat} (h:l[i]? =some o):idx l o=i:=by
 have aa:=p3 (List.mem_of_getElem? h);obtain ⟨ab,ai⟩:=List.getElem?_eq_some_iff.1 h;obtain ⟨ay,aq⟩:=List.getElem?_eq_some_iff.1 aa;exact (List.getElem_inj aQ).1 (by rw[ai,aq])
mutual
theorem ae.ren_ids (ρ:Nat->Nat): ∀r:ae,(r.ren ρ).ids=r.ids.map ρ
 | .own ..=>rfl | .view ..=>rfl | .ptr ..=>rfl
 | .agg l=>by simp[ae.ren,ae.ids,ae.renL_ids ρ l]
 | .tup l=>by simp[ae.ren,ae.ids,ae.renL_ids ρ l]
 | .fn f a b=>by simp[ae.ren,ae.ids,ae.renL_ids ρ a,ae.renL_ids ρ b]
 | .iface T r=>by simp[ae.ren,ae.ids,ae.ren_ids ρ r]
 | .dfr f a b t xs=>by simp[ae.ren,ae.ids,ae.renL_ids ρ a,ae.renL_ids ρ b]
 | .undef=>rfl | .dat ..=>rfl | .clip ..=>rfl | .nilv=>rfl | .nils ..=>rfl | .fptr ..=>rfl | .nilI=>rfl | .nilF=>rfl | .nilP=>rfl | .atl _=>rfl | .lim ..=>rfl | .yld ..=>rfl | .gp ..=>rfl
theorem ae.renL_ids (ρ:Nat->Nat): ∀l:List ae,ae.idsL (ae.renL ρ l)=(ae.idsL l).map ρ
 |[]=>rfl
 |r::l=>by simp[ae.renL,ae.idsL,ae.ren_ids ρ r,ae.renL_ids ρ l]
end
mutual
theorem ae.ren_fits (ρ:Nat->Nat): ∀(r:ae) (t:aD),(r.ren ρ).fits t=r.fits t
 | .own ..,_=>rfl | .view ..,_=>rfl | .ptr ..,_=>rfl
 | .agg l,t=>by simp[ae.ren,ae.fits,ae.renL_fits ρ l]
 | .tup l,t=>by simp[ae.ren,ae.fits]
 | .fn f a b,t=>by simp[ae.ren,ae.fits]
 | .iface T r,t=>by simp[ae.ren,ae.fits]
 | .dfr ..,t=>by simp[ae.ren,ae.fits]
 | .undef,_=>rfl | .dat ..,_=>rfl | .clip ..,_=>rfl | .nilv,_=>rfl | .nils ..,_=>rfl | .fptr ..,_=>rfl | .nilI,_=>rfl | .nilF,_=>rfl | .nilP,_=>rfl | .atl _,_=>rfl | .lim ..,_=>rfl | .yld ..,_=>rfl | .gp ..,_=>rfl
theorem ae.renL_fits (ρ:Nat->Nat): ∀(l:List ae) (t:aD),ae.fitsL (ae.renL ρ l) t=ae.fitsL l t
 |[],t=>rfl
 |r::l,t=>by cases t<;>simp[ae.renL,ae.fitsL,ae.ren_fits ρ r,ae.renL_fits ρ l]
end
mutual
theorem ae.ren_rel {φ:bw} {ι er:Nat->Value} {w:World} (ρ:Nat->Nat): ∀(r:ae) (v:Value),(∀i∈r.ids,er (ρ i)=ι i)->r.rel φ ι w v->(r.ren ρ).rel φ er w v
 | .undef,_,_,_=>trivial
 | .dat t x,v,_,h=>h
 | .clip t xs,v,_,h=>h
 | .nilv,_,_,h=>h
 | .nils _ _,_,_,h=>h
 | .own t o,v,ab,h=>by simp only[ae.rel,ae.ren]at h ⊢;rw[ab o (by simp[ae.ids])];exact h
 | .view t o lo hi',v,ab,h=>by simp only[ae.rel,ae.ren]at h ⊢;rw[ab o (by simp[ae.ids])];exact h
 | .ptr o t i p,v,ab,h=>by simp only[ae.rel,ae.ren]at h ⊢;rw[ab o (by simp[ae.ids])];exact h
 | .fptr t x,v,_,h=>h
 | .agg l,v,ab,⟨cs,e,h⟩=>⟨cs,e,ae.renL_relL ρ l _ (fun i h=>ab i (by simpa [ae.ids] using h)) h⟩
 | .tup l,v,ab,⟨cs,e,h⟩=>⟨cs,e,ae.renL_relT ρ l _ (fun i h=>ab i (by simpa [ae.ids] using h)) h⟩
 | .fn f a b,v,ab,⟨x,y,e,aa,ad⟩=>⟨x,y,e,ae.renL_relT ρ a _ (fun i h=>ab i (by simp[ae.ids,h])) aa,ae.renL_relT ρ b _ (fun i h=>ab i (by simp[ae.ids,h])) ad⟩
 | .iface T r,v,ab,⟨u,e,h⟩=>⟨u,e,ae.ren_rel ρ r u (fun i h=>ab i (by simpa [ae.ids] using h)) h⟩
 | .nilI,_,_,h=>h
 | .nilF,_,_,h=>h
 | .nilP,_,_,h=>h
 | .atl _,_,_,h=>h
 | .lim ..,_,_,h=>h
 | .yld Y o,v,ab,h=>by simp only[ae.rel,ae.ren]at h ⊢;rw[ab o (by simp[ae.ids])];exact h
 | .gp ..,_,_,h=>h
 | .dfr f a b t xs,v,ab,⟨vs,e,ao,h⟩=>⟨vs,e,ao,fun i x u aw hu=>
   let ⟨a7,j7,aY,ai,aa,ad,aE⟩:=h i x u aw hu
   ⟨a7,j7,aY,ai,ae.renL_relT ρ a _ (fun i h=>ab i (by simp[ae.ids,h])) aa,ad,ae.renL_relT ρ b _ (fun i h=>ab i (by simp[ae.ids,h])) aE⟩⟩
theorem ae.renL_relL {φ:bw} {ι er:Nat->Value} {w:World} (ρ:Nat->Nat): ∀(l:List ae) (cs:List Value),(∀i∈ae.idsL l,er (ρ i)=ι i)->ae.relL φ ι w l cs->ae.relL φ er w (ae.renL ρ l) cs
 |[],_,_,h=>h
 |r::l,_,ab,⟨v,aY,e,aa,ad⟩=>⟨v,aY,e,ae.ren_rel ρ r v (fun i h=>ab i (by simp[ae.idsL,h])) aa,ae.renL_relL ρ l aY (fun i h=>ab i (by simp[ae.idsL,h])) ad⟩
theorem ae.renL_relT {φ:bw} {ι er:Nat->Value} {w:World} (ρ:Nat->Nat): ∀(l:List ae) (vs:List Value),(∀i∈ae.idsL l,er (ρ i)=ι i)->ae.relT φ ι w l vs->ae.relT φ er w (ae.renL ρ l) vs
 |[],_,_,h=>h
 |r::l,_,ab,⟨v,aY,e,aa,ad⟩=>⟨v,aY,e,ae.ren_rel ρ r v (fun i h=>ab i (by simp[ae.idsL,h])) aa,ae.renL_relT ρ l aY (fun i h=>ab i (by simp[ae.idsL,h])) ad⟩
end
theorem aG.ren_owns (ρ:Nat->Nat) (b:aG):(b.ren ρ).owns=b.owns:=by cases b<;>rfl
theorem aG.ren_live (ρ:Nat->Nat) (b:aG):(b.ren ρ).live=b.live:=by cases b<;>rfl
theorem bD.ren_ids (ρ:Nat->Nat) (R:bD):(R.ren ρ).ids=R.ids.map ρ:=by
 induction R with
 |nil=>rfl
 |cons p l aO=>simp[bD.ren,bD.ids,ae.ren_ids,aO]
theorem bD.mem_ren {ρ:Nat->Nat} {R:bD} {q:Nat×ae} (h:q∈R.ren ρ): ∃x∈R,q=(x.1,x.2.ren ρ):=by
 induction R with
 |nil=>cases h
 |cons p l aO=>
  rcases List.mem_cons.1 h with rfl |h
  ·exact ⟨p,by simp,rfl⟩
  ·obtain ⟨x,aa,ad⟩:=aO h;exact ⟨x,by simp[aa],ad⟩
theorem aG.ren_ids (ρ:Nat->Nat) (b:aG):(b.ren ρ).ids=b.ids.map ρ:=by cases b<;>simp[aG.ren,aG.ids,ae.ren_ids,bD.ren_ids]
theorem hW.ren [Env] {φ:bw} {ι er:Nat->Value} {w:World} {o dg:Nat} {ob:aG} (ρ:Nat->Nat) (an:er dg=ι o) (ab: ∀i∈ob.ids,er (ρ i)=ι i) (h:hW φ ι w o ob):hW φ er w dg (ob.ren ρ):=by
 cases ob with
 |hole=>trivial
 |gone=>trivial
 |arr e t xs fz=>
  obtain ⟨A,n,c,ai,h⟩:=h;exact ⟨A,n,c,an.trans ai,h⟩
 |box T t r=>
  obtain ⟨b,cur,fr,v,ai,aa,ad,al,aE,aZ,bu,dq,h4⟩:=h;exact ⟨b,cur,fr,v,an.trans ai,aa,ad,al,aE,ae.ren_rel ρ r v ab aZ,bu,by rw[ae.ren_fits];exact dq,h4⟩
 |iter s pos=>
  obtain ⟨b,n,ai,h⟩:=h;exact ⟨b,n,an.trans ai,h⟩
 |loop Y R p=>
  obtain ⟨l,rec,c,ai,h⟩:=h;refine ⟨l,rec,c,an.trans ai,⟨h.code,h.heap,h.params,h.assign,h.body,h.nt,h.st,fun q aN=> ?_,h.phi⟩⟩;obtain ⟨x,aa,rfl⟩:=bD.mem_ren aN;exact ae.ren_rel ρ x.2 _ (fun i aw=>ab i (bD.mem_ids aa i aw)) (h.regs x aa)
structure o4 (H:List aG) (done:List Nat) (obs:List aG):Prop where
 obs:obs=done.map (aF H)
 nodup:done.Nodup
 closed: ∀o∈done,∀i∈(aF H o).ids,i∈done
theorem xb {H:List aG} {n:Nat}: ∀(k:Nat) (todo done:List Nat) (obs:List aG) (q:List Nat×List aG) (eg:List aG) (dk:Nat),(jX k todo done obs).go H n=some (q,eg,dk)->
  obs=done.map (aF H)->done.Nodup->(∀o∈done,∀i∈(aF H o).ids,i∈done\/i∈todo)->eg=H/\dk=n/\o4 H q.1 q.2/\(∀i∈todo,i∈q.1)/\(∃m,q.1=done++m)/\
   ((∀o,∀i∈(aF H o).ids,(aF H i).live=true)->(∀i∈todo,(aF H i).live=true)->(∀i∈done,(aF H i).live=true)-> ∀i∈q.1,(aF H i).live=true)
 |0,todo,done,obs,q,eg,dk,e,_,_,_=>by simp[jX,HM.go]at e
 |k+1,[],done,obs,q,eg,dk,e,an,aQ,aB=>by
  simp only[jX]at e;obtain ⟨rfl,rfl,rfl⟩:=go_ret e;exact ⟨rfl,rfl,⟨an,aQ,fun o h i ab=>by simpa using aB o h i ab⟩,by simp,⟨[],by simp⟩,fun _ _ h=>h⟩
 |k+1,o::todo,done,obs,q,eg,dk,e,an,aQ,aB=>by
  simp only[jX]at e;cases ag:has done o
  ·simp only[ag,aM,HM.go]at e;have po:o∉done:=fun h=>by rw[yH.2 h]at ag;cases ag
   obtain ⟨aa,ad,al,aE,⟨m,aZ⟩,bu⟩:=xb k _ _ _ q eg dk e (by simp[an]) (by
     rw[List.nodup_append];exact ⟨aQ,by simp,fun a aR b ag=>by simp at ag;subst ag;rintro rfl;exact po aR⟩) (fun a aR i ab=>by
     rcases List.mem_append.1 aR with aR |aR
     ·rcases aB a aR i ab with h |h
      ·exact .inl (List.mem_append.2 (.inl h))
      ·rcases List.mem_cons.1 h with h |h
       ·exact .inl (by simp[h])
       ·exact .inr (List.mem_append.2 (.inl h))
     ·simp at aR;subst aR;exact .inr (List.mem_append.2 (.inr ab)))
   refine ⟨aa,ad,al,fun i ab=> ?_,⟨[o]++m,by rw[aZ];simp⟩,fun de cP nB=>bu de (fun i ab=> ?_) (fun i ab=> ?_)⟩
   ·rcases List.mem_cons.1 ab with h |h
    ·rw[aZ,h];simp
    ·exact aE i (List.mem_append.2 (.inl h))
   ·rcases List.mem_append.1 ab with h |h
    ·exact cP i (by simp[h])
    ·exact de o i h
   ·rcases List.mem_append.1 ab with h |h
    ·exact nB i h
    ·simp at h;subst h;exact cP i (by simp)
  ·simp only[ag,az]at e;have ds:=yH.1 ag;obtain ⟨aa,ad,al,aE,aZ,bu⟩:=xb k todo done obs q eg dk e an aQ (fun a aR i ab=>by
     rcases aB a aR i ab with h |h
     ·exact .inl h
     ·rcases List.mem_cons.1 h with h |h
      ·exact .inl (by rw[h];exact ds)
      ·exact .inr h)
   refine ⟨aa,ad,al,fun i ab=> ?_,aZ,fun de cP nB=>bu de (fun i ab=>cP i (by simp[ab])) nB⟩;rcases List.mem_cons.1 ab with h |h
   ·obtain ⟨m,aZ⟩:=aZ;rw[aZ,h];exact List.mem_append.2 (.inl ds)
   ·exact aE i h
theorem Xc {H:List aG} {n:Nat}: ∀(pre:List Nat) (k:Nat) (rest done:List Nat) (obs:List aG) (q:List Nat×List aG) (eg:List aG) (dk:Nat),(jX k (pre++rest) done obs).go H n=some (q,eg,dk)->
  (done++pre).Nodup-> ∃m,q.1=done++pre++m
 |[],k,rest,done,obs,q,eg,dk,e,aQ=>by
  have: ∀(k:Nat) (todo done:List Nat) (obs:List aG),(jX k todo done obs).go H n=some (q,eg,dk)-> ∃m,q.1=done++m:=by
   intro k
   induction k with
   |zero=>intro todo done obs e;simp[jX,HM.go]at e
   |succ k aO=>
    intro todo done obs e;cases todo with
    |nil=>
     simp only[jX]at e;obtain ⟨rfl,-,-⟩:=go_ret e;exact ⟨[],by simp⟩
    |cons o todo=>
     simp only[jX]at e;cases ag:has done o
     ·simp only[ag,aM,HM.go]at e;obtain ⟨m,hm⟩:=aO _ _ _ e;exact ⟨[o]++m,by rw[hm];simp⟩
     ·simp only[ag,az]at e;exact aO _ _ _ e
  simpa using this k rest done obs e
 |o::pre,0,rest,done,obs,q,eg,dk,e,aQ=>by simp[jX,HM.go]at e
 |o::pre,k+1,rest,done,obs,q,eg,dk,e,aQ=>by
  simp only[List.cons_append,jX]at e;have po:o∉done:=fun h=>by
   have:=(List.nodup_append.1 aQ).2.2 o h o (by simp);exact this rfl
  have ag:has done o=false:=by
   cases h:has done o
   ·rfl
   ·exact absurd (yH.1 h) po
  simp only[ag,aM,HM.go]at e;rw[List.append_assoc]at e;obtain ⟨m,hm⟩:=Xc pre k _ _ _ q eg dk e (by simpa using aQ);exact ⟨m,by rw[hm];simp⟩
theorem ZQ {n i:Nat}:i∈jE n↔i<n:=by
 induction n with
 |zero=>simp[jE]
 |succ n aO=>simp[jE,aO];omega
theorem aoP (n:Nat):(jE n).Nodup:=by
 induction n with
 |zero=>simp[jE]
 |succ n aO=>
  rw[jE,List.nodup_append];exact ⟨aO,by simp,fun a aR b ag=>by have:=ZQ.1 aR;simp at ag;omega⟩
theorem af8 {n i:Nat} (h:i<n):(jE n)[i]? =some i:=by
 induction n with
 |zero=>omega
 |succ n aO=>
  have ao:(jE n).length=n:=by
   clear h aO
   induction n with
   |zero=>rfl
   |succ n aO=>simp[jE,aO]
  rw[jE];rcases Nat.lt_or_ge i n with aa |aa
  ·rw[List.getElem?_append_left (by omega)];exact aO aa
  ·have:i=n:=by omega
   subst this;rw[List.getElem?_append_right (by omega)];simp[ao]
theorem Z5 (n:Nat):(jE n).length=n:=by
 induction n with
 |zero=>rfl
 |succ n aO=>simp[jE,aO]
section
variable {φ:bw} {ι:Nat->Value} {w:World} {H:List aG} {done:List Nat} {obs:List aG}
def jD (ι:Nat->Value) (done:List Nat):Nat->Value:=fun i=>ι (done.getD i 0)
def jf (done:List Nat) (obs:List aG):List aG:=obs.map (aG.ren (idx done))
theorem DL {o:Nat} (h:o∈done):jD ι done (idx done o)=ι o:=by
 unfold jD;rw[List.getD_eq_getElem?_getD,p3 h];rfl
theorem l8 (g:o4 H done obs) {i o:Nat} (h:done[i]? =some o):aF (jf done obs) i=(aF H o).ren (idx done):=by
 have e:=g.obs;subst e;simp[jf,aF,List.getD_eq_getElem?_getD,h]
theorem xA (g:o4 H done obs) {i:Nat} (h:done.length<=i):aF (jf done obs) i=.hole:=by
 have e:=g.obs;subst e;have:done[i]? =none:=List.getElem?_eq_none h;simp[jf,aF,List.getD_eq_getElem?_getD,this]
theorem Dz (g:o4 H done obs) {b:Nat} (h:ir (jD ι done) (jf done obs) b):ir ι H b:=by
 obtain ⟨i,aa,ad⟩:=h;cases ax:done[i]? with
 |none=>
  rw[xA g (List.getElem?_eq_none_iff.1 ax)]at aa;cases aa
 |some o=>
  rw[l8 g ax,aG.ren_owns]at aa;refine ⟨o,aa,?_⟩;rw[<-ad];simp[jD,List.getD_eq_getElem?_getD,ax]
theorem aaI [Env] (h:bR φ ι w H) (g:o4 H done obs) (ao: ∀o∈done,(aF H o).live=true):bR φ (jD ι done) w (jf done obs):=by
 have ab: ∀{i o:Nat},done[i]? =some o->jD ι done i=ι o:=fun {i o} ax=>by simp[jD,List.getD_eq_getElem?_getD,ax]
 refine ⟨fun i=> ?_,fun i j b aa ad al aE=> ?_,h.phi,fun i j ay=> ?_,h.glob⟩
 ·cases ax:done[i]? with
  |none=>rw[xA g (List.getElem?_eq_none_iff.1 ax)];trivial
  |some o=>
   rw[l8 g ax];exact (h.obj o).ren (idx done) (ab ax) fun k av=>DL (g.closed o (List.mem_of_getElem? ax) k av)
 ·cases ax:done[i]? with
  |none=>rw[xA g (List.getElem?_eq_none_iff.1 ax)]at aa;cases aa
  |some o=>
   cases n5:done[j]? with
   |none=>rw[xA g (List.getElem?_eq_none_iff.1 n5)]at ad;cases ad
   |some ib=>
    rw[l8 g ax,aG.ren_owns]at aa;rw[l8 g n5,aG.ren_owns]at ad;rw[ab ax]at al;rw[ab n5]at aE;have:=h.apart o ib b aa ad al aE;subst this;rw[<-KZ g.nodup ax,<-KZ g.nodup n5]
 ·cases ax:done[i]? with
  |none=>rw[xA g (List.getElem?_eq_none_iff.1 ax)]at ay;simp[aG.ids]at ay
  |some o=>
   rw[l8 g ax,aG.ren_ids]at ay;obtain ⟨k,av,rfl⟩:=List.mem_map.1 ay;have jm:=g.closed o (List.mem_of_getElem? ax) k av;rw[l8 g (p3 jm),aG.ren_live];exact ao k jm
theorem Z2 (g:o4 H done obs) (ao: ∀o∈done,(aF H o).live=true) {l:List Nat} (ds: ∀i∈l,i∈done): ∀i∈l.map (idx done),(aF (jf done obs) i).live=true:=by
 intro i ab;obtain ⟨k,av,rfl⟩:=List.mem_map.1 ab;rw[l8 g (p3 (ds k av)),aG.ren_live];exact ao k (ds k av)
theorem aaH (g:o4 H done obs) (ao: ∀o∈done,(aF H o).live=true): ∀i,i<(jf done obs).length->(aF (jf done obs) i).live=true:=by
 intro i ab;have e:=g.obs;have hi':i<done.length:=by
  rw[jf,e]at ab;simpa using ab
 have ax:done[i]? =some done[i]:=List.getElem?_eq_getElem hi';rw[l8 g ax,aG.ren_live];exact ao _ (List.getElem_mem hi')
theorem af0 (g:o4 H done obs):Step φ ι w H φ (jD ι done) w (jf done obs):=
 ⟨fun _ _ h=>h,fun _ _ _=>rfl,fun _ _ h=>.inl h,Nat.le_refl _,rfl,rfl,rfl,fun _ _ _=>rfl,fun _ h=>.inr (Dz g h)⟩
theorem bR.live_ids [Env] (h:bR φ ι w H): ∀o,∀i∈(aF H o).ids,(aF H i).live=true:=by
 exact h.ids
end
open Go.RowKit
section
variable {P:Program} {cx:bS} {φ:bw} {ι:Nat->Value} {w:World} {H:List aG} {n:Nat} {aC:List aG} {aJ:Nat}
theorem W8 [Env] {r fD:ae} (e:(Eh r).go H n=some (fD,aC,aJ)) (h:bR φ ι w H) {v:Value} (aA:r.rel φ ι w v) (ao: ∀i∈r.ids,(aF H i).live=true):
  aJ=n/\ ∃φ',ef φ ι w H φ' aC/\fD.rel φ' ι w v/\ ∀i∈fD.ids,(aF aC i).live=true:=by
 have key: ∀{x:HM dM},x=fT r->(x.bind fun d=>HM.ret (ae.dat d.t d.x)).go H n=some (fD,aC,aJ)->aJ=n/\ ∃φ',ef φ ι w H φ' aC/\fD.rel φ' ι w v/\ ∀i∈fD.ids,(aF aC i).live=true:=by
  intro x aw e;subst aw;obtain ⟨d,H1,cC,ai,aq⟩:=HM.go_bind_some e;obtain ⟨rfl,rfl,rfl⟩:=go_ret aq;obtain ⟨aa,cT,g,aX⟩:=rq r φ v H n d _ _ ai h aA ao;exact ⟨aa,cT,g,gC aX,by simp[ae.ids]⟩
 unfold Eh at e;split at e
 ·rename_i l;exact key (x:=sB l) (by simp[fT]) e
 ·exact key rfl e
 ·exact key rfl e
 ·exact key (x:=.ret ⟨.list _,[]⟩) (by simp[fT]) e
 ·exact key (x:=.ret ⟨.list _,_⟩) (by simp[fT]) e
 ·obtain ⟨rfl,rfl,rfl⟩:=go_ret e;exact ⟨rfl,φ,ef.refl h,aA,ao⟩
theorem VQ [Env] {f:FuncId}: ∀(l:List ae) (j:Nat) (vs:List Value) (φ:bw) (H:List aG) (n:Nat) (eJ:List ae) (aC:List aG) (aJ:Nat),(yD cx f j l).go H n=some (eJ,aC,aJ)->bR φ ι w H->ae.relT φ ι w l vs->(∀i∈ae.idsL l,(aF H i).live=true)->
  aJ=n/\ ∃φ',ef φ ι w H φ' aC/\ae.relT φ' ι w eJ vs/\ ∀i∈ae.idsL eJ,(aF aC i).live=true
 |[],j,vs,φ,H,n,eJ,aC,aJ,e,h,aA,ao=>by
  simp only[yD]at e;obtain ⟨rfl,rfl,rfl⟩:=go_ret e;exact ⟨rfl,φ,ef.refl h,aA,ao⟩
 |r::l,j,vs,φ,H,n,eJ,aC,aJ,e,h,⟨v,m,aX,aa,ad⟩,ao=>by
  subst aX;simp only[yD]at e;obtain ⟨au,H1,cC,ai,e⟩:=HM.go_bind_some e;obtain ⟨de,eg,dk,aq,e⟩:=HM.go_bind_some e;obtain ⟨rfl,rfl,rfl⟩:=go_ret e;have vI: ∀i∈r.ids,(aF H i).live=true:=fun i ab=>ao i (by simp[ae.idsL,ab])
  have q:cC=n/\ ∃φ',ef φ ι w H φ' H1/\au.rel φ' ι w v/\ ∀i∈au.ids,(aF H1 i).live=true:=by
   cases ag:cx.rawArg f j
   ·simp only[ag,aM]at ai;exact W8 ai h aa vI
   ·simp only[ag,az]at ai;obtain ⟨rfl,rfl,rfl⟩:=go_ret ai;exact ⟨rfl,φ,ef.refl h,aa,vI⟩
  obtain ⟨rfl,cT,g1,An,ar9⟩:=q;obtain ⟨rfl,dv,g2,asA,gP⟩:=VQ l (j+1) m cT H1 _ de _ _ aq g1.rel (ae.relT_mono g1.step.phi g1.step.cells l m (fun _ _=>rfl) ad) (fun i ab=>by rw[g1.live];exact ao i (by simp[ae.idsL,ab]));refine ⟨rfl,dv,g1.trans g2,⟨v,m,rfl,ae.rel_mono g2.step.phi g2.step.cells au v (fun _ _=>rfl) An,asA⟩,fun i ab=> ?_⟩;simp only[ae.idsL,List.mem_append]at ab;rcases ab with ab |ab
  ·rw[g2.live];exact ar9 i ab
  ·exact gP i ab
structure Ie (ρ:Nat->Nat) (os:List Nat) (l:List aG) (H:List aG) (n:Nat) (aC:List aG) (aJ:Nat):Prop where
 le:os.length<=l.length
 next:aJ=n+(l.length-os.length)
 old: ∀i o,os[i]? =some o->aF aC o=(aF l i).ren ρ
 new: ∀j,j<l.length-os.length->aF aC (n+j)=(aF l (os.length+j)).ren ρ
 other: ∀o,o∉os->(o<n\/aJ<=o)->aF aC o=aF H o
 len:H.length<=aC.length
 top:aJ<=aC.length
 seq:n=H.length->aC.length=aJ
theorem ang (H:List aG) (o:Nat) (b:aG) (an:o<=H.length):H.length<=(bM H o b).length/\o+1<=(bM H o b).length/\(o<H.length->(bM H o b).length=H.length)/\(o=H.length->(bM H o b).length=o+1):=by
 rcases Nat.lt_or_ge o H.length with h |h
 ·have:=gM H o b h;exact ⟨by omega,by omega,fun _=>this,fun h=>by omega⟩
 ·have:o=H.length:=by omega
  subst this;have:=rB H b;exact ⟨by omega,by omega,fun h=>by omega,fun _=>this⟩
theorem X5 {ρ:Nat->Nat}: ∀(l:List aG) (H:List aG) (n:Nat) (u:Unit) (aC:List aG) (aJ:Nat),(p5 ρ [] l).go H n=some (u,aC,aJ)->n<=H.length->Ie ρ [] l H n aC aJ
 |[],H,n,u,aC,aJ,e,aQ=>by
  simp only[p5]at e;obtain ⟨-,rfl,rfl⟩:=go_ret e;exact ⟨Nat.le_refl _,rfl,by simp,by simp,fun _ _ _=>rfl,Nat.le_refl _,aQ,fun h=>h.symm⟩
 |b::l,H,n,u,aC,aJ,e,aQ=>by
  simp only[p5,HM.go]at e;obtain ⟨a1,k2,b8,dD⟩:=ang H n (b.ren ρ) aQ;have aO:=X5 l (bM H n (b.ren ρ)) (n+1) u aC aJ e k2;have ai:=aO.next;simp only[List.length_nil,Nat.sub_zero]at ai;refine ⟨by simp,by rw[ai];simp;omega,by simp,fun j ay=> ?_,fun o an h=> ?_,Nat.le_trans a1 aO.len,aO.top,fun h=>aO.seq (dD h).symm⟩
  ·cases j with
   |zero=>
    rw[Nat.add_zero,aO.other n (by simp) (.inl (by omega)),fm H n _ n aQ];simp[aF]
   |succ j=>
    have:=aO.new j (by simp at ay ⊢;omega);rw[show n+(j+1)=n+1+j by omega,this];simp[aF]
  ·rw[aO.other o (by simp) (by omega),fm H n _ o aQ];rw[if_neg];omega
theorem XO {ρ:Nat->Nat}: ∀(os:List Nat) (l:List aG) (H:List aG) (n:Nat) (u:Unit) (aC:List aG) (aJ:Nat),(p5 ρ os l).go H n=some (u,aC,aJ)->n<=H.length->os.Nodup->(∀o∈os,o<H.length/\(o<n\/aJ<=o))->Ie ρ os l H n aC aJ
 |[],l,H,n,u,aC,aJ,e,aQ,_,_=>X5 l H n u aC aJ e aQ
 |o::os,[],H,n,u,aC,aJ,e,aQ,_,_=>by simp[p5,HM.go]at e
 |o::os,b::l,H,n,u,aC,aJ,e,aQ,dT,bb=>by
  simp only[p5,HM.go]at e;have an:=(bb o (by simp)).1;have hlen:=gM H o (b.ren ρ) an;have aO:=XO os l (bM H o (b.ren ρ)) n u aC aJ e (by rw[hlen];exact aQ) (by simp at dT;exact dT.2) (fun p aP=>by rw[hlen];exact bb p (by simp[aP]));have jq:o∉os:=by simp at dT;exact dT.1
  refine ⟨by simpa using aO.le,by rw[aO.next];simp,fun i p aP=> ?_,fun j ay=> ?_,fun p aP h=> ?_,by rw[<-hlen];exact aO.len,aO.top,fun h=>aO.seq (by rw[hlen];exact h)⟩
  ·cases i with
   |zero=>
    obtain rfl:o=p:=by simpa using aP
    rw[aO.other o jq (bb o (by simp)).2,fm H o _ o (Nat.le_of_lt an)];simp[aF]
   |succ i=>
    have:=aO.old i p (by simpa using aP);rw[this];simp[aF]
  ·have:=aO.new j (by simpa using ay);rw[this];simp only[List.length_cons,aF];rw[show os.length+1+j=(os.length+j)+1 by omega];simp
  ·rw[aO.other p (fun h=>aP (by simp[h])) h,fm H o _ p (Nat.le_of_lt an),if_neg];rintro rfl;exact aP (by simp)
theorem aom [Env] {done:List Nat} {obs L:List aG} {φ':bw} {ι':Nat->Value} {w':World} (h:bR φ ι w H) (g:o4 H done obs) (ao: ∀o∈done,(aF H o).live=true) (dt:hG H n aJ)
  (b:Ie (fun i=>done.getD i (n+(i-done.length))) done L H n aC aJ) (cb:bR φ' ι' w' L) (s:Step φ (jD ι done) w (jf done obs) φ' ι' w' L) (k:dA (jD ι done) (jf done obs) ι' L):
  ∃gh,bR φ' gh w' aC/\Step φ ι w H φ' gh w' aC/\dA ι H gh aC/\hy H n aC aJ/\ ∀i,(aF L i).live=true->gh (done.getD i (n+(i-done.length)))=ι' i/\(aF aC (done.getD i (n+(i-done.length)))).live=true:=by
 let ρ:Nat->Nat:=fun i=>done.getD i (n+(i-done.length))
 let gh:Nat->Value:=fun o=>if o∈done then ι' (idx done o) else if n<=o/\o<aJ then ι' (done.length+(o-n)) else ι o
 have hle:=b.le;have awB:=b.next;have eI: ∀{H:List aG} {i:Nat},(aF H i).owns=true->(aF H i).live=true:=fun {H i} an=>by cases cR:aF H i<;>rw[cR]at an<;>first |rfl |(cases an)
 have arH: ∀o∈done,o<n\/aJ<=o:=fun o an=>by
  rcases Nat.lt_or_ge o n with aa |aa
  ·exact .inl aa
  ·rcases Nat.lt_or_ge o aJ with ad |ad
   ·have:=dt.2 o aa ad;rw[ao o an]at this;cases this
   ·exact .inr ad
 have A: ∀o,(o∈done\/(n<=o/\o<aJ))-> ∃i,i<L.length/\ρ i=o/\gh o=ι' i/\aF aC o=(aF L i).ren ρ:=by
  intro o an;by_cases ax:o∈done
  ·refine ⟨idx done o,Nat.lt_of_lt_of_le (agY ax) hle,?_,by simp[gh,ax],b.old _ o (p3 ax)⟩;simp[ρ,List.getD_eq_getElem?_getD,p3 ax]
  ·have an:=an.resolve_left ax;refine ⟨done.length+(o-n),by omega,?_,by simp[gh,ax,an],?_⟩
   ·simp[ρ,List.getD_eq_getElem?_getD];omega
   ·have:=b.new (o-n) (by omega)
    rwa [show n+(o-n)=o by omega]at this
 have B: ∀i,i<L.length->(ρ i∈done\/(n<=ρ i/\ρ i<aJ))/\gh (ρ i)=ι' i/\aF aC (ρ i)=(aF L i).ren ρ:=by
  intro i ab;rcases Nat.lt_or_ge i done.length with aa |aa
  ·have ai:done[i]? =some (done[i]):=List.getElem?_eq_getElem aa;have aq:ρ i=done[i]:=by simp[ρ,List.getD_eq_getElem?_getD,ai]
   have ax:done[i]∈done:=List.getElem_mem aa;rw[aq];exact ⟨.inl ax,by simp[gh,ax,KZ g.nodup ai],b.old i _ ai⟩
  ·have aq:ρ i=n+(i-done.length):=by simp[ρ,List.getD_eq_getElem?_getD,List.getElem?_eq_none aa]
   have dT:ρ i∉done:=fun ax=>by rcases arH _ ax with h |h<;>omega
   refine ⟨.inr (by omega),?_,?_⟩
   ·have al:n<=ρ i/\ρ i<aJ:=by omega
    simp only[gh,dT,if_false,al,and_self,if_true];rw[aq];congr 1;omega
   ·have:=b.new (i-done.length) (by omega);rw[aq,this];congr 2;omega
 have C: ∀o,¬(o∈done\/(n<=o/\o<aJ))->aF aC o=aF H o/\gh o=ι o:=by
  intro o an;have aa:o∉done:=fun h=>an (.inl h)
  have ad: ¬(n<=o/\o<aJ):=fun h=>an (.inr h)
  exact ⟨b.other o aa (by omega),by simp only[gh,aa,if_false,ad]⟩
 have vH: ∀o,(aF H o).live=true->gh o=ι o:=by
  intro o an;by_cases ax:o∈done
  ·have ai:=p3 ax;have aa:(aF (jf done obs) (idx done o)).live=true:=by rw[l8 g ai,aG.ren_live];exact an
   simp only[gh,ax,if_true];rw[k.iota _ aa,DL ax]
  ·by_cases aA:n<=o/\o<aJ
   ·rw[dt.2 o aA.1 aA.2]at an;cases an
   ·exact (C o (by simp[ax,aA])).2
 have ej: ∀o,(aF H o).live=true->(aF aC o).live=true:=by
  intro o an;by_cases ax:o∈done
  ·have ai:=p3 ax;have aa:(aF (jf done obs) (idx done o)).live=true:=by rw[l8 g ai,aG.ren_live];exact an
   have:=k.live _ aa;rw[b.old _ o ai,aG.ren_live];exact this
  ·by_cases aA:n<=o/\o<aJ
   ·rw[dt.2 o aA.1 aA.2]at an;cases an
   ·rw[(C o (by simp[ax,aA])).1];exact an
 have Nw: ∀{i},(aF L i).live=true->i<L.length:=fun ab=>fo ab
 have pt: ∀o et,¬(o∈done\/(n<=o/\o<aJ))->(aF H o).owns=true->c6 (ι o)=some et->et<w.heap.size/\ ¬ir (jD ι done) (jf done obs) et:=by
  intro o et an aa ad;refine ⟨sg h aa ad,?_⟩;rintro ⟨i,al,aE⟩;cases ax:done[i]? with
  |none=>rw[xA g (List.getElem?_eq_none_iff.1 ax)]at al;cases al
  |some ib=>
   rw[l8 g ax,aG.ren_owns]at al;have e:jD ι done i=ι ib:=by simp[jD,List.getD_eq_getElem?_getD,ax]
   rw[e]at aE;have:=h.apart o ib et aa al ad aE;exact an (.inl (by rw[this];exact List.mem_of_getElem? ax))
 have ab4: ∀i j et,(i∈done\/(n<=i/\i<aJ))-> ¬(j∈done\/(n<=j/\j<aJ))->(aF aC i).owns=true->(aF aC j).owns=true->c6 (gh i)=some et->c6 (gh j)=some et->False:=by
  intro i j et ab ay aa ad al aE;obtain ⟨x,mM,nz,q2,px⟩:=A i ab;obtain ⟨a7,aY⟩:=C j ay;rw[a7]at ad;rw[aY]at aE;rw[px,aG.ren_owns]at aa;rw[q2]at al;obtain ⟨a1,k2⟩:=pt j et ay ad aE;rcases s.own et ⟨x,aa,al⟩ with aZ |aZ
  ·omega
  ·exact k2 aZ
 have asu: ∀et,ir gh aC et->w.heap.size<=et\/ir ι H et:=by
  rintro et ⟨o,aa,ad⟩;by_cases dc:o∈done\/(n<=o/\o<aJ)
  ·obtain ⟨x,mM,nz,q2,px⟩:=A o dc;rw[px,aG.ren_owns]at aa;rw[q2]at ad;exact (s.own et ⟨x,aa,ad⟩).imp id (Dz g)
  ·obtain ⟨a7,aY⟩:=C o dc;rw[a7]at aa;rw[aY]at ad;exact .inr ⟨o,aa,ad⟩
 refine ⟨gh,⟨fun o=> ?_,fun i j et aa ad al aE=> ?_,cb.phi,fun o j ay=> ?_,cb.glob⟩,⟨s.phi,s.cells,fun et cB ag=> ?_,s.size,s.os,s.tape,s.output,fun et ag an=>s.blocks et ag fun aB=>an (Dz g aB),asu⟩,⟨vH,ej⟩,⟨by omega,b.len,fun _=>b.top,fun i ab=> ?_,b.seq⟩,fun i ab=> ?_⟩
 ·by_cases dc:o∈done\/(n<=o/\o<aJ)
  ·obtain ⟨x,mM,nz,q2,px⟩:=A o dc;rw[px];exact (cb.obj x).ren ρ q2 fun j ay=>(B j (Nw (cb.live_ids x j ay))).2.1
  ·obtain ⟨a7,aY⟩:=C o dc;rw[a7];refine (h.obj o).keep s.phi s.cells (fun _=>aY) (fun j ay=>vH j (h.live_ids o j ay)) fun et an ag=> ?_
   obtain ⟨a1,k2⟩:=pt o et dc an ag;refine ⟨s.blocks et a1 k2,fun cB av=> ?_⟩;rcases s.newphi et cB av with aa |aa |aa
   ·exact aa
   ·omega
   ·exact absurd aa k2
 ·by_cases dc:i∈done\/(n<=i/\i<aJ)
  ·by_cases zP:j∈done\/(n<=j/\j<aJ)
   ·obtain ⟨x,mM,nz,q2,px⟩:=A i dc;obtain ⟨y,awH,asZ,as0,as1⟩:=A j zP;rw[px,aG.ren_owns]at aa;rw[as1,aG.ren_owns]at ad;rw[q2]at al;rw[as0]at aE;have:=cb.apart x y et aa ad al aE;subst this;rw[<-nz,<-asZ]
   ·exact (ab4 i j et dc zP aa ad al aE).elim
  ·by_cases zP:j∈done\/(n<=j/\j<aJ)
   ·exact (ab4 j i et zP dc ad aa aE al).elim
   ·obtain ⟨a7,aY⟩:=C i dc;obtain ⟨d1,d2⟩:=C j zP;rw[a7]at aa;rw[d1]at ad;rw[aY]at al;rw[d2]at aE;exact h.apart i j et aa ad al aE
 ·by_cases dc:o∈done\/(n<=o/\o<aJ)
  ·obtain ⟨x,mM,nz,q2,px⟩:=A o dc;have fR:j∈((aF L x).ren ρ).ids:=by rw[<-px];exact ay
   rw[aG.ren_ids]at fR;obtain ⟨y,bf,rfl⟩:=List.mem_map.1 fR;have Az:=cb.live_ids x y bf;rw[(B y (Nw Az)).2.2,aG.ren_live];exact Az
  ·rw[(C o dc).1]at ay;exact ej j (h.ids o j ay)
 ·rcases s.newphi et cB ag with aa |aa |aa
  ·exact .inl aa
  ·exact .inr (.inl aa)
  ·exact .inr (.inr (Dz g aa))
 ·by_cases ax:i∈done
  ·rw[ao i ax,ej i (ao i ax)]
  ·rw[(C i (by simp[ax];omega)).1]
 ·have:=B i (Nw ab);refine ⟨this.2.1,?_⟩;rw[this.2.2,aG.ren_live];exact ab
theorem Hc [Env] {Γ:gi} (cE:bL P Γ) {f:FuncId} {args:List ae} {vs:Array Value} {r:ae} (e:(p2 cx Γ f args).go H n=some (r,aC,aJ)) (h:bR φ ι w H) (aR:ae.relT φ ι w args vs.toList) (h8: ∀i∈ae.idsL args,(aF H i).live=true) (dt:hG H n aJ):
  iq P f vs w fun e w'=> ∃v φ' ι',e=.returned v/\bR φ' ι' w' aC/\Step φ ι w H φ' ι' w' aC/\dA ι H ι' aC/\hy H n aC aJ/\r.rel φ' ι' w' v/\(∀i∈r.ids,(aF aC i).live=true):=by
 unfold p2 at e;obtain ⟨YX,H1,cC,ai,E7⟩:=HM.go_bind_some e;clear e;obtain ⟨rfl,cT,g1,vC,atg⟩:=VQ args 0 vs.toList φ H n YX H1 cC ai h aR h8;obtain ⟨nE,eg,dk,aq,MM⟩:=HM.go_bind_some E7;clear E7;have bj:=xb 200 _ [] [] nE eg dk aq rfl (by simp) (by simp);clear aq;obtain ⟨done,obs⟩:=nE;obtain ⟨aa,ad,lh,ds,-,ft⟩:=bj;subst aa ad;have ny:=ft g1.rel.live_ids atg (by simp);simp only at lh ds ny MM;obtain ⟨⟨au,L⟩,ko,n3,bc,kA⟩:=HM.go_bind_some MM;clear MM;rw[HM.go_ofDT]at bc;obtain ⟨q,aN,bc⟩:=Option.map_eq_some_iff.1 bc;simp only[cw]at bc;obtain ⟨rfl,rfl,rfl⟩:=bc;simp only[HM.go]at kA;obtain ⟨u,HB,n4,bz,aqT⟩:=HM.go_bind_some kA;clear kA;obtain ⟨rfl,rfl,rfl⟩:=go_ret aqT;have aB:=cE _ _ _ _ _ aN;have iT:hG eg dk aJ:=dt.ghost g1;have cM:=XO done L eg dk u aC aJ bz iT.1 lh.nodup fun o an=>⟨fo (ny o an),by
  rcases Nat.lt_or_ge o dk with aa |aa
  ·exact .inl aa
  ·rcases Nat.lt_or_ge o aJ with ad |ad
   ·have:=iT.2 o aa ad;rw[ny o an]at this;cases this
   ·exact .inr ad⟩
 have zU:=aB cT (jD ι done) w vs (aaI g1.rel lh ny) (fun i ab=>aaH lh ny i ab) (ae.renL_relT (idx done) YX _ (fun i ab=>DL (ds i ab)) vC) (by
  rw[ae.renL_ids];exact Z2 lh ny ds)
 refine iq.mono zU fun e w'=> ?_
 rintro ⟨v,φ',ι',he,cb,s,k,aA,ao⟩;obtain ⟨gh,b1,b2,b3,gL,gX⟩:=aom g1.rel lh ny iT cM cb s k;refine ⟨v,φ',gh,he,b1,g1.step.trans b2,g1.keep.trans b3,(g1.nx dk).trans gL,ae.ren_rel _ au v (fun i ab=>(gX i (ao i ab)).1) aA,fun i ab=> ?_⟩;rw[ae.ren_ids]at ab;obtain ⟨j,ay,rfl⟩:=List.mem_map.1 ab;exact (gX j (ao j ay)).2
end
open Go.RowKit
theorem u0 {e d:Nat} (h: ¬e=d):Nat.beq e d=false:=by
 cases ag:Nat.beq e d
 ·rfl
 ·exact absurd (Nat.eq_of_beq_eq_true ag) h
theorem bD.get_put (R:bD) (d:Nat) (r:ae) (e:Nat):(R.put d r).get e=if e=d then some r else R.get e:=by
 induction R with
 |nil=>
  simp only[bD.put,bD.get];by_cases h:e=d
  ·subst h;simp
  ·have:Nat.beq e d=false:=u0 h;simp[this,h]
 |cons p l aO=>
  obtain ⟨k,s⟩:=p;simp only[bD.put];cases aa:Nat.beq d k
  ·cases ad:Nat.blt d k
   ·simp only[aM,bD.get];rw[aO];cases al:Nat.beq e k
    ·rfl
    ·have ai:e=k:=by simpa using al
     have: ¬e=d:=by
      rintro rfl;rw[ai]at aa;simp at aa
     simp[this]
   ·simp only[aM,az,bD.get];by_cases h:e=d
    ·subst h;simp
    ·have:Nat.beq e d=false:=u0 h;simp[this,h]
  ·have ai:d=k:=by simpa using aa
   subst ai;simp only[az,bD.get];by_cases h:e=d
   ·subst h;simp
   ·have:Nat.beq e d=false:=u0 h;simp[this,h]
structure hV where
 n:Nat
 base:Nat
 D:List Deferred
 ro:Option Nat
 nm:Bool
def hV.rf (nt:hV):Prop:=nt.ro=none/\nt.nm=false
def hV.df (nt:hV):Prop:=nt.ro=none/\nt.nm=true/\nt.D=[]
def u4 (r:Nat):Deferred:={target:=.collected r,args:= #[]}
def qo (d:Deferred):Value:=match d.target with
 | .fn f y=>.func f d.args y
 |_=>undef
def Marks (nt:hV) (w:World) (Own:Nat->Prop) (ei:List Deferred):Prop:=
 nt.base<=w.heap.size/\(nt.nm=false-> ∃ms:List Nat,ei=ms.map u4++nt.D/\ms.Nodup/\ ∀r∈ms,nt.base<=r/\w.heap[r]? =some (.deferred (some []))/\ ¬Own r)
def lE (a:Act) (d:Nat):Value:=bif Nat.beq d c1 then .tuple (a.defers.map qo).toArray else a.tmps.getD d undef
theorem hp {a:Act} {d:Nat} (h:d≠c1):lE a d=a.tmps.getD d undef:=by
 have:Nat.beq d c1=false:=u0 h;simp[lE,this]
theorem oV {a:Act}:lE a c1=.tuple (a.defers.map qo).toArray:=by
 have:Nat.beq c1 c1=true:=Nat.beq_refl c1;simp[lE,this]
theorem Marks.step {nt:hV} {φ:bw} {ι:Nat->Value} {w:World} {H:List aG} {φ':bw} {ι':Nat->Value} {w':World} {aC:List aG} {ei:List Deferred} (m:Marks nt w (ir ι H) ei) (s:Step φ ι w H φ' ι' w' aC):Marks nt w' (ir ι' aC) ei:=by
 obtain ⟨bY,m⟩:=m;refine ⟨Nat.le_trans bY s.size,fun aQ=> ?_⟩;obtain ⟨ms,aa,ad,al⟩:=m aQ;refine ⟨ms,aa,ad,fun r aA=> ?_⟩;obtain ⟨a1,k2,b8⟩:=al r aA;have bb:=(Array.getElem?_eq_some_iff.1 k2).1;exact ⟨a1,(s.blocks r bb b8).trans k2,fun h=>(s.own r h).elim (fun aE=>by omega) b8⟩
structure cO [Env] (φ:bw) (ι:Nat->Value) (w:World) (N:hV) (st:bn) (a:Act):Prop where
 heap:bR φ ι w st.heap
 regs: ∀d r,st.regs.get d=some r->r.rel φ ι w (lE a d)/\ ∀i∈r.ids,(aF st.heap i).live=true
 nt:a.tmps.size=N.n
 small:N.n<=c1
 defers:Marks N w (ir ι st.heap) a.defers
def sK (o:Oper):Bool:=match o.op with
 | .defer _=>true
 |_=>false
theorem aoo {t:aD} {x:t.den}:t.cast? t x=some x:=by simp[aD.cast?]
def nT (nt:Nat) (o:Oper):Bool:=match o.dst with
 |some d=>Nat.blt d nt
 |none=>true
section
variable {P:Program} {cx:bS} {Γ:gi} {φ:bw} {ι:Nat->Value} {w:World} {nt:hV} {st:bn} {a:Act} {n aJ:Nat}
theorem apU (v:Value):(D2 v).rel φ ι w v/\(D2 v).ids=[]:=by
 unfold D2;split
 ·exact ⟨gC (cf.bool.2 rfl),rfl⟩
 ·exact ⟨gC (cf.int.2 rfl),rfl⟩
 ·rename_i s;refine ⟨gC (cf.str.2 ?_),rfl⟩;congr 1
 ·exact ⟨rfl,rfl⟩
 ·exact ⟨rfl,rfl⟩
 ·exact ⟨rfl,rfl⟩
 ·exact ⟨rfl,rfl⟩
 ·exact ⟨trivial,rfl⟩
theorem cO.eval [Env] (s:cO φ ι w nt st a):sF φ ι w st.heap (gB st.regs) a.eval:=by
 intro x;cases x with
 |tmp t=>
  simp only[gB,Act.eval];cases ag:Nat.beq t c1 with
  |true=>exact ⟨trivial,by simp[ae.ids]⟩
  |false=>
   simp only[aM];cases h:st.regs.get t with
   |none=>exact ⟨trivial,by simp[ae.ids]⟩
   |some r=>
    have:=s.regs t r h;rw[hp (fun e=>by subst e;simp at ag)]at this;exact this
 |const v=>
  have:=apU (φ:=φ) (ι:=ι) (w:=w) v;exact ⟨this.1,by simp only[gB];rw[this.2];simp⟩
 |global g=>
  simp only[gB,Act.eval];cases h:Env.glob g with
  |nil=>exact ⟨trivial,by simp[ae.ids]⟩
  |cons x l=>
   have:=s.heap.glob g;rw[h]at this;exact ⟨⟨rfl,this⟩,by simp[ae.ids]⟩
 |func f=>exact ⟨R3 ⟨#[],#[],rfl,rfl,rfl⟩,by simp[gB,ae.ids,ae.idsL]⟩
theorem cO.after [Env] {φ':bw} {ι':Nat->Value} {w':World} {aC:List aG} (s:cO φ ι w nt st a) (cb:bR φ' ι' w' aC) (t:Step φ ι w st.heap φ' ι' w' aC) (k:dA ι st.heap ι' aC)
  {dst:Option Tmp} {r:ae} {v:Value} (ax: ∀d,dst=some d->d<nt.n) (aA:r.rel φ' ι' w' v) (ao: ∀i∈r.ids,(aF aC i).live=true):cO φ' ι' w' nt ⟨km st.regs dst r,aC⟩ (a.put dst v):=by
 have old: ∀e x,st.regs.get e=some x->x.rel φ' ι' w' (lE a e)/\ ∀i∈x.ids,(aF aC i).live=true:=fun e x aw=>
  ⟨ae.rel_step t k (s.regs e x aw).2 (s.regs e x aw).1,fun i ab=>k.live i ((s.regs e x aw).2 i ab)⟩
 cases dst with
 |none=>exact ⟨cb,old,s.nt,s.small,s.defers.step t⟩
 |some d=>
  refine ⟨cb,fun e x aw=> ?_,by simp[Act.put,s.nt],s.small,s.defers.step t⟩;have aw:(st.regs.put d r).get e=some x:=aw;rw[bD.get_put]at aw;by_cases he:e=d
  ·subst he;simp only[if_true,bt]at aw;subst aw;have bb:e<a.tmps.size:=by rw[s.nt];exact ax e rfl
   have:lE (a.put (some e) v) e=v:=by
    rw[hp (by have:=s.small;have:=s.nt;omega)];simp[Act.put,Array.getD_eq_getD_getElem?,bb]
   rw[this];exact ⟨aA,ao⟩
  ·simp only[he,if_false]at aw;have:lE (a.put (some d) v) e=lE a e:=by
    have cp:d≠e:=fun h=>he h.symm
    simp[lE,Act.put,Array.getD_eq_getD_getElem?,Array.getElem?_setIfInBounds,cp]
   rw[this];exact old e x aw
theorem ao2 [Env] (tab:cA P cx) (cE:bL P Γ) {o:Oper} {ev:Operand->ae} {H:List aG} {r:ae} {aC:List aG} (e:(lO cx Γ o ev).go H n=some (r,aC,aJ)) (h:bR φ ι w H) (cH:sF φ ι w H ev a.eval) (dt:hG H n aJ):e4 P o a φ ι w H n r aC aJ:=by
 have dT: ∀c,o.op=.call c-> ∀d,o.op≠ .defer d:=fun c aB d ax=>by rw[aB]at ax;cases ax
 refine aoC tab (fun c x g l m an aB aw aA e=> ?_) (fun c x nm T au i f an aB aw ab aK aA e=> ?_) (fun c x Y eM an aB aw aA e=> ?_) e h cH dt
 case refine_3=>
  have py:=(cH x).1;have l2:=(cH x).2;rw[aw]at py l2;have asX:=py;obtain ⟨-,l,aX⟩:=asX;have al:ae.relT φ ι w (hF cx c.argTypes.toList (c.args.toList.map ev)) (c.args.map a.eval).toList:=by simpa using yA (cx:=cx) c.argTypes.toList _ _ (sm cH c.args.toList)
  have dy:ae.relT φ ι w (.yld Y eM::hF cx c.argTypes.toList (c.args.toList.map ev)) (#[a.eval x]++c.args.map a.eval).toList:=by
   rw[Array.toList_append];exact ⟨a.eval x,_,rfl,py,al⟩
  have ft: ∀i∈ae.idsL (.yld Y eM::hF cx c.argTypes.toList (c.args.toList.map ev)),(aF H i).live=true:=by
   intro i ab;simp only[ae.idsL,List.mem_append]at ab;rcases ab with ab |ab
   ·exact l2 i ab
   ·exact se cH _ i (yz _ _ i ab)
  obtain ⟨eJ,Fv,fn,tmps,assign,body,bf,kF⟩:=(iq.round aA).1 (Hc cE e h dy ft dt);have pk:eJ=l:=by
   have:(#[a.eval x]++c.args.map a.eval)[0]? =some (a.eval x):=by
    rw[Array.getElem?_append_left (by exact Nat.zero_lt_one)];rfl
   rw[this,aX]at Fv;simpa using Fv.symm
  subst pk;have z1:(#[a.eval x]++c.args.map a.eval).extract 1 (#[a.eval x]++c.args.map a.eval).size=c.args.map a.eval:=by
   rw[Array.extract_append];simp
  rw[z1]at bf;intro ro next Q k;refine sw (dT c an) ?_;have he:(execOp a.eval o).run P w=.ok (.round eJ fn tmps assign body) w:=by
   simp only[execOp,an,resolve,aB,aX,Deferred.ofValue,pure_bind,invoke];simpa using bf
  rw[he,Oper.uponIn_round];refine ⟨fun h=>(by cases h),RoundIn.mono (R:=_) (show RoundIn (ed ro) 0 P eJ fn tmps assign body w _ from kF) fun e w'=> ?_⟩;rintro ⟨v,φ',ι',rfl,b1,b2,b3,gL,gX,jG⟩;exact k v w' φ' ι' b1 b2 b3 gL gX jG
 case refine_2=>
  have py:=(cH x).1;have l2:=(cH x).2;rw[aw]at py l2;obtain ⟨u,aX,aa⟩:=py;have al:ae.relT φ ι w (hF cx c.argTypes.toList (c.args.toList.map ev)) (c.args.map a.eval).toList:=by simpa using yA (cx:=cx) c.argTypes.toList _ _ (sm cH c.args.toList)
  have dy:ae.relT φ ι w (au::hF cx c.argTypes.toList (c.args.toList.map ev)) (#[u]++c.args.map a.eval).toList:=by
   rw[Array.toList_append];exact ⟨u,_,rfl,aa,al⟩
  have ft: ∀i∈ae.idsL (au::hF cx c.argTypes.toList (c.args.toList.map ev)),(aF H i).live=true:=by
   intro i ab;simp only[ae.idsL,List.mem_append]at ab;rcases ab with ab |ab
   ·exact l2 i (by simp[ae.ids,ab])
   ·exact se cH _ i (yz _ _ i ab)
  have q:=(iq.call aA).1 (Hc cE e h dy ft dt);intro ro next Q k;refine sw (dT c an) ?_;have hm:=(tab T i ab).meth nm f aK u w;have he:(execOp a.eval o).run P w=(callFunc f (#[u]++c.args.map a.eval)).run P w:=by
   have bo:(#[Value.iface T u]++c.args.map a.eval)[0]? =some (.iface T u):=by
    rw[Array.getElem?_append_left (by exact Nat.zero_lt_one)];rfl
   have z1:(#[Value.iface T u]++c.args.map a.eval).extract 1 (#[Value.iface T u]++c.args.map a.eval).size=c.args.map a.eval:=by
    rw[Array.extract_append];simp
   simp only[execOp,an,resolve,aB,aX,pure_bind,invoke,bo,z1,callMethod,Sem.run_bind,run_program,Result.andThen_ok];rw[hm];rfl
  rw[he];rcases q with ⟨bj,bU⟩|⟨v0,w',bj,v,φ',ι',iz,b1,b2,b3,gL,gX,jG⟩
  ·rw[bj];rw[Oper.uponIn_enter];refine ⟨fun h=>(by cases h),KC ro (Calls.mono bU fun e w'=> ?_)⟩;rintro ⟨v,φ',ι',rfl,b1,b2,b3,gL,gX,jG⟩;exact k v w' φ' ι' b1 b2 b3 gL gX jG
  ·injection iz with iz
   subst iz;rw[bj];rw[Oper.uponIn_value];exact k _ w' φ' ι' b1 b2 b3 gL gX jG
 have py:=(cH x).1;have l2:=(cH x).2;rw[aw]at py l2;obtain ⟨xs,aT,aX,aa,ad⟩:=py;have dy:ae.relT φ ι w (l++hF cx c.argTypes.toList (c.args.toList.map ev)++m) ((xs++c.args.map a.eval)++aT).toList:=by
  have app: ∀(l m:List ae) (xs aT:List Value),ae.relT φ ι w l xs->ae.relT φ ι w m aT->ae.relT φ ι w (l++m) (xs++aT):=by
   intro l
   induction l with
   |nil=>intro m xs aT aa ad;simp only[ae.relT]at aa;subst aa;exact ad
   |cons r l aO=>intro m xs aT aa ad;obtain ⟨v,pI,rfl,al,aE⟩:=aa;exact ⟨v,pI++aT,rfl,al,aO m pI aT aE ad⟩
  have al:ae.relT φ ι w (hF cx c.argTypes.toList (c.args.toList.map ev)) (c.args.map a.eval).toList:=by simpa using yA (cx:=cx) c.argTypes.toList _ _ (sm cH c.args.toList)
  rw[Array.toList_append,Array.toList_append];exact app _ _ _ _ (app _ _ _ _ aa al) ad
 have ft: ∀i∈ae.idsL (l++hF cx c.argTypes.toList (c.args.toList.map ev)++m),(aF H i).live=true:=by
  have app: ∀(l m:List ae),ae.idsL (l++m)=ae.idsL l++ae.idsL m:=by
   intro l m
   induction l with
   |nil=>rfl
   |cons r l aO=>simp[ae.idsL,aO]
  intro i ab;rw[app,app]at ab;simp only[List.mem_append]at ab;rcases ab with (ab |ab)|ab
  ·exact l2 i (by simp[ae.ids,ab])
  ·exact se cH _ i (yz _ _ i ab)
  ·exact l2 i (by simp[ae.ids,ab])
 have q:=(iq.call aA).1 (Hc cE e h dy ft dt);intro ro next Q k;refine sw (dT c an) ?_;have he:execOp a.eval o=callFunc g ((xs++c.args.map a.eval)++aT):=by
  simp only[execOp,an,resolve,aB,aX,Deferred.ofValue,pure_bind,invoke]
 rw[he];rcases q with ⟨bj,bU⟩|⟨v0,w',bj,v,φ',ι',iz,b1,b2,b3,gL,gX,jG⟩
 ·rw[bj];rw[Oper.uponIn_enter];refine ⟨fun h=>(by cases h),KC ro (Calls.mono bU fun e w'=> ?_)⟩;rintro ⟨v,φ',ι',rfl,b1,b2,b3,gL,gX,jG⟩;exact k v w' φ' ι' b1 b2 b3 gL gX jG
 ·injection iz with iz
  subst iz;rw[bj];rw[Oper.uponIn_value];exact k _ w' φ' ι' b1 b2 b3 gL gX jG
theorem Ca {R:bD} {d:Nat} {b:Bool} (h:(R.get d).bind kS=some b):R.get d=some (.dat .bool b):=by
 obtain ⟨x,aw,ag⟩:=Option.bind_eq_some_iff.1 h;unfold kS at ag;split at ag
 ·obtain rfl:=Option.some.inj ag;exact aw
 ·cases ag
theorem rH {R:bD} {d:Nat} {b:Bool} (h:R.get d=some (.dat .bool b)) (e:Nat):(refine R d b).get e=R.get e:=by
 unfold refine;rw[bD.get_put];split
 ·rename_i he;rw[he,h]
 ·rfl
theorem cO.regs_eq [Env] {R':bD} (s:cO φ ι w nt st a) (h: ∀e,R'.get e=st.regs.get e):cO φ ι w nt ⟨R',st.heap⟩ a:=
 ⟨s.heap,fun d r ax=>s.regs d r (by rw[<-h d];exact ax),s.nt,s.small,s.defers⟩
theorem Zl:(ae.tup []).rel φ ι w undef:=⟨#[],rfl,rfl⟩
theorem aof [Env] {o:Oper} {q:bn×Nat×cI} (e:(sq cx Γ o st n).val=some q):
  ∃r,(lO cx Γ o (gB st.regs)).go st.heap n=some (r,q.1.heap,q.2.1)/\q.1.regs=km st.regs o.dst r:=by
 unfold sq at e;obtain ⟨⟨r,h,m,p⟩,ai,aq⟩:=DT.val_bind_some e;simp only[DT.val,bt]at aq;subst aq;exact ⟨r,HM.go_run _ _ _ _ _ _ _ _ ai,rfl⟩
theorem an5 {ops:Array Oper} {j d:Nat} {b:Bool} (ay:(ops[j]?).bind (·.dst)=some d) (h:a.tmps.getD d undef=.bool b):yielded ops a.tmps j=some b:=by
 have aa:a.tmps[d]? =some (.bool b):=by
  rw[Array.getD_eq_getD_getElem?]at h;cases ad:a.tmps[d]? with
  |none=>rw[ad]at h;simp[undef]at h
  |some v=>rw[ad]at h;simpa using h
 simp[yielded,ay,aa]
theorem J2 [Env] (tab:cA P cx) (cE:bL P Γ) {ops:Array Oper} {o:Oper} {q:bn×Nat×cI} (e:(oy cx Γ ops o st n).val=some q) (s:cO φ ι w nt st a) (dt:hG st.heap n q.2.1) (ax:nT nt.n o=true)
  {K:Act->World->Prop} {Q:Exit->Act->World->Prop}
  (k: ∀bd w' φ' ι',cO φ' ι' w' nt q.1 bd->Step φ ι w st.heap φ' ι' w' q.1.heap->dA ι st.heap ι' q.1.heap->hy st.heap n q.1.heap q.2.1->K bd w'):
  if Region.wanted o (yielded ops a.tmps) then o.wpIn (ed nt.ro) 0 P a w K Q else K (a.put o.dst undef) w:=by
 have jM: ∀d,o.dst=some d->d<nt.n:=fun d h=>by simpa [nT,h] using ax
 have act: ∀(fx:bn) (q:bn×Nat×cI),cO φ ι w nt fx a->fx.heap=st.heap->(sq cx Γ o fx n).val=some q->hG st.heap n q.2.1->
   (∀bd w' φ' ι',cO φ' ι' w' nt q.1 bd->Step φ ι w st.heap φ' ι' w' q.1.heap->dA ι st.heap ι' q.1.heap->hy st.heap n q.1.heap q.2.1->K bd w')->o.wpIn (ed nt.ro) 0 P a w K Q:=by
  intro fx q im bC e dt k;obtain ⟨r,ai,aq⟩:=aof e;rw[<-bC]at dt;refine ao2 tab cE ai im.heap im.eval dt nt.ro K Q fun v w' φ' ι' aa ad al aE aZ bu=> ?_
  have:=im.after aa ad al jM aZ bu;rw[<-aq]at this;rw[bC]at ad al aE;exact k _ _ φ' ι' this ad al aE
 unfold oy at e;split at e
 ·rename_i bH;have hw:Region.wanted o (yielded ops a.tmps)=true:=by simp[Region.wanted,bH]
  rw[if_pos hw];exact act st q s rfl e dt k
 ·rename_i j want bH;split at e
  ·rename_i d ay;split at e
   ·rename_i b ag;have bo:=Ca ag;have cp:d≠c1:=fun h=>by
     have:=cf.bool.1 (s.regs d _ bo).1;rw[h,oV]at this;cases this
    have bf:=an5 ay (cf.bool.1 (by have:=(s.regs d _ bo).1;rw[hp cp]at this;exact this));have hw:Region.wanted o (yielded ops a.tmps)=y2 b want:=by
     simp only[Region.wanted,bH,bf];cases b<;>cases want<;>rfl
    rw[hw];cases ab:y2 b want
    ·have nj:b= !want:=by cases b<;>cases want<;>first |rfl |cases ab
     simp only[ab,DT.val,aM,bt]at e;subst e;simp only[Bool.false_eq_true,if_false];have im:=s.regs_eq (R':=refine st.regs d (!want)) (rH (by rw[bo,nj]));exact k _ _ φ ι (im.after im.heap (Step.refl _ _ _ _) (dA.refl _ _) jM Zl (by simp[ae.ids,ae.idsL])) (Step.refl _ _ _ _) (dA.refl _ _) (hy.refl _ _)
    ·have nj:b=want:=by cases b<;>cases want<;>first |rfl |cases ab
     simp only[ab,DT.val,az]at e;simp only[if_true];exact act ⟨refine st.regs d want,st.heap⟩ q (s.regs_eq (rH (by rw[bo,nj]))) rfl e dt k
   ·split at e
    ·rename_i ag bo;obtain ⟨vs,aX,dK⟩:=(s.regs d _ bo).1;have dK:vs= #[]:=by cases vs;simpa [ae.relT] using dK
     subst dK;have bf:yielded ops a.tmps j=none:=by
      unfold yielded;rw[ay];simp only[Option.bind_some];split
      ·rename_i c aB;have bb:=(Array.getElem?_eq_some_iff.1 aB).1;rw[hp (by have:=s.small;have:=s.nt;omega),Array.getD_eq_getD_getElem?,aB]at aX;cases aX
      ·rfl
     have hw:Region.wanted o (yielded ops a.tmps)=false:=by
      simp only[Region.wanted,bH,bf];rfl
     rw[hw];simp only[DT.val,bt]at e;subst e;simp only[Bool.false_eq_true,if_false];exact k _ _ φ ι (s.after s.heap (Step.refl _ _ _ _) (dA.refl _ _) jM Zl (by simp[ae.ids,ae.idsL])) (Step.refl _ _ _ _) (dA.refl _ _) (hy.refl _ _)
    ·simp[DT.val]at e
  ·simp[DT.val]at e
theorem nC {H:List aG} {i:Nat} (h:H.length<=i):aF H i=.hole:=by simp[aF,List.getD_eq_getElem?_getD,List.getElem?_eq_none h]
theorem Lq (H:List aG) (aJ:Nat):hG H H.length aJ:=⟨Nat.le_refl _,fun i h _=>by rw[nC h];rfl⟩
theorem af3 [Env] {H:List aG} (h:bR φ ι w H) {p:Nat} {T:TypeId} {t:aD} {x:t.den} (aP:aF H p=.box T t (.dat t x)):
  ∃φ',ef φ ι w H φ' (bM H p .gone)/\ ∃b cs,ι p=.pointer (some ⟨b,0,none⟩)/\ja φ' w b 0 cs/\bh φ' w t x cs:=by
 have bb:p<H.length:=fo (by rw[aP];rfl);have bo: ∀i,aF (bM H p .gone) i=if i=p then .gone else aF H i:=fun i=>fm H p _ i (Nat.le_of_lt bb)
 have cR:=h.obj p;rw[aP]at cR;obtain ⟨b,cur,fr,v,ai,bC,di,dt,mJ,dy,arA,awn,awC⟩:=cR;have ij:c6 (ι p)=some b:=by rw[ai];rfl
 have acd:(aF H p).owns=true:=by rw[aP];rfl
 have ej: ∀i,(aF (bM H p .gone) i).live=(aF H i).live:=fun i=>by
  rw[bo];split
  ·rename_i ab;subst ab;rw[aP];rfl
  ·rfl
 have lr: ∀i,(aF (bM H p .gone) i).owns=true->i≠p/\(aF H i).owns=true:=fun i ab=>by
  rw[bo]at ab;split at ab
  ·cases ab
  ·rename_i cp;exact ⟨cp,ab⟩
 let φ':bw:=fun c k=>φ c k\/(c=b/\k<cur.size)
 have FE: ∀c k,φ c k->φ' c k:=fun c k ag=>.inl ag
 refine ⟨φ',⟨⟨fun i=> ?_,fun i j c ab ay aa ad=>h.apart i j c (lr i ab).2 (lr j ay).2 aa ad,?_,fun i j ay=> ?_,fun g=>(h.glob g).mono FE (fun _ _ _=>rfl)⟩,
  ⟨FE,fun _ _ _=>rfl,?_,Nat.le_refl _,rfl,rfl,rfl,fun _ _ _=>rfl,fun c ⟨i,aa,ad⟩=>.inr ⟨i,(lr i aa).2,ad⟩⟩,ej,gM H p _ bb⟩,b,cur.toList,ai,?_,?_⟩
 ·rw[bo];split
  ·trivial
  ·rename_i ab;refine (h.obj i).keep FE (fun _ _ _=>rfl) (fun _=>rfl) (fun _ _=>rfl) fun c gZ ag=>⟨rfl,fun k av=> ?_⟩
   rcases av with av |⟨rfl,_⟩
   ·exact av
   ·exact absurd (h.apart i p c gZ acd ag ij) ab
 ·rintro c k (av |⟨rfl,av⟩)
  ·exact h.phi c k av
  ·exact ⟨cur[k],by simp[World.cell?,bC,Array.getElem?_eq_getElem av]⟩
 ·rw[bo]at ay;rw[ej];split at ay
  ·simp[aG.ids]at ay
  ·exact h.ids i j ay
 ·rintro c k (av |⟨rfl,_⟩)
  ·exact .inl av
  ·exact .inr (.inr ⟨p,acd,ij⟩)
 ·intro i u hu;have vU:cur[i]? =some u:=by simpa using hu
  have ab:=(Array.getElem?_eq_some_iff.1 vU).1;rw[Nat.zero_add];exact ⟨.inr ⟨rfl,ab⟩,by simp[World.cell?,bC,vU]⟩
 ·have:=dy.1;rw[arA]at this;exact bh.mono FE (fun _ _ _=>rfl) t x _ this
theorem LA: ∀(l m:List ae),sE l m=true->l=m
 |[],[],_=>rfl
 |[],_::_,h=>by simp[sE]at h
 |a::l,[],h=>by cases a<;>simp[sE]at h
 |a::l,b::m,h=>by
  cases a<;>cases b<;>simp only[sE,bB,dd,Nat.beq_eq,reduceCtorEq]at h;obtain ⟨⟨⟨⟨rfl,rfl⟩,rfl⟩,rfl⟩,h⟩:=h;rw[LA l m h]
theorem Xy {p:Nat} {t:aD} {x:t.den} {d:Nat} {r:ae}: ∀(R:bD),(rW p t x R).get d=some r-> ∃aj,R.get d=some aj/\(r=aj\/(aj=.ptr p t 0 []/\r=.fptr t x))
 |[],h=>by simp[rW,bD.get]at h
 |(e,au)::l,h=>by
  have key: ∀aL,(rW p t x ((e,au)::l))=(e,aL)::rW p t x l->(aL=au\/(au=.ptr p t 0 []/\aL=.fptr t x))-> ∃aj,bD.get ((e,au)::l) d=some aj/\(r=aj\/(aj=.ptr p t 0 []/\r=.fptr t x)):=by
   intro aL aa ad;rw[aa]at h;simp only[bD.get]at h ⊢;cases ag:Nat.beq d e
   ·simp only[ag,aM]at h ⊢;exact Xy l h
   ·simp only[ag,az,bt]at h ⊢;subst h;exact ⟨au,rfl,ad⟩
  cases au with
  |ptr dg hd i q=>
   refine key _ rfl ?_;cases ag:Nat.beq p dg&&decide (t=hd)&&Nat.beq i 0&&q.isEmpty
   ·exact .inl rfl
   ·simp only[bB,dd,Nat.beq_eq,List.isEmpty_iff]at ag;obtain ⟨⟨⟨rfl,rfl⟩,rfl⟩,rfl⟩:=ag;exact .inr ⟨rfl,rfl⟩
  |_=>exact key _ rfl (.inl rfl)
theorem YT: ∀(l m:List ae) (vs:List Value),ae.relT φ ι w (l++m) vs-> ∃a7 aY,vs=a7++aY/\ae.relT φ ι w l a7/\ae.relT φ ι w m aY
 |[],m,vs,h=>⟨[],vs,rfl,rfl,h⟩
 |r::l,m,vs,⟨v,c,e,aa,ad⟩=>by
  obtain ⟨a7,aY,aq,al,aE⟩:=YT l m c ad;exact ⟨v::a7,aY,by rw[e,aq];rfl,⟨v,a7,rfl,aa,al⟩,aE⟩
theorem DT.val_opt {α β:Type} {o:Option α} {k:α->DT β} {r:β} (h:(DT.opt o k).val=some r): ∃x,o=some x/\(k x).val=some r:=by
 cases o with
 |none=>simp[DT.val]at h
 |some x=>exact ⟨x,rfl,h⟩
theorem DT.val_bif {α:Type} {b:Bool} {x:DT α} {r:α} (h:(bif b then x else .fail).val=some r):b=true/\x.val=some r:=by
 cases b
 ·simp[DT.val]at h
 ·exact ⟨rfl,h⟩
theorem ak5 [Env] {c:Call} {o:Oper} {aW:bn} (an:o.op=.defer c) (e:(Ll c o st).val=some aW) (s:cO φ ι w nt st a) (ik:nt.df) {K:Act->World->Prop} {Q:Exit->Act->World->Prop}
  (k: ∀bd w' φ' ι',cO φ' ι' w' nt aW bd->Step φ ι w st.heap φ' ι' w' aW.heap->dA ι st.heap ι' aW.heap->K bd w'):o.guard=none/\o.wpIn (ed nt.ro) 0 P a w K Q:=by
 unfold Ll at e;split at e
 ·rename_i f g A B t xs aB eH NQ arW ph;split at e
  ·rename_i M9 j6 cH;split at e
   ·rename_i p u bK NO;have q:=DT.val_bif e;clear e;obtain ⟨bj,e⟩:=q;split at e
    ·rename_i T hv v BP cR;have q:=DT.val_bif e;clear e;obtain ⟨bU,e⟩:=q;simp only[bB,dd,Nat.beq_eq]at bj bU;obtain ⟨⟨rfl,aa⟩,ad⟩:=bj;obtain ⟨rfl,rfl⟩:=bU;have aa:=LA _ _ aa;have ad:=LA _ _ ad;subst ad;obtain ⟨mg,aw,aq⟩:=DT.val_opt e;clear e;have asU:v=hv:=by
      by_cases h:v=hv
      ·exact h
      ·simp[aD.cast?,h]at aw
     subst asU;obtain rfl:BP=mg:=by
      rw[aoo]at aw;exact Option.some.inj aw
     have bc:=Option.some.inj aq;clear aq
     ·have e:=bc;clear bc;subst e;refine ⟨arW,?_⟩;obtain ⟨φ',G,et,cs,i1,i2,i3⟩:=af3 s.heap cR;have aK:=s.eval f;rw[cH]at aK;obtain ⟨⟨afu,aT,aX,Aw,AA⟩,ft⟩:=aK;have Aw:afu= #[]:=by cases afu;simpa [ae.relT] using Aw
      subst Aw;have fQ:c.args= #[]:=by cases zT:c.args;rw[zT]at eH;simpa using eH
      have dU:(o.semAt (ed nt.ro).round a.eval).run P w=.ok (.defer {target:=.fn (.func g) aT,args:= #[]}) w:=by
       have:(ed nt.ro).round=none:=ik.1;rw[this,Oper.semAt_none];simp only[execOp,an,resolve,aB,aX,Deferred.ofValue,fQ];simp[go_sem]
      have jR:ae.relT φ ι w (A++ .ptr p v 0 []::bK) aT.toList:=by
       have:j6=A++ .ptr p v 0 []::bK:=by rw[<-aa,<-NO,List.take_append_drop]
       rw[<-this];exact AA
      obtain ⟨a7,aY,ai,au,j7,c3,aq,aL,bF⟩:=YT _ _ _ jR;have arE:j7=.pointer (some ⟨et,0,none⟩):=by
       obtain ⟨b2,k2,g1,g2,-⟩:=aL;rw[i1]at g1;rcases g1 with ⟨n,c,g1,-⟩|⟨g1,-,rfl⟩
       ·cases g1
       ·have:et=b2:=by simpa using g1
        subst this;simpa [aD.offAt] using g2
      refine ⟨fun _ _=>trivial,?_⟩;rw[dU,Oper.uponIn_defer,NQ];refine k _ w φ' ι ⟨G.rel,fun d r ax=> ?_,s.nt,s.small,⟨s.defers.1,fun aQ=>by rw[ik.2.1]at aQ;cases aQ⟩⟩ G.step G.keep;simp only[Act.put];have ax:(((rW p v BP st.regs).put c1 (.dfr g A bK v (BP::xs))).get d)=some r:=ax;rw[bD.get_put]at ax;by_cases kJ:d=c1
      ·subst kJ;simp only[if_true,bt]at ax;subst ax;rw[oV];have hold:=s.regs c1 _ ph;obtain ⟨vs,dK,ao,eY⟩:=ae.rel_mono (ι':=ι) G.step.phi G.step.cells _ _ (fun _ _=>rfl) hold.1;rw[oV]at dK;have dK:a.defers.map qo=vs:=by simpa using dK
       refine ⟨⟨.func (.func g) #[] aT::vs,by rw[<-dK];rfl,by simp[ao],fun i x u aw hu=> ?_⟩,fun i ab=> ?_⟩
       ·cases i with
        |zero=>
         simp only[List.getElem?_cons_zero,bt]at aw hu;subst aw hu;refine ⟨a7,j7,c3,?_,ae.relT_mono G.step.phi G.step.cells A _ (fun _ _=>rfl) au,⟨et,0,cs,arE,i2,i3⟩,ae.relT_mono G.step.phi G.step.cells bK _ (fun _ _=>rfl) bF⟩;rw[<-aq,<-ai]
        |succ i=>exact eY i x u (by simpa using aw) (by simpa using hu)
       ·rw[G.live];exact hold.2 i ab
      ·simp only[kJ,if_false]at ax;obtain ⟨aj,a1,k2⟩:=Xy _ ax;have hold:=s.regs d aj a1;have FJ:lE {tmps:=a.tmps,defers:={target:=.fn (.func g) aT,args:= #[]}::a.defers} d=lE a d:=by rw[hp kJ,hp kJ]
       rw[FJ];rcases k2 with rfl |⟨rfl,rfl⟩
       ·exact ⟨ae.rel_mono G.step.phi G.step.cells _ _ (fun _ _=>rfl) hold.1,fun i ab=>by rw[G.live];exact hold.2 i ab⟩
       ·refine ⟨?_,by simp[ae.ids]⟩;obtain ⟨b2,k2,g1,g2,-⟩:=hold.1;rw[i1]at g1;rcases g1 with ⟨n,c,g1,-⟩|⟨g1,-,rfl⟩
        ·cases g1
        ·have:et=b2:=by simpa using g1
         subst this;exact ⟨et,0,cs,by simpa [aD.offAt] using g2,i2,i3⟩
    ·simp[DT.val]at e
   ·simp[DT.val]at e
  ·simp[DT.val]at e
 ·simp[DT.val]at e
theorem Hu [Env] (tab:cA P cx) (cE:bL P Γ) {ops:Array Oper} {Q:Exit->Act->World->Prop}: ∀(l:List Oper) (st aW:bn) (φ:bw) (ι:Nat->Value) (w:World) (a:Act),(mU cx Γ ops l st).val=some aW->cO φ ι w nt st a->l.all (nT nt.n)=true->(l.any sK=true->nt.df)->
  (∀bd w' φ' ι',cO φ' ι' w' nt aW bd->Step φ ι w st.heap φ' ι' w' aW.heap->dA ι st.heap ι' aW.heap->Q .normal bd w')->wpListIn (ed nt.ro) 0 P ops Q l a w
 |[],st,aW,φ,ι,w,a,e,s,ax,ik,k=>by
  simp only[mU,DT.val,bt]at e;subst e;exact k a w φ ι s (Step.refl _ _ _ _) (dA.refl _ _)
 |o::l,st,aW,φ,ι,w,a,e,s,ax,ik,k=>by
  simp only[mU]at e;obtain ⟨b9,ai,aq⟩:=DT.val_bind_some e;simp only[List.all_cons,bB]at ax;have q:if Region.wanted o (yielded ops a.tmps) then o.wpIn (ed nt.ro) 0 P a w (wpListIn (ed nt.ro) 0 P ops Q l) Q else wpListIn (ed nt.ro) 0 P ops Q l (a.put o.dst undef) w:=by
   split at ai
   ·rename_i c an;obtain ⟨bH,q⟩:=ak5 (P:=P) (Q:=Q) an ai s (ik (by simp[sK,an])) fun bd w' φ' ι' s1 t1 a1=>
     Hu tab cE l b9 aW φ' ι' w' bd aq s1 ax.2 (fun h=>ik (by rw[List.any_cons,h];simp)) fun a2 c9 dv dz s2 t2 k2=>k a2 c9 dv dz s2 (t1.trans t2) (a1.trans k2)
    have hw:Region.wanted o (yielded ops a.tmps)=true:=by simp[Region.wanted,bH]
    rw[if_pos hw];exact q
   ·obtain ⟨⟨dC,m,p⟩,bc,bz⟩:=DT.val_bind_some ai;simp only[DT.val,bt]at bz;subst bz;exact J2 (Q:=Q) tab cE bc s (Lq _ _) ax.1 fun bd w' φ' ι' s1 t1 a1 cC=>
     Hu tab cE l dC aW φ' ι' w' bd aq s1 ax.2 (fun h=>ik (by rw[List.any_cons,h];simp)) fun a2 c9 dv dz s2 t2 k2=>k a2 c9 dv dz s2 (t1.trans t2) (a1.trans k2)
  unfold wpListIn;split
  ·rename_i h;rw[if_pos h]at q;exact q
  ·rename_i h;rw[if_neg h]at q;exact ⟨fun _ _=>trivial,q⟩
end
end Go.X
