import Derived.Test.YtmmmpanpbphkdaaGreatDoorXC
import Derived.Lib.Overlaps
import Derived.Shelf.Strings.IndexAnyAll
import Derived.LaidHandle
import Derived.LaidMore
import Derived.OpenShut
import Derived.Shelf.Strings.SlTrimAscii
set_option linter.unusedVariables false
set_option linter.unusedSimpArgs false
namespace Go.X
open Go.RowKit
def IW (t:aB):List K->List aG->DT (K×List aG)
 |[.own ae o,.view v p aQ E],J=>match aF J o,aF J p with
  | .arr _ a _ false,.arr _ b _ false=>bif decide (ae=t)&&decide (v=t)&&decide (a=t)&&decide (b=t)&& !Nat.beq o p then .leaf (.dat .bool false,J) else .fail
  |_,_=>.fail
 |_,_=>.fail
section
variable {P:cv}
theorem VT {w:bk} {DU ax4 e:bq} (aW:P.underlying DU=some (.slice e)) {size:Nat} (bI: ∀w,(Go.sizeOf e).run P w=.ok size w) {a b:Option Addr} {jG Hg Db xU:Nat} (h:a=none\/b=none\/jG=0\/Db=0):
  (Extern.SlicesOverlaps.overlaps #[DU,DU] #[ax4] #[.slice a jG Hg,.slice b Db xU]).run P w=.ok (.bool false) w:=by
 change Sem.run P (α:=az) (do
  let some t:=(#[DU,DU]:Array bq)[0]? |stuck "slices.overlaps: no parameter types"
  let .slice elem<-underlying t |stuck "slices.overlaps: slice type expected"
  let size<-sizeOf elem
  match (a:Option Addr),(b:Option Addr) with
  |some a,some b=>
   if jG=0\/Db=0\/size=0 then pure (Value.bool false)
   else if a.block != b.block&&(<-frozen a)&&(<-frozen b) then unsupported .addressObserved
   else do
    if a.block != b.block then do
     noView a;noView b
     if<-mayBeOne a b then return Value.bool ((<-choose (.extern "sameAddr.stringBytes" 2))==1)
    pure (Value.bool (a.block==b.block&&a.off<b.off+Db*size&&b.off<a.off+jG*size))
  |_,_=>pure (Value.bool false)) w=_
 cases a with
 |none=>cases b<;>simp[run_underlying aW,bI]
 |some a=>
  cases b with
  |none=>simp[run_underlying aW,bI]
  |some b=>
   have bY:jG=0\/Db=0\/size=0:=by
    rcases h with h |h |h |h
    ·cases h
    ·cases h
    ·exact .inl h
    ·exact .inr (.inl h)
   simp[run_underlying aW,bI,bY]
theorem ajI [Env] {f:FuncId} (rh:jv f=false) {fn:Func} {T dX e:bq} {t:aB} {bytes:Nat} (vz:t≠ .int .u8) (aM:P.funcs[f]? =some fn) (Rw:(fn.name== "runtime.NumGoroutine")=false) (L:fn.body.isNone=true) (aO:Extern.findNext fn=none)
  (he:Extern.find fn=some (Extern.SlicesOverlaps.overlaps #[T,T] #[dX])) (ao:P.underlying T=some (.slice e)) (gC:sN P e t bytes) (args:List K) (J:List aG) (r:K) (aA:List aG) (h:(IW t args J).val=some (r,aA)):wH P f args J r aA:=by
 unfold IW at h;split at h
 case h_2=>simp[DT.val]at h
 rename_i ae o v p aQ E;split at h
 case h_2=>simp[DT.val]at h
 rename_i M a xs V b aZ W aT;cases aw:decide (ae=t)&&decide (v=t)&&decide (a=t)&&decide (b=t)&& !Nat.beq o p
 ·rw[aw]at h;simp[DT.val]at h
 rw[aw,an]at h;simp only[DT.val,bJ,c0]at h;obtain ⟨rfl,rfl⟩:=h;simp only[bQ,dT,eT]at aw;obtain ⟨⟨⟨⟨hu,a8⟩,aV⟩,eE⟩,cw⟩:=aw;subst hu a8;subst aV;subst eE;have cw:o≠p:=by rintro rfl;simp at cw
 intro φ ι w aP ek e2 fE fr;obtain ⟨v1,dH,bw,ag,v2,cV,bS,aS,hm⟩:=fE;simp only[K.relT]at hm;subst hm bS;obtain rfl:aP= #[v1,v2]:=by cases aP;simp at bw;simp[bw]
 have q:=ek.obj o;have G:=ek.obj p;rw[W]at q;rw[aT]at G;obtain ⟨A,n,c,dF,a2,a3,a4,a5⟩:=q;obtain ⟨B,m,I,b1,b2,b3,hG,hN⟩:=G;obtain ⟨rfl,-⟩:=ag;obtain ⟨ay6,rE,lH,ait,bh,ba,c3,ga,rfl,nz,sC⟩:=aS;rw[b1]at bh;obtain ⟨rfl,rfl,rfl⟩:=iO bh;have bI:=λw=>yS (P:=P) gC w
 have eU:(Extern.SlicesOverlaps.overlaps #[T,T] #[dX] #[ι o,.slice ait (E-aQ) (I-aQ)]).run P w=.ok (.bool false) w:=by
  rw[dF];by_cases avr:n=0
  ·exact VT ao bI (.inr (.inr (.inl avr)))
  by_cases s6:E-aQ=0
  ·exact VT ao bI (.inr (.inr (.inr s6)))
  rcases a5 with a5 |⟨k,pre,cur,c6,rfl,g1,g2,g3,g0,g4,g5,g6,g7⟩
  ·omega
  rcases hN with hN |⟨a6,pre2,adT,azn,rfl,bd,cp,eh,dq,gZ,ir,td,azR⟩
  ·omega
  have di:=nz u;subst di;have ea:0<b.size:=by obtain ⟨dO,z,_,_,_,_,_,g6,_⟩:=gC;exact g6
  have hU:k≠a6:=by rintro rfl;exact cw (ek.apart o p k (by rw[W];rfl) (by rw[aT];rfl) (by rw[dF];simp[dM];omega) (by rw[b1];simp[dM];omega))
  have p0:0<cur.size:=by rw[g2];exact Nat.mul_pos u ea
  have azx:0<adT.size:=by rw[cp];exact Nat.mul_pos u ea
  have yi:=g3.last.resolve_left vz;have:=Lib.run_overlaps_apart w T dX e ao b.size bI ⟨k,pre.size,none⟩ ⟨a6,pre2.size+aQ*b.size,none⟩ n c (E-aQ) (I-aQ) hU M V (pre.size+cur.size) (pre2.size+adT.size)
   (by simp[World.shape?,g1]) (by simp[World.shape?,bd]) u
   (by have bY:=g3.ok pre.size u;simp only[World.frozen?,g1];simpa using bY)
   (by simp only[World.frozen?,g1];simpa using yi)
  simpa [hI] using this
 refine (jX.call rh).2 (.inr ⟨.bool false,w,?_,.bool false,φ,ι,rfl,ek,Step.refl _ _ _ _,eo.refl _ _,h2 (cF.bool.2 rfl),by simp[K.ids]⟩);rw[run_callFunc_extern aM Rw L aO he,eU];rfl
theorem ak8 [Env] {cx:cj} (tab:cN P cx) {f:FuncId} (rh:jv f=false) {fn:Func} {T dX:bq} {t:aB} (bW:cx.isTy T (.list t)=true) (vz:decide (t=.int .u8)=false) (aM:P.funcs[f]? =some fn) (Rw:(fn.name== "runtime.NumGoroutine")=false) (L:fn.body.isNone=true) (aO:Extern.findNext fn=none)
  (he:Extern.find fn=some (Extern.SlicesOverlaps.overlaps #[T,T] #[dX])) (args:List K) (J:List aG) (r:K) (aA:List aG) (h:(IW t args J).val=some (r,aA)):wH P f args J r aA:=by
 obtain ⟨i,E,aW⟩:=hO bW;obtain ⟨ao,gC⟩:=kM tab E aW;exact ajI rh (of_decide_eq_false vz) aM Rw L aO he ao gC args J r aA h
end
open Go.RowKit
def G4 [Env] (F:bn) (fn:Func) (Z:Shape) (args:List K) (J:List aG):DT Z.ty.den:=
 (gb F (b4 fn) 0 ⟨fU 0 args,J⟩).bind λs=>match s.1 with
  | .exit _=>.fail
  |_=>((l1 F.cx s.2.regs 0 fn.results.toList).run s.2.heap s.2.heap.length .none).bind λp=>Z.take F.m ⟨p.1,p.2.1⟩
section
variable {P:cv} {J:List aG}
theorem aaJ [Env] {F:bn} (tab:cN P F.cx) (c7:cc P F.Γ) (hm:P.follows .mixedOrders=true) {f:FuncId} {fn:Func} {Z:Shape} (aM:P.funcs[f]? =some fn) (L:fn.body=some (b4 fn)) (cC:(hx fn.ntmps (b4 fn)&& !(fn.name== "runtime.NumGoroutine")&& !e0 (b4 fn)&& !gA (b4 fn)&&Nat.ble fn.ntmps dJ&&Nat.ble fn.results.size dJ)=true) (ad:ez (b4 fn) 0=[])
  (nJ:Z.regs.map (·.1)=List.range' 0 fn.results.size) {args:List K} (e4:args.length<=fn.ntmps) (fk:F.m=J.length) {z:Z.ty.den} (e:(G4 F fn Z args J).val=some z):kk P f args J (ki (Z.enc z).regs) (Z.enc z).heap:=by
 simp only[bQ,eT]at cC;obtain ⟨⟨⟨⟨⟨oB,nH⟩,nI⟩,jT⟩,h6⟩,iq⟩:=cC;have h6:=hc h6;have iq:=hc iq;unfold G4 at e;obtain ⟨⟨M,cd⟩,q,G⟩:=DT.val_bind_some e;have ab:M=.nrm\/M=.ret:=by
  cases M with
  |nrm=>exact .inl rfl
  |ret=>exact .inr rfl
  |exit i=>simp[DT.val]at G
 have aE:(((l1 F.cx cd.regs 0 fn.results.toList).run cd.heap cd.heap.length .none).bind λp=>Z.take F.m ⟨p.1,p.2.1⟩).val=some z:=by rcases ab with rfl |rfl<;>exact G
 obtain ⟨⟨R,bf,pq,tB⟩,bF,dU⟩:=DT.val_bind_some aE;have kN:=HM.go_run _ _ _ _ _ _ _ _ bF;have kP:(Z.enc z).regs.map (·.1)=List.range' 0 fn.results.size:=by
  obtain ⟨⟨bb,bg,yP,pp⟩,bd,a6⟩:=DT.val_bind_some dU;simp only[DT.val_ofOpt]at a6;have cp:(Z.enc z).regs.map (·.1)=Z.regs.map (·.1):=by
   unfold Shape.dec at a6;cases aV:jb Z.regs bb.regs with
   |none=>simp[aV]at a6
   |some x=>
    cases L:fW Z.objs bb.heap with
    |none=>simp[aV,L]at a6
    |some y=>
     have:=rI _ _ x [] aV;rw[Shape.dec_enc (st:=bb) (by simp only[Shape.dec,aV,L]at a6 ⊢;exact a6)];exact v7 _ _ _ _ this
  rw[cp,nJ]
 refine ⟨⟨fn,aM,nH,by rw[L];rfl⟩,?_⟩;intro φ ι w aP ek e2 fE fr;refine xq aM L ?_;have eL:aP.size=args.length:=by
  have: ∀(l:List K) (aP:List az),K.relT φ ι w l aP->aP.length=l.length:=by
   intro l
   induction l with
   |nil=>intro aP h;simp only[K.relT]at h;simp[h]
   |cons r l aR=>intro aP h;obtain ⟨v,m,rfl,-,h⟩:=h;simp[aR m h]
  simpa using this _ _ fE
 have ea:aP.size<=fn.ntmps:=by rw[eL];exact e4
 have lu:ds φ ι w ⟨fn.ntmps,w.heap.size,[],none,false⟩ ⟨fU 0 args,J⟩ {tmps:=aP++Array.replicate (fn.ntmps-aP.size) undef,defers:=[]}:=by
  refine ⟨ek,λI r ao=> ?_,by simp;omega,h6,oa (ca _)⟩;obtain ⟨bd,a6,cp⟩:=oH args 0;obtain ⟨k,af,hU⟩:=nf _ 0 I r (by rw[bd,a6]) ao;have e1:I=k:=u;subst e1;have bO:=cp I (I,r) hU;simp only at bO;obtain ⟨v,a8,jq⟩:=ue fE bO;have fb:aP[I]? =some v:=by simpa using a8
  have lN:I<aP.size:=(kU.1 fb).1;have:(aP++Array.replicate (fn.ntmps-aP.size) undef).getD I undef=v:=by rw[jc,Array.getElem?_append_left lN,fb];rfl
  rw[iR u,this];exact ⟨jq,λi E=>fr i (tZ bO i E)⟩
 have jH:li F.m J:=by rw[fk];exact λo W=>e2 o W
 refine nR tab c7 hm (b4 fn) 0 _ M cd φ ι w _ _ q (by rw[ad];simp) oB (eS _ nI) (iL.fn jT) lu jH λbs aq av aH cY sp bZ=> ?_
 refine Ew ab cY sp λaq cY sp=> ?_
 have lo:=bZ.live jH;obtain ⟨bw,bS,us,dD,du,gq,hy⟩:=wi tab fn.results.toList 0 R cd.heap _ bf pq kN cY.heap cY.regs;have kq:R.length=us.length:=by have:=congrArg List.length gq;simpa [du] using this
 have kg:ds av aH aq ⟨us.toArray.size,0,[],none,false⟩ ⟨R,bf⟩ {tmps:=us.toArray,defers:=[]}:=by
  rw[bw];refine ⟨cY.heap,λI r ao=> ?_,rfl,by rw[List.size_toArray,du];simpa using iq,oa (Nat.zero_le _)⟩;obtain ⟨k,af,hU⟩:=nf R 0 I r (by rw[gq];congr 1;omega) ao;have e1:I=k:=u;subst e1;obtain ⟨v,a8,jq,gP⟩:=hy I (I,r) hU;have:us.toArray.getD I undef=v:=by simp[jc,a8]
  have lN:I<us.length:=(iK.1 a8).1;have RE:fn.results.toList.length=fn.results.size:=aU;rw[iR u];simp only[this];exact ⟨jq,gP⟩
 obtain ⟨ee,en,dH,cV,eV,lW,qe⟩:=lJ dU kg (by rw[bw];exact lo);have hR:(Z.enc z).regs.length=us.toArray.size:=by have:=congrArg List.length kP;simp only[List.length_map,List.length_range']at this;rw[this];simp[du]
 obtain ⟨ag,aS⟩:=uO (aP:=us.toArray) (R:=(Z.enc z).regs) (by rw[kP];congr 1;simpa [du] using hR.symm) hR (w5 (a:={tmps:=us.toArray,defers:=[]}) (by rw[kP];congr 1;simpa [du] using hR.symm) (by rw[hR,List.size_toArray,du];simpa using iq) dH.regs);have mu:=wj dD;refine ⟨_,mu,_,ee,en,rfl,dH.heap,?_,?_,ag,aS⟩
 ·rw[bw]at cV;exact sp.trans cV
 ·rw[bw]at eV;have ka:=bZ.trans eV;refine ⟨λo W=> ?_,λo W=> ?_⟩
  ·exact (ka o (by rw[fk];exact gM W) W).1
  ·exact (ka o (by rw[fk];exact gM W) W).2
end
def Ln {α:Type} (bytes:Nat) (z0:α) (i:Int) (xs aZ:List α):Option (List α×List α×Unit):=
 bif (decide ((0:Int)<=i)&&decide ((i:Int)<=(List.length xs:Int))&&decide (((List.length xs:Int):Int)<=(List.length xs:Int))) then
  let t0:List α:=(List.drop (Int.toNat i) (List.take (Int.toNat (List.length xs:Int)) xs))
  let t1:Bool:=(decide ((((List.length aZ):Int):Int)=(0:Int)))
  bif t1 then
   none
  else
   let t2:Bool:=(decide ((i:Int)=((List.length xs):Int)))
   bif t2 then
    bif (decide (0<List.length aZ)&&decide ((List.length xs+List.length aZ)*bytes<=am)) then
     some (aZ,(xs++aZ),())
    else
     none
   else
    let t3:Int:=(IntKind.i64.wrap (((List.length xs):Int)+((List.length aZ):Int)))
    let t4:Bool:=(decide ((t3:Int)>(List.length xs:Int)))
    bif t4 then
     bif (decide ((0:Int)<=i)&&decide ((i:Int)<=(List.length xs:Int))) then
      let t5:Int:=(IntKind.i64.wrap (((List.length xs):Int)+((List.length aZ):Int)))
      bif (decide ((0:Int)<(IntKind.i64.wrap (t5-i)))&&decide (((List.length xs):Int)<(List.length (List.take (Int.toNat i) xs):Int)+(IntKind.i64.wrap (t5-i)))&&decide (((List.length (List.take (Int.toNat i) xs):Int)+(IntKind.i64.wrap (t5-i)))*(bytes:Int)<=(am:Int))) then
       let t6:List α:=((List.take (Int.toNat i) xs)++List.replicate (Int.toNat (IntKind.i64.wrap (t5-i))) z0)
       bif (decide ((0:Int)<=i)&&decide ((i:Int)<=(List.length t6:Int))&&decide (((List.length t6:Int):Int)<=(List.length t6:Int))) then
        let t7:List α:=(List.take ((Int.toNat (List.length t6:Int))-(Int.toNat i)) aZ)
        let t8:List α:=(List.take (Int.toNat i) t6++t7++List.drop ((Int.toNat i)+List.length t7) t6)
        let t9:Int:=(IntKind.i64.wrap (i+((List.length aZ):Int)))
        bif (decide ((0:Int)<=t9)&&decide ((t9:Int)<=(List.length t8:Int))&&decide (((List.length t8:Int):Int)<=(List.length t8:Int))) then
         bif (decide ((0:Int)<=i)&&decide ((i:Int)<=(List.length xs:Int))&&decide (((List.length xs:Int):Int)<=(List.length xs:Int))) then
          let t10:List α:=(List.drop (Int.toNat i) (List.take (Int.toNat (List.length xs:Int)) xs))
          let t11:List α:=(List.take ((Int.toNat (List.length t8:Int))-(Int.toNat t9)) t10)
          let t12:List α:=(List.take (Int.toNat t9) t8++t11++List.drop ((Int.toNat t9)+List.length t11) t8)
          some (aZ,t12,())
         else
          none
        else
         none
       else
        none
      else
       none
     else
      none
    else
     let t5:Int:=(IntKind.i64.wrap (((List.length xs):Int)+((List.length aZ):Int)))
     bif (decide ((0:Int)<=t5)&&decide ((t5:Int)<=(List.length xs:Int))) then
      let t6:Int:=(IntKind.i64.wrap (i+((List.length aZ):Int)))
      bif (decide ((0:Int)<=t6)&&decide ((t6:Int)<=(List.length (List.take (Int.toNat t5) xs):Int))&&decide (((List.length (List.take (Int.toNat t5) xs):Int):Int)<=(List.length (List.take (Int.toNat t5) xs):Int))) then
       let t7:List α:=(List.drop (Int.toNat t6) (List.take (Int.toNat (List.length (List.take (Int.toNat t5) xs):Int)) (List.take (Int.toNat t5) xs)))
       none
      else
       none
     else
      none
 else
  none
def Lo {α:Type} (bytes:Nat) (i:Int) (xs:List α) (z:α) (aZ:List α):Option (List α×List α×Unit):=
 bif (decide ((0:Int)<=i)&&decide ((i:Int)<=(((List.length xs)-0:Nat):Int))&&decide (((((List.length xs)-0:Nat):Int):Int)<=((List.length (xs++[z])-0:Nat):Int))) then
  let t0:Bool:=(decide ((((List.length aZ):Int):Int)=(0:Int)))
  bif t0 then
   some (aZ,(List.take (List.length xs) (xs++[z])),())
  else
   let t1:Bool:=(decide ((i:Int)=(((List.length xs)-0:Nat):Int)))
   bif t1 then
    bif (decide ((List.length (List.take (List.length xs) (xs++[z]))+List.length aZ)*bytes<=am)) then
     let t2:List α:=(List.take (List.length xs) (xs++[z])++aZ)
     some (aZ,t2,())
    else
     none
   else
    let t2:Int:=(IntKind.i64.wrap ((((List.length xs)-0:Nat):Int)+((List.length aZ):Int)))
    bif (decide ((t2:Int)<=((List.length (xs++[z])-0:Nat):Int))) then
     let t3:Int:=(IntKind.i64.wrap ((((List.length xs)-0:Nat):Int)+((List.length aZ):Int)))
     bif (decide (((0:Int):Int)<=t3)&&decide ((t3:Int)<=((List.length (xs++[z])-0:Nat):Int))) then
      let t4:Int:=(IntKind.i64.wrap (i+((List.length aZ):Int)))
      bif (decide ((0:Int)<=t4)&&decide ((t4:Int)<=(((0+(Int.toNat t3))-0:Nat):Int))&&decide (((((0+(Int.toNat t3))-0:Nat):Int):Int)<=((List.length (xs++[z])-0:Nat):Int))) then
       let t5:Int:=(IntKind.i64.wrap (i+((List.length aZ):Int)))
       bif (decide ((0:Int)<=t5)&&decide ((t5:Int)<=(((0+(Int.toNat t3))-0:Nat):Int))&&decide (((((0+(Int.toNat t3))-0:Nat):Int):Int)<=((List.length (xs++[z])-0:Nat):Int))) then
        bif (decide ((0:Int)<=i)&&decide ((i:Int)<=(((0+(Int.toNat t3))-0:Nat):Int))&&decide (((((0+(Int.toNat t3))-0:Nat):Int):Int)<=((List.length (xs++[z])-0:Nat):Int))) then
         let t6:List α:=(List.drop (0+(Int.toNat i)) (List.take (0+(Int.toNat (((0+(Int.toNat t3))-0:Nat):Int))) (xs++[z])))
         let t7:List α:=(List.take ((0+(Int.toNat (((0+(Int.toNat t3))-0:Nat):Int)))-(0+(Int.toNat t5))) t6)
         let t8:List α:=(List.take (0+(Int.toNat t5)) (xs++[z])++t7++List.drop ((0+(Int.toNat t5))+List.length t7) (xs++[z]))
         bif (decide ((0:Int)<=i)&&decide ((i:Int)<=(((0+(Int.toNat t3))-0:Nat):Int))&&decide (((((0+(Int.toNat t3))-0:Nat):Int):Int)<=((List.length t8-0:Nat):Int))) then
          let t9:List α:=(List.take ((0+(Int.toNat (((0+(Int.toNat t3))-0:Nat):Int)))-(0+(Int.toNat i))) aZ)
          let t10:List α:=(List.take (0+(Int.toNat i)) t8++t9++List.drop ((0+(Int.toNat i))+List.length t9) t8)
          some (aZ,(List.take (0+(Int.toNat t3)) t10),())
         else
          none
        else
         none
       else
        none
      else
       none
     else
      none
    else
     none
 else
  none
theorem By {x:Int} (h: -9223372036854775808<=x/\x<9223372036854775808):IntKind.i64.wrap x=x:=by rw[IntKind.wrap_i64];omega
theorem hX {p:Prop} [Decidable p] (h:p):decide p=true:=decide_eq_true h
theorem G2 {p:Prop} [Decidable p] (h: ¬p):decide p=false:=decide_eq_false h
theorem asI {α:Type} {bytes:Nat} {z0:α} {k:Nat} {xs:List α} {y:α} (q:k<=xs.length) (ab:xs.length+1<1000000000000000000) (aE:(xs.length+1)*bytes<=am):
  Ln bytes z0 (k:Int) xs [y]=some ([y],xs.take k++[y]++xs.drop k,()):=by
 have dn:IntKind.i64.wrap ((xs.length:Int)+(([y].length:Nat):Int))=((xs.length+1:Nat):Int):=by rw[By (by simp;omega)];simp
 have da:IntKind.i64.wrap (((xs.length+1:Nat):Int)-(k:Int))=((xs.length+1-k:Nat):Int):=by rw[By u];omega
 have gH:IntKind.i64.wrap ((k:Int)+(([y].length:Nat):Int))=((k+1:Nat):Int):=by rw[By (by simp;omega)];simp
 unfold Ln;simp only[dn,da,gH,bE];have bh:decide ((0:Int)<=(k:Int))=true:=hX u;have ba:decide ((k:Int)<=(xs.length:Int))=true:=hX u;have c3:decide ((xs.length:Int)<=(xs.length:Int))=true:=hX u;have ga:decide ((([y].length:Nat):Int)=0)=false:=G2 aU;simp only[bh,ba,c3,ga,bN,an,ay];by_cases af:k=xs.length
 ·subst af;have c5:decide (((xs.length:Nat):Int)=(xs.length:Int))=true:=hX rfl;have nz:decide (0<[y].length)=true:=hX aU;have sC:decide ((xs.length+[y].length)*bytes<=am)=true:=hX (by simpa using aE);simp only[c5,nz,sC,an,bN];simp
 ·have bu:k<xs.length:=u;have c5:decide ((k:Int)=(xs.length:Int))=false:=G2 u;have nz:decide (((xs.length+1:Nat):Int)>(xs.length:Int))=true:=hX u;have lt:(List.take k xs).length=k:=by rw[ev];omega
  have sC:decide ((0:Int)<((xs.length+1-k:Nat):Int))=true:=hX u;have u9:decide ((xs.length:Int)<((List.take k xs).length:Int)+((xs.length+1-k:Nat):Int))=true:=hX (by rw[lt];omega);have P1:decide ((((List.take k xs).length:Int)+((xs.length+1-k:Nat):Int))*(bytes:Int)<=(am:Int))=true:=hX (by rw[lt];have:((k:Int)+((xs.length+1-k:Nat):Int))=((xs.length+1:Nat):Int):=u;rw[this,<-Int.natCast_mul];exact Int.ofNat_le.2 aE)
  simp only[c5,nz,sC,u9,P1,an,ay,bN];have IK:(List.take k xs++List.replicate (xs.length+1-k) z0).length=xs.length+1:=by rw[eF,lt,List.length_replicate];omega
  have d1:decide ((k:Int)<=((List.take k xs++List.replicate (xs.length+1-k) z0).length:Int))=true:=hX (by rw[IK];omega);have d2:decide (((List.take k xs++List.replicate (xs.length+1-k) z0).length:Int)<=((List.take k xs++List.replicate (xs.length+1-k) z0).length:Int))=true:=hX u;simp only[d1,d2,an,bN,bE,IK];have fV:List.take (xs.length+1-k) [y]=[y]:=ia (by simp;omega);have kK:List.take k (List.take k xs++List.replicate (xs.length+1-k) z0)++[y]++List.drop (k+[y].length) (List.take k xs++List.replicate (xs.length+1-k) z0)=List.take k xs++[y]++List.replicate (xs.length-k) z0:=by rw[List.take_append_of_le_length u,ia (l:=List.take k xs) u];rw[List.drop_append,List.drop_of_length_le (l:=List.take k xs) (by simp;omega),List.nil_append,List.drop_replicate,lt];congr 2;simp;omega
  simp only[fV,kK];have yB:(List.take k xs++[y]++List.replicate (xs.length-k) z0).length=xs.length+1:=by simp[lt];omega
  have d3:decide ((0:Int)<=((k+1:Nat):Int))=true:=hX u;have d4:decide (((k+1:Nat):Int)<=((List.take k xs++[y]++List.replicate (xs.length-k) z0).length:Int))=true:=hX (by rw[yB];omega);have d5:decide (((List.take k xs++[y]++List.replicate (xs.length-k) z0).length:Int)<=((List.take k xs++[y]++List.replicate (xs.length-k) z0).length:Int))=true:=hX u;simp only[d3,d4,d5,an,bN,yB,bE];have vc:List.drop k (List.take xs.length xs)=List.drop k xs:=by rw[ew]
  have qT:List.take (xs.length+1-(k+1)) (List.drop k xs)=List.drop k xs:=ia aU;simp only[vc,qT];have atJ:List.take (k+1) (List.take k xs++[y]++List.replicate (xs.length-k) z0)=List.take k xs++[y]:=by rw[List.take_append_of_le_length (by simp[lt]),ia (by simp[lt])]
  have atK:List.drop (k+1+(List.drop k xs).length) (List.take k xs++[y]++List.replicate (xs.length-k) z0)=[]:=List.drop_of_length_le (by rw[yB];simp;omega);have d6:decide ((k:Int)<=((xs.length+1:Nat):Int))=true:=hX u;have d7:decide (((k+1:Nat):Int)<=((xs.length+1:Nat):Int))=true:=hX u;have d8:decide (((xs.length+1:Nat):Int)<=((xs.length+1:Nat):Int))=true:=hX u;simp only[d6,d7,d8,an,bN,atJ,atK,List.append_nil]
theorem asJ {α:Type} {bytes:Nat} {k:Nat} {xs:List α} {z y:α} (q:k<=xs.length) (ab:xs.length+1<1000000000000000000) (aE:(xs.length+1)*bytes<=am):
  Lo bytes (k:Int) xs z [y]=some ([y],xs.take k++[y]++xs.drop k,()):=by
 have Tf:IntKind.i64.wrap ((xs.length:Int)+(([y].length:Nat):Int))=((xs.length+1:Nat):Int):=by rw[By (by simp;omega)];simp
 have gH:IntKind.i64.wrap ((k:Int)+(([y].length:Nat):Int))=((k+1:Nat):Int):=by rw[By (by simp;omega)];simp
 have fG:(xs++[z]).length=xs.length+1:=aU;unfold Lo;simp only[Nat.sub_zero,Int.sub_zero,Nat.zero_add];simp only[Tf,gH,bE,fG,Nat.sub_zero,Int.sub_zero,Nat.zero_add];have bh:decide ((0:Int)<=(k:Int))=true:=hX u;have ba:decide ((k:Int)<=(xs.length:Int))=true:=hX u;have c3:decide ((xs.length:Int)<=((xs.length+1:Nat):Int))=true:=hX u;have ga:decide ((([y].length:Nat):Int)=0)=false:=G2 aU;simp only[bh,ba,c3,ga,bN,an,ay];have ayf:List.take xs.length (xs++[z])=xs:=aU;by_cases af:k=xs.length
 ·subst af;have c5:decide (((xs.length:Nat):Int)=(xs.length:Int))=true:=hX rfl;have sC:decide ((xs.length+[y].length)*bytes<=am)=true:=hX (by simpa using aE);simp only[c5,ayf,sC,an,bN];simp
 ·have bu:k<xs.length:=u;have c5:decide ((k:Int)=(xs.length:Int))=false:=G2 u;have nz:decide (((xs.length+1:Nat):Int)<=((xs.length+1:Nat):Int))=true:=hX u;have sC:decide ((0:Int)<=((xs.length+1:Nat):Int))=true:=hX u;have u9:decide ((0:Int)<=((k+1:Nat):Int))=true:=hX u;have P1:decide (((k+1:Nat):Int)<=((xs.length+1:Nat):Int))=true:=hX u;have atx:decide ((k:Int)<=((xs.length+1:Nat):Int))=true:=hX u;simp only[c5,nz,sC,u9,P1,atx,an,ay,bN];have ayg:List.take (xs.length+1) (xs++[z])=xs++[z]:=ia aU;have c9:List.drop k (xs++[z])=List.drop k xs++[z]:=by rw[List.drop_append_of_le_length q]
  have fV:List.take (xs.length+1-(k+1)) (List.drop k xs++[z])=List.drop k xs:=by rw[List.take_append_of_le_length aU,ia aU]
  simp only[ayg,c9,fV];have yB:(List.take (k+1) (xs++[z])++List.drop k xs++List.drop (k+1+(List.drop k xs).length) (xs++[z])).length=xs.length+1:=by simp;omega
  have azg:decide (((xs.length+1:Nat):Int)<=((List.take (k+1) (xs++[z])++List.drop k xs++List.drop (k+1+(List.drop k xs).length) (xs++[z])).length:Int))=true:=hX (by rw[yB];omega);have nC:List.take (xs.length+1-k) [y]=[y]:=ia (by simp;omega);simp only[yB,nz,an,bN,nC];have cl:List.drop (k+1+(List.drop k xs).length) (xs++[z])=[]:=List.drop_of_length_le (by simp;omega);have ax8:List.take (k+1) (xs++[z])=List.take (k+1) xs:=by rw[List.take_append_of_le_length u]
  have agS:(List.take (k+1) xs).length=k+1:=by rw[ev];omega
  rw[cl,List.append_nil,ax8];have M:List.take k (List.take (k+1) xs++List.drop k xs)=List.take k xs:=by rw[List.take_append_of_le_length u,List.take_take];congr 1;omega
  have V:List.drop (k+[y].length) (List.take (k+1) xs++List.drop k xs)=List.drop k xs:=by rw[List.drop_append,List.drop_of_length_le (by rw[agS];simp),List.nil_append,agS];simp
  rw[M,V];have a1:List.take (xs.length+1) (List.take k xs++[y]++List.drop k xs)=List.take k xs++[y]++List.drop k xs:=ia (by simp;omega);rw[a1]
def Ah {α:Type} (bytes:Nat) (d:Int×List α×List α×Unit):Option (List α×List α×Unit):=
 bif decide (0<=d.1)&&decide (d.1<=(d.2.1.length:Int))&&decide (d.2.2.1.length=1)&&decide (d.2.1.length+1<1000000000000000000)&&decide ((d.2.1.length+1)*bytes<=am) then some (d.2.2.1,d.2.1.take d.1.toNat++d.2.2.1++d.2.1.drop d.1.toNat,()) else none
def Fk (e:bq) (t:aB):Shape:=⟨[(0,.own t 0),(1,.dat (.int .i64)),(2,.own t 1)],[.arr e t false,.arr e t false]⟩
def u0 (e:bq) (t:aB):Shape:=⟨[(0,.own t 2)],[.gone,.arr e t false,.arr e t false]⟩
theorem aiM (e:bq) (t:aB) (i:Int) (xs aZ:List t.den):(Fk e t).enc (i,xs,aZ,())=⟨[(0,.own t 0),(1,.dat (.int .i64) i),(2,.own t 1)],[.arr e t xs false,.arr e t aZ false]⟩:=by have h:(Fk e t).ty.parts (i,xs,aZ,())=[⟨.int .i64,i⟩,⟨.list t,xs⟩,⟨.list t,aZ⟩]:=rfl;unfold Shape.enc;rw[h];simp[Fk,qt,xr,cu.enc,dZ.enc,mD,tS]
theorem aiN (e:bq) (t:aB) (aZ rs:List t.den):(u0 e t).enc (aZ,rs,())=⟨[(0,.own t 2)],[.gone,.arr e t aZ false,.arr e t rs false]⟩:=by have h:(u0 e t).ty.parts (aZ,rs,())=[⟨.list t,aZ⟩,⟨.list t,rs⟩]:=rfl;unfold Shape.enc;rw[h];simp[u0,qt,xr,cu.enc,dZ.enc,mD,tS]
section
variable {P:cv}
theorem arE [Env] {f:FuncId} {e:bq} {t:aB} {k:Nat} {xs:List t.den} {y:t.den} (rs:List t.den) (vz:t≠ .int .u8) (rl:0<t.size)
  (x7:kk P f [.clip t xs,.dat (.int .i64) (k:Int),.own t 1] [.gone,.arr e t [y] false] (.own t 2) [.gone,.arr e t [y] false,.arr e t rs false])
  (Cf: ∀z,kk P f [.view t 0 0 xs.length,.dat (.int .i64) (k:Int),.own t 1] [.arr e t (xs++[z]) false,.arr e t [y] false] (.own t 2) [.gone,.arr e t [y] false,.arr e t rs false]):
  kk P f [.own t 0,.dat (.int .i64) (k:Int),.own t 1] [.arr e t xs false,.arr e t [y] false] (.own t 2) [.gone,.arr e t [y] false,.arr e t rs false]:=by
 refine ⟨x7.1,?_⟩;intro φ ι w aP ek e2 fE fr;obtain ⟨v0,azT,pt,aa,v1,dH,bw,ag,v2,cV,bS,aS,hm⟩:=fE;simp only[K.relT]at hm;subst hm bS bw;obtain rfl:aP= #[v0,v1,v2]:=by cases aP;simp at pt;simp[pt]
 have g0:aF [aG.arr e t xs false,.arr e t [y] false] 0=.arr e t xs false:=rfl;have W:=ek.obj 0;rw[g0]at W;obtain ⟨A,n,c,fH,jJ,yT,qj,Dj⟩:=W;have axw:=aa;obtain ⟨rfl,-⟩:=aa;by_cases aw:c=n
 ·subst aw;have auG:(hn (.own t 0)).go [aG.arr e t xs false,.arr e t [y] false] 2=some (⟨.list t,xs⟩,[aG.arr e t xs true,.arr e t [y] false],2):=by simp[hn,HM.go,aF,b8,aG.freeze,aG.mask,tS]
  obtain ⟨-,av,g,a8⟩:=tD (.own t 0) φ (ι 0) _ 2 _ _ _ auG ek axw (λi E=>by
   have bY:i=0:=by simpa [K.ids] using E
   rw[bY];rfl)
  have RG:cg av ι w [aG.gone,.arr e t [y] false]:=by
   refine g.rel.update (λi=>i=0) (λi E=> ?_) (λ_ _=>rfl) (λi E=> ?_) (λi E=> ?_) (λi E j ak=> ?_) (λ_ _ _ _ _=>rfl) (λ_ _ _=>rfl) (λi j b E q=> ?_)
   ·cases i with
    |zero=>exact absurd rfl E
    |succ i=>rfl
   ·cases i with
    |zero=>rfl
    |succ i=>exact E
   ·subst E;trivial
   ·subst E;simp[aF,aG.ids]at ak
   ·subst E;cases q
  have dL:Step av ι w [aG.arr e t xs true,.arr e t [y] false] av ι w [aG.gone,.arr e t [y] false]:=
   ⟨λ_ _ h=>h,λ_ _ _=>rfl,λ_ _ h=>.inl h,ca _,rfl,rfl,rfl,λ_ _ _=>rfl,λb ⟨o,q,G⟩=>.inr ⟨o,by cases o with
    |zero=>cases q
    |succ o=>exact q,G⟩⟩
  refine Calls.mono (x7.2 av ι w #[ι 0,v1,v2] RG (λi E=> ?_) ⟨ι 0,_,rfl,?_,v1,_,rfl,?_,v2,_,rfl,?_,rfl⟩ (λi E=> ?_)) λad1 aq=> ?_
  ·match i,E with
   |0,_=>rfl
   |1,_=>rfl
   |i+2,E=>simp at E;omega
  ·show ∃A n,ι 0=.slice A n n/\bz av w (.list t) xs [ι 0];refine ⟨A,c,fH,?_⟩;have:=a8.1;rw[rG (by rw[fH];rfl)]at this;simpa using this
  ·exact K.rel_mono g.step.phi g.step.cells _ _ (λ_ _=>rfl) ag
  ·exact K.rel_mono g.step.phi g.step.cells _ _ (λ_ _=>rfl) aS
  ·have:i=1:=by simpa [K.idsL,K.ids] using E
   subst this;rfl
  ·rintro ⟨v,ee,en,he,cB,gG,eB,ar,gP⟩;have bZ:eo ι [aG.arr e t xs false,.arr e t [y] false] ι [aG.gone,.arr e t [y] false]:=⟨λ_ _=>rfl,λo h=>by
    cases o with
    |zero=>rfl
    |succ o=>exact h⟩
   exact ⟨v,ee,en,he,cB,(g.step.trans dL).trans gG,bZ.trans eB,ar,gP⟩
 ·have bu:n<c:=u;rcases Dj with Dj |⟨b,pre,cur,c6,rfl,b1,b2,b3,b0,hG,hN,j1,Hb⟩
  ·omega
  obtain ⟨eM,C2⟩:=hG.rest.resolve_left vz;have C1:=C2.len (λx c=>bz.len t x c);have jl:cur.toList.length=c*t.size:=by rw[ix,b2]
  rw[List.length_drop,jl,<-Nat.sub_mul]at C1;have awg:eM.length=c-n:=Nat.eq_of_mul_eq_mul_right rl C1.symm;obtain ⟨z,zN,rfl⟩: ∃z zN,eM=z::zN:=by
   cases eM with
   |nil=>simp at awg;omega
   |cons z zN=>exact ⟨z,zN,rfl⟩
  have oD: ∀i,eg ι 0 (.slice (some ⟨b,pre.size,none⟩) (n+1) c) (i+1)=ι (i+1):=λi=>by simp[eg]
  have hzero:eg ι 0 (.slice (some ⟨b,pre.size,none⟩) (n+1) c) 0=.slice (some ⟨b,pre.size,none⟩) (n+1) c:=by simp[eg]
  have jS: ∀i,dM (eg ι 0 (.slice (some ⟨b,pre.size,none⟩) (n+1) c) i)=dM (ι i):=λi=>by
   cases i with
   |zero=>rw[hzero,fH];simp[dM]
   |succ i=>rw[oD]
  have oE: ∀i,(aF [aG.arr e t (xs++[z]) false,.arr e t [y] false] i).owns=(aF [aG.arr e t xs false,.arr e t [y] false] i).owns:=λi=>by cases i<;>rfl
  have gd:=c2.append _ _ _ _ hN C2;rw[List.take_append_drop]at gd;have aev:c2 (bz φ w t) ((xs++[z])++zN) cur.toList:=by simpa using gd
  have CK:(xs++[z]).length=n+1:=by simp[jJ]
  have RG:cg φ (eg ι 0 (.slice (some ⟨b,pre.size,none⟩) (n+1) c)) w [aG.arr e t (xs++[z]) false,.arr e t [y] false]:=by
   refine ⟨λo=> ?_,λo dV bX q G ab aE=> ?_,ek.phi,λo i lb=> ?_,ek.glob⟩
   ·match o with
    |0=>
     show jz φ _ w 0 (.arr e t (xs++[z]) false);refine ⟨some ⟨b,pre.size,none⟩,n+1,c,hzero,CK,bu,qj,.inr ⟨b,pre,cur,c6,rfl,b1,b2,b3,b0,⟨hG.one,.inr ⟨zN,?_⟩⟩,?_,λk af=> ?_,λh=>by cases h⟩⟩
     ·have:=aev.drop (λx c=>bz.len t x c) (n+1)
      rwa [<-CK,List.drop_left,CK]at this
     ·have:=aev.take (λx c=>bz.len t x c) (n+1)
      rwa [<-CK,List.take_left,CK]at this
     ·exact absurd (j1 k af).1 aU
    |1=>
     have:=ek.obj 1;show jz φ _ w 1 (.arr e t [y] false);obtain ⟨zP,dm,bh,fI,gh⟩:=this;exact ⟨zP,dm,bh,(oD 0).trans fI,gh⟩
    |o+2=>trivial
   ·rw[oE]at q G;rw[jS]at ab aE;exact ek.apart o dV bX q G ab aE
   ·match o,lb with
    |0,lb=>simp[aF,aG.ids]at lb
    |1,lb=>simp[aF,aG.ids]at lb
    |o+2,lb=>simp[aF,aG.ids]at lb
  have dL:Step φ ι w [aG.arr e t xs false,.arr e t [y] false] φ (eg ι 0 (.slice (some ⟨b,pre.size,none⟩) (n+1) c)) w [aG.arr e t (xs++[z]) false,.arr e t [y] false]:=
   ⟨λ_ _ h=>h,λ_ _ _=>rfl,λ_ _ h=>.inl h,ca _,rfl,rfl,rfl,λ_ _ _=>rfl,λbX ⟨o,q,G⟩=>.inr ⟨o,by rw[<-oE];exact q,by rw[<-jS];exact G⟩⟩
  refine Calls.mono ((Cf z).2 φ _ w #[ι 0,v1,v2] RG (λi E=> ?_) ⟨ι 0,_,rfl,?_,v1,_,rfl,?_,v2,_,rfl,?_,rfl⟩ (λi E=> ?_)) λad1 aq=> ?_
  ·match i,E with
   |0,_=>rfl
   |1,_=>rfl
   |i+2,E=>simp at E;omega
  ·exact A2 ⟨some ⟨b,pre.size,none⟩,n+1,c,some ⟨b,pre.size,none⟩,hzero,Nat.zero_le _,by rw[jJ];omega,bu,by rw[fH,jJ];rfl,λ_=>by simp[hI],λ_=>⟨b,_,rfl⟩⟩
  ·exact K.rel_mono (λ_ _ h=>h) (λ_ _ _=>rfl) _ _ (λi E=>absurd E (by simp[K.ids])) ag
  ·refine K.rel_mono (λ_ _ h=>h) (λ_ _ _=>rfl) _ _ (λi E=> ?_) aS;have:i=1:=by simpa [K.ids] using E
   subst this;exact oD 0
  ·have:i=0\/i=1:=by simpa [K.idsL,K.ids] using E
   rcases this with rfl |rfl<;>rfl
  ·rintro ⟨v,ee,en,he,cB,gG,eB,ar,gP⟩;have ym: ∀i,eg en 0 (ι 0) (i+1)=en (i+1):=λi=>by simp[eg]
   have RZ:eg en 0 (ι 0) 0=ι 0:=by simp[eg]
   have s2:=dL.trans gG;refine ⟨v,ee,eg en 0 (ι 0),he,⟨λo=> ?_,λo dV bX q G ab aE=> ?_,cB.phi,λo i lb=> ?_,cB.glob⟩,⟨s2.phi,s2.cells,s2.newphi,s2.size,s2.os,s2.tape,s2.output,s2.blocks,λbX ⟨o,q,G⟩=> ?_⟩,⟨λo W=> ?_,λo W=> ?_⟩,?_,gP⟩
   ·match o with
    |0=>trivial
    |1=>
     obtain ⟨zP,dm,bh,fI,gh⟩:=cB.obj 1;exact ⟨zP,dm,bh,(ym 0).trans fI,gh⟩
    |2=>
     obtain ⟨zP,dm,bh,fI,gh⟩:=cB.obj 2;exact ⟨zP,dm,bh,(ym 1).trans fI,gh⟩
    |o+3=>trivial
   ·cases o with
    |zero=>cases q
    |succ o=>
     cases dV with
     |zero=>cases G
     |succ dV=>
      rw[ym]at ab aE;exact cB.apart _ _ bX q G ab aE
   ·match o,lb with
    |0,lb=>simp[aF,aG.ids]at lb
    |1,lb=>simp[aF,aG.ids]at lb
    |2,lb=>simp[aF,aG.ids]at lb
    |o+3,lb=>simp[aF,aG.ids]at lb
   ·cases o with
    |zero=>cases q
    |succ o=>
     rw[ym]at G;exact s2.own bX ⟨o+1,q,G⟩
   ·match o,W with
    |0,_=>exact RZ
    |1,_=>rw[ym,eB.iota 1 rfl,oD]
    |o+2,W=>cases W
   ·match o,W with
    |0,_=>rfl
    |1,_=>rfl
    |o+2,W=>cases W
   ·refine K.rel_mono (λ_ _ h=>h) (λ_ _ _=>rfl) _ _ (λi E=> ?_) ar;have:i=2:=by simpa [K.ids] using E
    subst this;exact ym 1
theorem arU [Env] {F:bn} (tab:cN P F.cx) (c7:cc P F.Γ) (hm:P.follows .mixedOrders=true) {f:FuncId} {fn:Func} {e:bq} {t:aB} {bytes:Nat} (vz:decide (t=.int .u8)=false) (rl:Nat.blt 0 t.size=true) (aM:P.funcs[f]? =some fn) (L:fn.body=some (b4 fn)) (cC:(hx fn.ntmps (b4 fn)&& !(fn.name== "runtime.NumGoroutine")&& !e0 (b4 fn)&& !gA (b4 fn)&&Nat.ble fn.ntmps dJ&&Nat.ble fn.results.size dJ)=true) (ad:ez (b4 fn) 0=[])
  (mu:Nat.beq fn.results.size 1=true) (CL:Nat.ble 3 fn.ntmps=true) (fk:F.m=2)
  (e4: ∀(i:Int) (xs aZ:List t.den),(G4 F fn (u0 e t) [.clip t xs,.dat (.int .i64) i,.own t 1] [.gone,.arr e t aZ false]).val=Ln bytes t.zero i xs aZ)
  (di: ∀(i:Int) (xs:List t.den) (z:t.den) (aZ:List t.den),(G4 F fn (u0 e t) [.view t 0 0 xs.length,.dat (.int .i64) i,.own t 1] [.arr e t (xs++[z]) false,.arr e t aZ false]).val=Lo bytes i xs z aZ):
  cz P ⟨f,Fk e t,u0 e t,λd=>Ah (α:=t.den) bytes d⟩:=by
 intro args J d r ah bI;have gX:=Shape.dec_enc ah;obtain ⟨i,xs,aZ,ae⟩:=d;have bI:Ah (α:=t.den) bytes (i,xs,aZ,ae)=some r:=bI;unfold Ah at bI;simp only at bI;cases Cp:decide ((0:Int)<=i)&&decide (i<=(xs.length:Int))&&decide (aZ.length=1)&&decide (xs.length+1<1000000000000000000)&&decide ((xs.length+1)*bytes<=am)
 ·rw[Cp]at bI;cases bI
 rw[Cp,an]at bI;simp only[bQ,dT]at Cp;obtain ⟨⟨⟨⟨bh,ba⟩,c3⟩,ga⟩,c5⟩:=Cp;obtain ⟨k,rfl⟩:=Int.eq_ofNat_of_zero_le bh;obtain ⟨y,rfl⟩:=List.length_eq_one_iff.1 c3;obtain rfl:=eW bI;have ba:k<=xs.length:=Int.ofNat_le.1 ba;rw[bE];have gX:=(aiM e t (k:Int) xs [y]).symm.trans gX;injection gX with q G
 obtain rfl:args=[.own t 0,.dat (.int .i64) (k:Int),.own t 1]:=(xa 0 [.own t 0,.dat (.int .i64) (k:Int),.own t 1] args q).symm;subst G;have avN:fn.results.size=1:=Nat.eq_of_beq_eq_true mu;have aeW:(u0 e t).regs.map (·.1)=List.range' 0 fn.results.size:=by rw[avN];rfl
 have x7:=aaJ tab c7 hm aM L cC ad aeW (args:=[.clip t xs,.dat (.int .i64) (k:Int),.own t 1]) (J:=[.gone,.arr e t [y] false]) (hc CL) fk ((e4 k xs [y]).trans (asI ba ga c5));have Cf:=λz=>aaJ tab c7 hm aM L cC ad aeW (args:=[.view t 0 0 xs.length,.dat (.int .i64) (k:Int),.own t 1]) (J:=[.arr e t (xs++[z]) false,.arr e t [y] false]) (hc CL) fk ((di k xs z [y]).trans (asJ ba ga c5))
 have R0:=aiN e t [y] (xs.take k++[y]++xs.drop k);have x7:=Eq.mp (congrArg (λcT:bU=>kk P f [.clip t xs,.dat (.int .i64) (k:Int),.own t 1] [.gone,.arr e t [y] false] (ki cT.regs) cT.heap) R0) x7;have Cf:=λz=>Eq.mp (congrArg (λcT:bU=>kk P f [.view t 0 0 xs.length,.dat (.int .i64) (k:Int),.own t 1] [.arr e t (xs++[z]) false,.arr e t [y] false] (ki cT.regs) cT.heap) R0) (Cf z)
 exact Eq.mpr (congrArg (λcT:bU=>kk P f [.own t 0,.dat (.int .i64) (k:Int),.own t 1] [.arr e t xs false,.arr e t [y] false] (ki cT.regs) cT.heap) R0) (arE _ (of_decide_eq_false vz) (hc rl) x7 Cf)
end
open Go.RowKit Go.Shelf
def A8 (d:List UInt8×List UInt8×Unit):Option (Int×Unit):=
 bif Nat.blt 8 d.1.length&&Nat.blt d.1.length 4294967281&&Nat.ble 2 d.2.1.length&&Nat.blt d.2.1.length 4294967281&&d.2.1.all (λb=>Nat.blt b.toNat 128) then some (Lib.indexAny d.1 d.2.1,()) else none
section
variable {P:cv}
def Dq {α:Type} (a b:Option α):Option α:=match a with |some z=>some z |none=>b
theorem UW [Env] {f:FuncId} {S Z:Shape} {g1 g2:S.ty.den->Option Z.ty.den} (q:cz P ⟨f,S,Z,g1⟩) (G:cz P ⟨f,S,Z,g2⟩):cz P ⟨f,S,Z,λd=>Dq (g1 d) (g2 d)⟩:=by
 intro args J d z ah bI;have bI:Dq (g1 d) (g2 d)=some z:=bI;unfold Dq at bI;cases h:g1 d with
 |some y=>
  rw[h]at bI;obtain rfl:=eW bI;exact q args J d _ ah h
 |none=>
  rw[h]at bI;exact G args J d z ah bI
theorem cg.below [Env] {φ:bL} {ι:Nat->az} {w aq:bk} {J:List aG} (h:cg φ ι w J) (b:Below w.heap.size w aq):cg φ ι aq J/\Step φ ι w J φ ι aq J:=by
 have bC:ic w aq:=⟨b.os,b.tape,b.output,b.size,λk af=>b.block k af⟩;have aw: ∀b k,φ b k->aq.cell? ⟨b,k,none⟩=w.cell? ⟨b,k,none⟩:=λb k af=>bC.cell (kR h af)
 refine ⟨h.update (λ_=>False) (λ_ _=>rfl) (λ_ _=>rfl) (λ_ h=>h) (λ_ h=>h.elim) (λ_ h=>h.elim) (λi bX _ W h3=>bC.blocks bX (uE h W h3)) aw (λ_ _ _ h=>h.elim),⟨λ_ _ h=>h,aw,λ_ _ h=>.inl h,bC.size,bC.os,bC.tape,bC.output,λbX h3 _=>bC.blocks bX h3,λ_ h=>.inr h⟩⟩
theorem aqp [Env] {ρ:Ren} (ax:Go.Proofs.Lays.n153 P ρ) (H7:(P.info? (ρ.t 116)).map (λi=>(i.zero,i.size))=some (some (.agg (Array.replicate 256 (.bool false))),256)) {fn:Func} (aM:P.funcs[ρ.f 153]? =some fn) (cC:(!(fn.name== "runtime.NumGoroutine")&& !fn.body.isNone)=true):
  cz P ⟨ρ.f 153,⟨[(0,.dat .str),(1,.dat .str)],[]⟩,⟨[(0,.dat (.int .i64))],[]⟩,A8⟩:=by
 intro args J d z ah bI;have gX:=Shape.dec_enc ah;obtain ⟨a,b,ae⟩:=d;have bI:A8 (a,b,ae)=some z:=bI;unfold A8 at bI;simp only at bI;cases aw:Nat.blt 8 a.length&&Nat.blt a.length 4294967281&&Nat.ble 2 b.length&&Nat.blt b.length 4294967281&&b.all (λb=>Nat.blt b.toNat 128)
 ·rw[aw]at bI;cases bI
 rw[aw,an]at bI;obtain rfl:=eW bI;simp only[bQ]at aw;obtain ⟨⟨⟨⟨bh,ba⟩,c3⟩,ga⟩,c5⟩:=aw;have bh:=hc bh;have ba:=hc ba;have c3:=hc c3;have ga:=hc ga;have iZ:(Shape.enc ⟨[(0,.dat .str),(1,.dat .str)],[]⟩ (a,b,ae))=⟨[(0,.dat .str a),(1,.dat .str b)],[]⟩:=rfl;have gX:=iZ.symm.trans gX;injection gX with q G
 obtain rfl:args=[.dat .str a,.dat .str b]:=(xa 0 [.dat .str a,.dat .str b] args q).symm;subst G;simp only[bQ,eT]at cC;refine ⟨⟨fn,aM,cC.1,cC.2⟩,fun φ ι w aP ek e2 fE fr=> ?_⟩;obtain ⟨v1,dH,M,ag,v2,cV,V,aS,hm⟩:=fE;simp only[K.relT]at hm;subst hm V;have gy:v1=.string ⟨⟨a⟩⟩:=cF.str.1 ag;have mU:v2=.string ⟨⟨b⟩⟩:=cF.str.1 aS;subst gy mU;obtain rfl:aP= #[.string ⟨⟨a⟩⟩,.string ⟨⟨b⟩⟩]:=by cases aP;simp at M;simp[M]
 have ea: ∀l:List UInt8,(⟨⟨l⟩⟩:ByteArray).size=l.length:=λ_=>rfl
 refine (Go.Proofs.Any.strings_IndexAny_long ax (zero_of_info H7).1 (zero_of_info H7).2 ⟨⟨a⟩⟩ ⟨⟨b⟩⟩ w (by rw[ea];exact c3) (by rw[ea];omega) (by rw[ea];omega) (by rw[ea];omega) (λj x al=> ?_)).mono ?_
 ·have al:b[j]? =some x:=al;have:=fC.1 c5 x (List.mem_of_getElem? al);exact hc this
 ·rintro e aq ⟨rfl,rfl⟩;obtain ⟨bd,a6⟩:=ek.below (((Below.refl _ w).alloc (ca _) _).alloc aU _);exact ⟨_,φ,ι,rfl,bd,a6,eo.refl _ _,h2 (cF.int.2 rfl),λi E=>absurd (show i∈([]:List Nat) from E) aU⟩
end
open Go.RowKit
section
variable {P:cv} {φ:bL} {ι:Nat->az} {w:bk} {J:List aG}
def Lk [Env] (P:cv) (F:bn) (n:Nat) (C:bn->Code->Nat->bU->DT (ef×bU)) (c:Code):Prop:=
 ∀(nt:jy) (st:bU) (e:ef) (bb:bU) (φ:bL) (ι:Nat->az) (w:bk) (a:Act) (bA:Exit->Act->bk->Prop),nt.n=n->(C F c 0 st).val=some (e,bb)->ds φ ι w nt st a->li F.m st.heap->
  (∀bs aq av aH,ds av aH aq nt bb bs->Step φ ι w st.heap av aH aq bb.heap->ie F.m ι st.heap aH bb.heap->bA (kZ e) bs aq)->c.wpIn (e9 nt.ro) 0 P bA a w
theorem acF [Env] {F:bn} {n:Nat} {c:Code} (tab:cN P F.cx) (c7:cc P F.Γ) (hm:P.follows .mixedOrders=true) (ad: ∀s∈ez c 0,hl P F n s.1 s.2) (aw:(hx n c&& !e0 c&& !gA c)=true):Lk P F n gb c:=by intro nt st e bb φ ι w a bA aO h cn lm c8;subst aO;simp only[bQ,eT]at aw;exact nR tab c7 hm c 0 st e bb φ ι w a bA h ad aw.1.1 (eS _ aw.1.2) (iL.no aw.1.2 aw.2) cn lm c8
theorem aaU {φ:bL} {ι:Nat->az} {w:bk} {J:List aG}: ∀(ps:List Nat) (rs:List K) (aP:List az) (R:bR) (t:Array az),(∀p∈ps,p<t.size)->K.relT φ ι w rs aP->(∀i∈K.idsL rs,(aF J i).live=true)->ps.length=rs.length->
  (∀I r,R.get I=some r->r.rel φ ι w (t.getD I undef)/\ ∀i∈r.ids,(aF J i).live=true)->
  ((ps.zip aP).foldl (λt s=>t.setIfInBounds s.1 s.2) t).size=t.size/\ ∀I r,(xi ps rs R).get I=some r->r.rel φ ι w (((ps.zip aP).foldl (λt s=>t.setIfInBounds s.1 s.2) t).getD I undef)/\ ∀i∈r.ids,(aF J i).live=true
 |[],rs,aP,R,t,_,_,_,_,h=>by
  refine ⟨aU,λI r ao=> ?_⟩;have:xi [] rs R=R:=by cases rs<;>rfl
  rw[this]at ao;simpa using h I r ao
 |p::ps,[],aP,R,t,_,_,_,ad,h=>by simp at ad
 |p::ps,r::rs,aP,R,t,aT,ar,gP,ad,h=>by
  obtain ⟨v,m,rfl,q,G⟩:=ar;have bu:p<t.size:=aT p aU;have aR:=aaU ps rs m (R.put p r) (t.setIfInBounds p v) (λs aN=>by simp;exact aT s (by simp[aN])) G (λi E=>gP i (by simp[K.idsL,E])) (by simpa using ad) (λI x al=>by
   rw[bR.get_put]at al;by_cases ao:I=p
   ·subst ao;simp only[if_true,bJ]at al;subst al;have:(t.setIfInBounds I v).getD I undef=v:=by simp[jc,bu]
    rw[this];exact ⟨q,λi E=>gP i (by simp[K.idsL,E])⟩
   ·simp only[ao,if_false]at al;have cw:p≠I:=λh=>ao h.symm
    have:(t.setIfInBounds p v).getD I undef=t.getD I undef:=by simp[jc,Array.getElem?_setIfInBounds,cw]
    rw[this];exact h I x al)
  refine ⟨by simpa using aR.1,λI x al=> ?_⟩;have:=aR.2 I x al;simpa using this
theorem adg [Env] (h:cg φ ι w J) {Y:Nat} {R:bR} {p hp:Int} {l:Nat} (W:aF J 0=.loop Y R p) (E:ι 0=.func (.yield l) #[] #[]) {pv:Loop} (gE:T0 pv hp)
  (p8: ∀rec c,G0 φ ι w l rec c Y R p->pv.params=rec.params/\pv.assign=rec.assign/\pv.body=rec.body/\pv.tmps=rec.tmps):
  cg φ ι (w.putObj l (.loop pv)) (b8 J 0 (.loop Y R hp))/\Step φ ι w J φ ι (w.putObj l (.loop pv)) (b8 J 0 (.loop Y R hp))/\eo ι J ι (b8 J 0 (.loop Y R hp)):=by
 have dB:=h.obj 0;rw[W]at dB;obtain ⟨de,rec,c,fH,iz⟩:=dB;have h5:de=l:=AO (fH.symm.trans E);subst h5;obtain ⟨ag,aS,bP,dz⟩:=p8 rec c iz;have bu:=(kU.1 iz.heap).1;obtain ⟨dF,a2,a3,-⟩:=Br (n:=J.length) (dg:=.loop Y R hp) h (o:=0) (b:=de) (by rw[W];rfl) (by rw[E];rfl) (jh.putObj w de (.loop pv)) iz.phi
  ⟨de,pv,c,E,⟨iz.code,World.putObj_heap_same bu,by rw[ag];exact iz.params,by rw[aS];exact iz.assign,by rw[bP];exact iz.body,by rw[dz];exact iz.nt,gE,λs aN=>by rw[dz];exact K.rel_mono (λ_ _ h=>h) (λb k L=>(jh.putObj w de _).cell (λe=>iz.phi k (e▸L))) s.2 _ (λ_ _=>rfl) (iz.regs s aN),iz.phi⟩⟩
  (λi E=>h.ids 0 i (by rw[W];exact E)) rfl
 exact ⟨dF,a2,a3⟩
theorem arx {Y:Nat} {e:ef} {st bb:bU} (h:(PI Y e st).val=some bb): ∃R,aF st.heap 0=.loop Y R (-1)/\bb=⟨[(0,.dat .bool e.isNrm)],b8 st.heap 0 (.loop Y R (nX e))⟩:=by
 unfold PI at h;split at h
 ·rename_i Ff R p dB;cases L:Nat.beq Ff Y
  ·simp[L,DT.val]at h
  rw[L,an]at h;have:Ff=Y:=by simpa using L
  subst this;simp only[DT.val]at h;cases aT:decide (p= -1)
  ·simp[aT]at h
  rw[aT,an]at h;simp only[bJ]at h;have:p= -1:=of_decide_eq_true aT;subst this;exact ⟨R,dB,h.symm⟩
 ·simp[DT.val]at h
def Lh (c:np) (S Z:Shape):Bool:=
 Nat.beq S.regs.length (c.params.length+1)&&c.params.all (Nat.blt · c.nt)&&decide (Z.regs.map (·.1)=[0])&&Nat.ble c.nt dJ
theorem atp {Z:Shape} {m:Nat} {st:bU} {z:Z.ty.den} (h:(Z.take m st).val=some z):(Z.enc z).regs.map (·.1)=Z.regs.map (·.1):=by
 unfold Shape.take at h;obtain ⟨⟨bb,bg,yP,pp⟩,bd,a6⟩:=DT.val_bind_some h;simp only[DT.val_ofOpt]at a6;unfold Shape.dec at a6;cases aV:jb Z.regs bb.regs with
 |none=>simp[aV]at a6
 |some x=>
  cases L:fW Z.objs bb.heap with
  |none=>simp[aV,L]at a6
  |some y=>
   have:=rI _ _ x [] aV;rw[Shape.dec_enc (st:=bb) (by simp only[Shape.dec,aV,L]at a6 ⊢;exact a6)];exact v7 _ _ _ _ this
theorem as5 [Env] {F:bn} {C:bn->Code->Nat->bU->DT (ef×bU)} {Y:Nat} {c:np} {S Z:Shape} {g:S.ty.den->Option Z.ty.den} (ye:Env.code Y=some c) (cC:Lh c S Z=true) (fk:F.m=S.objs.length) (e4:Lk P F c.nt C c.assign) (di:Lk P F c.nt C c.body)
  (bC: ∀d,(ss F C Y c S Z d).val=g d):aux P ⟨Y,S,Z,g⟩:=by
 intro args J d z ah bI;have gX:=Shape.dec_enc ah;simp only[Lh,bQ,dT,Nat.beq_eq,fC]at cC;obtain ⟨⟨⟨oB,nH⟩,nI⟩,nJ⟩:=cC;have nJ:=hc nJ;have iQ:args.length=S.regs.length/\J.length=S.objs.length:=by
  unfold Shape.dec at ah;simp only at ah;cases aV:jb S.regs (fU 0 args) with
  |none=>simp[aV]at ah
  |some x=>
   cases L:fW S.objs J with
   |none=>simp[aV,L]at ah
   |some y=>
    refine ⟨by rw[<-zm _ _ _ aV,(oH args 0).2.1],?_⟩;have: ∀(d:List dZ) (R:List aG) (l:List eN),fW d R=some l->R.length=d.length:=by
     intro d
     induction d with
     |nil=>intro R l h;cases R<;>simp[fW]at h ⊢
     |cons a d aR=>
      intro R l h;cases R with
      |nil=>simp[fW]at h
      |cons b R=>
       simp only[fW]at h;split at h
       ·obtain ⟨b,L,-⟩:=h9.1 h;simp[aR R b L]
       ·cases h
    exact this _ _ _ L
 have e:(ss F C Y c S Z d).val=some z:=(bC d).trans bI;unfold ss at e;simp only at gX;rw[gX]at e;cases args with
 |nil=>simp[fU,DT.val]at e
 |cons a0 args=>
 cases J with
 |nil=>
  simp[fU,DT.val]at e
 |cons dg J=>
 simp only[fU]at e;split at e
 case h_2=>simp[DT.val]at e
 rename_i d0 aza aov pJ R p aA bw bS;injection bw with bw SH
 injection bw with ahi SI
 injection bS with bS axb
 subst SI SH bS axb;cases Q6:Nat.beq pJ Y
 ·simp[Q6,DT.val]at e
 rw[Q6,an]at e;have aun:pJ=Y:=by simpa using Q6
 subst aun;simp only[DT.val]at e;cases q9:decide (p=0)
 ·simp[q9]at e
 rw[q9,an]at e;have q9:p=0:=of_decide_eq_true q9;subst q9;split at e
 ·simp[DT.val]at e
 rename_i Ry;obtain ⟨⟨M,cd⟩,q,e⟩:=DT.val_bind_some e;have auq:(fU (0+1) args).map (·.2)=args:=by
  have: ∀(l:List K) (k:Nat),(fU k l).map (·.2)=l:=by
   intro l
   induction l with
   |nil=>intro k;rfl
   |cons x l aR=>intro k;simp[fU,aR]
  exact this _ _
 rw[auq]at q Ry;intro φ ι w aP ek e2 fE fr;obtain ⟨v0,wC,eL,RT,ys⟩:=fE;obtain ⟨RT,l,afj⟩:=RT;have avy:=ek.obj 0;obtain ⟨de,rec,ba,fH,iz⟩:=avy;have h5:de=l:=AO (fH.symm.trans (RT.symm.trans afj));subst h5;have auz:ba=c:=eW (iz.code.symm.trans ye);subst auz;have afl:aP=(v0::wC).toArray:=by apply Array.ext';simpa using eL
 have Cu:aP.extract 1 aP.size=wC.toArray:=by rw[afl];simp
 have avi:wC.length=args.length:=by
  have: ∀(l:List K) (aP:List az),K.relT φ ι w l aP->aP.length=l.length:=by
   intro l
   induction l with
   |nil=>intro aP h;simp only[K.relT]at h;simp[h]
   |cons r l aR=>intro aP h;obtain ⟨v,m,rfl,-,h⟩:=h;simp[aR m h]
  exact this _ _ ys
 have aeZ:args.length=ba.params.length:=by have:=iQ.1;simp at this;omega
 have azM:rec.state=.ready/\rec.pending=none:=by
  rcases iz.st with ⟨-,a,b⟩|⟨a,-⟩|⟨ei,a,b,-⟩
  ·exact ⟨a,b⟩
  ·omega
  ·exact absurd (GM (e:=ei) (f:=.nrm) (a.symm)) b
 refine (jX.round (by unfold jv;rw[ye];rfl)).2 ⟨de,?_,?_⟩
 ·rw[afl];simp[afj]
 rw[Cu];refine ⟨rec.fn,_,rec.assign,rec.body,run_yield iz.heap (by simp;rw[avi,aeZ,<-iz.params];simp),roundIn_of_wpIn (F:=e9 none) trivial ?_⟩;rw[iz.assign,iz.body];obtain ⟨jM,IC⟩: ∃jM,(rec.params.zip wC.toArray).foldl (λtmps (s:Tmp×az)=>tmps.setIfInBounds s.1 s.2) rec.tmps=jM:=⟨_,rfl⟩;have avZ:(ba.params.zip wC).foldl (λt (s:Nat×az)=>t.setIfInBounds s.1 s.2) rec.tmps=jM:=by rw[<-IC,<-iz.params,<-Array.foldl_toList];simp
 have KE:=aaU (φ:=φ) (ι:=ι) (w:=w) (J:=.loop pJ R 0::J) ba.params args wC R rec.tmps (λs aN=>by rw[iz.nt];simpa using nH s aN) ys (λi E=>fr i (by simp[K.idsL,E])) aeZ.symm (λI r ao=>⟨iz.regs _ (bR.get_mem ao),λi E=>ek.ids 0 i (bR.mem_ids (bR.get_mem ao) i E)⟩);rw[avZ]at KE;have lu:ds φ ι w ⟨ba.nt,w.heap.size,[],some de,false⟩ ⟨xi ba.params args R,.loop pJ R 0::J⟩ {tmps:=jM,defers:=[]}:=⟨ek,λI r ao=>by rw[iR (λe=>by rw[e]at ao;rw[ao]at Ry;cases Ry)];exact KE.2 I r ao,KE.1.trans iz.nt,nJ,oa (ca _)⟩
 have jH:li F.m (.loop pJ R 0::J):=by rw[fk,<-iQ.2];exact λo W=>e2 o W
 have Im:0<F.m:=by rw[fk,<-iQ.2];simp
 show ba.assign.wpIn (e9 (some de)) 0 P _ {tmps:=(rec.params.zip wC.toArray).foldl (λtmps (s:Tmp×az)=>tmps.setIfInBounds s.1 s.2) rec.tmps,defers:=[]} w;rw[IC];refine e4 ⟨ba.nt,w.heap.size,[],some de,false⟩ _ M cd φ ι w _ _ rfl q lu jH λdF dn dE fo qn axX Sq=> ?_
 cases M with
 |exit i=>simp[DT.val]at e
 |ret=>simp[DT.val]at e
 |nrm=>
 simp only at e;split at e
 case h_2=>simp[DT.val]at e
 rename_i oj wU gh CM;cases eE:Nat.beq oj pJ
 ·simp[eE,DT.val]at e
 rw[eE,an]at e;have:oj=pJ:=by simpa using eE
 subst this;simp only[DT.val]at e;cases m8:decide (gh=0)
 ·simp[m8]at e
 rw[m8,an]at e;have:gh=0:=of_decide_eq_true m8;subst this;obtain ⟨⟨V,dL⟩,G,e⟩:=DT.val_bind_some e;obtain ⟨n2,ab,aE⟩:=DT.val_bind_some e;have lo:=Sq.live jH;have hT:fo 0=.func (.yield de) #[] #[]:=by rw[(Sq 0 Im (jH 0 Im)).1];exact fH
 have avL: ∃tL bh,G0 dE fo dn de tL bh oj wU 0:=by have:=qn.heap.obj 0;rw[CM]at this;obtain ⟨nQ,tL,bh,yT,zR⟩:=this;have:nQ=de:=AO (yT.symm.trans hT);subst this;exact ⟨tL,bh,zR⟩
 obtain ⟨tL,bh,zR⟩:=avL;have vy:tL.state=.ready:=by
  rcases zR.st with ⟨-,a,b⟩|⟨a,-⟩|⟨ei,a,b,-⟩
  ·exact a
  ·omega
  ·exact absurd (GM (e:=ei) (f:=.nrm) (a.symm)) b
 simp only[kZ,Exit.then];refine ⟨_,run_beginRound zR.heap vy,?_⟩;obtain ⟨t1,t2,t3⟩:=adg qn.heap CM hT (pv:={tL with state:=.busy}) (hp:= -1) (.inr (.inl ⟨rfl,rfl⟩)) (λrec c h=>by
  have:=zR.heap.symm.trans h.heap;have:tL=rec:=by simpa using this
  subst this;exact ⟨rfl,rfl,rfl,rfl⟩)
 have axY:ds dE fo (dn.putObj de (.loop {tL with state:=.busy})) ⟨ba.nt,w.heap.size,[],some de,false⟩ ⟨cd.regs,b8 cd.heap 0 (.loop oj wU (-1))⟩ dF:=
  ⟨t1,λI r ao=>⟨K.rel_step t2 t3 (qn.regs I r ao).2 (qn.regs I r ao).1,λi E=>t3.live i ((qn.regs I r ao).2 i E)⟩,qn.nt,qn.small,qn.defers.step t2⟩
 have St:li F.m (b8 cd.heap 0 (.loop oj wU (-1))):=(t3.keepM F.m).live lo;refine di ⟨ba.nt,w.heap.size,[],some de,false⟩ _ V dL dE fo _ _ _ rfl G axY St λa2 da ee en kg pA m9=> ?_
 obtain ⟨T7,ae4,rj⟩:=arx ab;have Su:=m9.live St;have e5:en 0=.func (.yield de) #[] #[]:=by rw[(m9 0 Im (St 0 Im)).1];exact hT
 obtain ⟨pw,c3,TZ⟩: ∃pw c3,G0 ee en da de pw c3 oj T7 (-1):=by have:=kg.heap.obj 0;rw[ae4]at this;obtain ⟨rB,axG,ga,qj,aiy⟩:=this;have:rB=de:=AO (qj.symm.trans e5);subst this;exact ⟨axG,ga,aiy⟩
 have fin: ∀(jump:Option Code),(match V with | .nrm=>jump=none |e=>jump=some (P9 e))-> ∃v aq,(Instr.endRound de jump).run P da=.ok v aq/\(∃lx av aH,Ending.returned v=.returned lx/\cg av aH aq (Z.enc z).heap/\Step φ ι w (.loop oj R 0::J) av aH aq (Z.enc z).heap/\eo ι (.loop oj R 0::J) aH (Z.enc z).heap/\(ki (Z.enc z).regs).rel av aH aq lx/\ ∀i∈(ki (Z.enc z).regs).ids,(aF (Z.enc z).heap i).live=true):=by
  intro jump ak;refine ⟨_,_,run_endRound jump TZ.heap,?_⟩;obtain ⟨jW,pB,rT⟩:=adg kg.heap ae4 e5 (pv:={pw with state:=if jump.isNone then .ready else .done,pending:=jump}) (hp:=nX V) (by
   cases V with
   |nrm=>simp only at ak;subst ak;exact .inl ⟨rfl,rfl,rfl⟩
   |ret=>simp only at ak;subst ak;exact .inr (.inr ⟨.ret,rfl,aU,rfl,rfl⟩)
   |exit i=>simp only at ak;subst ak;exact .inr (.inr ⟨.exit i,rfl,aU,rfl,rfl⟩)) (λrec c h=>by
   have:=TZ.heap.symm.trans h.heap;have:pw=rec:=by simpa using this
   subst this;exact ⟨rfl,rfl,rfl,rfl⟩)
  obtain ⟨gH,afm⟩: ∃gH,da.putObj de (.loop {pw with state:=if jump.isNone then .ready else .done,pending:=jump})=gH:=⟨_,rfl⟩;rw[afm]at jW pB ⊢;have CC:jump.isNone=V.isNrm:=by
   cases V with
   |nrm=>simp only at ak;subst ak;rfl
   |ret=>simp only at ak;subst ak;rfl
   |exit i=>simp only at ak;subst ak;rfl
  have DK:ds ee en gH ⟨1,0,[],none,false⟩ n2 {tmps:= #[.bool jump.isNone],defers:=[]}:=by
   rw[rj];refine ⟨jW,λI r ao=> ?_,rfl,hc rfl,oa (Nat.zero_le _)⟩;simp only[bR.get]at ao;cases o9:Nat.beq I 0
   ·simp[o9]at ao
   ·simp only[o9,an,bJ]at ao;have:I=0:=by simpa using o9
    subst this ao;rw[CC,iR fm];exact ⟨h2 (cF.bool.2 rfl),by simp[K.ids]⟩
  have aws:li F.m n2.heap:=by rw[rj];exact (rT.keepM F.m).live Su
  obtain ⟨mJ,mI,dH,cV,eV,lW,qe⟩:=lJ aE DK aws;have CD:=(atp aE).trans nI;have hR:(Z.enc z).regs.length=(#[Value.bool jump.isNone]:Array az).size:=by have:=congrArg List.length CD;simpa using this
  obtain ⟨ag,aS⟩:=uO (aP:= #[Value.bool jump.isNone]) (R:=(Z.enc z).regs) (by rw[CD];have:=congrArg List.length CD;simp at this;rw[this];rfl) hR (w5 (a:={tmps:= #[.bool jump.isNone],defers:=[]}) (by rw[CD];have:=congrArg List.length CD;simp at this;rw[this];rfl) (by rw[hR];exact hc rfl) dH.regs);have au1:n2.heap=b8 dL.heap 0 (.loop oj T7 (nX V)):=by rw[rj]
  rw[au1]at cV eV;refine ⟨_,mJ,mI,rfl,dH.heap,(((axX.trans t2).trans pA).trans pB).trans cV,?_,by simpa using ag,aS⟩;have ka:=(((Sq.trans (t3.keepM F.m)).trans m9).trans (rT.keepM F.m)).trans eV;refine ⟨λo W=> ?_,λo W=> ?_⟩
  ·have bu:o<F.m:=by rw[fk,<-iQ.2];exact gM W
   exact (ka o bu W).1
  ·have bu:o<F.m:=by rw[fk,<-iQ.2];exact gM W
   exact (ka o bu W).2
 cases V with
 |nrm=>exact fin none rfl
 |ret=>exact fin (some .ret) rfl
 |exit i=>exact fin (some (.exit i)) rfl
theorem FT [Env] {F:bn} {Y:Nat} {c:np} {S Z:Shape} {g:S.ty.den->Option Z.ty.den} (tab:cN P F.cx) (c7:cc P F.Γ) (hm:P.follows .mixedOrders=true) (ye:Env.code Y=some c) (cC:Lh c S Z=true) (fk:F.m=S.objs.length)
  {m:List (Nat×Code)} (ad:ez (.seq c.assign c.body) 0=m) (dS:oQ P F c.nt m) (aw:(hx c.nt (.seq c.assign c.body)&& !e0 (.seq c.assign c.body)&& !gA (.seq c.assign c.body))=true) (bC: ∀d,(ss F gb Y c S Z d).val=g d):aux P ⟨Y,S,Z,g⟩:=by
 have gd:=uA ad dS;simp only[hx,e0,gA,bQ,eT,Bool.or_eq_false_iff]at aw;exact as5 ye cC fk (acF tab c7 hm (λs aN=>gd s (by simp[ez,aN])) (by simp[aw.1.1.1,aw.1.2.1,aw.2.1])) (acF tab c7 hm (λs aN=>gd s (by simp[ez,aN])) (by simp[aw.1.1.2,aw.1.2.2,aw.2.2])) bC
def Lb [Env] (F:bn):List (Nat×np)->Prop
 |[]=>True
 |s::l=>(∀Y,F.rfs s.1=some Y->Env.code Y=some s.2)/\Lb F l
def Va (P:cv):List Nat->Prop
 |[]=>True
 |f::l=>(∃fn,P.funcs[f]? =some fn/\(fn.name== "runtime.NumGoroutine")=false/\fn.body.isNone=false)/\Va P l
theorem Bo [Env] {F:bn} {s:Nat×np} {Y:Nat} (h:F.rfs s.1=some Y) (aw:Env.code Y=some s.2): ∀Y,F.rfs s.1=some Y->Env.code Y=some s.2:=λZ aet=>by rw[h]at aet;obtain rfl:=eW aet;exact aw
theorem Bd [Env] {F:bn} {n:Nat} {c:Code} {m:List (Nat×np)} {its:List Nat} (hm:ly n c=m) (h:Lb F m) (E:F.its=its) (G:Va P its):jR P F n c:=by
 have gd: ∀(l:List (Nat×np)),Lb F l-> ∀s∈l,∀Y,F.rfs s.1=some Y->Env.code Y=some s.2:=by
  intro l
  induction l with
  |nil=>intro _ s aN;cases aN
  |cons a l aR=>
   intro h s aN;rcases e7.1 aN with rfl |aN
   ·exact h.1
   ·exact aR h.2 s aN
 have Rm: ∀f∈F.its,∃fn,P.funcs[f]? =some fn/\(fn.name== "runtime.NumGoroutine")=false/\fn.body.isNone=false:=by
  rw[E];clear E
  induction its with
  |nil=>intro f aM;cases aM
  |cons a l aR=>
   intro f aM;rcases e7.1 aM with rfl |aM
   ·exact G.1
   ·exact aR G.2 f aM
 have key: ∀c,(∀s∈ly n c,∀Y,F.rfs s.1=some Y->Env.code Y=some s.2)->jR P F n c:=by
  intro c
  induction c with
  |seq a b C6 vD=>intro h;exact ⟨C6 λs aN=>h s (by simp[ly,aN]),vD λs aN=>h s (by simp[ly,aN])⟩
  |cond x a b C6 vD=>intro h;exact ⟨C6 λs aN=>h s (by simp[ly,aN]),vD λs aN=>h s (by simp[ly,aN])⟩
  |block i c aR=>intro h;exact aR λs aN=>h s (by simpa [ly] using aN)
  |scope c aR=>intro h;exact aR λs aN=>h s (by simpa [ly] using aN)
  |rangeFunc g ps a b=>intro h;exact ⟨λY Q1=>h (Jm a b,⟨ps.toList,a,b,n⟩) (by simp[ly]) Y Q1,Rm⟩
  |_=>intro _;trivial
 exact key c λs aN=>gd m h s (by rw[<-hm];exact aN)
end
open Go.RowKit
section
variable {P:cv} {cx:cj} {φ:bL} {ι:Nat->az} {w:bk} {J:List aG} {nt:jy} {st bb:bU} {a:Act}
theorem arN: ∀(d:List dZ) (R:List aG) (l:List eN),fW d R=some l->R.length=d.length:=by
 intro d
 induction d with
 |nil=>intro R l h;cases R<;>simp[fW]at h ⊢
 |cons a d aR=>
  intro R l h;cases R with
  |nil=>simp[fW]at h
  |cons b R=>
   simp only[fW]at h;split at h
   ·obtain ⟨b,L,-⟩:=h9.1 h;simp[aR R b L]
   ·cases h
theorem adq {S:Shape} {d:S.ty.den} (h:S.dec st=some d):st.regs.length=S.regs.length/\st.heap.length=S.objs.length:=by
 unfold Shape.dec at h;cases aV:jb S.regs st.regs with
 |none=>simp[aV]at h
 |some x=>
  cases L:fW S.objs st.heap with
  |none=>simp[aV,L]at h
  |some y=>exact ⟨zm _ _ _ aV,arN _ _ _ L⟩
theorem adf {S:Shape} {m:Nat} {d:S.ty.den} (e:(S.take m st).val=some d):(S.enc d).heap.length=S.objs.length:=by unfold Shape.take at e;obtain ⟨⟨bb,cB,aJ,hp⟩,M,V⟩:=DT.val_bind_some e;simp only[DT.val_ofOpt]at V;rw[Shape.dec_enc V];exact (adq V).2
theorem ajS: ∀(l m:List K) (xs aZ:List az),K.relT φ ι w l xs->K.relT φ ι w m aZ->K.relT φ ι w (l++m) (xs++aZ):=by
 intro l
 induction l with
 |nil=>intro m xs aZ q G;simp only[K.relT]at q;subst q;exact G
 |cons r l aR=>intro m xs aZ q G;obtain ⟨v,rE,rfl,ab,aE⟩:=q;exact ⟨v,rE++aZ,rfl,ab,aR m rE aZ aE G⟩
theorem aiK: ∀(l m:List K),K.idsL (l++m)=K.idsL l++K.idsL m:=by
 intro l m
 induction l with
 |nil=>rfl
 |cons r l aR=>simp[K.idsL,aR]
theorem acr [Env] {fn:Func} {args:List K} {aP:Array az} (ek:cg φ ι w J) (fE:K.relT φ ι w args aP.toList) (fr: ∀i∈K.idsL args,(aF J i).live=true) (ea:aP.size<=fn.ntmps) (h6:fn.ntmps<=dJ) (hlen:aP.size=args.length):
  ds φ ι w ⟨fn.ntmps,w.heap.size,[],none,true⟩ ⟨(fU 0 args).put dJ (.tup []),J⟩ {tmps:=aP++Array.replicate (fn.ntmps-aP.size) undef,defers:=[]}:=by
 refine ⟨ek,λI r ao=> ?_,by simp;omega,h6,oa (ca _)⟩;have ao:((fU 0 args).put dJ (.tup [])).get I=some r:=ao;rw[bR.get_put]at ao;by_cases mi:I=dJ
 ·subst mi;simp only[if_true,bJ]at ao;subst ao;rw[qJ];exact ⟨⟨#[],rfl,rfl⟩,by simp[K.ids,K.idsL]⟩
 ·simp only[mi,if_false]at ao;obtain ⟨bd,a6,cp⟩:=oH args 0;obtain ⟨k,af,hU⟩:=nf _ 0 I r (by rw[bd,a6]) ao;have e1:I=k:=u;subst e1;have bO:=cp I (I,r) hU;simp only at bO;obtain ⟨v,a8,jq⟩:=ue fE bO;have fb:aP[I]? =some v:=by simpa using a8
  have lN:I<aP.size:=(kU.1 fb).1;have:(aP++Array.replicate (fn.ntmps-aP.size) undef).getD I undef=v:=by rw[jc,Array.getElem?_append_left lN,fb];rfl
  rw[iR mi,this];exact ⟨jq,λi E=>fr i (tZ bO i E)⟩
def G3 (fn:Func):Bool:=
 hx fn.ntmps (b4 fn)&& !e0 (b4 fn)&& !gA (b4 fn)&&Nat.ble fn.ntmps dJ&& !(fn.name== "runtime.NumGoroutine")&&fn.results.toList.isEmpty
def K9 (fn:Func) (S Z:Shape):Bool:=
 hx fn.ntmps (b4 fn)&& !e0 (b4 fn)&&Nat.ble fn.ntmps dJ&&Nat.ble fn.results.size dJ&& !(fn.name== "runtime.NumGoroutine")&&Nat.ble S.regs.length fn.ntmps&&decide (Z.regs.map (·.1)=List.range' 0 fn.results.size)
set_option maxHeartbeats 1000000 in
theorem arO [Env] {Fd:bn} {m:Nat} {ax:bK} {fd:FuncId} {hv fn:Func} (tab:cN P Fd.cx) (c7:cc P Fd.Γ) (hm:P.follows .mixedOrders=true) (aM:P.funcs[fd]? =some hv) (L:hv.body=some (b4 hv)) (cC:G3 hv=true)
  (ad: ∀s∈ez (b4 hv) 0,hl P Fd hv.ntmps s.1 s.2) (yj:Fd.m=ax.S.objs.length) (jT:nt.df) {R:Ending->bk->Prop} {o:ax.Out}:
  ∀n d φ ι w a,fY (λd=>(uI ax m Fd fd hv d).val) n d=some o->ds φ ι w nt (ax.S.enc d) a->(ax.S.enc d).heap.length=ax.S.objs.length->li (ax.S.enc d).heap.length (ax.S.enc d).heap->li m (ax.S.enc d).heap->
   (∀x aq av aH,o=.inl x->Fh av aH aq (ax.X.enc x) a->ds av aH aq nt (ax.X.enc x) {a with defers:=[]}->Step φ ι w (ax.S.enc d).heap av aH aq (ax.X.enc x).heap->ie m ι (ax.S.enc d).heap aH (ax.X.enc x).heap-> ∃v,(results fn a.tmps).run P aq=.ok v aq/\R (.returned v) aq)->
   LeavesInM (e9 none) 0 P fn a.tmps R a.defers .returning w:=by
 intro n
 induction n with
 |zero=>intro d φ ι w a h;cases h
 |succ n aR=>
  intro d φ ι w a h cn hlen awt lm c8;simp only[fY]at h;cases fl:(uI ax m Fd fd hv d).val with
  |none=>simp[fl]at h
  |some r=>
  simp only[fl]at h;unfold uI at fl;split at fl
  ·rename_i f A B t xs q5;have s:=DT.val_bif fl;clear fl;obtain ⟨Ih,fl⟩:=s;simp only[bQ,Nat.beq_eq]at Ih;obtain ⟨Ih,CL⟩:=Ih;have CL:=hc CL;subst Ih;obtain ⟨⟨aP,eL,CV,gd⟩,fr⟩:=cn.regs dJ _ q5;rw[qJ]at eL;have eL:a.defers.map su=aP:=by simpa using eL
   cases xs with
   |nil=>
    simp only[List.isEmpty_nil,DT.val,an]at fl;obtain ⟨x,M,V⟩:=DT.val_bind_some fl;simp only[DT.val,bJ]at V;subst V;simp only[bJ]at h;subst h;have o9:a.defers=[]:=by
     have:(a.defers.map su).length=0:=by rw[eL];simpa using CV
     simpa using this
    have gE:(⟨(ax.S.enc d).regs,(ax.S.enc d).heap⟩:bU)=ax.S.enc d:=rfl;rw[gE]at M;obtain ⟨av,aH,bd,a6,cp,-,-⟩:=lJ M cn lm;rw[o9];have aV:{a with defers:=[]}=a:=by cases a;simp only at o9;subst o9;rfl
    exact c8 x w av aH rfl bd.rr (by rw[aV];exact bd) a6 cp
   |cons x l=>
    simp only[List.isEmpty_cons,DT.val,ay,List.head?_cons,List.tail_cons]at fl;obtain ⟨⟨M,cd⟩,q,G⟩:=DT.val_bind_some fl;clear fl;obtain ⟨s3,ab⟩:(M=.nrm\/M=.ret)/\cd.regs.get dJ=some (.tup [])/\((ax.S.take m ⟨(ax.S.enc d).regs.put dJ (.dfr f A B t l),cd.heap⟩).bind λd=>DT.leaf (Sum.inl (β:=ax.Out) d)).val=some r:=by
     cases M with
     |exit i=>simp[DT.val]at G
     |nrm=>
      simp only at G;split at G
      ·rename_i bC;cases bC
      ·rename_i bC _;exact ⟨.inl rfl,bC,G⟩
      ·simp[DT.val]at G
     |ret=>
      simp only at G;split at G
      ·rename_i bC;cases bC
      ·rename_i bC _;exact ⟨.inr rfl,bC,G⟩
      ·simp[DT.val]at G
    obtain ⟨aeO,ab⟩:=ab;obtain ⟨gG,aE,bf⟩:=DT.val_bind_some ab;simp only[DT.val,bJ]at bf;subst bf;simp only at h;cases aP with
    |nil=>simp at CV
    |cons ae aP=>
    obtain ⟨bh,lG,ba,rfl,ag,aS,bP⟩:=gd 0 x ae rfl rfl;obtain ⟨I,fi,Rc,m2,p1⟩: ∃I fi,a.defers=I::fi/\su I=.func (.func f) #[] (bh++lG::ba).toArray/\fi.map su=aP:=by
     cases oz:a.defers with
     |nil=>rw[oz]at eL;simp at eL
     |cons I fi=>
      rw[oz]at eL;simp only[List.map_cons,List.cons.injEq]at eL;exact ⟨I,fi,rfl,eL.1,eL.2⟩
    obtain ⟨aW,avW⟩:I.target=.fn (.func f) (bh++lG::ba).toArray/\I.args= #[]:=by
     unfold su at m2;split at m2
     ·rename_i g y bC;injection m2 with bw bS dD
      exact ⟨by rw[bC,bw,dD],bS⟩
     ·cases m2
    simp only[G3,bQ,eT,List.isEmpty_iff]at cC;obtain ⟨⟨⟨⟨⟨awN,ahg⟩,awO⟩,SD⟩,awP⟩,awQ⟩:=cC;have SD:=hc SD;rw[Rc];refine ⟨aU,.inr ⟨(λh=>(by cases h)),.func f,_,f,#[]++(bh++lG::ba).toArray,aW,?_,λ_ _=>trivial,?_⟩⟩
    ·rw[aW,avW];have Cw: ¬hv.name= "runtime.NumGoroutine":=by simpa using awP
     simp only[invoke];unfold callFunc;simp[aM,Cw,L]
    have fE:K.relT φ ι w (A++ .fptr t x::B) (#[]++(bh++lG::ba).toArray).toList:=by simp only[Array.empty_append];refine ajS _ _ _ _ ag ⟨lG,ba,rfl,aS,bP⟩
    obtain ⟨args,aur⟩: ∃args:Array az,#[]++(bh++lG::ba).toArray=args:=⟨_,rfl⟩;rw[aur]at fE ⊢;have au4: ∀i∈K.idsL (A++ .fptr t x::B),(aF (ax.S.enc d).heap i).live=true:=by intro i E;refine fr i ?_;rw[aiK]at E;simpa [K.ids,K.idsL] using E
    have aff:args.size=(A++K.fptr t x::B).length:=by
     have: ∀(l:List K) (aP:List az),K.relT φ ι w l aP->aP.length=l.length:=by
      intro l
      induction l with
      |nil=>intro aP h;simp only[K.relT]at h;simp[h]
      |cons r l aR=>intro aP h;obtain ⟨v,m,rfl,-,h⟩:=h;simp[aR m h]
     simpa using this _ _ fE
    refine CallsDIn.mono (callsDIn_of_wp (F:=e9 none) aM L trivial (R:=λe aq=> ∃v,e=.returned v/\LeavesInM (e9 none) 0 P fn a.tmps R fi .returning aq) ?_) λe iU aq=> ?_
    ·have lu:ds φ ι w ⟨hv.ntmps,w.heap.size,[],none,true⟩ ⟨(fU 0 (A++ .fptr t x::B)).put dJ (.tup []),(ax.S.enc d).heap⟩ {tmps:=args++Array.replicate (hv.ntmps-args.size) undef,defers:=[]}:=by refine acr cn.heap fE au4 ?_ SD aff;rw[aff];simp only[eF,iy];omega
     refine nR tab c7 hm (b4 hv) 0 _ M cd φ ι w _ _ q ad awN (eS _ ahg) (iL.no ahg awO) lu (by rw[yj,<-hlen];exact awt) λbs aq av aH cY sp bZ=> ?_
     have oz:bs.defers=[]:=by
      obtain ⟨⟨wD,ID,RU⟩,-⟩:=cY.regs dJ _ aeO;rw[qJ]at ID;simp only[K.relT]at RU;have:wD= #[]:=by cases wD;simpa using RU
      subst this;simpa using ID
     have mu:=wj (P:=P) (fn:=hv) (a:=bs) (aP:=[]) (w:=aq) (by rw[awQ];rfl);have ae9:bs.defers=[]/\ ∃v,(results hv bs.tmps).run P aq=.ok v aq/\ ∃lx,Ending.returned v=.returned lx/\LeavesInM (e9 none) 0 P fn a.tmps R fi .returning aq:=by
      refine ⟨oz,_,mu,_,rfl,?_⟩;have wL:eo ι (ax.S.enc d).heap aH cd.heap:=by rw[yj,<-hlen]at bZ;exact ⟨λo W=>(bZ o (gM W) W).1,λo W=>(bZ o (gM W) W).2⟩
      have qn:ds av aH aq nt ⟨(ax.S.enc d).regs.put dJ (.dfr f A B t l),cd.heap⟩ {a with defers:=fi}:=by
       refine ⟨cY.heap,λlH gT ld=> ?_,cn.nt,cn.small,⟨Nat.le_trans cn.defers.1 sp.size,λh=>by rw[jT.2.1]at h;cases h⟩⟩;have ld:((ax.S.enc d).regs.put dJ (.dfr f A B t l)).get lH=some gT:=ld;rw[bR.get_put]at ld;by_cases mi:lH=dJ
       ·subst mi;simp only[if_true,bJ]at ld;subst ld;have old:(K.dfr f A B t l).rel φ ι w (.tuple aP.toArray):=⟨aP,rfl,by simpa using CV,λi y iU bt hu=>gd (i+1) y iU (by simpa using bt) (by simpa using hu)⟩;rw[qJ];simp only[p1];exact ⟨K.rel_step sp wL fr old,λi E=>wL.live i (fr i E)⟩
       ·simp only[mi,if_false]at ld;have bY:=cn.regs lH gT ld;rw[iR mi]at bY ⊢;exact ⟨K.rel_step sp wL bY.2 bY.1,λi E=>wL.live i (bY.2 i E)⟩
      have lo:li m cd.heap:=λo W=>wL.live o (lm o W)
      obtain ⟨ee,en,bd,a6,cp,eh,gZ⟩:=lJ aE qn lo;refine aR gG ee en aq {a with defers:=fi} h bd (adf aE) gZ (cp.live lo) λx gH mJ mI W bw bS dD du=> ?_
      exact c8 x gH mJ mI W ⟨bw.heap,bw.regs⟩ bS ((sp.trans a6).trans dD) (((wL.keepM m).trans cp).trans du)
     rcases s3 with rfl |rfl
     ·exact ae9
     ·exact ae9
    ·rintro ⟨rfl,v,rfl,nD⟩;exact nD
  ·simp[DT.val]at fl
set_option maxHeartbeats 1000000 in
theorem att [Env] {F Fd:bn} (tab:cN P F.cx) (c7:cc P F.Γ) (hm:P.follows .mixedOrders=true) {f:FuncId} {fn:Func} {S Z:Shape} (aM:P.funcs[f]? =some fn) (L:fn.body=some (b4 fn)) (cC:K9 fn S Z=true) (dS: ∀s∈ez (b4 fn) 0,hl P F fn.ntmps s.1 s.2)
  {ax:bK} {fd:FuncId} {hv:Func} {g:ax.S.ty.den->Option ax.Out} (nN:F.Λ dJ=ax.go g F.m) (S2:cN P Fd.cx) (QU:cc P Fd.Γ) (m4:P.funcs[fd]? =some hv) (Q7:hv.body=some (b4 hv)) (Rz:G3 hv=true)
  (pd: ∀s∈ez (b4 hv) 0,hl P Fd hv.ntmps s.1 s.2) (yj:Fd.m=ax.S.objs.length) (bC: ∀d o,g d=some o-> ∃n,fY (λd=>(uI ax F.m Fd fd hv d).val) n d=some o)
  {args:List K} (fk:F.m=S.objs.length) {d:S.ty.den} {z:Z.ty.den} (ah:S.dec ⟨fU 0 args,J⟩=some d) (e:(G5 F fn S Z d).val=some z):kk P f args J (ki (Z.enc z).regs) (Z.enc z).heap:=by
 have gX:=Shape.dec_enc ah;simp only[K9,bQ,eT,dT]at cC;obtain ⟨⟨⟨⟨⟨⟨oB,ae3⟩,h6⟩,iq⟩,nH⟩,nI⟩,nJ⟩:=cC;have h6:=hc h6;have iq:=hc iq;have iQ:args.length=S.regs.length/\J.length=S.objs.length:=by have:=adq ah;exact ⟨by rw[<-this.1];exact ((oH args 0).2.1).symm,this.2⟩
 unfold G5 at e;rw[L]at e;simp only[Option.getD_some]at e;obtain ⟨⟨M,gQ⟩,q,G⟩:=DT.val_bind_some e;have ab:M=.nrm\/M=.ret:=by
  cases M with
  |nrm=>exact .inl rfl
  |ret=>exact .inr rfl
  |exit i=>simp[DT.val]at G
 have aE:((F.Λ dJ gQ).bind λs=>((l1 F.cx s.2.regs 0 fn.results.toList).run s.2.heap s.2.heap.length .none).bind λ(R,h,_,_)=>Z.take F.m ⟨R,h⟩).val=some z:=by rcases ab with rfl |rfl<;>exact G
 clear G e;obtain ⟨⟨V,cd⟩,bf,bF⟩:=DT.val_bind_some aE;clear aE;simp only at bF;rw[nN]at bf;unfold bK.go at bf;obtain ⟨s1,t1,t2⟩:=DT.val_bind_some bf;clear bf;obtain ⟨o,W,he⟩: ∃o,g s1=some o/\(V,cd)=ax.fin o:=by
  cases j6:g s1 with
  |none=>simp[j6,DT.val]at t2
  |some o=>
   refine ⟨o,rfl,?_⟩;cases o with
   |inl x=>simp only[j6,DT.val,bJ]at t2;exact t2.symm
   |inr y=>simp only[j6,DT.val,bJ]at t2;exact t2.symm
 obtain ⟨n,aO⟩:=bC s1 o W;obtain ⟨⟨R,bg,pq,tB⟩,g6,dU⟩:=DT.val_bind_some bF;have kN:=HM.go_run _ _ _ _ _ _ _ _ g6;have kP:(Z.enc z).regs.map (·.1)=List.range' 0 fn.results.size:=by
  obtain ⟨⟨bb,bg,yP,pp⟩,bd,a6⟩:=DT.val_bind_some dU;simp only[DT.val_ofOpt]at a6;have cp:(Z.enc z).regs.map (·.1)=Z.regs.map (·.1):=by
   unfold Shape.dec at a6;cases aV:jb Z.regs bb.regs with
   |none=>simp[aV]at a6
   |some x=>
    cases L:fW Z.objs bb.heap with
    |none=>simp[aV,L]at a6
    |some y=>
     have:=rI _ _ x [] aV;rw[Shape.dec_enc (st:=bb) (by simp only[Shape.dec,aV,L]at a6 ⊢;exact a6)];exact v7 _ _ _ _ this
  rw[cp,nJ]
 refine ⟨⟨fn,aM,nH,by rw[L];rfl⟩,?_⟩;intro φ ι w aP ek e2 fE fr;refine xq aM L ?_;have eL:aP.size=args.length:=by
  have: ∀(l:List K) (aP:List az),K.relT φ ι w l aP->aP.length=l.length:=by
   intro l
   induction l with
   |nil=>intro aP h;simp only[K.relT]at h;simp[h]
   |cons r l aR=>intro aP h;obtain ⟨v,m,rfl,-,h⟩:=h;simp[aR m h]
  simpa using this _ _ fE
 have ea:aP.size<=fn.ntmps:=by rw[eL,iQ.1];exact hc nI
 rw[gX]at q;have lu:=acr (fn:=fn) ek fE fr ea h6 eL;have jH:li F.m J:=by rw[fk,<-iQ.2];exact λo W=>e2 o W
 refine nR tab c7 hm (b4 fn) 0 _ M gQ φ ι w _ _ q dS oB (eS _ ae3) (iL.fnD ae3) lu jH λbs aq av aH cY sp bZ=> ?_
 have lo:=bZ.live jH;obtain ⟨dE,fo,bd,a6,cp,eh,gZ⟩:=lJ t1 cY lo;have key:LeavesInM (e9 none) 0 P fn bs.tmps (λe aq=> ∃v av aH,e=.returned v/\cg av aH aq (Z.enc z).heap/\Step φ ι w J av aH aq (Z.enc z).heap/\eo ι J aH (Z.enc z).heap/\(ki (Z.enc z).regs).rel av aH aq v/\ ∀i∈(ki (Z.enc z).regs).ids,(aF (Z.enc z).heap i).live=true) bs.defers .returning aq:=by
  refine arO S2 QU hm m4 Q7 Rz pd yj ⟨rfl,rfl,rfl⟩ n s1 dE fo aq bs aO bd (adf t1) gZ (cp.live lo) λx da ee en al bw bS dD du=> ?_
  subst al;have m3:cd=ax.X.enc x:=by have:=congrArg Prod.snd he;exact this
  subst m3;have pA:=(sp.trans a6).trans dD;have m9:=(bZ.trans cp).trans du;have Su:=m9.live jH;obtain ⟨fI,gh,us,nW,IX,tB,awU⟩:=wi tab fn.results.toList 0 R (ax.X.enc x).heap _ bg pq kN bw.heap bw.regs;have kq:R.length=us.length:=by have:=congrArg List.length tB;simpa [IX] using this
  have mx:us.toArray.size=fn.results.size:=by simpa using IX
  have kg:ds ee en da ⟨us.toArray.size,0,[],none,false⟩ ⟨R,bg⟩ {tmps:=us.toArray,defers:=[]}:=by
   rw[fI];refine ⟨bw.heap,λI r ao=> ?_,rfl,by rw[mx];exact iq,oa (Nat.zero_le _)⟩;obtain ⟨k,af,hU⟩:=nf R 0 I r (by rw[tB];congr 1;omega) ao;have e1:I=k:=u;subst e1;obtain ⟨v,a8,jq,gP⟩:=awU I (I,r) hU;have:us.toArray.getD I undef=v:=by simp[jc,a8]
   have lN:I<us.length:=(iK.1 a8).1;have azP:us.length=us.toArray.size:=aU;rw[iR u];simp only[this];exact ⟨jq,gP⟩
  obtain ⟨mJ,mI,dH,cV,eV,lW,qe⟩:=lJ dU kg (by rw[fI];exact Su);have hR:(Z.enc z).regs.length=us.toArray.size:=by have:=congrArg List.length kP;simp only[List.length_map,List.length_range']at this;rw[this,mx]
  have s5:(Z.enc z).regs.map (·.1)=List.range' 0 (Z.enc z).regs.length:=by rw[kP,hR,mx]
  obtain ⟨ag,aS⟩:=uO (aP:=us.toArray) (R:=(Z.enc z).regs) s5 hR (w5 (a:={tmps:=us.toArray,defers:=[]}) s5 (by rw[hR,mx];exact iq) dH.regs);have mu:=wj nW;refine ⟨_,mu,_,mJ,mI,rfl,dH.heap,?_,?_,ag,aS⟩
  ·rw[fI]at cV;exact pA.trans cV
  ·rw[fI]at eV;have ka:=m9.trans eV;refine ⟨λo W=> ?_,λo W=> ?_⟩
   ·have bu:o<F.m:=by rw[fk,<-iQ.2];exact gM W
    exact (ka o bu W).1
   ·have bu:o<F.m:=by rw[fk,<-iQ.2];exact gM W
    exact (ka o bu W).2
 rcases ab with rfl |rfl
 ·exact key
 ·exact key
theorem arS [Env] {F Fd:bn} (tab:cN P F.cx) (c7:cc P F.Γ) (hm:P.follows .mixedOrders=true) {cT:aY} {fn:Func} (aM:P.funcs[cT.f]? =some fn) (L:fn.body=some (b4 fn)) (cC:K9 fn cT.S cT.Z=true) {m:List (Nat×Code)} (ad:ez (b4 fn) 0=m) (dS:oQ P F fn.ntmps m)
  {ax:bK} {fd:FuncId} {hv:Func} {b:ax.S.ty.den->Option (ax.S.ty.den⊕ax.Out)} {g:ax.S.ty.den->Option ax.Out} (auT: ∀d,g d=b6 b d) (nN:F.Λ dJ=ax.go g F.m) (S2:cN P Fd.cx) (QU:cc P Fd.Γ) (m4:P.funcs[fd]? =some hv) (Q7:hv.body=some (b4 hv)) (Rz:G3 hv=true)
  (pd:ez (b4 hv) 0=[]) (yj:Fd.m=ax.S.objs.length) (pZ: ∀d,(uI ax F.m Fd fd hv d).val=b d) (fk:F.m=cT.S.objs.length) (bC: ∀d,(G5 F fn cT.S cT.Z d).val=cT.g d):cz P cT:=
 λargs J d z ah bI=>att (ax:=ax) (g:=g) tab c7 hm aM L cC (uA ad dS) nN S2 QU m4 Q7 Rz (by rw[pd];simp) yj (λd o h=>by rw[auT]at h;obtain ⟨n,aO⟩:=Ou h;exact ⟨n,by rw[show (λd=>(uI ax F.m Fd fd hv d).val)=b from funext pZ];exact aO⟩) fk ah ((bC d).trans bI)
end
open Go.RowKit
def sq (P:cv):DataW (List UInt8)->Option Nat->Bool
 | .nil,none=>true
 | .held (b::r),some f=>decide (((List.range P.funcs.size).filter λf=>(P.funcs[f]?).any (·.name.toUTF8.data.toList==b::r))=[f])
 |_,_=>false
def xo (P:cv):List (DataW (List UInt8))->List (Option Nat)->Bool
 |[],[]=>true
 |I::fi,o::os=>sq P I o&&xo P fi os
 |_,_=>false
theorem abb {P:cv}: ∀(fi:List (DataW (List UInt8))) (os:List (Option Nat)),xo P fi os=true-> ∀(i:Nat) (o:Option Nat),os[i]? =some o-> ∃I,fi[i]? =some I/\sq P I o=true
 |[],[],_,i,o,h=>by simp at h
 |[],_::_,h,_,_,_=>by simp[xo]at h
 |_::_,[],h,_,_,_=>by simp[xo]at h
 |I::fi,o::os,h,i,dV,E=>by
  simp only[xo,bQ]at h;cases i with
  |zero=>
   simp only[List.getElem?_cons_zero,bJ]at E;subst E;exact ⟨I,rfl,h.1⟩
  |succ i=>simpa using abb fi os h.2 i dV (by simpa using E)
theorem ata {P:cv} {w:bk} {base:Nat} {sp:Nat->Bool} {fuel:Nat} {e:bq} {ps rs:Array bq} {mG:Bool} {v:az} {s:List MemPlace} {I:DataW (List UInt8)} {o:Option Nat}
  (aW:P.underlying e=some (.func ps rs mG)) (aV:sq P I o=true) (h:DataW.trod (funcToken P) P w base sp true fuel e [v]=some (I,s)):v=mX o:=by
 cases I with
 |nil=>
  cases o with
  |some f=>simp[sq]at aV
  |none=>
   cases fuel with
   |zero=>simp[DataW.trod]at h
   |succ n=>cases v<;>simp[DataW.trod,aW]at h<;>rfl
 |held k=>
  cases k with
  |nil=>cases o<;>simp[sq]at aV
  |cons b r=>
   cases o with
   |none=>simp[sq]at aV
   |some f=>
    simp only[sq,dT]at aV;exact func_of_trod aW aV h
 |_=>cases o<;>simp[sq]at aV
theorem asE {P:cv} {w:bk} {n:String} {I:DataW Unit} (h:funcsAt P w n I) {g t e:Nat} {dx:List (Option Nat)} {ps rs:Array bq} {mG:Bool} {fi:List (DataW (List UInt8))} (ao:I.funcsOut=.agg fi) (bC:P.globalNamed n=some g) (aW:(P.globals[g]?).map (·.type)=some t)
  (hu:P.underlying t=some (.array dx.length e)) (CU:P.underlying e=some (.func ps rs mG)) (aw:P.cellsOf e=1) (aV:xo P fi dx=true):kB (Told w) w g 0 (dx.map mX):=by
 obtain ⟨Qy,iJ,cs,fuel,p,auR,RO,a8,ar⟩:=h;obtain rfl:=eW (bC.symm.trans auR);obtain rfl:=eW (aW.symm.trans RO);rw[ao]at ar;obtain ⟨xs,m,_,al,p0,hlen,gC⟩:=DataW.trod_array hu ar;simp only[c0,DataW.agg.injEq]at al;obtain ⟨Rc,-⟩:=al;intro i v E;rw[List.getElem?_map]at E;obtain ⟨o,W,rfl⟩:=h9.1 E;obtain ⟨azj,aeE,aup⟩:=abb fi dx aV i o W;have bu:i<dx.length:=(iK.1 W).1;have iZ:=gC i bu;rw[aw,Nat.mul_one]at iZ;rw[Rc,List.getElem?_map]at aeE;obtain ⟨y,bt,rfl⟩:=h9.1 aeE;rw[bt]at iZ;have fX:=World.var?_cell bC a8 i;have key: ∃ae,cs[i]? =some ae/\(cs.toList.drop i).take 1=[ae]:=by
  cases hu:cs[i]? with
  |some ae=>
   have q:cs.toList[i]? =some ae:=by simpa using hu
   refine ⟨ae,rfl,?_⟩;obtain ⟨G,ab⟩:=iK.1 q;rw[lZ G,ab];rfl
  |none=>
   have q:cs.toList.length<=i:=by simpa using hu
   rw[List.drop_of_length_le q]at iZ;cases m with
   |zero=>simp[DataW.trod]at iZ
   |succ m=>simp[DataW.trod,CU]at iZ
 obtain ⟨ae,av1,av2⟩:=key;rw[av2]at iZ;have:=ata CU aup (I:=y.1) (s:=y.2) iZ;rw[av1,this]at fX;rw[Nat.zero_add];exact ⟨⟨_,fX⟩,fX⟩
open Go.RowKit Go.Shelf
def AZ (d:List UInt8×List UInt8×Unit):Option (List UInt8×Unit):=
 bif Nat.blt d.1.length 4294967281&&Nat.blt d.2.1.length 4294967281&&d.2.1.all (λb=>Nat.blt b.toNat 128) then some (Lib.trimS d.1 d.2.1,()) else none
section
variable {P:cv}
theorem ajs [Env] {ρ:Ren} (ax:Go.Proofs.Lays.n160 P ρ) (H7:(P.info? (ρ.t 116)).map (λi=>(i.zero,i.size))=some (some (.agg (Array.replicate 256 (.bool false))),256)) {fn:Func} (aM:P.funcs[ρ.f 160]? =some fn) (cC:(!(fn.name== "runtime.NumGoroutine")&& !fn.body.isNone)=true):
  cz P ⟨ρ.f 160,⟨[(0,.dat .str),(1,.dat .str)],[]⟩,⟨[(0,.dat .str)],[]⟩,AZ⟩:=by
 intro args J d z ah bI;have gX:=Shape.dec_enc ah;obtain ⟨a,b,ae⟩:=d;have bI:AZ (a,b,ae)=some z:=bI;unfold AZ at bI;simp only at bI;cases aw:Nat.blt a.length 4294967281&&Nat.blt b.length 4294967281&&b.all (λb=>Nat.blt b.toNat 128)
 ·rw[aw]at bI;cases bI
 rw[aw,an]at bI;obtain rfl:=eW bI;simp only[bQ]at aw;obtain ⟨⟨ba,ga⟩,c5⟩:=aw;have ba:=hc ba;have ga:=hc ga;have iZ:(Shape.enc ⟨[(0,.dat .str),(1,.dat .str)],[]⟩ (a,b,ae))=⟨[(0,.dat .str a),(1,.dat .str b)],[]⟩:=rfl;have gX:=iZ.symm.trans gX;injection gX with q G
 obtain rfl:args=[.dat .str a,.dat .str b]:=(xa 0 [.dat .str a,.dat .str b] args q).symm;subst G;simp only[bQ,eT]at cC;refine ⟨⟨fn,aM,cC.1,cC.2⟩,fun φ ι w aP ek e2 fE fr=> ?_⟩;obtain ⟨v1,dH,M,ag,v2,cV,V,aS,hm⟩:=fE;simp only[K.relT]at hm;subst hm V;have gy:v1=.string ⟨⟨a⟩⟩:=cF.str.1 ag;have mU:v2=.string ⟨⟨b⟩⟩:=cF.str.1 aS;subst gy mU;obtain rfl:aP= #[.string ⟨⟨a⟩⟩,.string ⟨⟨b⟩⟩]:=by cases aP;simp at M;simp[M]
 have ea: ∀l:List UInt8,(⟨⟨l⟩⟩:ByteArray).size=l.length:=λ_=>rfl
 refine (Go.Proofs.Any.strings_Trim_laid ax H7 ⟨⟨a⟩⟩ ⟨⟨b⟩⟩ w (by rw[ea];omega) (by rw[ea];omega) (λj x al=> ?_)).mono ?_
 ·have al:b[j]? =some x:=al;have:=fC.1 c5 x (List.mem_of_getElem? al);exact hc this
 ·rintro e aq ⟨rfl,L⟩;obtain ⟨bd,a6⟩:=ek.below L;exact ⟨_,φ,ι,rfl,bd,a6,eo.refl _ _,h2 (cF.str.2 rfl),λi E=>absurd (show i∈([]:List Nat) from E) aU⟩
end
end Go.X
