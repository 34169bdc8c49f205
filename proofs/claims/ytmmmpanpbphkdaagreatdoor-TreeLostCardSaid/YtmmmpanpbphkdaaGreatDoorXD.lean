import Derived.Test.YtmmmpanpbphkdaaGreatDoorXC
import Derived.Lib.Overlaps
import Derived.Shelf.Strings.IndexAnyAll
import Derived.LaidHandle
import Derived.LaidMore
import Derived.OpenShut
import Derived.Shelf.Strings.SlTrimAscii
set_option linter.unusedVariables false
set_option linter.unusedSimpArgs false
namespace Go.X
open Go.RowKit
def ID (t:aB):List K->List aF->DT (K×List aF)
 |[.own ad o,.view v p aM u],H=>match aE H o,aE H p with
  | .arr _ a _ false,.arr _ b _ false=>bif decide (ad=t)&&decide (v=t)&&decide (a=t)&&decide (b=t)&& !Nat.beq o p then .leaf (.dat .bool false,H) else .fail
  |_,_=>.fail
 |_,_=>.fail
section
variable {P:cq}
theorem Vl {w:bh} {DF aw9 e:bm} (aT:P.underlying DF=some (.slice e)) {size:Nat} (bI: ∀w,(Go.sizeOf e).run P w=.ok size w) {a b:Option Addr} {jB G1 C1 iR:Nat} (h:a=none\/b=none\/jB=0\/C1=0):
  (Extern.SlicesOverlaps.overlaps #[DF,DF] #[aw9] #[.slice a jB G1,.slice b C1 iR]).run P w=.ok (.bool false) w:=by
 change Sem.run P (α:=az) (do
  let some t:=(#[DF,DF]:Array bm)[0]? |stuck "slices.overlaps: no parameter types"
  let .slice elem<-underlying t |stuck "slices.overlaps: slice type expected"
  let size<-sizeOf elem
  match (a:Option Addr),(b:Option Addr) with
  |some a,some b=>
   if jB=0\/C1=0\/size=0 then pure (Value.bool false)
   else if a.block != b.block&&(<-frozen a)&&(<-frozen b) then unsupported .addressObserved
   else do
    if a.block != b.block then do
     noView a;noView b
     if<-mayBeOne a b then return Value.bool ((<-choose (.extern "sameAddr.stringBytes" 2))==1)
    pure (Value.bool (a.block==b.block&&a.off<b.off+C1*size&&b.off<a.off+jB*size))
  |_,_=>pure (Value.bool false)) w=_
 cases a with
 |none=>cases b<;>simp[run_underlying aT,bI]
 |some a=>
  cases b with
  |none=>simp[run_underlying aT,bI]
  |some b=>
   have b8:jB=0\/C1=0\/size=0:=by
    rcases h with h |h |h |h
    ·cases h
    ·cases h
    ·exact .inl h
    ·exact .inr (.inl h)
   simp[run_underlying aT,bI,b8]
theorem aip [Env] {f:FuncId} (ya:jo f=false) {fn:Func} {T dS e:bm} {t:aB} {bytes:Nat} (vq:t≠ .int .u8) (aL:P.funcs[f]? =some fn) (Q7:(fn.name== "runtime.NumGoroutine")=false) (J:fn.body.isNone=true) (aR:Extern.findNext fn=none)
  (he:Extern.find fn=some (Extern.SlicesOverlaps.overlaps #[T,T] #[dS])) (al:P.underlying T=some (.slice e)) (gw:sF P e t bytes) (args:List K) (H:List aF) (r:K) (aA:List aF) (h:(ID t args H).val=some (r,aA)):wx P f args H r aA:=by
 unfold ID at h;split at h
 case h_2=>simp[DT.val]at h
 rename_i ad o v p aM u;split at h
 case h_2=>simp[DT.val]at h
 rename_i L a xs aa b aW W aP;cases aw:decide (ad=t)&&decide (v=t)&&decide (a=t)&&decide (b=t)&& !Nat.beq o p
 ·rw[aw]at h;simp[DT.val]at h
 rw[aw,ak]at h;simp only[DT.val,bH,cV]at h;obtain ⟨rfl,rfl⟩:=h;simp only[bN,dJ,eJ]at aw;obtain ⟨⟨⟨⟨hu,aZ⟩,aS⟩,en⟩,cC⟩:=aw;subst hu aZ;subst aS;subst en;have cC:o≠p:=by rintro rfl;simp at cC
 intro φ ι w aO eh e9 fA fk;obtain ⟨v1,dU,bj,ah,v2,c6,bG,aJ,hm⟩:=fA;simp only[K.relT]at hm;subst hm bG;obtain rfl:aO= #[v1,v2]:=by cases aO;simp at bj;simp[bj]
 have s:=eh.obj o;have E:=eh.obj p;rw[W]at s;rw[aP]at E;obtain ⟨A,n,c,dY,a2,a3,a4,a5⟩:=s;obtain ⟨B,m,I,b1,b2,b3,hs,hI⟩:=E;obtain ⟨rfl,-⟩:=ah;obtain ⟨ax7,rA,lF,ahE,a7,aX,c3,e5,rfl,kD,mN⟩:=aJ;rw[b1]at a7;obtain ⟨rfl,rfl,rfl⟩:=iG a7;have bI:=λw=>yB (P:=P) gw w
 have eL:(Extern.SlicesOverlaps.overlaps #[T,T] #[dS] #[ι o,.slice ahE (u-aM) (I-aM)]).run P w=.ok (.bool false) w:=by
  rw[dY];by_cases aus:n=0
  ·exact Vl al bI (.inr (.inr (.inl aus)))
  by_cases x0:u-aM=0
  ·exact Vl al bI (.inr (.inr (.inr x0)))
  rcases a5 with a5 |⟨k,pre,cur,c0,rfl,g1,g2,g3,g0,g4,g5,g6,g7⟩
  ·omega
  rcases hI with hI |⟨aU,pre2,ac2,ayo,rfl,bb,ck,ep,bw,hz,iI,yn,ayT⟩
  ·omega
  have di:=kD (by omega);subst di;have dT:0<b.size:=by obtain ⟨dB,z,_,_,_,_,_,g6,_⟩:=gw;exact g6
  have hk:k≠aU:=by rintro rfl;exact cC (eh.apart o p k (by rw[W];rfl) (by rw[aP];rfl) (by rw[dY];simp[dG];omega) (by rw[b1];simp[dG];omega))
  have p4:0<cur.size:=by rw[g2];exact Nat.mul_pos (by omega) dT
  have ayz:0<ac2.size:=by rw[ck];exact Nat.mul_pos (by omega) dT
  have x1:=g3.last.resolve_left vq;have:=Lib.run_overlaps_apart w T dS e al b.size bI ⟨k,pre.size,none⟩ ⟨aU,pre2.size+aM*b.size,none⟩ n c (u-aM) (I-aM) hk L aa (pre.size+cur.size) (pre2.size+ac2.size)
   (by simp[World.shape?,g1]) (by simp[World.shape?,bb]) (by omega)
   (by have b8:=g3.ok pre.size (by omega);simp only[World.frozen?,g1];simpa using b8)
   (by simp only[World.frozen?,g1];simpa using x1)
  simpa [hv] using this
 refine (jR.call ya).2 (.inr ⟨.bool false,w,?_,.bool false,φ,ι,rfl,eh,Step.refl _ _ _ _,ej.refl _ _,h3 (cA.bool.2 rfl),by simp[K.ids]⟩);rw[run_callFunc_extern aL Q7 J aR he,eL];rfl
theorem ajh [Env] {cx:cd} (tab:cQ P cx) {f:FuncId} (ya:jo f=false) {fn:Func} {T dS:bm} {t:aB} (bU:cx.isTy T (.list t)=true) (vq:decide (t=.int .u8)=false) (aL:P.funcs[f]? =some fn) (Q7:(fn.name== "runtime.NumGoroutine")=false) (J:fn.body.isNone=true) (aR:Extern.findNext fn=none)
  (he:Extern.find fn=some (Extern.SlicesOverlaps.overlaps #[T,T] #[dS])) (args:List K) (H:List aF) (r:K) (aA:List aF) (h:(ID t args H).val=some (r,aA)):wx P f args H r aA:=by
 obtain ⟨i,u,aT⟩:=hK bU;obtain ⟨al,gw⟩:=kL tab u aT;exact aip ya (of_decide_eq_false vq) aL Q7 J aR he al gw args H r aA h
end
open Go.RowKit
def GS [Env] (F:bk) (fn:Func) (Z:Shape) (args:List K) (H:List aF):DT Z.ty.den:=
 (gb F (bX fn) 0 ⟨fQ 0 args,H⟩).bind λq=>match q.1 with
  | .exit _=>.fail
  |_=>((lX F.cx q.2.regs 0 fn.results.toList).run q.2.heap q.2.heap.length .none).bind λp=>Z.take F.m ⟨p.1,p.2.1⟩
section
variable {P:cq} {H:List aF}
theorem aap [Env] {F:bk} (tab:cQ P F.cx) (c1:ca P F.Γ) (hm:P.follows .mixedOrders=true) {f:FuncId} {fn:Func} {Z:Shape} (aL:P.funcs[f]? =some fn) (J:fn.body=some (bX fn)) (cy:(i8 fn.ntmps (bX fn)&& !(fn.name== "runtime.NumGoroutine")&& !eT (bX fn)&& !gv (bX fn)&&Nat.ble fn.ntmps dE&&Nat.ble fn.results.size dE)=true) (ab:et (bX fn) 0=[])
  (nD:Z.regs.map (·.1)=List.range' 0 fn.results.size) {args:List K} (eU:args.length<=fn.ntmps) (fb:F.m=H.length) {z:Z.ty.den} (e:(GS F fn Z args H).val=some z):kh P f args H (kf (Z.enc z).regs) (Z.enc z).heap:=by
 simp only[bN,eJ]at cy;obtain ⟨⟨⟨⟨⟨ow,nB⟩,nC⟩,jL⟩,h6⟩,ik⟩:=cy;have h6:=gV h6;have ik:=gV ik;unfold GS at e;obtain ⟨⟨L,cn⟩,s,E⟩:=DT.val_bind_some e;have O:L=.nrm\/L=.ret:=by
  cases L with
  |nrm=>exact .inl rfl
  |ret=>exact .inr rfl
  |exit i=>simp[DT.val]at E
 have aC:(((lX F.cx cn.regs 0 fn.results.toList).run cn.heap cn.heap.length .none).bind λp=>Z.take F.m ⟨p.1,p.2.1⟩).val=some z:=by rcases O with rfl |rfl<;>exact E
 obtain ⟨⟨R,ba,mn,tv⟩,bF,dN⟩:=DT.val_bind_some aC;have j1:=HM.go_run _ _ _ _ _ _ _ _ bF;have kH:(Z.enc z).regs.map (·.1)=List.range' 0 fn.results.size:=by
  obtain ⟨⟨a8,bC,yA,pp⟩,bb,aU⟩:=DT.val_bind_some dN;simp only[DT.val_ofOpt]at aU;have ck:(Z.enc z).regs.map (·.1)=Z.regs.map (·.1):=by
   unfold Shape.dec at aU;cases aS:iV Z.regs a8.regs with
   |none=>simp[aS]at aU
   |some x=>
    cases J:fR Z.objs a8.heap with
    |none=>simp[aS,J]at aU
    |some y=>
     have:=rD _ _ x [] aS;rw[Shape.dec_enc (st:=a8) (by simp only[Shape.dec,aS,J]at aU ⊢;exact aU)];exact vU _ _ _ _ this
  rw[ck,nD]
 refine ⟨⟨fn,aL,nB,by rw[J];rfl⟩,?_⟩;intro φ ι w aO eh e9 fA fk;refine xc aL J ?_;have eB:aO.size=args.length:=by
  have: ∀(l:List K) (aO:List az),K.relT φ ι w l aO->aO.length=l.length:=by
   intro l
   induction l with
   |nil=>intro aO h;simp only[K.relT]at h;simp[h]
   |cons r l aQ=>intro aO h;obtain ⟨v,m,rfl,-,h⟩:=h;simp[aQ m h]
  simpa using this _ _ fA
 have dT:aO.size<=fn.ntmps:=by rw[eB];exact eU
 have lo:ds φ ι w ⟨fn.ntmps,w.heap.size,[],none,false⟩ ⟨fQ 0 args,H⟩ {tmps:=aO++Array.replicate (fn.ntmps-aO.size) undef,defers:=[]}:=by
  refine ⟨eh,λI r al=> ?_,by simp;omega,h6,nW (b7 _)⟩;obtain ⟨bb,aU,ck⟩:=oC args 0;obtain ⟨k,af,hk⟩:=m6 _ 0 I r (by rw[bb,aU]) al;have gF:I=k:=by omega
  subst gF;have bx:=ck I (I,r) hk;simp only at bx;obtain ⟨v,aZ,ji⟩:=tY fA bx;have eZ:aO[I]? =some v:=by simpa using aZ
  have lL:I<aO.size:=(kT.1 eZ).1;have:(aO++Array.replicate (fn.ntmps-aO.size) undef).getD I undef=v:=by rw[iX,Array.getElem?_append_left lL,eZ];rfl
  rw[iK (by omega),this];exact ⟨ji,λi u=>fk i (tV bx i u)⟩
 have jC:gM F.m H:=by rw[fb];exact λo W=>e9 o W
 refine nJ tab c1 hm (bX fn) 0 _ L cn φ ι w _ _ s (by rw[ab];simp) ow (eN _ nC) (iD.fn jL) lo jC λbn ao av aH cR sp bS=> ?_
 refine Ef O cR sp λao cR sp=> ?_
 have lj:=bS.live jC;obtain ⟨bj,bG,us,dm,cJ,fW,hU⟩:=vW tab fn.results.toList 0 R cn.heap _ ba mn j1 cR.heap cR.regs;have ko:R.length=us.length:=by have:=congrArg List.length fW;simpa [cJ] using this
 have kd:ds av aH ao ⟨us.toArray.size,0,[],none,false⟩ ⟨R,ba⟩ {tmps:=us.toArray,defers:=[]}:=by
  rw[bj];refine ⟨cR.heap,λI r al=> ?_,rfl,by rw[List.size_toArray,cJ];simpa using ik,nW (Nat.zero_le _)⟩;obtain ⟨k,af,hk⟩:=m6 R 0 I r (by rw[fW];congr 1;omega) al;have gF:I=k:=by omega
  subst gF;obtain ⟨v,aZ,ji,gG⟩:=hU I (I,r) hk;have:us.toArray.getD I undef=v:=by simp[iX,aZ]
  have lL:I<us.length:=(iC.1 aZ).1;have Rg:fn.results.toList.length=fn.results.size:=by simp
  rw[iK (by omega)];simp only[this];exact ⟨ji,gG⟩
 obtain ⟨ec,ei,dU,c6,fm,lS,qh⟩:=lH dN kd (by rw[bj];exact lj);have hP:(Z.enc z).regs.length=us.toArray.size:=by have:=congrArg List.length kH;simp only[List.length_map,List.length_range']at this;rw[this];simp[cJ]
 obtain ⟨ah,aJ⟩:=uL (aO:=us.toArray) (R:=(Z.enc z).regs) (by rw[kH];congr 1;simpa [cJ] using hP.symm) hP (wS (a:={tmps:=us.toArray,defers:=[]}) (by rw[kH];congr 1;simpa [cJ] using hP.symm) (by rw[hP,List.size_toArray,cJ];simpa using ik) dU.regs);have mi:=vX dm;refine ⟨_,mi,_,ec,ei,rfl,dU.heap,?_,?_,ah,aJ⟩
 ·rw[bj]at c6;exact sp.trans c6
 ·rw[bj]at fm;have iJ:=bS.trans fm;refine ⟨λo W=> ?_,λo W=> ?_⟩
  ·exact (iJ o (by rw[fb];exact gB W) W).1
  ·exact (iJ o (by rw[fb];exact gB W) W).2
end
def KV {α:Type} (bytes:Nat) (z0:α) (i:Int) (xs aW:List α):Option (List α×List α×Unit):=
 bif (decide ((0:Int)<=i)&&decide ((i:Int)<=(List.length xs:Int))&&decide (((List.length xs:Int):Int)<=(List.length xs:Int))) then
  let t0:List α:=(List.drop (Int.toNat i) (List.take (Int.toNat (List.length xs:Int)) xs))
  let t1:Bool:=(decide ((((List.length aW):Int):Int)=(0:Int)))
  bif t1 then
   none
  else
   let t2:Bool:=(decide ((i:Int)=((List.length xs):Int)))
   bif t2 then
    bif (decide (0<List.length aW)&&decide ((List.length xs+List.length aW)*bytes<=bp)) then
     some (aW,(xs++aW),())
    else
     none
   else
    let t3:Int:=(IntKind.i64.wrap (((List.length xs):Int)+((List.length aW):Int)))
    let t4:Bool:=(decide ((t3:Int)>(List.length xs:Int)))
    bif t4 then
     bif (decide ((0:Int)<=i)&&decide ((i:Int)<=(List.length xs:Int))) then
      let t5:Int:=(IntKind.i64.wrap (((List.length xs):Int)+((List.length aW):Int)))
      bif (decide ((0:Int)<(IntKind.i64.wrap (t5-i)))&&decide (((List.length xs):Int)<(List.length (List.take (Int.toNat i) xs):Int)+(IntKind.i64.wrap (t5-i)))&&decide (((List.length (List.take (Int.toNat i) xs):Int)+(IntKind.i64.wrap (t5-i)))*(bytes:Int)<=(bp:Int))) then
       let t6:List α:=((List.take (Int.toNat i) xs)++List.replicate (Int.toNat (IntKind.i64.wrap (t5-i))) z0)
       bif (decide ((0:Int)<=i)&&decide ((i:Int)<=(List.length t6:Int))&&decide (((List.length t6:Int):Int)<=(List.length t6:Int))) then
        let t7:List α:=(List.take ((Int.toNat (List.length t6:Int))-(Int.toNat i)) aW)
        let t8:List α:=(List.take (Int.toNat i) t6++t7++List.drop ((Int.toNat i)+List.length t7) t6)
        let t9:Int:=(IntKind.i64.wrap (i+((List.length aW):Int)))
        bif (decide ((0:Int)<=t9)&&decide ((t9:Int)<=(List.length t8:Int))&&decide (((List.length t8:Int):Int)<=(List.length t8:Int))) then
         bif (decide ((0:Int)<=i)&&decide ((i:Int)<=(List.length xs:Int))&&decide (((List.length xs:Int):Int)<=(List.length xs:Int))) then
          let t10:List α:=(List.drop (Int.toNat i) (List.take (Int.toNat (List.length xs:Int)) xs))
          let t11:List α:=(List.take ((Int.toNat (List.length t8:Int))-(Int.toNat t9)) t10)
          let t12:List α:=(List.take (Int.toNat t9) t8++t11++List.drop ((Int.toNat t9)+List.length t11) t8)
          some (aW,t12,())
         else
          none
        else
         none
       else
        none
      else
       none
     else
      none
    else
     let t5:Int:=(IntKind.i64.wrap (((List.length xs):Int)+((List.length aW):Int)))
     bif (decide ((0:Int)<=t5)&&decide ((t5:Int)<=(List.length xs:Int))) then
      let t6:Int:=(IntKind.i64.wrap (i+((List.length aW):Int)))
      bif (decide ((0:Int)<=t6)&&decide ((t6:Int)<=(List.length (List.take (Int.toNat t5) xs):Int))&&decide (((List.length (List.take (Int.toNat t5) xs):Int):Int)<=(List.length (List.take (Int.toNat t5) xs):Int))) then
       let t7:List α:=(List.drop (Int.toNat t6) (List.take (Int.toNat (List.length (List.take (Int.toNat t5) xs):Int)) (List.take (Int.toNat t5) xs)))
       none
      else
       none
     else
      none
 else
  none
def KW {α:Type} (bytes:Nat) (i:Int) (xs:List α) (z:α) (aW:List α):Option (List α×List α×Unit):=
 bif (decide ((0:Int)<=i)&&decide ((i:Int)<=(((List.length xs)-0:Nat):Int))&&decide (((((List.length xs)-0:Nat):Int):Int)<=((List.length (xs++[z])-0:Nat):Int))) then
  let t0:Bool:=(decide ((((List.length aW):Int):Int)=(0:Int)))
  bif t0 then
   some (aW,(List.take (List.length xs) (xs++[z])),())
  else
   let t1:Bool:=(decide ((i:Int)=(((List.length xs)-0:Nat):Int)))
   bif t1 then
    bif (decide ((List.length (List.take (List.length xs) (xs++[z]))+List.length aW)*bytes<=bp)) then
     let t2:List α:=(List.take (List.length xs) (xs++[z])++aW)
     some (aW,t2,())
    else
     none
   else
    let t2:Int:=(IntKind.i64.wrap ((((List.length xs)-0:Nat):Int)+((List.length aW):Int)))
    bif (decide ((t2:Int)<=((List.length (xs++[z])-0:Nat):Int))) then
     let t3:Int:=(IntKind.i64.wrap ((((List.length xs)-0:Nat):Int)+((List.length aW):Int)))
     bif (decide (((0:Int):Int)<=t3)&&decide ((t3:Int)<=((List.length (xs++[z])-0:Nat):Int))) then
      let t4:Int:=(IntKind.i64.wrap (i+((List.length aW):Int)))
      bif (decide ((0:Int)<=t4)&&decide ((t4:Int)<=(((0+(Int.toNat t3))-0:Nat):Int))&&decide (((((0+(Int.toNat t3))-0:Nat):Int):Int)<=((List.length (xs++[z])-0:Nat):Int))) then
       let t5:Int:=(IntKind.i64.wrap (i+((List.length aW):Int)))
       bif (decide ((0:Int)<=t5)&&decide ((t5:Int)<=(((0+(Int.toNat t3))-0:Nat):Int))&&decide (((((0+(Int.toNat t3))-0:Nat):Int):Int)<=((List.length (xs++[z])-0:Nat):Int))) then
        bif (decide ((0:Int)<=i)&&decide ((i:Int)<=(((0+(Int.toNat t3))-0:Nat):Int))&&decide (((((0+(Int.toNat t3))-0:Nat):Int):Int)<=((List.length (xs++[z])-0:Nat):Int))) then
         let t6:List α:=(List.drop (0+(Int.toNat i)) (List.take (0+(Int.toNat (((0+(Int.toNat t3))-0:Nat):Int))) (xs++[z])))
         let t7:List α:=(List.take ((0+(Int.toNat (((0+(Int.toNat t3))-0:Nat):Int)))-(0+(Int.toNat t5))) t6)
         let t8:List α:=(List.take (0+(Int.toNat t5)) (xs++[z])++t7++List.drop ((0+(Int.toNat t5))+List.length t7) (xs++[z]))
         bif (decide ((0:Int)<=i)&&decide ((i:Int)<=(((0+(Int.toNat t3))-0:Nat):Int))&&decide (((((0+(Int.toNat t3))-0:Nat):Int):Int)<=((List.length t8-0:Nat):Int))) then
          let t9:List α:=(List.take ((0+(Int.toNat (((0+(Int.toNat t3))-0:Nat):Int)))-(0+(Int.toNat i))) aW)
          let t10:List α:=(List.take (0+(Int.toNat i)) t8++t9++List.drop ((0+(Int.toNat i))+List.length t9) t8)
          some (aW,(List.take (0+(Int.toNat t3)) t10),())
         else
          none
        else
         none
       else
        none
      else
       none
     else
      none
    else
     none
 else
  none
theorem Bd {x:Int} (h: -9223372036854775808<=x/\x<9223372036854775808):IntKind.i64.wrap x=x:=by rw[IntKind.wrap_i64];omega
theorem hT {p:Prop} [Decidable p] (h:p):decide p=true:=decide_eq_true h
theorem GQ {p:Prop} [Decidable p] (h: ¬p):decide p=false:=decide_eq_false h
theorem arx {α:Type} {bytes:Nat} {z0:α} {k:Nat} {xs:List α} {y:α} (s:k<=xs.length) (O:xs.length+1<1000000000000000000) (aC:(xs.length+1)*bytes<=bp):
  KV bytes z0 (k:Int) xs [y]=some ([y],xs.take k++[y]++xs.drop k,()):=by
 have dn:IntKind.i64.wrap ((xs.length:Int)+(([y].length:Nat):Int))=((xs.length+1:Nat):Int):=by rw[Bd (by simp;omega)];simp
 have de:IntKind.i64.wrap (((xs.length+1:Nat):Int)-(k:Int))=((xs.length+1-k:Nat):Int):=by rw[Bd (by omega)];omega
 have gf:IntKind.i64.wrap ((k:Int)+(([y].length:Nat):Int))=((k+1:Nat):Int):=by rw[Bd (by simp;omega)];simp
 unfold KV;simp only[dn,de,gf,bE];have a7:decide ((0:Int)<=(k:Int))=true:=hT (by omega);have aX:decide ((k:Int)<=(xs.length:Int))=true:=hT (by omega);have c3:decide ((xs.length:Int)<=(xs.length:Int))=true:=hT (by omega);have e5:decide ((([y].length:Nat):Int)=0)=false:=GQ (by simp);simp only[a7,aX,c3,e5,bM,ak,ax];by_cases af:k=xs.length
 ·subst af;have c5:decide (((xs.length:Nat):Int)=(xs.length:Int))=true:=hT rfl;have kD:decide (0<[y].length)=true:=hT (by simp);have mN:decide ((xs.length+[y].length)*bytes<=bp)=true:=hT (by simpa using aC);simp only[c5,kD,mN,ak,bM];simp
 ·have bd:k<xs.length:=by omega
  have c5:decide ((k:Int)=(xs.length:Int))=false:=GQ (by omega);have kD:decide (((xs.length+1:Nat):Int)>(xs.length:Int))=true:=hT (by omega);have lt:(List.take k xs).length=k:=by rw[eG];omega
  have mN:decide ((0:Int)<((xs.length+1-k:Nat):Int))=true:=hT (by omega);have oe:decide ((xs.length:Int)<((List.take k xs).length:Int)+((xs.length+1-k:Nat):Int))=true:=hT (by rw[lt];omega);have sw:decide ((((List.take k xs).length:Int)+((xs.length+1-k:Nat):Int))*(bytes:Int)<=(bp:Int))=true:=hT (by
   rw[lt];have:((k:Int)+((xs.length+1-k:Nat):Int))=((xs.length+1:Nat):Int):=by omega
   rw[this,<-Int.natCast_mul];exact Int.ofNat_le.2 aC)
  simp only[c5,kD,mN,oe,sw,ak,ax,bM];have Is:(List.take k xs++List.replicate (xs.length+1-k) z0).length=xs.length+1:=by rw[fr,lt,List.length_replicate];omega
  have d1:decide ((k:Int)<=((List.take k xs++List.replicate (xs.length+1-k) z0).length:Int))=true:=hT (by rw[Is];omega);have d2:decide (((List.take k xs++List.replicate (xs.length+1-k) z0).length:Int)<=((List.take k xs++List.replicate (xs.length+1-k) z0).length:Int))=true:=hT (by omega);simp only[d1,d2,ak,bM,bE,Is];have h1:List.take (xs.length+1-k) [y]=[y]:=h8 (by simp;omega);have lG:List.take k (List.take k xs++List.replicate (xs.length+1-k) z0)++[y]++List.drop (k+[y].length) (List.take k xs++List.replicate (xs.length+1-k) z0)=List.take k xs++[y]++List.replicate (xs.length-k) z0:=by rw[List.take_append_of_le_length (by omega),h8 (l:=List.take k xs) (by omega)];rw[List.drop_append,List.drop_of_length_le (l:=List.take k xs) (by simp;omega),List.nil_append,List.drop_replicate,lt];congr 2;simp;omega
  simp only[h1,lG];have yq:(List.take k xs++[y]++List.replicate (xs.length-k) z0).length=xs.length+1:=by simp[lt];omega
  have d3:decide ((0:Int)<=((k+1:Nat):Int))=true:=hT (by omega);have d4:decide (((k+1:Nat):Int)<=((List.take k xs++[y]++List.replicate (xs.length-k) z0).length:Int))=true:=hT (by rw[yq];omega);have d5:decide (((List.take k xs++[y]++List.replicate (xs.length-k) z0).length:Int)<=((List.take k xs++[y]++List.replicate (xs.length-k) z0).length:Int))=true:=hT (by omega);simp only[d3,d4,d5,ak,bM,yq,bE];have BX:List.drop k (List.take xs.length xs)=List.drop k xs:=by rw[eM]
  have BY:List.take (xs.length+1-(k+1)) (List.drop k xs)=List.drop k xs:=h8 (by simp);simp only[BX,BY];have asQ:List.take (k+1) (List.take k xs++[y]++List.replicate (xs.length-k) z0)=List.take k xs++[y]:=by rw[List.take_append_of_le_length (by simp[lt]),h8 (by simp[lt])]
  have asR:List.drop (k+1+(List.drop k xs).length) (List.take k xs++[y]++List.replicate (xs.length-k) z0)=[]:=List.drop_of_length_le (by rw[yq];simp;omega);have d6:decide ((k:Int)<=((xs.length+1:Nat):Int))=true:=hT (by omega);have d7:decide (((k+1:Nat):Int)<=((xs.length+1:Nat):Int))=true:=hT (by omega);have d8:decide (((xs.length+1:Nat):Int)<=((xs.length+1:Nat):Int))=true:=hT (by omega);simp only[d6,d7,d8,ak,bM,asQ,asR,List.append_nil]
theorem ary {α:Type} {bytes:Nat} {k:Nat} {xs:List α} {z y:α} (s:k<=xs.length) (O:xs.length+1<1000000000000000000) (aC:(xs.length+1)*bytes<=bp):
  KW bytes (k:Int) xs z [y]=some ([y],xs.take k++[y]++xs.drop k,()):=by
 have SU:IntKind.i64.wrap ((xs.length:Int)+(([y].length:Nat):Int))=((xs.length+1:Nat):Int):=by rw[Bd (by simp;omega)];simp
 have gf:IntKind.i64.wrap ((k:Int)+(([y].length:Nat):Int))=((k+1:Nat):Int):=by rw[Bd (by simp;omega)];simp
 have fC:(xs++[z]).length=xs.length+1:=by simp
 unfold KW;simp only[Nat.sub_zero,Int.sub_zero,Nat.zero_add];simp only[SU,gf,bE,fC,Nat.sub_zero,Int.sub_zero,Nat.zero_add];have a7:decide ((0:Int)<=(k:Int))=true:=hT (by omega);have aX:decide ((k:Int)<=(xs.length:Int))=true:=hT (by omega);have c3:decide ((xs.length:Int)<=((xs.length+1:Nat):Int))=true:=hT (by omega);have e5:decide ((([y].length:Nat):Int)=0)=false:=GQ (by simp);simp only[a7,aX,c3,e5,bM,ak,ax];have axi:List.take xs.length (xs++[z])=xs:=by simp
 by_cases af:k=xs.length
 ·subst af;have c5:decide (((xs.length:Nat):Int)=(xs.length:Int))=true:=hT rfl;have mN:decide ((xs.length+[y].length)*bytes<=bp)=true:=hT (by simpa using aC);simp only[c5,axi,mN,ak,bM];simp
 ·have bd:k<xs.length:=by omega
  have c5:decide ((k:Int)=(xs.length:Int))=false:=GQ (by omega);have kD:decide (((xs.length+1:Nat):Int)<=((xs.length+1:Nat):Int))=true:=hT (by omega);have mN:decide ((0:Int)<=((xs.length+1:Nat):Int))=true:=hT (by omega);have oe:decide ((0:Int)<=((k+1:Nat):Int))=true:=hT (by omega);have sw:decide (((k+1:Nat):Int)<=((xs.length+1:Nat):Int))=true:=hT (by omega);have asE:decide ((k:Int)<=((xs.length+1:Nat):Int))=true:=hT (by omega);simp only[c5,kD,mN,oe,sw,asE,ak,ax,bM];have axj:List.take (xs.length+1) (xs++[z])=xs++[z]:=h8 (by simp);have dp:List.drop k (xs++[z])=List.drop k xs++[z]:=by rw[List.drop_append_of_le_length s]
  have h1:List.take (xs.length+1-(k+1)) (List.drop k xs++[z])=List.drop k xs:=by rw[List.take_append_of_le_length (by simp),h8 (by simp)]
  simp only[axj,dp,h1];have yq:(List.take (k+1) (xs++[z])++List.drop k xs++List.drop (k+1+(List.drop k xs).length) (xs++[z])).length=xs.length+1:=by simp;omega
  have ayh:decide (((xs.length+1:Nat):Int)<=((List.take (k+1) (xs++[z])++List.drop k xs++List.drop (k+1+(List.drop k xs).length) (xs++[z])).length:Int))=true:=hT (by rw[yq];omega);have o7:List.take (xs.length+1-k) [y]=[y]:=h8 (by simp;omega);simp only[yq,kD,ak,bM,o7];have b6:List.drop (k+1+(List.drop k xs).length) (xs++[z])=[]:=List.drop_of_length_le (by simp;omega);have axc:List.take (k+1) (xs++[z])=List.take (k+1) xs:=by rw[List.take_append_of_le_length (by omega)]
  have afW:(List.take (k+1) xs).length=k+1:=by rw[eG];omega
  rw[b6,List.append_nil,axc];have L:List.take k (List.take (k+1) xs++List.drop k xs)=List.take k xs:=by rw[List.take_append_of_le_length (by omega),List.take_take];congr 1;omega
  have aa:List.drop (k+[y].length) (List.take (k+1) xs++List.drop k xs)=List.drop k xs:=by rw[List.drop_append,List.drop_of_length_le (by rw[afW];simp),List.nil_append,afW];simp
  rw[L,aa];have a1:List.take (xs.length+1) (List.take k xs++[y]++List.drop k xs)=List.take k xs++[y]++List.drop k xs:=h8 (by simp;omega);rw[a1]
def Bj {α:Type} (bytes:Nat) (d:Int×List α×List α×Unit):Option (List α×List α×Unit):=
 bif decide (0<=d.1)&&decide (d.1<=(d.2.1.length:Int))&&decide (d.2.2.1.length=1)&&decide (d.2.1.length+1<1000000000000000000)&&decide ((d.2.1.length+1)*bytes<=bp) then some (d.2.2.1,d.2.1.take d.1.toNat++d.2.2.1++d.2.1.drop d.1.toNat,()) else none
def a12 (e:bm) (t:aB):Shape:=⟨[(0,.own t 0),(1,.dat (.int .i64)),(2,.own t 1)],[.arr e t false,.arr e t false]⟩
def u1 (e:bm) (t:aB):Shape:=⟨[(0,.own t 2)],[.gone,.arr e t false,.arr e t false]⟩
theorem asa (e:bm) (t:aB) (i:Int) (xs aW:List t.den):(a12 e t).enc (i,xs,aW,())=⟨[(0,.own t 0),(1,.dat (.int .i64) i),(2,.own t 1)],[.arr e t xs false,.arr e t aW false]⟩:=by have h:(a12 e t).ty.parts (i,xs,aW,())=[⟨.int .i64,i⟩,⟨.list t,xs⟩,⟨.list t,aW⟩]:=rfl;unfold Shape.enc;rw[h];simp[a12,qw,xd,cm.enc,dX.enc,mw,tL]
theorem asb (e:bm) (t:aB) (aW rs:List t.den):(u1 e t).enc (aW,rs,())=⟨[(0,.own t 2)],[.gone,.arr e t aW false,.arr e t rs false]⟩:=by have h:(u1 e t).ty.parts (aW,rs,())=[⟨.list t,aW⟩,⟨.list t,rs⟩]:=rfl;unfold Shape.enc;rw[h];simp[u1,qw,xd,cm.enc,dX.enc,mw,tL]
section
variable {P:cq}
theorem apQ [Env] {f:FuncId} {e:bm} {t:aB} {k:Nat} {xs:List t.den} {y:t.den} (rs:List t.den) (vq:t≠ .int .u8) (re:0<t.size)
  (xR:kh P f [.clip t xs,.dat (.int .i64) (k:Int),.own t 1] [.gone,.arr e t [y] false] (.own t 2) [.gone,.arr e t [y] false,.arr e t rs false])
  (B6: ∀z,kh P f [.view t 0 0 xs.length,.dat (.int .i64) (k:Int),.own t 1] [.arr e t (xs++[z]) false,.arr e t [y] false] (.own t 2) [.gone,.arr e t [y] false,.arr e t rs false]):
  kh P f [.own t 0,.dat (.int .i64) (k:Int),.own t 1] [.arr e t xs false,.arr e t [y] false] (.own t 2) [.gone,.arr e t [y] false,.arr e t rs false]:=by
 refine ⟨xR.1,?_⟩;intro φ ι w aO eh e9 fA fk;obtain ⟨v0,ayV,py,Q,v1,dU,bj,ah,v2,c6,bG,aJ,hm⟩:=fA;simp only[K.relT]at hm;subst hm bG bj;obtain rfl:aO= #[v0,v1,v2]:=by cases aO;simp at py;simp[py]
 have g0:aE [aF.arr e t xs false,.arr e t [y] false] 0=.arr e t xs false:=rfl;have W:=eh.obj 0;rw[g0]at W;obtain ⟨A,n,c,fE,jE,yC,ql,C7⟩:=W;have awu:=Q;obtain ⟨rfl,-⟩:=Q;by_cases aw:c=n
 ·subst aw;have atJ:(hc (.own t 0)).go [aF.arr e t xs false,.arr e t [y] false] 2=some (⟨.list t,xs⟩,[aF.arr e t xs true,.arr e t [y] false],2):=by simp[hc,HM.go,aE,bY,aF.freeze,aF.mask,tL]
  obtain ⟨-,av,g,aZ⟩:=tt (.own t 0) φ (ι 0) _ 2 _ _ _ atJ eh awu (λi u=>by
   have b8:i=0:=by simpa [K.ids] using u
   rw[b8];rfl)
  have Rk:cc av ι w [aF.gone,.arr e t [y] false]:=by
   refine g.rel.update (λi=>i=0) (λi u=> ?_) (λ_ _=>rfl) (λi u=> ?_) (λi u=> ?_) (λi u j an=> ?_) (λ_ _ _ _ _=>rfl) (λ_ _ _=>rfl) (λi j b u s=> ?_)
   ·cases i with
    |zero=>exact absurd rfl u
    |succ i=>rfl
   ·cases i with
    |zero=>rfl
    |succ i=>exact u
   ·subst u;trivial
   ·subst u;simp[aE,aF.ids]at an
   ·subst u;cases s
  have eo:Step av ι w [aF.arr e t xs true,.arr e t [y] false] av ι w [aF.gone,.arr e t [y] false]:=
   ⟨λ_ _ h=>h,λ_ _ _=>rfl,λ_ _ h=>.inl h,b7 _,rfl,rfl,rfl,λ_ _ _=>rfl,λb ⟨o,s,E⟩=>.inr ⟨o,by cases o with
    |zero=>cases s
    |succ o=>exact s,E⟩⟩
  refine Calls.mono (xR.2 av ι w #[ι 0,v1,v2] Rk (λi u=> ?_) ⟨ι 0,_,rfl,?_,v1,_,rfl,?_,v2,_,rfl,?_,rfl⟩ (λi u=> ?_)) λac9 ao=> ?_
  ·match i,u with
   |0,_=>rfl
   |1,_=>rfl
   |i+2,u=>simp at u;omega
  ·show ∃A n,ι 0=.slice A n n/\bt av w (.list t) xs [ι 0];refine ⟨A,c,fE,?_⟩;have:=aZ.1;rw[rE (by rw[fE];rfl)]at this;simpa using this
  ·exact K.rel_mono g.step.phi g.step.cells _ _ (λ_ _=>rfl) ah
  ·exact K.rel_mono g.step.phi g.step.cells _ _ (λ_ _=>rfl) aJ
  ·have:i=1:=by simpa [K.idsL,K.ids] using u
   subst this;rfl
  ·rintro ⟨v,ec,ei,he,cu,hD,cj,au,gG⟩;have bS:ej ι [aF.arr e t xs false,.arr e t [y] false] ι [aF.gone,.arr e t [y] false]:=⟨λ_ _=>rfl,λo h=>by
    cases o with
    |zero=>rfl
    |succ o=>exact h⟩
   exact ⟨v,ec,ei,he,cu,(g.step.trans eo).trans hD,bS.trans cj,au,gG⟩
 ·have bd:n<c:=by omega
  rcases C7 with C7 |⟨b,pre,cur,c0,rfl,b1,b2,b3,b0,hs,hI,jY,ayf⟩
  ·omega
  obtain ⟨eC,CR⟩:=hs.rest.resolve_left vq;have CQ:=CR.len (λx c=>bt.len t x c);have j2:cur.toList.length=c*t.size:=by rw[iu,b2]
  rw[List.length_drop,j2,<-Nat.sub_mul]at CQ;have avh:eC.length=c-n:=Nat.eq_of_mul_eq_mul_right re CQ.symm;obtain ⟨z,zw,rfl⟩: ∃z zw,eC=z::zw:=by
   cases eC with
   |nil=>simp at avh;omega
   |cons z zw=>exact ⟨z,zw,rfl⟩
  have mh: ∀i,ee ι 0 (.slice (some ⟨b,pre.size,none⟩) (n+1) c) (i+1)=ι (i+1):=λi=>by simp[ee]
  have hzero:ee ι 0 (.slice (some ⟨b,pre.size,none⟩) (n+1) c) 0=.slice (some ⟨b,pre.size,none⟩) (n+1) c:=by simp[ee]
  have jK: ∀i,dG (ee ι 0 (.slice (some ⟨b,pre.size,none⟩) (n+1) c) i)=dG (ι i):=λi=>by
   cases i with
   |zero=>rw[hzero,fE];simp[dG]
   |succ i=>rw[mh]
  have oy: ∀i,(aE [aF.arr e t (xs++[z]) false,.arr e t [y] false] i).owns=(aE [aF.arr e t xs false,.arr e t [y] false] i).owns:=λi=>by cases i<;>rfl
  have gE:=cY.append _ _ _ _ hI CR;rw[List.take_append_drop]at gE;have adG:cY (bt φ w t) ((xs++[z])++zw) cur.toList:=by simpa using gE
  have Cz:(xs++[z]).length=n+1:=by simp[jE]
  have Rk:cc φ (ee ι 0 (.slice (some ⟨b,pre.size,none⟩) (n+1) c)) w [aF.arr e t (xs++[z]) false,.arr e t [y] false]:=by
   refine ⟨λo=> ?_,λo dQ bQ s E O aC=> ?_,eh.phi,λo i la=> ?_,eh.glob⟩
   ·match o with
    |0=>
     show jt φ _ w 0 (.arr e t (xs++[z]) false);refine ⟨some ⟨b,pre.size,none⟩,n+1,c,hzero,Cz,bd,ql,.inr ⟨b,pre,cur,c0,rfl,b1,b2,b3,b0,⟨hs.one,.inr ⟨zw,?_⟩⟩,?_,λk af=> ?_,λh=>by cases h⟩⟩
     ·have:=adG.drop (λx c=>bt.len t x c) (n+1)
      rwa [<-Cz,List.drop_left,Cz]at this
     ·have:=adG.take (λx c=>bt.len t x c) (n+1)
      rwa [<-Cz,List.take_left,Cz]at this
     ·exact absurd (jY k af).1 (by simp)
    |1=>
     have:=eh.obj 1;show jt φ _ w 1 (.arr e t [y] false);obtain ⟨zy,c8,a7,fU,fV⟩:=this;exact ⟨zy,c8,a7,(mh 0).trans fU,fV⟩
    |o+2=>trivial
   ·rw[oy]at s E;rw[jK]at O aC;exact eh.apart o dQ bQ s E O aC
   ·match o,la with
    |0,la=>simp[aE,aF.ids]at la
    |1,la=>simp[aE,aF.ids]at la
    |o+2,la=>simp[aE,aF.ids]at la
  have eo:Step φ ι w [aF.arr e t xs false,.arr e t [y] false] φ (ee ι 0 (.slice (some ⟨b,pre.size,none⟩) (n+1) c)) w [aF.arr e t (xs++[z]) false,.arr e t [y] false]:=
   ⟨λ_ _ h=>h,λ_ _ _=>rfl,λ_ _ h=>.inl h,b7 _,rfl,rfl,rfl,λ_ _ _=>rfl,λbQ ⟨o,s,E⟩=>.inr ⟨o,by rw[<-oy];exact s,by rw[<-jK];exact E⟩⟩
  refine Calls.mono ((B6 z).2 φ _ w #[ι 0,v1,v2] Rk (λi u=> ?_) ⟨ι 0,_,rfl,?_,v1,_,rfl,?_,v2,_,rfl,?_,rfl⟩ (λi u=> ?_)) λac9 ao=> ?_
  ·match i,u with
   |0,_=>rfl
   |1,_=>rfl
   |i+2,u=>simp at u;omega
  ·exact AL ⟨some ⟨b,pre.size,none⟩,n+1,c,some ⟨b,pre.size,none⟩,hzero,Nat.zero_le _,by rw[jE];omega,bd,by rw[fE,jE];rfl,λ_=>by simp[hv],λ_=>⟨b,_,rfl⟩⟩
  ·exact K.rel_mono (λ_ _ h=>h) (λ_ _ _=>rfl) _ _ (λi u=>absurd u (by simp[K.ids])) ah
  ·refine K.rel_mono (λ_ _ h=>h) (λ_ _ _=>rfl) _ _ (λi u=> ?_) aJ;have:i=1:=by simpa [K.ids] using u
   subst this;exact mh 0
  ·have:i=0\/i=1:=by simpa [K.idsL,K.ids] using u
   rcases this with rfl |rfl<;>rfl
  ·rintro ⟨v,ec,ei,he,cu,hD,cj,au,gG⟩;have x6: ∀i,ee ei 0 (ι 0) (i+1)=ei (i+1):=λi=>by simp[ee]
   have avd:ee ei 0 (ι 0) 0=ι 0:=by simp[ee]
   have s2:=eo.trans hD;refine ⟨v,ec,ee ei 0 (ι 0),he,⟨λo=> ?_,λo dQ bQ s E O aC=> ?_,cu.phi,λo i la=> ?_,cu.glob⟩,⟨s2.phi,s2.cells,s2.newphi,s2.size,s2.os,s2.tape,s2.output,s2.blocks,λbQ ⟨o,s,E⟩=> ?_⟩,⟨λo W=> ?_,λo W=> ?_⟩,?_,gG⟩
   ·match o with
    |0=>trivial
    |1=>
     obtain ⟨zy,c8,a7,fU,fV⟩:=cu.obj 1;exact ⟨zy,c8,a7,(x6 0).trans fU,fV⟩
    |2=>
     obtain ⟨zy,c8,a7,fU,fV⟩:=cu.obj 2;exact ⟨zy,c8,a7,(x6 1).trans fU,fV⟩
    |o+3=>trivial
   ·cases o with
    |zero=>cases s
    |succ o=>
     cases dQ with
     |zero=>cases E
     |succ dQ=>
      rw[x6]at O aC;exact cu.apart _ _ bQ s E O aC
   ·match o,la with
    |0,la=>simp[aE,aF.ids]at la
    |1,la=>simp[aE,aF.ids]at la
    |2,la=>simp[aE,aF.ids]at la
    |o+3,la=>simp[aE,aF.ids]at la
   ·cases o with
    |zero=>cases s
    |succ o=>
     rw[x6]at E;exact s2.own bQ ⟨o+1,s,E⟩
   ·match o,W with
    |0,_=>exact avd
    |1,_=>rw[x6,cj.iota 1 rfl,mh]
    |o+2,W=>cases W
   ·match o,W with
    |0,_=>rfl
    |1,_=>rfl
    |o+2,W=>cases W
   ·refine K.rel_mono (λ_ _ h=>h) (λ_ _ _=>rfl) _ _ (λi u=> ?_) au;have:i=2:=by simpa [K.ids] using u
    subst this;exact x6 1
theorem aqT [Env] {F:bk} (tab:cQ P F.cx) (c1:ca P F.Γ) (hm:P.follows .mixedOrders=true) {f:FuncId} {fn:Func} {e:bm} {t:aB} {bytes:Nat} (vq:decide (t=.int .u8)=false) (re:Nat.blt 0 t.size=true) (aL:P.funcs[f]? =some fn) (J:fn.body=some (bX fn)) (cy:(i8 fn.ntmps (bX fn)&& !(fn.name== "runtime.NumGoroutine")&& !eT (bX fn)&& !gv (bX fn)&&Nat.ble fn.ntmps dE&&Nat.ble fn.results.size dE)=true) (ab:et (bX fn) 0=[])
  (mi:Nat.beq fn.results.size 1=true) (CA:Nat.ble 3 fn.ntmps=true) (fb:F.m=2)
  (eU: ∀(i:Int) (xs aW:List t.den),(GS F fn (u1 e t) [.clip t xs,.dat (.int .i64) i,.own t 1] [.gone,.arr e t aW false]).val=KV bytes t.zero i xs aW)
  (di: ∀(i:Int) (xs:List t.den) (z:t.den) (aW:List t.den),(GS F fn (u1 e t) [.view t 0 0 xs.length,.dat (.int .i64) i,.own t 1] [.arr e t (xs++[z]) false,.arr e t aW false]).val=KW bytes i xs z aW):
  cF P ⟨f,a12 e t,u1 e t,λd=>Bj (α:=t.den) bytes d⟩:=by
 intro args H d r ae bI;have gR:=Shape.dec_enc ae;obtain ⟨i,xs,aW,ad⟩:=d;have bI:Bj (α:=t.den) bytes (i,xs,aW,ad)=some r:=bI;unfold Bj at bI;simp only at bI;cases Cg:decide ((0:Int)<=i)&&decide (i<=(xs.length:Int))&&decide (aW.length=1)&&decide (xs.length+1<1000000000000000000)&&decide ((xs.length+1)*bytes<=bp)
 ·rw[Cg]at bI;cases bI
 rw[Cg,ak]at bI;simp only[bN,dJ]at Cg;obtain ⟨⟨⟨⟨a7,aX⟩,c3⟩,e5⟩,c5⟩:=Cg;obtain ⟨k,rfl⟩:=Int.eq_ofNat_of_zero_le a7;obtain ⟨y,rfl⟩:=List.length_eq_one_iff.1 c3;obtain rfl:=eW bI;have aX:k<=xs.length:=Int.ofNat_le.1 aX;rw[bE];have gR:=(asa e t (k:Int) xs [y]).symm.trans gR;injection gR with s E
 obtain rfl:args=[.own t 0,.dat (.int .i64) (k:Int),.own t 1]:=(wX 0 [.own t 0,.dat (.int .i64) (k:Int),.own t 1] args s).symm;subst E;have auL:fn.results.size=1:=Nat.eq_of_beq_eq_true mi;have ad5:(u1 e t).regs.map (·.1)=List.range' 0 fn.results.size:=by rw[auL];rfl
 have xR:=aap tab c1 hm aL J cy ab ad5 (args:=[.clip t xs,.dat (.int .i64) (k:Int),.own t 1]) (H:=[.gone,.arr e t [y] false]) (gV CA) fb ((eU k xs [y]).trans (arx aX e5 c5));have B6:=λz=>aap tab c1 hm aL J cy ab ad5 (args:=[.view t 0 0 xs.length,.dat (.int .i64) (k:Int),.own t 1]) (H:=[.arr e t (xs++[z]) false,.arr e t [y] false]) (gV CA) fb ((di k xs z [y]).trans (ary aX e5 c5))
 have RC:=asb e t [y] (xs.take k++[y]++xs.drop k);have xR:=Eq.mp (congrArg (λcM:bz=>kh P f [.clip t xs,.dat (.int .i64) (k:Int),.own t 1] [.gone,.arr e t [y] false] (kf cM.regs) cM.heap) RC) xR;have B6:=λz=>Eq.mp (congrArg (λcM:bz=>kh P f [.view t 0 0 xs.length,.dat (.int .i64) (k:Int),.own t 1] [.arr e t (xs++[z]) false,.arr e t [y] false] (kf cM.regs) cM.heap) RC) (B6 z)
 exact Eq.mpr (congrArg (λcM:bz=>kh P f [.own t 0,.dat (.int .i64) (k:Int),.own t 1] [.arr e t xs false,.arr e t [y] false] (kf cM.regs) cM.heap) RC) (apQ _ (of_decide_eq_false vq) (gV re) xR B6)
end
open Go.RowKit Go.Shelf
def AO (d:List UInt8×List UInt8×Unit):Option (Int×Unit):=
 bif Nat.blt 8 d.1.length&&Nat.blt d.1.length 4294967281&&Nat.ble 2 d.2.1.length&&Nat.blt d.2.1.length 4294967281&&d.2.1.all (λb=>Nat.blt b.toNat 128) then some (Lib.indexAny d.1 d.2.1,()) else none
section
variable {P:cq}
def Dd {α:Type} (a b:Option α):Option α:=match a with |some z=>some z |none=>b
theorem acR [Env] {f:FuncId} {S Z:Shape} {g1 g2:S.ty.den->Option Z.ty.den} (s:cF P ⟨f,S,Z,g1⟩) (E:cF P ⟨f,S,Z,g2⟩):cF P ⟨f,S,Z,λd=>Dd (g1 d) (g2 d)⟩:=by
 intro args H d z ae bI;have bI:Dd (g1 d) (g2 d)=some z:=bI;unfold Dd at bI;cases h:g1 d with
 |some y=>
  rw[h]at bI;obtain rfl:=eW bI;exact s args H d _ ae h
 |none=>
  rw[h]at bI;exact E args H d z ae bI
theorem cc.below [Env] {φ:bJ} {ι:Nat->az} {w ao:bh} {H:List aF} (h:cc φ ι w H) (b:Below w.heap.size w ao):cc φ ι ao H/\Step φ ι w H φ ι ao H:=by
 have bu:ia w ao:=⟨b.os,b.tape,b.output,b.size,λk af=>b.block k af⟩;have aw: ∀b k,φ b k->ao.cell? ⟨b,k,none⟩=w.cell? ⟨b,k,none⟩:=λb k af=>bu.cell (kP h af)
 refine ⟨h.update (λ_=>False) (λ_ _=>rfl) (λ_ _=>rfl) (λ_ h=>h) (λ_ h=>h.elim) (λ_ h=>h.elim) (λi bQ _ W h4=>bu.blocks bQ (uA h W h4)) aw (λ_ _ _ h=>h.elim),⟨λ_ _ h=>h,aw,λ_ _ h=>.inl h,bu.size,bu.os,bu.tape,bu.output,λbQ h4 _=>bu.blocks bQ h4,λ_ h=>.inr h⟩⟩
theorem apG [Env] {ρ:Ren} (ar:Go.Proofs.Lays.n153 P ρ) (HK:(P.info? (ρ.t 116)).map (λi=>(i.zero,i.size))=some (some (.agg (Array.replicate 256 (.bool false))),256)) {fn:Func} (aL:P.funcs[ρ.f 153]? =some fn) (cy:(!(fn.name== "runtime.NumGoroutine")&& !fn.body.isNone)=true):
  cF P ⟨ρ.f 153,⟨[(0,.dat .str),(1,.dat .str)],[]⟩,⟨[(0,.dat (.int .i64))],[]⟩,AO⟩:=by
 intro args H d z ae bI;have gR:=Shape.dec_enc ae;obtain ⟨a,b,ad⟩:=d;have bI:AO (a,b,ad)=some z:=bI;unfold AO at bI;simp only at bI;cases aw:Nat.blt 8 a.length&&Nat.blt a.length 4294967281&&Nat.ble 2 b.length&&Nat.blt b.length 4294967281&&b.all (λb=>Nat.blt b.toNat 128)
 ·rw[aw]at bI;cases bI
 rw[aw,ak]at bI;obtain rfl:=eW bI;simp only[bN]at aw;obtain ⟨⟨⟨⟨a7,aX⟩,c3⟩,e5⟩,c5⟩:=aw;have a7:=gV a7;have aX:=gV aX;have c3:=gV c3;have e5:=gV e5;have iT:(Shape.enc ⟨[(0,.dat .str),(1,.dat .str)],[]⟩ (a,b,ad))=⟨[(0,.dat .str a),(1,.dat .str b)],[]⟩:=rfl;have gR:=iT.symm.trans gR;injection gR with s E
 obtain rfl:args=[.dat .str a,.dat .str b]:=(wX 0 [.dat .str a,.dat .str b] args s).symm;subst E;simp only[bN,eJ]at cy;refine ⟨⟨fn,aL,cy.1,cy.2⟩,fun φ ι w aO eh e9 fA fk=> ?_⟩;obtain ⟨v1,dU,L,ah,v2,c6,aa,aJ,hm⟩:=fA;simp only[K.relT]at hm;subst hm aa;have gC:v1=.string ⟨⟨a⟩⟩:=cA.str.1 ah;have mO:v2=.string ⟨⟨b⟩⟩:=cA.str.1 aJ;subst gC mO;obtain rfl:aO= #[.string ⟨⟨a⟩⟩,.string ⟨⟨b⟩⟩]:=by cases aO;simp at L;simp[L]
 have dT: ∀l:List UInt8,(⟨⟨l⟩⟩:ByteArray).size=l.length:=λ_=>rfl
 refine (Go.Proofs.Any.strings_IndexAny_long ar (zero_of_info HK).1 (zero_of_info HK).2 ⟨⟨a⟩⟩ ⟨⟨b⟩⟩ w (by rw[dT];exact c3) (by rw[dT];omega) (by rw[dT];omega) (by rw[dT];omega) (λj x ai=> ?_)).mono ?_
 ·have ai:b[j]? =some x:=ai;have:=fy.1 c5 x (List.mem_of_getElem? ai);exact gV this
 ·rintro e ao ⟨rfl,rfl⟩;obtain ⟨bb,aU⟩:=eh.below (((Below.refl _ w).alloc (b7 _) _).alloc (by simp) _);exact ⟨_,φ,ι,rfl,bb,aU,ej.refl _ _,h3 (cA.int.2 rfl),λi u=>absurd (show i∈([]:List Nat) from u) (by simp)⟩
end
open Go.RowKit
section
variable {P:cq} {φ:bJ} {ι:Nat->az} {w:bh} {H:List aF}
def KS [Env] (P:cq) (F:bk) (n:Nat) (C:bk->Code->Nat->bz->DT (ed×bz)) (c:Code):Prop:=
 ∀(nt:js) (st:bz) (e:ed) (a8:bz) (φ:bJ) (ι:Nat->az) (w:bh) (a:Act) (bD:Exit->Act->bh->Prop),nt.n=n->(C F c 0 st).val=some (e,a8)->ds φ ι w nt st a->gM F.m st.heap->
  (∀bn ao av aH,ds av aH ao nt a8 bn->Step φ ι w st.heap av aH ao a8.heap->ic F.m ι st.heap aH a8.heap->bD (kY e) bn ao)->c.wpIn (eX nt.ro) 0 P bD a w
theorem abY [Env] {F:bk} {n:Nat} {c:Code} (tab:cQ P F.cx) (c1:ca P F.Γ) (hm:P.follows .mixedOrders=true) (ab: ∀q∈et c 0,hl P F n q.1 q.2) (aw:(i8 n c&& !eT c&& !gv c)=true):KS P F n gb c:=by intro nt st e a8 φ ι w a bD aR h cg lm c2;subst aR;simp only[bN,eJ]at aw;exact nJ tab c1 hm c 0 st e a8 φ ι w a bD h ab aw.1.1 (eN _ aw.1.2) (iD.no aw.1.2 aw.2) cg lm c2
theorem Z9 {φ:bJ} {ι:Nat->az} {w:bh} {H:List aF}: ∀(ps:List Nat) (rs:List K) (aO:List az) (R:bO) (t:Array az),(∀p∈ps,p<t.size)->K.relT φ ι w rs aO->(∀i∈K.idsL rs,(aE H i).live=true)->ps.length=rs.length->
  (∀I r,R.get I=some r->r.rel φ ι w (t.getD I undef)/\ ∀i∈r.ids,(aE H i).live=true)->
  ((ps.zip aO).foldl (λt q=>t.setIfInBounds q.1 q.2) t).size=t.size/\ ∀I r,(w4 ps rs R).get I=some r->r.rel φ ι w (((ps.zip aO).foldl (λt q=>t.setIfInBounds q.1 q.2) t).getD I undef)/\ ∀i∈r.ids,(aE H i).live=true
 |[],rs,aO,R,t,_,_,_,_,h=>by
  refine ⟨by simp,λI r al=> ?_⟩;have:w4 [] rs R=R:=by cases rs<;>rfl
  rw[this]at al;simpa using h I r al
 |p::ps,[],aO,R,t,_,_,_,ab,h=>by simp at ab
 |p::ps,r::rs,aO,R,t,aP,au,gG,ab,h=>by
  obtain ⟨v,m,rfl,s,E⟩:=au;have bd:p<t.size:=aP p (by simp);have aQ:=Z9 ps rs m (R.put p r) (t.setIfInBounds p v) (λq aD=>by simp;exact aP q (by simp[aD])) E (λi u=>gG i (by simp[K.idsL,u])) (by simpa using ab) (λI x ai=>by
   rw[bO.get_put]at ai;by_cases al:I=p
   ·subst al;simp only[if_true,bH]at ai;subst ai;have:(t.setIfInBounds I v).getD I undef=v:=by simp[iX,bd]
    rw[this];exact ⟨s,λi u=>gG i (by simp[K.idsL,u])⟩
   ·simp only[al,if_false]at ai;have cC:p≠I:=λh=>al h.symm
    have:(t.setIfInBounds p v).getD I undef=t.getD I undef:=by simp[iX,Array.getElem?_setIfInBounds,cC]
    rw[this];exact h I x ai)
  refine ⟨by simpa using aQ.1,λI x ai=> ?_⟩;have:=aQ.2 I x ai;simpa using this
theorem ab2 [Env] (h:cc φ ι w H) {Y:Nat} {R:bO} {p hf:Int} {l:Nat} (W:aE H 0=.loop Y R p) (u:ι 0=.func (.yield l) #[] #[]) {pz:Loop} (gS:TF pz hf)
  (qb: ∀rec c,GO φ ι w l rec c Y R p->pz.params=rec.params/\pz.assign=rec.assign/\pz.body=rec.body/\pz.tmps=rec.tmps):
  cc φ ι (w.putObj l (.loop pz)) (bY H 0 (.loop Y R hf))/\Step φ ι w H φ ι (w.putObj l (.loop pz)) (bY H 0 (.loop Y R hf))/\ej ι H ι (bY H 0 (.loop Y R hf)):=by
 have dv:=h.obj 0;rw[W]at dv;obtain ⟨dr,rec,c,fE,iv⟩:=dv;have ih:dr=l:=Ay (fE.symm.trans u);subst ih;obtain ⟨ah,aJ,bR,cB⟩:=qb rec c iv;have bd:=(kT.1 iv.heap).1;obtain ⟨dY,a2,a3,-⟩:=A8 (n:=H.length) (dd:=.loop Y R hf) h (o:=0) (b:=dr) (by rw[W];rfl) (by rw[u];rfl) (ja.putObj w dr (.loop pz)) iv.phi
  ⟨dr,pz,c,u,⟨iv.code,World.putObj_heap_same bd,by rw[ah];exact iv.params,by rw[aJ];exact iv.assign,by rw[bR];exact iv.body,by rw[cB];exact iv.nt,gS,λq aD=>by rw[cB];exact K.rel_mono (λ_ _ h=>h) (λb k J=>(ja.putObj w dr _).cell (λe=>iv.phi k (e▸J))) q.2 _ (λ_ _=>rfl) (iv.regs q aD),iv.phi⟩⟩
  (λi u=>h.ids 0 i (by rw[W];exact u)) rfl
 exact ⟨dY,a2,a3⟩
theorem aqe {Y:Nat} {e:ed} {st a8:bz} (h:(Pa Y e st).val=some a8): ∃R,aE st.heap 0=.loop Y R (-1)/\a8=⟨[(0,.dat .bool e.isNrm)],bY st.heap 0 (.loop Y R (nO e))⟩:=by
 unfold Pa at h;split at h
 ·rename_i EY R p dv;cases J:Nat.beq EY Y
  ·simp[J,DT.val]at h
  rw[J,ak]at h;have:EY=Y:=by simpa using J
  subst this;simp only[DT.val]at h;cases aP:decide (p= -1)
  ·simp[aP]at h
  rw[aP,ak]at h;simp only[bH]at h;have:p= -1:=of_decide_eq_true aP;subst this;exact ⟨R,dv,h.symm⟩
 ·simp[DT.val]at h
def KO (c:ng) (S Z:Shape):Bool:=
 Nat.beq S.regs.length (c.params.length+1)&&c.params.all (Nat.blt · c.nt)&&decide (Z.regs.map (·.1)=[0])&&Nat.ble c.nt dE
theorem arj {Z:Shape} {m:Nat} {st:bz} {z:Z.ty.den} (h:(Z.take m st).val=some z):(Z.enc z).regs.map (·.1)=Z.regs.map (·.1):=by
 unfold Shape.take at h;obtain ⟨⟨a8,bC,yA,pp⟩,bb,aU⟩:=DT.val_bind_some h;simp only[DT.val_ofOpt]at aU;unfold Shape.dec at aU;cases aS:iV Z.regs a8.regs with
 |none=>simp[aS]at aU
 |some x=>
  cases J:fR Z.objs a8.heap with
  |none=>simp[aS,J]at aU
  |some y=>
   have:=rD _ _ x [] aS;rw[Shape.dec_enc (st:=a8) (by simp only[Shape.dec,aS,J]at aU ⊢;exact aU)];exact vU _ _ _ _ this
theorem aso [Env] {F:bk} {C:bk->Code->Nat->bz->DT (ed×bz)} {Y:Nat} {c:ng} {S Z:Shape} {g:S.ty.den->Option Z.ty.den} (xV:Env.code Y=some c) (cy:KO c S Z=true) (fb:F.m=S.objs.length) (eU:KS P F c.nt C c.assign) (di:KS P F c.nt C c.body)
  (bu: ∀d,(sf F C Y c S Z d).val=g d):qQ P ⟨Y,S,Z,g⟩:=by
 intro args H d z ae bI;have gR:=Shape.dec_enc ae;simp only[KO,bN,dJ,Nat.beq_eq,fy]at cy;obtain ⟨⟨⟨ow,nB⟩,nC⟩,nD⟩:=cy;have nD:=gV nD;have iH:args.length=S.regs.length/\H.length=S.objs.length:=by
  unfold Shape.dec at ae;simp only at ae;cases aS:iV S.regs (fQ 0 args) with
  |none=>simp[aS]at ae
  |some x=>
   cases J:fR S.objs H with
   |none=>simp[aS,J]at ae
   |some y=>
    refine ⟨by rw[<-y2 _ _ _ aS,(oC args 0).2.1],?_⟩;have: ∀(d:List dX) (R:List aF) (l:List eD),fR d R=some l->R.length=d.length:=by
     intro d
     induction d with
     |nil=>intro R l h;cases R<;>simp[fR]at h ⊢
     |cons a d aQ=>
      intro R l h;cases R with
      |nil=>simp[fR]at h
      |cons b R=>
       simp only[fR]at h;split at h
       ·obtain ⟨b,J,-⟩:=h7.1 h;simp[aQ R b J]
       ·cases h
    exact this _ _ _ J
 have e:(sf F C Y c S Z d).val=some z:=(bu d).trans bI;unfold sf at e;simp only at gR;rw[gR]at e;cases args with
 |nil=>simp[fQ,DT.val]at e
 |cons a0 args=>
 cases H with
 |nil=>
  simp[fQ,DT.val]at e
 |cons dd H=>
 simp only[fQ]at e;split at e
 case h_2=>simp[DT.val]at e
 rename_i d0 ayb ano pO R p aA bj bG;injection bj with bj Sn
 injection bj with ayZ awb
 injection bG with bG awc
 subst awb Sn bG awc;cases QB:Nat.beq pO Y
 ·simp[QB,DT.val]at e
 rw[QB,ak]at e;have atr:pO=Y:=by simpa using QB
 subst atr;simp only[DT.val]at e;cases vk:decide (p=0)
 ·simp[vk]at e
 rw[vk,ak]at e;have vk:p=0:=of_decide_eq_true vk;subst vk;split at e
 ·simp[DT.val]at e
 rename_i Q9;obtain ⟨⟨L,cn⟩,s,e⟩:=DT.val_bind_some e;have atu:(fQ (0+1) args).map (·.2)=args:=by
  have: ∀(l:List K) (k:Nat),(fQ k l).map (·.2)=l:=by
   intro l
   induction l with
   |nil=>intro k;rfl
   |cons x l aQ=>intro k;simp[fQ,aQ]
  exact this _ _
 rw[atu]at s Q9;intro φ ι w aO eh e9 fA fk;obtain ⟨v0,wj,eB,Rx,yf⟩:=fA;obtain ⟨Rx,l,aew⟩:=Rx;have auy:=eh.obj 0;obtain ⟨dr,rec,aX,fE,iv⟩:=auy;have ih:dr=l:=Ay (fE.symm.trans (Rx.symm.trans aew));subst ih;have atC:aX=c:=eW (iv.code.symm.trans xV);subst atC;have aey:aO=(v0::wj).toArray:=by apply Array.ext';simpa using eB
 have Cl:aO.extract 1 aO.size=wj.toArray:=by rw[aey];simp
 have aui:wj.length=args.length:=by
  have: ∀(l:List K) (aO:List az),K.relT φ ι w l aO->aO.length=l.length:=by
   intro l
   induction l with
   |nil=>intro aO h;simp only[K.relT]at h;simp[h]
   |cons r l aQ=>intro aO h;obtain ⟨v,m,rfl,-,h⟩:=h;simp[aQ m h]
  exact this _ _ yf
 have ad8:args.length=aX.params.length:=by have:=iH.1;simp at this;omega
 have ayP:rec.state=.ready/\rec.pending=none:=by
  rcases iv.st with ⟨-,a,b⟩|⟨a,-⟩|⟨eg,a,b,-⟩
  ·exact ⟨a,b⟩
  ·omega
  ·exact absurd (Gx (e:=eg) (f:=.nrm) (a.symm)) b
 refine (jR.round (by unfold jo;rw[xV];rfl)).2 ⟨dr,?_,?_⟩
 ·rw[aey];simp[aew]
 rw[Cl];refine ⟨rec.fn,_,rec.assign,rec.body,run_yield iv.heap (by simp;rw[aui,ad8,<-iv.params];simp),roundIn_of_wpIn (F:=eX none) trivial ?_⟩;rw[iv.assign,iv.body];obtain ⟨jQ,Ii⟩: ∃jQ,(rec.params.zip wj.toArray).foldl (λtmps (q:Tmp×az)=>tmps.setIfInBounds q.1 q.2) rec.tmps=jQ:=⟨_,rfl⟩;have auZ:(aX.params.zip wj).foldl (λt (q:Nat×az)=>t.setIfInBounds q.1 q.2) rec.tmps=jQ:=by rw[<-Ii,<-iv.params,<-Array.foldl_toList];simp
 have Kj:=Z9 (φ:=φ) (ι:=ι) (w:=w) (H:=.loop pO R 0::H) aX.params args wj R rec.tmps (λq aD=>by rw[iv.nt];simpa using nB q aD) yf (λi u=>fk i (by simp[K.idsL,u])) ad8.symm (λI r al=>⟨iv.regs _ (bO.get_mem al),λi u=>eh.ids 0 i (bO.mem_ids (bO.get_mem al) i u)⟩);rw[auZ]at Kj;have lo:ds φ ι w ⟨aX.nt,w.heap.size,[],some dr,false⟩ ⟨w4 aX.params args R,.loop pO R 0::H⟩ {tmps:=jQ,defers:=[]}:=⟨eh,λI r al=>by rw[iK (λe=>by rw[e]at al;rw[al]at Q9;cases Q9)];exact Kj.2 I r al,Kj.1.trans iv.nt,nD,nW (b7 _)⟩
 have jC:gM F.m (.loop pO R 0::H):=by rw[fb,<-iH.2];exact λo W=>e9 o W
 have H2:0<F.m:=by rw[fb,<-iH.2];simp
 show aX.assign.wpIn (eX (some dr)) 0 P _ {tmps:=(rec.params.zip wj.toArray).foldl (λtmps (q:Tmp×az)=>tmps.setIfInBounds q.1 q.2) rec.tmps,defers:=[]} w;rw[Ii];refine eU ⟨aX.nt,w.heap.size,[],some dr,false⟩ _ L cn φ ι w _ _ rfl s lo jC λdY dn dy fg qp awZ R4=> ?_
 cases L with
 |exit i=>simp[DT.val]at e
 |ret=>simp[DT.val]at e
 |nrm=>
 simp only at e;split at e
 case h_2=>simp[DT.val]at e
 rename_i n9 wJ fV CB;cases en:Nat.beq n9 pO
 ·simp[en,DT.val]at e
 rw[en,ak]at e;have:n9=pO:=by simpa using en
 subst this;simp only[DT.val]at e;cases mZ:decide (fV=0)
 ·simp[mZ]at e
 rw[mZ,ak]at e;have:fV=0:=of_decide_eq_true mZ;subst this;obtain ⟨⟨aa,eo⟩,E,e⟩:=DT.val_bind_some e;obtain ⟨yX,O,aC⟩:=DT.val_bind_some e;have lj:=R4.live jC;have ix:fg 0=.func (.yield dr) #[] #[]:=by rw[(R4 0 H2 (jC 0 H2)).1];exact fE
 have auK: ∃tC a7,GO dy fg dn dr tC a7 n9 wJ 0:=by have:=qp.heap.obj 0;rw[CB]at this;obtain ⟨pt,tC,a7,yC,zB⟩:=this;have:pt=dr:=Ay (yC.symm.trans ix);subst this;exact ⟨tC,a7,zB⟩
 obtain ⟨tC,a7,zB⟩:=auK;have auU:tC.state=.ready:=by
  rcases zB.st with ⟨-,a,b⟩|⟨a,-⟩|⟨eg,a,b,-⟩
  ·exact a
  ·omega
  ·exact absurd (Gx (e:=eg) (f:=.nrm) (a.symm)) b
 simp only[kY,Exit.then];refine ⟨_,run_beginRound zB.heap auU,?_⟩;obtain ⟨t1,t2,t3⟩:=ab2 qp.heap CB ix (pz:={tC with state:=.busy}) (hf:= -1) (.inr (.inl ⟨rfl,rfl⟩)) (λrec c h=>by
  have:=zB.heap.symm.trans h.heap;have:tC=rec:=by simpa using this
  subst this;exact ⟨rfl,rfl,rfl,rfl⟩)
 have aw0:ds dy fg (dn.putObj dr (.loop {tC with state:=.busy})) ⟨aX.nt,w.heap.size,[],some dr,false⟩ ⟨cn.regs,bY cn.heap 0 (.loop n9 wJ (-1))⟩ dY:=
  ⟨t1,λI r al=>⟨K.rel_step t2 t3 (qp.regs I r al).2 (qp.regs I r al).1,λi u=>t3.live i ((qp.regs I r al).2 i u)⟩,qp.nt,qp.small,qp.defers.step t2⟩
 have R9:gM F.m (bY cn.heap 0 (.loop n9 wJ (-1))):=(t3.keepM F.m).live lj;refine di ⟨aX.nt,w.heap.size,[],some dr,false⟩ _ aa eo dy fg _ _ _ rfl E aw0 R9 λa2 de ec ei kd pE m3=> ?_
 obtain ⟨TN,aee,Rq⟩:=aqe O;have Sa:=m3.live R9;have e8:ei 0=.func (.yield dr) #[] #[]:=by rw[(m3 0 H2 (R9 0 H2)).1];exact ix
 obtain ⟨pA,c3,TE⟩: ∃pA c3,GO ec ei de dr pA c3 n9 TN (-1):=by have:=kd.heap.obj 0;rw[aee]at this;obtain ⟨rv,awH,e5,ql,ahI⟩:=this;have:rv=dr:=Ay (ql.symm.trans e8);subst this;exact ⟨awH,e5,ahI⟩
 have fin: ∀(jump:Option Code),(match aa with | .nrm=>jump=none |e=>jump=some (PA e))-> ∃v ao,(Instr.endRound dr jump).run P de=.ok v ao/\(∃lq av aH,Ending.returned v=.returned lq/\cc av aH ao (Z.enc z).heap/\Step φ ι w (.loop n9 R 0::H) av aH ao (Z.enc z).heap/\ej ι (.loop n9 R 0::H) aH (Z.enc z).heap/\(kf (Z.enc z).regs).rel av aH ao lq/\ ∀i∈(kf (Z.enc z).regs).ids,(aE (Z.enc z).heap i).live=true):=by
  intro jump an;refine ⟨_,_,run_endRound jump TE.heap,?_⟩;obtain ⟨nc,pG,rQ⟩:=ab2 kd.heap aee e8 (pz:={pA with state:=if jump.isNone then .ready else .done,pending:=jump}) (hf:=nO aa) (by
   cases aa with
   |nrm=>simp only at an;subst an;exact .inl ⟨rfl,rfl,rfl⟩
   |ret=>simp only at an;subst an;exact .inr (.inr ⟨.ret,rfl,by simp,rfl,rfl⟩)
   |exit i=>simp only at an;subst an;exact .inr (.inr ⟨.exit i,rfl,by simp,rfl,rfl⟩)) (λrec c h=>by
   have:=TE.heap.symm.trans h.heap;have:pA=rec:=by simpa using this
   subst this;exact ⟨rfl,rfl,rfl,rfl⟩)
  obtain ⟨gf,aez⟩: ∃gf,de.putObj dr (.loop {pA with state:=if jump.isNone then .ready else .done,pending:=jump})=gf:=⟨_,rfl⟩;rw[aez]at nc pG ⊢;have Cs:jump.isNone=aa.isNrm:=by
   cases aa with
   |nrm=>simp only at an;subst an;rfl
   |ret=>simp only at an;subst an;rfl
   |exit i=>simp only at an;subst an;rfl
  have Dw:ds ec ei gf ⟨1,0,[],none,false⟩ yX {tmps:= #[.bool jump.isNone],defers:=[]}:=by
   rw[Rq];refine ⟨nc,λI r al=> ?_,rfl,gV rfl,nW (Nat.zero_le _)⟩;simp only[bO.get]at al;cases pe:Nat.beq I 0
   ·simp[pe]at al
   ·simp only[pe,ak,bH]at al;have:I=0:=by simpa using pe
    subst this al;rw[Cs,iK (by decide)];exact ⟨h3 (cA.bool.2 rfl),by simp[K.ids]⟩
  have avt:gM F.m yX.heap:=by rw[Rq];exact (rQ.keepM F.m).live Sa
  obtain ⟨mB,mA,dU,c6,fm,lS,qh⟩:=lH aC Dw avt;have Ct:=(arj aC).trans nC;have hP:(Z.enc z).regs.length=(#[Value.bool jump.isNone]:Array az).size:=by have:=congrArg List.length Ct;simpa using this
  obtain ⟨ah,aJ⟩:=uL (aO:= #[Value.bool jump.isNone]) (R:=(Z.enc z).regs) (by rw[Ct];have:=congrArg List.length Ct;simp at this;rw[this];rfl) hP (wS (a:={tmps:= #[.bool jump.isNone],defers:=[]}) (by rw[Ct];have:=congrArg List.length Ct;simp at this;rw[this];rfl) (by rw[hP];exact gV rfl) dU.regs);have at4:yX.heap=bY eo.heap 0 (.loop n9 TN (nO aa)):=by rw[Rq]
  rw[at4]at c6 fm;refine ⟨_,mB,mA,rfl,dU.heap,(((awZ.trans t2).trans pE).trans pG).trans c6,?_,by simpa using ah,aJ⟩;have iJ:=(((R4.trans (t3.keepM F.m)).trans m3).trans (rQ.keepM F.m)).trans fm;refine ⟨λo W=> ?_,λo W=> ?_⟩
  ·have bd:o<F.m:=by rw[fb,<-iH.2];exact gB W
   exact (iJ o bd W).1
  ·have bd:o<F.m:=by rw[fb,<-iH.2];exact gB W
   exact (iJ o bd W).2
 cases aa with
 |nrm=>exact fin none rfl
 |ret=>exact fin (some .ret) rfl
 |exit i=>exact fin (some (.exit i)) rfl
theorem FB [Env] {F:bk} {Y:Nat} {c:ng} {S Z:Shape} {g:S.ty.den->Option Z.ty.den} (tab:cQ P F.cx) (c1:ca P F.Γ) (hm:P.follows .mixedOrders=true) (xV:Env.code Y=some c) (cy:KO c S Z=true) (fb:F.m=S.objs.length)
  {m:List (Nat×Code)} (ab:et (.seq c.assign c.body) 0=m) (dO:oP P F c.nt m) (aw:(i8 c.nt (.seq c.assign c.body)&& !eT (.seq c.assign c.body)&& !gv (.seq c.assign c.body))=true) (bu: ∀d,(sf F gb Y c S Z d).val=g d):qQ P ⟨Y,S,Z,g⟩:=by
 have gE:=uv ab dO;simp only[i8,eT,gv,bN,eJ,Bool.or_eq_false_iff]at aw;exact aso xV cy fb (abY tab c1 hm (λq aD=>gE q (by simp[et,aD])) (by simp[aw.1.1.1,aw.1.2.1,aw.2.1])) (abY tab c1 hm (λq aD=>gE q (by simp[et,aD])) (by simp[aw.1.1.2,aw.1.2.2,aw.2.2])) bu
def Pr [Env] (F:bk):List (Nat×ng)->Prop
 |[]=>True
 |q::l=>(∀Y,F.rfs q.1=some Y->Env.code Y=some q.2)/\Pr F l
def UF (P:cq):List Nat->Prop
 |[]=>True
 |f::l=>(∃fn,P.funcs[f]? =some fn/\(fn.name== "runtime.NumGoroutine")=false/\fn.body.isNone=false)/\UF P l
theorem A5 [Env] {F:bk} {q:Nat×ng} {Y:Nat} (h:F.rfs q.1=some Y) (aw:Env.code Y=some q.2): ∀Y,F.rfs q.1=some Y->Env.code Y=some q.2:=λZ adE=>by rw[h]at adE;obtain rfl:=eW adE;exact aw
theorem AT [Env] {F:bk} {n:Nat} {c:Code} {m:List (Nat×ng)} {its:List Nat} (hm:lr n c=m) (h:Pr F m) (u:F.its=its) (E:UF P its):jJ P F n c:=by
 have gE: ∀(l:List (Nat×ng)),Pr F l-> ∀q∈l,∀Y,F.rfs q.1=some Y->Env.code Y=some q.2:=by
  intro l
  induction l with
  |nil=>intro _ q aD;cases aD
  |cons a l aQ=>
   intro h q aD;rcases eO.1 aD with rfl |aD
   ·exact h.1
   ·exact aQ h.2 q aD
 have QU: ∀f∈F.its,∃fn,P.funcs[f]? =some fn/\(fn.name== "runtime.NumGoroutine")=false/\fn.body.isNone=false:=by
  rw[u];clear u
  induction its with
  |nil=>intro f aL;cases aL
  |cons a l aQ=>
   intro f aL;rcases eO.1 aL with rfl |aL
   ·exact E.1
   ·exact aQ E.2 f aL
 have key: ∀c,(∀q∈lr n c,∀Y,F.rfs q.1=some Y->Env.code Y=some q.2)->jJ P F n c:=by
  intro c
  induction c with
  |seq a b CV vt=>intro h;exact ⟨CV λq aD=>h q (by simp[lr,aD]),vt λq aD=>h q (by simp[lr,aD])⟩
  |cond x a b CV vt=>intro h;exact ⟨CV λq aD=>h q (by simp[lr,aD]),vt λq aD=>h q (by simp[lr,aD])⟩
  |block i c aQ=>intro h;exact aQ λq aD=>h q (by simpa [lr] using aD)
  |scope c aQ=>intro h;exact aQ λq aD=>h q (by simpa [lr] using aD)
  |rangeFunc g ps a b=>intro h;exact ⟨λY Qx=>h (I6 a b,⟨ps.toList,a,b,n⟩) (by simp[lr]) Y Qx,QU⟩
  |_=>intro _;trivial
 exact key c λq aD=>gE m h q (by rw[<-hm];exact aD)
end
open Go.RowKit
section
variable {P:cq} {cx:cd} {φ:bJ} {ι:Nat->az} {w:bh} {H:List aF} {nt:js} {st a8:bz} {a:Act}
theorem aqu: ∀(d:List dX) (R:List aF) (l:List eD),fR d R=some l->R.length=d.length:=by
 intro d
 induction d with
 |nil=>intro R l h;cases R<;>simp[fR]at h ⊢
 |cons a d aQ=>
  intro R l h;cases R with
  |nil=>simp[fR]at h
  |cons b R=>
   simp only[fR]at h;split at h
   ·obtain ⟨b,J,-⟩:=h7.1 h;simp[aQ R b J]
   ·cases h
theorem acs {S:Shape} {d:S.ty.den} (h:S.dec st=some d):st.regs.length=S.regs.length/\st.heap.length=S.objs.length:=by
 unfold Shape.dec at h;cases aS:iV S.regs st.regs with
 |none=>simp[aS]at h
 |some x=>
  cases J:fR S.objs st.heap with
  |none=>simp[aS,J]at h
  |some y=>exact ⟨y2 _ _ _ aS,aqu _ _ _ J⟩
theorem ab1 {S:Shape} {m:Nat} {d:S.ty.den} (e:(S.take m st).val=some d):(S.enc d).heap.length=S.objs.length:=by unfold Shape.take at e;obtain ⟨⟨a8,cu,aI,hf⟩,L,aa⟩:=DT.val_bind_some e;simp only[DT.val_ofOpt]at aa;rw[Shape.dec_enc aa];exact (acs aa).2
theorem ahT: ∀(l m:List K) (xs aW:List az),K.relT φ ι w l xs->K.relT φ ι w m aW->K.relT φ ι w (l++m) (xs++aW):=by
 intro l
 induction l with
 |nil=>intro m xs aW s E;simp only[K.relT]at s;subst s;exact E
 |cons r l aQ=>intro m xs aW s E;obtain ⟨v,rA,rfl,O,aC⟩:=s;exact ⟨v,rA++aW,rfl,O,aQ m rA aW aC E⟩
theorem ar8: ∀(l m:List K),K.idsL (l++m)=K.idsL l++K.idsL m:=by
 intro l m
 induction l with
 |nil=>rfl
 |cons r l aQ=>simp[K.idsL,aQ]
theorem abg [Env] {fn:Func} {args:List K} {aO:Array az} (eh:cc φ ι w H) (fA:K.relT φ ι w args aO.toList) (fk: ∀i∈K.idsL args,(aE H i).live=true) (dT:aO.size<=fn.ntmps) (h6:fn.ntmps<=dE) (hlen:aO.size=args.length):
  ds φ ι w ⟨fn.ntmps,w.heap.size,[],none,true⟩ ⟨(fQ 0 args).put dE (.tup []),H⟩ {tmps:=aO++Array.replicate (fn.ntmps-aO.size) undef,defers:=[]}:=by
 refine ⟨eh,λI r al=> ?_,by simp;omega,h6,nW (b7 _)⟩;have al:((fQ 0 args).put dE (.tup [])).get I=some r:=al;rw[bO.get_put]at al;by_cases mc:I=dE
 ·subst mc;simp only[if_true,bH]at al;subst al;rw[qJ];exact ⟨⟨#[],rfl,rfl⟩,by simp[K.ids,K.idsL]⟩
 ·simp only[mc,if_false]at al;obtain ⟨bb,aU,ck⟩:=oC args 0;obtain ⟨k,af,hk⟩:=m6 _ 0 I r (by rw[bb,aU]) al;have gF:I=k:=by omega
  subst gF;have bx:=ck I (I,r) hk;simp only at bx;obtain ⟨v,aZ,ji⟩:=tY fA bx;have eZ:aO[I]? =some v:=by simpa using aZ
  have lL:I<aO.size:=(kT.1 eZ).1;have:(aO++Array.replicate (fn.ntmps-aO.size) undef).getD I undef=v:=by rw[iX,Array.getElem?_append_left lL,eZ];rfl
  rw[iK mc,this];exact ⟨ji,λi u=>fk i (tV bx i u)⟩
def GR (fn:Func):Bool:=
 i8 fn.ntmps (bX fn)&& !eT (bX fn)&& !gv (bX fn)&&Nat.ble fn.ntmps dE&& !(fn.name== "runtime.NumGoroutine")&&fn.results.toList.isEmpty
def Pp (fn:Func) (S Z:Shape):Bool:=
 i8 fn.ntmps (bX fn)&& !eT (bX fn)&&Nat.ble fn.ntmps dE&&Nat.ble fn.results.size dE&& !(fn.name== "runtime.NumGoroutine")&&Nat.ble S.regs.length fn.ntmps&&decide (Z.regs.map (·.1)=List.range' 0 fn.results.size)
set_option maxHeartbeats 1000000 in
theorem aqv [Env] {Fd:bk} {m:Nat} {ar:bL} {fd:FuncId} {hj fn:Func} (tab:cQ P Fd.cx) (c1:ca P Fd.Γ) (hm:P.follows .mixedOrders=true) (aL:P.funcs[fd]? =some hj) (J:hj.body=some (bX hj)) (cy:GR hj=true)
  (ab: ∀q∈et (bX hj) 0,hl P Fd hj.ntmps q.1 q.2) (x2:Fd.m=ar.S.objs.length) (jL:nt.df) {R:Ending->bh->Prop} {o:ar.Out}:
  ∀n d φ ι w a,eI (λd=>(uF ar m Fd fd hj d).val) n d=some o->ds φ ι w nt (ar.S.enc d) a->(ar.S.enc d).heap.length=ar.S.objs.length->gM (ar.S.enc d).heap.length (ar.S.enc d).heap->gM m (ar.S.enc d).heap->
   (∀x ao av aH,o=.inl x->E1 av aH ao (ar.X.enc x) a->ds av aH ao nt (ar.X.enc x) {a with defers:=[]}->Step φ ι w (ar.S.enc d).heap av aH ao (ar.X.enc x).heap->ic m ι (ar.S.enc d).heap aH (ar.X.enc x).heap-> ∃v,(results fn a.tmps).run P ao=.ok v ao/\R (.returned v) ao)->
   LeavesInM (eX none) 0 P fn a.tmps R a.defers .returning w:=by
 intro n
 induction n with
 |zero=>intro d φ ι w a h;cases h
 |succ n aQ=>
  intro d φ ι w a h cg hlen avu lm c2;simp only[eI]at h;cases ff:(uF ar m Fd fd hj d).val with
  |none=>simp[ff]at h
  |some r=>
  simp only[ff]at h;unfold uF at ff;split at ff
  ·rename_i f A B t xs q3;have q:=DT.val_bif ff;clear ff;obtain ⟨HU,ff⟩:=q;simp only[bN,Nat.beq_eq]at HU;obtain ⟨HU,CA⟩:=HU;have CA:=gV CA;subst HU;obtain ⟨⟨aO,eB,CK,gE⟩,fk⟩:=cg.regs dE _ q3;rw[qJ]at eB;have eB:a.defers.map sg=aO:=by simpa using eB
   cases xs with
   |nil=>
    simp only[List.isEmpty_nil,DT.val,ak]at ff;obtain ⟨x,L,aa⟩:=DT.val_bind_some ff;simp only[DT.val,bH]at aa;subst aa;simp only[bH]at h;subst h;have pe:a.defers=[]:=by
     have:(a.defers.map sg).length=0:=by rw[eB];simpa using CK
     simpa using this
    have gS:(⟨(ar.S.enc d).regs,(ar.S.enc d).heap⟩:bz)=ar.S.enc d:=rfl;rw[gS]at L;obtain ⟨av,aH,bb,aU,ck,-,-⟩:=lH L cg lm;rw[pe];have aS:{a with defers:=[]}=a:=by cases a;simp only at pe;subst pe;rfl
    exact c2 x w av aH rfl bb.rr (by rw[aS];exact bb) aU ck
   |cons x l=>
    simp only[List.isEmpty_cons,DT.val,ax,List.head?_cons,List.tail_cons]at ff;obtain ⟨⟨L,cn⟩,s,E⟩:=DT.val_bind_some ff;clear ff;obtain ⟨sU,O⟩:(L=.nrm\/L=.ret)/\cn.regs.get dE=some (.tup [])/\((ar.S.take m ⟨(ar.S.enc d).regs.put dE (.dfr f A B t l),cn.heap⟩).bind λd=>DT.leaf (Sum.inl (β:=ar.Out) d)).val=some r:=by
     cases L with
     |exit i=>simp[DT.val]at E
     |nrm=>
      simp only at E;split at E
      ·rename_i bu;cases bu
      ·rename_i bu _;exact ⟨.inl rfl,bu,E⟩
      ·simp[DT.val]at E
     |ret=>
      simp only at E;split at E
      ·rename_i bu;cases bu
      ·rename_i bu _;exact ⟨.inr rfl,bu,E⟩
      ·simp[DT.val]at E
    obtain ⟨adX,O⟩:=O;obtain ⟨hD,aC,ba⟩:=DT.val_bind_some O;simp only[DT.val,bH]at ba;subst ba;simp only at h;cases aO with
    |nil=>simp at CK
    |cons ad aO=>
    obtain ⟨a7,lE,aX,rfl,ah,aJ,bR⟩:=gE 0 x ad rfl rfl;obtain ⟨I,e6,QJ,mb,p5⟩: ∃I e6,a.defers=I::e6/\sg I=.func (.func f) #[] (a7++lE::aX).toArray/\e6.map sg=aO:=by
     cases ot:a.defers with
     |nil=>rw[ot]at eB;simp at eB
     |cons I e6=>
      rw[ot]at eB;simp only[List.map_cons,List.cons.injEq]at eB;exact ⟨I,e6,rfl,eB.1,eB.2⟩
    obtain ⟨aT,auW⟩:I.target=.fn (.func f) (a7++lE::aX).toArray/\I.args= #[]:=by
     unfold sg at mb;split at mb
     ·rename_i g y bu;injection mb with bj bG dm
      exact ⟨by rw[bu,bj,dm],bG⟩
     ·cases mb
    simp only[GR,bN,eJ,List.isEmpty_iff]at cy;obtain ⟨⟨⟨⟨⟨avO,agp⟩,avP⟩,Sl⟩,avQ⟩,avR⟩:=cy;have Sl:=gV Sl;rw[QJ];refine ⟨by simp,.inr ⟨(λh=>(by cases h)),.func f,_,f,#[]++(a7++lE::aX).toArray,aT,?_,λ_ _=>trivial,?_⟩⟩
    ·rw[aT,auW];have Cn: ¬hj.name= "runtime.NumGoroutine":=by simpa using avQ
     simp only[invoke];unfold callFunc;simp[aL,Cn,J]
    have fA:K.relT φ ι w (A++ .fptr t x::B) (#[]++(a7++lE::aX).toArray).toList:=by simp only[Array.empty_append];refine ahT _ _ _ _ ah ⟨lE,aX,rfl,aJ,bR⟩
    obtain ⟨args,atv⟩: ∃args:Array az,#[]++(a7++lE::aX).toArray=args:=⟨_,rfl⟩;rw[atv]at fA ⊢;have at5: ∀i∈K.idsL (A++ .fptr t x::B),(aE (ar.S.enc d).heap i).live=true:=by intro i u;refine fk i ?_;rw[ar8]at u;simpa [K.ids,K.idsL] using u
    have aes:args.size=(A++K.fptr t x::B).length:=by
     have: ∀(l:List K) (aO:List az),K.relT φ ι w l aO->aO.length=l.length:=by
      intro l
      induction l with
      |nil=>intro aO h;simp only[K.relT]at h;simp[h]
      |cons r l aQ=>intro aO h;obtain ⟨v,m,rfl,-,h⟩:=h;simp[aQ m h]
     simpa using this _ _ fA
    refine CallsDIn.mono (callsDIn_of_wp (F:=eX none) aL J trivial (R:=λe ao=> ∃v,e=.returned v/\LeavesInM (eX none) 0 P fn a.tmps R e6 .returning ao) ?_) λe iN ao=> ?_
    ·have lo:ds φ ι w ⟨hj.ntmps,w.heap.size,[],none,true⟩ ⟨(fQ 0 (A++ .fptr t x::B)).put dE (.tup []),(ar.S.enc d).heap⟩ {tmps:=args++Array.replicate (hj.ntmps-args.size) undef,defers:=[]}:=by refine abg cg.heap fA at5 ?_ Sl aes;rw[aes];simp only[fr,gn];omega
     refine nJ tab c1 hm (bX hj) 0 _ L cn φ ι w _ _ s ab avO (eN _ agp) (iD.no agp avP) lo (by rw[x2,<-hlen];exact avu) λbn ao av aH cR sp bS=> ?_
     have ot:bn.defers=[]:=by
      obtain ⟨⟨wk,Ij,Ry⟩,-⟩:=cR.regs dE _ adX;rw[qJ]at Ij;simp only[K.relT]at Ry;have:wk= #[]:=by cases wk;simpa using Ry
      subst this;simpa using Ij
     have mi:=vX (P:=P) (fn:=hj) (a:=bn) (aO:=[]) (w:=ao) (by rw[avR];rfl);have aej:bn.defers=[]/\ ∃v,(results hj bn.tmps).run P ao=.ok v ao/\ ∃lq,Ending.returned v=.returned lq/\LeavesInM (eX none) 0 P fn a.tmps R e6 .returning ao:=by
      refine ⟨ot,_,mi,_,rfl,?_⟩;have wA:ej ι (ar.S.enc d).heap aH cn.heap:=by rw[x2,<-hlen]at bS;exact ⟨λo W=>(bS o (gB W) W).1,λo W=>(bS o (gB W) W).2⟩
      have qp:ds av aH ao nt ⟨(ar.S.enc d).regs.put dE (.dfr f A B t l),cn.heap⟩ {a with defers:=e6}:=by
       refine ⟨cR.heap,λlF gN lb=> ?_,cg.nt,cg.small,⟨Nat.le_trans cg.defers.1 sp.size,λh=>by rw[jL.2.1]at h;cases h⟩⟩;have lb:((ar.S.enc d).regs.put dE (.dfr f A B t l)).get lF=some gN:=lb;rw[bO.get_put]at lb;by_cases mc:lF=dE
       ·subst mc;simp only[if_true,bH]at lb;subst lb;have old:(K.dfr f A B t l).rel φ ι w (.tuple aO.toArray):=⟨aO,rfl,by simpa using CK,λi y iN bo hu=>gE (i+1) y iN (by simpa using bo) (by simpa using hu)⟩;rw[qJ];simp only[p5];exact ⟨K.rel_step sp wA fk old,λi u=>wA.live i (fk i u)⟩
       ·simp only[mc,if_false]at lb;have b8:=cg.regs lF gN lb;rw[iK mc]at b8 ⊢;exact ⟨K.rel_step sp wA b8.2 b8.1,λi u=>wA.live i (b8.2 i u)⟩
      have lj:gM m cn.heap:=λo W=>wA.live o (lm o W)
      obtain ⟨ec,ei,bb,aU,ck,ep,hz⟩:=lH aC qp lj;refine aQ hD ec ei ao {a with defers:=e6} h bb (ab1 aC) hz (ck.live lj) λx gf mB mA W bj bG dm cJ=> ?_
      exact c2 x gf mB mA W ⟨bj.heap,bj.regs⟩ bG ((sp.trans aU).trans dm) (((wA.keepM m).trans ck).trans cJ)
     rcases sU with rfl |rfl
     ·exact aej
     ·exact aej
    ·rintro ⟨rfl,v,rfl,k9⟩;exact k9
  ·simp[DT.val]at ff
set_option maxHeartbeats 1000000 in
theorem aro [Env] {F Fd:bk} (tab:cQ P F.cx) (c1:ca P F.Γ) (hm:P.follows .mixedOrders=true) {f:FuncId} {fn:Func} {S Z:Shape} (aL:P.funcs[f]? =some fn) (J:fn.body=some (bX fn)) (cy:Pp fn S Z=true) (dO: ∀q∈et (bX fn) 0,hl P F fn.ntmps q.1 q.2)
  {ar:bL} {fd:FuncId} {hj:Func} {g:ar.S.ty.den->Option ar.Out} (nG:F.Λ dE=ar.go g F.m) (SG:cQ P Fd.cx) (Qq:ca P Fd.Γ) (mU:P.funcs[fd]? =some hj) (QC:hj.body=some (bX hj)) (Ra:GR hj=true)
  (pn: ∀q∈et (bX hj) 0,hl P Fd hj.ntmps q.1 q.2) (x2:Fd.m=ar.S.objs.length) (bu: ∀d o,g d=some o-> ∃n,eI (λd=>(uF ar F.m Fd fd hj d).val) n d=some o)
  {args:List K} (fb:F.m=S.objs.length) {d:S.ty.den} {z:Z.ty.den} (ae:S.dec ⟨fQ 0 args,H⟩=some d) (e:(GU F fn S Z d).val=some z):kh P f args H (kf (Z.enc z).regs) (Z.enc z).heap:=by
 have gR:=Shape.dec_enc ae;simp only[Pp,bN,eJ,dJ]at cy;obtain ⟨⟨⟨⟨⟨⟨ow,aed⟩,h6⟩,ik⟩,nB⟩,nC⟩,nD⟩:=cy;have h6:=gV h6;have ik:=gV ik;have iH:args.length=S.regs.length/\H.length=S.objs.length:=by have:=acs ae;exact ⟨by rw[<-this.1];exact ((oC args 0).2.1).symm,this.2⟩
 unfold GU at e;rw[J]at e;simp only[Option.getD_some]at e;obtain ⟨⟨L,gI⟩,s,E⟩:=DT.val_bind_some e;have O:L=.nrm\/L=.ret:=by
  cases L with
  |nrm=>exact .inl rfl
  |ret=>exact .inr rfl
  |exit i=>simp[DT.val]at E
 have aC:((F.Λ dE gI).bind λq=>((lX F.cx q.2.regs 0 fn.results.toList).run q.2.heap q.2.heap.length .none).bind λ(R,h,_,_)=>Z.take F.m ⟨R,h⟩).val=some z:=by rcases O with rfl |rfl<;>exact E
 clear E e;obtain ⟨⟨aa,cn⟩,ba,bF⟩:=DT.val_bind_some aC;clear aC;simp only at bF;rw[nG]at ba;unfold bL.go at ba;obtain ⟨s1,t1,t2⟩:=DT.val_bind_some ba;clear ba;obtain ⟨o,W,he⟩: ∃o,g s1=some o/\(aa,cn)=ar.fin o:=by
  cases j4:g s1 with
  |none=>simp[j4,DT.val]at t2
  |some o=>
   refine ⟨o,rfl,?_⟩;cases o with
   |inl x=>simp only[j4,DT.val,bH]at t2;exact t2.symm
   |inr y=>simp only[j4,DT.val,bH]at t2;exact t2.symm
 obtain ⟨n,aR⟩:=bu s1 o W;obtain ⟨⟨R,bC,mn,tv⟩,g6,dN⟩:=DT.val_bind_some bF;have j1:=HM.go_run _ _ _ _ _ _ _ _ g6;have kH:(Z.enc z).regs.map (·.1)=List.range' 0 fn.results.size:=by
  obtain ⟨⟨a8,bC,yA,pp⟩,bb,aU⟩:=DT.val_bind_some dN;simp only[DT.val_ofOpt]at aU;have ck:(Z.enc z).regs.map (·.1)=Z.regs.map (·.1):=by
   unfold Shape.dec at aU;cases aS:iV Z.regs a8.regs with
   |none=>simp[aS]at aU
   |some x=>
    cases J:fR Z.objs a8.heap with
    |none=>simp[aS,J]at aU
    |some y=>
     have:=rD _ _ x [] aS;rw[Shape.dec_enc (st:=a8) (by simp only[Shape.dec,aS,J]at aU ⊢;exact aU)];exact vU _ _ _ _ this
  rw[ck,nD]
 refine ⟨⟨fn,aL,nB,by rw[J];rfl⟩,?_⟩;intro φ ι w aO eh e9 fA fk;refine xc aL J ?_;have eB:aO.size=args.length:=by
  have: ∀(l:List K) (aO:List az),K.relT φ ι w l aO->aO.length=l.length:=by
   intro l
   induction l with
   |nil=>intro aO h;simp only[K.relT]at h;simp[h]
   |cons r l aQ=>intro aO h;obtain ⟨v,m,rfl,-,h⟩:=h;simp[aQ m h]
  simpa using this _ _ fA
 have dT:aO.size<=fn.ntmps:=by rw[eB,iH.1];exact gV nC
 rw[gR]at s;have lo:=abg (fn:=fn) eh fA fk dT h6 eB;have jC:gM F.m H:=by rw[fb,<-iH.2];exact λo W=>e9 o W
 refine nJ tab c1 hm (bX fn) 0 _ L gI φ ι w _ _ s dO ow (eN _ aed) (iD.fnD aed) lo jC λbn ao av aH cR sp bS=> ?_
 have lj:=bS.live jC;obtain ⟨dy,fg,bb,aU,ck,ep,hz⟩:=lH t1 cR lj;have key:LeavesInM (eX none) 0 P fn bn.tmps (λe ao=> ∃v av aH,e=.returned v/\cc av aH ao (Z.enc z).heap/\Step φ ι w H av aH ao (Z.enc z).heap/\ej ι H aH (Z.enc z).heap/\(kf (Z.enc z).regs).rel av aH ao v/\ ∀i∈(kf (Z.enc z).regs).ids,(aE (Z.enc z).heap i).live=true) bn.defers .returning ao:=by
  refine aqv SG Qq hm mU QC Ra pn x2 ⟨rfl,rfl,rfl⟩ n s1 dy fg ao bn aR bb (ab1 t1) hz (ck.live lj) λx de ec ei ai bj bG dm cJ=> ?_
  subst ai;have mT:cn=ar.X.enc x:=by have:=congrArg Prod.snd he;exact this
  subst mT;have pE:=(sp.trans aU).trans dm;have m3:=(bS.trans ck).trans cJ;have Sa:=m3.live jC;obtain ⟨fU,fV,us,nN,IE,tv,avV⟩:=vW tab fn.results.toList 0 R (ar.X.enc x).heap _ bC mn j1 bj.heap bj.regs;have ko:R.length=us.length:=by have:=congrArg List.length tv;simpa [IE] using this
  have mj:us.toArray.size=fn.results.size:=by simpa using IE
  have kd:ds ec ei de ⟨us.toArray.size,0,[],none,false⟩ ⟨R,bC⟩ {tmps:=us.toArray,defers:=[]}:=by
   rw[fU];refine ⟨bj.heap,λI r al=> ?_,rfl,by rw[mj];exact ik,nW (Nat.zero_le _)⟩;obtain ⟨k,af,hk⟩:=m6 R 0 I r (by rw[tv];congr 1;omega) al;have gF:I=k:=by omega
   subst gF;obtain ⟨v,aZ,ji,gG⟩:=avV I (I,r) hk;have:us.toArray.getD I undef=v:=by simp[iX,aZ]
   have lL:I<us.length:=(iC.1 aZ).1;have ayR:us.length=us.toArray.size:=by simp
   rw[iK (by omega)];simp only[this];exact ⟨ji,gG⟩
  obtain ⟨mB,mA,dU,c6,fm,lS,qh⟩:=lH dN kd (by rw[fU];exact Sa);have hP:(Z.enc z).regs.length=us.toArray.size:=by have:=congrArg List.length kH;simp only[List.length_map,List.length_range']at this;rw[this,mj]
  have sV:(Z.enc z).regs.map (·.1)=List.range' 0 (Z.enc z).regs.length:=by rw[kH,hP,mj]
  obtain ⟨ah,aJ⟩:=uL (aO:=us.toArray) (R:=(Z.enc z).regs) sV hP (wS (a:={tmps:=us.toArray,defers:=[]}) sV (by rw[hP,mj];exact ik) dU.regs);have mi:=vX nN;refine ⟨_,mi,_,mB,mA,rfl,dU.heap,?_,?_,ah,aJ⟩
  ·rw[fU]at c6;exact pE.trans c6
  ·rw[fU]at fm;have iJ:=m3.trans fm;refine ⟨λo W=> ?_,λo W=> ?_⟩
   ·have bd:o<F.m:=by rw[fb,<-iH.2];exact gB W
    exact (iJ o bd W).1
   ·have bd:o<F.m:=by rw[fb,<-iH.2];exact gB W
    exact (iJ o bd W).2
 rcases O with rfl |rfl
 ·exact key
 ·exact key
theorem aqz [Env] {F Fd:bk} (tab:cQ P F.cx) (c1:ca P F.Γ) (hm:P.follows .mixedOrders=true) {cM:aV} {fn:Func} (aL:P.funcs[cM.f]? =some fn) (J:fn.body=some (bX fn)) (cy:Pp fn cM.S cM.Z=true) {m:List (Nat×Code)} (ab:et (bX fn) 0=m) (dO:oP P F fn.ntmps m)
  {ar:bL} {fd:FuncId} {hj:Func} {b:ar.S.ty.den->Option (ar.S.ty.den⊕ar.Out)} {g:ar.S.ty.den->Option ar.Out} (atW: ∀d,g d=b4 b d) (nG:F.Λ dE=ar.go g F.m) (SG:cQ P Fd.cx) (Qq:ca P Fd.Γ) (mU:P.funcs[fd]? =some hj) (QC:hj.body=some (bX hj)) (Ra:GR hj=true)
  (pn:et (bX hj) 0=[]) (x2:Fd.m=ar.S.objs.length) (p3: ∀d,(uF ar F.m Fd fd hj d).val=b d) (fb:F.m=cM.S.objs.length) (bu: ∀d,(GU F fn cM.S cM.Z d).val=cM.g d):cF P cM:=
 λargs H d z ae bI=>aro (ar:=ar) (g:=g) tab c1 hm aL J cy (uv ab dO) nG SG Qq mU QC Ra (by rw[pn];simp) x2 (λd o h=>by rw[atW]at h;obtain ⟨n,aR⟩:=NJ h;exact ⟨n,by rw[show (λd=>(uF ar F.m Fd fd hj d).val)=b from funext p3];exact aR⟩) fb ae ((bu d).trans bI)
end
open Go.RowKit
def sn (P:cq):DataW (List UInt8)->Option Nat->Bool
 | .nil,none=>true
 | .held (b::r),some f=>decide (((List.range P.funcs.size).filter λf=>(P.funcs[f]?).any (·.name.toUTF8.data.toList==b::r))=[f])
 |_,_=>false
def xa (P:cq):List (DataW (List UInt8))->List (Option Nat)->Bool
 |[],[]=>true
 |I::e6,o::os=>sn P I o&&xa P e6 os
 |_,_=>false
theorem aaG {P:cq}: ∀(e6:List (DataW (List UInt8))) (os:List (Option Nat)),xa P e6 os=true-> ∀(i:Nat) (o:Option Nat),os[i]? =some o-> ∃I,e6[i]? =some I/\sn P I o=true
 |[],[],_,i,o,h=>by simp at h
 |[],_::_,h,_,_,_=>by simp[xa]at h
 |_::_,[],h,_,_,_=>by simp[xa]at h
 |I::e6,o::os,h,i,dQ,u=>by
  simp only[xa,bN]at h;cases i with
  |zero=>
   simp only[List.getElem?_cons_zero,bH]at u;subst u;exact ⟨I,rfl,h.1⟩
  |succ i=>simpa using aaG e6 os h.2 i dQ (by simpa using u)
theorem arN {P:cq} {w:bh} {base:Nat} {sp:Nat->Bool} {fuel:Nat} {e:bm} {ps rs:Array bm} {my:Bool} {v:az} {q:List MemPlace} {I:DataW (List UInt8)} {o:Option Nat}
  (aT:P.underlying e=some (.func ps rs my)) (aS:sn P I o=true) (h:DataW.trod (funcToken P) P w base sp true fuel e [v]=some (I,q)):v=mQ o:=by
 cases I with
 |nil=>
  cases o with
  |some f=>simp[sn]at aS
  |none=>
   cases fuel with
   |zero=>simp[DataW.trod]at h
   |succ n=>cases v<;>simp[DataW.trod,aT]at h<;>rfl
 |held k=>
  cases k with
  |nil=>cases o<;>simp[sn]at aS
  |cons b r=>
   cases o with
   |none=>simp[sn]at aS
   |some f=>
    simp only[sn,dJ]at aS;exact func_of_trod aT aS h
 |_=>cases o<;>simp[sn]at aS
theorem ars {P:cq} {w:bh} {n:String} {I:DataW Unit} (h:funcsAt P w n I) {g t e:Nat} {ct:List (Option Nat)} {ps rs:Array bm} {my:Bool} {e6:List (DataW (List UInt8))} (al:I.funcsOut=.agg e6) (bu:P.globalNamed n=some g) (aT:(P.globals[g]?).map (·.type)=some t)
  (hu:P.underlying t=some (.array ct.length e)) (CJ:P.underlying e=some (.func ps rs my)) (aw:P.cellsOf e=1) (aS:xa P e6 ct=true):kv (Told w) w g 0 (ct.map mQ):=by
 obtain ⟨P2,iB,cs,fuel,p,atU,Rs,aZ,au⟩:=h;obtain rfl:=eW (bu.symm.trans atU);obtain rfl:=eW (aT.symm.trans Rs);rw[al]at au;obtain ⟨xs,m,_,ai,p4,hlen,gw⟩:=DataW.trod_array hu au;simp only[cV,DataW.agg.injEq]at ai;obtain ⟨QJ,-⟩:=ai;intro i v u;rw[List.getElem?_map]at u;obtain ⟨o,W,rfl⟩:=h7.1 u;obtain ⟨ayj,adO,att⟩:=aaG e6 ct aS i o W;have bd:i<ct.length:=(iC.1 W).1;have iT:=gw i bd;rw[aw,Nat.mul_one]at iT;rw[QJ,List.getElem?_map]at adO;obtain ⟨y,bo,rfl⟩:=h7.1 adO;rw[bo]at iT;have fT:=World.var?_cell bu aZ i;have key: ∃ad,cs[i]? =some ad/\(cs.toList.drop i).take 1=[ad]:=by
  cases hu:cs[i]? with
  |some ad=>
   have s:cs.toList[i]? =some ad:=by simpa using hu
   refine ⟨ad,rfl,?_⟩;obtain ⟨E,O⟩:=iC.1 s;rw[lu E,O];rfl
  |none=>
   have s:cs.toList.length<=i:=by simpa using hu
   rw[List.drop_of_length_le s]at iT;cases m with
   |zero=>simp[DataW.trod]at iT
   |succ m=>simp[DataW.trod,CJ]at iT
 obtain ⟨ad,au1,au2⟩:=key;rw[au2]at iT;have:=arN CJ att (I:=y.1) (q:=y.2) iT;rw[au1,this]at fT;rw[Nat.zero_add];exact ⟨⟨_,fT⟩,fT⟩
open Go.RowKit Go.Shelf
def AI (d:List UInt8×List UInt8×Unit):Option (List UInt8×Unit):=
 bif Nat.blt d.1.length 4294967281&&Nat.blt d.2.1.length 4294967281&&d.2.1.all (λb=>Nat.blt b.toNat 128) then some (Lib.trimS d.1 d.2.1,()) else none
section
variable {P:cq}
theorem ah7 [Env] {ρ:Ren} (ar:Go.Proofs.Lays.n160 P ρ) (HK:(P.info? (ρ.t 116)).map (λi=>(i.zero,i.size))=some (some (.agg (Array.replicate 256 (.bool false))),256)) {fn:Func} (aL:P.funcs[ρ.f 160]? =some fn) (cy:(!(fn.name== "runtime.NumGoroutine")&& !fn.body.isNone)=true):
  cF P ⟨ρ.f 160,⟨[(0,.dat .str),(1,.dat .str)],[]⟩,⟨[(0,.dat .str)],[]⟩,AI⟩:=by
 intro args H d z ae bI;have gR:=Shape.dec_enc ae;obtain ⟨a,b,ad⟩:=d;have bI:AI (a,b,ad)=some z:=bI;unfold AI at bI;simp only at bI;cases aw:Nat.blt a.length 4294967281&&Nat.blt b.length 4294967281&&b.all (λb=>Nat.blt b.toNat 128)
 ·rw[aw]at bI;cases bI
 rw[aw,ak]at bI;obtain rfl:=eW bI;simp only[bN]at aw;obtain ⟨⟨aX,e5⟩,c5⟩:=aw;have aX:=gV aX;have e5:=gV e5;have iT:(Shape.enc ⟨[(0,.dat .str),(1,.dat .str)],[]⟩ (a,b,ad))=⟨[(0,.dat .str a),(1,.dat .str b)],[]⟩:=rfl;have gR:=iT.symm.trans gR;injection gR with s E
 obtain rfl:args=[.dat .str a,.dat .str b]:=(wX 0 [.dat .str a,.dat .str b] args s).symm;subst E;simp only[bN,eJ]at cy;refine ⟨⟨fn,aL,cy.1,cy.2⟩,fun φ ι w aO eh e9 fA fk=> ?_⟩;obtain ⟨v1,dU,L,ah,v2,c6,aa,aJ,hm⟩:=fA;simp only[K.relT]at hm;subst hm aa;have gC:v1=.string ⟨⟨a⟩⟩:=cA.str.1 ah;have mO:v2=.string ⟨⟨b⟩⟩:=cA.str.1 aJ;subst gC mO;obtain rfl:aO= #[.string ⟨⟨a⟩⟩,.string ⟨⟨b⟩⟩]:=by cases aO;simp at L;simp[L]
 have dT: ∀l:List UInt8,(⟨⟨l⟩⟩:ByteArray).size=l.length:=λ_=>rfl
 refine (Go.Proofs.Any.strings_Trim_laid ar HK ⟨⟨a⟩⟩ ⟨⟨b⟩⟩ w (by rw[dT];omega) (by rw[dT];omega) (λj x ai=> ?_)).mono ?_
 ·have ai:b[j]? =some x:=ai;have:=fy.1 c5 x (List.mem_of_getElem? ai);exact gV this
 ·rintro e ao ⟨rfl,J⟩;obtain ⟨bb,aU⟩:=eh.below J;exact ⟨_,φ,ι,rfl,bb,aU,ej.refl _ _,h3 (cA.str.2 rfl),λi u=>absurd (show i∈([]:List Nat) from u) (by simp)⟩
end
end Go.X
