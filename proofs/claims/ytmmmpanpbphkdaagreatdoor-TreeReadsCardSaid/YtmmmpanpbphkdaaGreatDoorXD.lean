import Derived.Test.YtmmmpanpbphkdaaGreatDoorXC
import Derived.Lib.Overlaps
import Derived.Shelf.Strings.IndexAnyAll
import Derived.LaidHandle
import Derived.LaidMore
import Derived.OpenShut
import Derived.Shelf.Strings.SlTrimAscii
set_option linter.unusedVariables false
set_option linter.unusedSimpArgs false
namespace Go.X
open Go.RowKit
def Gg (t:aD):List ae->List aG->DT (ae×List aG)
 |[.own u o,.view v p lo ab],H=>match aF H o,aF H p with
  | .arr _ a _ false,.arr _ b _ false=>bif decide (u=t)&&decide (v=t)&&decide (a=t)&&decide (b=t)&& !Nat.beq o p then .leaf (.dat .bool false,H) else .fail
  |_,_=>.fail
 |_,_=>.fail
section
variable {P:Program}
theorem SQ {w:World} {Bp auZ e:TypeId} (aU:P.underlying Bp=some (.slice e)) {size:Nat} (bA: ∀w,(Go.sizeOf e).run P w=.ok size w) {a b:Option Addr} {h8 EG AL hB:Nat} (h:a=none\/b=none\/h8=0\/AL=0):
  (Extern.SlicesOverlaps.overlaps #[Bp,Bp] #[auZ] #[.slice a h8 EG,.slice b AL hB]).run P w=.ok (.bool false) w:=by
 change Sem.run P (α:=Value) (do
  let some t:=(#[Bp,Bp]:Array TypeId)[0]? |stuck "slices.overlaps: no parameter types"
  let .slice elem<-underlying t |stuck "slices.overlaps: slice type expected"
  let size<-sizeOf elem
  match (a:Option Addr),(b:Option Addr) with
  |some a,some b=>
   if h8=0\/AL=0\/size=0 then pure (Value.bool false)
   else if a.block != b.block&&(<-frozen a)&&(<-frozen b) then unsupported .addressObserved
   else do
    if a.block != b.block then do
     noView a;noView b
     if<-mayBeOne a b then return Value.bool ((<-choose (.extern "sameAddr.stringBytes" 2))==1)
    pure (Value.bool (a.block==b.block&&a.off<b.off+AL*size&&b.off<a.off+h8*size))
  |_,_=>pure (Value.bool false)) w=_
 cases a with
 |none=>cases b<;>simp[run_underlying aU,bA]
 |some a=>
  cases b with
  |none=>simp[run_underlying aU,bA]
  |some b=>
   have bY:h8=0\/AL=0\/size=0:=by
    rcases h with h |h |h |h
    ·cases h
    ·cases h
    ·exact .inl h
    ·exact .inr (.inl h)
   simp[run_underlying aU,bA,bY]
theorem agx [Env] {f:FuncId} (Ot:hS f=false) {fn:Func} {T T2 e:TypeId} {t:aD} {bytes:Nat} (tc:t≠ .int .u8) (aK:P.funcs[f]? =some fn) (Oa:(fn.name== "runtime.NumGoroutine")=false) (ag:fn.body.isNone=true) (aQ:Extern.findNext fn=none)
  (he:Extern.find fn=some (Extern.SlicesOverlaps.overlaps #[T,T] #[T2])) (ax:P.underlying T=some (.slice e)) (fj:qK P e t bytes) (args:List ae) (H:List aG) (r:ae) (aC:List aG) (h:(Gg t args H).val=some (r,aC)):uc P f args H r aC:=by
 unfold Gg at h;split at h
 case h_2=>simp[DT.val]at h
 rename_i u o v p lo ab;split at h
 case h_2=>simp[DT.val]at h
 rename_i ai a xs aq b aT an aP;cases aB:decide (u=t)&&decide (v=t)&&decide (a=t)&&decide (b=t)&& !Nat.beq o p
 ·rw[aB]at h;simp[DT.val]at h
 rw[aB,az]at h;simp only[DT.val,bt,cw]at h;obtain ⟨rfl,rfl⟩:=h;simp only[bB,dd,Bool.not_eq_true']at aB;obtain ⟨⟨⟨⟨hu,aX⟩,aR⟩,dB⟩,cp⟩:=aB;subst hu aX;subst aR;subst dB;have cp:o≠p:=by rintro rfl;simp at cp
 intro φ ι w vs dy ej eH eu;obtain ⟨v1,cZ,bj,au,v2,cr,bU,aL,hm⟩:=eH;simp only[ae.relT]at hm;subst hm bU;obtain rfl:vs= #[v1,v2]:=by cases vs;simp at bj;simp[bj]
 have aa:=dy.obj o;have ad:=dy.obj p;rw[an]at aa;rw[aP]at ad;obtain ⟨A,n,c,eo,a2,a3,a4,a5⟩:=aa;obtain ⟨B,m,d,b1,b2,b3,gL,gX⟩:=ad;obtain ⟨rfl,-⟩:=au;obtain ⟨avS,pI,o8,afM,a7,aY,c3,fe,rfl,o6,qA⟩:=aL;rw[b1]at a7;obtain ⟨rfl,rfl,rfl⟩:=hj a7;have bA:=fun w=>wD (P:=P) fj w
 have dU:(Extern.SlicesOverlaps.overlaps #[T,T] #[T2] #[ι o,.slice afM (ab-lo) (d-lo)]).run P w=.ok (.bool false) w:=by
  rw[eo];by_cases asm:n=0
  ·exact SQ ax bA (.inr (.inr (.inl asm)))
  by_cases Fv:ab-lo=0
  ·exact SQ ax bA (.inr (.inr (.inr Fv)))
  rcases a5 with a5 |⟨k,pre,cur,fr,rfl,g1,g2,g3,g0,g4,g5,g6,g7⟩
  ·omega
  rcases gX with gX |⟨k2,pre2,aa0,av9,rfl,a1,b8,dD,bk,gb,ho,wc,awI⟩
  ·omega
  have cM:=o6 (by omega);subst cM;have di:0<b.size:=by
   obtain ⟨cW,z,_,_,_,_,_,g6,_⟩:=fj;exact g6
  have gq:k≠k2:=by
   rintro rfl;exact cp (dy.apart o p k (by rw[an];rfl) (by rw[aP];rfl) (by rw[eo];simp[c6];omega) (by rw[b1];simp[c6];omega))
  have lU:0<cur.size:=by rw[g2];exact Nat.mul_pos (by omega) di
  have awk:0<aa0.size:=by rw[b8];exact Nat.mul_pos (by omega) di
  have vJ:=g3.last.resolve_left tc;have:=Lib.run_overlaps_apart w T T2 e ax b.size bA ⟨k,pre.size,none⟩ ⟨k2,pre2.size+lo*b.size,none⟩ n c (ab-lo) (d-lo) gq ai aq (pre.size+cur.size) (pre2.size+aa0.size)
   (by simp[World.shape?,g1]) (by simp[World.shape?,a1]) (by omega)
   (by
    have bY:=g3.ok pre.size (by omega);simp only[World.frozen?,g1];simpa using bY)
   (by
    simp only[World.frozen?,g1];simpa using vJ)
  simpa [ga] using this
 refine (iq.call Ot).2 (.inr ⟨.bool false,w,?_,.bool false,φ,ι,rfl,dy,Step.refl _ _ _ _,dA.refl _ _,gC (cf.bool.2 rfl),by simp[ae.ids]⟩);rw[run_callFunc_extern aK Oa ag aQ he,dU];rfl
theorem ahK [Env] {cx:bS} (tab:cA P cx) {f:FuncId} (Ot:hS f=false) {fn:Func} {T T2:TypeId} {t:aD} (b4:cx.isTy T (.list t)=true) (tc:decide (t=.int .u8)=false) (aK:P.funcs[f]? =some fn) (Oa:(fn.name== "runtime.NumGoroutine")=false) (ag:fn.body.isNone=true) (aQ:Extern.findNext fn=none)
  (he:Extern.find fn=some (Extern.SlicesOverlaps.overlaps #[T,T] #[T2])) (args:List ae) (H:List aG) (r:ae) (aC:List aG) (h:(Gg t args H).val=some (r,aC)):uc P f args H r aC:=by
 obtain ⟨i,ab,aU⟩:=gk b4;obtain ⟨ax,fj⟩:=jj tab ab aU;exact agx Ot (of_decide_eq_false tc) aK Oa ag aQ he ax fj args H r aC h
end
open Go.RowKit
def Et [Env] (F:a8) (fn:Func) (Z:Shape) (args:List ae) (H:List aG):DT Z.ty.den:=
 (e1 F (bJ fn) 0 ⟨eW 0 args,H⟩).bind fun q=>match q.1 with
  | .exit _=>.fail
  |_=>((kn F.cx q.2.regs 0 fn.results.toList).run q.2.heap q.2.heap.length .none).bind fun p=>Z.take F.m ⟨p.1,p.2.1⟩
section
variable {P:Program} {H:List aG}
theorem Yo [Env] {F:a8} (tab:cA P F.cx) (cE:bL P F.Γ) (hm:P.follows .mixedOrders=true) {f:FuncId} {fn:Func} {Z:Shape} (aK:P.funcs[f]? =some fn) (ag:fn.body=some (bJ fn)) (cF:(fW fn.ntmps (bJ fn)&& !(fn.name== "runtime.NumGoroutine")&& !eb (bJ fn)&& !fh (bJ fn)&&Nat.ble fn.ntmps c1&&Nat.ble fn.results.size c1)=true) (ao:dF (bJ fn) 0=[])
  (lZ:Z.regs.map (·.1)=List.range' 0 fn.results.size) {args:List ae} (ec:args.length<=fn.ntmps) (ek:F.m=H.length) {z:Z.ty.den} (e:(Et F fn Z args H).val=some z):iL P f args H (iK (Z.enc z).regs) (Z.enc z).heap:=by
 simp only[bB,Bool.not_eq_true']at cF;obtain ⟨⟨⟨⟨⟨mH,lX⟩,lY⟩,ik⟩,gF⟩,gR⟩:=cF;have gF:=Nat.le_of_ble_eq_true gF;have gR:=Nat.le_of_ble_eq_true gR;unfold Et at e;obtain ⟨⟨ai,b9⟩,aa,ad⟩:=DT.val_bind_some e;have al:ai=.nrm\/ai=.ret:=by
  cases ai with
  |nrm=>exact .inl rfl
  |ret=>exact .inr rfl
  |exit i=>simp[DT.val]at ad
 have aE:(((kn F.cx b9.regs 0 fn.results.toList).run b9.heap b9.heap.length .none).bind fun p=>Z.take F.m ⟨p.1,p.2.1⟩).val=some z:=by
  rcases al with rfl |rfl<;>exact ad
 obtain ⟨⟨R,aZ,kR,ry⟩,bu,dq⟩:=DT.val_bind_some aE;have ix:=HM.go_run _ _ _ _ _ _ _ _ bu;have jn:(Z.enc z).regs.map (·.1)=List.range' 0 fn.results.size:=by
  obtain ⟨⟨aW,bC,wJ,pp⟩,a1,k2⟩:=DT.val_bind_some dq;simp only[DT.val_ofOpt]at k2;have b8:(Z.enc z).regs.map (·.1)=Z.regs.map (·.1):=by
   unfold Shape.dec at k2;cases aR:hD Z.regs aW.regs with
   |none=>simp[aR]at k2
   |some x=>
    cases ag:eX Z.objs aW.heap with
    |none=>simp[aR,ag]at k2
    |some y=>
     have:=pL _ _ x [] aR;rw[Shape.dec_enc (st:=aW) (by simp only[Shape.dec,aR,ag]at k2 ⊢;exact k2)];exact tD _ _ _ _ this
  rw[b8,lZ]
 refine ⟨⟨fn,aK,lX,by rw[ag];rfl⟩,?_⟩;intro φ ι w vs dy ej eH eu;refine u1 aK ag ?_;have dK:vs.size=args.length:=by
  have: ∀(l:List ae) (vs:List Value),ae.relT φ ι w l vs->vs.length=l.length:=by
   intro l
   induction l with
   |nil=>intro vs h;simp only[ae.relT]at h;simp[h]
   |cons r l aO=>intro vs h;obtain ⟨v,m,rfl,-,h⟩:=h;simp[aO m h]
  simpa using this _ _ eH
 have di:vs.size<=fn.ntmps:=by rw[dK];exact ec
 have jY:cO φ ι w ⟨fn.ntmps,w.heap.size,[],none,false⟩ ⟨eW 0 args,H⟩ {tmps:=vs++Array.replicate (fn.ntmps-vs.size) undef,defers:=[]}:=by
  refine ⟨dy,fun d r ax=> ?_,by simp;omega,gF,mf (Nat.le_refl _)⟩;obtain ⟨a1,k2,b8⟩:=mD args 0;obtain ⟨k,av,gq⟩:=lA _ 0 d r (by rw[a1,k2]) ax;have fF:d=k:=by omega
  subst fF;have bo:=b8 d (d,r) gq;simp only at bo;obtain ⟨v,aX,hO⟩:=rU eH bo;have ee:vs[d]? =some v:=by simpa using aX
  have kc:d<vs.size:=(Array.getElem?_eq_some_iff.1 ee).1;have:(vs++Array.replicate (fn.ntmps-vs.size) undef).getD d undef=v:=by
   rw[Array.getD_eq_getD_getElem?,Array.getElem?_append_left kc,ee];rfl
  rw[hp (by omega),this];exact ⟨hO,fun i ab=>eu i (rX bo i ab)⟩
 have h9:fC F.m H:=by rw[ek];exact fun o an=>ej o an
 refine l5 tab cE hm (bJ fn) 0 _ ai b9 φ ι w _ _ aa (by rw[ao];simp) mH (dQ _ lY) (hf.fn ik) jY h9 fun bd w' φ' ι' cu sp bG=> ?_
 refine BR al cu sp fun w' cu sp=> ?_
 have jU:=bG.live h9;obtain ⟨bj,bU,us,da,c8,fk,gv⟩:=tN tab fn.results.toList 0 R b9.heap _ aZ kR ix cu.heap cu.regs;have kF:R.length=us.length:=by
  have:=congrArg List.length fk;simpa [c8] using this
 have iH:cO φ' ι' w' ⟨us.toArray.size,0,[],none,false⟩ ⟨R,aZ⟩ {tmps:=us.toArray,defers:=[]}:=by
  rw[bj];refine ⟨cu.heap,fun d r ax=> ?_,rfl,by rw[List.size_toArray,c8];simpa using gR,mf (Nat.zero_le _)⟩;obtain ⟨k,av,gq⟩:=lA R 0 d r (by rw[fk];congr 1;omega) ax;have fF:d=k:=by omega
  subst fF;obtain ⟨v,aX,hO,ft⟩:=gv d (d,r) gq;have:us.toArray.getD d undef=v:=by simp[Array.getD_eq_getD_getElem?,aX]
  have kc:d<us.length:=(List.getElem?_eq_some_iff.1 aX).1;have Oj:fn.results.toList.length=fn.results.size:=by simp
  rw[hp (by omega)];simp only[this];exact ⟨hO,ft⟩
 obtain ⟨dv,dz,cZ,cr,ey,ki,oj⟩:=j9 dq iH (by rw[bj];exact jU);have gm:(Z.enc z).regs.length=us.toArray.size:=by
  have:=congrArg List.length jn;simp only[List.length_map,List.length_range']at this;rw[this];simp[c8]
 obtain ⟨au,aL⟩:=so (vs:=us.toArray) (R:=(Z.enc z).regs) (by rw[jn];congr 1;simpa [c8] using gm.symm) gm (uF (a:={tmps:=us.toArray,defers:=[]}) (by rw[jn];congr 1;simpa [c8] using gm.symm) (by rw[gm,List.size_toArray,c8];simpa using gR) cZ.regs);have kN:=tP da;refine ⟨_,kN,_,dv,dz,rfl,cZ.heap,?_,?_,au,aL⟩
 ·rw[bj]at cr;exact sp.trans cr
 ·rw[bj]at ey;have hr:=bG.trans ey;refine ⟨fun o an=> ?_,fun o an=> ?_⟩
  ·exact (hr o (by rw[ek];exact fo an) an).1
  ·exact (hr o (by rw[ek];exact fo an) an).2
end
def Ik {α:Type} (bytes:Nat) (z0:α) (i:Int) (xs aT:List α):Option (List α×List α×Unit):=
 bif (decide ((0:Int)<=i)&&decide ((i:Int)<=(List.length xs:Int))&&decide (((List.length xs:Int):Int)<=(List.length xs:Int))) then
  let t0:List α:=(List.drop (Int.toNat i) (List.take (Int.toNat (List.length xs:Int)) xs))
  let t1:Bool:=(decide ((((List.length aT):Int):Int)=(0:Int)))
  bif t1 then
   none
  else
   let t2:Bool:=(decide ((i:Int)=((List.length xs):Int)))
   bif t2 then
    bif (decide (0<List.length aT)&&decide ((List.length xs+List.length aT)*bytes<=bm)) then
     some (aT,(xs++aT),())
    else
     none
   else
    let t3:Int:=(IntKind.i64.wrap (((List.length xs):Int)+((List.length aT):Int)))
    let t4:Bool:=(decide ((t3:Int)>(List.length xs:Int)))
    bif t4 then
     bif (decide ((0:Int)<=i)&&decide ((i:Int)<=(List.length xs:Int))) then
      let t5:Int:=(IntKind.i64.wrap (((List.length xs):Int)+((List.length aT):Int)))
      bif (decide ((0:Int)<(IntKind.i64.wrap (t5-i)))&&decide (((List.length xs):Int)<(List.length (List.take (Int.toNat i) xs):Int)+(IntKind.i64.wrap (t5-i)))&&decide (((List.length (List.take (Int.toNat i) xs):Int)+(IntKind.i64.wrap (t5-i)))*(bytes:Int)<=(bm:Int))) then
       let t6:List α:=((List.take (Int.toNat i) xs)++List.replicate (Int.toNat (IntKind.i64.wrap (t5-i))) z0)
       bif (decide ((0:Int)<=i)&&decide ((i:Int)<=(List.length t6:Int))&&decide (((List.length t6:Int):Int)<=(List.length t6:Int))) then
        let t7:List α:=(List.take ((Int.toNat (List.length t6:Int))-(Int.toNat i)) aT)
        let t8:List α:=(List.take (Int.toNat i) t6++t7++List.drop ((Int.toNat i)+List.length t7) t6)
        let t9:Int:=(IntKind.i64.wrap (i+((List.length aT):Int)))
        bif (decide ((0:Int)<=t9)&&decide ((t9:Int)<=(List.length t8:Int))&&decide (((List.length t8:Int):Int)<=(List.length t8:Int))) then
         bif (decide ((0:Int)<=i)&&decide ((i:Int)<=(List.length xs:Int))&&decide (((List.length xs:Int):Int)<=(List.length xs:Int))) then
          let t10:List α:=(List.drop (Int.toNat i) (List.take (Int.toNat (List.length xs:Int)) xs))
          let t11:List α:=(List.take ((Int.toNat (List.length t8:Int))-(Int.toNat t9)) t10)
          let t12:List α:=(List.take (Int.toNat t9) t8++t11++List.drop ((Int.toNat t9)+List.length t11) t8)
          some (aT,t12,())
         else
          none
        else
         none
       else
        none
      else
       none
     else
      none
    else
     let t5:Int:=(IntKind.i64.wrap (((List.length xs):Int)+((List.length aT):Int)))
     bif (decide ((0:Int)<=t5)&&decide ((t5:Int)<=(List.length xs:Int))) then
      let t6:Int:=(IntKind.i64.wrap (i+((List.length aT):Int)))
      bif (decide ((0:Int)<=t6)&&decide ((t6:Int)<=(List.length (List.take (Int.toNat t5) xs):Int))&&decide (((List.length (List.take (Int.toNat t5) xs):Int):Int)<=(List.length (List.take (Int.toNat t5) xs):Int))) then
       let t7:List α:=(List.drop (Int.toNat t6) (List.take (Int.toNat (List.length (List.take (Int.toNat t5) xs):Int)) (List.take (Int.toNat t5) xs)))
       none
      else
       none
     else
      none
 else
  none
def Il {α:Type} (bytes:Nat) (i:Int) (xs:List α) (z:α) (aT:List α):Option (List α×List α×Unit):=
 bif (decide ((0:Int)<=i)&&decide ((i:Int)<=(((List.length xs)-0:Nat):Int))&&decide (((((List.length xs)-0:Nat):Int):Int)<=((List.length (xs++[z])-0:Nat):Int))) then
  let t0:Bool:=(decide ((((List.length aT):Int):Int)=(0:Int)))
  bif t0 then
   some (aT,(List.take (List.length xs) (xs++[z])),())
  else
   let t1:Bool:=(decide ((i:Int)=(((List.length xs)-0:Nat):Int)))
   bif t1 then
    bif (decide ((List.length (List.take (List.length xs) (xs++[z]))+List.length aT)*bytes<=bm)) then
     let t2:List α:=(List.take (List.length xs) (xs++[z])++aT)
     some (aT,t2,())
    else
     none
   else
    let t2:Int:=(IntKind.i64.wrap ((((List.length xs)-0:Nat):Int)+((List.length aT):Int)))
    bif (decide ((t2:Int)<=((List.length (xs++[z])-0:Nat):Int))) then
     let t3:Int:=(IntKind.i64.wrap ((((List.length xs)-0:Nat):Int)+((List.length aT):Int)))
     bif (decide (((0:Int):Int)<=t3)&&decide ((t3:Int)<=((List.length (xs++[z])-0:Nat):Int))) then
      let t4:Int:=(IntKind.i64.wrap (i+((List.length aT):Int)))
      bif (decide ((0:Int)<=t4)&&decide ((t4:Int)<=(((0+(Int.toNat t3))-0:Nat):Int))&&decide (((((0+(Int.toNat t3))-0:Nat):Int):Int)<=((List.length (xs++[z])-0:Nat):Int))) then
       let t5:Int:=(IntKind.i64.wrap (i+((List.length aT):Int)))
       bif (decide ((0:Int)<=t5)&&decide ((t5:Int)<=(((0+(Int.toNat t3))-0:Nat):Int))&&decide (((((0+(Int.toNat t3))-0:Nat):Int):Int)<=((List.length (xs++[z])-0:Nat):Int))) then
        bif (decide ((0:Int)<=i)&&decide ((i:Int)<=(((0+(Int.toNat t3))-0:Nat):Int))&&decide (((((0+(Int.toNat t3))-0:Nat):Int):Int)<=((List.length (xs++[z])-0:Nat):Int))) then
         let t6:List α:=(List.drop (0+(Int.toNat i)) (List.take (0+(Int.toNat (((0+(Int.toNat t3))-0:Nat):Int))) (xs++[z])))
         let t7:List α:=(List.take ((0+(Int.toNat (((0+(Int.toNat t3))-0:Nat):Int)))-(0+(Int.toNat t5))) t6)
         let t8:List α:=(List.take (0+(Int.toNat t5)) (xs++[z])++t7++List.drop ((0+(Int.toNat t5))+List.length t7) (xs++[z]))
         bif (decide ((0:Int)<=i)&&decide ((i:Int)<=(((0+(Int.toNat t3))-0:Nat):Int))&&decide (((((0+(Int.toNat t3))-0:Nat):Int):Int)<=((List.length t8-0:Nat):Int))) then
          let t9:List α:=(List.take ((0+(Int.toNat (((0+(Int.toNat t3))-0:Nat):Int)))-(0+(Int.toNat i))) aT)
          let t10:List α:=(List.take (0+(Int.toNat i)) t8++t9++List.drop ((0+(Int.toNat i))+List.length t9) t8)
          some (aT,(List.take (0+(Int.toNat t3)) t10),())
         else
          none
        else
         none
       else
        none
      else
       none
     else
      none
    else
     none
 else
  none
theorem yZ {x:Int} (h: -9223372036854775808<=x/\x<9223372036854775808):IntKind.i64.wrap x=x:=by
 rw[IntKind.wrap_i64];omega
theorem gu {p:Prop} [Decidable p] (h:p):decide p=true:=decide_eq_true h
theorem Er {p:Prop} [Decidable p] (h: ¬p):decide p=false:=decide_eq_false h
theorem apm {α:Type} {bytes:Nat} {z0:α} {k:Nat} {xs:List α} {y:α} (aa:k<=xs.length) (al:xs.length+1<1000000000000000000) (aE:(xs.length+1)*bytes<=bm):
  Ik bytes z0 (k:Int) xs [y]=some ([y],xs.take k++[y]++xs.drop k,()):=by
 have cV:IntKind.i64.wrap ((xs.length:Int)+(([y].length:Nat):Int))=((xs.length+1:Nat):Int):=by rw[yZ (by simp;omega)];simp
 have c9:IntKind.i64.wrap (((xs.length+1:Nat):Int)-(k:Int))=((xs.length+1-k:Nat):Int):=by rw[yZ (by omega)];omega
 have fy:IntKind.i64.wrap ((k:Int)+(([y].length:Nat):Int))=((k+1:Nat):Int):=by rw[yZ (by simp;omega)];simp
 unfold Ik;simp only[cV,c9,fy,bQ];have a7:decide ((0:Int)<=(k:Int))=true:=gu (by omega);have aY:decide ((k:Int)<=(xs.length:Int))=true:=gu (by omega);have c3:decide ((xs.length:Int)<=(xs.length:Int))=true:=gu (by omega);have fe:decide ((([y].length:Nat):Int)=0)=false:=Er (by simp);simp only[a7,aY,c3,fe,b7,az,aM];by_cases av:k=xs.length
 ·subst av;have c5:decide (((xs.length:Nat):Int)=(xs.length:Int))=true:=gu rfl;have o6:decide (0<[y].length)=true:=gu (by simp);have qA:decide ((xs.length+[y].length)*bytes<=bm)=true:=gu (by simpa using aE);simp only[c5,o6,qA,az,b7];simp
 ·have bb:k<xs.length:=by omega
  have c5:decide ((k:Int)=(xs.length:Int))=false:=Er (by omega);have o6:decide (((xs.length+1:Nat):Int)>(xs.length:Int))=true:=gu (by omega);have lt:(List.take k xs).length=k:=by rw[List.length_take];omega
  have qA:decide ((0:Int)<((xs.length+1-k:Nat):Int))=true:=gu (by omega);have sN:decide ((xs.length:Int)<((List.take k xs).length:Int)+((xs.length+1-k:Nat):Int))=true:=gu (by rw[lt];omega);have Ms:decide ((((List.take k xs).length:Int)+((xs.length+1-k:Nat):Int))*(bytes:Int)<=(bm:Int))=true:=gu (by
   rw[lt];have:((k:Int)+((xs.length+1-k:Nat):Int))=((xs.length+1:Nat):Int):=by omega
   rw[this,<-Int.natCast_mul];exact Int.ofNat_le.2 aE)
  simp only[c5,o6,qA,sN,Ms,az,aM,b7];have FQ:(List.take k xs++List.replicate (xs.length+1-k) z0).length=xs.length+1:=by rw[List.length_append,lt,List.length_replicate];omega
  have d1:decide ((k:Int)<=((List.take k xs++List.replicate (xs.length+1-k) z0).length:Int))=true:=gu (by rw[FQ];omega);have d2:decide (((List.take k xs++List.replicate (xs.length+1-k) z0).length:Int)<=((List.take k xs++List.replicate (xs.length+1-k) z0).length:Int))=true:=gu (by omega);simp only[d1,d2,az,b7,bQ,FQ];have iP:List.take (xs.length+1-k) [y]=[y]:=List.take_of_length_le (by simp;omega);have ld:List.take k (List.take k xs++List.replicate (xs.length+1-k) z0)++[y]++List.drop (k+[y].length) (List.take k xs++List.replicate (xs.length+1-k) z0)=List.take k xs++[y]++List.replicate (xs.length-k) z0:=by
   rw[List.take_append_of_le_length (by omega),List.take_of_length_le (l:=List.take k xs) (by omega)];rw[List.drop_append,List.drop_of_length_le (l:=List.take k xs) (by simp;omega),List.nil_append,List.drop_replicate,lt];congr 2;simp;omega
  simp only[iP,ld];have we:(List.take k xs++[y]++List.replicate (xs.length-k) z0).length=xs.length+1:=by simp[lt];omega
  have d3:decide ((0:Int)<=((k+1:Nat):Int))=true:=gu (by omega);have d4:decide (((k+1:Nat):Int)<=((List.take k xs++[y]++List.replicate (xs.length-k) z0).length:Int))=true:=gu (by rw[we];omega);have d5:decide (((List.take k xs++[y]++List.replicate (xs.length-k) z0).length:Int)<=((List.take k xs++[y]++List.replicate (xs.length-k) z0).length:Int))=true:=gu (by omega);simp only[d3,d4,d5,az,b7,we,bQ];have My:List.drop k (List.take xs.length xs)=List.drop k xs:=by rw[List.take_length]
  have aqP:List.take (xs.length+1-(k+1)) (List.drop k xs)=List.drop k xs:=List.take_of_length_le (by simp);simp only[My,aqP];have aqQ:List.take (k+1) (List.take k xs++[y]++List.replicate (xs.length-k) z0)=List.take k xs++[y]:=by
   rw[List.take_append_of_le_length (by simp[lt]),List.take_of_length_le (by simp[lt])]
  have aqR:List.drop (k+1+(List.drop k xs).length) (List.take k xs++[y]++List.replicate (xs.length-k) z0)=[]:=List.drop_of_length_le (by rw[we];simp;omega);have d6:decide ((k:Int)<=((xs.length+1:Nat):Int))=true:=gu (by omega);have d7:decide (((k+1:Nat):Int)<=((xs.length+1:Nat):Int))=true:=gu (by omega);have d8:decide (((xs.length+1:Nat):Int)<=((xs.length+1:Nat):Int))=true:=gu (by omega);simp only[d6,d7,d8,az,b7,aqQ,aqR,List.append_nil]
theorem apn {α:Type} {bytes:Nat} {k:Nat} {xs:List α} {z y:α} (aa:k<=xs.length) (al:xs.length+1<1000000000000000000) (aE:(xs.length+1)*bytes<=bm):
  Il bytes (k:Int) xs z [y]=some ([y],xs.take k++[y]++xs.drop k,()):=by
 have PT:IntKind.i64.wrap ((xs.length:Int)+(([y].length:Nat):Int))=((xs.length+1:Nat):Int):=by rw[yZ (by simp;omega)];simp
 have fy:IntKind.i64.wrap ((k:Int)+(([y].length:Nat):Int))=((k+1:Nat):Int):=by rw[yZ (by simp;omega)];simp
 have eK:(xs++[z]).length=xs.length+1:=by simp
 unfold Il;simp only[Nat.sub_zero,Int.sub_zero,Nat.zero_add];simp only[PT,fy,bQ,eK,Nat.sub_zero,Int.sub_zero,Nat.zero_add];have a7:decide ((0:Int)<=(k:Int))=true:=gu (by omega);have aY:decide ((k:Int)<=(xs.length:Int))=true:=gu (by omega);have c3:decide ((xs.length:Int)<=((xs.length+1:Nat):Int))=true:=gu (by omega);have fe:decide ((([y].length:Nat):Int)=0)=false:=Er (by simp);simp only[a7,aY,c3,fe,b7,az,aM];have ava:List.take xs.length (xs++[z])=xs:=by simp
 by_cases av:k=xs.length
 ·subst av;have c5:decide (((xs.length:Nat):Int)=(xs.length:Int))=true:=gu rfl;have qA:decide ((xs.length+[y].length)*bytes<=bm)=true:=gu (by simpa using aE);simp only[c5,ava,qA,az,b7];simp
 ·have bb:k<xs.length:=by omega
  have c5:decide ((k:Int)=(xs.length:Int))=false:=Er (by omega);have o6:decide (((xs.length+1:Nat):Int)<=((xs.length+1:Nat):Int))=true:=gu (by omega);have qA:decide ((0:Int)<=((xs.length+1:Nat):Int))=true:=gu (by omega);have sN:decide ((0:Int)<=((k+1:Nat):Int))=true:=gu (by omega);have Ms:decide (((k+1:Nat):Int)<=((xs.length+1:Nat):Int))=true:=gu (by omega);have aqG:decide ((k:Int)<=((xs.length+1:Nat):Int))=true:=gu (by omega);simp only[c5,o6,qA,sN,Ms,aqG,az,aM,b7];have avb:List.take (xs.length+1) (xs++[z])=xs++[z]:=List.take_of_length_le (by simp);have c7:List.drop k (xs++[z])=List.drop k xs++[z]:=by rw[List.drop_append_of_le_length aa]
  have iP:List.take (xs.length+1-(k+1)) (List.drop k xs++[z])=List.drop k xs:=by
   rw[List.take_append_of_le_length (by simp),List.take_of_length_le (by simp)]
  simp only[avb,c7,iP];have we:(List.take (k+1) (xs++[z])++List.drop k xs++List.drop (k+1+(List.drop k xs).length) (xs++[z])).length=xs.length+1:=by
   simp;omega
  have av2:decide (((xs.length+1:Nat):Int)<=((List.take (k+1) (xs++[z])++List.drop k xs++List.drop (k+1+(List.drop k xs).length) (xs++[z])).length:Int))=true:=gu (by rw[we];omega);have o9:List.take (xs.length+1-k) [y]=[y]:=List.take_of_length_le (by simp;omega);simp only[we,o6,az,b7,o9];have b6:List.drop (k+1+(List.drop k xs).length) (xs++[z])=[]:=List.drop_of_length_le (by simp;omega);have au0:List.take (k+1) (xs++[z])=List.take (k+1) xs:=by rw[List.take_append_of_le_length (by omega)]
  have ad5:(List.take (k+1) xs).length=k+1:=by rw[List.length_take];omega
  rw[b6,List.append_nil,au0];have ai:List.take k (List.take (k+1) xs++List.drop k xs)=List.take k xs:=by
   rw[List.take_append_of_le_length (by omega),List.take_take];congr 1;omega
  have aq:List.drop (k+[y].length) (List.take (k+1) xs++List.drop k xs)=List.drop k xs:=by
   rw[List.drop_append,List.drop_of_length_le (by rw[ad5];simp),List.nil_append,ad5];simp
  rw[ai,aq];have bc:List.take (xs.length+1) (List.take k xs++[y]++List.drop k xs)=List.take k xs++[y]++List.drop k xs:=List.take_of_length_le (by simp;omega);rw[bc]
def y5 {α:Type} (bytes:Nat) (s:Int×List α×List α×Unit):Option (List α×List α×Unit):=
 bif decide (0<=s.1)&&decide (s.1<=(s.2.1.length:Int))&&decide (s.2.2.1.length=1)&&decide (s.2.1.length+1<1000000000000000000)&&decide ((s.2.1.length+1)*bytes<=bm) then some (s.2.2.1,s.2.1.take s.1.toNat++s.2.2.1++s.2.1.drop s.1.toNat,()) else none
def CQ (e:TypeId) (t:aD):Shape:=⟨[(0,.own t 0),(1,.dat (.int .i64)),(2,.own t 1)],[.arr e t false,.arr e t false]⟩
def sI (e:TypeId) (t:aD):Shape:=⟨[(0,.own t 2)],[.gone,.arr e t false,.arr e t false]⟩
theorem ap8 (e:TypeId) (t:aD) (i:Int) (xs aT:List t.den):(CQ e t).enc (i,xs,aT,())=⟨[(0,.own t 0),(1,.dat (.int .i64) i),(2,.own t 1)],[.arr e t xs false,.arr e t aT false]⟩:=by
 have h:(CQ e t).ty.parts (i,xs,aT,())=[⟨.int .i64,i⟩,⟨.list t,xs⟩,⟨.list t,aT⟩]:=rfl;unfold Shape.enc;rw[h];simp[CQ,oE,u2,b5.enc,dn.enc,kV,rR]
theorem ap9 (e:TypeId) (t:aD) (aT rs:List t.den):(sI e t).enc (aT,rs,())=⟨[(0,.own t 2)],[.gone,.arr e t aT false,.arr e t rs false]⟩:=by
 have h:(sI e t).ty.parts (aT,rs,())=[⟨.list t,aT⟩,⟨.list t,rs⟩]:=rfl;unfold Shape.enc;rw[h];simp[sI,oE,u2,b5.enc,dn.enc,kV,rR]
section
variable {P:Program}
theorem anR [Env] {f:FuncId} {e:TypeId} {t:aD} {k:Nat} {xs:List t.den} {y:t.den} (rs:List t.den) (tc:t≠ .int .u8) (pw:0<t.size)
  (vx:iL P f [.clip t xs,.dat (.int .i64) (k:Int),.own t 1] [.gone,.arr e t [y] false] (.own t 2) [.gone,.arr e t [y] false,.arr e t rs false])
  (zN: ∀z,iL P f [.view t 0 0 xs.length,.dat (.int .i64) (k:Int),.own t 1] [.arr e t (xs++[z]) false,.arr e t [y] false] (.own t 2) [.gone,.arr e t [y] false,.arr e t rs false]):
  iL P f [.own t 0,.dat (.int .i64) (k:Int),.own t 1] [.arr e t xs false,.arr e t [y] false] (.own t 2) [.gone,.arr e t [y] false,.arr e t rs false]:=by
 refine ⟨vx.1,?_⟩;intro φ ι w vs dy ej eH eu;obtain ⟨v0,awK,nE,aj,v1,cZ,bj,au,v2,cr,bU,aL,hm⟩:=eH;simp only[ae.relT]at hm;subst hm bU bj;obtain rfl:vs= #[v0,v1,v2]:=by cases vs;simp at nE;simp[nE]
 have g0:aF [aG.arr e t xs false,.arr e t [y] false] 0=.arr e t xs false:=rfl;have an:=dy.obj 0;rw[g0]at an;obtain ⟨A,n,c,eM,ib,wK,ot,AU⟩:=an;have aun:=aj;obtain ⟨rfl,-⟩:=aj;by_cases aB:c=n
 ·subst aB;have arF:(fT (.own t 0)).go [aG.arr e t xs false,.arr e t [y] false] 2=some (⟨.list t,xs⟩,[aG.arr e t xs true,.arr e t [y] false],2):=by
   simp[fT,HM.go,aF,bM,aG.freeze,aG.mask,rR]
  obtain ⟨-,φ',g,aX⟩:=rq (.own t 0) φ (ι 0) _ 2 _ _ _ arF dy aun (fun i ab=>by
   have bY:i=0:=by simpa [ae.ids] using ab
   rw[bY];rfl)
  have On:bR φ' ι w [aG.gone,.arr e t [y] false]:=by
   refine g.rel.update (fun i=>i=0) (fun i ab=> ?_) (fun _ _=>rfl) (fun i ab=> ?_) (fun i ab=> ?_) (fun i ab j ay=> ?_) (fun _ _ _ _ _=>rfl) (fun _ _ _=>rfl) (fun i j b ab aa=> ?_)
   ·cases i with
    |zero=>exact absurd rfl ab
    |succ i=>rfl
   ·cases i with
    |zero=>rfl
    |succ i=>exact ab
   ·subst ab;trivial
   ·subst ab;simp[aF,aG.ids]at ay
   ·subst ab;cases aa
  have dC:Step φ' ι w [aG.arr e t xs true,.arr e t [y] false] φ' ι w [aG.gone,.arr e t [y] false]:=
   ⟨fun _ _ h=>h,fun _ _ _=>rfl,fun _ _ h=>.inl h,Nat.le_refl _,rfl,rfl,rfl,fun _ _ _=>rfl,fun b ⟨o,aa,ad⟩=>.inr ⟨o,by cases o with
    |zero=>cases aa
    |succ o=>exact aa,ad⟩⟩
  refine Calls.mono (vx.2 φ' ι w #[ι 0,v1,v2] On (fun i ab=> ?_) ⟨ι 0,_,rfl,?_,v1,_,rfl,?_,v2,_,rfl,?_,rfl⟩ (fun i ab=> ?_)) fun aa9 w'=> ?_
  ·match i,ab with
   |0,_=>rfl
   |1,_=>rfl
   |i+2,ab=>simp at ab;omega
  ·show ∃A n,ι 0=.slice A n n/\bh φ' w (.list t) xs [ι 0];refine ⟨A,c,eM,?_⟩;have:=aX.1;rw[pJ (by rw[eM];rfl)]at this;simpa using this
  ·exact ae.rel_mono g.step.phi g.step.cells _ _ (fun _ _=>rfl) au
  ·exact ae.rel_mono g.step.phi g.step.cells _ _ (fun _ _=>rfl) aL
  ·have:i=1:=by simpa [ae.idsL,ae.ids] using ab
   subst this;rfl
  ·rintro ⟨v,dv,dz,he,cb,gg,k',aA,ft⟩;have bG:dA ι [aG.arr e t xs false,.arr e t [y] false] ι [aG.gone,.arr e t [y] false]:=⟨fun _ _=>rfl,fun o h=>by
    cases o with
    |zero=>rfl
    |succ o=>exact h⟩
   exact ⟨v,dv,dz,he,cb,(g.step.trans dC).trans gg,bG.trans k',aA,ft⟩
 ·have bb:n<c:=by omega
  rcases AU with AU |⟨b,pre,cur,fr,rfl,b1,b2,b3,b0,gL,gX,jG,av0⟩
  ·omega
  obtain ⟨zs,AD⟩:=gL.rest.resolve_left tc;have AB:=AD.len (fun x c=>bh.len t x c);have iy:cur.toList.length=c*t.size:=by rw[Array.length_toList,b2]
  rw[List.length_drop,iy,<-Nat.sub_mul]at AB;have as7:zs.length=c-n:=Nat.eq_of_mul_eq_mul_right pw AB.symm;obtain ⟨z,xB,rfl⟩: ∃z xB,zs=z::xB:=by
   cases zs with
   |nil=>simp at as7;omega
   |cons z xB=>exact ⟨z,xB,rfl⟩
  have mJ: ∀i,ip ι 0 (.slice (some ⟨b,pre.size,none⟩) (n+1) c) (i+1)=ι (i+1):=fun i=>by simp[ip]
  have hzero:ip ι 0 (.slice (some ⟨b,pre.size,none⟩) (n+1) c) 0=.slice (some ⟨b,pre.size,none⟩) (n+1) c:=by simp[ip]
  have ij: ∀i,c6 (ip ι 0 (.slice (some ⟨b,pre.size,none⟩) (n+1) c) i)=c6 (ι i):=fun i=>by
   cases i with
   |zero=>rw[hzero,eM];simp[c6]
   |succ i=>rw[mJ]
  have mK: ∀i,(aF [aG.arr e t (xs++[z]) false,.arr e t [y] false] i).owns=(aF [aG.arr e t xs false,.arr e t [y] false] i).owns:=fun i=>by cases i<;>rfl
  have eY:=cz.append _ _ _ _ gX AD;rw[List.take_append_drop]at eY;have abC:cz (bh φ w t) ((xs++[z])++xB) cur.toList:=by simpa using eY
  have Ai:(xs++[z]).length=n+1:=by simp[ib]
  have On:bR φ (ip ι 0 (.slice (some ⟨b,pre.size,none⟩) (n+1) c)) w [aG.arr e t (xs++[z]) false,.arr e t [y] false]:=by
   refine ⟨fun o=> ?_,fun o dg bK aa ad al aE=> ?_,dy.phi,fun o i jL=> ?_,dy.glob⟩
   ·match o with
    |0=>
     show hW φ _ w 0 (.arr e t (xs++[z]) false);refine ⟨some ⟨b,pre.size,none⟩,n+1,c,hzero,Ai,bb,ot,.inr ⟨b,pre,cur,fr,rfl,b1,b2,b3,b0,⟨gL.one,.inr ⟨xB,?_⟩⟩,?_,fun k av=> ?_,fun h=>by cases h⟩⟩
     ·have:=abC.drop (fun x c=>bh.len t x c) (n+1)
      rwa [<-Ai,List.drop_left,Ai]at this
     ·have:=abC.take (fun x c=>bh.len t x c) (n+1)
      rwa [<-Ai,List.take_left,Ai]at this
     ·exact absurd (jG k av).1 (by simp)
    |1=>
     have:=dy.obj 1;show hW φ _ w 1 (.arr e t [y] false);obtain ⟨xD,cC,a7,gG,gH⟩:=this;exact ⟨xD,cC,a7,(mJ 0).trans gG,gH⟩
    |o+2=>trivial
   ·rw[mK]at aa ad;rw[ij]at al aE;exact dy.apart o dg bK aa ad al aE
   ·match o,jL with
    |0,jL=>simp[aF,aG.ids]at jL
    |1,jL=>simp[aF,aG.ids]at jL
    |o+2,jL=>simp[aF,aG.ids]at jL
  have dC:Step φ ι w [aG.arr e t xs false,.arr e t [y] false] φ (ip ι 0 (.slice (some ⟨b,pre.size,none⟩) (n+1) c)) w [aG.arr e t (xs++[z]) false,.arr e t [y] false]:=
   ⟨fun _ _ h=>h,fun _ _ _=>rfl,fun _ _ h=>.inl h,Nat.le_refl _,rfl,rfl,rfl,fun _ _ _=>rfl,fun bK ⟨o,aa,ad⟩=>.inr ⟨o,by rw[<-mK];exact aa,by rw[<-ij];exact ad⟩⟩
  refine Calls.mono ((zN z).2 φ _ w #[ι 0,v1,v2] On (fun i ab=> ?_) ⟨ι 0,_,rfl,?_,v1,_,rfl,?_,v2,_,rfl,?_,rfl⟩ (fun i ab=> ?_)) fun aa9 w'=> ?_
  ·match i,ab with
   |0,_=>rfl
   |1,_=>rfl
   |i+2,ab=>simp at ab;omega
  ·exact yq ⟨some ⟨b,pre.size,none⟩,n+1,c,some ⟨b,pre.size,none⟩,hzero,Nat.zero_le _,by rw[ib];omega,bb,by rw[eM,ib];rfl,fun _=>by simp[ga],fun _=>⟨b,_,rfl⟩⟩
  ·exact ae.rel_mono (fun _ _ h=>h) (fun _ _ _=>rfl) _ _ (fun i ab=>absurd ab (by simp[ae.ids])) au
  ·refine ae.rel_mono (fun _ _ h=>h) (fun _ _ _=>rfl) _ _ (fun i ab=> ?_) aL;have:i=1:=by simpa [ae.ids] using ab
   subst this;exact mJ 0
  ·have:i=0\/i=1:=by simpa [ae.idsL,ae.ids] using ab
   rcases this with rfl |rfl<;>rfl
  ·rintro ⟨v,dv,dz,he,cb,gg,k',aA,ft⟩;have vO: ∀i,ip dz 0 (ι 0) (i+1)=dz (i+1):=fun i=>by simp[ip]
   have as3:ip dz 0 (ι 0) 0=ι 0:=by simp[ip]
   have s2:=dC.trans gg;refine ⟨v,dv,ip dz 0 (ι 0),he,⟨fun o=> ?_,fun o dg bK aa ad al aE=> ?_,cb.phi,fun o i jL=> ?_,cb.glob⟩,⟨s2.phi,s2.cells,s2.newphi,s2.size,s2.os,s2.tape,s2.output,s2.blocks,fun bK ⟨o,aa,ad⟩=> ?_⟩,⟨fun o an=> ?_,fun o an=> ?_⟩,?_,ft⟩
   ·match o with
    |0=>trivial
    |1=>
     obtain ⟨xD,cC,a7,gG,gH⟩:=cb.obj 1;exact ⟨xD,cC,a7,(vO 0).trans gG,gH⟩
    |2=>
     obtain ⟨xD,cC,a7,gG,gH⟩:=cb.obj 2;exact ⟨xD,cC,a7,(vO 1).trans gG,gH⟩
    |o+3=>trivial
   ·cases o with
    |zero=>cases aa
    |succ o=>
     cases dg with
     |zero=>cases ad
     |succ dg=>
      rw[vO]at al aE;exact cb.apart _ _ bK aa ad al aE
   ·match o,jL with
    |0,jL=>simp[aF,aG.ids]at jL
    |1,jL=>simp[aF,aG.ids]at jL
    |2,jL=>simp[aF,aG.ids]at jL
    |o+3,jL=>simp[aF,aG.ids]at jL
   ·cases o with
    |zero=>cases aa
    |succ o=>
     rw[vO]at ad;exact s2.own bK ⟨o+1,aa,ad⟩
   ·match o,an with
    |0,_=>exact as3
    |1,_=>rw[vO,k'.iota 1 rfl,mJ]
    |o+2,an=>cases an
   ·match o,an with
    |0,_=>rfl
    |1,_=>rfl
    |o+2,an=>cases an
   ·refine ae.rel_mono (fun _ _ h=>h) (fun _ _ _=>rfl) _ _ (fun i ab=> ?_) aA;have:i=2:=by simpa [ae.ids] using ab
    subst this;exact vO 1
theorem aoT [Env] {F:a8} (tab:cA P F.cx) (cE:bL P F.Γ) (hm:P.follows .mixedOrders=true) {f:FuncId} {fn:Func} {e:TypeId} {t:aD} {bytes:Nat} (tc:decide (t=.int .u8)=false) (pw:Nat.blt 0 t.size=true) (aK:P.funcs[f]? =some fn) (ag:fn.body=some (bJ fn)) (cF:(fW fn.ntmps (bJ fn)&& !(fn.name== "runtime.NumGoroutine")&& !eb (bJ fn)&& !fh (bJ fn)&&Nat.ble fn.ntmps c1&&Nat.ble fn.results.size c1)=true) (ao:dF (bJ fn) 0=[])
  (kN:Nat.beq fn.results.size 1=true) (Aj:Nat.ble 3 fn.ntmps=true) (ek:F.m=2)
  (ec: ∀(i:Int) (xs aT:List t.den),(Et F fn (sI e t) [.clip t xs,.dat (.int .i64) i,.own t 1] [.gone,.arr e t aT false]).val=Ik bytes t.zero i xs aT)
  (cM: ∀(i:Int) (xs:List t.den) (z:t.den) (aT:List t.den),(Et F fn (sI e t) [.view t 0 0 xs.length,.dat (.int .i64) i,.own t 1] [.arr e t (xs++[z]) false,.arr e t aT false]).val=Il bytes i xs z aT):
  cc P ⟨f,CQ e t,sI e t,fun s=>y5 (α:=t.den) bytes s⟩:=by
 intro args H s r ar bA;have fG:=Shape.dec_enc ar;obtain ⟨i,xs,aT,u⟩:=s;have bA:y5 (α:=t.den) bytes (i,xs,aT,u)=some r:=bA;unfold y5 at bA;simp only at bA;cases zW:decide ((0:Int)<=i)&&decide (i<=(xs.length:Int))&&decide (aT.length=1)&&decide (xs.length+1<1000000000000000000)&&decide ((xs.length+1)*bytes<=bm)
 ·rw[zW]at bA;cases bA
 rw[zW,az]at bA;simp only[bB,dd]at zW;obtain ⟨⟨⟨⟨a7,aY⟩,c3⟩,fe⟩,c5⟩:=zW;obtain ⟨k,rfl⟩:=Int.eq_ofNat_of_zero_le a7;obtain ⟨y,rfl⟩:=List.length_eq_one_iff.1 c3;obtain rfl:=Option.some.inj bA;have aY:k<=xs.length:=Int.ofNat_le.1 aY;rw[bQ];have fG:=(ap8 e t (k:Int) xs [y]).symm.trans fG;injection fG with aa ad
 obtain rfl:args=[.own t 0,.dat (.int .i64) (k:Int),.own t 1]:=(uQ 0 [.own t 0,.dat (.int .i64) (k:Int),.own t 1] args aa).symm;subst ad;have asE:fn.results.size=1:=Nat.eq_of_beq_eq_true kN;have abY:(sI e t).regs.map (·.1)=List.range' 0 fn.results.size:=by rw[asE];rfl
 have vx:=Yo tab cE hm aK ag cF ao abY (args:=[.clip t xs,.dat (.int .i64) (k:Int),.own t 1]) (H:=[.gone,.arr e t [y] false]) (Nat.le_of_ble_eq_true Aj) ek ((ec k xs [y]).trans (apm aY fe c5));have zN:=fun z=>Yo tab cE hm aK ag cF ao abY (args:=[.view t 0 0 xs.length,.dat (.int .i64) (k:Int),.own t 1]) (H:=[.arr e t (xs++[z]) false,.arr e t [y] false]) (Nat.le_of_ble_eq_true Aj) ek ((cM k xs z [y]).trans (apn aY fe c5))
 have OK:=ap9 e t [y] (xs.take k++[y]++xs.drop k);have vx:=Eq.mp (congrArg (fun E:bn=>iL P f [.clip t xs,.dat (.int .i64) (k:Int),.own t 1] [.gone,.arr e t [y] false] (iK E.regs) E.heap) OK) vx;have zN:=fun z=>Eq.mp (congrArg (fun E:bn=>iL P f [.view t 0 0 xs.length,.dat (.int .i64) (k:Int),.own t 1] [.arr e t (xs++[z]) false,.arr e t [y] false] (iK E.regs) E.heap) OK) (zN z)
 exact Eq.mpr (congrArg (fun E:bn=>iL P f [.own t 0,.dat (.int .i64) (k:Int),.own t 1] [.arr e t xs false,.arr e t [y] false] (iK E.regs) E.heap) OK) (anR _ (of_decide_eq_false tc) (Nat.le_of_ble_eq_true pw) vx zN)
end
open Go.RowKit Go.Shelf
def yC (s:List UInt8×List UInt8×Unit):Option (Int×Unit):=
 bif Nat.blt 8 s.1.length&&Nat.blt s.1.length 4294967281&&Nat.ble 2 s.2.1.length&&Nat.blt s.2.1.length 4294967281&&s.2.1.all (fun b=>Nat.blt b.toNat 128) then some (Lib.indexAny s.1 s.2.1,()) else none
section
variable {P:Program}
def AZ {α:Type} (a b:Option α):Option α:=match a with |some z=>some z |none=>b
theorem aaK [Env] {f:FuncId} {S Z:Shape} {g1 g2:S.ty.den->Option Z.ty.den} (aa:cc P ⟨f,S,Z,g1⟩) (ad:cc P ⟨f,S,Z,g2⟩):cc P ⟨f,S,Z,fun s=>AZ (g1 s) (g2 s)⟩:=by
 intro args H s z ar bA;have bA:AZ (g1 s) (g2 s)=some z:=bA;unfold AZ at bA;cases h:g1 s with
 |some y=>
  rw[h]at bA;obtain rfl:=Option.some.inj bA;exact aa args H s _ ar h
 |none=>
  rw[h]at bA;exact ad args H s z ar bA
theorem bR.below [Env] {φ:bw} {ι:Nat->Value} {w w':World} {H:List aG} (h:bR φ ι w H) (b:Below w.heap.size w w'):bR φ ι w' H/\Step φ ι w H φ ι w' H:=by
 have bH:gJ w w':=⟨b.os,b.tape,b.output,b.size,fun k av=>b.block k av⟩;have aB: ∀b k,φ b k->w'.cell? ⟨b,k,none⟩=w.cell? ⟨b,k,none⟩:=fun b k av=>bH.cell (jt h av)
 refine ⟨h.update (fun _=>False) (fun _ _=>rfl) (fun _ _=>rfl) (fun _ h=>h) (fun _ h=>h.elim) (fun _ h=>h.elim) (fun i bK _ an gD=>bH.blocks bK (sg h an gD)) aB (fun _ _ _ h=>h.elim),⟨fun _ _ h=>h,aB,fun _ _ h=>.inl h,bH.size,bH.os,bH.tape,bH.output,fun bK gD _=>bH.blocks bK gD,fun _ h=>.inr h⟩⟩
theorem anH [Env] {ρ:Ren} (L:Go.Proofs.Lays.n153 P ρ) (Fk:(P.info? (ρ.t 116)).map (fun i=>(i.zero,i.size))=some (some (.agg (Array.replicate 256 (.bool false))),256)) {fn:Func} (aK:P.funcs[ρ.f 153]? =some fn) (cF:(!(fn.name== "runtime.NumGoroutine")&& !fn.body.isNone)=true):
  cc P ⟨ρ.f 153,⟨[(0,.dat .str),(1,.dat .str)],[]⟩,⟨[(0,.dat (.int .i64))],[]⟩,yC⟩:=by
 intro args H s z ar bA;have fG:=Shape.dec_enc ar;obtain ⟨a,b,u⟩:=s;have bA:yC (a,b,u)=some z:=bA;unfold yC at bA;simp only at bA;cases aB:Nat.blt 8 a.length&&Nat.blt a.length 4294967281&&Nat.ble 2 b.length&&Nat.blt b.length 4294967281&&b.all (fun b=>Nat.blt b.toNat 128)
 ·rw[aB]at bA;cases bA
 rw[aB,az]at bA;obtain rfl:=Option.some.inj bA;simp only[bB]at aB;obtain ⟨⟨⟨⟨a7,aY⟩,c3⟩,fe⟩,c5⟩:=aB;have a7:=Nat.le_of_ble_eq_true a7;have aY:=Nat.le_of_ble_eq_true aY;have c3:=Nat.le_of_ble_eq_true c3;have fe:=Nat.le_of_ble_eq_true fe;have h5:(Shape.enc ⟨[(0,.dat .str),(1,.dat .str)],[]⟩ (a,b,u))=⟨[(0,.dat .str a),(1,.dat .str b)],[]⟩:=rfl;have fG:=h5.symm.trans fG;injection fG with aa ad
 obtain rfl:args=[.dat .str a,.dat .str b]:=(uQ 0 [.dat .str a,.dat .str b] args aa).symm;subst ad;simp only[bB,Bool.not_eq_true']at cF;refine ⟨⟨fn,aK,cF.1,cF.2⟩,fun φ ι w vs dy ej eH eu=> ?_⟩;obtain ⟨v1,cZ,ai,au,v2,cr,aq,aL,hm⟩:=eH;simp only[ae.relT]at hm;subst hm aq;have fB:v1=.string ⟨⟨a⟩⟩:=cf.str.1 au;have lb:v2=.string ⟨⟨b⟩⟩:=cf.str.1 aL;subst fB lb;obtain rfl:vs= #[.string ⟨⟨a⟩⟩,.string ⟨⟨b⟩⟩]:=by cases vs;simp at ai;simp[ai]
 have di: ∀l:List UInt8,(⟨⟨l⟩⟩:ByteArray).size=l.length:=fun _=>rfl
 refine (Go.Proofs.Any.strings_IndexAny_long L (zero_of_info Fk).1 (zero_of_info Fk).2 ⟨⟨a⟩⟩ ⟨⟨b⟩⟩ w (by rw[di];exact c3) (by rw[di];omega) (by rw[di];omega) (by rw[di];omega) (fun j x aw=> ?_)).mono ?_
 ·have aw:b[j]? =some x:=aw;have:=List.all_eq_true.1 c5 x (List.mem_of_getElem? aw);exact Nat.le_of_ble_eq_true this
 ·rintro e w' ⟨rfl,rfl⟩;obtain ⟨a1,k2⟩:=dy.below (((Below.refl _ w).alloc (Nat.le_refl _) _).alloc (by simp) _);exact ⟨_,φ,ι,rfl,a1,k2,dA.refl _ _,gC (cf.int.2 rfl),fun i ab=>absurd (show i∈([]:List Nat) from ab) (by simp)⟩
end
open Go.RowKit
section
variable {P:Program} {φ:bw} {ι:Nat->Value} {w:World} {H:List aG}
def Ih [Env] (P:Program) (F:a8) (n:Nat) (C:a8->Code->Nat->bn->DT (dw×bn)) (c:Code):Prop:=
 ∀(nt:hV) (st:bn) (e:dw) (aW:bn) (φ:bw) (ι:Nat->Value) (w:World) (a:Act) (Q:Exit->Act->World->Prop),nt.n=n->(C F c 0 st).val=some (e,aW)->cO φ ι w nt st a->fC F.m st.heap->
  (∀bd w' φ' ι',cO φ' ι' w' nt aW bd->Step φ ι w st.heap φ' ι' w' aW.heap->gK F.m ι st.heap ι' aW.heap->Q (jA e) bd w')->c.wpIn (ed nt.ro) 0 P Q a w
theorem ZZ [Env] {F:a8} {n:Nat} {c:Code} (tab:cA P F.cx) (cE:bL P F.Γ) (hm:P.follows .mixedOrders=true) (ao: ∀q∈dF c 0,fS P F n q.1 q.2) (aB:(fW n c&& !eb c&& !fh c)=true):Ih P F n e1 c:=by
 intro nt st e aW φ ι w a Q aQ h bV lm cB;subst aQ;simp only[bB,Bool.not_eq_true']at aB;exact l5 tab cE hm c 0 st e aW φ ι w a Q h ao aB.1.1 (dQ _ aB.1.2) (hf.no aB.1.2 aB.2) bV lm cB
theorem X4 {φ:bw} {ι:Nat->Value} {w:World} {H:List aG}: ∀(ps:List Nat) (rs:List ae) (vs:List Value) (R:bD) (t:Array Value),(∀p∈ps,p<t.size)->ae.relT φ ι w rs vs->(∀i∈ae.idsL rs,(aF H i).live=true)->ps.length=rs.length->
  (∀d r,R.get d=some r->r.rel φ ι w (t.getD d undef)/\ ∀i∈r.ids,(aF H i).live=true)->
  ((ps.zip vs).foldl (fun t q=>t.setIfInBounds q.1 q.2) t).size=t.size/\ ∀d r,(uL ps rs R).get d=some r->r.rel φ ι w (((ps.zip vs).foldl (fun t q=>t.setIfInBounds q.1 q.2) t).getD d undef)/\ ∀i∈r.ids,(aF H i).live=true
 |[],rs,vs,R,t,_,_,_,_,h=>by
  refine ⟨by simp,fun d r ax=> ?_⟩;have:uL [] rs R=R:=by cases rs<;>rfl
  rw[this]at ax;simpa using h d r ax
 |p::ps,[],vs,R,t,_,_,_,ao,h=>by simp at ao
 |p::ps,r::rs,vs,R,t,aP,aA,ft,ao,h=>by
  obtain ⟨v,m,rfl,aa,ad⟩:=aA;have bb:p<t.size:=aP p (by simp);have aO:=X4 ps rs m (R.put p r) (t.setIfInBounds p v) (fun q aN=>by simp;exact aP q (by simp[aN])) ad (fun i ab=>ft i (by simp[ae.idsL,ab])) (by simpa using ao) (fun d x aw=>by
   rw[bD.get_put]at aw;by_cases ax:d=p
   ·subst ax;simp only[if_true,bt]at aw;subst aw;have:(t.setIfInBounds d v).getD d undef=v:=by simp[Array.getD_eq_getD_getElem?,bb]
    rw[this];exact ⟨aa,fun i ab=>ft i (by simp[ae.idsL,ab])⟩
   ·simp only[ax,if_false]at aw;have cp:p≠d:=fun h=>ax h.symm
    have:(t.setIfInBounds p v).getD d undef=t.getD d undef:=by simp[Array.getD_eq_getD_getElem?,Array.getElem?_setIfInBounds,cp]
    rw[this];exact h d x aw)
  refine ⟨by simpa using aO.1,fun d x aw=> ?_⟩;have:=aO.2 d x aw;simpa using this
theorem Z4 [Env] (h:bR φ ι w H) {Y:Nat} {R:bD} {p p':Int} {l:Nat} (an:aF H 0=.loop Y R p) (ab:ι 0=.func (.yield l) #[] #[]) {rec':Loop} (fH:Q3 rec' p')
  (od: ∀rec c,Eo φ ι w l rec c Y R p->rec'.params=rec.params/\rec'.assign=rec.assign/\rec'.body=rec.body/\rec'.tmps=rec.tmps):
  bR φ ι (w.putObj l (.loop rec')) (bM H 0 (.loop Y R p'))/\Step φ ι w H φ ι (w.putObj l (.loop rec')) (bM H 0 (.loop Y R p'))/\dA ι H ι (bM H 0 (.loop Y R p')):=by
 have cR:=h.obj 0;rw[an]at cR;obtain ⟨cP,rec,c,eM,gV⟩:=cR;have gP:cP=l:=yg (eM.symm.trans ab);subst gP;obtain ⟨au,aL,bF,cN⟩:=od rec c gV;have bb:=(Array.getElem?_eq_some_iff.1 gV.heap).1;obtain ⟨eo,a2,a3,-⟩:=yV (n:=H.length) (ob:=.loop Y R p') h (o:=0) (b:=cP) (by rw[an];rfl) (by rw[ab];rfl) (hH.putObj w cP (.loop rec')) gV.phi
  ⟨cP,rec',c,ab,⟨gV.code,World.putObj_heap_same bb,by rw[au];exact gV.params,by rw[aL];exact gV.assign,by rw[bF];exact gV.body,by rw[cN];exact gV.nt,fH,fun q aN=>by
   rw[cN];exact ae.rel_mono (fun _ _ h=>h) (fun b k ag=>(hH.putObj w cP _).cell (fun e=>gV.phi k (e▸ag))) q.2 _ (fun _ _=>rfl) (gV.regs q aN),gV.phi⟩⟩
  (fun i ab=>h.ids 0 i (by rw[an];exact ab)) rfl
 exact ⟨eo,a2,a3⟩
theorem aoe {Y:Nat} {e:dw} {st aW:bn} (h:(Ma Y e st).val=some aW): ∃R,aF st.heap 0=.loop Y R (-1)/\aW=⟨[(0,.dat .bool e.isNrm)],bM st.heap 0 (.loop Y R (l9 e))⟩:=by
 unfold Ma at h;split at h
 ·rename_i CL R p cR;cases ag:Nat.beq CL Y
  ·simp[ag,DT.val]at h
  rw[ag,az]at h;have:CL=Y:=by simpa using ag
  subst this;simp only[DT.val]at h;cases aP:decide (p= -1)
  ·simp[aP]at h
  rw[aP,az]at h;simp only[bt]at h;have:p= -1:=of_decide_eq_true aP;subst this;exact ⟨R,cR,h.symm⟩
 ·simp[DT.val]at h
def Ic (c:lK) (S Z:Shape):Bool:=
 Nat.beq S.regs.length (c.params.length+1)&&c.params.all (Nat.blt · c.nt)&&decide (Z.regs.map (·.1)=[0])&&Nat.ble c.nt c1
theorem apb {Z:Shape} {m:Nat} {st:bn} {z:Z.ty.den} (h:(Z.take m st).val=some z):(Z.enc z).regs.map (·.1)=Z.regs.map (·.1):=by
 unfold Shape.take at h;obtain ⟨⟨aW,bC,wJ,pp⟩,a1,k2⟩:=DT.val_bind_some h;simp only[DT.val_ofOpt]at k2;unfold Shape.dec at k2;cases aR:hD Z.regs aW.regs with
 |none=>simp[aR]at k2
 |some x=>
  cases ag:eX Z.objs aW.heap with
  |none=>simp[aR,ag]at k2
  |some y=>
   have:=pL _ _ x [] aR;rw[Shape.dec_enc (st:=aW) (by simp only[Shape.dec,aR,ag]at k2 ⊢;exact k2)];exact tD _ _ _ _ this
theorem aqj [Env] {F:a8} {C:a8->Code->Nat->bn->DT (dw×bn)} {Y:Nat} {c:lK} {S Z:Shape} {g:S.ty.den->Option Z.ty.den} (vF:Env.code Y=some c) (cF:Ic c S Z=true) (ek:F.m=S.objs.length) (ec:Ih P F c.nt C c.assign) (cM:Ih P F c.nt C c.body)
  (bH: ∀s,(qv F C Y c S Z s).val=g s):o3 P ⟨Y,S,Z,g⟩:=by
 intro args H s z ar bA;have fG:=Shape.dec_enc ar;simp only[Ic,bB,dd,Nat.beq_eq,List.all_eq_true]at cF;obtain ⟨⟨⟨mH,lX⟩,lY⟩,lZ⟩:=cF;have lZ:=Nat.le_of_ble_eq_true lZ;have hn:args.length=S.regs.length/\H.length=S.objs.length:=by
  unfold Shape.dec at ar;simp only at ar;cases aR:hD S.regs (eW 0 args) with
  |none=>simp[aR]at ar
  |some x=>
   cases ag:eX S.objs H with
   |none=>simp[aR,ag]at ar
   |some y=>
    refine ⟨by rw[<-xa _ _ _ aR,(mD args 0).2.1],?_⟩;have: ∀(s:List dn) (R:List aG) (l:List dM),eX s R=some l->R.length=s.length:=by
     intro s
     induction s with
     |nil=>intro R l h;cases R<;>simp[eX]at h ⊢
     |cons a s aO=>
      intro R l h;cases R with
      |nil=>simp[eX]at h
      |cons b R=>
       simp only[eX]at h;split at h
       ·obtain ⟨b,ag,-⟩:=Option.map_eq_some_iff.1 h;simp[aO R b ag]
       ·cases h
    exact this _ _ _ ag
 have e:(qv F C Y c S Z s).val=some z:=(bH s).trans bA;unfold qv at e;simp only at fG;rw[fG]at e;cases args with
 |nil=>simp[eW,DT.val]at e
 |cons a0 args=>
 cases H with
 |nil=>
  simp[eW,DT.val]at e
 |cons ob H=>
 simp only[eW]at e;split at e
 case h_2=>simp[DT.val]at e
 rename_i d0 avW alj nP R p aC bj bU;injection bj with bj Pm
 injection bj with awO aud
 injection bU with bU aue
 subst aud Pm bU aue;cases NI:Nat.beq nP Y
 ·simp[NI,DT.val]at e
 rw[NI,az]at e;have arn:nP=Y:=by simpa using NI
 subst arn;simp only[DT.val]at e;cases Am:decide (p=0)
 ·simp[Am]at e
 rw[Am,az]at e;have Am:p=0:=of_decide_eq_true Am;subst Am;split at e
 ·simp[DT.val]at e
 rename_i Oc;obtain ⟨⟨ai,b9⟩,aa,e⟩:=DT.val_bind_some e;have arq:(eW (0+1) args).map (·.2)=args:=by
  have: ∀(l:List ae) (k:Nat),(eW k l).map (·.2)=l:=by
   intro l
   induction l with
   |nil=>intro k;rfl
   |cons x l aO=>intro k;simp[eW,aO]
  exact this _ _
 rw[arq]at aa Oc;intro φ ι w vs dy ej eH eu;obtain ⟨v0,tU,dK,OE,vV⟩:=eH;obtain ⟨OE,l,aco⟩:=OE;have asq:=dy.obj 0;obtain ⟨cP,rec,aY,eM,gV⟩:=asq;have gP:cP=l:=yg (eM.symm.trans (OE.symm.trans aco));subst gP;have ary:aY=c:=Option.some.inj (gV.code.symm.trans vF);subst ary;have acq:vs=(v0::tU).toArray:=by apply Array.ext';simpa using dK
 have z1:vs.extract 1 vs.size=tU.toArray:=by rw[acq];simp
 have asb:tU.length=args.length:=by
  have: ∀(l:List ae) (vs:List Value),ae.relT φ ι w l vs->vs.length=l.length:=by
   intro l
   induction l with
   |nil=>intro vs h;simp only[ae.relT]at h;simp[h]
   |cons r l aO=>intro vs h;obtain ⟨v,m,rfl,-,h⟩:=h;simp[aO m h]
  exact this _ _ vV
 have ab3:args.length=aY.params.length:=by
  have:=hn.1;simp at this;omega
 have awE:rec.state=.ready/\rec.pending=none:=by
  rcases gV.st with ⟨-,a,b⟩|⟨a,-⟩|⟨dx,a,b,-⟩
  ·exact ⟨a,b⟩
  ·omega
  ·exact absurd (Eb (e:=dx) (f:=.nrm) (a.symm)) b
 refine (iq.round (by unfold hS;rw[vF];rfl)).2 ⟨cP,?_,?_⟩
 ·rw[acq];simp[aco]
 rw[z1];refine ⟨rec.fn,_,rec.assign,rec.body,run_yield gV.heap (by simp;rw[asb,ab3,<-gV.params];simp),roundIn_of_wpIn (F:=ed none) trivial ?_⟩;rw[gV.assign,gV.body];obtain ⟨tm,FJ⟩: ∃tm,(rec.params.zip tU.toArray).foldl (fun tmps (q:Tmp×Value)=>tmps.setIfInBounds q.1 q.2) rec.tmps=tm:=⟨_,rfl⟩;have asP:(aY.params.zip tU).foldl (fun t (q:Nat×Value)=>t.setIfInBounds q.1 q.2) rec.tmps=tm:=by
  rw[<-FJ,<-gV.params,<-Array.foldl_toList];simp
 have HE:=X4 (φ:=φ) (ι:=ι) (w:=w) (H:=.loop nP R 0::H) aY.params args tU R rec.tmps (fun q aN=>by rw[gV.nt];simpa using lX q aN) vV (fun i ab=>eu i (by simp[ae.idsL,ab])) ab3.symm (fun d r ax=>⟨gV.regs _ (bD.get_mem ax),fun i ab=>dy.ids 0 i (bD.mem_ids (bD.get_mem ax) i ab)⟩);rw[asP]at HE;have jY:cO φ ι w ⟨aY.nt,w.heap.size,[],some cP,false⟩ ⟨uL aY.params args R,.loop nP R 0::H⟩ {tmps:=tm,defers:=[]}:=⟨dy,fun d r ax=>by
  rw[hp (fun e=>by rw[e]at ax;rw[ax]at Oc;cases Oc)];exact HE.2 d r ax,HE.1.trans gV.nt,lZ,mf (Nat.le_refl _)⟩
 have h9:fC F.m (.loop nP R 0::H):=by
  rw[ek,<-hn.2];exact fun o an=>ej o an
 have Fw:0<F.m:=by rw[ek,<-hn.2];simp
 show aY.assign.wpIn (ed (some cP)) 0 P _ {tmps:=(rec.params.zip tU.toArray).foldl (fun tmps (q:Tmp×Value)=>tmps.setIfInBounds q.1 q.2) rec.tmps,defers:=[]} w;rw[FJ];refine ec ⟨aY.nt,w.heap.size,[],some cP,false⟩ _ ai b9 φ ι w _ _ rfl aa jY h9 fun eo cV cT er ox auR O1=> ?_
 cases ai with
 |exit i=>simp[DT.val]at e
 |ret=>simp[DT.val]at e
 |nrm=>
 simp only at e;split at e
 case h_2=>simp[DT.val]at e
 rename_i mq uq gH Ak;cases dB:Nat.beq mq nP
 ·simp[dB,DT.val]at e
 rw[dB,az]at e;have:mq=nP:=by simpa using dB
 subst this;simp only[DT.val]at e;cases lu:decide (gH=0)
 ·simp[lu]at e
 rw[lu,az]at e;have:gH=0:=of_decide_eq_true lu;subst this;obtain ⟨⟨aq,dC⟩,ad,e⟩:=DT.val_bind_some e;obtain ⟨w6,al,aE⟩:=DT.val_bind_some e;have jU:=O1.live h9;have hL:er 0=.func (.yield cP) #[] #[]:=by
  rw[(O1 0 Fw (h9 0 Fw)).1];exact eM
 have asD: ∃rG a7,Eo cT er cV cP rG a7 mq uq 0:=by
  have:=ox.heap.obj 0;rw[Ak]at this;obtain ⟨nB,rG,a7,wK,xG⟩:=this;have:nB=cP:=yg (wK.symm.trans hL);subst this;exact ⟨rG,a7,xG⟩
 obtain ⟨rG,a7,xG⟩:=asD;have asL:rG.state=.ready:=by
  rcases xG.st with ⟨-,a,b⟩|⟨a,-⟩|⟨dx,a,b,-⟩
  ·exact a
  ·omega
  ·exact absurd (Eb (e:=dx) (f:=.nrm) (a.symm)) b
 simp only[jA,Exit.then];refine ⟨_,run_beginRound xG.heap asL,?_⟩;obtain ⟨t1,t2,t3⟩:=Z4 ox.heap Ak hL (rec':={rG with state:=.busy}) (p':= -1) (.inr (.inl ⟨rfl,rfl⟩)) (fun rec c h=>by
  have:=xG.heap.symm.trans h.heap;have:rG=rec:=by simpa using this
  subst this;exact ⟨rfl,rfl,rfl,rfl⟩)
 have auT:cO cT er (cV.putObj cP (.loop {rG with state:=.busy})) ⟨aY.nt,w.heap.size,[],some cP,false⟩ ⟨b9.regs,bM b9.heap 0 (.loop mq uq (-1))⟩ eo:=
  ⟨t1,fun d r ax=>⟨ae.rel_step t2 t3 (ox.regs d r ax).2 (ox.regs d r ax).1,fun i ab=>t3.live i ((ox.regs d r ax).2 i ab)⟩,ox.nt,ox.small,ox.defers.step t2⟩
 have O3:fC F.m (bM b9.heap 0 (.loop mq uq (-1))):=(t3.keepM F.m).live jU;refine cM ⟨aY.nt,w.heap.size,[],some cP,false⟩ _ aq dC cT er _ _ _ rfl ad auT O3 fun a2 c9 dv dz iH nH lz=> ?_
 obtain ⟨Rb,ab8,Ox⟩:=aoe al;have O4:=lz.live O3;have e0:dz 0=.func (.yield cP) #[] #[]:=by
  rw[(lz 0 Fw (O3 0 Fw)).1];exact hL
 obtain ⟨nF,c3,Q2⟩: ∃nF c3,Eo dv dz c9 cP nF c3 mq Rb (-1):=by
  have:=iH.heap.obj 0;rw[ab8]at this;obtain ⟨pG,aur,fe,ot,afR⟩:=this;have:pG=cP:=yg (ot.symm.trans e0);subst this;exact ⟨aur,fe,afR⟩
 have fin: ∀(jump:Option Code),(match aq with | .nrm=>jump=none |e=>jump=some (MO e))-> ∃v w',(Instr.endRound cP jump).run P c9=.ok v w'/\(∃j0 φ' ι',Ending.returned v=.returned j0/\bR φ' ι' w' (Z.enc z).heap/\Step φ ι w (.loop mq R 0::H) φ' ι' w' (Z.enc z).heap/\dA ι (.loop mq R 0::H) ι' (Z.enc z).heap/\(iK (Z.enc z).regs).rel φ' ι' w' j0/\ ∀i∈(iK (Z.enc z).regs).ids,(aF (Z.enc z).heap i).live=true):=by
  intro jump ay;refine ⟨_,_,run_endRound jump Q2.heap,?_⟩;obtain ⟨oC,oD,rM⟩:=Z4 iH.heap ab8 e0 (rec':={nF with state:=if jump.isNone then .ready else .done,pending:=jump}) (p':=l9 aq) (by
   cases aq with
   |nrm=>simp only at ay;subst ay;exact .inl ⟨rfl,rfl,rfl⟩
   |ret=>simp only at ay;subst ay;exact .inr (.inr ⟨.ret,rfl,by simp,rfl,rfl⟩)
   |exit i=>simp only at ay;subst ay;exact .inr (.inr ⟨.exit i,rfl,by simp,rfl,rfl⟩)) (fun rec c h=>by
   have:=Q2.heap.symm.trans h.heap;have:nF=rec:=by simpa using this
   subst this;exact ⟨rfl,rfl,rfl,rfl⟩)
  obtain ⟨fy,acr⟩: ∃fy,c9.putObj cP (.loop {nF with state:=if jump.isNone then .ready else .done,pending:=jump})=fy:=⟨_,rfl⟩;rw[acr]at oC oD ⊢;have Ac:jump.isNone=aq.isNrm:=by
   cases aq with
   |nrm=>simp only at ay;subst ay;rfl
   |ret=>simp only at ay;subst ay;rfl
   |exit i=>simp only at ay;subst ay;rfl
  have Bh:cO dv dz fy ⟨1,0,[],none,false⟩ w6 {tmps:= #[.bool jump.isNone],defers:=[]}:=by
   rw[Ox];refine ⟨oC,fun d r ax=> ?_,rfl,Nat.le_of_ble_eq_true rfl,mf (Nat.zero_le _)⟩;simp only[bD.get]at ax;cases nn:Nat.beq d 0
   ·simp[nn]at ax
   ·simp only[nn,az,bt]at ax;have:d=0:=by simpa using nn
    subst this ax;rw[Ac,hp (by decide)];exact ⟨gC (cf.bool.2 rfl),by simp[ae.ids]⟩
  have atj:fC F.m w6.heap:=by
   rw[Ox];exact (rM.keepM F.m).live O4
  obtain ⟨k0,kZ,cZ,cr,ey,ki,oj⟩:=j9 aE Bh atj;have Ad:=(apb aE).trans lY;have gm:(Z.enc z).regs.length=(#[Value.bool jump.isNone]:Array Value).size:=by
   have:=congrArg List.length Ad;simpa using this
  obtain ⟨au,aL⟩:=so (vs:= #[Value.bool jump.isNone]) (R:=(Z.enc z).regs) (by rw[Ad];have:=congrArg List.length Ad;simp at this;rw[this];rfl) gm (uF (a:={tmps:= #[.bool jump.isNone],defers:=[]}) (by rw[Ad];have:=congrArg List.length Ad;simp at this;rw[this];rfl) (by rw[gm];exact Nat.le_of_ble_eq_true rfl) cZ.regs);have arZ:w6.heap=bM dC.heap 0 (.loop mq Rb (l9 aq)):=by rw[Ox]
  rw[arZ]at cr ey;refine ⟨_,k0,kZ,rfl,cZ.heap,(((auR.trans t2).trans nH).trans oD).trans cr,?_,by simpa using au,aL⟩;have hr:=(((O1.trans (t3.keepM F.m)).trans lz).trans (rM.keepM F.m)).trans ey;refine ⟨fun o an=> ?_,fun o an=> ?_⟩
  ·have bb:o<F.m:=by rw[ek,<-hn.2];exact fo an
   exact (hr o bb an).1
  ·have bb:o<F.m:=by rw[ek,<-hn.2];exact fo an
   exact (hr o bb an).2
 cases aq with
 |nrm=>exact fin none rfl
 |ret=>exact fin (some .ret) rfl
 |exit i=>exact fin (some (.exit i)) rfl
theorem C8 [Env] {F:a8} {Y:Nat} {c:lK} {S Z:Shape} {g:S.ty.den->Option Z.ty.den} (tab:cA P F.cx) (cE:bL P F.Γ) (hm:P.follows .mixedOrders=true) (vF:Env.code Y=some c) (cF:Ic c S Z=true) (ek:F.m=S.objs.length)
  {m:List (Nat×Code)} (ao:dF (.seq c.assign c.body) 0=m) (ds:mX P F c.nt m) (aB:(fW c.nt (.seq c.assign c.body)&& !eb (.seq c.assign c.body)&& !fh (.seq c.assign c.body))=true) (bH: ∀s,(qv F e1 Y c S Z s).val=g s):o3 P ⟨Y,S,Z,g⟩:=by
 have eY:=sd ao ds;simp only[fW,eb,fh,bB,Bool.not_eq_true',Bool.or_eq_false_iff]at aB;exact aqj vF cF ek (ZZ tab cE hm (fun q aN=>eY q (by simp[dF,aN])) (by simp[aB.1.1.1,aB.1.2.1,aB.2.1])) (ZZ tab cE hm (fun q aN=>eY q (by simp[dF,aN])) (by simp[aB.1.1.2,aB.1.2.2,aB.2.2])) bH
def Mq [Env] (F:a8):List (Nat×lK)->Prop
 |[]=>True
 |q::l=>(∀Y,F.rfs q.1=some Y->Env.code Y=some q.2)/\Mq F l
def Sb (P:Program):List Nat->Prop
 |[]=>True
 |f::l=>(∃fn,P.funcs[f]? =some fn/\(fn.name== "runtime.NumGoroutine")=false/\fn.body.isNone=false)/\Sb P l
theorem yR [Env] {F:a8} {q:Nat×lK} {Y:Nat} (h:F.rfs q.1=some Y) (aB:Env.code Y=some q.2): ∀Y,F.rfs q.1=some Y->Env.code Y=some q.2:=fun Z abA=>by
 rw[h]at abA;obtain rfl:=Option.some.inj abA;exact aB
theorem yI [Env] {F:a8} {n:Nat} {c:Code} {m:List (Nat×lK)} {its:List Nat} (hm:j1 n c=m) (h:Mq F m) (ab:F.its=its) (ad:Sb P its):ih P F n c:=by
 have eY: ∀(l:List (Nat×lK)),Mq F l-> ∀q∈l,∀Y,F.rfs q.1=some Y->Env.code Y=some q.2:=by
  intro l
  induction l with
  |nil=>intro _ q aN;cases aN
  |cons a l aO=>
   intro h q aN;rcases List.mem_cons.1 aN with rfl |aN
   ·exact h.1
   ·exact aO h.2 q aN
 have NZ: ∀f∈F.its,∃fn,P.funcs[f]? =some fn/\(fn.name== "runtime.NumGoroutine")=false/\fn.body.isNone=false:=by
  rw[ab];clear ab
  induction its with
  |nil=>intro f aK;cases aK
  |cons a l aO=>
   intro f aK;rcases List.mem_cons.1 aK with rfl |aK
   ·exact ad.1
   ·exact aO ad.2 f aK
 have key: ∀c,(∀q∈j1 n c,∀Y,F.rfs q.1=some Y->Env.code Y=some q.2)->ih P F n c:=by
  intro c
  induction c with
  |seq a b AG tg=>intro h;exact ⟨AG fun q aN=>h q (by simp[j1,aN]),tg fun q aN=>h q (by simp[j1,aN])⟩
  |cond x a b AG tg=>intro h;exact ⟨AG fun q aN=>h q (by simp[j1,aN]),tg fun q aN=>h q (by simp[j1,aN])⟩
  |block i c aO=>intro h;exact aO fun q aN=>h q (by simpa [j1] using aN)
  |scope c aO=>intro h;exact aO fun q aN=>h q (by simpa [j1] using aN)
  |rangeFunc g ps a b=>intro h;exact ⟨fun Y ND=>h (GI a b,⟨ps.toList,a,b,n⟩) (by simp[j1]) Y ND,NZ⟩
  |_=>intro _;trivial
 exact key c fun q aN=>eY m h q (by rw[<-hm];exact aN)
end
open Go.RowKit
section
variable {P:Program} {cx:bS} {φ:bw} {ι:Nat->Value} {w:World} {H:List aG} {nt:hV} {st aW:bn} {a:Act}
theorem aot: ∀(s:List dn) (R:List aG) (l:List dM),eX s R=some l->R.length=s.length:=by
 intro s
 induction s with
 |nil=>intro R l h;cases R<;>simp[eX]at h ⊢
 |cons a s aO=>
  intro R l h;cases R with
  |nil=>simp[eX]at h
  |cons b R=>
   simp only[eX]at h;split at h
   ·obtain ⟨b,ag,-⟩:=Option.map_eq_some_iff.1 h;simp[aO R b ag]
   ·cases h
theorem aas {S:Shape} {s:S.ty.den} (h:S.dec st=some s):st.regs.length=S.regs.length/\st.heap.length=S.objs.length:=by
 unfold Shape.dec at h;cases aR:hD S.regs st.regs with
 |none=>simp[aR]at h
 |some x=>
  cases ag:eX S.objs st.heap with
  |none=>simp[aR,ag]at h
  |some y=>exact ⟨xa _ _ _ aR,aot _ _ _ ag⟩
theorem Z3 {S:Shape} {m:Nat} {s:S.ty.den} (e:(S.take m st).val=some s):(S.enc s).heap.length=S.objs.length:=by
 unfold Shape.take at e;obtain ⟨⟨aW,cb,aJ,p'⟩,ai,aq⟩:=DT.val_bind_some e;simp only[DT.val_ofOpt]at aq;rw[Shape.dec_enc aq];exact (aas aq).2
theorem agC: ∀(l m:List ae) (xs aT:List Value),ae.relT φ ι w l xs->ae.relT φ ι w m aT->ae.relT φ ι w (l++m) (xs++aT):=by
 intro l
 induction l with
 |nil=>intro m xs aT aa ad;simp only[ae.relT]at aa;subst aa;exact ad
 |cons r l aO=>intro m xs aT aa ad;obtain ⟨v,pI,rfl,al,aE⟩:=aa;exact ⟨v,pI++aT,rfl,al,aO m pI aT aE ad⟩
theorem ap5: ∀(l m:List ae),ae.idsL (l++m)=ae.idsL l++ae.idsL m:=by
 intro l m
 induction l with
 |nil=>rfl
 |cons r l aO=>simp[ae.idsL,aO]
theorem Zq [Env] {fn:Func} {args:List ae} {vs:Array Value} (dy:bR φ ι w H) (eH:ae.relT φ ι w args vs.toList) (eu: ∀i∈ae.idsL args,(aF H i).live=true) (di:vs.size<=fn.ntmps) (gF:fn.ntmps<=c1) (hlen:vs.size=args.length):
  cO φ ι w ⟨fn.ntmps,w.heap.size,[],none,true⟩ ⟨(eW 0 args).put c1 (.tup []),H⟩ {tmps:=vs++Array.replicate (fn.ntmps-vs.size) undef,defers:=[]}:=by
 refine ⟨dy,fun d r ax=> ?_,by simp;omega,gF,mf (Nat.le_refl _)⟩;have ax:((eW 0 args).put c1 (.tup [])).get d=some r:=ax;rw[bD.get_put]at ax;by_cases kJ:d=c1
 ·subst kJ;simp only[if_true,bt]at ax;subst ax;rw[oV];exact ⟨⟨#[],rfl,rfl⟩,by simp[ae.ids,ae.idsL]⟩
 ·simp only[kJ,if_false]at ax;obtain ⟨a1,k2,b8⟩:=mD args 0;obtain ⟨k,av,gq⟩:=lA _ 0 d r (by rw[a1,k2]) ax;have fF:d=k:=by omega
  subst fF;have bo:=b8 d (d,r) gq;simp only at bo;obtain ⟨v,aX,hO⟩:=rU eH bo;have ee:vs[d]? =some v:=by simpa using aX
  have kc:d<vs.size:=(Array.getElem?_eq_some_iff.1 ee).1;have:(vs++Array.replicate (fn.ntmps-vs.size) undef).getD d undef=v:=by
   rw[Array.getD_eq_getD_getElem?,Array.getElem?_append_left kc,ee];rfl
  rw[hp kJ,this];exact ⟨hO,fun i ab=>eu i (rX bo i ab)⟩
def Es (fn:Func):Bool:=
 fW fn.ntmps (bJ fn)&& !eb (bJ fn)&& !fh (bJ fn)&&Nat.ble fn.ntmps c1&& !(fn.name== "runtime.NumGoroutine")&&fn.results.toList.isEmpty
def Mo (fn:Func) (S Z:Shape):Bool:=
 fW fn.ntmps (bJ fn)&& !eb (bJ fn)&&Nat.ble fn.ntmps c1&&Nat.ble fn.results.size c1&& !(fn.name== "runtime.NumGoroutine")&&Nat.ble S.regs.length fn.ntmps&&decide (Z.regs.map (·.1)=List.range' 0 fn.results.size)
set_option maxHeartbeats 1000000 in
theorem aou [Env] {Fd:a8} {m:Nat} {L:bq} {fd:FuncId} {fnd fn:Func} (tab:cA P Fd.cx) (cE:bL P Fd.Γ) (hm:P.follows .mixedOrders=true) (aK:P.funcs[fd]? =some fnd) (ag:fnd.body=some (bJ fnd)) (cF:Es fnd=true)
  (ao: ∀q∈dF (bJ fnd) 0,fS P Fd fnd.ntmps q.1 q.2) (vK:Fd.m=L.S.objs.length) (ik:nt.df) {R:Ending->World->Prop} {o:L.Out}:
  ∀n s φ ι w a,dR (fun s=>(sr L m Fd fd fnd s).val) n s=some o->cO φ ι w nt (L.S.enc s) a->(L.S.enc s).heap.length=L.S.objs.length->fC (L.S.enc s).heap.length (L.S.enc s).heap->fC m (L.S.enc s).heap->
   (∀x w' φ' ι',o=.inl x->CN φ' ι' w' (L.X.enc x) a->cO φ' ι' w' nt (L.X.enc x) {a with defers:=[]}->Step φ ι w (L.S.enc s).heap φ' ι' w' (L.X.enc x).heap->gK m ι (L.S.enc s).heap ι' (L.X.enc x).heap-> ∃v,(results fn a.tmps).run P w'=.ok v w'/\R (.returned v) w')->
   LeavesInM (ed none) 0 P fn a.tmps R a.defers .returning w:=by
 intro n
 induction n with
 |zero=>intro s φ ι w a h;cases h
 |succ n aO=>
  intro s φ ι w a h bV hlen atk lm cB;simp only[dR]at h;cases ep:(sr L m Fd fd fnd s).val with
  |none=>simp[ep]at h
  |some r=>
  simp only[ep]at h;unfold sr at ep;split at ep
  ·rename_i f A B t xs ph;have q:=DT.val_bif ep;clear ep;obtain ⟨Fq,ep⟩:=q;simp only[bB,Nat.beq_eq]at Fq;obtain ⟨Fq,Aj⟩:=Fq;have Aj:=Nat.le_of_ble_eq_true Aj;subst Fq;obtain ⟨⟨vs,dK,Au,eY⟩,eu⟩:=bV.regs c1 _ ph;rw[oV]at dK;have dK:a.defers.map qo=vs:=by simpa using dK
   cases xs with
   |nil=>
    simp only[List.isEmpty_nil,DT.val,az]at ep;obtain ⟨x,ai,aq⟩:=DT.val_bind_some ep;simp only[DT.val,bt]at aq;subst aq;simp only[bt]at h;subst h;have nn:a.defers=[]:=by
     have:(a.defers.map qo).length=0:=by rw[dK];simpa using Au
     simpa using this
    have fH:(⟨(L.S.enc s).regs,(L.S.enc s).heap⟩:bn)=L.S.enc s:=rfl;rw[fH]at ai;obtain ⟨φ',ι',a1,k2,b8,-,-⟩:=j9 ai bV lm;rw[nn];have aR:{a with defers:=[]}=a:=by cases a;simp only at nn;subst nn;rfl
    exact cB x w φ' ι' rfl a1.rr (by rw[aR];exact a1) k2 b8
   |cons x l=>
    simp only[List.isEmpty_cons,DT.val,aM,List.head?_cons,List.tail_cons]at ep;obtain ⟨⟨ai,b9⟩,aa,ad⟩:=DT.val_bind_some ep;clear ep;obtain ⟨qY,al⟩:(ai=.nrm\/ai=.ret)/\b9.regs.get c1=some (.tup [])/\((L.S.take m ⟨(L.S.enc s).regs.put c1 (.dfr f A B t l),b9.heap⟩).bind fun s=>DT.leaf (Sum.inl (β:=L.Out) s)).val=some r:=by
     cases ai with
     |exit i=>simp[DT.val]at ad
     |nrm=>
      simp only at ad;split at ad
      ·rename_i bH;cases bH
      ·rename_i bH _;exact ⟨.inl rfl,bH,ad⟩
      ·simp[DT.val]at ad
     |ret=>
      simp only at ad;split at ad
      ·rename_i bH;cases bH
      ·rename_i bH _;exact ⟨.inr rfl,bH,ad⟩
      ·simp[DT.val]at ad
    obtain ⟨abR,al⟩:=al;obtain ⟨gg,aE,aZ⟩:=DT.val_bind_some al;simp only[DT.val,bt]at aZ;subst aZ;simp only at h;cases vs with
    |nil=>simp at Au
    |cons u vs=>
    obtain ⟨a7,j7,aY,rfl,au,aL,bF⟩:=eY 0 x u rfl rfl;obtain ⟨d,ei,NP,kI,n5⟩: ∃d ei,a.defers=d::ei/\qo d=.func (.func f) #[] (a7++j7::aY).toArray/\ei.map qo=vs:=by
     cases mF:a.defers with
     |nil=>rw[mF]at dK;simp at dK
     |cons d ei=>
      rw[mF]at dK;simp only[List.map_cons,List.cons.injEq]at dK;exact ⟨d,ei,rfl,dK.1,dK.2⟩
    obtain ⟨aU,asN⟩:d.target=.fn (.func f) (a7++j7::aY).toArray/\d.args= #[]:=by
     unfold qo at kI;split at kI
     ·rename_i g y bH;injection kI with bj bU da
      exact ⟨by rw[bH,bj,da],bU⟩
     ·cases kI
    simp only[Es,bB,Bool.not_eq_true',List.isEmpty_iff]at cF;obtain ⟨⟨⟨⟨⟨atw,aeu⟩,atx⟩,Pg⟩,aty⟩,atz⟩:=cF;have Pg:=Nat.le_of_ble_eq_true Pg;rw[NP];refine ⟨by simp,.inr ⟨(fun h=>(by cases h)),.func f,_,f,#[]++(a7++j7::aY).toArray,aU,?_,fun _ _=>trivial,?_⟩⟩
    ·rw[aU,asN];have z7: ¬fnd.name= "runtime.NumGoroutine":=by simpa using aty
     simp only[invoke];unfold callFunc;simp[aK,z7,ag]
    have eH:ae.relT φ ι w (A++ .fptr t x::B) (#[]++(a7++j7::aY).toArray).toList:=by
     simp only[Array.empty_append];refine agC _ _ _ _ au ⟨j7,aY,rfl,aL,bF⟩
    obtain ⟨args,ars⟩: ∃args:Array Value,#[]++(a7++j7::aY).toArray=args:=⟨_,rfl⟩;rw[ars]at eH ⊢;have ar1: ∀i∈ae.idsL (A++ .fptr t x::B),(aF (L.S.enc s).heap i).live=true:=by
     intro i ab;refine eu i ?_;rw[ap5]at ab;simpa [ae.ids,ae.idsL] using ab
    have acj:args.size=(A++ae.fptr t x::B).length:=by
     have: ∀(l:List ae) (vs:List Value),ae.relT φ ι w l vs->vs.length=l.length:=by
      intro l
      induction l with
      |nil=>intro vs h;simp only[ae.relT]at h;simp[h]
      |cons r l aO=>intro vs h;obtain ⟨v,m,rfl,-,h⟩:=h;simp[aO m h]
     simpa using this _ _ eH
    refine CallsDIn.mono (callsDIn_of_wp (F:=ed none) aK ag trivial (R:=fun e w'=> ∃v,e=.returned v/\LeavesInM (ed none) 0 P fn a.tmps R ei .returning w') ?_) fun e hv w'=> ?_
    ·have jY:cO φ ι w ⟨fnd.ntmps,w.heap.size,[],none,true⟩ ⟨(eW 0 (A++ .fptr t x::B)).put c1 (.tup []),(L.S.enc s).heap⟩ {tmps:=args++Array.replicate (fnd.ntmps-args.size) undef,defers:=[]}:=by
      refine Zq bV.heap eH ar1 ?_ Pg acj;rw[acj];simp only[List.length_append,List.length_cons];omega
     refine l5 tab cE hm (bJ fnd) 0 _ ai b9 φ ι w _ _ aa ao atw (dQ _ aeu) (hf.no aeu atx) jY (by rw[vK,<-hlen];exact atk) fun bd w' φ' ι' cu sp bG=> ?_
     have mF:bd.defers=[]:=by
      obtain ⟨⟨tV,FK,OF⟩,-⟩:=cu.regs c1 _ abR;rw[oV]at FK;simp only[ae.relT]at OF;have:tV= #[]:=by cases tV;simpa using OF
      subst this;simpa using FK
     have kN:=tP (P:=P) (fn:=fnd) (a:=bd) (vs:=[]) (w:=w') (by rw[atz];rfl);have ace:bd.defers=[]/\ ∃v,(results fnd bd.tmps).run P w'=.ok v w'/\ ∃j0,Ending.returned v=.returned j0/\LeavesInM (ed none) 0 P fn a.tmps R ei .returning w':=by
      refine ⟨mF,_,kN,_,rfl,?_⟩;have uf:dA ι (L.S.enc s).heap ι' b9.heap:=by
       rw[vK,<-hlen]at bG;exact ⟨fun o an=>(bG o (fo an) an).1,fun o an=>(bG o (fo an) an).2⟩
      have ox:cO φ' ι' w' nt ⟨(L.S.enc s).regs.put c1 (.dfr f A B t l),b9.heap⟩ {a with defers:=ei}:=by
       refine ⟨cu.heap,fun o8 fD jM=> ?_,bV.nt,bV.small,⟨Nat.le_trans bV.defers.1 sp.size,fun h=>by rw[ik.2.1]at h;cases h⟩⟩;have jM:((L.S.enc s).regs.put c1 (.dfr f A B t l)).get o8=some fD:=jM;rw[bD.get_put]at jM;by_cases kJ:o8=c1
       ·subst kJ;simp only[if_true,bt]at jM;subst jM;have old:(ae.dfr f A B t l).rel φ ι w (.tuple vs.toArray):=⟨vs,rfl,by simpa using Au,fun i y hv bf hu=>eY (i+1) y hv (by simpa using bf) (by simpa using hu)⟩;rw[oV];simp only[n5];exact ⟨ae.rel_step sp uf eu old,fun i ab=>uf.live i (eu i ab)⟩
       ·simp only[kJ,if_false]at jM;have bY:=bV.regs o8 fD jM;rw[hp kJ]at bY ⊢;exact ⟨ae.rel_step sp uf bY.2 bY.1,fun i ab=>uf.live i (bY.2 i ab)⟩
      have jU:fC m b9.heap:=fun o an=>uf.live o (lm o an)
      obtain ⟨dv,dz,a1,k2,b8,dD,gb⟩:=j9 aE ox jU;refine aO gg dv dz w' {a with defers:=ei} h a1 (Z3 aE) gb (b8.live jU) fun x fy k0 kZ an bj bU da c8=> ?_
      exact cB x fy k0 kZ an ⟨bj.heap,bj.regs⟩ bU ((sp.trans k2).trans da) (((uf.keepM m).trans b8).trans c8)
     rcases qY with rfl |rfl
     ·exact ace
     ·exact ace
    ·rintro ⟨rfl,v,rfl,lS⟩;exact lS
  ·simp[DT.val]at ep
set_option maxHeartbeats 1000000 in
theorem apf [Env] {F Fd:a8} (tab:cA P F.cx) (cE:bL P F.Γ) (hm:P.follows .mixedOrders=true) {f:FuncId} {fn:Func} {S Z:Shape} (aK:P.funcs[f]? =some fn) (ag:fn.body=some (bJ fn)) (cF:Mo fn S Z=true) (ds: ∀q∈dF (bJ fn) 0,fS P F fn.ntmps q.1 q.2)
  {L:bq} {fd:FuncId} {fnd:Func} {g:L.S.ty.den->Option L.Out} (l3:F.Λ c1=L.go g F.m) (PI:cA P Fd.cx) (Nr:bL P Fd.Γ) (ll:P.funcs[fd]? =some fnd) (NJ:fnd.body=some (bJ fnd)) (Od:Es fnd=true)
  (ny: ∀q∈dF (bJ fnd) 0,fS P Fd fnd.ntmps q.1 q.2) (vK:Fd.m=L.S.objs.length) (bH: ∀s o,g s=some o-> ∃n,dR (fun s=>(sr L F.m Fd fd fnd s).val) n s=some o)
  {args:List ae} (ek:F.m=S.objs.length) {s:S.ty.den} {z:Z.ty.den} (ar:S.dec ⟨eW 0 args,H⟩=some s) (e:(Eu F fn S Z s).val=some z):iL P f args H (iK (Z.enc z).regs) (Z.enc z).heap:=by
 have fG:=Shape.dec_enc ar;simp only[Mo,bB,Bool.not_eq_true',dd]at cF;obtain ⟨⟨⟨⟨⟨⟨mH,ab7⟩,gF⟩,gR⟩,lX⟩,lY⟩,lZ⟩:=cF;have gF:=Nat.le_of_ble_eq_true gF;have gR:=Nat.le_of_ble_eq_true gR;have hn:args.length=S.regs.length/\H.length=S.objs.length:=by
  have:=aas ar;exact ⟨by rw[<-this.1];exact ((mD args 0).2.1).symm,this.2⟩
 unfold Eu at e;rw[ag]at e;simp only[Option.getD_some]at e;obtain ⟨⟨ai,fx⟩,aa,ad⟩:=DT.val_bind_some e;have al:ai=.nrm\/ai=.ret:=by
  cases ai with
  |nrm=>exact .inl rfl
  |ret=>exact .inr rfl
  |exit i=>simp[DT.val]at ad
 have aE:((F.Λ c1 fx).bind fun q=>((kn F.cx q.2.regs 0 fn.results.toList).run q.2.heap q.2.heap.length .none).bind fun (R,h,_,_)=>Z.take F.m ⟨R,h⟩).val=some z:=by
  rcases al with rfl |rfl<;>exact ad
 clear ad e;obtain ⟨⟨aq,b9⟩,aZ,bu⟩:=DT.val_bind_some aE;clear aE;simp only at bu;rw[l3]at aZ;unfold bq.go at aZ;obtain ⟨s1,t1,t2⟩:=DT.val_bind_some aZ;clear aZ;obtain ⟨o,an,he⟩: ∃o,g s1=some o/\(aq,b9)=L.fin o:=by
  cases iA:g s1 with
  |none=>simp[iA,DT.val]at t2
  |some o=>
   refine ⟨o,rfl,?_⟩;cases o with
   |inl x=>simp only[iA,DT.val,bt]at t2;exact t2.symm
   |inr y=>simp only[iA,DT.val,bt]at t2;exact t2.symm
 obtain ⟨n,aQ⟩:=bH s1 o an;obtain ⟨⟨R,bC,kR,ry⟩,g6,dq⟩:=DT.val_bind_some bu;have ix:=HM.go_run _ _ _ _ _ _ _ _ g6;have jn:(Z.enc z).regs.map (·.1)=List.range' 0 fn.results.size:=by
  obtain ⟨⟨aW,bC,wJ,pp⟩,a1,k2⟩:=DT.val_bind_some dq;simp only[DT.val_ofOpt]at k2;have b8:(Z.enc z).regs.map (·.1)=Z.regs.map (·.1):=by
   unfold Shape.dec at k2;cases aR:hD Z.regs aW.regs with
   |none=>simp[aR]at k2
   |some x=>
    cases ag:eX Z.objs aW.heap with
    |none=>simp[aR,ag]at k2
    |some y=>
     have:=pL _ _ x [] aR;rw[Shape.dec_enc (st:=aW) (by simp only[Shape.dec,aR,ag]at k2 ⊢;exact k2)];exact tD _ _ _ _ this
  rw[b8,lZ]
 refine ⟨⟨fn,aK,lX,by rw[ag];rfl⟩,?_⟩;intro φ ι w vs dy ej eH eu;refine u1 aK ag ?_;have dK:vs.size=args.length:=by
  have: ∀(l:List ae) (vs:List Value),ae.relT φ ι w l vs->vs.length=l.length:=by
   intro l
   induction l with
   |nil=>intro vs h;simp only[ae.relT]at h;simp[h]
   |cons r l aO=>intro vs h;obtain ⟨v,m,rfl,-,h⟩:=h;simp[aO m h]
  simpa using this _ _ eH
 have di:vs.size<=fn.ntmps:=by
  rw[dK,hn.1];exact Nat.le_of_ble_eq_true lY
 rw[fG]at aa;have jY:=Zq (fn:=fn) dy eH eu di gF dK;have h9:fC F.m H:=by
  rw[ek,<-hn.2];exact fun o an=>ej o an
 refine l5 tab cE hm (bJ fn) 0 _ ai fx φ ι w _ _ aa ds mH (dQ _ ab7) (hf.fnD ab7) jY h9 fun bd w' φ' ι' cu sp bG=> ?_
 have jU:=bG.live h9;obtain ⟨cT,er,a1,k2,b8,dD,gb⟩:=j9 t1 cu jU;have key:LeavesInM (ed none) 0 P fn bd.tmps (fun e w'=> ∃v φ' ι',e=.returned v/\bR φ' ι' w' (Z.enc z).heap/\Step φ ι w H φ' ι' w' (Z.enc z).heap/\dA ι H ι' (Z.enc z).heap/\(iK (Z.enc z).regs).rel φ' ι' w' v/\ ∀i∈(iK (Z.enc z).regs).ids,(aF (Z.enc z).heap i).live=true) bd.defers .returning w':=by
  refine aou PI Nr hm ll NJ Od ny vK ⟨rfl,rfl,rfl⟩ n s1 cT er w' bd aQ a1 (Z3 t1) gb (b8.live jU) fun x c9 dv dz aw bj bU da c8=> ?_
  subst aw;have lk:b9=L.X.enc x:=by
   have:=congrArg Prod.snd he;exact this
  subst lk;have nH:=(sp.trans k2).trans da;have lz:=(bG.trans b8).trans c8;have O4:=lz.live h9;obtain ⟨gG,gH,us,pO,Gh,ry,atJ⟩:=tN tab fn.results.toList 0 R (L.X.enc x).heap _ bC kR ix bj.heap bj.regs;have kF:R.length=us.length:=by
   have:=congrArg List.length ry;simpa [Gh] using this
  have kO:us.toArray.size=fn.results.size:=by simpa using Gh
  have iH:cO dv dz c9 ⟨us.toArray.size,0,[],none,false⟩ ⟨R,bC⟩ {tmps:=us.toArray,defers:=[]}:=by
   rw[gG];refine ⟨bj.heap,fun d r ax=> ?_,rfl,by rw[kO];exact gR,mf (Nat.zero_le _)⟩;obtain ⟨k,av,gq⟩:=lA R 0 d r (by rw[ry];congr 1;omega) ax;have fF:d=k:=by omega
   subst fF;obtain ⟨v,aX,hO,ft⟩:=atJ d (d,r) gq;have:us.toArray.getD d undef=v:=by simp[Array.getD_eq_getD_getElem?,aX]
   have kc:d<us.length:=(List.getElem?_eq_some_iff.1 aX).1;have awG:us.length=us.toArray.size:=by simp
   rw[hp (by omega)];simp only[this];exact ⟨hO,ft⟩
  obtain ⟨k0,kZ,cZ,cr,ey,ki,oj⟩:=j9 dq iH (by rw[gG];exact O4);have gm:(Z.enc z).regs.length=us.toArray.size:=by
   have:=congrArg List.length jn;simp only[List.length_map,List.length_range']at this;rw[this,kO]
  have qZ:(Z.enc z).regs.map (·.1)=List.range' 0 (Z.enc z).regs.length:=by rw[jn,gm,kO]
  obtain ⟨au,aL⟩:=so (vs:=us.toArray) (R:=(Z.enc z).regs) qZ gm (uF (a:={tmps:=us.toArray,defers:=[]}) qZ (by rw[gm,kO];exact gR) cZ.regs);have kN:=tP pO;refine ⟨_,kN,_,k0,kZ,rfl,cZ.heap,?_,?_,au,aL⟩
  ·rw[gG]at cr;exact nH.trans cr
  ·rw[gG]at ey;have hr:=lz.trans ey;refine ⟨fun o an=> ?_,fun o an=> ?_⟩
   ·have bb:o<F.m:=by rw[ek,<-hn.2];exact fo an
    exact (hr o bb an).1
   ·have bb:o<F.m:=by rw[ek,<-hn.2];exact fo an
    exact (hr o bb an).2
 rcases al with rfl |rfl
 ·exact key
 ·exact key
theorem aoy [Env] {F Fd:a8} (tab:cA P F.cx) (cE:bL P F.Γ) (hm:P.follows .mixedOrders=true) {E:aS} {fn:Func} (aK:P.funcs[E.f]? =some fn) (ag:fn.body=some (bJ fn)) (cF:Mo fn E.S E.Z=true) {m:List (Nat×Code)} (ao:dF (bJ fn) 0=m) (ds:mX P F fn.ntmps m)
  {L:bq} {fd:FuncId} {fnd:Func} {b:L.S.ty.den->Option (L.S.ty.den⊕L.Out)} {g:L.S.ty.den->Option L.Out} (arQ: ∀s,g s=bN b s) (l3:F.Λ c1=L.go g F.m) (PI:cA P Fd.cx) (Nr:bL P Fd.Γ) (ll:P.funcs[fd]? =some fnd) (NJ:fnd.body=some (bJ fnd)) (Od:Es fnd=true)
  (ny:dF (bJ fnd) 0=[]) (vK:Fd.m=L.S.objs.length) (n2: ∀s,(sr L F.m Fd fd fnd s).val=b s) (ek:F.m=E.S.objs.length) (bH: ∀s,(Eu F fn E.S E.Z s).val=E.g s):cc P E:=
 fun args H s z ar bA=>apf (L:=L) (g:=g) tab cE hm aK ag cF (sd ao ds) l3 PI Nr ll NJ Od (by rw[ny];simp) vK (fun s o h=>by
  rw[arQ]at h;obtain ⟨n,aQ⟩:=KH h;exact ⟨n,by rw[show (fun s=>(sr L F.m Fd fd fnd s).val)=b from funext n2];exact aQ⟩) ek ar ((bH s).trans bA)
end
open Go.RowKit
def qt (P:Program):DataW (List UInt8)->Option Nat->Bool
 | .nil,none=>true
 | .held (b::r),some f=>decide (((List.range P.funcs.size).filter fun f=>(P.funcs[f]?).any (·.name.toUTF8.data.toList==b::r))=[f])
 |_,_=>false
def uZ (P:Program):List (DataW (List UInt8))->List (Option Nat)->Bool
 |[],[]=>true
 |d::ei,o::os=>qt P d o&&uZ P ei os
 |_,_=>false
theorem YL {P:Program}: ∀(ei:List (DataW (List UInt8))) (os:List (Option Nat)),uZ P ei os=true-> ∀(i:Nat) (o:Option Nat),os[i]? =some o-> ∃d,ei[i]? =some d/\qt P d o=true
 |[],[],_,i,o,h=>by simp at h
 |[],_::_,h,_,_,_=>by simp[uZ]at h
 |_::_,[],h,_,_,_=>by simp[uZ]at h
 |d::ei,o::os,h,i,dg,ab=>by
  simp only[uZ,bB]at h;cases i with
  |zero=>
   simp only[List.getElem?_cons_zero,bt]at ab;subst ab;exact ⟨d,rfl,h.1⟩
  |succ i=>simpa using YL ei os h.2 i dg (by simpa using ab)
theorem apL {P:Program} {w:World} {base:Nat} {sp:Nat->Bool} {fuel:Nat} {e:TypeId} {ps rs:Array TypeId} {kX:Bool} {v:Value} {q:List MemPlace} {d:DataW (List UInt8)} {o:Option Nat}
  (aU:P.underlying e=some (.func ps rs kX)) (aR:qt P d o=true) (h:DataW.trod (funcToken P) P w base sp true fuel e [v]=some (d,q)):v=lg o:=by
 cases d with
 |nil=>
  cases o with
  |some f=>simp[qt]at aR
  |none=>
   cases fuel with
   |zero=>simp[DataW.trod]at h
   |succ n=>cases v<;>simp[DataW.trod,aU]at h<;>rfl
 |held k=>
  cases k with
  |nil=>cases o<;>simp[qt]at aR
  |cons b r=>
   cases o with
   |none=>simp[qt]at aR
   |some f=>
    simp only[qt,dd]at aR;exact func_of_trod aU aR h
 |_=>cases o<;>simp[qt]at aR
theorem api {P:Program} {w:World} {n:String} {d:DataW Unit} (h:funcsAt P w n d) {g t e:Nat} {fs:List (Option Nat)} {ps rs:Array TypeId} {kX:Bool} {ei:List (DataW (List UInt8))} (ax:d.funcsOut=.agg ei) (bH:P.globalNamed n=some g) (aU:(P.globals[g]?).map (·.type)=some t)
  (hu:P.underlying t=some (.array fs.length e)) (At:P.underlying e=some (.func ps rs kX)) (aB:P.cellsOf e=1) (aR:uZ P ei fs=true):ja (Told w) w g 0 (fs.map lg):=by
 obtain ⟨M9,hd,cs,fuel,p,arP,Oz,aX,aA⟩:=h;obtain rfl:=Option.some.inj (bH.symm.trans arP);obtain rfl:=Option.some.inj (aU.symm.trans Oz);rw[ax]at aA;obtain ⟨xs,m,_,aw,lU,hlen,fj⟩:=DataW.trod_array hu aA;simp only[cw,DataW.agg.injEq]at aw;obtain ⟨NP,-⟩:=aw;intro i v ab;rw[List.getElem?_map]at ab;obtain ⟨o,an,rfl⟩:=Option.map_eq_some_iff.1 ab;obtain ⟨av4,abJ,arp⟩:=YL ei fs aR i o an;have bb:i<fs.length:=(List.getElem?_eq_some_iff.1 an).1;have h5:=fj i bb;rw[aB,Nat.mul_one]at h5;rw[NP,List.getElem?_map]at abJ;obtain ⟨y,bf,rfl⟩:=Option.map_eq_some_iff.1 abJ;rw[bf]at h5;have eZ:=World.var?_cell bH aX i;have key: ∃u,cs[i]? =some u/\(cs.toList.drop i).take 1=[u]:=by
  cases hu:cs[i]? with
  |some u=>
   have aa:cs.toList[i]? =some u:=by simpa using hu
   refine ⟨u,rfl,?_⟩;obtain ⟨ad,al⟩:=List.getElem?_eq_some_iff.1 aa;rw[List.drop_eq_getElem_cons ad,al];rfl
  |none=>
   have aa:cs.toList.length<=i:=by simpa using hu
   rw[List.drop_of_length_le aa]at h5;cases m with
   |zero=>simp[DataW.trod]at h5
   |succ m=>simp[DataW.trod,At]at h5
 obtain ⟨u,asR,asS⟩:=key;rw[asS]at h5;have:=apL At arp (d:=y.1) (q:=y.2) h5;rw[asR,this]at eZ;rw[Nat.zero_add];exact ⟨⟨_,eZ⟩,eZ⟩
open Go.RowKit Go.Shelf
def yy (s:List UInt8×List UInt8×Unit):Option (List UInt8×Unit):=
 bif Nat.blt s.1.length 4294967281&&Nat.blt s.2.1.length 4294967281&&s.2.1.all (fun b=>Nat.blt b.toNat 128) then some (Lib.trimS s.1 s.2.1,()) else none
section
variable {P:Program}
theorem af6 [Env] {ρ:Ren} (L:Go.Proofs.Lays.n160 P ρ) (Fk:(P.info? (ρ.t 116)).map (fun i=>(i.zero,i.size))=some (some (.agg (Array.replicate 256 (.bool false))),256)) {fn:Func} (aK:P.funcs[ρ.f 160]? =some fn) (cF:(!(fn.name== "runtime.NumGoroutine")&& !fn.body.isNone)=true):
  cc P ⟨ρ.f 160,⟨[(0,.dat .str),(1,.dat .str)],[]⟩,⟨[(0,.dat .str)],[]⟩,yy⟩:=by
 intro args H s z ar bA;have fG:=Shape.dec_enc ar;obtain ⟨a,b,u⟩:=s;have bA:yy (a,b,u)=some z:=bA;unfold yy at bA;simp only at bA;cases aB:Nat.blt a.length 4294967281&&Nat.blt b.length 4294967281&&b.all (fun b=>Nat.blt b.toNat 128)
 ·rw[aB]at bA;cases bA
 rw[aB,az]at bA;obtain rfl:=Option.some.inj bA;simp only[bB]at aB;obtain ⟨⟨aY,fe⟩,c5⟩:=aB;have aY:=Nat.le_of_ble_eq_true aY;have fe:=Nat.le_of_ble_eq_true fe;have h5:(Shape.enc ⟨[(0,.dat .str),(1,.dat .str)],[]⟩ (a,b,u))=⟨[(0,.dat .str a),(1,.dat .str b)],[]⟩:=rfl;have fG:=h5.symm.trans fG;injection fG with aa ad
 obtain rfl:args=[.dat .str a,.dat .str b]:=(uQ 0 [.dat .str a,.dat .str b] args aa).symm;subst ad;simp only[bB,Bool.not_eq_true']at cF;refine ⟨⟨fn,aK,cF.1,cF.2⟩,fun φ ι w vs dy ej eH eu=> ?_⟩;obtain ⟨v1,cZ,ai,au,v2,cr,aq,aL,hm⟩:=eH;simp only[ae.relT]at hm;subst hm aq;have fB:v1=.string ⟨⟨a⟩⟩:=cf.str.1 au;have lb:v2=.string ⟨⟨b⟩⟩:=cf.str.1 aL;subst fB lb;obtain rfl:vs= #[.string ⟨⟨a⟩⟩,.string ⟨⟨b⟩⟩]:=by cases vs;simp at ai;simp[ai]
 have di: ∀l:List UInt8,(⟨⟨l⟩⟩:ByteArray).size=l.length:=fun _=>rfl
 refine (Go.Proofs.Any.strings_Trim_laid L Fk ⟨⟨a⟩⟩ ⟨⟨b⟩⟩ w (by rw[di];omega) (by rw[di];omega) (fun j x aw=> ?_)).mono ?_
 ·have aw:b[j]? =some x:=aw;have:=List.all_eq_true.1 c5 x (List.mem_of_getElem? aw);exact Nat.le_of_ble_eq_true this
 ·rintro e w' ⟨rfl,ag⟩;obtain ⟨a1,k2⟩:=dy.below ag;exact ⟨_,φ,ι,rfl,a1,k2,dA.refl _ _,gC (cf.str.2 rfl),fun i ab=>absurd (show i∈([]:List Nat) from ab) (by simp)⟩
end
end Go.X
