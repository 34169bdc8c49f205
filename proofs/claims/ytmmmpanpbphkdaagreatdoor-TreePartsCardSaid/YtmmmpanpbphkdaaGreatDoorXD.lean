import Derived.Test.YtmmmpanpbphkdaaGreatDoorXC
import Derived.Lib.Overlaps
import Derived.Shelf.Strings.IndexAnyAll
import Derived.LaidHandle
import Derived.LaidMore
import Derived.OpenShut
import Derived.Shelf.Strings.SlTrimAscii
set_option linter.unusedVariables false
set_option linter.unusedSimpArgs false
namespace Go.X
open Go.RowKit
def FL (t:aD):List ae->List aG->DT (ae×List aG)
 |[.own u o,.view v p lo ab],H=>match aF H o,aF H p with
  | .arr _ a _ false,.arr _ b _ false=>bif decide (u=t)&&decide (v=t)&&decide (a=t)&&decide (b=t)&& !Nat.beq o p then .leaf (.dat .bool false,H) else .fail
  |_,_=>.fail
 |_,_=>.fail
section
variable {P:Program}
theorem Rt {w:World} {A2 atW e:TypeId} (aU:P.underlying A2=some (.slice e)) {size:Nat} (bz: ∀w,(Go.sizeOf e).run P w=.ok size w) {a b:Option Addr} {h1 Eh Am hx:Nat} (h:a=none\/b=none\/h1=0\/Am=0):
  (Extern.SlicesOverlaps.overlaps #[A2,A2] #[atW] #[.slice a h1 Eh,.slice b Am hx]).run P w=.ok (.bool false) w:=by
 change Sem.run P (α:=Value) (do
  let some t:=(#[A2,A2]:Array TypeId)[0]? |stuck "slices.overlaps: no parameter types"
  let .slice elem<-underlying t |stuck "slices.overlaps: slice type expected"
  let size<-sizeOf elem
  match (a:Option Addr),(b:Option Addr) with
  |some a,some b=>
   if h1=0\/Am=0\/size=0 then pure (Value.bool false)
   else if a.block != b.block&&(<-frozen a)&&(<-frozen b) then unsupported .addressObserved
   else do
    if a.block != b.block then do
     noView a;noView b
     if<-mayBeOne a b then return Value.bool ((<-choose (.extern "sameAddr.stringBytes" 2))==1)
    pure (Value.bool (a.block==b.block&&a.off<b.off+Am*size&&b.off<a.off+h1*size))
  |_,_=>pure (Value.bool false)) w=_
 cases a with
 |none=>cases b<;>simp[run_underlying aU,bz]
 |some a=>
  cases b with
  |none=>simp[run_underlying aU,bz]
  |some b=>
   have bX:h1=0\/Am=0\/size=0:=by
    rcases h with h |h |h |h
    ·cases h
    ·cases h
    ·exact .inl h
    ·exact .inr (.inl h)
   simp[run_underlying aU,bz,bX]
theorem apb [Env] {f:FuncId} (NJ:hP f=false) {fn:Func} {T T2 e:TypeId} {t:aD} {bytes:Nat} (sV:t≠ .int .u8) (aJ:P.funcs[f]? =some fn) (Nt:(fn.name== "runtime.NumGoroutine")=false) (ag:fn.body.isNone=true) (aQ:Extern.findNext fn=none)
  (he:Extern.find fn=some (Extern.SlicesOverlaps.overlaps #[T,T] #[T2])) (ax:P.underlying T=some (.slice e)) (fg:qC P e t bytes) (args:List ae) (H:List aG) (r:ae) (aC:List aG) (h:(FL t args H).val=some (r,aC)):tX P f args H r aC:=by
 unfold FL at h;split at h
 case h_2=>simp[DT.val]at h
 rename_i u o v p lo ab;split at h
 case h_2=>simp[DT.val]at h
 rename_i ai a xs aq b aT an aP;cases aB:decide (u=t)&&decide (v=t)&&decide (a=t)&&decide (b=t)&& !Nat.beq o p
 ·rw[aB]at h;simp[DT.val]at h
 rw[aB,aA]at h;simp only[DT.val,bs,ct]at h;obtain ⟨rfl,rfl⟩:=h;simp only[bB,db,Bool.not_eq_true']at aB;obtain ⟨⟨⟨⟨hu,aX⟩,aR⟩,dB⟩,cf⟩:=aB;subst hu aX;subst aR;subst dB;have cf:o≠p:=by rintro rfl;simp at cf
 intro φ ι w vs dy ei eG eu;obtain ⟨v1,c2,bh,ar,v2,cr,bZ,aM,hm⟩:=eG;simp only[ae.relT]at hm;subst hm bZ;obtain rfl:vs= #[v1,v2]:=by cases vs;simp at bh;simp[bh]
 have aa:=dy.obj o;have ad:=dy.obj p;rw[an]at aa;rw[aP]at ad;obtain ⟨A,n,c,en,a2,a3,a4,a5⟩:=aa;obtain ⟨B,m,d,b1,b2,b3,gI,gU⟩:=ad;obtain ⟨rfl,-⟩:=ar;obtain ⟨auK,pD,o2,aeR,a7,aY,c3,fb,rfl,o0,qq⟩:=aM;rw[b1]at a7;obtain ⟨rfl,rfl,rfl⟩:=hh a7;have bz:=fun w=>wm (P:=P) fg w
 have dU:(Extern.SlicesOverlaps.overlaps #[T,T] #[T2] #[ι o,.slice aeR (ab-lo) (d-lo)]).run P w=.ok (.bool false) w:=by
  rw[en];by_cases aq3:n=0
  ·exact Rt ax bz (.inr (.inr (.inl aq3)))
  by_cases E3:ab-lo=0
  ·exact Rt ax bz (.inr (.inr (.inr E3)))
  rcases a5 with a5 |⟨k,pre,cur,fr,rfl,g1,g2,g3,g0,g4,g5,g6,g7⟩
  ·omega
  rcases gU with gU |⟨k2,pre2,ZU,au0,rfl,a1,b5,dD,bk,fZ,hj,vZ,avy⟩
  ·omega
  have cG:=o0 (by omega);subst cG;have dh:0<b.size:=by
   obtain ⟨cW,z,_,_,_,_,_,g6,_⟩:=fg;exact g6
  have gl:k≠k2:=by
   rintro rfl;exact cf (dy.apart o p k (by rw[an];rfl) (by rw[aP];rfl) (by rw[en];simp[c1];omega) (by rw[b1];simp[c1];omega))
  have jD:0<cur.size:=by rw[g2];exact Nat.mul_pos (by omega) dh
  have ava:0<ZU.size:=by rw[b5];exact Nat.mul_pos (by omega) dh
  have vG:=g3.last.resolve_left sV;have:=Lib.run_overlaps_apart w T T2 e ax b.size bz ⟨k,pre.size,none⟩ ⟨k2,pre2.size+lo*b.size,none⟩ n c (ab-lo) (d-lo) gl ai aq (pre.size+cur.size) (pre2.size+ZU.size)
   (by simp[World.shape?,g1]) (by simp[World.shape?,a1]) (by omega)
   (by
    have bX:=g3.ok pre.size (by omega);simp only[World.frozen?,g1];simpa using bX)
   (by
    simp only[World.frozen?,g1];simpa using vG)
  simpa [fY] using this
 refine (ie.call NJ).2 (.inr ⟨.bool false,w,?_,.bool false,φ,ι,rfl,dy,Step.refl _ _ _ _,dA.refl _ _,gz (cd.bool.2 rfl),by simp[ae.ids]⟩);rw[run_callFunc_extern aJ Nt ag aQ he,dU];rfl
theorem af8 [Env] {cx:bS} (tab:cA P cx) {f:FuncId} (NJ:hP f=false) {fn:Func} {T T2:TypeId} {t:aD} (bW:cx.isTy T (.list t)=true) (sV:decide (t=.int .u8)=false) (aJ:P.funcs[f]? =some fn) (Nt:(fn.name== "runtime.NumGoroutine")=false) (ag:fn.body.isNone=true) (aQ:Extern.findNext fn=none)
  (he:Extern.find fn=some (Extern.SlicesOverlaps.overlaps #[T,T] #[T2])) (args:List ae) (H:List aG) (r:ae) (aC:List aG) (h:(FL t args H).val=some (r,aC)):tX P f args H r aC:=by
 obtain ⟨i,ab,aU⟩:=gh bW;obtain ⟨ax,fg⟩:=jb tab ab aU;exact apb NJ (of_decide_eq_false sV) aJ Nt ag aQ he ax fg args H r aC h
end
open Go.RowKit
def D2 [Env] (F:ba) (fn:Func) (Z:Shape) (args:List ae) (H:List aG):DT Z.ty.den:=
 (e0 F (bK fn) 0 ⟨eV 0 args,H⟩).bind fun q=>match q.1 with
  | .exit _=>.fail
  |_=>((kf F.cx q.2.regs 0 fn.results.toList).run q.2.heap q.2.heap.length .none).bind fun p=>Z.take F.m ⟨p.1,p.2.1⟩
section
variable {P:Program} {H:List aG}
theorem W4 [Env] {F:ba} (tab:cA P F.cx) (cE:bO P F.Γ) (hm:P.follows .mixedOrders=true) {f:FuncId} {fn:Func} {Z:Shape} (aJ:P.funcs[f]? =some fn) (ag:fn.body=some (bK fn)) (cJ:(fS fn.ntmps (bK fn)&& !(fn.name== "runtime.NumGoroutine")&& !eb (bK fn)&& !fe (bK fn)&&Nat.ble fn.ntmps cZ&&Nat.ble fn.results.size cZ)=true) (ao:dF (bK fn) 0=[])
  (lS:Z.regs.map (·.1)=List.range' 0 fn.results.size) {args:List ae} (dO:args.length<=fn.ntmps) (ej:F.m=H.length) {z:Z.ty.den} (e:(D2 F fn Z args H).val=some z):iG P f args H (iE (Z.enc z).regs) (Z.enc z).heap:=by
 simp only[bB,Bool.not_eq_true']at cJ;obtain ⟨⟨⟨⟨⟨mB,lQ⟩,lR⟩,ia⟩,gC⟩,gO⟩:=cJ;have gC:=Nat.le_of_ble_eq_true gC;have gO:=Nat.le_of_ble_eq_true gO;unfold D2 at e;obtain ⟨⟨ai,b6⟩,aa,ad⟩:=DT.val_bind_some e;have al:ai=.nrm\/ai=.ret:=by
  cases ai with
  |nrm=>exact .inl rfl
  |ret=>exact .inr rfl
  |exit i=>simp[DT.val]at ad
 have aE:(((kf F.cx b6.regs 0 fn.results.toList).run b6.heap b6.heap.length .none).bind fun p=>Z.take F.m ⟨p.1,p.2.1⟩).val=some z:=by
  rcases al with rfl |rfl<;>exact ad
 obtain ⟨⟨R,aZ,kK,rh⟩,bt,dn⟩:=DT.val_bind_some aE;have jd:=HM.go_run _ _ _ _ _ _ _ _ bt;have jh:(Z.enc z).regs.map (·.1)=List.range' 0 fn.results.size:=by
  obtain ⟨⟨aV,bC,wC,pp⟩,a1,k2⟩:=DT.val_bind_some dn;simp only[DT.val_ofOpt]at k2;have b5:(Z.enc z).regs.map (·.1)=Z.regs.map (·.1):=by
   unfold Shape.dec at k2;cases aR:hA Z.regs aV.regs with
   |none=>simp[aR]at k2
   |some x=>
    cases ag:eW Z.objs aV.heap with
    |none=>simp[aR,ag]at k2
    |some y=>
     have:=pG _ _ x [] aR;rw[Shape.dec_enc (st:=aV) (by simp only[Shape.dec,aR,ag]at k2 ⊢;exact k2)];exact tq _ _ _ _ this
  rw[b5,lS]
 refine ⟨⟨fn,aJ,lQ,by rw[ag];rfl⟩,?_⟩;intro φ ι w vs dy ei eG eu;refine uS aJ ag ?_;have dL:vs.size=args.length:=by
  have: ∀(l:List ae) (vs:List Value),ae.relT φ ι w l vs->vs.length=l.length:=by
   intro l
   induction l with
   |nil=>intro vs h;simp only[ae.relT]at h;simp[h]
   |cons r l aO=>intro vs h;obtain ⟨v,m,rfl,-,h⟩:=h;simp[aO m h]
  simpa using this _ _ eG
 have dh:vs.size<=fn.ntmps:=by rw[dL];exact dO
 have jP:cL φ ι w ⟨fn.ntmps,w.heap.size,[],none,false⟩ ⟨eV 0 args,H⟩ {tmps:=vs++Array.replicate (fn.ntmps-vs.size) undef,defers:=[]}:=by
  refine ⟨dy,fun d r ax=> ?_,by simp;omega,gC,wd (Nat.le_refl _)⟩;obtain ⟨a1,k2,b5⟩:=mx args 0;obtain ⟨k,av,gl⟩:=ln _ 0 d r (by rw[a1,k2]) ax;have fD:d=k:=by omega
  subst fD;have bo:=b5 d (d,r) gl;simp only at bo;obtain ⟨v,aX,hL⟩:=rP eG bo;have ed:vs[d]? =some v:=by simpa using aX
  have j4:d<vs.size:=(Array.getElem?_eq_some_iff.1 ed).1;have:(vs++Array.replicate (fn.ntmps-vs.size) undef).getD d undef=v:=by
   rw[Array.getD_eq_getD_getElem?,Array.getElem?_append_left j4,ed];rfl
  rw[hk (by omega),this];exact ⟨hL,fun i ab=>eu i (rM bo i ab)⟩
 have h2:fA F.m H:=by rw[ej];exact fun o an=>ei o an
 refine l0 tab cE hm (bK fn) 0 _ ai b6 φ ι w _ _ aa (by rw[ao];simp) mB (dW _ lR) (hc.fn ia) jP h2 fun bc w' φ' ι' cp sp bE=> ?_
 refine BA al cp sp fun w' cp sp=> ?_
 have jL:=bE.live h2;obtain ⟨bh,bZ,us,da,c4,fh,gq⟩:=tv tab fn.results.toList 0 R b6.heap _ aZ kK jd cp.heap cp.regs;have kz:R.length=us.length:=by
  have:=congrArg List.length fh;simpa [c4] using this
 have iC:cL φ' ι' w' ⟨us.toArray.size,0,[],none,false⟩ ⟨R,aZ⟩ {tmps:=us.toArray,defers:=[]}:=by
  rw[bh];refine ⟨cp.heap,fun d r ax=> ?_,rfl,by rw[List.size_toArray,c4];simpa using gO,wd (Nat.zero_le _)⟩;obtain ⟨k,av,gl⟩:=ln R 0 d r (by rw[fh];congr 1;omega) ax;have fD:d=k:=by omega
  subst fD;obtain ⟨v,aX,hL,ft⟩:=gq d (d,r) gl;have:us.toArray.getD d undef=v:=by simp[Array.getD_eq_getD_getElem?,aX]
  have j4:d<us.length:=(List.getElem?_eq_some_iff.1 aX).1;have NC:fn.results.toList.length=fn.results.size:=by simp
  rw[hk (by omega)];simp only[this];exact ⟨hL,ft⟩
 obtain ⟨du,dz,c2,cr,ey,ka,oa⟩:=j1 dn iC (by rw[bh];exact jL);have gj:(Z.enc z).regs.length=us.toArray.size:=by
  have:=congrArg List.length jh;simp only[List.length_map,List.length_range']at this;rw[this];simp[c4]
 obtain ⟨ar,aM⟩:=sb (vs:=us.toArray) (R:=(Z.enc z).regs) (by rw[jh];congr 1;simpa [c4] using gj.symm) gj (uy (a:={tmps:=us.toArray,defers:=[]}) (by rw[jh];congr 1;simpa [c4] using gj.symm) (by rw[gj,List.size_toArray,c4];simpa using gO) c2.regs);have kH:=tw da;refine ⟨_,kH,_,du,dz,rfl,c2.heap,?_,?_,ar,aM⟩
 ·rw[bh]at cr;exact sp.trans cr
 ·rw[bh]at ey;have hn:=bE.trans ey;refine ⟨fun o an=> ?_,fun o an=> ?_⟩
  ·exact (hn o (by rw[ej];exact fl an) an).1
  ·exact (hn o (by rw[ej];exact fl an) an).2
end
def HL {α:Type} (bytes:Nat) (z0:α) (i:Int) (xs aT:List α):Option (List α×List α×Unit):=
 bif (decide ((0:Int)<=i)&&decide ((i:Int)<=(List.length xs:Int))&&decide (((List.length xs:Int):Int)<=(List.length xs:Int))) then
  let t0:List α:=(List.drop (Int.toNat i) (List.take (Int.toNat (List.length xs:Int)) xs))
  let t1:Bool:=(decide ((((List.length aT):Int):Int)=(0:Int)))
  bif t1 then
   none
  else
   let t2:Bool:=(decide ((i:Int)=((List.length xs):Int)))
   bif t2 then
    bif (decide (0<List.length aT)&&decide ((List.length xs+List.length aT)*bytes<=bm)) then
     some (aT,(xs++aT),())
    else
     none
   else
    let t3:Int:=(IntKind.i64.wrap (((List.length xs):Int)+((List.length aT):Int)))
    let t4:Bool:=(decide ((t3:Int)>(List.length xs:Int)))
    bif t4 then
     bif (decide ((0:Int)<=i)&&decide ((i:Int)<=(List.length xs:Int))) then
      let t5:Int:=(IntKind.i64.wrap (((List.length xs):Int)+((List.length aT):Int)))
      bif (decide ((0:Int)<(IntKind.i64.wrap (t5-i)))&&decide (((List.length xs):Int)<(List.length (List.take (Int.toNat i) xs):Int)+(IntKind.i64.wrap (t5-i)))&&decide (((List.length (List.take (Int.toNat i) xs):Int)+(IntKind.i64.wrap (t5-i)))*(bytes:Int)<=(bm:Int))) then
       let t6:List α:=((List.take (Int.toNat i) xs)++List.replicate (Int.toNat (IntKind.i64.wrap (t5-i))) z0)
       bif (decide ((0:Int)<=i)&&decide ((i:Int)<=(List.length t6:Int))&&decide (((List.length t6:Int):Int)<=(List.length t6:Int))) then
        let t7:List α:=(List.take ((Int.toNat (List.length t6:Int))-(Int.toNat i)) aT)
        let t8:List α:=(List.take (Int.toNat i) t6++t7++List.drop ((Int.toNat i)+List.length t7) t6)
        let t9:Int:=(IntKind.i64.wrap (i+((List.length aT):Int)))
        bif (decide ((0:Int)<=t9)&&decide ((t9:Int)<=(List.length t8:Int))&&decide (((List.length t8:Int):Int)<=(List.length t8:Int))) then
         bif (decide ((0:Int)<=i)&&decide ((i:Int)<=(List.length xs:Int))&&decide (((List.length xs:Int):Int)<=(List.length xs:Int))) then
          let t10:List α:=(List.drop (Int.toNat i) (List.take (Int.toNat (List.length xs:Int)) xs))
          let t11:List α:=(List.take ((Int.toNat (List.length t8:Int))-(Int.toNat t9)) t10)
          let t12:List α:=(List.take (Int.toNat t9) t8++t11++List.drop ((Int.toNat t9)+List.length t11) t8)
          some (aT,t12,())
         else
          none
        else
         none
       else
        none
      else
       none
     else
      none
    else
     let t5:Int:=(IntKind.i64.wrap (((List.length xs):Int)+((List.length aT):Int)))
     bif (decide ((0:Int)<=t5)&&decide ((t5:Int)<=(List.length xs:Int))) then
      let t6:Int:=(IntKind.i64.wrap (i+((List.length aT):Int)))
      bif (decide ((0:Int)<=t6)&&decide ((t6:Int)<=(List.length (List.take (Int.toNat t5) xs):Int))&&decide (((List.length (List.take (Int.toNat t5) xs):Int):Int)<=(List.length (List.take (Int.toNat t5) xs):Int))) then
       let t7:List α:=(List.drop (Int.toNat t6) (List.take (Int.toNat (List.length (List.take (Int.toNat t5) xs):Int)) (List.take (Int.toNat t5) xs)))
       none
      else
       none
     else
      none
 else
  none
def HN {α:Type} (bytes:Nat) (i:Int) (xs:List α) (z:α) (aT:List α):Option (List α×List α×Unit):=
 bif (decide ((0:Int)<=i)&&decide ((i:Int)<=(((List.length xs)-0:Nat):Int))&&decide (((((List.length xs)-0:Nat):Int):Int)<=((List.length (xs++[z])-0:Nat):Int))) then
  let t0:Bool:=(decide ((((List.length aT):Int):Int)=(0:Int)))
  bif t0 then
   some (aT,(List.take (List.length xs) (xs++[z])),())
  else
   let t1:Bool:=(decide ((i:Int)=(((List.length xs)-0:Nat):Int)))
   bif t1 then
    bif (decide ((List.length (List.take (List.length xs) (xs++[z]))+List.length aT)*bytes<=bm)) then
     let t2:List α:=(List.take (List.length xs) (xs++[z])++aT)
     some (aT,t2,())
    else
     none
   else
    let t2:Int:=(IntKind.i64.wrap ((((List.length xs)-0:Nat):Int)+((List.length aT):Int)))
    bif (decide ((t2:Int)<=((List.length (xs++[z])-0:Nat):Int))) then
     let t3:Int:=(IntKind.i64.wrap ((((List.length xs)-0:Nat):Int)+((List.length aT):Int)))
     bif (decide (((0:Int):Int)<=t3)&&decide ((t3:Int)<=((List.length (xs++[z])-0:Nat):Int))) then
      let t4:Int:=(IntKind.i64.wrap (i+((List.length aT):Int)))
      bif (decide ((0:Int)<=t4)&&decide ((t4:Int)<=(((0+(Int.toNat t3))-0:Nat):Int))&&decide (((((0+(Int.toNat t3))-0:Nat):Int):Int)<=((List.length (xs++[z])-0:Nat):Int))) then
       let t5:Int:=(IntKind.i64.wrap (i+((List.length aT):Int)))
       bif (decide ((0:Int)<=t5)&&decide ((t5:Int)<=(((0+(Int.toNat t3))-0:Nat):Int))&&decide (((((0+(Int.toNat t3))-0:Nat):Int):Int)<=((List.length (xs++[z])-0:Nat):Int))) then
        bif (decide ((0:Int)<=i)&&decide ((i:Int)<=(((0+(Int.toNat t3))-0:Nat):Int))&&decide (((((0+(Int.toNat t3))-0:Nat):Int):Int)<=((List.length (xs++[z])-0:Nat):Int))) then
         let t6:List α:=(List.drop (0+(Int.toNat i)) (List.take (0+(Int.toNat (((0+(Int.toNat t3))-0:Nat):Int))) (xs++[z])))
         let t7:List α:=(List.take ((0+(Int.toNat (((0+(Int.toNat t3))-0:Nat):Int)))-(0+(Int.toNat t5))) t6)
         let t8:List α:=(List.take (0+(Int.toNat t5)) (xs++[z])++t7++List.drop ((0+(Int.toNat t5))+List.length t7) (xs++[z]))
         bif (decide ((0:Int)<=i)&&decide ((i:Int)<=(((0+(Int.toNat t3))-0:Nat):Int))&&decide (((((0+(Int.toNat t3))-0:Nat):Int):Int)<=((List.length t8-0:Nat):Int))) then
          let t9:List α:=(List.take ((0+(Int.toNat (((0+(Int.toNat t3))-0:Nat):Int)))-(0+(Int.toNat i))) aT)
          let t10:List α:=(List.take (0+(Int.toNat i)) t8++t9++List.drop ((0+(Int.toNat i))+List.length t9) t8)
          some (aT,(List.take (0+(Int.toNat t3)) t10),())
         else
          none
        else
         none
       else
        none
      else
       none
     else
      none
    else
     none
 else
  none
theorem yv {x:Int} (h: -9223372036854775808<=x/\x<9223372036854775808):IntKind.i64.wrap x=x:=by
 rw[IntKind.wrap_i64];omega
theorem gm {p:Prop} [Decidable p] (h:p):decide p=true:=decide_eq_true h
theorem D0 {p:Prop} [Decidable p] (h: ¬p):decide p=false:=decide_eq_false h
theorem anq {α:Type} {bytes:Nat} {z0:α} {k:Nat} {xs:List α} {y:α} (aa:k<=xs.length) (al:xs.length+1<1000000000000000000) (aE:(xs.length+1)*bytes<=bm):
  HL bytes z0 (k:Int) xs [y]=some ([y],xs.take k++[y]++xs.drop k,()):=by
 have cY:IntKind.i64.wrap ((xs.length:Int)+(([y].length:Nat):Int))=((xs.length+1:Nat):Int):=by rw[yv (by simp;omega)];simp
 have c0:IntKind.i64.wrap (((xs.length+1:Nat):Int)-(k:Int))=((xs.length+1-k:Nat):Int):=by rw[yv (by omega)];omega
 have fJ:IntKind.i64.wrap ((k:Int)+(([y].length:Nat):Int))=((k+1:Nat):Int):=by rw[yv (by simp;omega)];simp
 unfold HL;simp only[cY,c0,fJ,bQ];have a7:decide ((0:Int)<=(k:Int))=true:=gm (by omega);have aY:decide ((k:Int)<=(xs.length:Int))=true:=gm (by omega);have c3:decide ((xs.length:Int)<=(xs.length:Int))=true:=gm (by omega);have fb:decide ((([y].length:Nat):Int)=0)=false:=D0 (by simp);simp only[a7,aY,c3,fb,b7,aA,aL];by_cases av:k=xs.length
 ·subst av;have c5:decide (((xs.length:Nat):Int)=(xs.length:Int))=true:=gm rfl;have o0:decide (0<[y].length)=true:=gm (by simp);have qq:decide ((xs.length+[y].length)*bytes<=bm)=true:=gm (by simpa using aE);simp only[c5,o0,qq,aA,b7];simp
 ·have a8:k<xs.length:=by omega
  have c5:decide ((k:Int)=(xs.length:Int))=false:=D0 (by omega);have o0:decide (((xs.length+1:Nat):Int)>(xs.length:Int))=true:=gm (by omega);have lt:(List.take k xs).length=k:=by rw[List.length_take];omega
  have qq:decide ((0:Int)<((xs.length+1-k:Nat):Int))=true:=gm (by omega);have sz:decide ((xs.length:Int)<((List.take k xs).length:Int)+((xs.length+1-k:Nat):Int))=true:=gm (by rw[lt];omega);have LJ:decide ((((List.take k xs).length:Int)+((xs.length+1-k:Nat):Int))*(bytes:Int)<=(bm:Int))=true:=gm (by
   rw[lt];have:((k:Int)+((xs.length+1-k:Nat):Int))=((xs.length+1:Nat):Int):=by omega
   rw[this,<-Int.natCast_mul];exact Int.ofNat_le.2 aE)
  simp only[c5,o0,qq,sz,LJ,aA,aL,b7];have Fq:(List.take k xs++List.replicate (xs.length+1-k) z0).length=xs.length+1:=by rw[List.length_append,lt,List.length_replicate];omega
  have d1:decide ((k:Int)<=((List.take k xs++List.replicate (xs.length+1-k) z0).length:Int))=true:=gm (by rw[Fq];omega);have d2:decide (((List.take k xs++List.replicate (xs.length+1-k) z0).length:Int)<=((List.take k xs++List.replicate (xs.length+1-k) z0).length:Int))=true:=gm (by omega);simp only[d1,d2,aA,b7,bQ,Fq];have iJ:List.take (xs.length+1-k) [y]=[y]:=List.take_of_length_le (by simp;omega);have k7:List.take k (List.take k xs++List.replicate (xs.length+1-k) z0)++[y]++List.drop (k+[y].length) (List.take k xs++List.replicate (xs.length+1-k) z0)=List.take k xs++[y]++List.replicate (xs.length-k) z0:=by
   rw[List.take_append_of_le_length (by omega),List.take_of_length_le (l:=List.take k xs) (by omega)];rw[List.drop_append,List.drop_of_length_le (l:=List.take k xs) (by simp;omega),List.nil_append,List.drop_replicate,lt];congr 2;simp;omega
  simp only[iJ,k7];have v7:(List.take k xs++[y]++List.replicate (xs.length-k) z0).length=xs.length+1:=by simp[lt];omega
  have d3:decide ((0:Int)<=((k+1:Nat):Int))=true:=gm (by omega);have d4:decide (((k+1:Nat):Int)<=((List.take k xs++[y]++List.replicate (xs.length-k) z0).length:Int))=true:=gm (by rw[v7];omega);have d5:decide (((List.take k xs++[y]++List.replicate (xs.length-k) z0).length:Int)<=((List.take k xs++[y]++List.replicate (xs.length-k) z0).length:Int))=true:=gm (by omega);simp only[d3,d4,d5,aA,b7,v7,bQ];have LP:List.drop k (List.take xs.length xs)=List.drop k xs:=by rw[List.take_length]
  have apA:List.take (xs.length+1-(k+1)) (List.drop k xs)=List.drop k xs:=List.take_of_length_le (by simp);simp only[LP,apA];have apB:List.take (k+1) (List.take k xs++[y]++List.replicate (xs.length-k) z0)=List.take k xs++[y]:=by
   rw[List.take_append_of_le_length (by simp[lt]),List.take_of_length_le (by simp[lt])]
  have apC:List.drop (k+1+(List.drop k xs).length) (List.take k xs++[y]++List.replicate (xs.length-k) z0)=[]:=List.drop_of_length_le (by rw[v7];simp;omega);have d6:decide ((k:Int)<=((xs.length+1:Nat):Int))=true:=gm (by omega);have d7:decide (((k+1:Nat):Int)<=((xs.length+1:Nat):Int))=true:=gm (by omega);have d8:decide (((xs.length+1:Nat):Int)<=((xs.length+1:Nat):Int))=true:=gm (by omega);simp only[d6,d7,d8,aA,b7,apB,apC,List.append_nil]
theorem anr {α:Type} {bytes:Nat} {k:Nat} {xs:List α} {z y:α} (aa:k<=xs.length) (al:xs.length+1<1000000000000000000) (aE:(xs.length+1)*bytes<=bm):
  HN bytes (k:Int) xs z [y]=some ([y],xs.take k++[y]++xs.drop k,()):=by
 have O9:IntKind.i64.wrap ((xs.length:Int)+(([y].length:Nat):Int))=((xs.length+1:Nat):Int):=by rw[yv (by simp;omega)];simp
 have fJ:IntKind.i64.wrap ((k:Int)+(([y].length:Nat):Int))=((k+1:Nat):Int):=by rw[yv (by simp;omega)];simp
 have eJ:(xs++[z]).length=xs.length+1:=by simp
 unfold HN;simp only[Nat.sub_zero,Int.sub_zero,Nat.zero_add];simp only[O9,fJ,bQ,eJ,Nat.sub_zero,Int.sub_zero,Nat.zero_add];have a7:decide ((0:Int)<=(k:Int))=true:=gm (by omega);have aY:decide ((k:Int)<=(xs.length:Int))=true:=gm (by omega);have c3:decide ((xs.length:Int)<=((xs.length+1:Nat):Int))=true:=gm (by omega);have fb:decide ((([y].length:Nat):Int)=0)=false:=D0 (by simp);simp only[a7,aY,c3,fb,b7,aA,aL];have at4:List.take xs.length (xs++[z])=xs:=by simp
 by_cases av:k=xs.length
 ·subst av;have c5:decide (((xs.length:Nat):Int)=(xs.length:Int))=true:=gm rfl;have qq:decide ((xs.length+[y].length)*bytes<=bm)=true:=gm (by simpa using aE);simp only[c5,at4,qq,aA,b7];simp
 ·have a8:k<xs.length:=by omega
  have c5:decide ((k:Int)=(xs.length:Int))=false:=D0 (by omega);have o0:decide (((xs.length+1:Nat):Int)<=((xs.length+1:Nat):Int))=true:=gm (by omega);have qq:decide ((0:Int)<=((xs.length+1:Nat):Int))=true:=gm (by omega);have sz:decide ((0:Int)<=((k+1:Nat):Int))=true:=gm (by omega);have LJ:decide (((k+1:Nat):Int)<=((xs.length+1:Nat):Int))=true:=gm (by omega);have apr:decide ((k:Int)<=((xs.length+1:Nat):Int))=true:=gm (by omega);simp only[c5,o0,qq,sz,LJ,apr,aA,aL,b7];have at5:List.take (xs.length+1) (xs++[z])=xs++[z]:=List.take_of_length_le (by simp);have cV:List.drop k (xs++[z])=List.drop k xs++[z]:=by rw[List.drop_append_of_le_length aa]
  have iJ:List.take (xs.length+1-(k+1)) (List.drop k xs++[z])=List.drop k xs:=by
   rw[List.take_append_of_le_length (by simp),List.take_of_length_le (by simp)]
  simp only[at5,cV,iJ];have v7:(List.take (k+1) (xs++[z])++List.drop k xs++List.drop (k+1+(List.drop k xs).length) (xs++[z])).length=xs.length+1:=by
   simp;omega
  have auU:decide (((xs.length+1:Nat):Int)<=((List.take (k+1) (xs++[z])++List.drop k xs++List.drop (k+1+(List.drop k xs).length) (xs++[z])).length:Int))=true:=gm (by rw[v7];omega);have o4:List.take (xs.length+1-k) [y]=[y]:=List.take_of_length_le (by simp;omega);simp only[v7,o0,aA,b7,o4];have b8:List.drop (k+1+(List.drop k xs).length) (xs++[z])=[]:=List.drop_of_length_le (by simp;omega);have at1:List.take (k+1) (xs++[z])=List.take (k+1) xs:=by rw[List.take_append_of_le_length (by omega)]
  have ac3:(List.take (k+1) xs).length=k+1:=by rw[List.length_take];omega
  rw[b8,List.append_nil,at1];have ai:List.take k (List.take (k+1) xs++List.drop k xs)=List.take k xs:=by
   rw[List.take_append_of_le_length (by omega),List.take_take];congr 1;omega
  have aq:List.drop (k+[y].length) (List.take (k+1) xs++List.drop k xs)=List.drop k xs:=by
   rw[List.drop_append,List.drop_of_length_le (by rw[ac3];simp),List.nil_append,ac3];simp
  rw[ai,aq];have bb:List.take (xs.length+1) (List.take k xs++[y]++List.drop k xs)=List.take k xs++[y]++List.drop k xs:=List.take_of_length_le (by simp;omega);rw[bb]
def yz {α:Type} (bytes:Nat) (s:Int×List α×List α×Unit):Option (List α×List α×Unit):=
 bif decide (0<=s.1)&&decide (s.1<=(s.2.1.length:Int))&&decide (s.2.2.1.length=1)&&decide (s.2.1.length+1<1000000000000000000)&&decide ((s.2.1.length+1)*bytes<=bm) then some (s.2.2.1,s.2.1.take s.1.toNat++s.2.2.1++s.2.1.drop s.1.toNat,()) else none
def Ct (e:TypeId) (t:aD):Shape:=⟨[(0,.own t 0),(1,.dat (.int .i64)),(2,.own t 1)],[.arr e t false,.arr e t false]⟩
def su (e:TypeId) (t:aD):Shape:=⟨[(0,.own t 2)],[.gone,.arr e t false,.arr e t false]⟩
theorem an9 (e:TypeId) (t:aD) (i:Int) (xs aT:List t.den):(Ct e t).enc (i,xs,aT,())=⟨[(0,.own t 0),(1,.dat (.int .i64) i),(2,.own t 1)],[.arr e t xs false,.arr e t aT false]⟩:=by
 have h:(Ct e t).ty.parts (i,xs,aT,())=[⟨.int .i64,i⟩,⟨.list t,xs⟩,⟨.list t,aT⟩]:=rfl;unfold Shape.enc;rw[h];simp[Ct,ov,uT,b4.enc,dm.enc,kP,rE]
theorem aoa (e:TypeId) (t:aD) (aT rs:List t.den):(su e t).enc (aT,rs,())=⟨[(0,.own t 2)],[.gone,.arr e t aT false,.arr e t rs false]⟩:=by
 have h:(su e t).ty.parts (aT,rs,())=[⟨.list t,aT⟩,⟨.list t,rs⟩]:=rfl;unfold Shape.enc;rw[h];simp[su,ov,uT,b4.enc,dm.enc,kP,rE]
section
variable {P:Program}
theorem alY [Env] {f:FuncId} {e:TypeId} {t:aD} {k:Nat} {xs:List t.den} {y:t.den} (rs:List t.den) (sV:t≠ .int .u8) (pn:0<t.size)
  (vu:iG P f [.clip t xs,.dat (.int .i64) (k:Int),.own t 1] [.gone,.arr e t [y] false] (.own t 2) [.gone,.arr e t [y] false,.arr e t rs false])
  (zm: ∀z,iG P f [.view t 0 0 xs.length,.dat (.int .i64) (k:Int),.own t 1] [.arr e t (xs++[z]) false,.arr e t [y] false] (.own t 2) [.gone,.arr e t [y] false,.arr e t rs false]):
  iG P f [.own t 0,.dat (.int .i64) (k:Int),.own t 1] [.arr e t xs false,.arr e t [y] false] (.own t 2) [.gone,.arr e t [y] false,.arr e t rs false]:=by
 refine ⟨vu.1,?_⟩;intro φ ι w vs dy ei eG eu;obtain ⟨v0,avA,ny,aj,v1,c2,bh,ar,v2,cr,bZ,aM,hm⟩:=eG;simp only[ae.relT]at hm;subst hm bZ bh;obtain rfl:vs= #[v0,v1,v2]:=by cases vs;simp at ny;simp[ny]
 have g0:aF [aG.arr e t xs false,.arr e t [y] false] 0=.arr e t xs false:=rfl;have an:=dy.obj 0;rw[g0]at an;obtain ⟨A,n,c,eL,h4,wD,og,Au⟩:=an;have atc:=aj;obtain ⟨rfl,-⟩:=aj;by_cases aB:c=n
 ·subst aB;have aqo:(fQ (.own t 0)).go [aG.arr e t xs false,.arr e t [y] false] 2=some (⟨.list t,xs⟩,[aG.arr e t xs true,.arr e t [y] false],2):=by
   simp[fQ,HM.go,aF,bL,aG.freeze,aG.mask,rE]
  obtain ⟨-,φ',g,aX⟩:=re (.own t 0) φ (ι 0) _ 2 _ _ _ aqo dy atc (fun i ab=>by
   have bX:i=0:=by simpa [ae.ids] using ab
   rw[bX];rfl)
  have NG:bP φ' ι w [aG.gone,.arr e t [y] false]:=by
   refine g.rel.update (fun i=>i=0) (fun i ab=> ?_) (fun _ _=>rfl) (fun i ab=> ?_) (fun i ab=> ?_) (fun i ab j ay=> ?_) (fun _ _ _ _ _=>rfl) (fun _ _ _=>rfl) (fun i j b ab aa=> ?_)
   ·cases i with
    |zero=>exact absurd rfl ab
    |succ i=>rfl
   ·cases i with
    |zero=>rfl
    |succ i=>exact ab
   ·subst ab;trivial
   ·subst ab;simp[aF,aG.ids]at ay
   ·subst ab;cases aa
  have dC:Step φ' ι w [aG.arr e t xs true,.arr e t [y] false] φ' ι w [aG.gone,.arr e t [y] false]:=
   ⟨fun _ _ h=>h,fun _ _ _=>rfl,fun _ _ h=>.inl h,Nat.le_refl _,rfl,rfl,rfl,fun _ _ _=>rfl,fun b ⟨o,aa,ad⟩=>.inr ⟨o,by cases o with
    |zero=>cases aa
    |succ o=>exact aa,ad⟩⟩
  refine Calls.mono (vu.2 φ' ι w #[ι 0,v1,v2] NG (fun i ab=> ?_) ⟨ι 0,_,rfl,?_,v1,_,rfl,?_,v2,_,rfl,?_,rfl⟩ (fun i ab=> ?_)) fun Z3 w'=> ?_
  ·match i,ab with
   |0,_=>rfl
   |1,_=>rfl
   |i+2,ab=>simp at ab;omega
  ·show ∃A n,ι 0=.slice A n n/\bg φ' w (.list t) xs [ι 0];refine ⟨A,c,eL,?_⟩;have:=aX.1;rw[pE (by rw[eL];rfl)]at this;simpa using this
  ·exact ae.rel_mono g.step.phi g.step.cells _ _ (fun _ _=>rfl) ar
  ·exact ae.rel_mono g.step.phi g.step.cells _ _ (fun _ _=>rfl) aM
  ·have:i=1:=by simpa [ae.idsL,ae.ids] using ab
   subst this;rfl
  ·rintro ⟨v,du,dz,he,ca,gd,k',az,ft⟩;have bE:dA ι [aG.arr e t xs false,.arr e t [y] false] ι [aG.gone,.arr e t [y] false]:=⟨fun _ _=>rfl,fun o h=>by
    cases o with
    |zero=>rfl
    |succ o=>exact h⟩
   exact ⟨v,du,dz,he,ca,(g.step.trans dC).trans gd,bE.trans k',az,ft⟩
 ·have a8:n<c:=by omega
  rcases Au with Au |⟨b,pre,cur,fr,rfl,b1,b2,b3,b0,gI,gU,jy,auS⟩
  ·omega
  obtain ⟨zs,Ad⟩:=gI.rest.resolve_left sV;have Ac:=Ad.len (fun x c=>bg.len t x c);have ir:cur.toList.length=c*t.size:=by rw[Array.length_toList,b2]
  rw[List.length_drop,ir,<-Nat.sub_mul]at Ac;have arQ:zs.length=c-n:=Nat.eq_of_mul_eq_mul_right pn Ac.symm;obtain ⟨z,xe,rfl⟩: ∃z xe,zs=z::xe:=by
   cases zs with
   |nil=>simp at arQ;omega
   |cons z xe=>exact ⟨z,xe,rfl⟩
  have kG: ∀i,dw ι 0 (.slice (some ⟨b,pre.size,none⟩) (n+1) c) (i+1)=ι (i+1):=fun i=>by simp[dw]
  have hzero:dw ι 0 (.slice (some ⟨b,pre.size,none⟩) (n+1) c) 0=.slice (some ⟨b,pre.size,none⟩) (n+1) c:=by simp[dw]
  have h9: ∀i,c1 (dw ι 0 (.slice (some ⟨b,pre.size,none⟩) (n+1) c) i)=c1 (ι i):=fun i=>by
   cases i with
   |zero=>rw[hzero,eL];simp[c1]
   |succ i=>rw[kG]
  have mD: ∀i,(aF [aG.arr e t (xs++[z]) false,.arr e t [y] false] i).owns=(aF [aG.arr e t xs false,.arr e t [y] false] i).owns:=fun i=>by cases i<;>rfl
  have fq:=cw.append _ _ _ _ gU Ad;rw[List.take_append_drop]at fq;have aav:cw (bg φ w t) ((xs++[z])++xe) cur.toList:=by simpa using fq
  have zN:(xs++[z]).length=n+1:=by simp[h4]
  have NG:bP φ (dw ι 0 (.slice (some ⟨b,pre.size,none⟩) (n+1) c)) w [aG.arr e t (xs++[z]) false,.arr e t [y] false]:=by
   refine ⟨fun o=> ?_,fun o de bJ aa ad al aE=> ?_,dy.phi,fun o i jC=> ?_,dy.glob⟩
   ·match o with
    |0=>
     show hS φ _ w 0 (.arr e t (xs++[z]) false);refine ⟨some ⟨b,pre.size,none⟩,n+1,c,hzero,zN,a8,og,.inr ⟨b,pre,cur,fr,rfl,b1,b2,b3,b0,⟨gI.one,.inr ⟨xe,?_⟩⟩,?_,fun k av=> ?_,fun h=>by cases h⟩⟩
     ·have:=aav.drop (fun x c=>bg.len t x c) (n+1)
      rwa [<-zN,List.drop_left,zN]at this
     ·have:=aav.take (fun x c=>bg.len t x c) (n+1)
      rwa [<-zN,List.take_left,zN]at this
     ·exact absurd (jy k av).1 (by simp)
    |1=>
     have:=dy.obj 1;show hS φ _ w 1 (.arr e t [y] false);obtain ⟨xg,cC,a7,gD,hB⟩:=this;exact ⟨xg,cC,a7,(kG 0).trans gD,hB⟩
    |o+2=>trivial
   ·rw[mD]at aa ad;rw[h9]at al aE;exact dy.apart o de bJ aa ad al aE
   ·match o,jC with
    |0,jC=>simp[aF,aG.ids]at jC
    |1,jC=>simp[aF,aG.ids]at jC
    |o+2,jC=>simp[aF,aG.ids]at jC
  have dC:Step φ ι w [aG.arr e t xs false,.arr e t [y] false] φ (dw ι 0 (.slice (some ⟨b,pre.size,none⟩) (n+1) c)) w [aG.arr e t (xs++[z]) false,.arr e t [y] false]:=
   ⟨fun _ _ h=>h,fun _ _ _=>rfl,fun _ _ h=>.inl h,Nat.le_refl _,rfl,rfl,rfl,fun _ _ _=>rfl,fun bJ ⟨o,aa,ad⟩=>.inr ⟨o,by rw[<-mD];exact aa,by rw[<-h9];exact ad⟩⟩
  refine Calls.mono ((zm z).2 φ _ w #[ι 0,v1,v2] NG (fun i ab=> ?_) ⟨ι 0,_,rfl,?_,v1,_,rfl,?_,v2,_,rfl,?_,rfl⟩ (fun i ab=> ?_)) fun Z3 w'=> ?_
  ·match i,ab with
   |0,_=>rfl
   |1,_=>rfl
   |i+2,ab=>simp at ab;omega
  ·exact xV ⟨some ⟨b,pre.size,none⟩,n+1,c,some ⟨b,pre.size,none⟩,hzero,Nat.zero_le _,by rw[h4];omega,a8,by rw[eL,h4];rfl,fun _=>by simp[fY],fun _=>⟨b,_,rfl⟩⟩
  ·exact ae.rel_mono (fun _ _ h=>h) (fun _ _ _=>rfl) _ _ (fun i ab=>absurd ab (by simp[ae.ids])) ar
  ·refine ae.rel_mono (fun _ _ h=>h) (fun _ _ _=>rfl) _ _ (fun i ab=> ?_) aM;have:i=1:=by simpa [ae.ids] using ab
   subst this;exact kG 0
  ·have:i=0\/i=1:=by simpa [ae.idsL,ae.ids] using ab
   rcases this with rfl |rfl<;>rfl
  ·rintro ⟨v,du,dz,he,ca,gd,k',az,ft⟩;have vL: ∀i,dw dz 0 (ι 0) (i+1)=dz (i+1):=fun i=>by simp[dw]
   have arM:dw dz 0 (ι 0) 0=ι 0:=by simp[dw]
   have s2:=dC.trans gd;refine ⟨v,du,dw dz 0 (ι 0),he,⟨fun o=> ?_,fun o de bJ aa ad al aE=> ?_,ca.phi,fun o i jC=> ?_,ca.glob⟩,⟨s2.phi,s2.cells,s2.newphi,s2.size,s2.os,s2.tape,s2.output,s2.blocks,fun bJ ⟨o,aa,ad⟩=> ?_⟩,⟨fun o an=> ?_,fun o an=> ?_⟩,?_,ft⟩
   ·match o with
    |0=>trivial
    |1=>
     obtain ⟨xg,cC,a7,gD,hB⟩:=ca.obj 1;exact ⟨xg,cC,a7,(vL 0).trans gD,hB⟩
    |2=>
     obtain ⟨xg,cC,a7,gD,hB⟩:=ca.obj 2;exact ⟨xg,cC,a7,(vL 1).trans gD,hB⟩
    |o+3=>trivial
   ·cases o with
    |zero=>cases aa
    |succ o=>
     cases de with
     |zero=>cases ad
     |succ de=>
      rw[vL]at al aE;exact ca.apart _ _ bJ aa ad al aE
   ·match o,jC with
    |0,jC=>simp[aF,aG.ids]at jC
    |1,jC=>simp[aF,aG.ids]at jC
    |2,jC=>simp[aF,aG.ids]at jC
    |o+3,jC=>simp[aF,aG.ids]at jC
   ·cases o with
    |zero=>cases aa
    |succ o=>
     rw[vL]at ad;exact s2.own bJ ⟨o+1,aa,ad⟩
   ·match o,an with
    |0,_=>exact arM
    |1,_=>rw[vL,k'.iota 1 rfl,kG]
    |o+2,an=>cases an
   ·match o,an with
    |0,_=>rfl
    |1,_=>rfl
    |o+2,an=>cases an
   ·refine ae.rel_mono (fun _ _ h=>h) (fun _ _ _=>rfl) _ _ (fun i ab=> ?_) az;have:i=2:=by simpa [ae.ids] using ab
    subst this;exact vL 1
theorem amF [Env] {F:ba} (tab:cA P F.cx) (cE:bO P F.Γ) (hm:P.follows .mixedOrders=true) {f:FuncId} {fn:Func} {e:TypeId} {t:aD} {bytes:Nat} (sV:decide (t=.int .u8)=false) (pn:Nat.blt 0 t.size=true) (aJ:P.funcs[f]? =some fn) (ag:fn.body=some (bK fn)) (cJ:(fS fn.ntmps (bK fn)&& !(fn.name== "runtime.NumGoroutine")&& !eb (bK fn)&& !fe (bK fn)&&Nat.ble fn.ntmps cZ&&Nat.ble fn.results.size cZ)=true) (ao:dF (bK fn) 0=[])
  (kH:Nat.beq fn.results.size 1=true) (zO:Nat.ble 3 fn.ntmps=true) (ej:F.m=2)
  (dO: ∀(i:Int) (xs aT:List t.den),(D2 F fn (su e t) [.clip t xs,.dat (.int .i64) i,.own t 1] [.gone,.arr e t aT false]).val=HL bytes t.zero i xs aT)
  (cG: ∀(i:Int) (xs:List t.den) (z:t.den) (aT:List t.den),(D2 F fn (su e t) [.view t 0 0 xs.length,.dat (.int .i64) i,.own t 1] [.arr e t (xs++[z]) false,.arr e t aT false]).val=HN bytes i xs z aT):
  ck P ⟨f,Ct e t,su e t,fun s=>yz (α:=t.den) bytes s⟩:=by
 intro args H s r au bz;have fE:=Shape.dec_enc au;obtain ⟨i,xs,aT,u⟩:=s;have bz:yz (α:=t.den) bytes (i,xs,aT,u)=some r:=bz;unfold yz at bz;simp only at bz;cases zw:decide ((0:Int)<=i)&&decide (i<=(xs.length:Int))&&decide (aT.length=1)&&decide (xs.length+1<1000000000000000000)&&decide ((xs.length+1)*bytes<=bm)
 ·rw[zw]at bz;cases bz
 rw[zw,aA]at bz;simp only[bB,db]at zw;obtain ⟨⟨⟨⟨a7,aY⟩,c3⟩,fb⟩,c5⟩:=zw;obtain ⟨k,rfl⟩:=Int.eq_ofNat_of_zero_le a7;obtain ⟨y,rfl⟩:=List.length_eq_one_iff.1 c3;obtain rfl:=Option.some.inj bz;have aY:k<=xs.length:=Int.ofNat_le.1 aY;rw[bQ];have fE:=(an9 e t (k:Int) xs [y]).symm.trans fE;injection fE with aa ad
 obtain rfl:args=[.own t 0,.dat (.int .i64) (k:Int),.own t 1]:=(uD 0 [.own t 0,.dat (.int .i64) (k:Int),.own t 1] args aa).symm;subst ad;have arn:fn.results.size=1:=Nat.eq_of_beq_eq_true kH;have aaR:(su e t).regs.map (·.1)=List.range' 0 fn.results.size:=by rw[arn];rfl
 have vu:=W4 tab cE hm aJ ag cJ ao aaR (args:=[.clip t xs,.dat (.int .i64) (k:Int),.own t 1]) (H:=[.gone,.arr e t [y] false]) (Nat.le_of_ble_eq_true zO) ej ((dO k xs [y]).trans (anq aY fb c5));have zm:=fun z=>W4 tab cE hm aJ ag cJ ao aaR (args:=[.view t 0 0 xs.length,.dat (.int .i64) (k:Int),.own t 1]) (H:=[.arr e t (xs++[z]) false,.arr e t [y] false]) (Nat.le_of_ble_eq_true zO) ej ((cG k xs z [y]).trans (anr aY fb c5))
 have N0:=aoa e t [y] (xs.take k++[y]++xs.drop k);have vu:=Eq.mp (congrArg (fun E:bn=>iG P f [.clip t xs,.dat (.int .i64) (k:Int),.own t 1] [.gone,.arr e t [y] false] (iE E.regs) E.heap) N0) vu;have zm:=fun z=>Eq.mp (congrArg (fun E:bn=>iG P f [.view t 0 0 xs.length,.dat (.int .i64) (k:Int),.own t 1] [.arr e t (xs++[z]) false,.arr e t [y] false] (iE E.regs) E.heap) N0) (zm z)
 exact Eq.mpr (congrArg (fun E:bn=>iG P f [.own t 0,.dat (.int .i64) (k:Int),.own t 1] [.arr e t xs false,.arr e t [y] false] (iE E.regs) E.heap) N0) (alY _ (of_decide_eq_false sV) (Nat.le_of_ble_eq_true pn) vu zm)
end
open Go.RowKit Go.Shelf
def x7 (s:List UInt8×List UInt8×Unit):Option (Int×Unit):=
 bif Nat.blt 8 s.1.length&&Nat.blt s.1.length 4294967281&&Nat.ble 2 s.2.1.length&&Nat.blt s.2.1.length 4294967281&&s.2.1.all (fun b=>Nat.blt b.toNat 128) then some (Lib.indexAny s.1 s.2.1,()) else none
section
variable {P:Program}
def Ay {α:Type} (a b:Option α):Option α:=match a with |some z=>some z |none=>b
theorem Zu [Env] {f:FuncId} {S Z:Shape} {g1 g2:S.ty.den->Option Z.ty.den} (aa:ck P ⟨f,S,Z,g1⟩) (ad:ck P ⟨f,S,Z,g2⟩):ck P ⟨f,S,Z,fun s=>Ay (g1 s) (g2 s)⟩:=by
 intro args H s z au bz;have bz:Ay (g1 s) (g2 s)=some z:=bz;unfold Ay at bz;cases h:g1 s with
 |some y=>
  rw[h]at bz;obtain rfl:=Option.some.inj bz;exact aa args H s _ au h
 |none=>
  rw[h]at bz;exact ad args H s z au bz
theorem bP.below [Env] {φ:bw} {ι:Nat->Value} {w w':World} {H:List aG} (h:bP φ ι w H) (b:Below w.heap.size w w'):bP φ ι w' H/\Step φ ι w H φ ι w' H:=by
 have bH:gG w w':=⟨b.os,b.tape,b.output,b.size,fun k av=>b.block k av⟩;have aB: ∀b k,φ b k->w'.cell? ⟨b,k,none⟩=w.cell? ⟨b,k,none⟩:=fun b k av=>bH.cell (jm h av)
 refine ⟨h.update (fun _=>False) (fun _ _=>rfl) (fun _ _=>rfl) (fun _ h=>h) (fun _ h=>h.elim) (fun _ h=>h.elim) (fun i bJ _ an gA=>bH.blocks bJ (tR h an gA)) aB (fun _ _ _ h=>h.elim),⟨fun _ _ h=>h,aB,fun _ _ h=>.inl h,bH.size,bH.os,bH.tape,bH.output,fun bJ gA _=>bH.blocks bJ gA,fun _ h=>.inr h⟩⟩
theorem alN [Env] {ρ:Ren} (L:Go.Proofs.Lays.n153 P ρ) (EU:(P.info? (ρ.t 116)).map (fun i=>(i.zero,i.size))=some (some (.agg (Array.replicate 256 (.bool false))),256)) {fn:Func} (aJ:P.funcs[ρ.f 153]? =some fn) (cJ:(!(fn.name== "runtime.NumGoroutine")&& !fn.body.isNone)=true):
  ck P ⟨ρ.f 153,⟨[(0,.dat .str),(1,.dat .str)],[]⟩,⟨[(0,.dat (.int .i64))],[]⟩,x7⟩:=by
 intro args H s z au bz;have fE:=Shape.dec_enc au;obtain ⟨a,b,u⟩:=s;have bz:x7 (a,b,u)=some z:=bz;unfold x7 at bz;simp only at bz;cases aB:Nat.blt 8 a.length&&Nat.blt a.length 4294967281&&Nat.ble 2 b.length&&Nat.blt b.length 4294967281&&b.all (fun b=>Nat.blt b.toNat 128)
 ·rw[aB]at bz;cases bz
 rw[aB,aA]at bz;obtain rfl:=Option.some.inj bz;simp only[bB]at aB;obtain ⟨⟨⟨⟨a7,aY⟩,c3⟩,fb⟩,c5⟩:=aB;have a7:=Nat.le_of_ble_eq_true a7;have aY:=Nat.le_of_ble_eq_true aY;have c3:=Nat.le_of_ble_eq_true c3;have fb:=Nat.le_of_ble_eq_true fb;have hY:(Shape.enc ⟨[(0,.dat .str),(1,.dat .str)],[]⟩ (a,b,u))=⟨[(0,.dat .str a),(1,.dat .str b)],[]⟩:=rfl;have fE:=hY.symm.trans fE;injection fE with aa ad
 obtain rfl:args=[.dat .str a,.dat .str b]:=(uD 0 [.dat .str a,.dat .str b] args aa).symm;subst ad;simp only[bB,Bool.not_eq_true']at cJ;refine ⟨⟨fn,aJ,cJ.1,cJ.2⟩,fun φ ι w vs dy ei eG eu=> ?_⟩;obtain ⟨v1,c2,ai,ar,v2,cr,aq,aM,hm⟩:=eG;simp only[ae.relT]at hm;subst hm aq;have fy:v1=.string ⟨⟨a⟩⟩:=cd.str.1 ar;have k6:v2=.string ⟨⟨b⟩⟩:=cd.str.1 aM;subst fy k6;obtain rfl:vs= #[.string ⟨⟨a⟩⟩,.string ⟨⟨b⟩⟩]:=by cases vs;simp at ai;simp[ai]
 have dh: ∀l:List UInt8,(⟨⟨l⟩⟩:ByteArray).size=l.length:=fun _=>rfl
 refine (Go.Proofs.Any.strings_IndexAny_long L (zero_of_info EU).1 (zero_of_info EU).2 ⟨⟨a⟩⟩ ⟨⟨b⟩⟩ w (by rw[dh];exact c3) (by rw[dh];omega) (by rw[dh];omega) (by rw[dh];omega) (fun j x aw=> ?_)).mono ?_
 ·have aw:b[j]? =some x:=aw;have:=List.all_eq_true.1 c5 x (List.mem_of_getElem? aw);exact Nat.le_of_ble_eq_true this
 ·rintro e w' ⟨rfl,rfl⟩;obtain ⟨a1,k2⟩:=dy.below (((Below.refl _ w).alloc (Nat.le_refl _) _).alloc (by simp) _);exact ⟨_,φ,ι,rfl,a1,k2,dA.refl _ _,gz (cd.int.2 rfl),fun i ab=>absurd (show i∈([]:List Nat) from ab) (by simp)⟩
end
open Go.RowKit
section
variable {P:Program} {φ:bw} {ι:Nat->Value} {w:World} {H:List aG}
def HI [Env] (P:Program) (F:ba) (n:Nat) (C:ba->Code->Nat->bn->DT (dv×bn)) (c:Code):Prop:=
 ∀(nt:hR) (st:bn) (e:dv) (aV:bn) (φ:bw) (ι:Nat->Value) (w:World) (a:Act) (Q:Exit->Act->World->Prop),nt.n=n->(C F c 0 st).val=some (e,aV)->cL φ ι w nt st a->fA F.m st.heap->
  (∀bc w' φ' ι',cL φ' ι' w' nt aV bc->Step φ ι w st.heap φ' ι' w' aV.heap->gH F.m ι st.heap ι' aV.heap->Q (jt e) bc w')->c.wpIn (ec nt.ro) 0 P Q a w
theorem YE [Env] {F:ba} {n:Nat} {c:Code} (tab:cA P F.cx) (cE:bO P F.Γ) (hm:P.follows .mixedOrders=true) (ao: ∀q∈dF c 0,fT P F n q.1 q.2) (aB:(fS n c&& !eb c&& !fe c)=true):HI P F n e0 c:=by
 intro nt st e aV φ ι w a Q aQ h bV lm cB;subst aQ;simp only[bB,Bool.not_eq_true']at aB;exact l0 tab cE hm c 0 st e aV φ ι w a Q h ao aB.1.1 (dW _ aB.1.2) (hc.no aB.1.2 aB.2) bV lm cB
theorem WL {φ:bw} {ι:Nat->Value} {w:World} {H:List aG}: ∀(ps:List Nat) (rs:List ae) (vs:List Value) (R:bD) (t:Array Value),(∀p∈ps,p<t.size)->ae.relT φ ι w rs vs->(∀i∈ae.idsL rs,(aF H i).live=true)->ps.length=rs.length->
  (∀d r,R.get d=some r->r.rel φ ι w (t.getD d undef)/\ ∀i∈r.ids,(aF H i).live=true)->
  ((ps.zip vs).foldl (fun t q=>t.setIfInBounds q.1 q.2) t).size=t.size/\ ∀d r,(uK ps rs R).get d=some r->r.rel φ ι w (((ps.zip vs).foldl (fun t q=>t.setIfInBounds q.1 q.2) t).getD d undef)/\ ∀i∈r.ids,(aF H i).live=true
 |[],rs,vs,R,t,_,_,_,_,h=>by
  refine ⟨by simp,fun d r ax=> ?_⟩;have:uK [] rs R=R:=by cases rs<;>rfl
  rw[this]at ax;simpa using h d r ax
 |p::ps,[],vs,R,t,_,_,_,ao,h=>by simp at ao
 |p::ps,r::rs,vs,R,t,aP,az,ft,ao,h=>by
  obtain ⟨v,m,rfl,aa,ad⟩:=az;have a8:p<t.size:=aP p (by simp);have aO:=WL ps rs m (R.put p r) (t.setIfInBounds p v) (fun q aN=>by simp;exact aP q (by simp[aN])) ad (fun i ab=>ft i (by simp[ae.idsL,ab])) (by simpa using ao) (fun d x aw=>by
   rw[bD.get_put]at aw;by_cases ax:d=p
   ·subst ax;simp only[if_true,bs]at aw;subst aw;have:(t.setIfInBounds d v).getD d undef=v:=by simp[Array.getD_eq_getD_getElem?,a8]
    rw[this];exact ⟨aa,fun i ab=>ft i (by simp[ae.idsL,ab])⟩
   ·simp only[ax,if_false]at aw;have cf:p≠d:=fun h=>ax h.symm
    have:(t.setIfInBounds p v).getD d undef=t.getD d undef:=by simp[Array.getD_eq_getD_getElem?,Array.getElem?_setIfInBounds,cf]
    rw[this];exact h d x aw)
  refine ⟨by simpa using aO.1,fun d x aw=> ?_⟩;have:=aO.2 d x aw;simpa using this
theorem YI [Env] (h:bP φ ι w H) {Y:Nat} {R:bD} {p p':Int} {l:Nat} (an:aF H 0=.loop Y R p) (ab:ι 0=.func (.yield l) #[] #[]) {rec':Loop} (fF:Qh rec' p')
  (n2: ∀rec c,DY φ ι w l rec c Y R p->rec'.params=rec.params/\rec'.assign=rec.assign/\rec'.body=rec.body/\rec'.tmps=rec.tmps):
  bP φ ι (w.putObj l (.loop rec')) (bL H 0 (.loop Y R p'))/\Step φ ι w H φ ι (w.putObj l (.loop rec')) (bL H 0 (.loop Y R p'))/\dA ι H ι (bL H 0 (.loop Y R p')):=by
 have cP:=h.obj 0;rw[an]at cP;obtain ⟨cM,rec,c,eL,gT⟩:=cP;have gM:cM=l:=adc (eL.symm.trans ab);subst gM;obtain ⟨ar,aM,bF,cT⟩:=n2 rec c gT;have a8:=(Array.getElem?_eq_some_iff.1 gT.heap).1;obtain ⟨en,a2,a3,-⟩:=yr (n:=H.length) (ob:=.loop Y R p') h (o:=0) (b:=cM) (by rw[an];rfl) (by rw[ab];rfl) (hE.putObj w cM (.loop rec')) gT.phi
  ⟨cM,rec',c,ab,⟨gT.code,World.putObj_heap_same a8,by rw[ar];exact gT.params,by rw[aM];exact gT.assign,by rw[bF];exact gT.body,by rw[cT];exact gT.nt,fF,fun q aN=>by
   rw[cT];exact ae.rel_mono (fun _ _ h=>h) (fun b k ag=>(hE.putObj w cM _).cell (fun e=>gT.phi k (e▸ag))) q.2 _ (fun _ _=>rfl) (gT.regs q aN),gT.phi⟩⟩
  (fun i ab=>h.ids 0 i (by rw[an];exact ab)) rfl
 exact ⟨en,a2,a3⟩
theorem amk {Y:Nat} {e:dv} {st aV:bn} (h:(Lm Y e st).val=some aV): ∃R,aF st.heap 0=.loop Y R (-1)/\aV=⟨[(0,.dat .bool e.isNrm)],bL st.heap 0 (.loop Y R (l4 e))⟩:=by
 unfold Lm at h;split at h
 ·rename_i Cr R p cP;cases ag:Nat.beq Cr Y
  ·simp[ag,DT.val]at h
  rw[ag,aA]at h;have:Cr=Y:=by simpa using ag
  subst this;simp only[DT.val]at h;cases aP:decide (p= -1)
  ·simp[aP]at h
  rw[aP,aA]at h;simp only[bs]at h;have:p= -1:=of_decide_eq_true aP;subst this;exact ⟨R,cP,h.symm⟩
 ·simp[DT.val]at h
def LG (c:lC) (S Z:Shape):Bool:=
 Nat.beq S.regs.length (c.params.length+1)&&c.params.all (Nat.blt · c.nt)&&decide (Z.regs.map (·.1)=[0])&&Nat.ble c.nt cZ
theorem anf {Z:Shape} {m:Nat} {st:bn} {z:Z.ty.den} (h:(Z.take m st).val=some z):(Z.enc z).regs.map (·.1)=Z.regs.map (·.1):=by
 unfold Shape.take at h;obtain ⟨⟨aV,bC,wC,pp⟩,a1,k2⟩:=DT.val_bind_some h;simp only[DT.val_ofOpt]at k2;unfold Shape.dec at k2;cases aR:hA Z.regs aV.regs with
 |none=>simp[aR]at k2
 |some x=>
  cases ag:eW Z.objs aV.heap with
  |none=>simp[aR,ag]at k2
  |some y=>
   have:=pG _ _ x [] aR;rw[Shape.dec_enc (st:=aV) (by simp only[Shape.dec,aR,ag]at k2 ⊢;exact k2)];exact tq _ _ _ _ this
theorem anM [Env] {F:ba} {C:ba->Code->Nat->bn->DT (dv×bn)} {Y:Nat} {c:lC} {S Z:Shape} {g:S.ty.den->Option Z.ty.den} (vC:Env.code Y=some c) (cJ:LG c S Z=true) (ej:F.m=S.objs.length) (dO:HI P F c.nt C c.assign) (cG:HI P F c.nt C c.body)
  (bH: ∀s,(qf F C Y c S Z s).val=g s):oX P ⟨Y,S,Z,g⟩:=by
 intro args H s z au bz;have fE:=Shape.dec_enc au;simp only[LG,bB,db,Nat.beq_eq,List.all_eq_true]at cJ;obtain ⟨⟨⟨mB,lQ⟩,lR⟩,lS⟩:=cJ;have lS:=Nat.le_of_ble_eq_true lS;have hi:args.length=S.regs.length/\H.length=S.objs.length:=by
  unfold Shape.dec at au;simp only at au;cases aR:hA S.regs (eV 0 args) with
  |none=>simp[aR]at au
  |some x=>
   cases ag:eW S.objs H with
   |none=>simp[aR,ag]at au
   |some y=>
    refine ⟨by rw[<-wU _ _ _ aR,(mx args 0).2.1],?_⟩;have: ∀(s:List dm) (R:List aG) (l:List dN),eW s R=some l->R.length=s.length:=by
     intro s
     induction s with
     |nil=>intro R l h;cases R<;>simp[eW]at h ⊢
     |cons a s aO=>
      intro R l h;cases R with
      |nil=>simp[eW]at h
      |cons b R=>
       simp only[eW]at h;split at h
       ·obtain ⟨b,ag,-⟩:=Option.map_eq_some_iff.1 h;simp[aO R b ag]
       ·cases h
    exact this _ _ _ ag
 have e:(qf F C Y c S Z s).val=some z:=(bH s).trans bz;unfold qf at e;simp only at fE;rw[fE]at e;cases args with
 |nil=>simp[eV,DT.val]at e
 |cons a0 args=>
 cases H with
 |nil=>
  simp[eV,DT.val]at e
 |cons ob H=>
 simp only[eV]at e;split at e
 case h_2=>simp[DT.val]at e
 rename_i d0 auO aj6 nI R p aC bh bZ;injection bh with bh OH
 injection bh with avE asW
 injection bZ with bZ asX
 subst asW OH bZ asX;cases MW:Nat.beq nI Y
 ·simp[MW,DT.val]at e
 rw[MW,aA]at e;have ap7:nI=Y:=by simpa using MW
 subst ap7;simp only[DT.val]at e;cases zR:decide (p=0)
 ·simp[zR]at e
 rw[zR,aA]at e;have zR:p=0:=of_decide_eq_true zR;subst zR;split at e
 ·simp[DT.val]at e
 rename_i Nv;obtain ⟨⟨ai,b6⟩,aa,e⟩:=DT.val_bind_some e;have aqa:(eV (0+1) args).map (·.2)=args:=by
  have: ∀(l:List ae) (k:Nat),(eV k l).map (·.2)=l:=by
   intro l
   induction l with
   |nil=>intro k;rfl
   |cons x l aO=>intro k;simp[eV,aO]
  exact this _ _
 rw[aqa]at aa Nv;intro φ ι w vs dy ei eG eu;obtain ⟨v0,tK,dL,NU,vS⟩:=eG;obtain ⟨NU,l,abf⟩:=NU;have aq7:=dy.obj 0;obtain ⟨cM,rec,aY,eL,gT⟩:=aq7;have gM:cM=l:=adc (eL.symm.trans (NU.symm.trans abf));subst gM;have aqh:aY=c:=Option.some.inj (gT.code.symm.trans vC);subst aqh;have abh:vs=(v0::tK).toArray:=by apply Array.ext';simpa using dL
 have zA:vs.extract 1 vs.size=tK.toArray:=by rw[abh];simp
 have aqT:tK.length=args.length:=by
  have: ∀(l:List ae) (vs:List Value),ae.relT φ ι w l vs->vs.length=l.length:=by
   intro l
   induction l with
   |nil=>intro vs h;simp only[ae.relT]at h;simp[h]
   |cons r l aO=>intro vs h;obtain ⟨v,m,rfl,-,h⟩:=h;simp[aO m h]
  exact this _ _ vS
 have aaW:args.length=aY.params.length:=by
  have:=hi.1;simp at this;omega
 have avu:rec.state=.ready/\rec.pending=none:=by
  rcases gT.st with ⟨-,a,b⟩|⟨a,-⟩|⟨dx,a,b,-⟩
  ·exact ⟨a,b⟩
  ·omega
  ·exact absurd (DL (e:=dx) (f:=.nrm) (a.symm)) b
 refine (ie.round (by unfold hP;rw[vC];rfl)).2 ⟨cM,?_,?_⟩
 ·rw[abh];simp[abf]
 rw[zA];refine ⟨rec.fn,_,rec.assign,rec.body,run_yield gT.heap (by simp;rw[aqT,aaW,<-gT.params];simp),roundIn_of_wpIn (F:=ec none) trivial ?_⟩;rw[gT.assign,gT.body];obtain ⟨tm,Fi⟩: ∃tm,(rec.params.zip tK.toArray).foldl (fun tmps (q:Tmp×Value)=>tmps.setIfInBounds q.1 q.2) rec.tmps=tm:=⟨_,rfl⟩;have ary:(aY.params.zip tK).foldl (fun t (q:Nat×Value)=>t.setIfInBounds q.1 q.2) rec.tmps=tm:=by
  rw[<-Fi,<-gT.params,<-Array.foldl_toList];simp
 have He:=WL (φ:=φ) (ι:=ι) (w:=w) (H:=.loop nI R 0::H) aY.params args tK R rec.tmps (fun q aN=>by rw[gT.nt];simpa using lQ q aN) vS (fun i ab=>eu i (by simp[ae.idsL,ab])) aaW.symm (fun d r ax=>⟨gT.regs _ (bD.get_mem ax),fun i ab=>dy.ids 0 i (bD.mem_ids (bD.get_mem ax) i ab)⟩);rw[ary]at He;have jP:cL φ ι w ⟨aY.nt,w.heap.size,[],some cM,false⟩ ⟨uK aY.params args R,.loop nI R 0::H⟩ {tmps:=tm,defers:=[]}:=⟨dy,fun d r ax=>by
  rw[hk (fun e=>by rw[e]at ax;rw[ax]at Nv;cases Nv)];exact He.2 d r ax,He.1.trans gT.nt,lS,wd (Nat.le_refl _)⟩
 have h2:fA F.m (.loop nI R 0::H):=by
  rw[ej,<-hi.2];exact fun o an=>ei o an
 have E4:0<F.m:=by rw[ej,<-hi.2];simp
 show aY.assign.wpIn (ec (some cM)) 0 P _ {tmps:=(rec.params.zip tK.toArray).foldl (fun tmps (q:Tmp×Value)=>tmps.setIfInBounds q.1 q.2) rec.tmps,defers:=[]} w;rw[Fi];refine dO ⟨aY.nt,w.heap.size,[],some cM,false⟩ _ ai b6 φ ι w _ _ rfl aa jP h2 fun en cY cU ep oj atO Og=> ?_
 cases ai with
 |exit i=>simp[DT.val]at e
 |ret=>simp[DT.val]at e
 |nrm=>
 simp only at e;split at e
 case h_2=>simp[DT.val]at e
 rename_i mi uj hB zP;cases dB:Nat.beq mi nI
 ·simp[dB,DT.val]at e
 rw[dB,aA]at e;have:mi=nI:=by simpa using dB
 subst this;simp only[DT.val]at e;cases lk:decide (hB=0)
 ·simp[lk]at e
 rw[lk,aA]at e;have:hB=0:=of_decide_eq_true lk;subst this;obtain ⟨⟨aq,dC⟩,ad,e⟩:=DT.val_bind_some e;obtain ⟨wP,al,aE⟩:=DT.val_bind_some e;have jL:=Og.live h2;have hI:ep 0=.func (.yield cM) #[] #[]:=by
  rw[(Og 0 E4 (h2 0 E4)).1];exact eL
 have arl: ∃rp a7,DY cU ep cY cM rp a7 mi uj 0:=by
  have:=oj.heap.obj 0;rw[zP]at this;obtain ⟨nu,rp,a7,wD,xj⟩:=this;have:nu=cM:=adc (wD.symm.trans hI);subst this;exact ⟨rp,a7,xj⟩
 obtain ⟨rp,a7,xj⟩:=arl;have aru:rp.state=.ready:=by
  rcases xj.st with ⟨-,a,b⟩|⟨a,-⟩|⟨dx,a,b,-⟩
  ·exact a
  ·omega
  ·exact absurd (DL (e:=dx) (f:=.nrm) (a.symm)) b
 simp only[jt,Exit.then];refine ⟨_,run_beginRound xj.heap aru,?_⟩;obtain ⟨t1,t2,t3⟩:=YI oj.heap zP hI (rec':={rp with state:=.busy}) (p':= -1) (.inr (.inl ⟨rfl,rfl⟩)) (fun rec c h=>by
  have:=xj.heap.symm.trans h.heap;have:rp=rec:=by simpa using this
  subst this;exact ⟨rfl,rfl,rfl,rfl⟩)
 have atP:cL cU ep (cY.putObj cM (.loop {rp with state:=.busy})) ⟨aY.nt,w.heap.size,[],some cM,false⟩ ⟨b6.regs,bL b6.heap 0 (.loop mi uj (-1))⟩ en:=
  ⟨t1,fun d r ax=>⟨ae.rel_step t2 t3 (oj.regs d r ax).2 (oj.regs d r ax).1,fun i ab=>t3.live i ((oj.regs d r ax).2 i ab)⟩,oj.nt,oj.small,oj.defers.step t2⟩
 have Om:fA F.m (bL b6.heap 0 (.loop mi uj (-1))):=(t3.keepM F.m).live jL;refine cG ⟨aY.nt,w.heap.size,[],some cM,false⟩ _ aq dC cU ep _ _ _ rfl ad atP Om fun a2 c0 du dz iC nA ll=> ?_
 obtain ⟨Qo,aa1,NN⟩:=amk al;have On:=ll.live Om;have eY:dz 0=.func (.yield cM) #[] #[]:=by
  rw[(ll 0 E4 (Om 0 E4)).1];exact hI
 obtain ⟨nz,c3,Qg⟩: ∃nz c3,DY du dz c0 cM nz c3 mi Qo (-1):=by
  have:=iC.heap.obj 0;rw[aa1]at this;obtain ⟨pB,ats,fb,og,aeW⟩:=this;have:pB=cM:=adc (og.symm.trans eY);subst this;exact ⟨ats,fb,aeW⟩
 have fin: ∀(jump:Option Code),(match aq with | .nrm=>jump=none |e=>jump=some (L6 e))-> ∃v w',(Instr.endRound cM jump).run P c0=.ok v w'/\(∃jR φ' ι',Ending.returned v=.returned jR/\bP φ' ι' w' (Z.enc z).heap/\Step φ ι w (.loop mi R 0::H) φ' ι' w' (Z.enc z).heap/\dA ι (.loop mi R 0::H) ι' (Z.enc z).heap/\(iE (Z.enc z).regs).rel φ' ι' w' jR/\ ∀i∈(iE (Z.enc z).regs).ids,(aF (Z.enc z).heap i).live=true):=by
  intro jump ay;refine ⟨_,_,run_endRound jump Qg.heap,?_⟩;obtain ⟨mQ,mR,ot⟩:=YI iC.heap aa1 eY (rec':={nz with state:=if jump.isNone then .ready else .done,pending:=jump}) (p':=l4 aq) (by
   cases aq with
   |nrm=>simp only at ay;subst ay;exact .inl ⟨rfl,rfl,rfl⟩
   |ret=>simp only at ay;subst ay;exact .inr (.inr ⟨.ret,rfl,by simp,rfl,rfl⟩)
   |exit i=>simp only at ay;subst ay;exact .inr (.inr ⟨.exit i,rfl,by simp,rfl,rfl⟩)) (fun rec c h=>by
   have:=Qg.heap.symm.trans h.heap;have:nz=rec:=by simpa using this
   subst this;exact ⟨rfl,rfl,rfl,rfl⟩)
  obtain ⟨fJ,abi⟩: ∃fJ,c0.putObj cM (.loop {nz with state:=if jump.isNone then .ready else .done,pending:=jump})=fJ:=⟨_,rfl⟩;rw[abi]at mQ mR ⊢;have zG:jump.isNone=aq.isNrm:=by
   cases aq with
   |nrm=>simp only at ay;subst ay;rfl
   |ret=>simp only at ay;subst ay;rfl
   |exit i=>simp only at ay;subst ay;rfl
  have A0:cL du dz fJ ⟨1,0,[],none,false⟩ wP {tmps:= #[.bool jump.isNone],defers:=[]}:=by
   rw[NN];refine ⟨mQ,fun d r ax=> ?_,rfl,Nat.le_of_ble_eq_true rfl,wd (Nat.zero_le _)⟩;simp only[bD.get]at ax;cases ng:Nat.beq d 0
   ·simp[ng]at ax
   ·simp only[ng,aA,bs]at ax;have:d=0:=by simpa using ng
    subst this ax;rw[zG,hk (by decide)];exact ⟨gz (cd.bool.2 rfl),by simp[ae.ids]⟩
  have ar1:fA F.m wP.heap:=by
   rw[NN];exact (ot.keepM F.m).live On
  obtain ⟨kU,kT,c2,cr,ey,ka,oa⟩:=j1 aE A0 ar1;have zH:=(anf aE).trans lR;have gj:(Z.enc z).regs.length=(#[Value.bool jump.isNone]:Array Value).size:=by
   have:=congrArg List.length zH;simpa using this
  obtain ⟨ar,aM⟩:=sb (vs:= #[Value.bool jump.isNone]) (R:=(Z.enc z).regs) (by rw[zH];have:=congrArg List.length zH;simp at this;rw[this];rfl) gj (uy (a:={tmps:= #[.bool jump.isNone],defers:=[]}) (by rw[zH];have:=congrArg List.length zH;simp at this;rw[this];rfl) (by rw[gj];exact Nat.le_of_ble_eq_true rfl) c2.regs);have aqH:wP.heap=bL dC.heap 0 (.loop mi Qo (l4 aq)):=by rw[NN]
  rw[aqH]at cr ey;refine ⟨_,kU,kT,rfl,c2.heap,(((atO.trans t2).trans nA).trans mR).trans cr,?_,by simpa using ar,aM⟩;have hn:=(((Og.trans (t3.keepM F.m)).trans ll).trans (ot.keepM F.m)).trans ey;refine ⟨fun o an=> ?_,fun o an=> ?_⟩
  ·have a8:o<F.m:=by rw[ej,<-hi.2];exact fl an
   exact (hn o a8 an).1
  ·have a8:o<F.m:=by rw[ej,<-hi.2];exact fl an
   exact (hn o a8 an).2
 cases aq with
 |nrm=>exact fin none rfl
 |ret=>exact fin (some .ret) rfl
 |exit i=>exact fin (some (.exit i)) rfl
theorem CR [Env] {F:ba} {Y:Nat} {c:lC} {S Z:Shape} {g:S.ty.den->Option Z.ty.den} (tab:cA P F.cx) (cE:bO P F.Γ) (hm:P.follows .mixedOrders=true) (vC:Env.code Y=some c) (cJ:LG c S Z=true) (ej:F.m=S.objs.length)
  {m:List (Nat×Code)} (ao:dF (.seq c.assign c.body) 0=m) (dq:mT P F c.nt m) (aB:(fS c.nt (.seq c.assign c.body)&& !eb (.seq c.assign c.body)&& !fe (.seq c.assign c.body))=true) (bH: ∀s,(qf F e0 Y c S Z s).val=g s):oX P ⟨Y,S,Z,g⟩:=by
 have fq:=tO ao dq;simp only[fS,eb,fe,bB,Bool.not_eq_true',Bool.or_eq_false_iff]at aB;exact anM vC cJ ej (YE tab cE hm (fun q aN=>fq q (by simp[dF,aN])) (by simp[aB.1.1.1,aB.1.2.1,aB.2.1])) (YE tab cE hm (fun q aN=>fq q (by simp[dF,aN])) (by simp[aB.1.1.2,aB.1.2.2,aB.2.2])) bH
def LB [Env] (F:ba):List (Nat×lC)->Prop
 |[]=>True
 |q::l=>(∀Y,F.rfs q.1=some Y->Env.code Y=some q.2)/\LB F l
def Q7 (P:Program):List Nat->Prop
 |[]=>True
 |f::l=>(∃fn,P.funcs[f]? =some fn/\(fn.name== "runtime.NumGoroutine")=false/\fn.body.isNone=false)/\Q7 P l
theorem yn [Env] {F:ba} {q:Nat×lC} {Y:Nat} (h:F.rfs q.1=some Y) (aB:Env.code Y=some q.2): ∀Y,F.rfs q.1=some Y->Env.code Y=some q.2:=fun Z aat=>by
 rw[h]at aat;obtain rfl:=Option.some.inj aat;exact aB
theorem yd [Env] {F:ba} {n:Nat} {c:Code} {m:List (Nat×lC)} {its:List Nat} (hm:jS n c=m) (h:LB F m) (ab:F.its=its) (ad:Q7 P its):h8 P F n c:=by
 have fq: ∀(l:List (Nat×lC)),LB F l-> ∀q∈l,∀Y,F.rfs q.1=some Y->Env.code Y=some q.2:=by
  intro l
  induction l with
  |nil=>intro _ q aN;cases aN
  |cons a l aO=>
   intro h q aN;rcases List.mem_cons.1 aN with rfl |aN
   ·exact h.1
   ·exact aO h.2 q aN
 have Ng: ∀f∈F.its,∃fn,P.funcs[f]? =some fn/\(fn.name== "runtime.NumGoroutine")=false/\fn.body.isNone=false:=by
  rw[ab];clear ab
  induction its with
  |nil=>intro f aJ;cases aJ
  |cons a l aO=>
   intro f aJ;rcases List.mem_cons.1 aJ with rfl |aJ
   ·exact ad.1
   ·exact aO ad.2 f aJ
 have key: ∀c,(∀q∈jS n c,∀Y,F.rfs q.1=some Y->Env.code Y=some q.2)->h8 P F n c:=by
  intro c
  induction c with
  |seq a b Ag sZ=>intro h;exact ⟨Ag fun q aN=>h q (by simp[jS,aN]),sZ fun q aN=>h q (by simp[jS,aN])⟩
  |cond x a b Ag sZ=>intro h;exact ⟨Ag fun q aN=>h q (by simp[jS,aN]),sZ fun q aN=>h q (by simp[jS,aN])⟩
  |block i c aO=>intro h;exact aO fun q aN=>h q (by simpa [jS] using aN)
  |scope c aO=>intro h;exact aO fun q aN=>h q (by simpa [jS] using aN)
  |rangeFunc g ps a b=>intro h;exact ⟨fun Y MS=>h (Gc a b,⟨ps.toList,a,b,n⟩) (by simp[jS]) Y MS,Ng⟩
  |_=>intro _;trivial
 exact key c fun q aN=>fq m h q (by rw[<-hm];exact aN)
end
open Go.RowKit
section
variable {P:Program} {cx:bS} {φ:bw} {ι:Nat->Value} {w:World} {H:List aG} {nt:hR} {st aV:bn} {a:Act}
theorem amy: ∀(s:List dm) (R:List aG) (l:List dN),eW s R=some l->R.length=s.length:=by
 intro s
 induction s with
 |nil=>intro R l h;cases R<;>simp[eW]at h ⊢
 |cons a s aO=>
  intro R l h;cases R with
  |nil=>simp[eW]at h
  |cons b R=>
   simp only[eW]at h;split at h
   ·obtain ⟨b,ag,-⟩:=Option.map_eq_some_iff.1 h;simp[aO R b ag]
   ·cases h
theorem Y9 {S:Shape} {s:S.ty.den} (h:S.dec st=some s):st.regs.length=S.regs.length/\st.heap.length=S.objs.length:=by
 unfold Shape.dec at h;cases aR:hA S.regs st.regs with
 |none=>simp[aR]at h
 |some x=>
  cases ag:eW S.objs st.heap with
  |none=>simp[aR,ag]at h
  |some y=>exact ⟨wU _ _ _ aR,amy _ _ _ ag⟩
theorem Y1 {S:Shape} {m:Nat} {s:S.ty.den} (e:(S.take m st).val=some s):(S.enc s).heap.length=S.objs.length:=by
 unfold Shape.take at e;obtain ⟨⟨aV,ca,aI,p'⟩,ai,aq⟩:=DT.val_bind_some e;simp only[DT.val_ofOpt]at aq;rw[Shape.dec_enc aq];exact (Y9 aq).2
theorem aph: ∀(l m:List ae) (xs aT:List Value),ae.relT φ ι w l xs->ae.relT φ ι w m aT->ae.relT φ ι w (l++m) (xs++aT):=by
 intro l
 induction l with
 |nil=>intro m xs aT aa ad;simp only[ae.relT]at aa;subst aa;exact ad
 |cons r l aO=>intro m xs aT aa ad;obtain ⟨v,pD,rfl,al,aE⟩:=aa;exact ⟨v,pD++aT,rfl,al,aO m pD aT aE ad⟩
theorem an7: ∀(l m:List ae),ae.idsL (l++m)=ae.idsL l++ae.idsL m:=by
 intro l m
 induction l with
 |nil=>rfl
 |cons r l aO=>simp[ae.idsL,aO]
theorem X3 [Env] {fn:Func} {args:List ae} {vs:Array Value} (dy:bP φ ι w H) (eG:ae.relT φ ι w args vs.toList) (eu: ∀i∈ae.idsL args,(aF H i).live=true) (dh:vs.size<=fn.ntmps) (gC:fn.ntmps<=cZ) (hlen:vs.size=args.length):
  cL φ ι w ⟨fn.ntmps,w.heap.size,[],none,true⟩ ⟨(eV 0 args).put cZ (.tup []),H⟩ {tmps:=vs++Array.replicate (fn.ntmps-vs.size) undef,defers:=[]}:=by
 refine ⟨dy,fun d r ax=> ?_,by simp;omega,gC,wd (Nat.le_refl _)⟩;have ax:((eV 0 args).put cZ (.tup [])).get d=some r:=ax;rw[bD.get_put]at ax;by_cases kC:d=cZ
 ·subst kC;simp only[if_true,bs]at ax;subst ax;rw[oR];exact ⟨⟨#[],rfl,rfl⟩,by simp[ae.ids,ae.idsL]⟩
 ·simp only[kC,if_false]at ax;obtain ⟨a1,k2,b5⟩:=mx args 0;obtain ⟨k,av,gl⟩:=ln _ 0 d r (by rw[a1,k2]) ax;have fD:d=k:=by omega
  subst fD;have bo:=b5 d (d,r) gl;simp only at bo;obtain ⟨v,aX,hL⟩:=rP eG bo;have ed:vs[d]? =some v:=by simpa using aX
  have j4:d<vs.size:=(Array.getElem?_eq_some_iff.1 ed).1;have:(vs++Array.replicate (fn.ntmps-vs.size) undef).getD d undef=v:=by
   rw[Array.getD_eq_getD_getElem?,Array.getElem?_append_left j4,ed];rfl
  rw[hk kC,this];exact ⟨hL,fun i ab=>eu i (rM bo i ab)⟩
def D1 (fn:Func):Bool:=
 fS fn.ntmps (bK fn)&& !eb (bK fn)&& !fe (bK fn)&&Nat.ble fn.ntmps cZ&& !(fn.name== "runtime.NumGoroutine")&&fn.results.toList.isEmpty
def Lz (fn:Func) (S Z:Shape):Bool:=
 fS fn.ntmps (bK fn)&& !eb (bK fn)&&Nat.ble fn.ntmps cZ&&Nat.ble fn.results.size cZ&& !(fn.name== "runtime.NumGoroutine")&&Nat.ble S.regs.length fn.ntmps&&decide (Z.regs.map (·.1)=List.range' 0 fn.results.size)
set_option maxHeartbeats 1000000 in
theorem amz [Env] {Fd:ba} {m:Nat} {L:bA} {fd:FuncId} {fnd fn:Func} (tab:cA P Fd.cx) (cE:bO P Fd.Γ) (hm:P.follows .mixedOrders=true) (aJ:P.funcs[fd]? =some fnd) (ag:fnd.body=some (bK fnd)) (cJ:D1 fnd=true)
  (ao: ∀q∈dF (bK fnd) 0,fT P Fd fnd.ntmps q.1 q.2) (vH:Fd.m=L.S.objs.length) (ia:nt.df) {R:Ending->World->Prop} {o:L.Out}:
  ∀n s φ ι w a,dR (fun s=>(r3 L m Fd fd fnd s).val) n s=some o->cL φ ι w nt (L.S.enc s) a->(L.S.enc s).heap.length=L.S.objs.length->fA (L.S.enc s).heap.length (L.S.enc s).heap->fA m (L.S.enc s).heap->
   (∀x w' φ' ι',o=.inl x->D6 φ' ι' w' (L.X.enc x) a->cL φ' ι' w' nt (L.X.enc x) {a with defers:=[]}->Step φ ι w (L.S.enc s).heap φ' ι' w' (L.X.enc x).heap->gH m ι (L.S.enc s).heap ι' (L.X.enc x).heap-> ∃v,(results fn a.tmps).run P w'=.ok v w'/\R (.returned v) w')->
   LeavesInM (ec none) 0 P fn a.tmps R a.defers .returning w:=by
 intro n
 induction n with
 |zero=>intro s φ ι w a h;cases h
 |succ n aO=>
  intro s φ ι w a h bV hlen ar2 lm cB;simp only[dR]at h;cases eo:(r3 L m Fd fd fnd s).val with
  |none=>simp[eo]at h
  |some r=>
  simp only[eo]at h;unfold r3 at eo;split at eo
  ·rename_i f A B t xs pc;have q:=DT.val_bif eo;clear eo;obtain ⟨EZ,eo⟩:=q;simp only[bB,Nat.beq_eq]at EZ;obtain ⟨EZ,zO⟩:=EZ;have zO:=Nat.le_of_ble_eq_true zO;subst EZ;obtain ⟨⟨vs,dL,zZ,fq⟩,eu⟩:=bV.regs cZ _ pc;rw[oR]at dL;have dL:a.defers.map qm=vs:=by simpa using dL
   cases xs with
   |nil=>
    simp only[List.isEmpty_nil,DT.val,aA]at eo;obtain ⟨x,ai,aq⟩:=DT.val_bind_some eo;simp only[DT.val,bs]at aq;subst aq;simp only[bs]at h;subst h;have ng:a.defers=[]:=by
     have:(a.defers.map qm).length=0:=by rw[dL];simpa using zZ
     simpa using this
    have fF:(⟨(L.S.enc s).regs,(L.S.enc s).heap⟩:bn)=L.S.enc s:=rfl;rw[fF]at ai;obtain ⟨φ',ι',a1,k2,b5,-,-⟩:=j1 ai bV lm;rw[ng];have aR:{a with defers:=[]}=a:=by cases a;simp only at ng;subst ng;rfl
    exact cB x w φ' ι' rfl a1.rr (by rw[aR];exact a1) k2 b5
   |cons x l=>
    simp only[List.isEmpty_cons,DT.val,aL,List.head?_cons,List.tail_cons]at eo;obtain ⟨⟨ai,b6⟩,aa,ad⟩:=DT.val_bind_some eo;clear eo;obtain ⟨qQ,al⟩:(ai=.nrm\/ai=.ret)/\b6.regs.get cZ=some (.tup [])/\((L.S.take m ⟨(L.S.enc s).regs.put cZ (.dfr f A B t l),b6.heap⟩).bind fun s=>DT.leaf (Sum.inl (β:=L.Out) s)).val=some r:=by
     cases ai with
     |exit i=>simp[DT.val]at ad
     |nrm=>
      simp only at ad;split at ad
      ·rename_i bH;cases bH
      ·rename_i bH _;exact ⟨.inl rfl,bH,ad⟩
      ·simp[DT.val]at ad
     |ret=>
      simp only at ad;split at ad
      ·rename_i bH;cases bH
      ·rename_i bH _;exact ⟨.inr rfl,bH,ad⟩
      ·simp[DT.val]at ad
    obtain ⟨aaK,al⟩:=al;obtain ⟨gd,aE,aZ⟩:=DT.val_bind_some al;simp only[DT.val,bs]at aZ;subst aZ;simp only at h;cases vs with
    |nil=>simp at zZ
    |cons u vs=>
    obtain ⟨a7,jZ,aY,rfl,ar,aM,bF⟩:=fq 0 x u rfl rfl;obtain ⟨d,eh,M4,kB,nW⟩: ∃d eh,a.defers=d::eh/\qm d=.func (.func f) #[] (a7++jZ::aY).toArray/\eh.map qm=vs:=by
     cases mz:a.defers with
     |nil=>rw[mz]at dL;simp at dL
     |cons d eh=>
      rw[mz]at dL;simp only[List.map_cons,List.cons.injEq]at dL;exact ⟨d,eh,rfl,dL.1,dL.2⟩
    obtain ⟨aU,arw⟩:d.target=.fn (.func f) (a7++jZ::aY).toArray/\d.args= #[]:=by
     unfold qm at kB;split at kB
     ·rename_i g y bH;injection kB with bh bZ da
      exact ⟨by rw[bH,bh,da],bZ⟩
     ·cases kB
    simp only[D1,bB,Bool.not_eq_true',List.isEmpty_iff]at cJ;obtain ⟨⟨⟨⟨⟨asu,adr⟩,asv⟩,OA⟩,asw⟩,asx⟩:=cJ;have OA:=Nat.le_of_ble_eq_true OA;rw[M4];refine ⟨by simp,.inr ⟨(fun h=>(by cases h)),.func f,_,f,#[]++(a7++jZ::aY).toArray,aU,?_,fun _ _=>trivial,?_⟩⟩
    ·rw[aU,arw];have zC: ¬fnd.name= "runtime.NumGoroutine":=by simpa using asw
     simp only[invoke];unfold callFunc;simp[aJ,zC,ag]
    have eG:ae.relT φ ι w (A++ .fptr t x::B) (#[]++(a7++jZ::aY).toArray).toList:=by
     simp only[Array.empty_append];refine aph _ _ _ _ ar ⟨jZ,aY,rfl,aM,bF⟩
    obtain ⟨args,aqb⟩: ∃args:Array Value,#[]++(a7++jZ::aY).toArray=args:=⟨_,rfl⟩;rw[aqb]at eG ⊢;have aqJ: ∀i∈ae.idsL (A++ .fptr t x::B),(aF (L.S.enc s).heap i).live=true:=by
     intro i ab;refine eu i ?_;rw[an7]at ab;simpa [ae.ids,ae.idsL] using ab
    have abb:args.size=(A++ae.fptr t x::B).length:=by
     have: ∀(l:List ae) (vs:List Value),ae.relT φ ι w l vs->vs.length=l.length:=by
      intro l
      induction l with
      |nil=>intro vs h;simp only[ae.relT]at h;simp[h]
      |cons r l aO=>intro vs h;obtain ⟨v,m,rfl,-,h⟩:=h;simp[aO m h]
     simpa using this _ _ eG
    refine CallsDIn.mono (callsDIn_of_wp (F:=ec none) aJ ag trivial (R:=fun e w'=> ∃v,e=.returned v/\LeavesInM (ec none) 0 P fn a.tmps R eh .returning w') ?_) fun e hp w'=> ?_
    ·have jP:cL φ ι w ⟨fnd.ntmps,w.heap.size,[],none,true⟩ ⟨(eV 0 (A++ .fptr t x::B)).put cZ (.tup []),(L.S.enc s).heap⟩ {tmps:=args++Array.replicate (fnd.ntmps-args.size) undef,defers:=[]}:=by
      refine X3 bV.heap eG aqJ ?_ OA abb;rw[abb];simp only[List.length_append,List.length_cons];omega
     refine l0 tab cE hm (bK fnd) 0 _ ai b6 φ ι w _ _ aa ao asu (dW _ adr) (hc.no adr asv) jP (by rw[vH,<-hlen];exact ar2) fun bc w' φ' ι' cp sp bE=> ?_
     have mz:bc.defers=[]:=by
      obtain ⟨⟨tL,Fj,NV⟩,-⟩:=cp.regs cZ _ aaK;rw[oR]at Fj;simp only[ae.relT]at NV;have:tL= #[]:=by cases tL;simpa using NV
      subst this;simpa using Fj
     have kH:=tw (P:=P) (fn:=fnd) (a:=bc) (vs:=[]) (w:=w') (by rw[asx];rfl);have aa6:bc.defers=[]/\ ∃v,(results fnd bc.tmps).run P w'=.ok v w'/\ ∃jR,Ending.returned v=.returned jR/\LeavesInM (ec none) 0 P fn a.tmps R eh .returning w':=by
      refine ⟨mz,_,kH,_,rfl,?_⟩;have ua:dA ι (L.S.enc s).heap ι' b6.heap:=by
       rw[vH,<-hlen]at bE;exact ⟨fun o an=>(bE o (fl an) an).1,fun o an=>(bE o (fl an) an).2⟩
      have oj:cL φ' ι' w' nt ⟨(L.S.enc s).regs.put cZ (.dfr f A B t l),b6.heap⟩ {a with defers:=eh}:=by
       refine ⟨cp.heap,fun o2 fB jE=> ?_,bV.nt,bV.small,⟨Nat.le_trans bV.defers.1 sp.size,fun h=>by rw[ia.2.1]at h;cases h⟩⟩;have jE:((L.S.enc s).regs.put cZ (.dfr f A B t l)).get o2=some fB:=jE;rw[bD.get_put]at jE;by_cases kC:o2=cZ
       ·subst kC;simp only[if_true,bs]at jE;subst jE;have old:(ae.dfr f A B t l).rel φ ι w (.tuple vs.toArray):=⟨vs,rfl,by simpa using zZ,fun i y hp bf hu=>fq (i+1) y hp (by simpa using bf) (by simpa using hu)⟩;rw[oR];simp only[nW];exact ⟨ae.rel_step sp ua eu old,fun i ab=>ua.live i (eu i ab)⟩
       ·simp only[kC,if_false]at jE;have bX:=bV.regs o2 fB jE;rw[hk kC]at bX ⊢;exact ⟨ae.rel_step sp ua bX.2 bX.1,fun i ab=>ua.live i (bX.2 i ab)⟩
      have jL:fA m b6.heap:=fun o an=>ua.live o (lm o an)
      obtain ⟨du,dz,a1,k2,b5,dD,fZ⟩:=j1 aE oj jL;refine aO gd du dz w' {a with defers:=eh} h a1 (Y1 aE) fZ (b5.live jL) fun x fJ kU kT an bh bZ da c4=> ?_
      exact cB x fJ kU kT an ⟨bh.heap,bh.regs⟩ bZ ((sp.trans k2).trans da) (((ua.keepM m).trans b5).trans c4)
     rcases qQ with rfl |rfl
     ·exact aa6
     ·exact aa6
    ·rintro ⟨rfl,v,rfl,lK⟩;exact lK
  ·simp[DT.val]at eo
set_option maxHeartbeats 1000000 in
theorem anj [Env] {F Fd:ba} (tab:cA P F.cx) (cE:bO P F.Γ) (hm:P.follows .mixedOrders=true) {f:FuncId} {fn:Func} {S Z:Shape} (aJ:P.funcs[f]? =some fn) (ag:fn.body=some (bK fn)) (cJ:Lz fn S Z=true) (dq: ∀q∈dF (bK fn) 0,fT P F fn.ntmps q.1 q.2)
  {L:bA} {fd:FuncId} {fnd:Func} {g:L.S.ty.den->Option L.Out} (lY:F.Λ cZ=L.go g F.m) (OZ:cA P Fd.cx) (MH:bO P Fd.Γ) (lf:P.funcs[fd]? =some fnd) (MX:fnd.body=some (bK fnd)) (Nw:D1 fnd=true)
  (np: ∀q∈dF (bK fnd) 0,fT P Fd fnd.ntmps q.1 q.2) (vH:Fd.m=L.S.objs.length) (bH: ∀s o,g s=some o-> ∃n,dR (fun s=>(r3 L F.m Fd fd fnd s).val) n s=some o)
  {args:List ae} (ej:F.m=S.objs.length) {s:S.ty.den} {z:Z.ty.den} (au:S.dec ⟨eV 0 args,H⟩=some s) (e:(D3 F fn S Z s).val=some z):iG P f args H (iE (Z.enc z).regs) (Z.enc z).heap:=by
 have fE:=Shape.dec_enc au;simp only[Lz,bB,Bool.not_eq_true',db]at cJ;obtain ⟨⟨⟨⟨⟨⟨mB,aa0⟩,gC⟩,gO⟩,lQ⟩,lR⟩,lS⟩:=cJ;have gC:=Nat.le_of_ble_eq_true gC;have gO:=Nat.le_of_ble_eq_true gO;have hi:args.length=S.regs.length/\H.length=S.objs.length:=by
  have:=Y9 au;exact ⟨by rw[<-this.1];exact ((mx args 0).2.1).symm,this.2⟩
 unfold D3 at e;rw[ag]at e;simp only[Option.getD_some]at e;obtain ⟨⟨ai,fv⟩,aa,ad⟩:=DT.val_bind_some e;have al:ai=.nrm\/ai=.ret:=by
  cases ai with
  |nrm=>exact .inl rfl
  |ret=>exact .inr rfl
  |exit i=>simp[DT.val]at ad
 have aE:((F.Λ cZ fv).bind fun q=>((kf F.cx q.2.regs 0 fn.results.toList).run q.2.heap q.2.heap.length .none).bind fun (R,h,_,_)=>Z.take F.m ⟨R,h⟩).val=some z:=by
  rcases al with rfl |rfl<;>exact ad
 clear ad e;obtain ⟨⟨aq,b6⟩,aZ,bt⟩:=DT.val_bind_some aE;clear aE;simp only at bt;rw[lY]at aZ;unfold bA.go at aZ;obtain ⟨s1,t1,t2⟩:=DT.val_bind_some aZ;clear aZ;obtain ⟨o,an,he⟩: ∃o,g s1=some o/\(aq,b6)=L.fin o:=by
  cases iv:g s1 with
  |none=>simp[iv,DT.val]at t2
  |some o=>
   refine ⟨o,rfl,?_⟩;cases o with
   |inl x=>simp only[iv,DT.val,bs]at t2;exact t2.symm
   |inr y=>simp only[iv,DT.val,bs]at t2;exact t2.symm
 obtain ⟨n,aQ⟩:=bH s1 o an;obtain ⟨⟨R,bC,kK,rh⟩,g6,dn⟩:=DT.val_bind_some bt;have jd:=HM.go_run _ _ _ _ _ _ _ _ g6;have jh:(Z.enc z).regs.map (·.1)=List.range' 0 fn.results.size:=by
  obtain ⟨⟨aV,bC,wC,pp⟩,a1,k2⟩:=DT.val_bind_some dn;simp only[DT.val_ofOpt]at k2;have b5:(Z.enc z).regs.map (·.1)=Z.regs.map (·.1):=by
   unfold Shape.dec at k2;cases aR:hA Z.regs aV.regs with
   |none=>simp[aR]at k2
   |some x=>
    cases ag:eW Z.objs aV.heap with
    |none=>simp[aR,ag]at k2
    |some y=>
     have:=pG _ _ x [] aR;rw[Shape.dec_enc (st:=aV) (by simp only[Shape.dec,aR,ag]at k2 ⊢;exact k2)];exact tq _ _ _ _ this
  rw[b5,lS]
 refine ⟨⟨fn,aJ,lQ,by rw[ag];rfl⟩,?_⟩;intro φ ι w vs dy ei eG eu;refine uS aJ ag ?_;have dL:vs.size=args.length:=by
  have: ∀(l:List ae) (vs:List Value),ae.relT φ ι w l vs->vs.length=l.length:=by
   intro l
   induction l with
   |nil=>intro vs h;simp only[ae.relT]at h;simp[h]
   |cons r l aO=>intro vs h;obtain ⟨v,m,rfl,-,h⟩:=h;simp[aO m h]
  simpa using this _ _ eG
 have dh:vs.size<=fn.ntmps:=by
  rw[dL,hi.1];exact Nat.le_of_ble_eq_true lR
 rw[fE]at aa;have jP:=X3 (fn:=fn) dy eG eu dh gC dL;have h2:fA F.m H:=by
  rw[ej,<-hi.2];exact fun o an=>ei o an
 refine l0 tab cE hm (bK fn) 0 _ ai fv φ ι w _ _ aa dq mB (dW _ aa0) (hc.fnD aa0) jP h2 fun bc w' φ' ι' cp sp bE=> ?_
 have jL:=bE.live h2;obtain ⟨cU,ep,a1,k2,b5,dD,fZ⟩:=j1 t1 cp jL;have key:LeavesInM (ec none) 0 P fn bc.tmps (fun e w'=> ∃v φ' ι',e=.returned v/\bP φ' ι' w' (Z.enc z).heap/\Step φ ι w H φ' ι' w' (Z.enc z).heap/\dA ι H ι' (Z.enc z).heap/\(iE (Z.enc z).regs).rel φ' ι' w' v/\ ∀i∈(iE (Z.enc z).regs).ids,(aF (Z.enc z).heap i).live=true) bc.defers .returning w':=by
  refine amz OZ MH hm lf MX Nw np vH ⟨rfl,rfl,rfl⟩ n s1 cU ep w' bc aQ a1 (Y1 t1) fZ (b5.live jL) fun x c0 du dz aw bh bZ da c4=> ?_
  subst aw;have ld:b6=L.X.enc x:=by
   have:=congrArg Prod.snd he;exact this
  subst ld;have nA:=(sp.trans k2).trans da;have ll:=(bE.trans b5).trans c4;have On:=ll.live h2;obtain ⟨gD,hB,us,pI,FO,rh,asB⟩:=tv tab fn.results.toList 0 R (L.X.enc x).heap _ bC kK jd bh.heap bh.regs;have kz:R.length=us.length:=by
   have:=congrArg List.length rh;simpa [FO] using this
  have kI:us.toArray.size=fn.results.size:=by simpa using FO
  have iC:cL du dz c0 ⟨us.toArray.size,0,[],none,false⟩ ⟨R,bC⟩ {tmps:=us.toArray,defers:=[]}:=by
   rw[gD];refine ⟨bh.heap,fun d r ax=> ?_,rfl,by rw[kI];exact gO,wd (Nat.zero_le _)⟩;obtain ⟨k,av,gl⟩:=ln R 0 d r (by rw[rh];congr 1;omega) ax;have fD:d=k:=by omega
   subst fD;obtain ⟨v,aX,hL,ft⟩:=asB d (d,r) gl;have:us.toArray.getD d undef=v:=by simp[Array.getD_eq_getD_getElem?,aX]
   have j4:d<us.length:=(List.getElem?_eq_some_iff.1 aX).1;have avw:us.length=us.toArray.size:=by simp
   rw[hk (by omega)];simp only[this];exact ⟨hL,ft⟩
  obtain ⟨kU,kT,c2,cr,ey,ka,oa⟩:=j1 dn iC (by rw[gD];exact On);have gj:(Z.enc z).regs.length=us.toArray.size:=by
   have:=congrArg List.length jh;simp only[List.length_map,List.length_range']at this;rw[this,kI]
  have qR:(Z.enc z).regs.map (·.1)=List.range' 0 (Z.enc z).regs.length:=by rw[jh,gj,kI]
  obtain ⟨ar,aM⟩:=sb (vs:=us.toArray) (R:=(Z.enc z).regs) qR gj (uy (a:={tmps:=us.toArray,defers:=[]}) qR (by rw[gj,kI];exact gO) c2.regs);have kH:=tw pI;refine ⟨_,kH,_,kU,kT,rfl,c2.heap,?_,?_,ar,aM⟩
  ·rw[gD]at cr;exact nA.trans cr
  ·rw[gD]at ey;have hn:=ll.trans ey;refine ⟨fun o an=> ?_,fun o an=> ?_⟩
   ·have a8:o<F.m:=by rw[ej,<-hi.2];exact fl an
    exact (hn o a8 an).1
   ·have a8:o<F.m:=by rw[ej,<-hi.2];exact fl an
    exact (hn o a8 an).2
 rcases al with rfl |rfl
 ·exact key
 ·exact key
theorem amD [Env] {F Fd:ba} (tab:cA P F.cx) (cE:bO P F.Γ) (hm:P.follows .mixedOrders=true) {E:aS} {fn:Func} (aJ:P.funcs[E.f]? =some fn) (ag:fn.body=some (bK fn)) (cJ:Lz fn E.S E.Z=true) {m:List (Nat×Code)} (ao:dF (bK fn) 0=m) (dq:mT P F fn.ntmps m)
  {L:bA} {fd:FuncId} {fnd:Func} {b:L.S.ty.den->Option (L.S.ty.den⊕L.Out)} {g:L.S.ty.den->Option L.Out} (aqz: ∀s,g s=bM b s) (lY:F.Λ cZ=L.go g F.m) (OZ:cA P Fd.cx) (MH:bO P Fd.Γ) (lf:P.funcs[fd]? =some fnd) (MX:fnd.body=some (bK fnd)) (Nw:D1 fnd=true)
  (np:dF (bK fnd) 0=[]) (vH:Fd.m=L.S.objs.length) (nV: ∀s,(r3 L F.m Fd fd fnd s).val=b s) (ej:F.m=E.S.objs.length) (bH: ∀s,(D3 F fn E.S E.Z s).val=E.g s):ck P E:=
 fun args H s z au bz=>anj (L:=L) (g:=g) tab cE hm aJ ag cJ (tO ao dq) lY OZ MH lf MX Nw (by rw[np];simp) vH (fun s o h=>by
  rw[aqz]at h;obtain ⟨n,aQ⟩:=JV h;exact ⟨n,by rw[show (fun s=>(r3 L F.m Fd fd fnd s).val)=b from funext nV];exact aQ⟩) ej au ((bH s).trans bz)
end
open Go.RowKit
def qk (P:Program):DataW (List UInt8)->Option Nat->Bool
 | .nil,none=>true
 | .held (b::r),some f=>decide (((List.range P.funcs.size).filter fun f=>(P.funcs[f]?).any (·.name.toUTF8.data.toList==b::r))=[f])
 |_,_=>false
def uQ (P:Program):List (DataW (List UInt8))->List (Option Nat)->Bool
 |[],[]=>true
 |d::eh,o::os=>qk P d o&&uQ P eh os
 |_,_=>false
theorem Xm {P:Program}: ∀(eh:List (DataW (List UInt8))) (os:List (Option Nat)),uQ P eh os=true-> ∀(i:Nat) (o:Option Nat),os[i]? =some o-> ∃d,eh[i]? =some d/\qk P d o=true
 |[],[],_,i,o,h=>by simp at h
 |[],_::_,h,_,_,_=>by simp[uQ]at h
 |_::_,[],h,_,_,_=>by simp[uQ]at h
 |d::eh,o::os,h,i,de,ab=>by
  simp only[uQ,bB]at h;cases i with
  |zero=>
   simp only[List.getElem?_cons_zero,bs]at ab;subst ab;exact ⟨d,rfl,h.1⟩
  |succ i=>simpa using Xm eh os h.2 i de (by simpa using ab)
theorem anP {P:Program} {w:World} {base:Nat} {sp:Nat->Bool} {fuel:Nat} {e:TypeId} {ps rs:Array TypeId} {kR:Bool} {v:Value} {q:List MemPlace} {d:DataW (List UInt8)} {o:Option Nat}
  (aU:P.underlying e=some (.func ps rs kR)) (aR:qk P d o=true) (h:DataW.trod (funcToken P) P w base sp true fuel e [v]=some (d,q)):v=k9 o:=by
 cases d with
 |nil=>
  cases o with
  |some f=>simp[qk]at aR
  |none=>
   cases fuel with
   |zero=>simp[DataW.trod]at h
   |succ n=>cases v<;>simp[DataW.trod,aU]at h<;>rfl
 |held k=>
  cases k with
  |nil=>cases o<;>simp[qk]at aR
  |cons b r=>
   cases o with
   |none=>simp[qk]at aR
   |some f=>
    simp only[qk,db]at aR;exact func_of_trod aU aR h
 |_=>cases o<;>simp[qk]at aR
theorem anm {P:Program} {w:World} {n:String} {d:DataW Unit} (h:funcsAt P w n d) {g t e:Nat} {fs:List (Option Nat)} {ps rs:Array TypeId} {kR:Bool} {eh:List (DataW (List UInt8))} (ax:d.funcsOut=.agg eh) (bH:P.globalNamed n=some g) (aU:(P.globals[g]?).map (·.type)=some t)
  (hu:P.underlying t=some (.array fs.length e)) (zY:P.underlying e=some (.func ps rs kR)) (aB:P.cellsOf e=1) (aR:uQ P eh fs=true):iT (Told w) w g 0 (fs.map k9):=by
 obtain ⟨Mq,hb,cs,fuel,p,aqy,NP,aX,az⟩:=h;obtain rfl:=Option.some.inj (bH.symm.trans aqy);obtain rfl:=Option.some.inj (aU.symm.trans NP);rw[ax]at az;obtain ⟨xs,m,_,aw,jD,hlen,fg⟩:=DataW.trod_array hu az;simp only[ct,DataW.agg.injEq]at aw;obtain ⟨M4,-⟩:=aw;intro i v ab;rw[List.getElem?_map]at ab;obtain ⟨o,an,rfl⟩:=Option.map_eq_some_iff.1 ab;obtain ⟨auW,aaC,ap9⟩:=Xm eh fs aR i o an;have a8:i<fs.length:=(List.getElem?_eq_some_iff.1 an).1;have hY:=fg i a8;rw[aB,Nat.mul_one]at hY;rw[M4,List.getElem?_map]at aaC;obtain ⟨y,bf,rfl⟩:=Option.map_eq_some_iff.1 aaC;rw[bf]at hY;have eX:=World.var?_cell bH aX i;have key: ∃u,cs[i]? =some u/\(cs.toList.drop i).take 1=[u]:=by
  cases hu:cs[i]? with
  |some u=>
   have aa:cs.toList[i]? =some u:=by simpa using hu
   refine ⟨u,rfl,?_⟩;obtain ⟨ad,al⟩:=List.getElem?_eq_some_iff.1 aa;rw[List.drop_eq_getElem_cons ad,al];rfl
  |none=>
   have aa:cs.toList.length<=i:=by simpa using hu
   rw[List.drop_of_length_le aa]at hY;cases m with
   |zero=>simp[DataW.trod]at hY
   |succ m=>simp[DataW.trod,zY]at hY
 obtain ⟨u,arA,arB⟩:=key;rw[arB]at hY;have:=anP zY ap9 (d:=y.1) (q:=y.2) hY;rw[arA,this]at eX;rw[Nat.zero_add];exact ⟨⟨_,eX⟩,eX⟩
open Go.RowKit Go.Shelf
def x3 (s:List UInt8×List UInt8×Unit):Option (List UInt8×Unit):=
 bif Nat.blt s.1.length 4294967281&&Nat.blt s.2.1.length 4294967281&&s.2.1.all (fun b=>Nat.blt b.toNat 128) then some (Lib.trimS s.1 s.2.1,()) else none
section
variable {P:Program}
theorem aoM [Env] {ρ:Ren} (L:Go.Proofs.Lays.n160 P ρ) (EU:(P.info? (ρ.t 116)).map (fun i=>(i.zero,i.size))=some (some (.agg (Array.replicate 256 (.bool false))),256)) {fn:Func} (aJ:P.funcs[ρ.f 160]? =some fn) (cJ:(!(fn.name== "runtime.NumGoroutine")&& !fn.body.isNone)=true):
  ck P ⟨ρ.f 160,⟨[(0,.dat .str),(1,.dat .str)],[]⟩,⟨[(0,.dat .str)],[]⟩,x3⟩:=by
 intro args H s z au bz;have fE:=Shape.dec_enc au;obtain ⟨a,b,u⟩:=s;have bz:x3 (a,b,u)=some z:=bz;unfold x3 at bz;simp only at bz;cases aB:Nat.blt a.length 4294967281&&Nat.blt b.length 4294967281&&b.all (fun b=>Nat.blt b.toNat 128)
 ·rw[aB]at bz;cases bz
 rw[aB,aA]at bz;obtain rfl:=Option.some.inj bz;simp only[bB]at aB;obtain ⟨⟨aY,fb⟩,c5⟩:=aB;have aY:=Nat.le_of_ble_eq_true aY;have fb:=Nat.le_of_ble_eq_true fb;have hY:(Shape.enc ⟨[(0,.dat .str),(1,.dat .str)],[]⟩ (a,b,u))=⟨[(0,.dat .str a),(1,.dat .str b)],[]⟩:=rfl;have fE:=hY.symm.trans fE;injection fE with aa ad
 obtain rfl:args=[.dat .str a,.dat .str b]:=(uD 0 [.dat .str a,.dat .str b] args aa).symm;subst ad;simp only[bB,Bool.not_eq_true']at cJ;refine ⟨⟨fn,aJ,cJ.1,cJ.2⟩,fun φ ι w vs dy ei eG eu=> ?_⟩;obtain ⟨v1,c2,ai,ar,v2,cr,aq,aM,hm⟩:=eG;simp only[ae.relT]at hm;subst hm aq;have fy:v1=.string ⟨⟨a⟩⟩:=cd.str.1 ar;have k6:v2=.string ⟨⟨b⟩⟩:=cd.str.1 aM;subst fy k6;obtain rfl:vs= #[.string ⟨⟨a⟩⟩,.string ⟨⟨b⟩⟩]:=by cases vs;simp at ai;simp[ai]
 have dh: ∀l:List UInt8,(⟨⟨l⟩⟩:ByteArray).size=l.length:=fun _=>rfl
 refine (Go.Proofs.Any.strings_Trim_laid L EU ⟨⟨a⟩⟩ ⟨⟨b⟩⟩ w (by rw[dh];omega) (by rw[dh];omega) (fun j x aw=> ?_)).mono ?_
 ·have aw:b[j]? =some x:=aw;have:=List.all_eq_true.1 c5 x (List.mem_of_getElem? aw);exact Nat.le_of_ble_eq_true this
 ·rintro e w' ⟨rfl,ag⟩;obtain ⟨a1,k2⟩:=dy.below ag;exact ⟨_,φ,ι,rfl,a1,k2,dA.refl _ _,gz (cd.str.2 rfl),fun i ab=>absurd (show i∈([]:List Nat) from ab) (by simp)⟩
end
end Go.X
