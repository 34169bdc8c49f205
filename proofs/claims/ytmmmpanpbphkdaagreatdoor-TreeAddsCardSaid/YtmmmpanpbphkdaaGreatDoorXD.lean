import Derived.Test.YtmmmpanpbphkdaaGreatDoorXC
import Derived.Lib.Overlaps
import Derived.Shelf.Strings.IndexAnyAll
import Derived.LaidHandle
import Derived.LaidMore
import Derived.OpenShut
import Derived.Shelf.Strings.SlTrimAscii
set_option linter.unusedVariables false
set_option linter.unusedSimpArgs false
namespace Go.X
open Go.RowKit
def Jl (t:az):List K->List aH->DT (K×List aH)
 |[.own ae o,.view v p aR E],J=>match aG J o,aG J p with
  | .arr _ a _ false,.arr _ b _ false=>bif decide (ae=t)&&decide (v=t)&&decide (a=t)&&decide (b=t)&& !Nat.beq o p then .leaf (.dat .bool false,J) else .fail
  |_,_=>.fail
 |_,_=>.fail
section
variable {P:cA}
theorem Wg {w:bm} {D6 ayD e:bs} (aX:P.underlying D6=some (.slice e)) {size:Nat} (bK: ∀w,(Go.sizeOf e).run P w=.ok size w) {a b:Option Addr} {jL HG Dp x2:Nat} (h:a=none\/b=none\/jL=0\/Dp=0):
  (Extern.SlicesOverlaps.overlaps #[D6,D6] #[ayD] #[.slice a jL HG,.slice b Dp x2]).run P w=.ok (.bool false) w:=by
 change Sem.run P (α:=aA) (do
  let some t:=(#[D6,D6]:Array bs)[0]? |stuck "slices.overlaps: no parameter types"
  let .slice elem<-underlying t |stuck "slices.overlaps: slice type expected"
  let size<-sizeOf elem
  match (a:Option Addr),(b:Option Addr) with
  |some a,some b=>
   if jL=0\/Dp=0\/size=0 then pure (Value.bool false)
   else if a.block != b.block&&(<-frozen a)&&(<-frozen b) then unsupported .addressObserved
   else do
    if a.block != b.block then do
     noView a;noView b
     if<-mayBeOne a b then return Value.bool ((<-choose (.extern "sameAddr.stringBytes" 2))==1)
    pure (Value.bool (a.block==b.block&&a.off<b.off+Dp*size&&b.off<a.off+jL*size))
  |_,_=>pure (Value.bool false)) w=_
 cases a with
 |none=>cases b<;>simp[run_underlying aX,bK]
 |some a=>
  cases b with
  |none=>simp[run_underlying aX,bK]
  |some b=>
   have bW:jL=0\/Dp=0\/size=0:=by
    rcases h with h |h |h |h
    ·cases h
    ·cases h
    ·exact .inl h
    ·exact .inr (.inl h)
   simp[run_underlying aX,bK,bW]
theorem ajV [Env] {f:FuncId} (RY:jA f=false) {fn:Func} {T dY e:bs} {t:az} {bytes:Nat} (vE:t≠ .int .u8) (aM:P.funcs[f]? =some fn) (RN:(fn.name== "runtime.NumGoroutine")=false) (L:fn.body.isNone=true) (aN:Extern.findNext fn=none)
  (he:Extern.find fn=some (Extern.SlicesOverlaps.overlaps #[T,T] #[dY])) (ao:P.underlying T=some (.slice e)) (gE:sP P e t bytes) (args:List K) (J:List aH) (r:K) (aB:List aH) (h:(Jl t args J).val=some (r,aB)):wM P f args J r aB:=by
 unfold Jl at h;split at h
 case h_2=>simp[DT.val]at h
 rename_i ae o v p aR E;split at h
 case h_2=>simp[DT.val]at h
 rename_i M a xs V b a1 ab aT;cases au:decide (ae=t)&&decide (v=t)&&decide (a=t)&&decide (b=t)&& !Nat.beq o p
 ·rw[au]at h;simp[DT.val]at h
 rw[au,aj]at h;simp only[DT.val,bM,c0]at h;obtain ⟨rfl,rfl⟩:=h;simp only[bQ,dS,eS]at au;obtain ⟨⟨⟨⟨hu,a8⟩,aV⟩,eG⟩,ct⟩:=au;subst hu a8;subst aV;subst eG;have ct:o≠p:=by rintro rfl;simp at ct
 intro φ ι w aQ ek e4 fF fs;obtain ⟨v1,dI,bq,ah,v2,cW,bU,aS,hm⟩:=fF;simp only[K.relT]at hm;subst hm bU;obtain rfl:aQ= #[v1,v2]:=by cases aQ;simp at bq;simp[bq]
 have q:=ek.obj o;have G:=ek.obj p;rw[ab]at q;rw[aT]at G;obtain ⟨A,n,c,dr,a2,a3,a4,a5⟩:=q;obtain ⟨B,m,I,b1,b2,b3,hH,hO⟩:=G;obtain ⟨rfl,-⟩:=ah;obtain ⟨azB,rI,lI,ai2,bj,ba,c3,gd,rfl,nA,sF⟩:=aS;rw[b1]at bj;obtain ⟨rfl,rfl,rfl⟩:=iM bj;have bK:=λw=>y0 (P:=P) gE w
 have eW:(Extern.SlicesOverlaps.overlaps #[T,T] #[dY] #[ι o,.slice ai2 (E-aR) (I-aR)]).run P w=.ok (.bool false) w:=by
  rw[dr];by_cases avV:n=0
  ·exact Wg ao bK (.inr (.inr (.inl avV)))
  by_cases yr:E-aR=0
  ·exact Wg ao bK (.inr (.inr (.inr yr)))
  rcases a5 with a5 |⟨k,pre,cur,c7,rfl,g1,g2,g3,g0,g4,g5,g6,g7⟩
  ·omega
  rcases hO with hO |⟨a6,pre2,ael,azS,rfl,bf,cq,ef,dp,gS,iv,rC,agB⟩
  ·omega
  have de:=nA u;subst de;have eb:0<b.size:=by obtain ⟨dQ,z,_,_,_,_,_,g6,_⟩:=gE;exact g6
  have hn:k≠a6:=by rintro rfl;exact ct (ek.apart o p k (by rw[ab];rfl) (by rw[aT];rfl) (by rw[dr];simp[dN];omega) (by rw[b1];simp[dN];omega))
  have nG:0<cur.size:=by rw[g2];exact Nat.mul_pos u eb
  have az2:0<ael.size:=by rw[cq];exact Nat.mul_pos u eb
  have yt:=g3.last.resolve_left vE;have:=Lib.run_overlaps_apart w T dY e ao b.size bK ⟨k,pre.size,none⟩ ⟨a6,pre2.size+aR*b.size,none⟩ n c (E-aR) (I-aR) hn M V (pre.size+cur.size) (pre2.size+ael.size)
   (by simp[World.shape?,g1]) (by simp[World.shape?,bf]) u
   (by have bW:=g3.ok pre.size u;simp only[World.frozen?,g1];simpa using bW)
   (by simp only[World.frozen?,g1];simpa using yt)
  simpa [hJ] using this
 refine (j0.call RY).2 (.inr ⟨.bool false,w,?_,.bool false,φ,ι,rfl,ek,Step.refl _ _ _ _,eo.refl _ _,h3 (cJ.bool.2 rfl),by simp[K.ids]⟩);rw[run_callFunc_extern aM RN L aN he,eW];rfl
theorem a37 [Env] {cx:cm} (tab:cT P cx) {f:FuncId} (RY:jA f=false) {fn:Func} {T dY:bs} {t:az} (b9:cx.isTy T (.list t)=true) (vE:decide (t=.int .u8)=false) (aM:P.funcs[f]? =some fn) (RN:(fn.name== "runtime.NumGoroutine")=false) (L:fn.body.isNone=true) (aN:Extern.findNext fn=none)
  (he:Extern.find fn=some (Extern.SlicesOverlaps.overlaps #[T,T] #[dY])) (args:List K) (J:List aH) (r:K) (aB:List aH) (h:(Jl t args J).val=some (r,aB)):wM P f args J r aB:=by
 obtain ⟨i,E,aX⟩:=hP b9;obtain ⟨ao,gE⟩:=kL tab E aX;exact ajV RY (of_decide_eq_false vE) aM RN L aN he ao gE args J r aB h
end
open Go.RowKit
def Hw [Env] (F:bn) (fn:Func) (Z:Shape) (args:List K) (J:List aH):DT Z.ty.den:=
 (gf F (b7 fn) 0 ⟨fX 0 args,J⟩).bind λs=>match s.1 with
  | .exit _=>.fail
  |_=>((l4 F.cx s.2.regs 0 fn.results.toList).run s.2.heap s.2.heap.length .none).bind λp=>Z.take F.m ⟨p.1,p.2.1⟩
section
variable {P:cA} {J:List aH}
theorem aa2 [Env] {F:bn} (tab:cT P F.cx) (c8:cd P F.Γ) (hm:P.follows .mixedOrders=true) {f:FuncId} {fn:Func} {Z:Shape} (aM:P.funcs[f]? =some fn) (L:fn.body=some (b7 fn)) (cI:(hB fn.ntmps (b7 fn)&& !(fn.name== "runtime.NumGoroutine")&& !e2 (b7 fn)&& !gD (b7 fn)&&Nat.ble fn.ntmps dK&&Nat.ble fn.results.size dK)=true) (ad:eC (b7 fn) 0=[])
  (nK:Z.regs.map (·.1)=List.range' 0 fn.results.size) {args:List K} (e6:args.length<=fn.ntmps) (fk:F.m=J.length) {z:Z.ty.den} (e:(Hw F fn Z args J).val=some z):km P f args J (kj (Z.enc z).regs) (Z.enc z).heap:=by
 simp only[bQ,eS]at cI;obtain ⟨⟨⟨⟨⟨oE,nI⟩,nJ⟩,jW⟩,h6⟩,ir⟩:=cI;have h6:=hg h6;have ir:=hg ir;unfold Hw at e;obtain ⟨⟨M,cj⟩,q,G⟩:=DT.val_bind_some e;have W:M=.nrm\/M=.ret:=by
  cases M with
  |nrm=>exact .inl rfl
  |ret=>exact .inr rfl
  |exit i=>simp[DT.val]at G
 have aC:(((l4 F.cx cj.regs 0 fn.results.toList).run cj.heap cj.heap.length .none).bind λp=>Z.take F.m ⟨p.1,p.2.1⟩).val=some z:=by rcases W with rfl |rfl<;>exact G
 obtain ⟨⟨R,bd,ke,tB⟩,bD,dU⟩:=DT.val_bind_some aC;have kK:=HM.go_run _ _ _ _ _ _ _ _ bD;have kO:(Z.enc z).regs.map (·.1)=List.range' 0 fn.results.size:=by
  obtain ⟨⟨bb,bg,y1,pp⟩,bf,a6⟩:=DT.val_bind_some dU;simp only[DT.val_ofOpt]at a6;have cq:(Z.enc z).regs.map (·.1)=Z.regs.map (·.1):=by
   unfold Shape.dec at a6;cases aV:jg Z.regs bb.regs with
   |none=>simp[aV]at a6
   |some x=>
    cases L:fY Z.objs bb.heap with
    |none=>simp[aV,L]at a6
    |some y=>
     have:=rM _ _ x [] aV;rw[Shape.dec_enc (st:=bb) (by simp only[Shape.dec,aV,L]at a6 ⊢;exact a6)];exact wg _ _ _ _ this
  rw[cq,nK]
 refine ⟨⟨fn,aM,nI,by rw[L];rfl⟩,?_⟩;intro φ ι w aQ ek e4 fF fs;refine xD aM L ?_;have eN:aQ.size=args.length:=by
  have: ∀(l:List K) (aQ:List aA),K.relT φ ι w l aQ->aQ.length=l.length:=by
   intro l
   induction l with
   |nil=>intro aQ h;simp only[K.relT]at h;simp[h]
   |cons r l aO=>intro aQ h;obtain ⟨v,m,rfl,-,h⟩:=h;simp[aO m h]
  simpa using this _ _ fF
 have eb:aQ.size<=fn.ntmps:=by rw[eN];exact e6
 have lx:dv φ ι w ⟨fn.ntmps,w.heap.size,[],none,false⟩ ⟨fX 0 args,J⟩ {tmps:=aQ++Array.replicate (fn.ntmps-aQ.size) undef,defers:=[]}:=by
  refine ⟨ek,λI r ao=> ?_,by simp;omega,h6,n9 (ca _)⟩;obtain ⟨bf,a6,cq⟩:=oK args 0;obtain ⟨k,ag,hn⟩:=nd _ 0 I r (by rw[bf,a6]) ao;have eA:I=k:=u;subst eA;have bR:=cq I (I,r) hn;simp only at bR;obtain ⟨v,a8,jv⟩:=ub fF bR;have fa:aQ[I]? =some v:=by simpa using a8
  have lQ:I<aQ.size:=(kY.1 fa).1;have:(aQ++Array.replicate (fn.ntmps-aQ.size) undef).getD I undef=v:=by rw[ji,Array.getElem?_append_left lQ,fa];rfl
  rw[iP u,this];exact ⟨jv,λi E=>fs i (ud bR i E)⟩
 have jM:gW F.m J:=by rw[fk];exact λo ab=>e4 o ab
 refine nR tab c8 hm (b7 fn) 0 _ M cj φ ι w _ _ q (by rw[ad];simp) oE (eU _ nJ) (iK.fn jW) lx jM λbt aq ax aJ cY sp b4=> ?_
 refine E1 W cY sp λaq cY sp=> ?_
 have lr:=b4.live jM;obtain ⟨bq,bU,us,dD,dx,gw,hC⟩:=wu tab fn.results.toList 0 R cj.heap _ bd ke kK cY.heap cY.regs;have kq:R.length=us.length:=by have:=congrArg List.length gw;simpa [dx] using this
 have kh:dv ax aJ aq ⟨us.toArray.size,0,[],none,false⟩ ⟨R,bd⟩ {tmps:=us.toArray,defers:=[]}:=by
  rw[bq];refine ⟨cY.heap,λI r ao=> ?_,rfl,by rw[List.size_toArray,dx];simpa using ir,n9 (Nat.zero_le _)⟩;obtain ⟨k,ag,hn⟩:=nd R 0 I r (by rw[gw];congr 1;omega) ao;have eA:I=k:=u;subst eA;obtain ⟨v,a8,jv,gF⟩:=hC I (I,r) hn;have:us.toArray.getD I undef=v:=by simp[ji,a8]
  have lQ:I<us.length:=(iJ.1 a8).1;have RU:fn.results.toList.length=fn.results.size:=aU;rw[iP u];simp only[this];exact ⟨jv,gF⟩
 obtain ⟨eh,en,dI,cW,eX,lZ,qj⟩:=lM dU kh (by rw[bq];exact lr);have hS:(Z.enc z).regs.length=us.toArray.size:=by have:=congrArg List.length kO;simp only[List.length_map,List.length_range']at this;rw[this];simp[dx]
 obtain ⟨ah,aS⟩:=uN (aQ:=us.toArray) (R:=(Z.enc z).regs) (by rw[kO];congr 1;simpa [dx] using hS.symm) hS (xh (a:={tmps:=us.toArray,defers:=[]}) (by rw[kO];congr 1;simpa [dx] using hS.symm) (by rw[hS,List.size_toArray,dx];simpa using ir) dI.regs);have mx:=wv dD;refine ⟨_,mx,_,eh,en,rfl,dI.heap,?_,?_,ah,aS⟩
 ·rw[bq]at cW;exact sp.trans cW
 ·rw[bq]at eX;have kc:=b4.trans eX;refine ⟨λo ab=> ?_,λo ab=> ?_⟩
  ·exact (kc o (by rw[fk];exact gP ab) ab).1
  ·exact (kc o (by rw[fk];exact gP ab) ab).2
end
def LM {α:Type} (bytes:Nat) (z0:α) (i:Int) (xs a1:List α):Option (List α×List α×Unit):=
 bif (decide ((0:Int)<=i)&&decide ((i:Int)<=(List.length xs:Int))&&decide (((List.length xs:Int):Int)<=(List.length xs:Int))) then
  let t0:List α:=(List.drop (Int.toNat i) (List.take (Int.toNat (List.length xs:Int)) xs))
  let t1:Bool:=(decide ((((List.length a1):Int):Int)=(0:Int)))
  bif t1 then
   none
  else
   let t2:Bool:=(decide ((i:Int)=((List.length xs):Int)))
   bif t2 then
    bif (decide (0<List.length a1)&&decide ((List.length xs+List.length a1)*bytes<=bC)) then
     some (a1,(xs++a1),())
    else
     none
   else
    let t3:Int:=(IntKind.i64.wrap (((List.length xs):Int)+((List.length a1):Int)))
    let t4:Bool:=(decide ((t3:Int)>(List.length xs:Int)))
    bif t4 then
     bif (decide ((0:Int)<=i)&&decide ((i:Int)<=(List.length xs:Int))) then
      let t5:Int:=(IntKind.i64.wrap (((List.length xs):Int)+((List.length a1):Int)))
      bif (decide ((0:Int)<(IntKind.i64.wrap (t5-i)))&&decide (((List.length xs):Int)<(List.length (List.take (Int.toNat i) xs):Int)+(IntKind.i64.wrap (t5-i)))&&decide (((List.length (List.take (Int.toNat i) xs):Int)+(IntKind.i64.wrap (t5-i)))*(bytes:Int)<=(bC:Int))) then
       let t6:List α:=((List.take (Int.toNat i) xs)++List.replicate (Int.toNat (IntKind.i64.wrap (t5-i))) z0)
       bif (decide ((0:Int)<=i)&&decide ((i:Int)<=(List.length t6:Int))&&decide (((List.length t6:Int):Int)<=(List.length t6:Int))) then
        let t7:List α:=(List.take ((Int.toNat (List.length t6:Int))-(Int.toNat i)) a1)
        let t8:List α:=(List.take (Int.toNat i) t6++t7++List.drop ((Int.toNat i)+List.length t7) t6)
        let t9:Int:=(IntKind.i64.wrap (i+((List.length a1):Int)))
        bif (decide ((0:Int)<=t9)&&decide ((t9:Int)<=(List.length t8:Int))&&decide (((List.length t8:Int):Int)<=(List.length t8:Int))) then
         bif (decide ((0:Int)<=i)&&decide ((i:Int)<=(List.length xs:Int))&&decide (((List.length xs:Int):Int)<=(List.length xs:Int))) then
          let t10:List α:=(List.drop (Int.toNat i) (List.take (Int.toNat (List.length xs:Int)) xs))
          let t11:List α:=(List.take ((Int.toNat (List.length t8:Int))-(Int.toNat t9)) t10)
          let t12:List α:=(List.take (Int.toNat t9) t8++t11++List.drop ((Int.toNat t9)+List.length t11) t8)
          some (a1,t12,())
         else
          none
        else
         none
       else
        none
      else
       none
     else
      none
    else
     let t5:Int:=(IntKind.i64.wrap (((List.length xs):Int)+((List.length a1):Int)))
     bif (decide ((0:Int)<=t5)&&decide ((t5:Int)<=(List.length xs:Int))) then
      let t6:Int:=(IntKind.i64.wrap (i+((List.length a1):Int)))
      bif (decide ((0:Int)<=t6)&&decide ((t6:Int)<=(List.length (List.take (Int.toNat t5) xs):Int))&&decide (((List.length (List.take (Int.toNat t5) xs):Int):Int)<=(List.length (List.take (Int.toNat t5) xs):Int))) then
       let t7:List α:=(List.drop (Int.toNat t6) (List.take (Int.toNat (List.length (List.take (Int.toNat t5) xs):Int)) (List.take (Int.toNat t5) xs)))
       none
      else
       none
     else
      none
 else
  none
def LH {α:Type} (bytes:Nat) (i:Int) (xs:List α) (z:α) (a1:List α):Option (List α×List α×Unit):=
 bif (decide ((0:Int)<=i)&&decide ((i:Int)<=(((List.length xs)-0:Nat):Int))&&decide (((((List.length xs)-0:Nat):Int):Int)<=((List.length (xs++[z])-0:Nat):Int))) then
  let t0:Bool:=(decide ((((List.length a1):Int):Int)=(0:Int)))
  bif t0 then
   some (a1,(List.take (List.length xs) (xs++[z])),())
  else
   let t1:Bool:=(decide ((i:Int)=(((List.length xs)-0:Nat):Int)))
   bif t1 then
    bif (decide ((List.length (List.take (List.length xs) (xs++[z]))+List.length a1)*bytes<=bC)) then
     let t2:List α:=(List.take (List.length xs) (xs++[z])++a1)
     some (a1,t2,())
    else
     none
   else
    let t2:Int:=(IntKind.i64.wrap ((((List.length xs)-0:Nat):Int)+((List.length a1):Int)))
    bif (decide ((t2:Int)<=((List.length (xs++[z])-0:Nat):Int))) then
     let t3:Int:=(IntKind.i64.wrap ((((List.length xs)-0:Nat):Int)+((List.length a1):Int)))
     bif (decide (((0:Int):Int)<=t3)&&decide ((t3:Int)<=((List.length (xs++[z])-0:Nat):Int))) then
      let t4:Int:=(IntKind.i64.wrap (i+((List.length a1):Int)))
      bif (decide ((0:Int)<=t4)&&decide ((t4:Int)<=(((0+(Int.toNat t3))-0:Nat):Int))&&decide (((((0+(Int.toNat t3))-0:Nat):Int):Int)<=((List.length (xs++[z])-0:Nat):Int))) then
       let t5:Int:=(IntKind.i64.wrap (i+((List.length a1):Int)))
       bif (decide ((0:Int)<=t5)&&decide ((t5:Int)<=(((0+(Int.toNat t3))-0:Nat):Int))&&decide (((((0+(Int.toNat t3))-0:Nat):Int):Int)<=((List.length (xs++[z])-0:Nat):Int))) then
        bif (decide ((0:Int)<=i)&&decide ((i:Int)<=(((0+(Int.toNat t3))-0:Nat):Int))&&decide (((((0+(Int.toNat t3))-0:Nat):Int):Int)<=((List.length (xs++[z])-0:Nat):Int))) then
         let t6:List α:=(List.drop (0+(Int.toNat i)) (List.take (0+(Int.toNat (((0+(Int.toNat t3))-0:Nat):Int))) (xs++[z])))
         let t7:List α:=(List.take ((0+(Int.toNat (((0+(Int.toNat t3))-0:Nat):Int)))-(0+(Int.toNat t5))) t6)
         let t8:List α:=(List.take (0+(Int.toNat t5)) (xs++[z])++t7++List.drop ((0+(Int.toNat t5))+List.length t7) (xs++[z]))
         bif (decide ((0:Int)<=i)&&decide ((i:Int)<=(((0+(Int.toNat t3))-0:Nat):Int))&&decide (((((0+(Int.toNat t3))-0:Nat):Int):Int)<=((List.length t8-0:Nat):Int))) then
          let t9:List α:=(List.take ((0+(Int.toNat (((0+(Int.toNat t3))-0:Nat):Int)))-(0+(Int.toNat i))) a1)
          let t10:List α:=(List.take (0+(Int.toNat i)) t8++t9++List.drop ((0+(Int.toNat i))+List.length t9) t8)
          some (a1,(List.take (0+(Int.toNat t3)) t10),())
         else
          none
        else
         none
       else
        none
      else
       none
     else
      none
    else
     none
 else
  none
theorem BM {x:Int} (h: -9223372036854775808<=x/\x<9223372036854775808):IntKind.i64.wrap x=x:=by rw[IntKind.wrap_i64];omega
theorem hW {p:Prop} [Decidable p] (h:p):decide p=true:=decide_eq_true h
theorem Hu {p:Prop} [Decidable p] (h: ¬p):decide p=false:=decide_eq_false h
theorem atS {α:Type} {bytes:Nat} {z0:α} {k:Nat} {xs:List α} {y:α} (q:k<=xs.length) (W:xs.length+1<1000000000000000000) (aC:(xs.length+1)*bytes<=bC):
  LM bytes z0 (k:Int) xs [y]=some ([y],xs.take k++[y]++xs.drop k,()):=by
 have du:IntKind.i64.wrap ((xs.length:Int)+(([y].length:Nat):Int))=((xs.length+1:Nat):Int):=by rw[BM (by simp;omega)];simp
 have dc:IntKind.i64.wrap (((xs.length+1:Nat):Int)-(k:Int))=((xs.length+1-k:Nat):Int):=by rw[BM u];omega
 have gK:IntKind.i64.wrap ((k:Int)+(([y].length:Nat):Int))=((k+1:Nat):Int):=by rw[BM (by simp;omega)];simp
 unfold LM;simp only[du,dc,gK,bI];have bj:decide ((0:Int)<=(k:Int))=true:=hW u;have ba:decide ((k:Int)<=(xs.length:Int))=true:=hW u;have c3:decide ((xs.length:Int)<=(xs.length:Int))=true:=hW u;have gd:decide ((([y].length:Nat):Int)=0)=false:=Hu aU;simp only[bj,ba,c3,gd,bN,aj,av];by_cases ag:k=xs.length
 ·subst ag;have c5:decide (((xs.length:Nat):Int)=(xs.length:Int))=true:=hW rfl;have nA:decide (0<[y].length)=true:=hW aU;have sF:decide ((xs.length+[y].length)*bytes<=bC)=true:=hW (by simpa using aC);simp only[c5,nA,sF,aj,bN];simp
 ·have bw:k<xs.length:=u;have c5:decide ((k:Int)=(xs.length:Int))=false:=Hu u;have nA:decide (((xs.length+1:Nat):Int)>(xs.length:Int))=true:=hW u;have lt:(List.take k xs).length=k:=by rw[eE];omega
  have sF:decide ((0:Int)<((xs.length+1-k:Nat):Int))=true:=hW u;have vd:decide ((xs.length:Int)<((List.take k xs).length:Int)+((xs.length+1-k:Nat):Int))=true:=hW (by rw[lt];omega);have Qg:decide ((((List.take k xs).length:Int)+((xs.length+1-k:Nat):Int))*(bytes:Int)<=(bC:Int))=true:=hW (by rw[lt];have:((k:Int)+((xs.length+1-k:Nat):Int))=((xs.length+1:Nat):Int):=u;rw[this,<-Int.natCast_mul];exact Int.ofNat_le.2 aC)
  simp only[c5,nA,sF,vd,Qg,aj,av,bN];have Jc:(List.take k xs++List.replicate (xs.length+1-k) z0).length=xs.length+1:=by rw[et,lt,List.length_replicate];omega
  have d1:decide ((k:Int)<=((List.take k xs++List.replicate (xs.length+1-k) z0).length:Int))=true:=hW (by rw[Jc];omega);have d2:decide (((List.take k xs++List.replicate (xs.length+1-k) z0).length:Int)<=((List.take k xs++List.replicate (xs.length+1-k) z0).length:Int))=true:=hW u;simp only[d1,d2,aj,bN,bI,Jc];have gr:List.take (xs.length+1-k) [y]=[y]:=ic (by simp;omega);have kH:List.take k (List.take k xs++List.replicate (xs.length+1-k) z0)++[y]++List.drop (k+[y].length) (List.take k xs++List.replicate (xs.length+1-k) z0)=List.take k xs++[y]++List.replicate (xs.length-k) z0:=by rw[List.take_append_of_le_length u,ic (l:=List.take k xs) u];rw[List.drop_append,List.drop_of_length_le (l:=List.take k xs) (by simp;omega),List.nil_append,List.drop_replicate,lt];congr 2;simp;omega
  simp only[gr,kH];have yN:(List.take k xs++[y]++List.replicate (xs.length-k) z0).length=xs.length+1:=by simp[lt];omega
  have d3:decide ((0:Int)<=((k+1:Nat):Int))=true:=hW u;have d4:decide (((k+1:Nat):Int)<=((List.take k xs++[y]++List.replicate (xs.length-k) z0).length:Int))=true:=hW (by rw[yN];omega);have d5:decide (((List.take k xs++[y]++List.replicate (xs.length-k) z0).length:Int)<=((List.take k xs++[y]++List.replicate (xs.length-k) z0).length:Int))=true:=hW u;simp only[d3,d4,d5,aj,bN,yN,bI];have vg:List.drop k (List.take xs.length xs)=List.drop k xs:=by rw[eu]
  have qY:List.take (xs.length+1-(k+1)) (List.drop k xs)=List.drop k xs:=ic aU;simp only[vg,qY];have auj:List.take (k+1) (List.take k xs++[y]++List.replicate (xs.length-k) z0)=List.take k xs++[y]:=by rw[List.take_append_of_le_length (by simp[lt]),ic (by simp[lt])]
  have auk:List.drop (k+1+(List.drop k xs).length) (List.take k xs++[y]++List.replicate (xs.length-k) z0)=[]:=List.drop_of_length_le (by rw[yN];simp;omega);have d6:decide ((k:Int)<=((xs.length+1:Nat):Int))=true:=hW u;have d7:decide (((k+1:Nat):Int)<=((xs.length+1:Nat):Int))=true:=hW u;have d8:decide (((xs.length+1:Nat):Int)<=((xs.length+1:Nat):Int))=true:=hW u;simp only[d6,d7,d8,aj,bN,auj,auk,List.append_nil]
theorem atT {α:Type} {bytes:Nat} {k:Nat} {xs:List α} {z y:α} (q:k<=xs.length) (W:xs.length+1<1000000000000000000) (aC:(xs.length+1)*bytes<=bC):
  LH bytes (k:Int) xs z [y]=some ([y],xs.take k++[y]++xs.drop k,()):=by
 have Tr:IntKind.i64.wrap ((xs.length:Int)+(([y].length:Nat):Int))=((xs.length+1:Nat):Int):=by rw[BM (by simp;omega)];simp
 have gK:IntKind.i64.wrap ((k:Int)+(([y].length:Nat):Int))=((k+1:Nat):Int):=by rw[BM (by simp;omega)];simp
 have fH:(xs++[z]).length=xs.length+1:=aU;unfold LH;simp only[Nat.sub_zero,Int.sub_zero,Nat.zero_add];simp only[Tr,gK,bI,fH,Nat.sub_zero,Int.sub_zero,Nat.zero_add];have bj:decide ((0:Int)<=(k:Int))=true:=hW u;have ba:decide ((k:Int)<=(xs.length:Int))=true:=hW u;have c3:decide ((xs.length:Int)<=((xs.length+1:Nat):Int))=true:=hW u;have gd:decide ((([y].length:Nat):Int)=0)=false:=Hu aU;simp only[bj,ba,c3,gd,bN,aj,av];have ayL:List.take xs.length (xs++[z])=xs:=aU;by_cases ag:k=xs.length
 ·subst ag;have c5:decide (((xs.length:Nat):Int)=(xs.length:Int))=true:=hW rfl;have sF:decide ((xs.length+[y].length)*bytes<=bC)=true:=hW (by simpa using aC);simp only[c5,ayL,sF,aj,bN];simp
 ·have bw:k<xs.length:=u;have c5:decide ((k:Int)=(xs.length:Int))=false:=Hu u;have nA:decide (((xs.length+1:Nat):Int)<=((xs.length+1:Nat):Int))=true:=hW u;have sF:decide ((0:Int)<=((xs.length+1:Nat):Int))=true:=hW u;have vd:decide ((0:Int)<=((k+1:Nat):Int))=true:=hW u;have Qg:decide (((k+1:Nat):Int)<=((xs.length+1:Nat):Int))=true:=hW u;have at6:decide ((k:Int)<=((xs.length+1:Nat):Int))=true:=hW u;simp only[c5,nA,sF,vd,Qg,at6,aj,av,bN];have ayM:List.take (xs.length+1) (xs++[z])=xs++[z]:=ic aU;have da:List.drop k (xs++[z])=List.drop k xs++[z]:=by rw[List.drop_append_of_le_length q]
  have gr:List.take (xs.length+1-(k+1)) (List.drop k xs++[z])=List.drop k xs:=by rw[List.take_append_of_le_length aU,ic aU]
  simp only[ayM,da,gr];have yN:(List.take (k+1) (xs++[z])++List.drop k xs++List.drop (k+1+(List.drop k xs).length) (xs++[z])).length=xs.length+1:=by simp;omega
  have azK:decide (((xs.length+1:Nat):Int)<=((List.take (k+1) (xs++[z])++List.drop k xs++List.drop (k+1+(List.drop k xs).length) (xs++[z])).length:Int))=true:=hW (by rw[yN];omega);have nD:List.take (xs.length+1-k) [y]=[y]:=ic (by simp;omega);simp only[yN,nA,aj,bN,nD];have ch:List.drop (k+1+(List.drop k xs).length) (xs++[z])=[]:=List.drop_of_length_le (by simp;omega);have Tg:List.take (k+1) (xs++[z])=List.take (k+1) xs:=by rw[List.take_append_of_le_length u]
  have ahm:(List.take (k+1) xs).length=k+1:=by rw[eE];omega
  rw[ch,List.append_nil,Tg];have M:List.take k (List.take (k+1) xs++List.drop k xs)=List.take k xs:=by rw[List.take_append_of_le_length u,List.take_take];congr 1;omega
  have V:List.drop (k+[y].length) (List.take (k+1) xs++List.drop k xs)=List.drop k xs:=by rw[List.drop_append,List.drop_of_length_le (by rw[ahm];simp),List.nil_append,ahm];simp
  rw[M,V];have aY:List.take (xs.length+1) (List.take k xs++[y]++List.drop k xs)=List.take k xs++[y]++List.drop k xs:=ic (by simp;omega);rw[aY]
def AA {α:Type} (bytes:Nat) (d:Int×List α×List α×Unit):Option (List α×List α×Unit):=
 bif decide (0<=d.1)&&decide (d.1<=(d.2.1.length:Int))&&decide (d.2.2.1.length=1)&&decide (d.2.1.length+1<1000000000000000000)&&decide ((d.2.1.length+1)*bytes<=bC) then some (d.2.2.1,d.2.1.take d.1.toNat++d.2.2.1++d.2.1.drop d.1.toNat,()) else none
def FH (e:bs) (t:az):Shape:=⟨[(0,.own t 0),(1,.dat (.int .i64)),(2,.own t 1)],[.arr e t false,.arr e t false]⟩
def u6 (e:bs) (t:az):Shape:=⟨[(0,.own t 2)],[.gone,.arr e t false,.arr e t false]⟩
theorem akf (e:bs) (t:az) (i:Int) (xs a1:List t.den):(FH e t).enc (i,xs,a1,())=⟨[(0,.own t 0),(1,.dat (.int .i64) i),(2,.own t 1)],[.arr e t xs false,.arr e t a1 false]⟩:=by have h:(FH e t).ty.parts (i,xs,a1,())=[⟨.int .i64,i⟩,⟨.list t,xs⟩,⟨.list t,a1⟩]:=rfl;unfold Shape.enc;rw[h];simp[FH,qy,xE,cw.enc,dX.enc,mF,tU]
theorem akg (e:bs) (t:az) (a1 rs:List t.den):(u6 e t).enc (a1,rs,())=⟨[(0,.own t 2)],[.gone,.arr e t a1 false,.arr e t rs false]⟩:=by have h:(u6 e t).ty.parts (a1,rs,())=[⟨.list t,a1⟩,⟨.list t,rs⟩]:=rfl;unfold Shape.enc;rw[h];simp[u6,qy,xE,cw.enc,dX.enc,mF,tU]
section
variable {P:cA}
theorem ar3 [Env] {f:FuncId} {e:bs} {t:az} {k:Nat} {xs:List t.den} {y:t.den} (rs:List t.den) (vE:t≠ .int .u8) (rn:0<t.size)
  (yg:km P f [.clip t xs,.dat (.int .i64) (k:Int),.own t 1] [.gone,.arr e t [y] false] (.own t 2) [.gone,.arr e t [y] false,.arr e t rs false])
  (Cu: ∀z,km P f [.view t 0 0 xs.length,.dat (.int .i64) (k:Int),.own t 1] [.arr e t (xs++[z]) false,.arr e t [y] false] (.own t 2) [.gone,.arr e t [y] false,.arr e t rs false]):
  km P f [.own t 0,.dat (.int .i64) (k:Int),.own t 1] [.arr e t xs false,.arr e t [y] false] (.own t 2) [.gone,.arr e t [y] false,.arr e t rs false]:=by
 refine ⟨yg.1,?_⟩;intro φ ι w aQ ek e4 fF fs;obtain ⟨v0,aAn,pz,aa,v1,dI,bq,ah,v2,cW,bU,aS,hm⟩:=fF;simp only[K.relT]at hm;subst hm bU bq;obtain rfl:aQ= #[v0,v1,v2]:=by cases aQ;simp at pz;simp[pz]
 have g0:aG [aH.arr e t xs false,.arr e t [y] false] 0=.arr e t xs false:=rfl;have ab:=ek.obj 0;rw[g0]at ab;obtain ⟨A,n,c,fI,jh,za,qm,Dw⟩:=ab;have axZ:=aa;obtain ⟨rfl,-⟩:=aa;by_cases au:c=n
 ·subst au;have avc:(hr (.own t 0)).go [aH.arr e t xs false,.arr e t [y] false] 2=some (⟨.list t,xs⟩,[aH.arr e t xs true,.arr e t [y] false],2):=by simp[hr,HM.go,aG,cc,aH.freeze,aH.mask,tU]
  obtain ⟨-,ax,g,a8⟩:=pm (.own t 0) φ (ι 0) _ 2 _ _ _ avc ek axZ (λi E=>by
   have bW:i=0:=by simpa [K.ids] using E
   rw[bW];rfl)
  have RW:ck ax ι w [aH.gone,.arr e t [y] false]:=by
   refine g.rel.update (λi=>i=0) (λi E=> ?_) (λ_ _=>rfl) (λi E=> ?_) (λi E=> ?_) (λi E j al=> ?_) (λ_ _ _ _ _=>rfl) (λ_ _ _=>rfl) (λi j b E q=> ?_)
   ·cases i with
    |zero=>exact absurd rfl E
    |succ i=>rfl
   ·cases i with
    |zero=>rfl
    |succ i=>exact E
   ·subst E;trivial
   ·subst E;simp[aG,aH.ids]at al
   ·subst E;cases q
  have dM:Step ax ι w [aH.arr e t xs true,.arr e t [y] false] ax ι w [aH.gone,.arr e t [y] false]:=
   ⟨λ_ _ h=>h,λ_ _ _=>rfl,λ_ _ h=>.inl h,ca _,rfl,rfl,rfl,λ_ _ _=>rfl,λb ⟨o,q,G⟩=>.inr ⟨o,by cases o with
    |zero=>cases q
    |succ o=>exact q,G⟩⟩
  refine Calls.mono (yg.2 ax ι w #[ι 0,v1,v2] RW (λi E=> ?_) ⟨ι 0,_,rfl,?_,v1,_,rfl,?_,v2,_,rfl,?_,rfl⟩ (λi E=> ?_)) λaes aq=> ?_
  ·match i,E with
   |0,_=>rfl
   |1,_=>rfl
   |i+2,E=>simp at E;omega
  ·show ∃A n,ι 0=.slice A n n/\bA ax w (.list t) xs [ι 0];refine ⟨A,c,fI,?_⟩;have:=a8.1;rw[rK (by rw[fI];rfl)]at this;simpa using this
  ·exact K.rel_mono g.step.phi g.step.cells _ _ (λ_ _=>rfl) ah
  ·exact K.rel_mono g.step.phi g.step.cells _ _ (λ_ _=>rfl) aS
  ·have:i=1:=by simpa [K.idsL,K.ids] using E
   subst this;rfl
  ·rintro ⟨v,eh,en,he,cy,gJ,eD,ar,gF⟩;have b4:eo ι [aH.arr e t xs false,.arr e t [y] false] ι [aH.gone,.arr e t [y] false]:=⟨λ_ _=>rfl,λo h=>by
    cases o with
    |zero=>rfl
    |succ o=>exact h⟩
   exact ⟨v,eh,en,he,cy,(g.step.trans dM).trans gJ,b4.trans eD,ar,gF⟩
 ·have bw:n<c:=u;rcases Dw with Dw |⟨b,pre,cur,c7,rfl,b1,b2,b3,b0,hH,hO,j4,HA⟩
  ·omega
  obtain ⟨eO,Df⟩:=hH.rest.resolve_left vE;have De:=Df.len (λx c=>bA.len t x c);have jd:cur.toList.length=c*t.size:=by rw[iz,b2]
  rw[List.length_drop,jd,<-Nat.sub_mul]at De;have awM:eO.length=c-n:=Nat.eq_of_mul_eq_mul_right rn De.symm;obtain ⟨z,z6,rfl⟩: ∃z z6,eO=z::z6:=by
   cases eO with
   |nil=>simp at awM;omega
   |cons z z6=>exact ⟨z,z6,rfl⟩
  have oG: ∀i,ej ι 0 (.slice (some ⟨b,pre.size,none⟩) (n+1) c) (i+1)=ι (i+1):=λi=>by simp[ej]
  have hzero:ej ι 0 (.slice (some ⟨b,pre.size,none⟩) (n+1) c) 0=.slice (some ⟨b,pre.size,none⟩) (n+1) c:=by simp[ej]
  have jV: ∀i,dN (ej ι 0 (.slice (some ⟨b,pre.size,none⟩) (n+1) c) i)=dN (ι i):=λi=>by
   cases i with
   |zero=>rw[hzero,fI];simp[dN]
   |succ i=>rw[oG]
  have oH: ∀i,(aG [aH.arr e t (xs++[z]) false,.arr e t [y] false] i).owns=(aG [aH.arr e t xs false,.arr e t [y] false] i).owns:=λi=>by cases i<;>rfl
  have fQ:=c4.append _ _ _ _ hO Df;rw[List.take_append_drop]at fQ;have aeX:c4 (bA φ w t) ((xs++[z])++z6) cur.toList:=by simpa using fQ
  have CX:(xs++[z]).length=n+1:=by simp[jh]
  have RW:ck φ (ej ι 0 (.slice (some ⟨b,pre.size,none⟩) (n+1) c)) w [aH.arr e t (xs++[z]) false,.arr e t [y] false]:=by
   refine ⟨λo=> ?_,λo dV bZ q G W aC=> ?_,ek.phi,λo i lg=> ?_,ek.glob⟩
   ·match o with
    |0=>
     show jE φ _ w 0 (.arr e t (xs++[z]) false);refine ⟨some ⟨b,pre.size,none⟩,n+1,c,hzero,CX,bw,qm,.inr ⟨b,pre,cur,c7,rfl,b1,b2,b3,b0,⟨hH.one,.inr ⟨z6,?_⟩⟩,?_,λk ag=> ?_,λh=>by cases h⟩⟩
     ·have:=aeX.drop (λx c=>bA.len t x c) (n+1)
      rwa [<-CX,List.drop_left,CX]at this
     ·have:=aeX.take (λx c=>bA.len t x c) (n+1)
      rwa [<-CX,List.take_left,CX]at this
     ·exact absurd (j4 k ag).1 aU
    |1=>
     have:=ek.obj 1;show jE φ _ w 1 (.arr e t [y] false);obtain ⟨z8,cG,bj,fJ,fT⟩:=this;exact ⟨z8,cG,bj,(oG 0).trans fJ,fT⟩
    |o+2=>trivial
   ·rw[oH]at q G;rw[jV]at W aC;exact ek.apart o dV bZ q G W aC
   ·match o,lg with
    |0,lg=>simp[aG,aH.ids]at lg
    |1,lg=>simp[aG,aH.ids]at lg
    |o+2,lg=>simp[aG,aH.ids]at lg
  have dM:Step φ ι w [aH.arr e t xs false,.arr e t [y] false] φ (ej ι 0 (.slice (some ⟨b,pre.size,none⟩) (n+1) c)) w [aH.arr e t (xs++[z]) false,.arr e t [y] false]:=
   ⟨λ_ _ h=>h,λ_ _ _=>rfl,λ_ _ h=>.inl h,ca _,rfl,rfl,rfl,λ_ _ _=>rfl,λbZ ⟨o,q,G⟩=>.inr ⟨o,by rw[<-oH];exact q,by rw[<-jV];exact G⟩⟩
  refine Calls.mono ((Cu z).2 φ _ w #[ι 0,v1,v2] RW (λi E=> ?_) ⟨ι 0,_,rfl,?_,v1,_,rfl,?_,v2,_,rfl,?_,rfl⟩ (λi E=> ?_)) λaes aq=> ?_
  ·match i,E with
   |0,_=>rfl
   |1,_=>rfl
   |i+2,E=>simp at E;omega
  ·exact Be ⟨some ⟨b,pre.size,none⟩,n+1,c,some ⟨b,pre.size,none⟩,hzero,Nat.zero_le _,by rw[jh];omega,bw,by rw[fI,jh];rfl,λ_=>by simp[hJ],λ_=>⟨b,_,rfl⟩⟩
  ·exact K.rel_mono (λ_ _ h=>h) (λ_ _ _=>rfl) _ _ (λi E=>absurd E (by simp[K.ids])) ah
  ·refine K.rel_mono (λ_ _ h=>h) (λ_ _ _=>rfl) _ _ (λi E=> ?_) aS;have:i=1:=by simpa [K.ids] using E
   subst this;exact oG 0
  ·have:i=0\/i=1:=by simpa [K.idsL,K.ids] using E
   rcases this with rfl |rfl<;>rfl
  ·rintro ⟨v,eh,en,he,cy,gJ,eD,ar,gF⟩;have yx: ∀i,ej en 0 (ι 0) (i+1)=en (i+1):=λi=>by simp[ej]
   have Sd:ej en 0 (ι 0) 0=ι 0:=by simp[ej]
   have s2:=dM.trans gJ;refine ⟨v,eh,ej en 0 (ι 0),he,⟨λo=> ?_,λo dV bZ q G W aC=> ?_,cy.phi,λo i lg=> ?_,cy.glob⟩,⟨s2.phi,s2.cells,s2.newphi,s2.size,s2.os,s2.tape,s2.output,s2.blocks,λbZ ⟨o,q,G⟩=> ?_⟩,⟨λo ab=> ?_,λo ab=> ?_⟩,?_,gF⟩
   ·match o with
    |0=>trivial
    |1=>
     obtain ⟨z8,cG,bj,fJ,fT⟩:=cy.obj 1;exact ⟨z8,cG,bj,(yx 0).trans fJ,fT⟩
    |2=>
     obtain ⟨z8,cG,bj,fJ,fT⟩:=cy.obj 2;exact ⟨z8,cG,bj,(yx 1).trans fJ,fT⟩
    |o+3=>trivial
   ·cases o with
    |zero=>cases q
    |succ o=>
     cases dV with
     |zero=>cases G
     |succ dV=>
      rw[yx]at W aC;exact cy.apart _ _ bZ q G W aC
   ·match o,lg with
    |0,lg=>simp[aG,aH.ids]at lg
    |1,lg=>simp[aG,aH.ids]at lg
    |2,lg=>simp[aG,aH.ids]at lg
    |o+3,lg=>simp[aG,aH.ids]at lg
   ·cases o with
    |zero=>cases q
    |succ o=>
     rw[yx]at G;exact s2.own bZ ⟨o+1,q,G⟩
   ·match o,ab with
    |0,_=>exact Sd
    |1,_=>rw[yx,eD.iota 1 rfl,oG]
    |o+2,ab=>cases ab
   ·match o,ab with
    |0,_=>rfl
    |1,_=>rfl
    |o+2,ab=>cases ab
   ·refine K.rel_mono (λ_ _ h=>h) (λ_ _ _=>rfl) _ _ (λi E=> ?_) ar;have:i=2:=by simpa [K.ids] using E
    subst this;exact yx 1
theorem asM [Env] {F:bn} (tab:cT P F.cx) (c8:cd P F.Γ) (hm:P.follows .mixedOrders=true) {f:FuncId} {fn:Func} {e:bs} {t:az} {bytes:Nat} (vE:decide (t=.int .u8)=false) (rn:Nat.blt 0 t.size=true) (aM:P.funcs[f]? =some fn) (L:fn.body=some (b7 fn)) (cI:(hB fn.ntmps (b7 fn)&& !(fn.name== "runtime.NumGoroutine")&& !e2 (b7 fn)&& !gD (b7 fn)&&Nat.ble fn.ntmps dK&&Nat.ble fn.results.size dK)=true) (ad:eC (b7 fn) 0=[])
  (mx:Nat.beq fn.results.size 1=true) (CY:Nat.ble 3 fn.ntmps=true) (fk:F.m=2)
  (e6: ∀(i:Int) (xs a1:List t.den),(Hw F fn (u6 e t) [.clip t xs,.dat (.int .i64) i,.own t 1] [.gone,.arr e t a1 false]).val=LM bytes t.zero i xs a1)
  (de: ∀(i:Int) (xs:List t.den) (z:t.den) (a1:List t.den),(Hw F fn (u6 e t) [.view t 0 0 xs.length,.dat (.int .i64) i,.own t 1] [.arr e t (xs++[z]) false,.arr e t a1 false]).val=LH bytes i xs z a1):
  cE P ⟨f,FH e t,u6 e t,λd=>AA (α:=t.den) bytes d⟩:=by
 intro args J d r af bK;have hb:=Shape.dec_enc af;obtain ⟨i,xs,a1,ae⟩:=d;have bK:AA (α:=t.den) bytes (i,xs,a1,ae)=some r:=bK;unfold AA at bK;simp only at bK;cases CC:decide ((0:Int)<=i)&&decide (i<=(xs.length:Int))&&decide (a1.length=1)&&decide (xs.length+1<1000000000000000000)&&decide ((xs.length+1)*bytes<=bC)
 ·rw[CC]at bK;cases bK
 rw[CC,aj]at bK;simp only[bQ,dS]at CC;obtain ⟨⟨⟨⟨bj,ba⟩,c3⟩,gd⟩,c5⟩:=CC;obtain ⟨k,rfl⟩:=Int.eq_ofNat_of_zero_le bj;obtain ⟨y,rfl⟩:=List.length_eq_one_iff.1 c3;obtain rfl:=eY bK;have ba:k<=xs.length:=Int.ofNat_le.1 ba;rw[bI];have hb:=(akf e t (k:Int) xs [y]).symm.trans hb;injection hb with q G
 obtain rfl:args=[.own t 0,.dat (.int .i64) (k:Int),.own t 1]:=(xq 0 [.own t 0,.dat (.int .i64) (k:Int),.own t 1] args q).symm;subst G;have awi:fn.results.size=1:=Nat.eq_of_beq_eq_true mx;have afp:(u6 e t).regs.map (·.1)=List.range' 0 fn.results.size:=by rw[awi];rfl
 have yg:=aa2 tab c8 hm aM L cI ad afp (args:=[.clip t xs,.dat (.int .i64) (k:Int),.own t 1]) (J:=[.gone,.arr e t [y] false]) (hg CY) fk ((e6 k xs [y]).trans (atS ba gd c5));have Cu:=λz=>aa2 tab c8 hm aM L cI ad afp (args:=[.view t 0 0 xs.length,.dat (.int .i64) (k:Int),.own t 1]) (J:=[.arr e t (xs++[z]) false,.arr e t [y] false]) (hg CY) fk ((de k xs z [y]).trans (atT ba gd c5))
 have Se:=akg e t [y] (xs.take k++[y]++xs.drop k);have yg:=Eq.mp (congrArg (λcO:bX=>km P f [.clip t xs,.dat (.int .i64) (k:Int),.own t 1] [.gone,.arr e t [y] false] (kj cO.regs) cO.heap) Se) yg;have Cu:=λz=>Eq.mp (congrArg (λcO:bX=>km P f [.view t 0 0 xs.length,.dat (.int .i64) (k:Int),.own t 1] [.arr e t (xs++[z]) false,.arr e t [y] false] (kj cO.regs) cO.heap) Se) (Cu z)
 exact Eq.mpr (congrArg (λcO:bX=>km P f [.own t 0,.dat (.int .i64) (k:Int),.own t 1] [.arr e t xs false,.arr e t [y] false] (kj cO.regs) cO.heap) Se) (ar3 _ (of_decide_eq_false vE) (hg rn) yg Cu)
end
open Go.RowKit Go.Shelf
def Bq (d:List UInt8×List UInt8×Unit):Option (Int×Unit):=
 bif Nat.blt 8 d.1.length&&Nat.blt d.1.length 4294967281&&Nat.ble 2 d.2.1.length&&Nat.blt d.2.1.length 4294967281&&d.2.1.all (λb=>Nat.blt b.toNat 128) then some (Lib.indexAny d.1 d.2.1,()) else none
section
variable {P:cA}
def DC {α:Type} (a b:Option α):Option α:=match a with |some z=>some z |none=>b
theorem U3 [Env] {f:FuncId} {S Z:Shape} {g1 g2:S.ty.den->Option Z.ty.den} (q:cE P ⟨f,S,Z,g1⟩) (G:cE P ⟨f,S,Z,g2⟩):cE P ⟨f,S,Z,λd=>DC (g1 d) (g2 d)⟩:=by
 intro args J d z af bK;have bK:DC (g1 d) (g2 d)=some z:=bK;unfold DC at bK;cases h:g1 d with
 |some y=>
  rw[h]at bK;obtain rfl:=eY bK;exact q args J d _ af h
 |none=>
  rw[h]at bK;exact G args J d z af bK
theorem ck.below [Env] {φ:bP} {ι:Nat->aA} {w aq:bm} {J:List aH} (h:ck φ ι w J) (b:Below w.heap.size w aq):ck φ ι aq J/\Step φ ι w J φ ι aq J:=by
 have bB:ig w aq:=⟨b.os,b.tape,b.output,b.size,λk ag=>b.block k ag⟩;have au: ∀b k,φ b k->aq.cell? ⟨b,k,none⟩=w.cell? ⟨b,k,none⟩:=λb k ag=>bB.cell (qr h ag)
 refine ⟨h.update (λ_=>False) (λ_ _=>rfl) (λ_ _=>rfl) (λ_ h=>h) (λ_ h=>h.elim) (λ_ h=>h.elim) (λi bZ _ ab h4=>bB.blocks bZ (uG h ab h4)) au (λ_ _ _ h=>h.elim),⟨λ_ _ h=>h,au,λ_ _ h=>.inl h,bB.size,bB.os,bB.tape,bB.output,λbZ h4 _=>bB.blocks bZ h4,λ_ h=>.inr h⟩⟩
theorem arf [Env] {ρ:Ren} (ay:Go.Proofs.Lays.n153 P ρ) (Iy:(P.info? (ρ.t 116)).map (λi=>(i.zero,i.size))=some (some (.agg (Array.replicate 256 (.bool false))),256)) {fn:Func} (aM:P.funcs[ρ.f 153]? =some fn) (cI:(!(fn.name== "runtime.NumGoroutine")&& !fn.body.isNone)=true):
  cE P ⟨ρ.f 153,⟨[(0,.dat .str),(1,.dat .str)],[]⟩,⟨[(0,.dat (.int .i64))],[]⟩,Bq⟩:=by
 intro args J d z af bK;have hb:=Shape.dec_enc af;obtain ⟨a,b,ae⟩:=d;have bK:Bq (a,b,ae)=some z:=bK;unfold Bq at bK;simp only at bK;cases au:Nat.blt 8 a.length&&Nat.blt a.length 4294967281&&Nat.ble 2 b.length&&Nat.blt b.length 4294967281&&b.all (λb=>Nat.blt b.toNat 128)
 ·rw[au]at bK;cases bK
 rw[au,aj]at bK;obtain rfl:=eY bK;simp only[bQ]at au;obtain ⟨⟨⟨⟨bj,ba⟩,c3⟩,gd⟩,c5⟩:=au;have bj:=hg bj;have ba:=hg ba;have c3:=hg c3;have gd:=hg gd;have jc:(Shape.enc ⟨[(0,.dat .str),(1,.dat .str)],[]⟩ (a,b,ae))=⟨[(0,.dat .str a),(1,.dat .str b)],[]⟩:=rfl;have hb:=jc.symm.trans hb;injection hb with q G
 obtain rfl:args=[.dat .str a,.dat .str b]:=(xq 0 [.dat .str a,.dat .str b] args q).symm;subst G;simp only[bQ,eS]at cI;refine ⟨⟨fn,aM,cI.1,cI.2⟩,fun φ ι w aQ ek e4 fF fs=> ?_⟩;obtain ⟨v1,dI,M,ah,v2,cW,V,aS,hm⟩:=fF;simp only[K.relT]at hm;subst hm V;have gA:v1=.string ⟨⟨a⟩⟩:=cJ.str.1 ah;have mV:v2=.string ⟨⟨b⟩⟩:=cJ.str.1 aS;subst gA mV;obtain rfl:aQ= #[.string ⟨⟨a⟩⟩,.string ⟨⟨b⟩⟩]:=by cases aQ;simp at M;simp[M]
 have eb: ∀l:List UInt8,(⟨⟨l⟩⟩:ByteArray).size=l.length:=λ_=>rfl
 refine (Go.Proofs.Any.strings_IndexAny_long ay (zero_of_info Iy).1 (zero_of_info Iy).2 ⟨⟨a⟩⟩ ⟨⟨b⟩⟩ w (by rw[eb];exact c3) (by rw[eb];omega) (by rw[eb];omega) (by rw[eb];omega) (λj x an=> ?_)).mono ?_
 ·have an:b[j]? =some x:=an;have:=fD.1 c5 x (List.mem_of_getElem? an);exact hg this
 ·rintro e aq ⟨rfl,rfl⟩;obtain ⟨bf,a6⟩:=ek.below (((Below.refl _ w).alloc (ca _) _).alloc aU _);exact ⟨_,φ,ι,rfl,bf,a6,eo.refl _ _,h3 (cJ.int.2 rfl),λi E=>absurd (show i∈([]:List Nat) from E) aU⟩
end
open Go.RowKit
section
variable {P:cA} {φ:bP} {ι:Nat->aA} {w:bm} {J:List aH}
def LK [Env] (P:cA) (F:bn) (n:Nat) (C:bn->Code->Nat->bX->DT (ei×bX)) (c:Code):Prop:=
 ∀(nt:jD) (st:bX) (e:ei) (bb:bX) (φ:bP) (ι:Nat->aA) (w:bm) (a:Act) (bx:Exit->Act->bm->Prop),nt.n=n->(C F c 0 st).val=some (e,bb)->dv φ ι w nt st a->gW F.m st.heap->
  (∀bt aq ax aJ,dv ax aJ aq nt bb bt->Step φ ι w st.heap ax aJ aq bb.heap->ih F.m ι st.heap aJ bb.heap->bx (k3 e) bt aq)->c.wpIn (e9 nt.ro) 0 P bx a w
theorem ade [Env] {F:bn} {n:Nat} {c:Code} (tab:cT P F.cx) (c8:cd P F.Γ) (hm:P.follows .mixedOrders=true) (ad: ∀s∈eC c 0,hq P F n s.1 s.2) (au:(hB n c&& !e2 c&& !gD c)=true):LK P F n gf c:=by intro nt st e bb φ ι w a bx aN h cr lm c9;subst aN;simp only[bQ,eS]at au;exact nR tab c8 hm c 0 st e bb φ ι w a bx h ad au.1.1 (eU _ au.1.2) (iK.no au.1.2 au.2) cr lm c9
theorem abc {φ:bP} {ι:Nat->aA} {w:bm} {J:List aH}: ∀(ps:List Nat) (rs:List K) (aQ:List aA) (R:bS) (t:Array aA),(∀p∈ps,p<t.size)->K.relT φ ι w rs aQ->(∀i∈K.idsL rs,(aG J i).live=true)->ps.length=rs.length->
  (∀I r,R.get I=some r->r.rel φ ι w (t.getD I undef)/\ ∀i∈r.ids,(aG J i).live=true)->
  ((ps.zip aQ).foldl (λt s=>t.setIfInBounds s.1 s.2) t).size=t.size/\ ∀I r,(xy ps rs R).get I=some r->r.rel φ ι w (((ps.zip aQ).foldl (λt s=>t.setIfInBounds s.1 s.2) t).getD I undef)/\ ∀i∈r.ids,(aG J i).live=true
 |[],rs,aQ,R,t,_,_,_,_,h=>by
  refine ⟨aU,λI r ao=> ?_⟩;have:xy [] rs R=R:=by cases rs<;>rfl
  rw[this]at ao;simpa using h I r ao
 |p::ps,[],aQ,R,t,_,_,_,ad,h=>by simp at ad
 |p::ps,r::rs,aQ,R,t,aT,ar,gF,ad,h=>by
  obtain ⟨v,m,rfl,q,G⟩:=ar;have bw:p<t.size:=aT p aU;have aO:=abc ps rs m (R.put p r) (t.setIfInBounds p v) (λs aP=>by simp;exact aT s (by simp[aP])) G (λi E=>gF i (by simp[K.idsL,E])) (by simpa using ad) (λI x an=>by
   rw[bS.get_put]at an;by_cases ao:I=p
   ·subst ao;simp only[if_true,bM]at an;subst an;have:(t.setIfInBounds I v).getD I undef=v:=by simp[ji,bw]
    rw[this];exact ⟨q,λi E=>gF i (by simp[K.idsL,E])⟩
   ·simp only[ao,if_false]at an;have ct:p≠I:=λh=>ao h.symm
    have:(t.setIfInBounds p v).getD I undef=t.getD I undef:=by simp[ji,Array.getElem?_setIfInBounds,ct]
    rw[this];exact h I x an)
  refine ⟨by simpa using aO.1,λI x an=> ?_⟩;have:=aO.2 I x an;simpa using this
theorem adE [Env] (h:ck φ ι w J) {Y:Nat} {R:bS} {p hv:Int} {l:Nat} (ab:aG J 0=.loop Y R p) (E:ι 0=.func (.yield l) #[] #[]) {pB:Loop} (gG:Uc pB hv)
  (qa: ∀rec c,Hs φ ι w l rec c Y R p->pB.params=rec.params/\pB.assign=rec.assign/\pB.body=rec.body/\pB.tmps=rec.tmps):
  ck φ ι (w.putObj l (.loop pB)) (cc J 0 (.loop Y R hv))/\Step φ ι w J φ ι (w.putObj l (.loop pB)) (cc J 0 (.loop Y R hv))/\eo ι J ι (cc J 0 (.loop Y R hv)):=by
 have dC:=h.obj 0;rw[ab]at dC;obtain ⟨ds,rec,c,fI,iA⟩:=dC;have im:ds=l:=AZ (fI.symm.trans E);subst im;obtain ⟨ah,aS,bV,dE⟩:=qa rec c iA;have bw:=(kY.1 iA.heap).1;obtain ⟨dr,a2,a3,-⟩:=BI (n:=J.length) (dh:=.loop Y R hv) h (o:=0) (b:=ds) (by rw[ab];rfl) (by rw[E];rfl) (jk.putObj w ds (.loop pB)) iA.phi
  ⟨ds,pB,c,E,⟨iA.code,World.putObj_heap_same bw,by rw[ah];exact iA.params,by rw[aS];exact iA.assign,by rw[bV];exact iA.body,by rw[dE];exact iA.nt,gG,λs aP=>by rw[dE];exact K.rel_mono (λ_ _ h=>h) (λb k L=>(jk.putObj w ds _).cell (λe=>iA.phi k (e▸L))) s.2 _ (λ_ _=>rfl) (iA.regs s aP),iA.phi⟩⟩
  (λi E=>h.ids 0 i (by rw[ab];exact E)) rfl
 exact ⟨dr,a2,a3⟩
theorem asn {Y:Nat} {e:ei} {st bb:bX} (h:(P2 Y e st).val=some bb): ∃R,aG st.heap 0=.loop Y R (-1)/\bb=⟨[(0,.dat .bool e.isNrm)],cc st.heap 0 (.loop Y R (nW e))⟩:=by
 unfold P2 at h;split at h
 ·rename_i FE R p dC;cases L:Nat.beq FE Y
  ·simp[L,DT.val]at h
  rw[L,aj]at h;have:FE=Y:=by simpa using L
  subst this;simp only[DT.val]at h;cases aT:decide (p= -1)
  ·simp[aT]at h
  rw[aT,aj]at h;simp only[bM]at h;have:p= -1:=of_decide_eq_true aT;subst this;exact ⟨R,dC,h.symm⟩
 ·simp[DT.val]at h
def LD (c:nq) (S Z:Shape):Bool:=
 Nat.beq S.regs.length (c.params.length+1)&&c.params.all (Nat.blt · c.nt)&&decide (Z.regs.map (·.1)=[0])&&Nat.ble c.nt dK
theorem atG {Z:Shape} {m:Nat} {st:bX} {z:Z.ty.den} (h:(Z.take m st).val=some z):(Z.enc z).regs.map (·.1)=Z.regs.map (·.1):=by
 unfold Shape.take at h;obtain ⟨⟨bb,bg,y1,pp⟩,bf,a6⟩:=DT.val_bind_some h;simp only[DT.val_ofOpt]at a6;unfold Shape.dec at a6;cases aV:jg Z.regs bb.regs with
 |none=>simp[aV]at a6
 |some x=>
  cases L:fY Z.objs bb.heap with
  |none=>simp[aV,L]at a6
  |some y=>
   have:=rM _ _ x [] aV;rw[Shape.dec_enc (st:=bb) (by simp only[Shape.dec,aV,L]at a6 ⊢;exact a6)];exact wg _ _ _ _ this
theorem ajM [Env] {F:bn} {C:bn->Code->Nat->bX->DT (ei×bX)} {Y:Nat} {c:nq} {S Z:Shape} {g:S.ty.den->Option Z.ty.den} (ym:Env.code Y=some c) (cI:LD c S Z=true) (fk:F.m=S.objs.length) (e6:LK P F c.nt C c.assign) (de:LK P F c.nt C c.body)
  (bB: ∀d,(sv F C Y c S Z d).val=g d):qT P ⟨Y,S,Z,g⟩:=by
 intro args J d z af bK;have hb:=Shape.dec_enc af;simp only[LD,bQ,dS,Nat.beq_eq,fD]at cI;obtain ⟨⟨⟨oE,nI⟩,nJ⟩,nK⟩:=cI;have nK:=hg nK;have iO:args.length=S.regs.length/\J.length=S.objs.length:=by
  unfold Shape.dec at af;simp only at af;cases aV:jg S.regs (fX 0 args) with
  |none=>simp[aV]at af
  |some x=>
   cases L:fY S.objs J with
   |none=>simp[aV,L]at af
   |some y=>
    refine ⟨by rw[<-zD _ _ _ aV,(oK args 0).2.1],?_⟩;have: ∀(d:List dX) (R:List aH) (l:List eP),fY d R=some l->R.length=d.length:=by
     intro d
     induction d with
     |nil=>intro R l h;cases R<;>simp[fY]at h ⊢
     |cons a d aO=>
      intro R l h;cases R with
      |nil=>simp[fY]at h
      |cons b R=>
       simp only[fY]at h;split at h
       ·obtain ⟨b,L,-⟩:=ib.1 h;simp[aO R b L]
       ·cases h
    exact this _ _ _ L
 have e:(sv F C Y c S Z d).val=some z:=(bB d).trans bK;unfold sv at e;simp only at hb;rw[hb]at e;cases args with
 |nil=>simp[fX,DT.val]at e
 |cons a0 args=>
 cases J with
 |nil=>
  simp[fX,DT.val]at e
 |cons dh J=>
 simp only[fX]at e;split at e
 case h_2=>simp[DT.val]at e
 rename_i d0 azF apf pO R p aB bq bU;injection bq with bq SX
 injection bq with ahQ SY
 injection bU with bU axG
 subst SY SX bU axG;cases Rm:Nat.beq pO Y
 ·simp[Rm,DT.val]at e
 rw[Rm,aj]at e;have auU:pO=Y:=by simpa using Rm
 subst auU;simp only[DT.val]at e;cases rh:decide (p=0)
 ·simp[rh]at e
 rw[rh,aj]at e;have rh:p=0:=of_decide_eq_true rh;subst rh;split at e
 ·simp[DT.val]at e
 rename_i RO;obtain ⟨⟨M,cj⟩,q,e⟩:=DT.val_bind_some e;have auX:(fX (0+1) args).map (·.2)=args:=by
  have: ∀(l:List K) (k:Nat),(fX k l).map (·.2)=l:=by
   intro l
   induction l with
   |nil=>intro k;rfl
   |cons x l aO=>intro k;simp[fX,aO]
  exact this _ _
 rw[auX]at q RO;intro φ ι w aQ ek e4 fF fs;obtain ⟨v0,wF,eN,R7,yC⟩:=fF;obtain ⟨R7,l,afN⟩:=R7;have av3:=ek.obj 0;obtain ⟨ds,rec,ba,fI,iA⟩:=av3;have im:ds=l:=AZ (fI.symm.trans (R7.symm.trans afN));subst im;have au5:ba=c:=eY (iA.code.symm.trans ym);subst au5;have afP:aQ=(v0::wF).toArray:=by apply Array.ext';simpa using eN
 have CH:aQ.extract 1 aQ.size=wF.toArray:=by rw[afP];simp
 have avM:wF.length=args.length:=by
  have: ∀(l:List K) (aQ:List aA),K.relT φ ι w l aQ->aQ.length=l.length:=by
   intro l
   induction l with
   |nil=>intro aQ h;simp only[K.relT]at h;simp[h]
   |cons r l aO=>intro aQ h;obtain ⟨v,m,rfl,-,h⟩:=h;simp[aO m h]
  exact this _ _ yC
 have afs:args.length=ba.params.length:=by have:=iO.1;simp at this;omega
 have aAh:rec.state=.ready/\rec.pending=none:=by
  rcases iA.st with ⟨-,a,b⟩|⟨a,-⟩|⟨ee,a,b,-⟩
  ·exact ⟨a,b⟩
  ·omega
  ·exact absurd (Hf (e:=ee) (f:=.nrm) (a.symm)) b
 refine (j0.round (by unfold jA;rw[ym];rfl)).2 ⟨ds,?_,?_⟩
 ·rw[afP];simp[afN]
 rw[CH];refine ⟨rec.fn,_,rec.assign,rec.body,run_yield iA.heap (by simp;rw[avM,afs,<-iA.params];simp),roundIn_of_wpIn (F:=e9 none) trivial ?_⟩;rw[iA.assign,iA.body];obtain ⟨jO,I4⟩: ∃jO,(rec.params.zip wF.toArray).foldl (λtmps (s:Tmp×aA)=>tmps.setIfInBounds s.1 s.2) rec.tmps=jO:=⟨_,rfl⟩;have awv:(ba.params.zip wF).foldl (λt (s:Nat×aA)=>t.setIfInBounds s.1 s.2) rec.tmps=jO:=by rw[<-I4,<-iA.params,<-Array.foldl_toList];simp
 have K1:=abc (φ:=φ) (ι:=ι) (w:=w) (J:=.loop pO R 0::J) ba.params args wF R rec.tmps (λs aP=>by rw[iA.nt];simpa using nI s aP) yC (λi E=>fs i (by simp[K.idsL,E])) afs.symm (λI r ao=>⟨iA.regs _ (bS.get_mem ao),λi E=>ek.ids 0 i (bS.mem_ids (bS.get_mem ao) i E)⟩);rw[awv]at K1;have lx:dv φ ι w ⟨ba.nt,w.heap.size,[],some ds,false⟩ ⟨xy ba.params args R,.loop pO R 0::J⟩ {tmps:=jO,defers:=[]}:=⟨ek,λI r ao=>by rw[iP (λe=>by rw[e]at ao;rw[ao]at RO;cases RO)];exact K1.2 I r ao,K1.1.trans iA.nt,nK,n9 (ca _)⟩
 have jM:gW F.m (.loop pO R 0::J):=by rw[fk,<-iO.2];exact λo ab=>e4 o ab
 have IP:0<F.m:=by rw[fk,<-iO.2];simp
 show ba.assign.wpIn (e9 (some ds)) 0 P _ {tmps:=(rec.params.zip wF.toArray).foldl (λtmps (s:Tmp×aA)=>tmps.setIfInBounds s.1 s.2) rec.tmps,defers:=[]} w;rw[I4];refine e6 ⟨ba.nt,w.heap.size,[],some ds,false⟩ _ M cj φ ι w _ _ rfl q lx jM λdr du dF fo qs ayq SE=> ?_
 cases M with
 |exit i=>simp[DT.val]at e
 |ret=>simp[DT.val]at e
 |nrm=>
 simp only at e;split at e
 case h_2=>simp[DT.val]at e
 rename_i oj wY fT CZ;cases eG:Nat.beq oj pO
 ·simp[eG,DT.val]at e
 rw[eG,aj]at e;have:oj=pO:=by simpa using eG
 subst this;simp only[DT.val]at e;cases ll:decide (fT=0)
 ·simp[ll]at e
 rw[ll,aj]at e;have:fT=0:=of_decide_eq_true ll;subst this;obtain ⟨⟨V,dM⟩,G,e⟩:=DT.val_bind_some e;obtain ⟨n0,W,aC⟩:=DT.val_bind_some e;have lr:=SE.live jM;have iE:fo 0=.func (.yield ds) #[] #[]:=by rw[(SE 0 IP (jM 0 IP)).1];exact fI
 have awg: ∃tL bj,Hs dF fo du ds tL bj oj wY 0:=by have:=qs.heap.obj 0;rw[CZ]at this;obtain ⟨nQ,tL,bj,za,Ab⟩:=this;have:nQ=ds:=AZ (za.symm.trans iE);subst this;exact ⟨tL,bj,Ab⟩
 obtain ⟨tL,bj,Ab⟩:=awg;have vD:tL.state=.ready:=by
  rcases Ab.st with ⟨-,a,b⟩|⟨a,-⟩|⟨ee,a,b,-⟩
  ·exact a
  ·omega
  ·exact absurd (Hf (e:=ee) (f:=.nrm) (a.symm)) b
 simp only[k3,Exit.then];refine ⟨_,run_beginRound Ab.heap vD,?_⟩;obtain ⟨t1,t2,t3⟩:=adE qs.heap CZ iE (pB:={tL with state:=.busy}) (hv:= -1) (.inr (.inl ⟨rfl,rfl⟩)) (λrec c h=>by
  have:=Ab.heap.symm.trans h.heap;have:tL=rec:=by simpa using this
  subst this;exact ⟨rfl,rfl,rfl,rfl⟩)
 have ayr:dv dF fo (du.putObj ds (.loop {tL with state:=.busy})) ⟨ba.nt,w.heap.size,[],some ds,false⟩ ⟨cj.regs,cc cj.heap 0 (.loop oj wY (-1))⟩ dr:=
  ⟨t1,λI r ao=>⟨K.rel_step t2 t3 (qs.regs I r ao).2 (qs.regs I r ao).1,λi E=>t3.live i ((qs.regs I r ao).2 i E)⟩,qs.nt,qs.small,qs.defers.step t2⟩
 have SH:gW F.m (cc cj.heap 0 (.loop oj wY (-1))):=(t3.keepM F.m).live lr;refine de ⟨ba.nt,w.heap.size,[],some ds,false⟩ _ V dM dF fo _ _ _ rfl G ayr SH λa2 dc eh en kh pF m9=> ?_
 obtain ⟨Uj,afx,rl⟩:=asn W;have SI:=m9.live SH;have e3:en 0=.func (.yield ds) #[] #[]:=by rw[(m9 0 IP (SH 0 IP)).1];exact iE
 obtain ⟨pC,c3,Ub⟩: ∃pC c3,Hs eh en dc ds pC c3 oj Uj (-1):=by have:=kh.heap.obj 0;rw[afx]at this;obtain ⟨rE,ax5,gd,qm,ai7⟩:=this;have:rE=ds:=AZ (qm.symm.trans e3);subst this;exact ⟨ax5,gd,ai7⟩
 have fin: ∀(jump:Option Code),(match V with | .nrm=>jump=none |e=>jump=some (Qo e))-> ∃v aq,(Instr.endRound ds jump).run P dc=.ok v aq/\(∃lz ax aJ,Ending.returned v=.returned lz/\ck ax aJ aq (Z.enc z).heap/\Step φ ι w (.loop oj R 0::J) ax aJ aq (Z.enc z).heap/\eo ι (.loop oj R 0::J) aJ (Z.enc z).heap/\(kj (Z.enc z).regs).rel ax aJ aq lz/\ ∀i∈(kj (Z.enc z).regs).ids,(aG (Z.enc z).heap i).live=true):=by
  intro jump al;refine ⟨_,_,run_endRound jump Ub.heap,?_⟩;obtain ⟨kV,pG,rW⟩:=adE kh.heap afx e3 (pB:={pC with state:=if jump.isNone then .ready else .done,pending:=jump}) (hv:=nW V) (by
   cases V with
   |nrm=>simp only at al;subst al;exact .inl ⟨rfl,rfl,rfl⟩
   |ret=>simp only at al;subst al;exact .inr (.inr ⟨.ret,rfl,aU,rfl,rfl⟩)
   |exit i=>simp only at al;subst al;exact .inr (.inr ⟨.exit i,rfl,aU,rfl,rfl⟩)) (λrec c h=>by
   have:=Ub.heap.symm.trans h.heap;have:pC=rec:=by simpa using this
   subst this;exact ⟨rfl,rfl,rfl,rfl⟩)
  obtain ⟨gK,afQ⟩: ∃gK,dc.putObj ds (.loop {pC with state:=if jump.isNone then .ready else .done,pending:=jump})=gK:=⟨_,rfl⟩;rw[afQ]at kV pG ⊢;have CP:jump.isNone=V.isNrm:=by
   cases V with
   |nrm=>simp only at al;subst al;rfl
   |ret=>simp only at al;subst al;rfl
   |exit i=>simp only at al;subst al;rfl
  have D1:dv eh en gK ⟨1,0,[],none,false⟩ n0 {tmps:= #[.bool jump.isNone],defers:=[]}:=by
   rw[rl];refine ⟨kV,λI r ao=> ?_,rfl,hg rfl,n9 (Nat.zero_le _)⟩;simp only[bS.get]at ao;cases pf:Nat.beq I 0
   ·simp[pf]at ao
   ·simp only[pf,aj,bM]at ao;have:I=0:=by simpa using pf
    subst this ao;rw[CP,iP fc];exact ⟨h3 (cJ.bool.2 rfl),by simp[K.ids]⟩
  have awX:gW F.m n0.heap:=by rw[rl];exact (rW.keepM F.m).live SI
  obtain ⟨mK,mJ,dI,cW,eX,lZ,qj⟩:=lM aC D1 awX;have CQ:=(atG aC).trans nJ;have hS:(Z.enc z).regs.length=(#[Value.bool jump.isNone]:Array aA).size:=by have:=congrArg List.length CQ;simpa using this
  obtain ⟨ah,aS⟩:=uN (aQ:= #[Value.bool jump.isNone]) (R:=(Z.enc z).regs) (by rw[CQ];have:=congrArg List.length CQ;simp at this;rw[this];rfl) hS (xh (a:={tmps:= #[.bool jump.isNone],defers:=[]}) (by rw[CQ];have:=congrArg List.length CQ;simp at this;rw[this];rfl) (by rw[hS];exact hg rfl) dI.regs);have avx:n0.heap=cc dM.heap 0 (.loop oj Uj (nW V)):=by rw[rl]
  rw[avx]at cW eX;refine ⟨_,mK,mJ,rfl,dI.heap,(((ayq.trans t2).trans pF).trans pG).trans cW,?_,by simpa using ah,aS⟩;have kc:=(((SE.trans (t3.keepM F.m)).trans m9).trans (rW.keepM F.m)).trans eX;refine ⟨λo ab=> ?_,λo ab=> ?_⟩
  ·have bw:o<F.m:=by rw[fk,<-iO.2];exact gP ab
   exact (kc o bw ab).1
  ·have bw:o<F.m:=by rw[fk,<-iO.2];exact gP ab
   exact (kc o bw ab).2
 cases V with
 |nrm=>exact fin none rfl
 |ret=>exact fin (some .ret) rfl
 |exit i=>exact fin (some (.exit i)) rfl
theorem Gh [Env] {F:bn} {Y:Nat} {c:nq} {S Z:Shape} {g:S.ty.den->Option Z.ty.den} (tab:cT P F.cx) (c8:cd P F.Γ) (hm:P.follows .mixedOrders=true) (ym:Env.code Y=some c) (cI:LD c S Z=true) (fk:F.m=S.objs.length)
  {m:List (Nat×Code)} (ad:eC (.seq c.assign c.body) 0=m) (ea:oW P F c.nt m) (au:(hB c.nt (.seq c.assign c.body)&& !e2 (.seq c.assign c.body)&& !gD (.seq c.assign c.body))=true) (bB: ∀d,(sv F gf Y c S Z d).val=g d):qT P ⟨Y,S,Z,g⟩:=by
 have fQ:=uD ad ea;simp only[hB,e2,gD,bQ,eS,Bool.or_eq_false_iff]at au;exact ajM ym cI fk (ade tab c8 hm (λs aP=>fQ s (by simp[eC,aP])) (by simp[au.1.1.1,au.1.2.1,au.2.1])) (ade tab c8 hm (λs aP=>fQ s (by simp[eC,aP])) (by simp[au.1.1.2,au.1.2.2,au.2.2])) bB
def Lx [Env] (F:bn):List (Nat×nq)->Prop
 |[]=>True
 |s::l=>(∀Y,F.rfs s.1=some Y->Env.code Y=some s.2)/\Lx F l
def Vp (P:cA):List Nat->Prop
 |[]=>True
 |f::l=>(∃fn,P.funcs[f]? =some fn/\(fn.name== "runtime.NumGoroutine")=false/\fn.body.isNone=false)/\Vp P l
theorem BF [Env] {F:bn} {s:Nat×nq} {Y:Nat} (h:F.rfs s.1=some Y) (au:Env.code Y=some s.2): ∀Y,F.rfs s.1=some Y->Env.code Y=some s.2:=λZ aeV=>by rw[h]at aeV;obtain rfl:=eY aeV;exact au
theorem Bw [Env] {F:bn} {n:Nat} {c:Code} {m:List (Nat×nq)} {its:List Nat} (hm:lA n c=m) (h:Lx F m) (E:F.its=its) (G:Vp P its):jU P F n c:=by
 have fQ: ∀(l:List (Nat×nq)),Lx F l-> ∀s∈l,∀Y,F.rfs s.1=some Y->Env.code Y=some s.2:=by
  intro l
  induction l with
  |nil=>intro _ s aP;cases aP
  |cons a l aO=>
   intro h s aP;rcases fe.1 aP with rfl |aP
   ·exact h.1
   ·exact aO h.2 s aP
 have RB: ∀f∈F.its,∃fn,P.funcs[f]? =some fn/\(fn.name== "runtime.NumGoroutine")=false/\fn.body.isNone=false:=by
  rw[E];clear E
  induction its with
  |nil=>intro f aM;cases aM
  |cons a l aO=>
   intro f aM;rcases fe.1 aM with rfl |aM
   ·exact G.1
   ·exact aO G.2 f aM
 have key: ∀c,(∀s∈lA n c,∀Y,F.rfs s.1=some Y->Env.code Y=some s.2)->jU P F n c:=by
  intro c
  induction c with
  |seq a b Dj vJ=>intro h;exact ⟨Dj λs aP=>h s (by simp[lA,aP]),vJ λs aP=>h s (by simp[lA,aP])⟩
  |cond x a b Dj vJ=>intro h;exact ⟨Dj λs aP=>h s (by simp[lA,aP]),vJ λs aP=>h s (by simp[lA,aP])⟩
  |block i c aO=>intro h;exact aO λs aP=>h s (by simpa [lA] using aP)
  |scope c aO=>intro h;exact aO λs aP=>h s (by simpa [lA] using aP)
  |rangeFunc g ps a b=>intro h;exact ⟨λY yj=>h (JM a b,⟨ps.toList,a,b,n⟩) (by simp[lA]) Y yj,RB⟩
  |_=>intro _;trivial
 exact key c λs aP=>fQ m h s (by rw[<-hm];exact aP)
end
open Go.RowKit
section
variable {P:cA} {cx:cm} {φ:bP} {ι:Nat->aA} {w:bm} {J:List aH} {nt:jD} {st bb:bX} {a:Act}
theorem asG: ∀(d:List dX) (R:List aH) (l:List eP),fY d R=some l->R.length=d.length:=by
 intro d
 induction d with
 |nil=>intro R l h;cases R<;>simp[fY]at h ⊢
 |cons a d aO=>
  intro R l h;cases R with
  |nil=>simp[fY]at h
  |cons b R=>
   simp only[fY]at h;split at h
   ·obtain ⟨b,L,-⟩:=ib.1 h;simp[aO R b L]
   ·cases h
theorem adM {S:Shape} {d:S.ty.den} (h:S.dec st=some d):st.regs.length=S.regs.length/\st.heap.length=S.objs.length:=by
 unfold Shape.dec at h;cases aV:jg S.regs st.regs with
 |none=>simp[aV]at h
 |some x=>
  cases L:fY S.objs st.heap with
  |none=>simp[aV,L]at h
  |some y=>exact ⟨zD _ _ _ aV,asG _ _ _ L⟩
theorem adD {S:Shape} {m:Nat} {d:S.ty.den} (e:(S.take m st).val=some d):(S.enc d).heap.length=S.objs.length:=by unfold Shape.take at e;obtain ⟨⟨bb,cy,aE,hv⟩,M,V⟩:=DT.val_bind_some e;simp only[DT.val_ofOpt]at V;rw[Shape.dec_enc V];exact (adM V).2
theorem aj4: ∀(l m:List K) (xs a1:List aA),K.relT φ ι w l xs->K.relT φ ι w m a1->K.relT φ ι w (l++m) (xs++a1):=by
 intro l
 induction l with
 |nil=>intro m xs a1 q G;simp only[K.relT]at q;subst q;exact G
 |cons r l aO=>intro m xs a1 q G;obtain ⟨v,rI,rfl,W,aC⟩:=q;exact ⟨v,rI++a1,rfl,W,aO m rI a1 aC G⟩
theorem ajv: ∀(l m:List K),K.idsL (l++m)=K.idsL l++K.idsL m:=by
 intro l m
 induction l with
 |nil=>rfl
 |cons r l aO=>simp[K.idsL,aO]
theorem acm [Env] {fn:Func} {args:List K} {aQ:Array aA} (ek:ck φ ι w J) (fF:K.relT φ ι w args aQ.toList) (fs: ∀i∈K.idsL args,(aG J i).live=true) (eb:aQ.size<=fn.ntmps) (h6:fn.ntmps<=dK) (hlen:aQ.size=args.length):
  dv φ ι w ⟨fn.ntmps,w.heap.size,[],none,true⟩ ⟨(fX 0 args).put dK (.tup []),J⟩ {tmps:=aQ++Array.replicate (fn.ntmps-aQ.size) undef,defers:=[]}:=by
 refine ⟨ek,λI r ao=> ?_,by simp;omega,h6,n9 (ca _)⟩;have ao:((fX 0 args).put dK (.tup [])).get I=some r:=ao;rw[bS.get_put]at ao;by_cases mn:I=dK
 ·subst mn;simp only[if_true,bM]at ao;subst ao;rw[qM];exact ⟨⟨#[],rfl,rfl⟩,by simp[K.ids,K.idsL]⟩
 ·simp only[mn,if_false]at ao;obtain ⟨bf,a6,cq⟩:=oK args 0;obtain ⟨k,ag,hn⟩:=nd _ 0 I r (by rw[bf,a6]) ao;have eA:I=k:=u;subst eA;have bR:=cq I (I,r) hn;simp only at bR;obtain ⟨v,a8,jv⟩:=ub fF bR;have fa:aQ[I]? =some v:=by simpa using a8
  have lQ:I<aQ.size:=(kY.1 fa).1;have:(aQ++Array.replicate (fn.ntmps-aQ.size) undef).getD I undef=v:=by rw[ji,Array.getElem?_append_left lQ,fa];rfl
  rw[iP mn,this];exact ⟨jv,λi E=>fs i (ud bR i E)⟩
def Hv (fn:Func):Bool:=
 hB fn.ntmps (b7 fn)&& !e2 (b7 fn)&& !gD (b7 fn)&&Nat.ble fn.ntmps dK&& !(fn.name== "runtime.NumGoroutine")&&fn.results.toList.isEmpty
def Lz (fn:Func) (S Z:Shape):Bool:=
 hB fn.ntmps (b7 fn)&& !e2 (b7 fn)&&Nat.ble fn.ntmps dK&&Nat.ble fn.results.size dK&& !(fn.name== "runtime.NumGoroutine")&&Nat.ble S.regs.length fn.ntmps&&decide (Z.regs.map (·.1)=List.range' 0 fn.results.size)
set_option maxHeartbeats 1000000 in
theorem asH [Env] {Fd:bn} {m:Nat} {ay:bO} {fd:FuncId} {hA fn:Func} (tab:cT P Fd.cx) (c8:cd P Fd.Γ) (hm:P.follows .mixedOrders=true) (aM:P.funcs[fd]? =some hA) (L:hA.body=some (b7 hA)) (cI:Hv hA=true)
  (ad: ∀s∈eC (b7 hA) 0,hq P Fd hA.ntmps s.1 s.2) (yu:Fd.m=ay.S.objs.length) (jW:nt.df) {R:Ending->bm->Prop} {o:ay.Out}:
  ∀n d φ ι w a,gi (λd=>(uK ay m Fd fd hA d).val) n d=some o->dv φ ι w nt (ay.S.enc d) a->(ay.S.enc d).heap.length=ay.S.objs.length->gW (ay.S.enc d).heap.length (ay.S.enc d).heap->gW m (ay.S.enc d).heap->
   (∀x aq ax aJ,o=.inl x->FJ ax aJ aq (ay.X.enc x) a->dv ax aJ aq nt (ay.X.enc x) {a with defers:=[]}->Step φ ι w (ay.S.enc d).heap ax aJ aq (ay.X.enc x).heap->ih m ι (ay.S.enc d).heap aJ (ay.X.enc x).heap-> ∃v,(results fn a.tmps).run P aq=.ok v aq/\R (.returned v) aq)->
   LeavesInM (e9 none) 0 P fn a.tmps R a.defers .returning w:=by
 intro n
 induction n with
 |zero=>intro d φ ι w a h;cases h
 |succ n aO=>
  intro d φ ι w a h cr hlen awY lm c9;simp only[gi]at h;cases fm:(uK ay m Fd fd hA d).val with
  |none=>simp[fm]at h
  |some r=>
  simp only[fm]at h;unfold uK at fm;split at fm
  ·rename_i f A B t xs q8;have s:=DT.val_bif fm;clear fm;obtain ⟨II,fm⟩:=s;simp only[bQ,Nat.beq_eq]at II;obtain ⟨II,CY⟩:=II;have CY:=hg CY;subst II;obtain ⟨⟨aQ,eN,C8,fQ⟩,fs⟩:=cr.regs dK _ q8;rw[qM]at eN;have eN:a.defers.map sw=aQ:=by simpa using eN
   cases xs with
   |nil=>
    simp only[List.isEmpty_nil,DT.val,aj]at fm;obtain ⟨x,M,V⟩:=DT.val_bind_some fm;simp only[DT.val,bM]at V;subst V;simp only[bM]at h;subst h;have pf:a.defers=[]:=by
     have:(a.defers.map sw).length=0:=by rw[eN];simpa using C8
     simpa using this
    have gG:(⟨(ay.S.enc d).regs,(ay.S.enc d).heap⟩:bX)=ay.S.enc d:=rfl;rw[gG]at M;obtain ⟨ax,aJ,bf,a6,cq,-,-⟩:=lM M cr lm;rw[pf];have aV:{a with defers:=[]}=a:=by cases a;simp only at pf;subst pf;rfl
    exact c9 x w ax aJ rfl bf.rr (by rw[aV];exact bf) a6 cq
   |cons x l=>
    simp only[List.isEmpty_cons,DT.val,av,List.head?_cons,List.tail_cons]at fm;obtain ⟨⟨M,cj⟩,q,G⟩:=DT.val_bind_some fm;clear fm;obtain ⟨s6,W⟩:(M=.nrm\/M=.ret)/\cj.regs.get dK=some (.tup [])/\((ay.S.take m ⟨(ay.S.enc d).regs.put dK (.dfr f A B t l),cj.heap⟩).bind λd=>DT.leaf (Sum.inl (β:=ay.Out) d)).val=some r:=by
     cases M with
     |exit i=>simp[DT.val]at G
     |nrm=>
      simp only at G;split at G
      ·rename_i bB;cases bB
      ·rename_i bB _;exact ⟨.inl rfl,bB,G⟩
      ·simp[DT.val]at G
     |ret=>
      simp only at G;split at G
      ·rename_i bB;cases bB
      ·rename_i bB _;exact ⟨.inr rfl,bB,G⟩
      ·simp[DT.val]at G
    obtain ⟨afh,W⟩:=W;obtain ⟨gJ,aC,bd⟩:=DT.val_bind_some W;simp only[DT.val,bM]at bd;subst bd;simp only at h;cases aQ with
    |nil=>simp at C8
    |cons ae aQ=>
    obtain ⟨bj,lH,ba,rfl,ah,aS,bV⟩:=fQ 0 x ae rfl rfl;obtain ⟨I,fi,Rs,m1,p3⟩: ∃I fi,a.defers=I::fi/\sw I=.func (.func f) #[] (bj++lH::ba).toArray/\fi.map sw=aQ:=by
     cases oC:a.defers with
     |nil=>rw[oC]at eN;simp at eN
     |cons I fi=>
      rw[oC]at eN;simp only[List.map_cons,List.cons.injEq]at eN;exact ⟨I,fi,rfl,eN.1,eN.2⟩
    obtain ⟨aX,aws⟩:I.target=.fn (.func f) (bj++lH::ba).toArray/\I.args= #[]:=by
     unfold sw at m1;split at m1
     ·rename_i g y bB;injection m1 with bq bU dD
      exact ⟨by rw[bB,bq,dD],bU⟩
     ·cases m1
    simp only[Hv,bQ,eS,List.isEmpty_iff]at cI;obtain ⟨⟨⟨⟨⟨axk,ahM⟩,axl⟩,SR⟩,axm⟩,axn⟩:=cI;have SR:=hg SR;rw[Rs];refine ⟨aU,.inr ⟨(λh=>(by cases h)),.func f,_,f,#[]++(bj++lH::ba).toArray,aX,?_,λ_ _=>trivial,?_⟩⟩
    ·rw[aX,aws];have CJ: ¬hA.name= "runtime.NumGoroutine":=by simpa using axm
     simp only[invoke];unfold callFunc;simp[aM,CJ,L]
    have fF:K.relT φ ι w (A++ .fptr t x::B) (#[]++(bj++lH::ba).toArray).toList:=by simp only[Array.empty_append];refine aj4 _ _ _ _ ah ⟨lH,ba,rfl,aS,bV⟩
    obtain ⟨args,auY⟩: ∃args:Array aA,#[]++(bj++lH::ba).toArray=args:=⟨_,rfl⟩;rw[auY]at fF ⊢;have avz: ∀i∈K.idsL (A++ .fptr t x::B),(aG (ay.S.enc d).heap i).live=true:=by intro i E;refine fs i ?_;rw[ajv]at E;simpa [K.ids,K.idsL] using E
    have afJ:args.size=(A++K.fptr t x::B).length:=by
     have: ∀(l:List K) (aQ:List aA),K.relT φ ι w l aQ->aQ.length=l.length:=by
      intro l
      induction l with
      |nil=>intro aQ h;simp only[K.relT]at h;simp[h]
      |cons r l aO=>intro aQ h;obtain ⟨v,m,rfl,-,h⟩:=h;simp[aO m h]
     simpa using this _ _ fF
    refine CallsDIn.mono (callsDIn_of_wp (F:=e9 none) aM L trivial (R:=λe aq=> ∃v,e=.returned v/\LeavesInM (e9 none) 0 P fn a.tmps R fi .returning aq) ?_) λe iU aq=> ?_
    ·have lx:dv φ ι w ⟨hA.ntmps,w.heap.size,[],none,true⟩ ⟨(fX 0 (A++ .fptr t x::B)).put dK (.tup []),(ay.S.enc d).heap⟩ {tmps:=args++Array.replicate (hA.ntmps-args.size) undef,defers:=[]}:=by refine acm cr.heap fF avz ?_ SR afJ;rw[afJ];simp only[et,ia];omega
     refine nR tab c8 hm (b7 hA) 0 _ M cj φ ι w _ _ q ad axk (eU _ ahM) (iK.no ahM axl) lx (by rw[yu,<-hlen];exact awY) λbt aq ax aJ cY sp b4=> ?_
     have oC:bt.defers=[]:=by
      obtain ⟨⟨wG,I5,R8⟩,-⟩:=cY.regs dK _ afh;rw[qM]at I5;simp only[K.relT]at R8;have:wG= #[]:=by cases wG;simpa using R8
      subst this;simpa using I5
     have mx:=wv (P:=P) (fn:=hA) (a:=bt) (aQ:=[]) (w:=aq) (by rw[axn];rfl);have afC:bt.defers=[]/\ ∃v,(results hA bt.tmps).run P aq=.ok v aq/\ ∃lz,Ending.returned v=.returned lz/\LeavesInM (e9 none) 0 P fn a.tmps R fi .returning aq:=by
      refine ⟨oC,_,mx,_,rfl,?_⟩;have wP:eo ι (ay.S.enc d).heap aJ cj.heap:=by rw[yu,<-hlen]at b4;exact ⟨λo ab=>(b4 o (gP ab) ab).1,λo ab=>(b4 o (gP ab) ab).2⟩
      have qs:dv ax aJ aq nt ⟨(ay.S.enc d).regs.put dK (.dfr f A B t l),cj.heap⟩ {a with defers:=fi}:=by
       refine ⟨cY.heap,λlI gX lh=> ?_,cr.nt,cr.small,⟨Nat.le_trans cr.defers.1 sp.size,λh=>by rw[jW.2.1]at h;cases h⟩⟩;have lh:((ay.S.enc d).regs.put dK (.dfr f A B t l)).get lI=some gX:=lh;rw[bS.get_put]at lh;by_cases mn:lI=dK
       ·subst mn;simp only[if_true,bM]at lh;subst lh;have old:(K.dfr f A B t l).rel φ ι w (.tuple aQ.toArray):=⟨aQ,rfl,by simpa using C8,λi y iU bu hu=>fQ (i+1) y iU (by simpa using bu) (by simpa using hu)⟩;rw[qM];simp only[p3];exact ⟨K.rel_step sp wP fs old,λi E=>wP.live i (fs i E)⟩
       ·simp only[mn,if_false]at lh;have bW:=cr.regs lI gX lh;rw[iP mn]at bW ⊢;exact ⟨K.rel_step sp wP bW.2 bW.1,λi E=>wP.live i (bW.2 i E)⟩
      have lr:gW m cj.heap:=λo ab=>wP.live o (lm o ab)
      obtain ⟨eh,en,bf,a6,cq,ef,gS⟩:=lM aC qs lr;refine aO gJ eh en aq {a with defers:=fi} h bf (adD aC) gS (cq.live lr) λx gK mK mJ ab bq bU dD dx=> ?_
      exact c9 x gK mK mJ ab ⟨bq.heap,bq.regs⟩ bU ((sp.trans a6).trans dD) (((wP.keepM m).trans cq).trans dx)
     rcases s6 with rfl |rfl
     ·exact afC
     ·exact afC
    ·rintro ⟨rfl,v,rfl,nE⟩;exact nE
  ·simp[DT.val]at fm
set_option maxHeartbeats 1000000 in
theorem atK [Env] {F Fd:bn} (tab:cT P F.cx) (c8:cd P F.Γ) (hm:P.follows .mixedOrders=true) {f:FuncId} {fn:Func} {S Z:Shape} (aM:P.funcs[f]? =some fn) (L:fn.body=some (b7 fn)) (cI:Lz fn S Z=true) (ea: ∀s∈eC (b7 fn) 0,hq P F fn.ntmps s.1 s.2)
  {ay:bO} {fd:FuncId} {hA:Func} {g:ay.S.ty.den->Option ay.Out} (nO:F.Λ dK=ay.go g F.m) (Tf:cT P Fd.cx) (Ra:cd P Fd.Γ) (m3:P.funcs[fd]? =some hA) (Rn:hA.body=some (b7 hA)) (RP:Hv hA=true)
  (pk: ∀s∈eC (b7 hA) 0,hq P Fd hA.ntmps s.1 s.2) (yu:Fd.m=ay.S.objs.length) (bB: ∀d o,g d=some o-> ∃n,gi (λd=>(uK ay F.m Fd fd hA d).val) n d=some o)
  {args:List K} (fk:F.m=S.objs.length) {d:S.ty.den} {z:Z.ty.den} (af:S.dec ⟨fX 0 args,J⟩=some d) (e:(Hx F fn S Z d).val=some z):km P f args J (kj (Z.enc z).regs) (Z.enc z).heap:=by
 have hb:=Shape.dec_enc af;simp only[Lz,bQ,eS,dS]at cI;obtain ⟨⟨⟨⟨⟨⟨oE,afw⟩,h6⟩,ir⟩,nI⟩,nJ⟩,nK⟩:=cI;have h6:=hg h6;have ir:=hg ir;have iO:args.length=S.regs.length/\J.length=S.objs.length:=by have:=adM af;exact ⟨by rw[<-this.1];exact ((oK args 0).2.1).symm,this.2⟩
 unfold Hx at e;rw[L]at e;simp only[Option.getD_some]at e;obtain ⟨⟨M,gT⟩,q,G⟩:=DT.val_bind_some e;have W:M=.nrm\/M=.ret:=by
  cases M with
  |nrm=>exact .inl rfl
  |ret=>exact .inr rfl
  |exit i=>simp[DT.val]at G
 have aC:((F.Λ dK gT).bind λs=>((l4 F.cx s.2.regs 0 fn.results.toList).run s.2.heap s.2.heap.length .none).bind λ(R,h,_,_)=>Z.take F.m ⟨R,h⟩).val=some z:=by rcases W with rfl |rfl<;>exact G
 clear G e;obtain ⟨⟨V,cj⟩,bd,bD⟩:=DT.val_bind_some aC;clear aC;simp only at bD;rw[nO]at bd;unfold bO.go at bd;obtain ⟨s1,t1,t2⟩:=DT.val_bind_some bd;clear bd;obtain ⟨o,ab,he⟩: ∃o,g s1=some o/\(V,cj)=ay.fin o:=by
  cases j9:g s1 with
  |none=>simp[j9,DT.val]at t2
  |some o=>
   refine ⟨o,rfl,?_⟩;cases o with
   |inl x=>simp only[j9,DT.val,bM]at t2;exact t2.symm
   |inr y=>simp only[j9,DT.val,bM]at t2;exact t2.symm
 obtain ⟨n,aN⟩:=bB s1 o ab;obtain ⟨⟨R,bg,ke,tB⟩,g6,dU⟩:=DT.val_bind_some bD;have kK:=HM.go_run _ _ _ _ _ _ _ _ g6;have kO:(Z.enc z).regs.map (·.1)=List.range' 0 fn.results.size:=by
  obtain ⟨⟨bb,bg,y1,pp⟩,bf,a6⟩:=DT.val_bind_some dU;simp only[DT.val_ofOpt]at a6;have cq:(Z.enc z).regs.map (·.1)=Z.regs.map (·.1):=by
   unfold Shape.dec at a6;cases aV:jg Z.regs bb.regs with
   |none=>simp[aV]at a6
   |some x=>
    cases L:fY Z.objs bb.heap with
    |none=>simp[aV,L]at a6
    |some y=>
     have:=rM _ _ x [] aV;rw[Shape.dec_enc (st:=bb) (by simp only[Shape.dec,aV,L]at a6 ⊢;exact a6)];exact wg _ _ _ _ this
  rw[cq,nK]
 refine ⟨⟨fn,aM,nI,by rw[L];rfl⟩,?_⟩;intro φ ι w aQ ek e4 fF fs;refine xD aM L ?_;have eN:aQ.size=args.length:=by
  have: ∀(l:List K) (aQ:List aA),K.relT φ ι w l aQ->aQ.length=l.length:=by
   intro l
   induction l with
   |nil=>intro aQ h;simp only[K.relT]at h;simp[h]
   |cons r l aO=>intro aQ h;obtain ⟨v,m,rfl,-,h⟩:=h;simp[aO m h]
  simpa using this _ _ fF
 have eb:aQ.size<=fn.ntmps:=by rw[eN,iO.1];exact hg nJ
 rw[hb]at q;have lx:=acm (fn:=fn) ek fF fs eb h6 eN;have jM:gW F.m J:=by rw[fk,<-iO.2];exact λo ab=>e4 o ab
 refine nR tab c8 hm (b7 fn) 0 _ M gT φ ι w _ _ q ea oE (eU _ afw) (iK.fnD afw) lx jM λbt aq ax aJ cY sp b4=> ?_
 have lr:=b4.live jM;obtain ⟨dF,fo,bf,a6,cq,ef,gS⟩:=lM t1 cY lr;have key:LeavesInM (e9 none) 0 P fn bt.tmps (λe aq=> ∃v ax aJ,e=.returned v/\ck ax aJ aq (Z.enc z).heap/\Step φ ι w J ax aJ aq (Z.enc z).heap/\eo ι J aJ (Z.enc z).heap/\(kj (Z.enc z).regs).rel ax aJ aq v/\ ∀i∈(kj (Z.enc z).regs).ids,(aG (Z.enc z).heap i).live=true) bt.defers .returning aq:=by
  refine asH Tf Ra hm m3 Rn RP pk yu ⟨rfl,rfl,rfl⟩ n s1 dF fo aq bt aN bf (adD t1) gS (cq.live lr) λx dc eh en an bq bU dD dx=> ?_
  subst an;have m2:cj=ay.X.enc x:=by have:=congrArg Prod.snd he;exact this
  subst m2;have pF:=(sp.trans a6).trans dD;have m9:=(b4.trans cq).trans dx;have SI:=m9.live jM;obtain ⟨fJ,fT,us,nV,Jm,tB,axr⟩:=wu tab fn.results.toList 0 R (ay.X.enc x).heap _ bg ke kK bq.heap bq.regs;have kq:R.length=us.length:=by have:=congrArg List.length tB;simpa [Jm] using this
  have mz:us.toArray.size=fn.results.size:=by simpa using Jm
  have kh:dv eh en dc ⟨us.toArray.size,0,[],none,false⟩ ⟨R,bg⟩ {tmps:=us.toArray,defers:=[]}:=by
   rw[fJ];refine ⟨bq.heap,λI r ao=> ?_,rfl,by rw[mz];exact ir,n9 (Nat.zero_le _)⟩;obtain ⟨k,ag,hn⟩:=nd R 0 I r (by rw[tB];congr 1;omega) ao;have eA:I=k:=u;subst eA;obtain ⟨v,a8,jv,gF⟩:=axr I (I,r) hn;have:us.toArray.getD I undef=v:=by simp[ji,a8]
   have lQ:I<us.length:=(iJ.1 a8).1;have aAk:us.length=us.toArray.size:=aU;rw[iP u];simp only[this];exact ⟨jv,gF⟩
  obtain ⟨mK,mJ,dI,cW,eX,lZ,qj⟩:=lM dU kh (by rw[fJ];exact SI);have hS:(Z.enc z).regs.length=us.toArray.size:=by have:=congrArg List.length kO;simp only[List.length_map,List.length_range']at this;rw[this,mz]
  have s8:(Z.enc z).regs.map (·.1)=List.range' 0 (Z.enc z).regs.length:=by rw[kO,hS,mz]
  obtain ⟨ah,aS⟩:=uN (aQ:=us.toArray) (R:=(Z.enc z).regs) s8 hS (xh (a:={tmps:=us.toArray,defers:=[]}) s8 (by rw[hS,mz];exact ir) dI.regs);have mx:=wv nV;refine ⟨_,mx,_,mK,mJ,rfl,dI.heap,?_,?_,ah,aS⟩
  ·rw[fJ]at cW;exact pF.trans cW
  ·rw[fJ]at eX;have kc:=m9.trans eX;refine ⟨λo ab=> ?_,λo ab=> ?_⟩
   ·have bw:o<F.m:=by rw[fk,<-iO.2];exact gP ab
    exact (kc o bw ab).1
   ·have bw:o<F.m:=by rw[fk,<-iO.2];exact gP ab
    exact (kc o bw ab).2
 rcases W with rfl |rfl
 ·exact key
 ·exact key
theorem asL [Env] {F Fd:bn} (tab:cT P F.cx) (c8:cd P F.Γ) (hm:P.follows .mixedOrders=true) {cO:aZ} {fn:Func} (aM:P.funcs[cO.f]? =some fn) (L:fn.body=some (b7 fn)) (cI:Lz fn cO.S cO.Z=true) {m:List (Nat×Code)} (ad:eC (b7 fn) 0=m) (ea:oW P F fn.ntmps m)
  {ay:bO} {fd:FuncId} {hA:Func} {b:ay.S.ty.den->Option (ay.S.ty.den⊕ay.Out)} {g:ay.S.ty.den->Option ay.Out} (avp: ∀d,g d=b8 b d) (nO:F.Λ dK=ay.go g F.m) (Tf:cT P Fd.cx) (Ra:cd P Fd.Γ) (m3:P.funcs[fd]? =some hA) (Rn:hA.body=some (b7 hA)) (RP:Hv hA=true)
  (pk:eC (b7 hA) 0=[]) (yu:Fd.m=ay.S.objs.length) (p2: ∀d,(uK ay F.m Fd fd hA d).val=b d) (fk:F.m=cO.S.objs.length) (bB: ∀d,(Hx F fn cO.S cO.Z d).val=cO.g d):cE P cO:=
 λargs J d z af bK=>atK (ay:=ay) (g:=g) tab c8 hm aM L cI (uD ad ea) nO Tf Ra m3 Rn RP (by rw[pk];simp) yu (λd o h=>by rw[avp]at h;obtain ⟨n,aN⟩:=Oi h;exact ⟨n,by rw[show (λd=>(uK ay F.m Fd fd hA d).val)=b from funext p2];exact aN⟩) fk af ((bB d).trans bK)
end
open Go.RowKit
def ss (P:cA):DataW (List UInt8)->Option Nat->Bool
 | .nil,none=>true
 | .held (b::r),some f=>decide (((List.range P.funcs.size).filter λf=>(P.funcs[f]?).any (·.name.toUTF8.data.toList==b::r))=[f])
 |_,_=>false
def xB (P:cA):List (DataW (List UInt8))->List (Option Nat)->Bool
 |[],[]=>true
 |I::fi,o::os=>ss P I o&&xB P fi os
 |_,_=>false
theorem abv {P:cA}: ∀(fi:List (DataW (List UInt8))) (os:List (Option Nat)),xB P fi os=true-> ∀(i:Nat) (o:Option Nat),os[i]? =some o-> ∃I,fi[i]? =some I/\ss P I o=true
 |[],[],_,i,o,h=>by simp at h
 |[],_::_,h,_,_,_=>by simp[xB]at h
 |_::_,[],h,_,_,_=>by simp[xB]at h
 |I::fi,o::os,h,i,dV,E=>by
  simp only[xB,bQ]at h;cases i with
  |zero=>
   simp only[List.getElem?_cons_zero,bM]at E;subst E;exact ⟨I,rfl,h.1⟩
  |succ i=>simpa using abv fi os h.2 i dV (by simpa using E)
theorem atr {P:cA} {w:bm} {base:Nat} {sp:Nat->Bool} {fuel:Nat} {e:bs} {ps rs:Array bs} {mH:Bool} {v:aA} {s:List MemPlace} {I:DataW (List UInt8)} {o:Option Nat}
  (aX:P.underlying e=some (.func ps rs mH)) (aV:ss P I o=true) (h:DataW.trod (funcToken P) P w base sp true fuel e [v]=some (I,s)):v=mX o:=by
 cases I with
 |nil=>
  cases o with
  |some f=>simp[ss]at aV
  |none=>
   cases fuel with
   |zero=>simp[DataW.trod]at h
   |succ n=>cases v<;>simp[DataW.trod,aX]at h<;>rfl
 |held k=>
  cases k with
  |nil=>cases o<;>simp[ss]at aV
  |cons b r=>
   cases o with
   |none=>simp[ss]at aV
   |some f=>
    simp only[ss,dS]at aV;exact func_of_trod aX aV h
 |_=>cases o<;>simp[ss]at aV
theorem atN {P:cA} {w:bm} {n:String} {I:DataW Unit} (h:funcsAt P w n I) {g t e:Nat} {dz:List (Option Nat)} {ps rs:Array bs} {mH:Bool} {fi:List (DataW (List UInt8))} (ao:I.funcsOut=.agg fi) (bB:P.globalNamed n=some g) (aX:(P.globals[g]?).map (·.type)=some t)
  (hu:P.underlying t=some (.array dz.length e)) (C7:P.underlying e=some (.func ps rs mH)) (au:P.cellsOf e=1) (aV:xB P fi dz=true):kz (Told w) w g 0 (dz.map mX):=by
 obtain ⟨QN,iI,cs,fuel,p,avn,R2,a8,ar⟩:=h;obtain rfl:=eY (bB.symm.trans avn);obtain rfl:=eY (aX.symm.trans R2);rw[ao]at ar;obtain ⟨xs,m,_,an,nG,hlen,gE⟩:=DataW.trod_array hu ar;simp only[c0,DataW.agg.injEq]at an;obtain ⟨Rs,-⟩:=an;intro i v E;rw[List.getElem?_map]at E;obtain ⟨o,ab,rfl⟩:=ib.1 E;obtain ⟨azN,ae7,auW⟩:=abv fi dz aV i o ab;have bw:i<dz.length:=(iJ.1 ab).1;have jc:=gE i bw;rw[au,Nat.mul_one]at jc;rw[Rs,List.getElem?_map]at ae7;obtain ⟨y,bu,rfl⟩:=ib.1 ae7;rw[bu]at jc;have fZ:=World.var?_cell bB a8 i;have key: ∃ae,cs[i]? =some ae/\(cs.toList.drop i).take 1=[ae]:=by
  cases hu:cs[i]? with
  |some ae=>
   have q:cs.toList[i]? =some ae:=by simpa using hu
   refine ⟨ae,rfl,?_⟩;obtain ⟨G,W⟩:=iJ.1 q;rw[l2 G,W];rfl
  |none=>
   have q:cs.toList.length<=i:=by simpa using hu
   rw[List.drop_of_length_le q]at jc;cases m with
   |zero=>simp[DataW.trod]at jc
   |succ m=>simp[DataW.trod,C7]at jc
 obtain ⟨ae,awx,awy⟩:=key;rw[awy]at jc;have:=atr C7 auW (I:=y.1) (s:=y.2) jc;rw[awx,this]at fZ;rw[Nat.zero_add];exact ⟨⟨_,fZ⟩,fZ⟩
open Go.RowKit Go.Shelf
def Bh (d:List UInt8×List UInt8×Unit):Option (List UInt8×Unit):=
 bif Nat.blt d.1.length 4294967281&&Nat.blt d.2.1.length 4294967281&&d.2.1.all (λb=>Nat.blt b.toNat 128) then some (Lib.trimS d.1 d.2.1,()) else none
section
variable {P:cA}
theorem akV [Env] {ρ:Ren} (ay:Go.Proofs.Lays.n160 P ρ) (Iy:(P.info? (ρ.t 116)).map (λi=>(i.zero,i.size))=some (some (.agg (Array.replicate 256 (.bool false))),256)) {fn:Func} (aM:P.funcs[ρ.f 160]? =some fn) (cI:(!(fn.name== "runtime.NumGoroutine")&& !fn.body.isNone)=true):
  cE P ⟨ρ.f 160,⟨[(0,.dat .str),(1,.dat .str)],[]⟩,⟨[(0,.dat .str)],[]⟩,Bh⟩:=by
 intro args J d z af bK;have hb:=Shape.dec_enc af;obtain ⟨a,b,ae⟩:=d;have bK:Bh (a,b,ae)=some z:=bK;unfold Bh at bK;simp only at bK;cases au:Nat.blt a.length 4294967281&&Nat.blt b.length 4294967281&&b.all (λb=>Nat.blt b.toNat 128)
 ·rw[au]at bK;cases bK
 rw[au,aj]at bK;obtain rfl:=eY bK;simp only[bQ]at au;obtain ⟨⟨ba,gd⟩,c5⟩:=au;have ba:=hg ba;have gd:=hg gd;have jc:(Shape.enc ⟨[(0,.dat .str),(1,.dat .str)],[]⟩ (a,b,ae))=⟨[(0,.dat .str a),(1,.dat .str b)],[]⟩:=rfl;have hb:=jc.symm.trans hb;injection hb with q G
 obtain rfl:args=[.dat .str a,.dat .str b]:=(xq 0 [.dat .str a,.dat .str b] args q).symm;subst G;simp only[bQ,eS]at cI;refine ⟨⟨fn,aM,cI.1,cI.2⟩,fun φ ι w aQ ek e4 fF fs=> ?_⟩;obtain ⟨v1,dI,M,ah,v2,cW,V,aS,hm⟩:=fF;simp only[K.relT]at hm;subst hm V;have gA:v1=.string ⟨⟨a⟩⟩:=cJ.str.1 ah;have mV:v2=.string ⟨⟨b⟩⟩:=cJ.str.1 aS;subst gA mV;obtain rfl:aQ= #[.string ⟨⟨a⟩⟩,.string ⟨⟨b⟩⟩]:=by cases aQ;simp at M;simp[M]
 have eb: ∀l:List UInt8,(⟨⟨l⟩⟩:ByteArray).size=l.length:=λ_=>rfl
 refine (Go.Proofs.Any.strings_Trim_laid ay Iy ⟨⟨a⟩⟩ ⟨⟨b⟩⟩ w (by rw[eb];omega) (by rw[eb];omega) (λj x an=> ?_)).mono ?_
 ·have an:b[j]? =some x:=an;have:=fD.1 c5 x (List.mem_of_getElem? an);exact hg this
 ·rintro e aq ⟨rfl,L⟩;obtain ⟨bf,a6⟩:=ek.below L;exact ⟨_,φ,ι,rfl,bf,a6,eo.refl _ _,h3 (cJ.str.2 rfl),λi E=>absurd (show i∈([]:List Nat) from E) aU⟩
end
end Go.X
