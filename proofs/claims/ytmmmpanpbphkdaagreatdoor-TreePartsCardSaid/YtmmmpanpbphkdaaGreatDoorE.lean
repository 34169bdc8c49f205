import Derived.Test.YtmmmpanpbphkdaaGreatDoorEb
set_option linter.unusedVariables false
set_option maxRecDepth 100000
open Go Go.X Go.Proofs D
namespace D
theorem asl:cm LX Tryz.f116 0 0:=cz (L:=abo) (b:=abF) (m:=[]) abG trivial
theorem asL:aW abW:=cc (F:=LX) (fn:=Tryz.f116) (m:=cS Tryz.f116 [0]) abG Tryz.func116 ⟨asl,trivial⟩
def abD:aS:=⟨71,⟨[(0,.own ac 0),(1,.fn 183 [] [(.ptr 1 ac 0 [])])],rW⟩,⟨[(0,c7)],rW⟩,ab4⟩
def asp:ba:=b9 [abW] [] 2
theorem ast:aW abD:=cc (F:=asp) (fn:=Tryz.f71) (m:=[]) (bG ⟨asL,trivial⟩) Tryz.func71 trivial
def Sp:aS:=⟨186,⟨[(0,.dat cQ),(1,.ptr 0 .opq 0 [])],oD⟩,⟨[(0,c7)],oD⟩,VW⟩
def aiX:ba:=b9 [UY,Jb,VB,abC,abD] [] 2
theorem ai5:aW Sp:=cc (F:=aiX) (fn:=Tryz.f186) (m:=[]) (bG ⟨ake,Wj,alc,ass,ast,trivial⟩) Tryz.func186 trivial
def ab1:bA:=⟨⟨[(0,.dat (.list cQ)),(1,.fn 186 [] [(.ptr 0 .opq 0 [])]),(7,aK),(8,aK)],oD⟩,.ret,⟨[(4,aK)],oD⟩,(.exit 0),⟨[],oD⟩⟩
def acF:aS:=⟨115,⟨[(0,.dat (.list cQ)),(1,.fn 186 [] [(.ptr 0 .opq 0 [])])],oD⟩,⟨[(0,aK)],oD⟩,acU⟩
def Mb:ba:=b9 [Sp] [(0,ab1.go kw 2)] 2
theorem acL:bO Tryz.prog (Mb).Γ:=bG ⟨ai5,trivial⟩
theorem as7:cm Mb Tryz.f115 0 0:=cz (L:=ab1) (b:=acK) (m:=[]) acL trivial
theorem as3:aW acF:=cc (F:=Mb) (fn:=Tryz.f115) (m:=cS Tryz.f115 [0]) acL Tryz.func115 ⟨as7,trivial⟩
def acC:aS:=⟨185,⟨[(0,.dat (.list cQ)),(1,.fn 186 [] [(.ptr 0 .opq 0 [])])],oD⟩,⟨[(0,c7)],oD⟩,acT⟩
def atb:ba:=b9 [acF] [] 2
theorem as0:aW acC:=cc (F:=atb) (fn:=Tryz.f185) (m:=[]) (bG ⟨as3,trivial⟩) Tryz.func185 trivial
def Sy:bA:=⟨⟨[(2,.ptr 0 dE 0 []),(3,.ptr 1 ac 0 []),(6,cu),(67,.dat (.list .str)),(68,aK),(69,aK)],B2⟩,.ret,xu,(.exit 0),⟨[(2,.ptr 0 dE 0 []),(3,.ptr 1 ac 0 [])],B2⟩⟩
def Sz:bA:=⟨⟨[(2,.ptr 0 dE 0 []),(3,.ptr 1 ac 0 []),(90,.dat (.list (.int .i64))),(91,aK),(92,aK)],B2⟩,.ret,xu,(.exit 2),⟨[(2,.ptr 0 dE 0 []),(3,.ptr 1 ac 0 [])],B2⟩⟩
def U0:aS:=⟨148,Hs,dG,Xh⟩
def GH:ba:=b9 [RF,Te,abQ,acC] [(0,Sy.go Vd 0),(2,Sz.go Ve 0)] 0
theorem Ie:bO Tryz.prog (GH).Γ:=bG ⟨ah8,ajQ,asF,as0,trivial⟩
theorem ajp:cm GH Tryz.f148 0 0:=cz (L:=Sy) (b:=UW) (m:=[]) Ie trivial
theorem ajq:cm GH Tryz.f148 2 1:=cz (L:=Sz) (b:=Vc) (m:=[]) Ie trivial
theorem akj:aW U0:=cc (F:=GH) (fn:=Tryz.f148) (m:=cS Tryz.f148 [0,2]) Ie Tryz.func148 ⟨ajp,ajq,trivial⟩
def Iv:aS:=⟨189,⟨[(0,.ptr 0 dK 0 [0]),(1,aK),(2,aK)],[.box 95 dK kX]⟩,⟨[],[.box 95 dK kX]⟩,wZ⟩
def akS:ba:=b9 [] [] 1
theorem UU:aW Iv:=cc (F:=akS) (fn:=Tryz.f189) (m:=[]) (bG trivial) Tryz.func189 trivial
def O4:aS:=⟨189,⟨[(0,.ptr 0 dK 0 [1]),(1,aK),(2,aK)],[.box 95 dK kX]⟩,⟨[],[.box 95 dK kX]⟩,pm⟩
def aim:ba:=b9 [] [] 1
theorem RU:aW O4:=cc (F:=aim) (fn:=Tryz.f189) (m:=[]) (bG trivial) Tryz.func189 trivial
def EJ:aS:=⟨297,uf,hd,Od⟩
set_option maxHeartbeats 1000000 in
theorem atw (a:ByteArray) (c:Int) (w:World):Calls Tryz.prog 297 #[.string a,.int .u8 c] w fun e w'=>e=.returned (.int .i64 (Lib.indexByte a.data.toList c.toNat.toUInt8))/\w'=w:=by
  go_enter Tryz.func297,Tryz.ntmps297
  go_wp2
  rw[run_callFunc_extern Tryz.func301 (by kernel_rfl) (by kernel_rfl) (by kernel_rfl) (e:=Extern.BytealgIndexByte.indexByte) (by kernel_rfl),Lib.run_indexByteString]
  simp only[Result.andThen]
  rw[Oper.upon_value]
  go_wp2
  go_ret
  exact ⟨rfl,rfl⟩
theorem aue:ck Tryz.prog EJ:=afg (g:=fun a c=>Lib.indexByte a c.toNat.toUInt8) Tryz.func297 (by kernel_rfl) atw
theorem ac9:aW EJ:=aue.x (by kernel_rfl)
def aed:aS:=⟨288,uf,hd,Rv⟩
theorem ahe:aW aed:=bR (l:=[EJ]) Tryz.func288 ⟨ac9,trivial⟩
def adF:aS:=⟨289,⟨[(0,.dat (.int .i32))],[]⟩,dG,ad3⟩
theorem ags:aW adF:=bR (l:=[]) Tryz.func289 trivial
def adT:bA:=⟨⟨[(175,.ptr 0 .unit 0 [])],[.iter]⟩,.ret,⟨[(4,aK)],[]⟩,(.exit 9),⟨[],[]⟩⟩
def aef:aS:=⟨271,⟨[(0,cu),(1,.dat (.int .i32))],[]⟩,hd,F3⟩
def sD:ba:=b9 [aed,adF] [(9,adT.go aep 0)] 0
theorem aen:bO Tryz.prog (sD).Γ:=bG ⟨ahe,ags,trivial⟩
theorem ag8:cm sD Tryz.f271 1 1:=uz (fun _=>rfl)
theorem ag9:cm sD Tryz.f271 3 2:=uz (fun _=>rfl)
theorem aha:cm sD Tryz.f271 5 3:=uz (fun _=>rfl)
theorem ahb:cm sD Tryz.f271 7 4:=uz (fun _=>rfl)
theorem ag7:cm sD Tryz.f271 9 0:=cz (L:=adT) (b:=aem) (m:=[]) aen trivial
theorem ahg:aW aef:=cc (F:=sD) (fn:=Tryz.f271) (m:=cS Tryz.f271 [9,1,3,5,7]) aen Tryz.func271 ⟨ag7,ag8,ag9,aha,ahb,trivial⟩
def adp:aS:=⟨272,hd,dG,adI⟩
theorem auC:aW adp:=bR (l:=[]) Tryz.func272 trivial
def adY:bA:=⟨⟨[(1,cu),(45,.ptr 0 .unit 0 [])],[.iter]⟩,.ret,⟨[(4,aK)],[]⟩,(.exit 2),⟨[],[]⟩⟩
def ag0:aS:=⟨254,hT,hd,OY⟩
def Ft:ba:=b9 [aef,adp] [(2,adY.go ad9 0)] 0
theorem ad8:bO Tryz.prog (Ft).Γ:=bG ⟨ahg,auC,trivial⟩
theorem agO:cm Ft Tryz.f254 0 0:=uz (fun _=>rfl)
theorem agP:cm Ft Tryz.f254 2 1:=cz (L:=adY) (b:=ad7) (m:=[]) ad8 trivial
theorem ag6:ck Tryz.prog ag0:=nD (F:=Ft) (fn:=Tryz.f254) (m:=cS Tryz.f254 [0,2]) ad8 Tryz.func254 ⟨agO,agP,trivial⟩
def aeA:Shape:=hT
def aeB:Shape:=hd
def OR:aS:=⟨254,aeA,aeB,R2⟩
theorem ahu:ck Tryz.prog OR:=Zu (f:=254) (S:=aeA) (Z:=aeB) (g1:=OY) (g2:=x7) ag6 (alN Tryz.lays153 (by kernel_rfl) Tryz.func254 (by kernel_rfl))
theorem ahv:aW OR:=ahu.x (by kernel_rfl)
def Rf:aS:=⟨241,⟨[(0,.ptr 0 Gd 0 [0])],BW⟩,⟨[(0,cu),(1,.dat (.int .u8))],BW⟩,TA⟩
def ahL:ba:=b9 [OR] [] 1
theorem ahU:aW Rf:=cc (F:=ahL) (fn:=Tryz.f241) (m:=[]) (bG ⟨ahv,trivial⟩) Tryz.func241 trivial
def aex:aS:=⟨224,⟨[(0,.ptr 0 Gd 0 [])],BW⟩,⟨[],BW⟩,SR⟩
def ahA:ba:=b9 [qr,Rf] [] 1
theorem ahO:aW aex:=cc (F:=ahA) (fn:=Tryz.f224) (m:=[]) (bG ⟨aek,ahU,trivial⟩) Tryz.func224 trivial
def adq:aS:=⟨292,hT,hd,adu⟩
def ol:ba:=lz [EJ]
theorem auv:cm ol Tryz.f292 1 0:=uz (fun _=>rfl)
theorem auD:aW adq:=cc (F:=ol) (fn:=Tryz.f292) (m:=cS Tryz.f292 [1]) (bG ⟨ac9,trivial⟩) Tryz.func292 ⟨auv,trivial⟩
def adt:aS:=⟨275,hT,⟨[(0,cu),(1,cu),(2,c7)],[]⟩,adE⟩
theorem auG:aW adt:=bR (l:=[adq]) Tryz.func275 ⟨auD,trivial⟩
def Tc:aS:=⟨255,hT,⟨[(0,cu),(1,cu),(2,c7)],[]⟩,WX⟩
theorem ajO:aW Tc:=bR (l:=[adt]) Tryz.func255 ⟨auG,trivial⟩
def RG:aS:=⟨258,⟨[(0,.dat (.int .i32))],[]⟩,dG,Vl⟩
theorem ah9:aW RG:=bR (l:=[]) Tryz.func258 trivial
def adU:bA:=⟨⟨[(1,.fn 258 [] []),(2,c7),(10,.ptr 0 .unit 0 [])],[.iter]⟩,.ret,⟨[(6,aK)],[]⟩,(.exit 0),⟨[],[]⟩⟩
def aeg:aS:=⟨282,⟨[(0,cu),(1,.fn 258 [] []),(2,c7)],[]⟩,hd,Rz⟩
def OJ:ba:=b9 [RG] [(0,adU.go aet 0)] 0
theorem aes:bO Tryz.prog (OJ).Γ:=bG ⟨ah9,trivial⟩
theorem ahc:cm OJ Tryz.f282 0 0:=cz (L:=adU) (b:=aer) (m:=[]) aes trivial
theorem ahh:aW aeg:=cc (F:=OJ) (fn:=Tryz.f282) (m:=cS Tryz.f282 [0]) aes Tryz.func282 ⟨ahc,trivial⟩
def aee:aS:=⟨257,⟨[(0,cu),(1,.fn 258 [] [])],[]⟩,hd,Rw⟩
theorem ahf:aW aee:=bR (l:=[aeg]) Tryz.func257 ⟨ahh,trivial⟩
def PE:aS:=⟨244,fM,dG,Jy⟩
theorem Tz:aW PE:=bR (l:=[aee]) Tryz.func244 ⟨ahf,trivial⟩
def SA:bA:=⟨fM,.ret,oC,(.exit 0),⟨[],[]⟩⟩
def Iw:aS:=⟨242,fM,dG,JZ⟩
def IH:ba:=b9 [Tc,PE] [(0,SA.go Vj 0)] 0
theorem Vi:bO Tryz.prog (IH).Γ:=bG ⟨ajO,Tz,trivial⟩
theorem ajR:cm IH Tryz.f242 0 0:=cz (L:=SA) (b:=Vh) (m:=[]) Vi trivial
theorem Vk:aW Iw:=cc (F:=IH) (fn:=Tryz.f242) (m:=cS Tryz.f242 [0]) Vi Tryz.func242 ⟨ajR,trivial⟩
def adx:bA:=dk uf 0 fM
def adD:aS:=⟨277,uf,fM,aea⟩
def Ow:ba:=b9 [] [(0,adx.go adN 0)] 0
theorem adM:bO Tryz.prog (Ow).Γ:=bG trivial
theorem agr:cm Ow Tryz.f277 0 0:=cz (L:=adx) (b:=adL) (m:=[]) adM trivial
theorem agz:aW adD:=cc (F:=Ow) (fn:=Tryz.f277) (m:=cS Tryz.f277 [0]) adM Tryz.func277 ⟨agr,trivial⟩
def adG:bA:=dk uf 0 fM
def adV:aS:=⟨276,uf,fM,aeu⟩
def Ou:ba:=b9 [] [(0,adG.go ad2 0)] 0
theorem ad1:bO Tryz.prog (Ou).Γ:=bG trivial
theorem agy:cm Ou Tryz.f276 0 0:=cz (L:=adG) (b:=ad0) (m:=[]) ad1 trivial
theorem agE:aW adV:=cc (F:=Ou) (fn:=Tryz.f276) (m:=cS Tryz.f276 [0]) ad1 Tryz.func276 ⟨agy,trivial⟩
def ahK:aS:=⟨256,hT,fM,HX⟩
def ahM:ba:=lz [adD,adV]
theorem aik:ck Tryz.prog ahK:=nD (F:=ahM) (fn:=Tryz.f256) (m:=[]) (bG ⟨agz,agE,trivial⟩) Tryz.func256 trivial
def SL:Shape:=hT
def SM:Shape:=fM
def Pl:aS:=⟨256,SL,SM,Wn⟩
theorem aiK:ck Tryz.prog Pl:=Zu (f:=256) (S:=SL) (Z:=SM) (g1:=HX) (g2:=x3) aik (aoM Tryz.lays160 (by kernel_rfl) Tryz.func256 (by kernel_rfl))
theorem aiL:aW Pl:=aiK.x (by kernel_rfl)
end D
open Go Go.X Go.Proofs D
namespace D
def SY:aS:=⟨243,fM,dG,WA⟩
theorem ajS:aW SY:=bR (l:=[Pl]) Tryz.func243 ⟨aiL,trivial⟩
def qA:bA:=⟨⟨[(1,.ptr 0 fX 0 []),(86,c7)],uc⟩,.nrm,⟨[],[]⟩,.ret,xk⟩
def qz:bA:=⟨⟨[(1,.ptr 0 fX 0 []),(4,.ptr 1 fX 0 []),(66,c7)],BV⟩,.nrm,⟨[],[]⟩,.ret,xk⟩
def qy:bA:=⟨⟨[(1,.ptr 0 fX 0 []),(4,.ptr 1 fX 0 []),(35,c7)],BV⟩,.nrm,⟨[],[]⟩,.ret,xk⟩
def qx:bA:=⟨⟨[(1,.ptr 0 fX 0 []),(4,.ptr 1 fX 0 []),(23,c7)],BV⟩,.nrm,⟨[],[]⟩,.ret,xk⟩
def qB:bA:=⟨⟨[(1,.ptr 0 fX 0 []),(4,.ptr 1 fX 0 []),(22,c7)],BV⟩,.nrm,⟨[],[]⟩,.ret,xk⟩
def tx:aS:=⟨225,Ca,⟨[(0,cu),(1,aK)],[]⟩,YN⟩
def iZ:ba:=lz [PE,Iw,SY]
def mH:jU:=[(100010,qA.go s8 0),(100008,qz.go qV 0),(100006,qy.go o6 0),(100004,qx.go s7 0),(300003,qB.go qW 0)]
theorem ahp (s:qA.S.ty.den): @Eq (Option qA.Out) ((fo iZ mH (dZ (bK Tryz.f225) 100010) 0 (qA.S.enc s)).bind fun (e,st)=>qA.out (iZ).m e st).val (s8 s):=by kernel_rfl
theorem ahn (s:qz.S.ty.den): @Eq (Option qz.Out) ((fo iZ mH (dZ (bK Tryz.f225) 100008) 0 (qz.S.enc s)).bind fun (e,st)=>qz.out (iZ).m e st).val (qV s):=by kernel_rfl
theorem ahl (s:qy.S.ty.den): @Eq (Option qy.Out) ((fo iZ mH (dZ (bK Tryz.f225) 100006) 0 (qy.S.enc s)).bind fun (e,st)=>qy.out (iZ).m e st).val (o6 s):=by kernel_rfl
theorem aig (s:qx.S.ty.den): @Eq (Option qx.Out) ((fo iZ mH (dZ (bK Tryz.f225) 100004) 0 (qx.S.enc s)).bind fun (e,st)=>qx.out (iZ).m e st).val (s7 s):=by kernel_rfl
theorem ahr (s:qB.S.ty.den): @Eq (Option qB.Out) ((fo iZ mH (dZ (bK Tryz.f225) 300003) 0 (qB.S.enc s)).bind fun (e,st)=>qB.out (iZ).m e st).val (qW s):=by kernel_rfl
theorem amI (s:(tx).S.ty.den):(ql iZ mH Tryz.f225 (tx).S (tx).Z s).val=(tx).g s:=by kernel_rfl
theorem wW:bO Tryz.prog (iZ).Γ:=bG ⟨Tz,Vk,ajS,trivial⟩
theorem ahq:h6 Tryz.prog iZ Tryz.f225.ntmps (qA.go s8 0) (dZ (bK Tryz.f225) 100010):=
  j7 dI wW dS (L:=qA) (k:=0) (f:=s8) (C:=mH) (l:=[]) (m:=[]) (by kernel_rfl) trivial (by kernel_rfl) trivial (by kernel_rfl) (dW _ (by kernel_rfl)) ahp
theorem aho:h6 Tryz.prog iZ Tryz.f225.ntmps (qz.go qV 0) (dZ (bK Tryz.f225) 100008):=
  j7 dI wW dS (L:=qz) (k:=0) (f:=qV) (C:=mH) (l:=[]) (m:=[(qA.go s8 0,dZ (bK Tryz.f225) 100010)]) (by kernel_rfl) trivial (by kernel_rfl) ⟨ahq,trivial⟩ (by kernel_rfl) (dW _ (by kernel_rfl)) ahn
theorem ahm:h6 Tryz.prog iZ Tryz.f225.ntmps (qy.go o6 0) (dZ (bK Tryz.f225) 100006):=
  j7 dI wW dS (L:=qy) (k:=0) (f:=o6) (C:=mH) (l:=[]) (m:=[(qz.go qV 0,dZ (bK Tryz.f225) 100008)]) (by kernel_rfl) trivial (by kernel_rfl) ⟨aho,trivial⟩ (by kernel_rfl) (dW _ (by kernel_rfl)) ahl
theorem ahk:h6 Tryz.prog iZ Tryz.f225.ntmps (qx.go s7 0) (dZ (bK Tryz.f225) 100004):=
  j7 dI wW dS (L:=qx) (k:=0) (f:=s7) (C:=mH) (l:=[]) (m:=[(qy.go o6 0,dZ (bK Tryz.f225) 100006)]) (by kernel_rfl) trivial (by kernel_rfl) ⟨ahm,trivial⟩ (by kernel_rfl) (dW _ (by kernel_rfl)) aig
theorem ahs:h6 Tryz.prog iZ Tryz.f225.ntmps (qB.go qW 0) (dZ (bK Tryz.f225) 300003):=
  j7 dI wW dS (L:=qB) (k:=0) (f:=qW) (C:=mH) (l:=[]) (m:=[(qx.go s7 0,dZ (bK Tryz.f225) 100004)]) (by kernel_rfl) trivial (by kernel_rfl) ⟨ahk,trivial⟩ (by kernel_rfl) (dW _ (by kernel_rfl)) ahr
theorem amJ:ck Tryz.prog tx:=
  BT (C:=mH) (F:=iZ) dI wW dS (fn:=Tryz.f225) (l:=[]) (m:=[(qB.go qW 0,dZ (bK Tryz.f225) 300003)]) Tryz.func225 (by kernel_rfl) (by kernel_rfl) (by kernel_rfl) trivial (by kernel_rfl) ⟨ahs,trivial⟩ (dW _ (by kernel_rfl)) (by kernel_rfl) amI
theorem amK:aW tx:=(amJ).x (by kernel_rfl)
def GS:aS:=⟨191,fM,⟨[(0,.dat fX),(1,aK)],[]⟩,BM⟩
theorem Ih:aW GS:=bR (l:=[aex,tx]) Tryz.func191 ⟨ahO,amK,trivial⟩
def UZ:aS:=⟨190,⟨[(0,aK),(1,aK),(2,.ptr 0 .opq 0 []),(3,.ptr 1 dK 0 [])],[.box 242 .opq (.fn 189 [] []),.box 95 dK kX]⟩,⟨[],[.box 242 .opq (.fn 189 [] []),.box 95 dK kX]⟩,CK⟩
def akT:ba:=b9 [Iv,O4] [] 2
theorem aki:aW UZ:=cc (F:=akT) (fn:=Tryz.f190) (m:=[]) (bG ⟨UU,RU,trivial⟩) Tryz.func190 trivial
def VD:aS:=⟨226,fM,hd,C6⟩
theorem ali:aW VD:=bR (l:=[Iw,GS]) Tryz.func226 ⟨Vk,Ih,trivial⟩
def Uo:aS:=⟨192,hT,dG,Xi⟩
theorem akk:aW Uo:=bR (l:=[VD]) Tryz.func192 ⟨ali,trivial⟩
def Sn:aS:=⟨223,Cb,rZ,Wc⟩
theorem aiZ:aW Sn:=bR (l:=[GS]) Tryz.func223 ⟨Ih,trivial⟩
def acl:bA:=dk ⟨[(2,.ptr 0 hv 0 []),(3,.ptr 1 hv 0 []),(7,.dat (.list bd)),(8,aK),(9,aK)],B0⟩ 0 ⟨[(2,.ptr 0 hv 0 []),(3,.ptr 1 hv 0 [])],B0⟩
def SX:aS:=⟨188,p0,rZ,W3⟩
def PQ:ba:=b9 [Sn] [(0,acl.go T1 0)] 0
theorem T0:bO Tryz.prog (PQ).Γ:=bG ⟨aiZ,trivial⟩
theorem ai0:cm PQ Tryz.f188 0 0:=cz (L:=acl) (b:=TZ) (m:=[]) T0 trivial
theorem ajk:aW SX:=cc (F:=PQ) (fn:=Tryz.f188) (m:=cS Tryz.f188 [0]) T0 Tryz.func188 ⟨ai0,trivial⟩
def UC:bA:=dk ⟨[(1,.ptr 0 dE 0 []),(2,.ptr 1 dK 0 []),(3,.ptr 2 dK 0 []),(5,.ptr 3 .opq 0 []),(35,.dat (.list dK)),(36,aK),(37,aK)],QH⟩ 0 ⟨[(1,.ptr 0 dE 0 []),(2,.ptr 1 dK 0 []),(3,.ptr 2 dK 0 []),(5,.ptr 3 .opq 0 [])],QH⟩
def UD:bA:=dk ⟨[(2,.ptr 0 dK 0 []),(3,.ptr 1 dK 0 []),(5,.ptr 2 .opq 0 []),(8,.fn 190 [] [(.ptr 2 .opq 0 []),(.ptr 1 dK 0 [])]),(62,.dat (.list cQ)),(63,aK),(64,aK)],[.box 95 dK kX,.box 95 dK kX,.box 242 .opq (.fn 189 [] [])]⟩ 2 ⟨[(2,.ptr 0 dK 0 []),(3,.ptr 1 dK 0 [])],[.box 95 dK kX,.box 95 dK kX]⟩
def W1:aS:=⟨149,⟨[(0,.dat dE)],[]⟩,ub,Yv⟩
def Cu:ba:=b9 [Iv,O4,GS,UZ,Uo,SX] [(0,UC.go Ww 0),(2,UD.go Wx 0)] 0
theorem Jx:bO Tryz.prog (Cu).Γ:=bG ⟨UU,RU,Ih,aki,akk,ajk,trivial⟩
theorem alg:cm Cu Tryz.f149 0 0:=cz (L:=UC) (b:=Wu) (m:=[]) Jx trivial
theorem alh:cm Cu Tryz.f149 2 1:=cz (L:=UD) (b:=Wv) (m:=[]) Jx trivial
theorem al9:aW W1:=cc (F:=Cu) (fn:=Tryz.f149) (m:=cS Tryz.f149 [0,2]) Jx Tryz.func149 ⟨alg,alh,trivial⟩
def we:bA:=⟨⟨[(3,aK),(4,.ptr 0 c8 0 []),(9,.ptr 1 dE 0 []),(11,aK),(39,.own ac 2),(40,aK),(41,aK)],[.box 32 c8 (.dat c8),.box 85 dE (.dat dE),.arr 39 ac false]⟩,.ret,⟨[(8,aK)],[]⟩,(.exit 0),⟨[(11,aK)],[]⟩⟩
def PN:aS:=⟨91,wv,wy,W0⟩
def AI (eU:(bN×Int×ah×Int×Unit)->Option (Int×Unit)):ba:=b9 [q9,Iu,q3,(Ga eU),U0,W1] [(0,we.go (H3 eU) 0)] 0
theorem ail (eU:(bN×Int×ah×Int×Unit)->Option (Int×Unit)) (s:we.S.ty.den): @Eq (Option (we.S.ty.den⊕we.Out)) (we.body (AI eU) (ip (bK Tryz.f91) 0) 0 s).val (H0 eU s):=by kernel_rfl
theorem arm (eU:(bN×Int×ah×Int×Unit)->Option (Int×Unit)) (s:wv.ty.den): @Eq (Option wy.ty.den) (k5 (AI eU) Tryz.f91 wv wy s).val (Pf eU s):=by kernel_rfl
theorem Un (eU:(bN×Int×ah×Int×Unit)->Option (Int×Unit)) (wS:ck Tryz.prog (Ga eU)):bO Tryz.prog (AI eU).Γ:=bG ⟨un,UT,wO,(wS.x (by kernel_rfl)),akj,al9,trivial⟩
theorem aiP (eU:(bN×Int×ah×Int×Unit)->Option (Int×Unit)) (wS:ck Tryz.prog (Ga eU)):fT Tryz.prog (AI eU) Tryz.f91.ntmps 0 (ip (bK Tryz.f91) 0):=
  rH dI (Un eU wS) dS (L:=we) (f:=H3 eU) (b:=H0 eU) (m:=[]) (fun _=>rfl) (by kernel_rfl) (by kernel_rfl) trivial (by kernel_rfl) (dW _ (by kernel_rfl)) (ail eU)
theorem ahy (eU:(bN×Int×ah×Int×Unit)->Option (Int×Unit)) (wS:ck Tryz.prog (Ga eU)):ck Tryz.prog ⟨91,wv,wy,Pf eU⟩:=
  rG (F:=(AI eU)) dI (Un eU wS) dS (fn:=Tryz.f91) (m:=cS Tryz.f91 [0]) Tryz.func91 (by kernel_rfl) (by kernel_rfl) (by kernel_rfl) ⟨aiP eU wS,trivial⟩ (dW _ (by kernel_rfl)) (by kernel_rfl) (arm eU)
theorem aeG: ∀n,ck Tryz.prog ⟨91,wv,wy,Pe n⟩
  |0=>Dl
  |n+1=>ahy _ (aeG n)
theorem akO:ck Tryz.prog PN:=aeG jV
theorem akP:aW PN:=(akO).x (by kernel_rfl)
def AR:Shape:=Cc
def AT:Shape:=dG
def akQ:aS:=⟨31,AR,AT,Kb⟩
def akV:ba:=lz [IF,PN]
theorem ask:ck Tryz.prog akQ:=nD (F:=akV) (fn:=Tryz.f31) (m:=[]) (bG ⟨Vb,akP,trivial⟩) Tryz.func31 trivial
def qD:bA:=⟨⟨[(1,.ptr 0 iq 0 []),(2,.ptr 1 bd 0 []),(3,c7),(4,aK),(7,c7),(8,aK),(10,.own bd 2),(16,.ptr 3 iq 0 []),(18,c7)],[.box 36 iq (.dat iq),.box 58 bd (.dat bd),.arr 58 bd false,.box 36 iq (.dat iq)]⟩,.ret,dG,(.exit 90000009),⟨[],[]⟩⟩
def Gp:Shape:=⟨[],[]⟩
def Gq:Shape:=dG
def Pg:aS:=⟨21,Gp,Gq,IV⟩
def wi (eD:(cy×af×Unit)->Option mL) (eF:(fa×Unit)->Option (cy×Int×Unit)) (eP:(cy×a6×Unit)->Option (cy×Int×Unit)) (eE:(cy×Unit)->Option (Int×Unit)) (eN:Unit->Option (cy×Unit)) (eQ:(cy×ah×Unit)->Option (Int×(List ak)×Unit)) (eO:((List ak)×(List ak)×Unit)->Option (Bool×Unit)) (eA:(cy×Unit)->Option (Bool×Unit)):ba:=lz [⟨81,tA,ts,eD⟩,⟨40,Bq,Bs,eF⟩,⟨15,Bp,Br,eP⟩,⟨17,AK,AA,eE⟩,⟨80,AJ,Az,eN⟩,⟨27,tn,tp,eQ⟩,⟨29,AQ,AS,eO⟩,⟨31,AR,AT,eA⟩]
def Gk (eD:(cy×af×Unit)->Option mL) (eF:(fa×Unit)->Option (cy×Int×Unit)) (eP:(cy×a6×Unit)->Option (cy×Int×Unit)) (eE:(cy×Unit)->Option (Int×Unit)) (eN:Unit->Option (cy×Unit)) (eQ:(cy×ah×Unit)->Option (Int×(List ak)×Unit)) (eO:((List ak)×(List ak)×Unit)->Option (Bool×Unit)) (eA:(cy×Unit)->Option (Bool×Unit)):jU:=[(9,qD.go (m7 eD eF eP eE eN eQ eO eA) 0)]
theorem ahG (eD:(cy×af×Unit)->Option mL) (eF:(fa×Unit)->Option (cy×Int×Unit)) (eP:(cy×a6×Unit)->Option (cy×Int×Unit)) (eE:(cy×Unit)->Option (Int×Unit)) (eN:Unit->Option (cy×Unit)) (eQ:(cy×ah×Unit)->Option (Int×(List ak)×Unit)) (eO:((List ak)×(List ak)×Unit)->Option (Bool×Unit)) (eA:(cy×Unit)->Option (Bool×Unit)) (s:qD.S.ty.den): @Eq (Option qD.Out) ((fo (wi eD eF eP eE eN eQ eO eA) (Gk eD eF eP eE eN eQ eO eA) (dZ (bK Tryz.f21) 9) 0 (qD.S.enc s)).bind fun (e,st)=>qD.out (wi eD eF eP eE eN eQ eO eA).m e st).val (m7 eD eF eP eE eN eQ eO eA s):=by kernel_rfl
theorem ai1 (eD:(cy×af×Unit)->Option mL) (eF:(fa×Unit)->Option (cy×Int×Unit)) (eP:(cy×a6×Unit)->Option (cy×Int×Unit)) (eE:(cy×Unit)->Option (Int×Unit)) (eN:Unit->Option (cy×Unit)) (eQ:(cy×ah×Unit)->Option (Int×(List ak)×Unit)) (eO:((List ak)×(List ak)×Unit)->Option (Bool×Unit)) (eA:(cy×Unit)->Option (Bool×Unit)) (s:Gp.ty.den): @Eq (Option Gq.ty.den) (ql (wi eD eF eP eE eN eQ eO eA) (Gk eD eF eP eE eN eQ eO eA) Tryz.f21 Gp Gq s).val (O0 eD eF eP eE eN eQ eO eA s):=by kernel_rfl
theorem SN (eD:(cy×af×Unit)->Option mL) (w5:ck Tryz.prog ⟨81,tA,ts,eD⟩) (eF:(fa×Unit)->Option (cy×Int×Unit)) (w7:ck Tryz.prog ⟨40,Bq,Bs,eF⟩) (eP:(cy×a6×Unit)->Option (cy×Int×Unit)) (w4:ck Tryz.prog ⟨15,Bp,Br,eP⟩) (eE:(cy×Unit)->Option (Int×Unit)) (w6:ck Tryz.prog ⟨17,AK,AA,eE⟩) (eN:Unit->Option (cy×Unit)) (w2:ck Tryz.prog ⟨80,AJ,Az,eN⟩) (eQ:(cy×ah×Unit)->Option (Int×(List ak)×Unit)) (w8:ck Tryz.prog ⟨27,tn,tp,eQ⟩) (eO:((List ak)×(List ak)×Unit)->Option (Bool×Unit)) (w3:ck Tryz.prog ⟨29,AQ,AS,eO⟩) (eA:(cy×Unit)->Option (Bool×Unit)) (w9:ck Tryz.prog ⟨31,AR,AT,eA⟩):bO Tryz.prog (wi eD eF eP eE eN eQ eO eA).Γ:=bG ⟨(w5.x (by kernel_rfl)),(w7.x (by kernel_rfl)),(w4.x (by kernel_rfl)),(w6.x (by kernel_rfl)),(w2.x (by kernel_rfl)),(w8.x (by kernel_rfl)),(w3.x (by kernel_rfl)),(w9.x (by kernel_rfl)),trivial⟩
theorem ahH (eD:(cy×af×Unit)->Option mL) (w5:ck Tryz.prog ⟨81,tA,ts,eD⟩) (eF:(fa×Unit)->Option (cy×Int×Unit)) (w7:ck Tryz.prog ⟨40,Bq,Bs,eF⟩) (eP:(cy×a6×Unit)->Option (cy×Int×Unit)) (w4:ck Tryz.prog ⟨15,Bp,Br,eP⟩) (eE:(cy×Unit)->Option (Int×Unit)) (w6:ck Tryz.prog ⟨17,AK,AA,eE⟩) (eN:Unit->Option (cy×Unit)) (w2:ck Tryz.prog ⟨80,AJ,Az,eN⟩) (eQ:(cy×ah×Unit)->Option (Int×(List ak)×Unit)) (w8:ck Tryz.prog ⟨27,tn,tp,eQ⟩) (eO:((List ak)×(List ak)×Unit)->Option (Bool×Unit)) (w3:ck Tryz.prog ⟨29,AQ,AS,eO⟩) (eA:(cy×Unit)->Option (Bool×Unit)) (w9:ck Tryz.prog ⟨31,AR,AT,eA⟩):h6 Tryz.prog (wi eD eF eP eE eN eQ eO eA) Tryz.f21.ntmps (qD.go (m7 eD eF eP eE eN eQ eO eA) 0) (dZ (bK Tryz.f21) 9):=
  j7 dI (SN eD w5 eF w7 eP w4 eE w6 eN w2 eQ w8 eO w3 eA w9) dS (L:=qD) (k:=0) (f:=m7 eD eF eP eE eN eQ eO eA) (C:=(Gk eD eF eP eE eN eQ eO eA)) (l:=[]) (m:=[]) (by kernel_rfl) trivial (by kernel_rfl) trivial (by kernel_rfl) (dW _ (by kernel_rfl)) (ahG eD eF eP eE eN eQ eO eA)
theorem ahd (eD:(cy×af×Unit)->Option mL) (w5:ck Tryz.prog ⟨81,tA,ts,eD⟩) (eF:(fa×Unit)->Option (cy×Int×Unit)) (w7:ck Tryz.prog ⟨40,Bq,Bs,eF⟩) (eP:(cy×a6×Unit)->Option (cy×Int×Unit)) (w4:ck Tryz.prog ⟨15,Bp,Br,eP⟩) (eE:(cy×Unit)->Option (Int×Unit)) (w6:ck Tryz.prog ⟨17,AK,AA,eE⟩) (eN:Unit->Option (cy×Unit)) (w2:ck Tryz.prog ⟨80,AJ,Az,eN⟩) (eQ:(cy×ah×Unit)->Option (Int×(List ak)×Unit)) (w8:ck Tryz.prog ⟨27,tn,tp,eQ⟩) (eO:((List ak)×(List ak)×Unit)->Option (Bool×Unit)) (w3:ck Tryz.prog ⟨29,AQ,AS,eO⟩) (eA:(cy×Unit)->Option (Bool×Unit)) (w9:ck Tryz.prog ⟨31,AR,AT,eA⟩):ck Tryz.prog ⟨21,Gp,Gq,O0 eD eF eP eE eN eQ eO eA⟩:=
  BT (C:=(Gk eD eF eP eE eN eQ eO eA)) (F:=(wi eD eF eP eE eN eQ eO eA)) dI (SN eD w5 eF w7 eP w4 eE w6 eN w2 eQ w8 eO w3 eA w9) dS (fn:=Tryz.f21) (l:=[]) (m:=[(qD.go (m7 eD eF eP eE eN eQ eO eA) 0,dZ (bK Tryz.f21) 9)]) Tryz.func21 (by kernel_rfl) (by kernel_rfl) (by kernel_rfl) trivial (by kernel_rfl) ⟨ahH eD w5 eF w7 eP w4 eE w6 eN w2 eQ w8 eO w3 eA w9,trivial⟩ (dW _ (by kernel_rfl)) (by kernel_rfl) (ai1 eD eF eP eE eN eQ eO eA)
theorem ai2:ck Tryz.prog Pg:=ahd oq WZ KY amo KX aml JM akN JE ajo jc Wq tI Vy Kb ask
theorem ai3:aW Pg:=(ai2).x (by kernel_rfl)
def Sx:bA:=dk ⟨[(1,.own .str 0),(2,.dat (.int .u8))],rV⟩ 0 ⟨[(1,.own .str 0)],rV⟩
def UX:aS:=⟨23,⟨[],[]⟩,⟨[(0,.own .str 0)],rV⟩,tF⟩
def IG:ba:=b9 [Jf] [(0,Sx.go UR 0)] 0
theorem UQ:bO Tryz.prog (IG).Γ:=bG ⟨V5,trivial⟩
theorem ajn:cm IG Tryz.f23 0 0:=cz (L:=Sx) (b:=UP) (m:=[]) UQ trivial
theorem akc:aW UX:=cc (F:=IG) (fn:=Tryz.f23) (m:=cS Tryz.f23 [0]) UQ Tryz.func23 ⟨ajn,trivial⟩
def VV:aS:=⟨24,⟨[(0,.dat iq),(1,cu)],[]⟩,⟨[(0,.dat XI)],[]⟩,Kk⟩
theorem alQ:aW VV:=bR (l:=[Jw]) Tryz.func24 ⟨amn,trivial⟩
end D
open Go Go.X Go.Proofs D
namespace D
def Sh:bA:=⟨⟨[(0,.dat (.list bd)),(3,aK)],[]⟩,.ret,oC,(.exit 0),⟨[],[]⟩⟩
def S4:aS:=⟨38,p0,dG,Cz⟩
def P6:ba:=b9 [] [(0,Sh.go HT 0)] 0
theorem TT:bO Tryz.prog (P6).Γ:=bG trivial
theorem ajf:cm P6 Tryz.f38 0 0:=cz (L:=Sh) (b:=AG) (m:=[]) TT trivial
theorem ajv:aW S4:=cc (F:=P6) (fn:=Tryz.f38) (m:=cS Tryz.f38 [0]) TT Tryz.func38 ⟨ajf,trivial⟩
end D
open Go Go.X Go.Proofs D
namespace D
def OU:aS:=⟨7,⟨[(0,.dat lb),(1,.dat ih)],[]⟩,dG,wj⟩
def ahz:ba:=lz [Uy,PJ,Ji,IA,Pg,UX,VV,S4]
theorem ahF:ck Tryz.prog OU:=nD (F:=ahz) (fn:=Tryz.f7) (m:=[]) (bG ⟨akF,Uf,ama,akt,ai3,akc,alQ,ajv,trivial⟩) Tryz.func7 trivial
end D
