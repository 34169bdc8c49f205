import Derived.Test.YtmmmpanpbphkdaaGreatDoorL
import Derived.Test.YtmmmpanpbphkdaaGreatDoorD
import Derived.Test.YtmmmpanpbphkdaaGreatDoorChecked
set_option linter.unusedVariables false
set_option maxRecDepth 100000
open Go Go.X Go.Proofs D
namespace D
noncomputable abbrev bg:=Tryz.prog
theorem ag:True:=trivial
abbrev du:cm:=.dat .bool
abbrev cW:cm:=.dat .str
abbrev aN:cm:=.dat (.int .i64)
abbrev cv:List dX:=[.arr 39 ac false]
abbrev r2:cm:=.agg [du,du,(.agg [cW,cW,aN]),cW,du,aN]
abbrev jU:aB:=.pair (.int .u8) (.pair (.int .u8) .unit)
abbrev ez:Shape:=⟨[(0,du)],[]⟩
abbrev gr:Shape:=⟨[(0,.dat dx)],[]⟩
abbrev mE:cm:=.agg [(.agg [aN,aN]),(.agg [aN,aN])]
abbrev qA:List dX:=[.box 132 .opq (.fn 183 [] [(.ptr 1 ac 0 [])]),.box 39 ac (.dat ac)]
abbrev ju:Shape:=⟨[(0,cW),(1,cW)],[]⟩
abbrev zG:List dX:=[.loop 1012800 [(5,.ptr 2 jW 0 []),(4,.ptr 3 jW 0 [])],.box 83 (.list dx) (.dat (.list dx)),.box 190 jW r2,.box 190 jW r2]
abbrev gY:Shape:=⟨[(0,cW)],[]⟩
abbrev qB:List (Nat×cm):=[(0,.own ac 0),(1,aN),(4,.fn 236 [] []),(12,aN),(13,aN)]
abbrev oU:cm:=.agg [(.dat (.list hZ))]
abbrev EA:List dX:=[.loop 1016800 [(5,.ptr 2 (.list ac) 0 [])],.box 83 (.list dx) (.dat (.list dx)),.box 62 (.list ac) (.own ac 4),.gone,.arr 39 ac false]
abbrev iE:Shape:=⟨[(0,aN)],[]⟩
abbrev r3:List dX:=[.arr 58 bs false,.box 62 (.list ac) (.dat (.list ac))]
abbrev jV:List dX:=[.box 39 ac (.dat ac)]
abbrev zH:List (Nat×cm):=[(0,.own ac 0),(1,aN),(2,aN),(3,aN),(4,.fn 236 [] []),(10,du),(11,du)]
abbrev wI:Shape:=⟨[(0,.ptr 0 jW 0 []),(1,.dat dx)],[.box 190 jW r2]⟩
abbrev zI:List (Nat×cm):=[(0,.own ac 0),(1,aN),(2,aN),(3,.fn 236 [] []),(9,aN),(10,aN)]
abbrev jI:List (Nat×cm):=[(0,.own ac 0)]
abbrev zJ:List dX:=[.box 32 dC oU,.box 32 dC (.agg [(.own hZ 2)]),.arr 87 hZ false]
abbrev TK:Shape:=⟨[(4,.ptr 0 bs 0 []),(5,.ptr 1 .bool 0 []),(6,.ptr 2 (.int .i64) 0 []),(7,aN),(1000000000,.dfr 129 [(.ptr 2 (.int .i64) 0 [])] [(.ptr 0 bs 0 []),(.ptr 1 .bool 0 [])] jW)],[.box 58 bs (.dat bs),.box 4 .bool du,.box 3 (.int .i64) aN]⟩
abbrev wD:List (Nat×cm):=[(0,.own ac 0),(1,aN),(2,aN),(3,.fn 236 [] [])]
abbrev zD:List (Nat×cm):=[(0,.own ac 0),(1,aN),(4,.fn 236 [] []),(11,aN),(12,aN)]
abbrev mD:cm:=.agg [(.dat dC),aN]
abbrev Ko:Shape:=⟨[],[.loop 1013600 [(12,.ptr 5 (.list bs) 0 [])],.box 141 .opq (.ptr 6 fK 0 []),.box 3 (.int .i64) aN,.box 39 ac (.dat ac),.box 62 (.list ac) (.dat (.list ac)),.box 64 (.list bs) (.own bs 8),.box 143 fK mD,.gone,.arr 58 bs false]⟩
abbrev Kp:Shape:=⟨[],[.loop 1002700 [(7,.ptr 5 (.list bs) 0 [])],.box 141 .opq (.ptr 6 fK 0 []),.box 3 (.int .i64) aN,.box 39 ac (.dat ac),.box 62 (.list ac) (.dat (.list ac)),.box 64 (.list bs) (.own bs 7),.box 143 fK mD,.arr 58 bs false]⟩
abbrev Eu:List dX:=[.box 32 dC (.dat dC),.box 85 er (.dat er),.box 149 kC (.agg [oU,aN,aN])]
abbrev uf:List dX:=[.arr 39 ac false,.box 39 ac (.dat ac)]
abbrev wE:Shape:=⟨[(0,.dat dx),(1,.dat (.list bs))],[]⟩
abbrev ug:List dX:=[.arr 39 ac true,.box 39 ac (.dat ac)]
abbrev oT:Shape:=⟨[(0,.dat ac)],[]⟩
abbrev r1:Shape:=⟨[(0,.dat dC),(1,aN)],[]⟩
abbrev wF:Shape:=⟨[(0,cW),(1,.dat (.int .u8))],[]⟩
abbrev wG:List dX:=[.arr 39 ac false,.box 3 (.int .i64) aN]
abbrev Ev:cm:=.agg [cW,aN,aN,cW]
abbrev uh:Shape:=⟨[(0,.dat (.list bs))],[]⟩
abbrev ui:Shape:=⟨[(0,.dat (.list ac))],[]⟩
abbrev Ew:List (Nat×cm):=[(0,.own ac 0),(1,aN),(2,aN),(3,aN),(4,.fn 236 [] [])]
abbrev Ex:List dX:=[.box 204 iQ (.agg [aN,aN]),.box 204 iQ (.agg [aN,aN])]
abbrev wH:Shape:=⟨[(0,du)],[.box 190 jW r2]⟩
abbrev qz:List dX:=[.box 58 bs (.dat bs)]
abbrev n2:List dX:=[.arr 58 bs false]
abbrev kx:Shape:=⟨[(0,.own bs 0)],n2⟩
abbrev zE:List dX:=[.box 39 ac (.dat ac),.arr 39 ac false]
abbrev zF:Shape:=⟨[(0,.dat ac),(1,.dat ac)],[]⟩
abbrev Ey:Shape:=⟨[(0,.dat (.list bs)),(1,.dat ac)],[]⟩
abbrev uj:Shape:=⟨[(0,.dat iQ)],[]⟩
abbrev Ez:List dX:=[.box 85 er (.dat er),.box 39 ac (.dat ac)]
abbrev TL:Shape:=⟨[(0,.dat (.list ac)),(5,.own ac 0),(12,.own ac 1),(13,aN),(14,aN)],[.arr 39 ac false,.arr 39 ac false]⟩
abbrev r0:Shape:=⟨[(2,du)],[]⟩
abbrev TI:Shape:=⟨[(0,cW),(2,.ptr 0 ac 0 []),(3,.own (.int .u8) 1)],[.box 39 ac (.agg [cW,cW]),.arr 5 (.int .u8) false]⟩
abbrev Kn:List dX:=[.box 85 er (.dat er),.box 95 eA mE,.box 95 eA (.dat eA)]
abbrev TJ:List dX:=[.box 32 dC (.dat dC),.box 39 ac (.dat ac),.box 26 mR (.dat mR),.box 114 fK (.agg [oU,aN]),.arr 9 .str false]
abbrev Es:List dX:=[.box 245 hr (.dat hr),.box 245 hr Ev]
abbrev wB:Shape:=⟨[(0,.dat eA)],[]⟩
abbrev Et:List dX:=[.box 269 Ji (.agg [(.agg [cW]),Ev])]
abbrev zC:Shape:=⟨[(2,cW),(3,aN)],[]⟩
abbrev wC:List dX:=[.box 245 hr (.dat hr)]
abbrev ue:List dX:=[.arr 9 .str false]
abbrev um:aB:=.pair (.int .u8) jU
abbrev hY:aB:=.pair (.int .u8) (.pair (.int .u8) (.pair (.int .u8) um))
abbrev EB:List dX:=[.box 28 hY (.dat hY),.box 41 dx (.agg [aN,cW,cW,(.agg [cW,cW]),cW,cW,aN]),.box 39 ac (.dat ac)]
abbrev T2:List (Nat×cm):=[(0,.own ac 0),(1,aN),(2,aN),(3,aN),(4,.fn 236 [] []),(10,du),(11,du),(12,aN),(13,aN)]
abbrev EF:Shape:=⟨[(0,.dat (.int .u8))],[]⟩
abbrev T3:List dX:=[.loop 1012800 [(5,.ptr 1 jW 0 []),(4,.ptr 2 jW 0 [])],.box 190 jW r2,.box 190 jW r2]
abbrev T4:Shape:=⟨[(2,.ptr 0 dx 0 [])],[.box 41 dx (.agg [aN,cW,cW,(.dat ac),cW,cW,aN])]⟩
abbrev T5:List dX:=[.box 85 er (.dat er),.box 95 eA mE,.box 95 eA mE,.box 242 .opq (.fn 189 [] [])]
abbrev T6:List (Nat×cm):=[(1,.ptr 0 hY 0 []),(2,.ptr 1 dx 0 []),(3,cW),(5,.ptr 2 ac 0 []),(6,cW),(7,cW)]
abbrev Kw:Shape:=⟨[(0,.dat (.list bs)),(1,cW)],[]⟩
abbrev T7:List dX:=[.box 143 fK mD,.box 85 er (.dat er),.box 39 ac (.dat ac),.arr 39 ac false]
abbrev T8:Shape:=⟨[(0,cW),(2,.ptr 0 ac 0 []),(3,aN)],[.box 39 ac (.agg [cW,cW])]⟩
abbrev Kx:Shape:=⟨[(0,.dat er),(1,.dat ac)],[]⟩
abbrev T9:List (Nat×cm):=[(0,.own ac 0),(1,aN),(2,aN),(3,aN),(4,.fn 236 [] []),(12,aN),(13,aN)]
abbrev EG:List (Nat×cm):=[(5,.ptr 1 (.list ac) 0 [])]
abbrev zL:Shape:=⟨[(4,du)],[]⟩
abbrev EH:Shape:=⟨[(0,.dat hr)],[]⟩
abbrev EI:Shape:=⟨[(0,.dat bs)],[]⟩
abbrev EJ:Shape:=⟨[(0,.dat fY)],[]⟩
abbrev Ky:Shape:=⟨[(0,.dat (.int .u64))],[]⟩
abbrev Ua:List (Nat×cm):=[(2,.ptr 0 dC 0 []),(3,.ptr 1 er 0 []),(4,.ptr 2 kC 0 []),(6,aN)]
abbrev zM:List dX:=[.arr 87 hZ false]
abbrev zN:List dX:=[.arr 41 dx false]
abbrev Ub:List dX:=[.box 32 dC (.dat dC),.box 85 er (.dat er),.box 32 dC oU]
abbrev Uc:Shape:=⟨[(0,.dat (.list bs)),(1,.dat (.list bs))],[]⟩
def hh:cd:=⟨[(1,⟨.opq,0,[],8,false,true,false,[]⟩),(3,⟨(.int .i64),0,[],8,false,false,false,[]⟩),(4,⟨.bool,0,[],1,false,false,false,[]⟩),(5,⟨(.int .u8),0,[],1,false,false,false,[]⟩),(9,⟨.str,0,[],16,false,false,false,[]⟩),(20,⟨.opq,0,[],16,false,false,true,[]⟩),(21,⟨(.int .i32),0,[],4,false,false,false,[]⟩),(22,⟨(.list um),168,[],3,false,false,false,[]⟩),(23,⟨(.list hY),28,[],6,false,false,false,[]⟩),(24,⟨(.pair (.list hY) (.pair (.list hY) (.pair (.list hY) (.pair (.list hY) .unit)))),0,[23,23,23,23],96,false,true,false,[]⟩),(26,⟨mR,0,[22,24,5],128,false,false,false,[]⟩),(28,⟨hY,0,[5,5,5,5,5,5],6,false,true,false,[]⟩),(30,⟨(.list hZ),87,[],136,false,false,false,[]⟩),(32,⟨dC,0,[30],24,false,false,false,[]⟩),(34,⟨rH,0,[3,3,3],24,true,false,false,[]⟩),(36,⟨fY,0,[32,3,34],56,false,false,false,[]⟩),(39,⟨ac,0,[9,9],32,true,false,false,[]⟩),(41,⟨dx,0,[3,9,9,39,9,9,3],112,true,false,false,[]⟩),(43,⟨(.int .i64),0,[],8,false,false,false,[]⟩),(53,⟨um,0,[5,5,5],3,false,true,false,[]⟩),(55,⟨(.list .str),9,[],16,false,false,false,[]⟩),(58,⟨bs,0,[9,9,3],40,true,false,false,[]⟩),(60,⟨Af,0,[58,4,3,43],64,true,false,false,[]⟩),(62,⟨(.list ac),39,[],32,false,false,false,[]⟩),(64,⟨(.list bs),58,[],40,false,false,false,[]⟩),(77,⟨jU,0,[5,5],2,false,true,false,[]⟩),(81,⟨(.list (.int .i64)),3,[],8,false,false,false,[]⟩),(82,⟨(.list eA),95,[],32,false,false,false,[]⟩),(83,⟨(.list dx),41,[],112,false,false,false,[]⟩),(85,⟨er,0,[64,55,81,82,83],120,false,false,false,[]⟩),(87,⟨hZ,0,[4,4,3,85],136,false,false,false,[]⟩),(89,⟨(.int .i16),0,[],2,false,false,false,[]⟩),(90,⟨(.pair (.int .i16) (.pair (.int .i16) (.pair (.int .i16) .unit))),0,[89,89,89],6,false,true,false,[]⟩),(93,⟨iQ,0,[3,3],16,true,false,false,[]⟩),(95,⟨eA,0,[93,93],32,true,false,false,[]⟩),(100,⟨.opq,0,[],8,false,true,false,[]⟩),(108,⟨iQ,0,[3,3],16,true,false,false,[]⟩),(111,⟨(.list (.list .str)),55,[],24,false,false,false,[]⟩),(112,⟨(.list (.list (.list .str))),111,[],24,false,false,false,[]⟩),(114,⟨fK,0,[32,3],32,false,false,false,[]⟩),(127,⟨.opq,0,[],8,false,true,false,[]⟩),(132,⟨.opq,0,[],8,false,true,false,[]⟩),(141,⟨.opq,0,[],8,false,false,false,[]⟩),(143,⟨fK,0,[32,43],32,false,false,false,[]⟩),(144,⟨.opq,0,[],8,false,true,false,[]⟩),(145,⟨.opq,0,[],8,false,true,false,[]⟩),(149,⟨kC,0,[32,3,43],40,false,false,false,[]⟩),(156,⟨.opq,0,[],8,false,true,false,[]⟩),(158,⟨.opq,0,[],8,false,true,false,[]⟩),(159,⟨.opq,0,[],8,false,true,false,[]⟩),(160,⟨.opq,0,[],8,false,true,false,[]⟩),(164,⟨aaR,0,[108],16,true,false,false,[]⟩),(168,⟨um,0,[5,5,5],3,false,true,false,[]⟩),(169,⟨(.list (.int .u8)),5,[],1,false,false,false,[]⟩),(171,⟨.opq,0,[],16,false,false,true,[]⟩),(176,⟨.opq,0,[],8,false,false,false,[]⟩),(177,⟨(.list (.list dx)),83,[],24,false,false,false,[]⟩),(183,⟨.str,0,[],16,false,false,false,[]⟩),(190,⟨jW,0,[4,4,58,9,4,3],80,true,false,false,[]⟩),(194,⟨(.list .bool),4,[],1,false,false,false,[]⟩),(195,⟨.opq,0,[],8,false,true,false,[]⟩),(204,⟨iQ,0,[3,3],16,true,false,false,[]⟩),(208,⟨.opq,0,[],8,false,false,false,[]⟩),(210,⟨dx,0,[3,9,9,39,9,9,3],112,true,false,false,[("downspout/msg.apply",319),("downspout/msg.bare",320),("downspout/msg.reads",321),("downspout/msg.valid",322),("downspout/msg.writes",324)]⟩),(211,⟨dx,0,[3,9,9,39,9,9,3],112,true,false,false,[("downspout/msg.apply",332),("downspout/msg.bare",333),("downspout/msg.reads",334),("downspout/msg.valid",335),("downspout/msg.writes",337)]⟩),(212,⟨dx,0,[3,9,9,39,9,9,3],112,true,false,false,[("downspout/msg.apply",343),("downspout/msg.bare",344),("downspout/msg.reads",345),("downspout/msg.valid",346),("downspout/msg.writes",348)]⟩),(213,⟨dx,0,[3,9,9,39,9,9,3],112,true,false,false,[("downspout/msg.apply",350),("downspout/msg.bare",351),("downspout/msg.reads",352),("downspout/msg.valid",353),("downspout/msg.writes",355)]⟩),(214,⟨dx,0,[3,9,9,39,9,9,3],112,true,false,false,[("downspout/msg.apply",356),("downspout/msg.bare",361),("downspout/msg.reads",362),("downspout/msg.valid",363),("downspout/msg.writes",365)]⟩),(215,⟨dx,0,[3,9,9,39,9,9,3],112,true,false,false,[("downspout/msg.apply",366),("downspout/msg.bare",367),("downspout/msg.reads",368),("downspout/msg.valid",369),("downspout/msg.writes",371)]⟩),(216,⟨(.list .str),183,[],16,false,false,false,[]⟩),(218,⟨.opq,0,[],8,false,true,false,[]⟩),(223,⟨.opq,0,[],8,false,true,false,[]⟩),(224,⟨.opq,0,[],8,false,true,false,[]⟩),(226,⟨.opq,0,[],8,false,true,false,[]⟩),(227,⟨(.pair .opq (.pair .opq (.pair .opq (.pair .opq (.pair .opq (.pair .opq (.pair .opq .unit))))))),0,[226,226,226,226,226,226,226],56,false,true,false,[]⟩),(228,⟨.opq,0,[],8,false,false,false,[]⟩),(231,⟨ao4,0,[9,4,4,9,4,3],56,true,false,false,[]⟩),(241,⟨.opq,0,[],8,false,false,false,[]⟩),(242,⟨.opq,0,[],8,false,true,false,[]⟩),(243,⟨.opq,0,[],8,false,true,false,[]⟩),(245,⟨hr,0,[9,3,3,9],48,true,false,false,[]⟩),(255,⟨.opq,0,[],8,false,true,false,[]⟩),(256,⟨.opq,0,[],8,false,true,false,[]⟩),(257,⟨(.int .u64),0,[],8,false,false,false,[]⟩),(260,⟨.opq,0,[],8,false,true,false,[]⟩),(264,⟨(.list iQ),93,[],16,false,false,false,[]⟩),(265,⟨.opq,0,[],8,false,false,false,[]⟩),(267,⟨(.pair .str .unit),0,[9],16,true,false,false,[]⟩),(269,⟨Ji,0,[267,245],64,true,false,false,[]⟩),(276,⟨.opq,0,[],8,false,true,false,[]⟩),(286,⟨.opq,0,[],8,false,false,false,[]⟩),(291,⟨.opq,0,[],8,false,true,false,[]⟩),(294,⟨(.int .i64),0,[],8,false,false,false,[]⟩),(301,⟨(.int .u32),0,[],4,false,false,false,[]⟩),(303,⟨(.int .u64),0,[],8,false,false,false,[]⟩),(313,⟨.opq,0,[],8,false,false,false,[]⟩),(315,⟨(.int .u64),0,[],8,false,false,false,[]⟩),(319,⟨.opq,0,[],8,false,false,false,[]⟩),(326,⟨.opq,0,[],8,false,false,false,[]⟩),(333,⟨jU,0,[5,5],2,true,false,false,[]⟩),(334,⟨(.pair jU (.pair jU (.pair jU (.pair jU (.pair jU (.pair jU (.pair jU (.pair jU (.pair jU (.pair jU (.pair jU (.pair jU (.pair jU (.pair jU (.pair jU (.pair jU .unit)))))))))))))))),0,[333,333,333,333,333,333,333,333,333,333,333,333,333,333,333,333],32,false,true,false,[]⟩),(357,⟨(.list (.list bs)),64,[],24,false,false,false,[]⟩)],UK [(296,0),(287,0),(286,0),(235,0),(263,0),(251,0),(330,0),(185,0),(181,0),(71,0),(115,0),(329,0),(219,0),(116,0),(283,0),(267,0),(266,0),(265,0),(264,0),(262,0),(261,0),(260,0),(331,0),(233,0),(342,0),(170,0),(327,0),(113,0),(68,0),(328,0),(328,1),(327,0),(327,2),(118,0)]⟩
noncomputable instance aye:Env:=⟨λY=>bif Nat.beq Y 1002700 then some (kj Tryz.f27 0) else bif Nat.beq Y 1013600 then some (kj Tryz.f136 0) else bif Nat.beq Y 1016800 then some (kj Tryz.f168 0) else bif Nat.beq Y 1012800 then some (kj Tryz.f128 0) else none,λg=>bif Nat.beq g 0 then [none,some 374,some 376,some 377,some 378,some 379,some 380] else []⟩
theorem ev:cQ bg hh:=aqO (by kernel_rfl)
theorem eK:bg.follows .mixedOrders=true:=by kernel_rfl
def n1 (l:List aV):bk:=l4 hh (hL l) (λk st=>.fail) 0
abbrev a6 (cM:aV):Prop:=qQ bg cM
theorem pJ {F:bk} {f:Nat} {S Z:Shape} {g:S.ty.den->N Z.ty.den} {fn:Func} {m:List (Nat×Code)} (c1:ca bg F.Γ) (aL:bg.funcs[f]? =some fn) (dO:oP bg F fn.ntmps m) (aw:F.cx=hh:=by kernel_rfl) (J:fn.body=some (bX fn):=by kernel_rfl) (cy:nn fn S Z=true:=by kernel_rfl) (iU:et (bX fn) 0=m:=by kernel_rfl) (cX:eT (bX fn)=false:=by kernel_rfl) (fb:F.m=S.objs.length:=by kernel_rfl) (bu: ∀d,(mM F fn S Z d).val=g d:=by intro d;kernel_rfl):cF bg ⟨f,S,Z,g⟩:=
  tO (F:=F) (aw▸ev) c1 eK aL J cy iU dO (eN _ cX) fb bu
theorem cz {F:bk} {f:Nat} {S Z:Shape} {g:S.ty.den->N Z.ty.den} {fn:Func} {m:List (Nat×Code)} (c1:ca bg F.Γ) (aL:bg.funcs[f]? =some fn) (dO:oP bg F fn.ntmps m) (aw:F.cx=hh:=by kernel_rfl) (J:fn.body=some (bX fn):=by kernel_rfl) (cy:nn fn S Z=true:=by kernel_rfl) (iU:et (bX fn) 0=m:=by kernel_rfl) (cX:eT (bX fn)=false:=by kernel_rfl) (fb:F.m=S.objs.length:=by kernel_rfl) (ai:jo f=false:=by kernel_rfl) (bu: ∀d,(mM F fn S Z d).val=g d:=by intro d;kernel_rfl):qQ bg ⟨f,S,Z,g⟩:=
  (pJ c1 aL dO aw J cy iU cX fb bu).x ai
theorem cT {F:bk} {nt:Nat} {ar:bL} {c:Code} {k:Nat} {b:ar.S.ty.den->N (ar.S.ty.den⊕ar.Out)} {m:List (Nat×Code)} (c1:ca bg F.Γ) (dO:oP bg F nt m) (aw:F.cx=hh:=by kernel_rfl) (nG:F.Λ k=ar.go (λd=>b4 b d) F.m:=by kernel_rfl) (iU:et c k=m:=by kernel_rfl) (lK:i8 nt c=true:=by kernel_rfl) (cX:eT c=false:=by kernel_rfl) (J: ∀d,(ar.body F c k d).val=b d:=by intro d;kernel_rfl):hl bg F nt k c:=
  tP (F:=F) (f:=λd=>b4 b d) (aw▸ev) c1 eK (λ_=>rfl) nG iU dO lK (eN _ cX) J
theorem cb {l:List aV} {f:Nat} {S Z:Shape} {g:S.ty.den->N Z.ty.den} {fn:Func} (aL:bg.funcs[f]? =some fn) (ab:O6 bg l) (J:fn.body=some (bX fn):=by kernel_rfl) (cy:nn fn S Z=true:=by kernel_rfl) (iU:et (bX fn) 0=[]:=by kernel_rfl) (cX:eT (bX fn)=false:=by kernel_rfl) (fb:0=S.objs.length:=by kernel_rfl) (ai:jo f=false:=by kernel_rfl) (bu: ∀d,(mM (n1 l) fn S Z d).val=g d:=by intro d;kernel_rfl):qQ bg ⟨f,S,Z,g⟩:=
  cz (F:=n1 l) (m:=[]) (bT ab) aL ag rfl J cy iU cX fb ai bu
abbrev cL (F:bk) (fn:Func) (k i:Nat):Prop:=hl bg F fn.ntmps k (hy (bX fn) i)
def dw (fn:Func) (ks:fh):List (Nat×Code):=ks.zipIdx.map λq=>(q.1,hy (bX fn) q.2)
def UQ:List (Nat×(bz->DT (ed×bz)))->Nat->bz->DT (ed×bz)
  |[],_,_=>.fail
  |q::l,k,st=>bif Nat.beq k q.1 then q.2 st else UQ l k st
def cp (l:List aV) (g:List (Nat×(bz->DT (ed×bz)))) (m:Nat):bk:=l4 hh (hL l) (UQ g) m
def dV (S:Shape) (k:Nat) (X:Shape):bL:=⟨S,.exit k,X,.exit (80000000+k),⟨[],[]⟩⟩
def Mk:aV:=⟨162,ju,ez,rF⟩
theorem Yw:a6 Mk:=cb (l:=[]) Tryz.func162 ag
def K9:aV:=⟨120,oT,ez,oD⟩
theorem XS:a6 K9:=cb (l:=[]) Tryz.func120 ag
def Yb:aV:=⟨163,⟨[],[]⟩,oT,NQ⟩
theorem aoe:a6 Yb:=cb (l:=[]) Tryz.func163 ag
def Ya:aV:=⟨121,zF,oT,Ai⟩
theorem aod:a6 Ya:=cb (l:=[Mk,K9,Yb]) Tryz.func121 ⟨Yw,XS,aoe,ag⟩
def Vw:bL:=dV ⟨[(1,.dat (.list .str)),(2,.ptr 0 ac 0 []),(5,.own ac 1),(6,cW),(7,aN)],zE⟩ 0 ⟨[(2,.ptr 0 ac 0 []),(5,.own ac 1),(6,cW)],zE⟩
def WC:aV:=⟨119,⟨[(0,.dat ac),(1,.dat (.list .str))],[]⟩,⟨jI,cv⟩,za⟩
def Lk:bk:=cp [Ya] [(0,Vw.go Lv 0)] 0
theorem aig:ca bg (Lk).Γ:=bT ⟨aod,ag⟩
theorem amS:cL Lk Tryz.f119 0 0:=cT (ar:=Vw) (b:=Dl) (m:=[]) aig ag
theorem anV:a6 WC:=cz (F:=Lk) (fn:=Tryz.f119) (m:=dw Tryz.f119 [0]) aig Tryz.func119 ⟨amS,ag⟩
def WK:aV:=⟨77,Kx,⟨jI,cv⟩,El⟩
theorem anu:a6 WK:=cb (l:=[WC]) Tryz.func77 ⟨anV,ag⟩
def MO:aV:=⟨96,⟨[(0,.dat ac),(1,cW)],[]⟩,ez,At⟩
theorem ZI:a6 MO:=cb (l:=[]) Tryz.func96 ag
def Vy:bL:=dV ⟨[(0,.dat (.list bs)),(3,.ptr 0 ac 0 []),(5,.own bs 1),(6,aN)],[.box 39 ac (.dat ac),.arr 58 bs false]⟩ 0 ⟨[(5,.own bs 0)],n2⟩
def WE:aV:=⟨37,Ey,kx,E9⟩
def Lm:bk:=cp [MO] [(0,Vy.go Lw 0)] 0
theorem XU:ca bg (Lm).Γ:=bT ⟨ZI,ag⟩
theorem amV:cL Lm Tryz.f37 0 0:=cT (ar:=Vy) (b:=Dm) (m:=[]) XU ag
theorem anY:a6 WE:=cz (F:=Lm) (fn:=Tryz.f37) (m:=dw Tryz.f37 [0]) XU Tryz.func37 ⟨amV,ag⟩
def Dx:aV:=⟨118,r1,ez,wi⟩
theorem JR:a6 Dx:=cb (l:=[]) Tryz.func118 ag
def Th:aV:=⟨146,⟨[(0,.dat dC)],[]⟩,⟨[(0,.agg [(.own hZ 0)])],zM⟩,DU⟩
theorem W7:a6 Th:=cb (l:=[]) Tryz.func146 ag
def Xy:bL:=⟨⟨[(2,.ptr 0 dC 0 []),(3,.ptr 1 er 0 []),(4,.ptr 2 kC 0 []),(5,aN)],Eu⟩,.ret,⟨[(4,.ptr 0 kC 0 [])],[.box 149 kC (.agg [(.dat dC),aN,aN])]⟩,(.exit 0),⟨[(2,.ptr 0 dC 0 []),(3,.ptr 1 er 0 []),(4,.ptr 2 kC 0 [])],Eu⟩⟩
def Xz:bL:=dV ⟨Ua,Eu⟩ 2 ⟨Ua,Eu⟩
def XA:bL:=dV ⟨[(3,.ptr 0 er 0 []),(4,.ptr 1 kC 0 []),(6,aN),(7,.ptr 2 dC 0 []),(8,aN)],[.box 85 er (.dat er),.box 149 kC (.agg [oU,aN,aN]),.box 32 dC (.agg [(.own hZ 3)]),.arr 87 hZ false]⟩ 4 ⟨[(4,.ptr 0 kC 0 []),(6,aN),(7,.ptr 1 dC 0 [])],[.box 149 kC (.agg [oU,aN,aN]),.box 32 dC (.agg [(.own hZ 2)]),.arr 87 hZ false]⟩
def MQ:aV:=⟨88,⟨[(0,.dat dC),(1,.dat er)],[]⟩,⟨[(0,.dat kC)],[]⟩,tR⟩
def DQ:bk:=cp [Dx,Th] [(0,Xy.go MY 0),(2,Xz.go MZ 0),(4,XA.go M0 0)] 0
theorem J1:ca bg (DQ).Γ:=bT ⟨JR,W7,ag⟩
theorem aoq:cL DQ Tryz.f88 0 0:=cT (ar:=Xy) (b:=DZ) (m:=[]) J1 ag
theorem aor:cL DQ Tryz.f88 2 1:=cT (ar:=Xz) (b:=D0) (m:=[]) J1 ag
theorem aos:cL DQ Tryz.f88 4 2:=cT (ar:=XA) (b:=D1) (m:=[]) J1 ag
theorem ZM:a6 MQ:=cz (F:=DQ) (fn:=Tryz.f88) (m:=dw Tryz.f88 [0,2,4]) J1 Tryz.func88 ⟨aoq,aor,aos,ag⟩
def Yg:aV:=⟨157,⟨[(0,.dat eA),(1,.dat eA)],[]⟩,wB,Ak⟩
theorem aon:a6 Yg:=cb (l:=[]) Tryz.func157 ag
def WB:aV:=⟨245,⟨[(0,cW),(1,aN)],[]⟩,EH,aac⟩
theorem anR:a6 WB:=cb (l:=[]) Tryz.func245 ag
def V4:bL:=dV ⟨[(0,cW),(4,.own .str 0),(5,cW),(6,aN)],ue⟩ 0 ⟨[(4,.own .str 0),(5,cW)],ue⟩
def WA:aV:=⟨247,gY,⟨[(0,.own .str 0),(1,du)],ue⟩,aab⟩
def Lh:bk:=cp [] [(0,V4.go Xg 0)] 0
theorem Xf:ca bg (Lh).Γ:=bT ag
theorem amN:cL Lh Tryz.f247 0 0:=cT (ar:=V4) (b:=Xe) (m:=[]) Xf ag
theorem anQ:a6 WA:=cz (F:=Lh) (fn:=Tryz.f247) (m:=dw Tryz.f247 [0]) Xf Tryz.func247 ⟨amN,ag⟩
def Wp:bL:=⟨⟨[(0,cW),(3,aN)],[]⟩,.ret,r0,(.exit 0),⟨[],[]⟩⟩
def Mj:aV:=⟨248,gY,ez,NP⟩
def LN:bk:=cp [] [(0,Wp.go Zc 0)] 0
theorem Zb:ca bg (LN).Γ:=bT ag
theorem anP:cL LN Tryz.f248 0 0:=cT (ar:=Wp) (b:=Za) (m:=[]) Zb ag
theorem Yv:a6 Mj:=cz (F:=LN) (fn:=Tryz.f248) (m:=dw Tryz.f248 [0]) Zb Tryz.func248 ⟨anP,ag⟩
def Vv:bL:=⟨⟨[(3,.own .str 0),(4,du),(5,aN)],ue⟩,.ret,r0,(.exit 0),zL⟩
def K8:aV:=⟨228,gY,ez,Ej⟩
def Lj:bk:=cp [WA,Mj] [(0,Vv.go Xn 0)] 0
theorem Xm:ca bg (Lj).Γ:=bT ⟨anQ,Yv,ag⟩
theorem amP:cL Lj Tryz.f228 0 0:=cT (ar:=Vv) (b:=Xl) (m:=[]) Xm ag
theorem XO:a6 K8:=cz (F:=Lj) (fn:=Tryz.f228) (m:=dw Tryz.f228 [0]) Xm Tryz.func228 ⟨amP,ag⟩
def Wo:bL:=dV ⟨[(0,aN),(3,cW),(4,aN)],[]⟩ 0 ⟨[(3,cW)],[]⟩
def X9:aV:=⟨249,iE,gY,aaY⟩
def LM:bk:=cp [] [(0,Wo.go Y9 0)] 0
theorem Y7:ca bg (LM).Γ:=bT ag
theorem arm:cL LM Tryz.f249 0 0:=cT (ar:=Wo) (b:=Y6) (m:=[]) Y7 ag
theorem aoc:a6 X9:=cz (F:=LM) (fn:=Tryz.f249) (m:=dw Tryz.f249 [0]) Y7 Tryz.func249 ⟨arm,ag⟩
def U8:bL:=dV ⟨[(0,cW),(3,aN),(4,aN)],[]⟩ 0 ⟨[(0,cW),(3,aN)],[]⟩
def Tf:aV:=⟨229,gY,ez,JW⟩
def Tk:bk:=cp [X9] [(0,U8.go WZ 0)] 0
theorem WY:ca bg (Tk).Γ:=bT ⟨aoc,ag⟩
theorem al2:cL Tk Tryz.f229 0 0:=cT (ar:=U8) (b:=WX) (m:=[]) WY ag
theorem W0:a6 Tf:=cz (F:=Tk) (fn:=Tryz.f229) (m:=dw Tryz.f229 [0]) WY Tryz.func229 ⟨al2,ag⟩
def sy:bL:=⟨⟨[(1,.ptr 0 hr 0 []),(32,du)],wC⟩,.nrm,⟨[(1,.ptr 0 hr 0 [])],wC⟩,.ret,r0⟩
def gc:bL:=⟨⟨[(1,.ptr 0 hr 0 [])],wC⟩,.ret,r0,(.exit 90000010),⟨[],[]⟩⟩
def sJ:bL:=⟨⟨[(1,.ptr 0 hr 0 [])],wC⟩,.ret,r0,(.exit 90000003),⟨[],[]⟩⟩
def vL:aV:=⟨259,EH,ez,aad⟩
def oh:bk:=n1 [Mj,K8,Tf]
def s4:lA:=[(100002,sy.go lB 0),(10,gc.go nl 0),(3,sJ.go lC 0)]
theorem akG (d:sy.S.ty.den): @Eq (N sy.Out) ((gD oh s4 (eR (bX Tryz.f259) 100002) 0 (sy.S.enc d)).bind λ(e,st)=>sy.out (oh).m e st).val (lB d):=by kernel_rfl
theorem alH (d:gc.S.ty.den): @Eq (N gc.Out) ((gD oh s4 (eR (bX Tryz.f259) 10) 0 (gc.S.enc d)).bind λ(e,st)=>gc.out (oh).m e st).val (nl d):=by kernel_rfl
theorem alL (d:sJ.S.ty.den): @Eq (N sJ.Out) ((gD oh s4 (eR (bX Tryz.f259) 3) 0 (sJ.S.enc d)).bind λ(e,st)=>sJ.out (oh).m e st).val (lC d):=by kernel_rfl
theorem anS (d:(vL).S.ty.den):(so oh s4 Tryz.f259 (vL).S (vL).Z d).val=(vL).g d:=by kernel_rfl
theorem JB:ca bg (oh).Γ:=bT ⟨Yv,XO,W0,ag⟩
theorem akH:jG bg oh Tryz.f259.ntmps (sy.go lB 0) (eR (bX Tryz.f259) 100002):=
  lQ ev JB eK (ar:=sy) (k:=0) (f:=lB) (C:=s4) (l:=[]) (m:=[]) (by kernel_rfl) ag (by kernel_rfl) ag (by kernel_rfl) (eN _ (by kernel_rfl)) akG
theorem alI:jG bg oh Tryz.f259.ntmps (gc.go nl 0) (eR (bX Tryz.f259) 10):=
  lQ ev JB eK (ar:=gc) (k:=0) (f:=nl) (C:=s4) (l:=[]) (m:=[]) (by kernel_rfl) ag (by kernel_rfl) ag (by kernel_rfl) (eN _ (by kernel_rfl)) alH
theorem alM:jG bg oh Tryz.f259.ntmps (sJ.go lC 0) (eR (bX Tryz.f259) 3):=
  lQ ev JB eK (ar:=sJ) (k:=0) (f:=lC) (C:=s4) (l:=[]) (m:=[(gc.go nl 0,eR (bX Tryz.f259) 10)]) (by kernel_rfl) ag (by kernel_rfl) ⟨alI,ag⟩ (by kernel_rfl) (eN _ (by kernel_rfl)) alL
theorem anT:cF bg vL:=
  Aa (C:=s4) (F:=oh) ev JB eK (fn:=Tryz.f259) (l:=[]) (m:=[(sy.go lB 0,eR (bX Tryz.f259) 100002),(sJ.go lC 0,eR (bX Tryz.f259) 3)]) Tryz.func259 (by kernel_rfl) (by kernel_rfl) (by kernel_rfl) ag (by kernel_rfl) ⟨akH,alM,ag⟩ (eN _ (by kernel_rfl)) (by kernel_rfl) anS
theorem anU:a6 vL:=(anT).x (by kernel_rfl)
def Zi:aV:=⟨246,EH,⟨[(0,cW),(1,aN)],[]⟩,aa9⟩
theorem api:a6 Zi:=cb (l:=[vL]) Tryz.func246 ⟨anU,ag⟩
def Vu:bL:=⟨⟨[(0,cW),(2,.ptr 0 hr 0 []),(4,aN)],[.box 245 hr Ev]⟩,.ret,⟨[(2,.ptr 0 hr 0 []),(3,aN)],wC⟩,(.exit 0),⟨[(2,.ptr 0 hr 0 [])],[.box 245 hr Ev]⟩⟩
def TA:aV:=⟨227,gY,⟨[(0,.dat hr),(1,aN)],[]⟩,tq⟩
def Li:bk:=cp [WB,Zi] [(0,Vu.go Xj 0)] 0
theorem Xi:ca bg (Li).Γ:=bT ⟨anR,api,ag⟩
theorem amO:cL Li Tryz.f227 0 0:=cT (ar:=Vu) (b:=Xh) (m:=[]) Xi ag
theorem Xk:a6 TA:=cz (F:=Li) (fn:=Tryz.f227) (m:=dw Tryz.f227 [0]) Xi Tryz.func227 ⟨amO,ag⟩
def VT:aV:=⟨199,gY,ez,md⟩
theorem al4:a6 VT:=cb (l:=[TA]) Tryz.func199 ⟨Xk,ag⟩
def Wi:aV:=⟨200,⟨[(0,.dat iQ),(1,aN)],[]⟩,uj,ry⟩
theorem amX:a6 Wi:=cb (l:=[]) Tryz.func200 ag
def WL:aV:=⟨201,⟨[(0,.dat iQ),(1,aN)],[]⟩,uj,ts⟩
theorem anv:a6 WL:=cb (l:=[]) Tryz.func201 ag
def WI:aV:=⟨202,ju,ez,tD⟩
theorem ans:a6 WI:=cb (l:=[K8,Tf]) Tryz.func202 ⟨XO,W0,ag⟩
def Wh:aV:=⟨158,⟨[(0,.dat eA),(1,.dat dx)],[]⟩,wB,k5⟩
theorem amW:a6 Wh:=cb (l:=[VT,Wi,WL,WI]) Tryz.func158 ⟨al4,amX,anv,ans,ag⟩
def Wg:aV:=⟨198,EI,uj,yW⟩
theorem amT:a6 Wg:=cb (l:=[TA]) Tryz.func198 ⟨Xk,ag⟩
def Vx:bL:=dV ⟨[(0,.dat (.list bs)),(2,.ptr 0 iQ 0 []),(3,.ptr 1 iQ 0 []),(4,aN)],Ex⟩ 0 ⟨[(2,.ptr 0 iQ 0 []),(3,.ptr 1 iQ 0 [])],Ex⟩
def WD:aV:=⟨156,uh,uj,zb⟩
def Ll:bk:=cp [Wg] [(0,Vx.go JC 0)] 0
theorem XT:ca bg (Ll).Γ:=bT ⟨amT,ag⟩
theorem amU:cL Ll Tryz.f156 0 0:=cT (ar:=Vx) (b:=s6) (m:=[]) XT ag
theorem anW:a6 WD:=cz (F:=Ll) (fn:=Tryz.f156) (m:=dw Tryz.f156 [0]) XT Tryz.func156 ⟨amU,ag⟩
def WJ:aV:=⟨155,uj,wB,Fa⟩
theorem ant:a6 WJ:=cb (l:=[]) Tryz.func155 ag
def Xw:bL:=dV ⟨[(1,.ptr 0 er 0 []),(2,.ptr 1 eA 0 []),(3,.ptr 2 eA 0 []),(4,aN)],Kn⟩ 0 ⟨[(1,.ptr 0 er 0 []),(2,.ptr 1 eA 0 []),(3,.ptr 2 eA 0 [])],Kn⟩
def Xx:bL:=dV ⟨[(1,.ptr 0 er 0 []),(2,.ptr 1 eA 0 []),(3,.ptr 2 eA 0 []),(5,aN)],Kn⟩ 2 ⟨[(2,.ptr 0 eA 0 []),(3,.ptr 1 eA 0 [])],[.box 95 eA mE,.box 95 eA (.dat eA)]⟩
def Zl:aV:=⟨105,⟨[(0,.dat er)],[]⟩,wB,m4⟩
def Ka:bk:=cp [Yg,Wh,WD,WJ] [(0,Xw.go JZ 0),(2,Xx.go J0 0)] 0
theorem MW:ca bg (Ka).Γ:=bT ⟨aon,amW,anW,ant,ag⟩
theorem aoo:cL Ka Tryz.f105 0 0:=cT (ar:=Xw) (b:=tg) (m:=[]) MW ag
theorem aop:cL Ka Tryz.f105 2 1:=cT (ar:=Xx) (b:=th) (m:=[]) MW ag
theorem apl:a6 Zl:=cz (F:=Ka) (fn:=Tryz.f105) (m:=dw Tryz.f105 [0,2]) MW Tryz.func105 ⟨aoo,aop,ag⟩
def VU:aV:=⟨118,⟨[(0,.agg [(.own hZ 0)]),(1,aN)],zM⟩,⟨[(0,du)],zM⟩,JS⟩
def amc:bk:=cp [] [] 1
theorem al5:a6 VU:=cz (F:=amc) (fn:=Tryz.f118) (m:=[]) (bT ag) Tryz.func118 ag
def Wu:bL:=dV ⟨[(4,.ptr 0 dC 0 []),(6,.ptr 1 dC 0 []),(7,.dat (.list (.int .i64)))],zJ⟩ 0 ⟨[(4,.ptr 0 dC 0 []),(6,.ptr 1 dC 0 [])],zJ⟩
def Mn:aV:=⟨89,r1,r1,zp⟩
def LS:bk:=cp [Dx,Th,VU] [(0,Wu.go L9 0)] 0
theorem YE:ca bg (LS).Γ:=bT ⟨JR,W7,al5,ag⟩
theorem anw:cL LS Tryz.f89 0 0:=cT (ar:=Wu) (b:=DI) (m:=[]) YE ag
theorem YF:a6 Mn:=cz (F:=LS) (fn:=Tryz.f89) (m:=dw Tryz.f89 [0]) YE Tryz.func89 ⟨anw,ag⟩
def J7:aV:=⟨98,r1,ez,rM⟩
theorem MJ:a6 J7:=cb (l:=[]) Tryz.func98 ag
def tn:aV:=⟨59,r1,⟨[(0,.dat er),(1,aN)],[]⟩,kr⟩
theorem y9:a6 tn:=cb (l:=[J7]) Tryz.func59 ⟨MJ,ag⟩
end D
open Go Go.X Go.Proofs D
namespace D
def ag2:aV:=⟨230,gY,ez,i7⟩
theorem akJ:a6 ag2:=cb (l:=[]) Tryz.func230 ag
def agH:aV:=⟨205,ju,iE,CX⟩
theorem ako:a6 agH:=cb (l:=[ag2]) Tryz.func205 ⟨akJ,ag⟩
def IA:aV:=⟨161,ju,iE,pZ⟩
theorem SF:a6 IA:=cb (l:=[agH]) Tryz.func161 ⟨ako,ag⟩
def afX:bL:=dV ⟨[(0,.dat (.list .str)),(1,.fn 161 [] []),(5,cW),(6,aN)],[]⟩ 0 ⟨[(5,cW)],[]⟩
def afS:aV:=⟨160,⟨[(0,.dat (.list .str)),(1,.fn 161 [] [])],[]⟩,gY,R1⟩
def RS:bk:=cp [IA] [(0,afX.go ip 0)] 0
theorem agd:ca bg (RS).Γ:=bT ⟨SF,ag⟩
theorem aw3:cL RS Tryz.f160 0 0:=cT (ar:=afX) (b:=xB) (m:=[]) agd ag
theorem axs:a6 afS:=cz (F:=RS) (fn:=Tryz.f160) (m:=dw Tryz.f160 [0]) agd Tryz.func160 ⟨aw3,ag⟩
def Yl:aV:=⟨117,⟨[(0,.dat (.list .str))],[]⟩,gY,FE⟩
theorem aoZ:a6 Yl:=cb (l:=[afS]) Tryz.func117 ⟨axs,ag⟩
def ru:aV:=⟨74,oT,ez,k8⟩
theorem te:a6 ru:=cb (l:=[]) Tryz.func74 ag
def DP:aV:=⟨75,zF,oT,tS⟩
theorem J4:a6 DP:=cb (l:=[Yl,ru]) Tryz.func75 ⟨aoZ,te,ag⟩
def Wx:bL:=dV ⟨[(2,.ptr 0 ac 0 []),(5,.own ac 1),(6,cW),(9,.dat (.list .str)),(10,aN),(11,aN)],zE⟩ 0 ⟨[(2,.ptr 0 ac 0 []),(5,.own ac 1),(6,cW)],zE⟩
def Yk:aV:=⟨114,⟨[(0,.dat ac),(1,.dat (.list .str))],[]⟩,⟨jI,cv⟩,rO⟩
def LU:bk:=cp [DP] [(0,Wx.go YL 0)] 0
theorem YK:ca bg (LU).Γ:=bT ⟨J4,ag⟩
theorem anF:cL LU Tryz.f114 0 0:=cT (ar:=Wx) (b:=YJ) (m:=[]) YK ag
theorem aoX:a6 Yk:=cz (F:=LU) (fn:=Tryz.f114) (m:=dw Tryz.f114 [0]) YK Tryz.func114 ⟨anF,ag⟩
def Mf:aV:=⟨67,Kx,⟨jI,cv⟩,Ac⟩
theorem YX:a6 Mf:=cb (l:=[Yk]) Tryz.func67 ⟨aoX,ag⟩
def D5:aV:=⟨216,gY,oT,qt⟩
theorem Ff:a6 D5:=cb (l:=[]) Tryz.func216 ag
def IY:aV:=⟨324,gr,⟨jI,cv⟩,K6⟩
theorem Vi:a6 IY:=cb (l:=[D5]) Tryz.func324 ⟨Ff,ag⟩
def IQ:aV:=⟨337,gr,⟨jI,cv⟩,K0⟩
theorem Vb:a6 IQ:=cb (l:=[D5]) Tryz.func337 ⟨Ff,ag⟩
def IK:aV:=⟨348,gr,⟨jI,cv⟩,Tp⟩
theorem UU:a6 IK:=cb (l:=[]) Tryz.func348 ag
def VB:bL:=dV TI 0 TI
def qd:aV:=⟨217,gY,oT,mr⟩
def Ln:bk:=cp [] [(0,VB.go X1 0)] 0
theorem X0:ca bg (Ln).Γ:=bT ag
theorem am6:cL Ln Tryz.f217 0 0:=cT (ar:=VB) (b:=XZ) (m:=[]) X0 ag
theorem rq:a6 qd:=cz (F:=Ln) (fn:=Tryz.f217) (m:=dw Tryz.f217 [0]) X0 Tryz.func217 ⟨am6,ag⟩
def IL:aV:=⟨355,gr,⟨jI,cv⟩,Tq⟩
theorem UW:a6 IL:=cb (l:=[qd]) Tryz.func355 ⟨rq,ag⟩
def Iy:aV:=⟨365,gr,⟨jI,cv⟩,S7⟩
theorem ahA:a6 Iy:=cb (l:=[qd]) Tryz.func365 ⟨rq,ag⟩
def Iz:aV:=⟨371,gr,⟨jI,cv⟩,S8⟩
theorem ahB:a6 Iz:=cb (l:=[]) Tryz.func371 ag
def X4:aV:=⟨72,gr,⟨jI,cv⟩,qi⟩
noncomputable def aoJ:bk:=l4 hh (E0 hh (hL [IY,IQ,IK,IL,Iy,Iz]) 110 Tryz.f110 (hL [IY,IQ,IK,IL,Iy,Iz])) (λk st=>.fail) 0
theorem an3:a6 X4:=cz (F:=aoJ) (fn:=Tryz.f72) (m:=[]) (Fm (by kernel_rfl) (FJ (F:=(l4 hh (hL [IY,IQ,IK,IL,Iy,Iz]) (λ_ _=>.fail) 0)) ev (bT ⟨Vi,Vb,UU,UW,ahA,ahB,ag⟩) eK Tryz.func110 (by kernel_rfl) (by kernel_rfl) (by kernel_rfl)) (bT ⟨Vi,Vb,UU,UW,ahA,ahB,ag⟩)) Tryz.func72 ag
def tl:aV:=⟨60,⟨[(0,.dat er)],[]⟩,ez,tT⟩
theorem yZ:a6 tl:=cb (l:=[]) Tryz.func60 ag
def RM:aV:=⟨231,ju,iE,R6⟩
set_option maxHeartbeats 1000000 in
theorem axg (a b:ByteArray) (w:World):Calls bg 231 #[.string a,.string b] w λe ao=>e=.returned (.int .i64 (Lib.compareBytes a.data.toList b.data.toList))/\ao=w:=by
  go_enter Tryz.func231,Tryz.ntmps231
  go_wp2
  rw[run_callFunc_extern Tryz.func250 (by kernel_rfl) (by kernel_rfl) (by kernel_rfl) (e:=Extern.BytealgCompare.compare) (by kernel_rfl),Lib.run_compareString]
  simp only[Result.andThen]
  rw[Oper.upon_value]
  go_wp2
  go_ret
  exact ⟨rfl,rfl⟩
theorem axy:cF bg RM:=ajV (g:=λa b=>Lib.compareBytes a b) Tryz.func231 (by kernel_rfl) axg
theorem axz:a6 RM:=axy.x (by kernel_rfl)
def U2:aV:=⟨208,ju,iE,Ty⟩
theorem alx:a6 U2:=cb (l:=[RM]) Tryz.func208 ⟨axz,ag⟩
def VW:aV:=⟨207,⟨[(0,.dat bs),(1,cW)],[]⟩,iE,ul⟩
theorem amx:a6 VW:=cb (l:=[U2]) Tryz.func207 ⟨alx,ag⟩
def adf:bL:=dV ⟨[(0,.dat (.list bs)),(1,cW),(2,.fn 207 [] []),(8,aN),(9,aN),(10,aN)],[]⟩ 0 ⟨[(0,.dat (.list bs)),(1,cW),(2,.fn 207 [] []),(8,aN),(9,aN)],[]⟩
def adb:aV:=⟨206,⟨[(0,.dat (.list bs)),(1,cW),(2,.fn 207 [] [])],[]⟩,⟨[(0,aN),(1,du)],[]⟩,GX⟩
def Pt:bk:=cp [VW] [(0,adf.go Pu 0)] 0
theorem ade:ca bg (Pt).Γ:=bT ⟨amx,ag⟩
theorem avp:cL Pt Tryz.f206 0 0:=cT (ar:=adf) (b:=GW) (m:=[]) ade ag
theorem avy:a6 adb:=cz (F:=Pt) (fn:=Tryz.f206) (m:=dw Tryz.f206 [0]) ade Tryz.func206 ⟨avp,ag⟩
def Jq:aV:=⟨164,Kw,⟨[(0,aN),(1,du)],[]⟩,wb⟩
theorem LH:a6 Jq:=cb (l:=[adb]) Tryz.func164 ⟨avy,ag⟩
def Mo:aV:=⟨127,Kw,⟨[(0,.dat bs),(1,du)],[]⟩,Fu⟩
theorem ao1:a6 Mo:=cb (l:=[Jq]) Tryz.func127 ⟨LH,ag⟩
def RX:aV:=⟨165,⟨[(0,.dat (.list dx))],[]⟩,⟨[(0,.fn 209 [] [(.ptr 0 (.list dx) 0 [])])],[.box 83 (.list dx) (.dat (.list dx))]⟩,BS⟩
theorem af8:a6 RX:=cb (l:=[]) Tryz.func165 ag
def vZ:aV:=⟨174,⟨[(0,.dat ac),(1,cW)],[]⟩,ez,pC⟩
theorem zc:a6 vZ:=cb (l:=[]) Tryz.func174 ag
def Ld:aV:=⟨375,⟨[(0,.ptr 0 jW 0 []),(1,aN)],[.box 190 jW r2]⟩,⟨[],[.box 190 jW r2]⟩,zd⟩
def amK:bk:=cp [] [] 1
theorem XI:a6 Ld:=cz (F:=amK) (fn:=Tryz.f375) (m:=[]) (bT ag) Tryz.func375 ag
def V2:aV:=⟨380,wI,wH,DN⟩
def ami:bk:=cp [vZ,Ld] [] 1
theorem amD:a6 V2:=cz (F:=ami) (fn:=Tryz.f380) (m:=[]) (bT ⟨zc,XI,ag⟩) Tryz.func380 ag
def RN:aV:=⟨270,ju,ez,bv⟩
theorem agb:a6 RN:=cb (l:=[]) Tryz.func270 ag
def aga:aV:=⟨253,ju,⟨[(0,cW),(1,du)],[]⟩,R7⟩
theorem axA:a6 aga:=cb (l:=[RN]) Tryz.func253 ⟨agb,ag⟩
def Sx:aV:=⟨240,ju,⟨[(0,cW),(1,du)],[]⟩,I3⟩
theorem ahg:a6 Sx:=cb (l:=[aga]) Tryz.func240 ⟨axA,ag⟩
end D
open Go Go.X Go.Proofs D
namespace D
def JG:aV:=⟨239,⟨[(0,cW),(1,cW),(2,cW)],[]⟩,⟨[(0,cW),(1,du)],[]⟩,tF⟩
theorem Me:a6 JG:=cb (l:=[Sx]) Tryz.func239 ⟨ahg,ag⟩
def Mp:aV:=⟨379,wI,wH,tJ⟩
def aoM:bk:=cp [JG] [] 1
theorem YM:a6 Mp:=cz (F:=aoM) (fn:=Tryz.f379) (m:=[]) (bT ⟨Me,ag⟩) Tryz.func379 ag
def Sy:aV:=⟨359,ju,ez,vy⟩
theorem ahh:a6 Sy:=cb (l:=[RN]) Tryz.func359 ⟨agb,ag⟩
def V1:aV:=⟨378,wI,wH,un⟩
def amh:bk:=cp [Mp,Sy] [] 1
theorem amC:a6 V1:=cz (F:=amh) (fn:=Tryz.f378) (m:=[]) (bT ⟨YM,ahh,ag⟩) Tryz.func378 ag
def V0:aV:=⟨377,wI,wH,DM⟩
def amg:bk:=cp [vZ] [] 1
theorem amB:a6 V0:=cz (F:=amg) (fn:=Tryz.f377) (m:=[]) (bT ⟨zc,ag⟩) Tryz.func377 ag
def VZ:aV:=⟨376,wI,wH,yS⟩
def amf:bk:=cp [] [] 1
theorem amA:a6 VZ:=cz (F:=amf) (fn:=Tryz.f376) (m:=[]) (bT ag) Tryz.func376 ag
def VY:aV:=⟨374,wI,wH,yR⟩
def ame:bk:=cp [Ld] [] 1
theorem amz:a6 VY:=cz (F:=ame) (fn:=Tryz.f374) (m:=[]) (bT ⟨XI,ag⟩) Tryz.func374 ag
def SJ:Shape:=⟨[(0,.yld 1012800 0),(1,aN),(2,.dat dx)],T3⟩
def SK:Shape:=⟨[(0,du)],T3⟩
def aht:aV:=⟨1012800,SJ,SK,o6⟩
def ahu:bk:=cp [V2,Mp,V1,V0,VZ,VY] [] 3
theorem ala (d:SJ.ty.den): @Eq (N SK.ty.den) (sf ahu gb 1012800 (kj Tryz.f128 0) SJ SK d).val (o6 d):=by kernel_rfl
theorem alb:a6 aht:=
  FB (F:=ahu) (c:=kj Tryz.f128 0) ev (bT ⟨amD,YM,amC,amB,amA,amz,ag⟩) eK (by kernel_rfl) (by kernel_rfl) (by kernel_rfl) (m:=[]) (by kernel_rfl) ag (by kernel_rfl) ala
def afk:bL:=⟨⟨[(0,.yld 1012800 0),(1,.ptr 1 (.list dx) 0 []),(3,aN)],zG⟩,.ret,⟨[],zG⟩,(.exit 0),⟨[],zG⟩⟩
def afT:aV:=⟨209,⟨[(0,.yld 1012800 0),(1,.ptr 1 (.list dx) 0 [])],zG⟩,⟨[],zG⟩,RD⟩
def Qj:bk:=cp [aht] [(0,afk.go P3 4)] 4
theorem afF:ca bg (Qj).Γ:=bT ⟨alb,ag⟩
theorem awA:cL Qj Tryz.f209 0 0:=cT (ar:=afk) (b:=Bx) (m:=[]) afF ag
theorem awM:a6 afT:=cz (F:=Qj) (fn:=Tryz.f209) (m:=dw Tryz.f209 [0]) afF Tryz.func209 ⟨awA,ag⟩
def Mw:Shape:=⟨[(0,cW),(1,.dat (.list dx))],[]⟩
def Mx:Shape:=⟨[(0,.dat jW)],[]⟩
def J9:aV:=⟨128,Mw,Mx,Ax⟩
def Zq:bk:={cx:=hh,Γ:=hL [RX,afT],Λ:=λk st=>.fail,keep:=λ_=>none,m:=0,rfs:=λk=>bif Nat.beq k 3 then some 1012800 else none,its:=[209]}
theorem apx (d:Mw.ty.den): @Eq (N Mx.ty.den) (mM Zq Tryz.f128 Mw Mx d).val (Ax d):=by kernel_rfl
theorem apy:cF bg J9:=
  tO (F:=Zq) ev (bT ⟨af8,awM,ag⟩) eK (fn:=Tryz.f128) (m:=[]) Tryz.func128 (by kernel_rfl) (by kernel_rfl) (by kernel_rfl) ag (AT (m:=[(3,kj Tryz.f128 0)]) (its:=[209]) (by kernel_rfl) ⟨A5 (Y:=1012800) (by kernel_rfl) (by kernel_rfl),ag⟩ (by kernel_rfl) ⟨⟨_,Tryz.func209,by kernel_rfl,by kernel_rfl⟩,ag⟩) (by kernel_rfl) apx
theorem apz:a6 J9:=(apy).x (by kernel_rfl)
def SH:aV:=⟨232,gY,ez,vz⟩
theorem ahz:a6 SH:=cb (l:=[]) Tryz.func232 ag
def ahq:aV:=⟨210,ju,ez,Jp⟩
theorem alr:a6 ahq:=cb (l:=[SH]) Tryz.func210 ⟨ahz,ag⟩
def agR:aV:=⟨211,gY,ez,IB⟩
theorem akI:a6 agR:=cb (l:=[]) Tryz.func211 ag
def aft:bL:=dV ⟨[(0,.dat (.list .str)),(1,cW),(6,aN),(7,aN),(8,aN)],[]⟩ 0 ⟨[(0,.dat (.list .str)),(1,cW),(6,aN),(7,aN)],[]⟩
def afI:aV:=⟨166,⟨[(0,.dat (.list .str)),(1,cW)],[]⟩,⟨[(0,aN),(1,du)],[]⟩,Hu⟩
def Qb:bk:=cp [ahq,agR] [(0,aft.go Qc 0)] 0
theorem afP:ca bg (Qb).Γ:=bT ⟨alr,akI,ag⟩
theorem awN:cL Qb Tryz.f166 0 0:=cT (ar:=aft) (b:=G8) (m:=[]) afP ag
theorem aw2:a6 afI:=cz (F:=Qb) (fn:=Tryz.f166) (m:=dw Tryz.f166 [0]) afP Tryz.func166 ⟨awN,ag⟩
def MR:aV:=⟨131,⟨[(0,cW),(1,.dat (.list .str))],[]⟩,iE,FT⟩
theorem apo:a6 MR:=cb (l:=[afI]) Tryz.func131 ⟨aw2,ag⟩
def Lc:aV:=⟨130,⟨[(0,.dat jW),(1,.dat bs),(2,du)],[]⟩,⟨[(0,.dat bs),(1,du)],[]⟩,Fj⟩
theorem aoC:a6 Lc:=cb (l:=[]) Tryz.func130 ag
def Yq:bL:=⟨⟨[(1,cW),(2,.ptr 0 fY 0 []),(4,.ptr 1 bs 0 []),(5,.ptr 2 .bool 0 []),(6,.ptr 3 (.int .i64) 0 []),(8,aN),(1000000000,.dfr 129 [(.ptr 3 (.int .i64) 0 [])] [(.ptr 1 bs 0 []),(.ptr 2 .bool 0 [])] jW)],[.box 36 fY (.dat fY),.box 58 bs (.agg [cW,cW,aN]),.box 4 .bool du,.box 3 (.int .i64) aN]⟩,.ret,TK,(.exit 80000000),⟨[],[]⟩⟩
def yL:bL:=⟨TK,.nrm,⟨[(4,.ptr 0 bs 0 []),(5,.ptr 1 .bool 0 []),(6,.ptr 2 (.int .i64) 0 []),(7,aN)],[.box 58 bs (.dat bs),.box 4 .bool du,.box 3 (.int .i64) aN]⟩,(.exit 80000000),⟨[],[]⟩⟩
def v8:Shape:=⟨[(0,.dat fY),(1,cW)],[]⟩
def wa:Shape:=⟨[(0,.dat bs),(1,du),(2,aN),(3,aN)],[]⟩
def Nk:aV:=⟨81,v8,wa,pF⟩
def D6:bk:={cx:=hh,Γ:=hL [tn,tl,Mo,J9,MR,Lc],Λ:=λk st=>bif Nat.beq k 0 then Yq.go Fk 0 st else bif Nat.beq k dE then yL.go Ee 0 st else .fail,keep:=λ_=>none,m:=0,dfr:=λk=>bif Nat.beq k 0 then some (129,[6],[4,5],jW) else none}
def Zs:bk:=l4 hh (hL [tn,tl,Mo,J9,MR,Lc]) (λ_ _=>.fail) 3
theorem aoE (d:yL.S.ty.den): @Eq (N (yL.S.ty.den⊕yL.Out)) (uF yL (D6).m Zs 129 Tryz.f129 d).val (wc d):=by kernel_rfl
theorem aqg (d:v8.ty.den): @Eq (N wa.ty.den) (GU D6 Tryz.f81 v8 wa d).val (pF d):=by kernel_rfl
theorem No:ca bg (D6).Γ:=bT ⟨y9,yZ,ao1,apz,apo,aoC,ag⟩
theorem ap3:cL D6 Tryz.f81 0 0:=cT (ar:=Yq) (b:=l9) (m:=[]) No ag
theorem aal:cF bg Nk:=
  aqz (F:=D6) (Fd:=Zs) (ar:=yL) (fd:=129) (hj:=Tryz.f129) (b:=wc) (g:=Ee) ev No eK (fn:=Tryz.f81) (m:=dw Tryz.f81 [0]) Tryz.func81 (by kernel_rfl) (by kernel_rfl) (by kernel_rfl) ⟨ap3,ag⟩ (λ_=>rfl) (by kernel_rfl) ev No Tryz.func129 (by kernel_rfl) (by kernel_rfl) (by kernel_rfl) (by kernel_rfl) aoE (by kernel_rfl) aqg
theorem aqh:a6 Nk:=(aal).x (by kernel_rfl)
def Wj:aV:=⟨147,⟨[(0,aN),(1,aN),(2,aN)],[]⟩,ez,J5⟩
theorem amG:a6 Wj:=cb (l:=[]) Tryz.func147 ag
def LJ:aV:=⟨90,⟨[(0,.dat rH)],[]⟩,ez,zr⟩
theorem YO:a6 LJ:=cb (l:=[Wj]) Tryz.func90 ⟨amG,ag⟩
def X8:aV:=⟨112,⟨[(0,.dat hZ)],[]⟩,ez,Fs⟩
theorem aoa:a6 X8:=cb (l:=[]) Tryz.func112 ag
def afm:bL:=⟨⟨[(0,.dat (.list hZ)),(1,.fn 112 [] []),(7,aN),(8,aN)],[]⟩,.ret,⟨[(4,aN)],[]⟩,(.exit 0),⟨[],[]⟩⟩
def li:aV:=⟨111,⟨[(0,.dat (.list hZ)),(1,.fn 112 [] [])],[]⟩,iE,BU⟩
def Ql:bk:=cp [X8] [(0,afm.go P8 0)] 0
theorem afH:ca bg (Ql).Γ:=bT ⟨aoa,ag⟩
theorem awV:cL Ql Tryz.f111 0 0:=cT (ar:=afm) (b:=xx) (m:=[]) afH ag
theorem awP:a6 li:=cz (F:=Ql) (fn:=Tryz.f111) (m:=dw Tryz.f111 [0]) afH Tryz.func111 ⟨awV,ag⟩
def Mi:aV:=⟨104,⟨[(0,.dat dC)],[]⟩,⟨[(0,.agg [(.own hZ 0)])],zM⟩,Ag⟩
theorem Y5:a6 Mi:=cb (l:=[]) Tryz.func104 ag
def Yo:bL:=⟨⟨[(2,.ptr 0 dC 0 []),(3,.ptr 1 er 0 []),(4,.ptr 2 dC 0 []),(14,.dat (.list (.int .i64))),(15,aN),(16,aN)],Ub⟩,.ret,⟨[(4,.ptr 0 dC 0 []),(5,aN),(6,aN)],[.box 32 dC (.dat dC)]⟩,(.exit 0),⟨[(2,.ptr 0 dC 0 []),(3,.ptr 1 er 0 []),(4,.ptr 2 dC 0 [])],Ub⟩⟩
def Yp:bL:=dV ⟨[(4,.ptr 0 dC 0 []),(9,aN),(10,.ptr 1 dC 0 []),(57,.dat (.list (.int .i64))),(58,aN),(59,aN)],zJ⟩ 2 ⟨[(4,.ptr 0 dC 0 []),(9,aN),(10,.ptr 1 dC 0 [])],zJ⟩
def M6:aV:=⟨63,⟨[(0,.dat dC),(1,.dat er)],[]⟩,⟨[(0,.dat dC),(1,aN),(2,aN)],[]⟩,qs⟩
def E4:bk:=cp [J7,li,Mi] [(0,Yo.go Nh 0),(2,Yp.go Ni 0)] 0
theorem Ng:ca bg (E4).Γ:=bT ⟨MJ,awP,Y5,ag⟩
theorem apd:cL E4 Tryz.f63 0 0:=cT (ar:=Yo) (b:=Eh) (m:=[]) Ng ag
theorem ape:cL E4 Tryz.f63 2 1:=cT (ar:=Yp) (b:=Ei) (m:=[]) Ng ag
theorem Z6:a6 M6:=cz (F:=E4) (fn:=Tryz.f63) (m:=dw Tryz.f63 [0,2]) Ng Tryz.func63 ⟨apd,ape,ag⟩
def D8:Shape:=⟨[(0,.dat rH)],[]⟩
def Ea:Shape:=⟨[(0,.dat fY),(1,aN)],[]⟩
def ap7:aV:=⟨40,D8,Ea,OI⟩
def ap9:bk:=n1 [LJ,M6]
theorem aqi:cF bg ap7:=pJ (F:=ap9) (fn:=Tryz.f40) (m:=[]) (bT ⟨YO,Z6,ag⟩) Tryz.func40 ag
def MP:aV:=⟨83,EF,gY,rN⟩
theorem ZJ:a6 MP:=cb (l:=[]) Tryz.func83 ag
def Yd:aV:=⟨109,⟨[(0,.dat um)],[]⟩,EI,Fw⟩
theorem aog:a6 Yd:=cb (l:=[MP]) Tryz.func109 ⟨ZJ,ag⟩
end D
open Go Go.X Go.Proofs D
namespace D
def Xv:bL:=dV ⟨[(0,.dat (.list bs)),(3,.ptr 0 bs 0 []),(5,.own bs 1),(6,du),(7,aN)],[.box 58 bs (.dat bs),.arr 58 bs false]⟩ 0 ⟨[(3,.ptr 0 bs 0 []),(5,.own bs 1),(6,du)],[.box 58 bs (.dat bs),.arr 58 bs false]⟩
def Zj:aV:=⟨108,⟨[(0,.dat (.list bs)),(1,.dat bs)],[]⟩,kx,FR⟩
def Mt:bk:=cp [] [(0,Xv.go MV 0)] 0
theorem ZK:ca bg (Mt).Γ:=bT ag
theorem aoh:cL Mt Tryz.f108 0 0:=cT (ar:=Xv) (b:=wl) (m:=[]) ZK ag
theorem apj:a6 Zj:=cz (F:=Mt) (fn:=Tryz.f108) (m:=dw Tryz.f108 [0]) ZK Tryz.func108 ⟨aoh,ag⟩
def Wq:bL:=dV ⟨[(0,.dat (.list um)),(3,.own bs 0),(4,aN)],n2⟩ 0 ⟨[(3,.own bs 0)],n2⟩
def Yc:aV:=⟨51,⟨[(0,.dat (.list um))],[]⟩,kx,Aj⟩
def LO:bk:=cp [Yd,Zj] [(0,Wq.go JO 0)] 0
theorem Yx:ca bg (LO).Γ:=bT ⟨aog,apj,ag⟩
theorem anX:cL LO Tryz.f51 0 0:=cT (ar:=Wq) (b:=yO) (m:=[]) Yx ag
theorem aof:a6 Yc:=cz (F:=LO) (fn:=Tryz.f51) (m:=dw Tryz.f51 [0]) Yx Tryz.func51 ⟨anX,ag⟩
def ol:Shape:=⟨[(0,.dat dC),(1,.dat (.list bs)),(2,.dat ac),(3,.dat (.list (.list .str))),(4,.dat mR)],[]⟩
def yI:Shape:=⟨[(0,.dat fK)],[]⟩
def yt (dt:(bZ×aj×aK×(List bc)×e4×G)->N (fi×G)):aV:=⟨50,ol,yI,dt⟩
def Zm:aV:=⟨76,r1,⟨[(0,.dat er),(1,aN)],[]⟩,zu⟩
theorem apm:a6 Zm:=cb (l:=[Dx]) Tryz.func76 ⟨JR,ag⟩
def Mm:aV:=⟨54,EF,gY,qj⟩
theorem YC:a6 Mm:=cb (l:=[]) Tryz.func54 ag
def Zk:aV:=⟨52,EF,gY,zt⟩
theorem apk:a6 Zk:=cb (l:=[Mm]) Tryz.func52 ⟨YC,ag⟩
def U9:bL:=dV T8 0 T8
def Jm:aV:=⟨53,gY,oT,nP⟩
def Tl:bk:=cp [] [(0,U9.go W3 0)] 0
theorem W2:ca bg (Tl).Γ:=bT ag
theorem al3:cL Tl Tryz.f53 0 0:=cT (ar:=U9) (b:=W1) (m:=[]) W2 ag
theorem Tu:a6 Jm:=cz (F:=Tl) (fn:=Tryz.f53) (m:=dw Tryz.f53 [0]) W2 Tryz.func53 ⟨al3,ag⟩
def We:aV:=⟨56,ju,ez,tf⟩
theorem amQ:a6 We:=cb (l:=[]) Tryz.func56 ag
def WH:aV:=⟨57,EF,gY,vV⟩
theorem anq:a6 WH:=cb (l:=[]) Tryz.func57 ag
def MN:aV:=⟨55,gY,oT,oH⟩
theorem ZH:a6 MN:=cb (l:=[]) Tryz.func55 ag
def sz:bL:=⟨⟨[(1,.ptr 0 hY 0 []),(2,.ptr 1 dx 0 []),(3,cW),(5,.ptr 2 ac 0 []),(6,cW),(7,cW),(63,du)],EB⟩,.nrm,⟨T6,EB⟩,(.exit 90100013),⟨[],[]⟩⟩
def sL:bL:=⟨⟨T6,EB⟩,.ret,T4,(.exit 90000016),⟨[],[]⟩⟩
def sK:bL:=⟨⟨[(1,.ptr 0 hY 0 []),(2,.ptr 1 dx 0 []),(3,cW),(5,.ptr 2 ac 0 [])],EB⟩,.ret,T4,(.exit 90000011),⟨[],[]⟩⟩
def s9:aV:=⟨14,⟨[(0,.dat hY)],[]⟩,gr,rG⟩
def om:bk:=n1 [Mm,Zk,Jm,We,WH,MN]
def s8:lA:=[(100013,sz.go sN 0),(16,sL.go rn 0),(11,sK.go nr 0)]
theorem akK (d:sz.S.ty.den): @Eq (N sz.Out) ((gD om s8 (eR (bX Tryz.f14) 100013) 0 (sz.S.enc d)).bind λ(e,st)=>sz.out (om).m e st).val (sN d):=by kernel_rfl
theorem alP (d:sL.S.ty.den): @Eq (N sL.Out) ((gD om s8 (eR (bX Tryz.f14) 16) 0 (sL.S.enc d)).bind λ(e,st)=>sL.out (om).m e st).val (rn d):=by kernel_rfl
theorem alN (d:sK.S.ty.den): @Eq (N sK.Out) ((gD om s8 (eR (bX Tryz.f14) 11) 0 (sK.S.enc d)).bind λ(e,st)=>sK.out (om).m e st).val (nr d):=by kernel_rfl
theorem aok (d:(s9).S.ty.den):(so om s8 Tryz.f14 (s9).S (s9).Z d).val=(s9).g d:=by kernel_rfl
theorem JP:ca bg (om).Γ:=bT ⟨YC,apk,Tu,amQ,anq,ZH,ag⟩
theorem akL:jG bg om Tryz.f14.ntmps (sz.go sN 0) (eR (bX Tryz.f14) 100013):=
  lQ ev JP eK (ar:=sz) (k:=0) (f:=sN) (C:=s8) (l:=[]) (m:=[]) (by kernel_rfl) ag (by kernel_rfl) ag (by kernel_rfl) (eN _ (by kernel_rfl)) akK
theorem alQ:jG bg om Tryz.f14.ntmps (sL.go rn 0) (eR (bX Tryz.f14) 16):=
  lQ ev JP eK (ar:=sL) (k:=0) (f:=rn) (C:=s8) (l:=[]) (m:=[]) (by kernel_rfl) ag (by kernel_rfl) ag (by kernel_rfl) (eN _ (by kernel_rfl)) alP
theorem alO:jG bg om Tryz.f14.ntmps (sK.go nr 0) (eR (bX Tryz.f14) 11):=
  lQ ev JP eK (ar:=sK) (k:=0) (f:=nr) (C:=s8) (l:=[]) (m:=[(sz.go sN 0,eR (bX Tryz.f14) 100013),(sL.go rn 0,eR (bX Tryz.f14) 16)]) (by kernel_rfl) ag (by kernel_rfl) ⟨akL,alQ,ag⟩ (by kernel_rfl) (eN _ (by kernel_rfl)) alN
theorem aol:cF bg s9:=
  Aa (C:=s8) (F:=om) ev JP eK (fn:=Tryz.f14) (l:=[]) (m:=[(sK.go nr 0,eR (bX Tryz.f14) 11)]) Tryz.func14 (by kernel_rfl) (by kernel_rfl) (by kernel_rfl) ag (by kernel_rfl) ⟨alO,ag⟩ (eN _ (by kernel_rfl)) (by kernel_rfl) aok
theorem YB:a6 s9:=(aol).x (by kernel_rfl)
def Ws:bL:=dV ⟨[(0,.dat (.list hY)),(1,aN),(5,.own dx 0),(6,aN)],zN⟩ 0 ⟨[(5,.own dx 0)],zN⟩
def Ye:aV:=⟨41,⟨[(0,.dat (.list hY)),(1,aN)],[]⟩,⟨[(0,.own dx 0)],zN⟩,Fx⟩
def LQ:bk:=cp [s9] [(0,Ws.go L8 0)] 0
theorem YA:ca bg (LQ).Γ:=bT ⟨YB,ag⟩
theorem an0:cL LQ Tryz.f41 0 0:=cT (ar:=Ws) (b:=yP) (m:=[]) YA ag
theorem aoj:a6 Ye:=cz (F:=LQ) (fn:=Tryz.f41) (m:=dw Tryz.f41 [0]) YA Tryz.func41 ⟨an0,ag⟩
def WG:aV:=⟨203,gr,⟨jI,cv⟩,nH⟩
theorem anp:a6 WG:=cb (l:=[Jm]) Tryz.func203 ⟨Tu,ag⟩
def Tg:aV:=⟨26,gr,⟨jI,cv⟩,jd⟩
theorem W6:a6 Tg:=cb (l:=[Jm,MN]) Tryz.func26 ⟨Tu,ZH,ag⟩
def Wf:aV:=⟨204,zF,ez,nu⟩
theorem amR:a6 Wf:=cb (l:=[Mk,K9]) Tryz.func204 ⟨Yw,XS,ag⟩
def Wt:bL:=⟨⟨[(3,.ptr 0 ac 0 []),(5,.own ac 1),(6,aN)],zE⟩,.ret,zL,(.exit 0),⟨[],[]⟩⟩
def Yf:aV:=⟨159,⟨[(0,.dat dx),(1,.dat ac)],[]⟩,ez,kc⟩
def LR:bk:=cp [WG,Tg,Wf] [(0,Wt.go JQ 0)] 0
theorem YD:ca bg (LR).Γ:=bT ⟨anp,W6,amR,ag⟩
theorem anr:cL LR Tryz.f159 0 0:=cT (ar:=Wt) (b:=td) (m:=[]) YD ag
theorem aom:a6 Yf:=cz (F:=LR) (fn:=Tryz.f159) (m:=dw Tryz.f159 [0]) YD Tryz.func159 ⟨anr,ag⟩
def U5:bL:=dV ⟨[(2,aN),(4,.ptr 0 ac 0 []),(7,.own dx 1),(8,.own dx 2),(9,aN)],[.box 39 ac (.dat ac),.arr 41 dx false,.arr 41 dx false]⟩ 0 ⟨[(7,.own dx 0)],zN⟩
def VV:aV:=⟨107,⟨[(0,.dat (.list hY)),(1,.dat ac),(2,aN)],[]⟩,⟨[(0,.own dx 0)],zN⟩,vO⟩
def S6:bk:=cp [Ye,Yf] [(0,U5.go Ta 0)] 0
theorem V7:ca bg (S6).Γ:=bT ⟨aoj,aom,ag⟩
theorem alU:cL S6 Tryz.f107 0 0:=cT (ar:=U5) (b:=vC) (m:=[]) V7 ag
theorem al6:a6 VV:=cz (F:=S6) (fn:=Tryz.f107) (m:=dw Tryz.f107 [0]) V7 Tryz.func107 ⟨alU,ag⟩
def yu:bL:=dV ⟨[(1,.dat (.list bs)),(3,.dat (.list (.list .str))),(5,.ptr 0 dC 0 []),(7,.ptr 1 ac 0 []),(9,.ptr 2 mR 0 []),(10,.ptr 3 fK 0 []),(11,.own .str 4),(12,aN)],TJ⟩ 0 ⟨[(1,.dat (.list bs)),(3,.dat (.list (.list .str))),(5,.ptr 0 dC 0 []),(7,.ptr 1 ac 0 []),(9,.ptr 2 mR 0 []),(10,.ptr 3 fK 0 []),(11,.own .str 4)],TJ⟩
def yv:bL:=dV ⟨[(1,.dat (.list bs)),(3,.dat (.list (.list .str))),(5,.ptr 0 dC 0 []),(7,.ptr 1 ac 0 []),(9,.ptr 2 mR 0 []),(10,.ptr 3 fK 0 []),(14,.ptr 4 er 0 []),(16,.own ac 5),(17,aN)],[.box 32 dC (.dat dC),.box 39 ac (.dat ac),.box 26 mR (.dat mR),.box 114 fK (.agg [oU,aN]),.box 85 er (.agg [(.dat (.list bs)),(.own .str 6),(.own (.int .i64) 7),(.own eA 8),(.dat (.list dx))]),.arr 39 ac false,.arr 9 .str true,.arr 3 (.int .i64) false,.arr 95 eA false]⟩ 2 ⟨[(5,.ptr 0 dC 0 []),(7,.ptr 1 ac 0 []),(9,.ptr 2 mR 0 []),(10,.ptr 3 fK 0 []),(14,.ptr 4 er 0 [])],[.box 32 dC (.dat dC),.box 39 ac (.dat ac),.box 26 mR (.dat mR),.box 114 fK (.agg [oU,aN]),.box 85 er (.agg [(.dat (.list bs)),(.own .str 5),(.own (.int .i64) 6),(.own eA 7),(.dat (.list dx))]),.arr 9 .str true,.arr 3 (.int .i64) false,.arr 95 eA false]⟩
def yx:bL:=dV ⟨[(10,.ptr 0 fK 0 []),(14,.ptr 1 er 0 []),(22,.ptr 2 kC 0 []),(23,.ptr 3 dC 0 []),(24,aN)],[.box 114 fK (.agg [oU,aN]),.box 85 er (.agg [(.dat (.list bs)),(.own .str 4),(.own (.int .i64) 5),(.own eA 6),(.own dx 7)]),.box 149 kC (.dat kC),.box 32 dC (.dat dC),.arr 9 .str true,.arr 3 (.int .i64) true,.arr 95 eA true,.arr 41 dx true]⟩ 4 ⟨[(10,.ptr 0 fK 0 []),(22,.ptr 1 kC 0 []),(23,.ptr 2 dC 0 [])],[.box 114 fK (.agg [oU,aN]),.box 149 kC (.dat kC),.box 32 dC (.dat dC)]⟩
def La:aV:=⟨50,ol,yI,Fc⟩
def rm (dt:(bZ×aj×aK×(List bc)×e4×G)->N (fi×G)):bk:=cp [WK,MO,WE,MQ,Zl,Mn,(yt dt),Zm,VV] [(0,yu.go (Ju dt) 0),(2,yv.go (Jv dt) 0),(4,yx.go (Jw dt) 0)] 0
theorem alR (dt:(bZ×aj×aK×(List bc)×e4×G)->N (fi×G)) (d:yu.S.ty.den): @Eq (N (yu.S.ty.den⊕yu.Out)) (yu.body (rm dt) (hy (bX Tryz.f50) 0) 0 d).val (yE dt d):=by kernel_rfl
theorem alS (dt:(bZ×aj×aK×(List bc)×e4×G)->N (fi×G)) (d:yv.S.ty.den): @Eq (N (yv.S.ty.den⊕yv.Out)) (yv.body (rm dt) (hy (bX Tryz.f50) 1) 2 d).val (vG dt d):=by kernel_rfl
theorem alT (dt:(bZ×aj×aK×(List bc)×e4×G)->N (fi×G)) (d:yx.S.ty.den): @Eq (N (yx.S.ty.den⊕yx.Out)) (yx.body (rm dt) (hy (bX Tryz.f50) 2) 4 d).val (yF dt d):=by kernel_rfl
theorem anz (dt:(bZ×aj×aK×(List bc)×e4×G)->N (fi×G)) (d:ol.ty.den): @Eq (N yI.ty.den) (mM (rm dt) Tryz.f50 ol yI d).val (vB dt d):=by kernel_rfl
theorem Js (dt:(bZ×aj×aK×(List bc)×e4×G)->N (fi×G)) (oL:cF bg (yt dt)):ca bg (rm dt).Γ:=bT ⟨anu,ZI,anY,ZM,apl,YF,(oL.x (by kernel_rfl)),apm,al6,ag⟩
theorem am0 (dt:(bZ×aj×aK×(List bc)×e4×G)->N (fi×G)) (oL:cF bg (yt dt)):hl bg (rm dt) Tryz.f50.ntmps 0 (hy (bX Tryz.f50) 0):=
  tP ev (Js dt oL) eK (ar:=yu) (f:=Ju dt) (b:=yE dt) (m:=[]) (λ_=>rfl) (by kernel_rfl) (by kernel_rfl) ag (by kernel_rfl) (eN _ (by kernel_rfl)) (alR dt)
theorem am1 (dt:(bZ×aj×aK×(List bc)×e4×G)->N (fi×G)) (oL:cF bg (yt dt)):hl bg (rm dt) Tryz.f50.ntmps 2 (hy (bX Tryz.f50) 1):=
  tP ev (Js dt oL) eK (ar:=yv) (f:=Jv dt) (b:=vG dt) (m:=[]) (λ_=>rfl) (by kernel_rfl) (by kernel_rfl) ag (by kernel_rfl) (eN _ (by kernel_rfl)) (alS dt)
theorem am2 (dt:(bZ×aj×aK×(List bc)×e4×G)->N (fi×G)) (oL:cF bg (yt dt)):hl bg (rm dt) Tryz.f50.ntmps 4 (hy (bX Tryz.f50) 2):=
  tP ev (Js dt oL) eK (ar:=yx) (f:=Jw dt) (b:=yF dt) (m:=[]) (λ_=>rfl) (by kernel_rfl) (by kernel_rfl) ag (by kernel_rfl) (eN _ (by kernel_rfl)) (alT dt)
theorem ak7 (dt:(bZ×aj×aK×(List bc)×e4×G)->N (fi×G)) (oL:cF bg (yt dt)):cF bg ⟨50,ol,yI,vB dt⟩:=
  tO (F:=(rm dt)) ev (Js dt oL) eK (fn:=Tryz.f50) (m:=dw Tryz.f50 [0,2,4]) Tryz.func50 (by kernel_rfl) (by kernel_rfl) (by kernel_rfl) ⟨am0 dt oL,am1 dt oL,am2 dt oL,ag⟩ (eN _ (by kernel_rfl)) (by kernel_rfl) (anz dt)
theorem ahC: ∀n,cF bg ⟨50,ol,yI,mt n⟩
  |0=>F5
  |n+1=>ak7 _ (ahC n)
theorem anA:cF bg La:=ahC kZ
theorem anB:a6 La:=(anA).x (by kernel_rfl)
def Yi:aV:=⟨13,⟨[(0,.dat mR)],[]⟩,EJ,Fz⟩
theorem aou:a6 Yi:=cb (l:=[Yc,La]) Tryz.func13 ⟨aof,anB,ag⟩
def Au:aV:=⟨326,⟨[(0,aN),(1,aN),(2,aN)],[]⟩,ez,qG⟩
theorem FM:a6 Au:=cb (l:=[]) Tryz.func326 ag
def Je:aV:=⟨322,gr,ez,L2⟩
theorem VN:a6 Je:=cb (l:=[Au]) Tryz.func322 ⟨FM,ag⟩
def Jl:aV:=⟨320,gr,gr,MG⟩
theorem WU:a6 Jl:=cb (l:=[]) Tryz.func320 ag
def I9:aV:=⟨335,gr,ez,LX⟩
theorem VI:a6 I9:=cb (l:=[Au]) Tryz.func335 ⟨FM,ag⟩
def Jk:aV:=⟨333,gr,gr,ME⟩
theorem WT:a6 Jk:=cb (l:=[]) Tryz.func333 ag
def M5:aV:=⟨349,oT,ez,AE⟩
theorem Z0:a6 M5:=cb (l:=[ru]) Tryz.func349 ⟨te,ag⟩
def IU:aV:=⟨346,gr,ez,K3⟩
theorem Ve:a6 IU:=cb (l:=[M5]) Tryz.func346 ⟨Z0,ag⟩
def Ja:aV:=⟨344,gr,gr,LY⟩
theorem VJ:a6 Ja:=cb (l:=[]) Tryz.func344 ag
def MM:aV:=⟨357,ju,ez,Ar⟩
theorem ZA:a6 MM:=cb (l:=[Sy,Au]) Tryz.func357 ⟨ahh,FM,ag⟩
def IX:aV:=⟨353,gr,ez,K5⟩
theorem Vh:a6 IX:=cb (l:=[MM]) Tryz.func353 ⟨ZA,ag⟩
def Jb:aV:=⟨351,gr,gr,LZ⟩
theorem VK:a6 Jb:=cb (l:=[]) Tryz.func351 ag
def IJ:aV:=⟨363,gr,ez,To⟩
theorem UT:a6 IJ:=cb (l:=[MM]) Tryz.func363 ⟨ZA,ag⟩
def IP:aV:=⟨361,gr,gr,KZ⟩
theorem Va:a6 IP:=cb (l:=[]) Tryz.func361 ag
def pm:aV:=⟨369,gr,ez,Tt⟩
theorem U0:a6 pm:=cb (l:=[Au,M5]) Tryz.func369 ⟨FM,Z0,ag⟩
def IZ:aV:=⟨367,gr,gr,K7⟩
theorem Vj:a6 IZ:=cb (l:=[]) Tryz.func367 ag
def ML:aV:=⟨58,gr,ez,qm⟩
noncomputable def aoV:bk:=l4 hh (E0 hh (hL [Je,Jl,I9,Jk,IU,Ja,IX,Jb,IJ,IP,pm,IZ]) 110 Tryz.f110 (hL [Je,Jl,I9,Jk,IU,Ja,IX,Jb,IJ,IP,pm,IZ])) (λk st=>.fail) 0
theorem Zz:a6 ML:=cz (F:=aoV) (fn:=Tryz.f58) (m:=[]) (Fm (by kernel_rfl) (FJ (F:=(l4 hh (hL [Je,Jl,I9,Jk,IU,Ja,IX,Jb,IJ,IP,pm,IZ]) (λ_ _=>.fail) 0)) ev (bT ⟨VN,WU,VI,WT,Ve,VJ,Vh,VK,UT,Va,U0,Vj,ag⟩) eK Tryz.func110 (by kernel_rfl) (by kernel_rfl) (by kernel_rfl)) (bT ⟨VN,WU,VI,WT,Ve,VJ,Vh,VK,UT,Va,U0,Vj,ag⟩)) Tryz.func58 ag
def xH:aV:=⟨171,uh,kx,co⟩
def axL:bk:=l4 hh (hL []) (λ_ _=>.fail) 0
theorem axC:cF bg xH:=
  abq (F:=axL) ev (bT ag) eK (fn:=Tryz.f171) Tryz.func171 (by kernel_rfl) (by kernel_rfl) (by kernel_rfl) (by kernel_rfl) (by kernel_rfl) (λd=>(decide ((List.length ([]:aj)+List.length d.1)*40<=bp))) (λd=>(d.1,())) (λd=>([],())) (λd=>List.length d.1) (λd=>rfl) (λd=>by kernel_rfl) (λd=>by kernel_rfl) (λd h=>congrArg (λl=>(l,())) (List.eq_nil_of_length_eq_zero h).symm)
theorem Hv:a6 xH:=axC.x (by kernel_rfl)
def i5:aV:=⟨327,⟨[(0,.own bs 0),(1,aN),(2,.own bs 1)],[.arr 58 bs false,.arr 58 bs false]⟩,⟨[(0,.own bs 2)],[.gone,.arr 58 bs false,.arr 58 bs false]⟩,HF⟩
def af7:bk:=l4 hh (Bh 328 (ID bs) (hL [])) (λ_ _=>.fail) 2
theorem axm:ca bg af7.Γ:=aaq (ajh ev (T:=64) (dS:=4) (t:=bs) (by kernel_rfl) (by kernel_rfl) (by kernel_rfl) Tryz.func328 (by kernel_rfl) (by kernel_rfl) (by kernel_rfl) (by kernel_rfl)) (bT ag)
theorem axn:cF bg i5:=
  aqT (F:=af7) (e:=58) (t:=bs) (bytes:=40) ev axm eK (by kernel_rfl) (by kernel_rfl) (fn:=Tryz.f327) Tryz.func327 (by kernel_rfl) (by kernel_rfl) (by kernel_rfl) (by kernel_rfl) (by kernel_rfl) rfl (λi xs aW=>by kernel_rfl) (λi xs z aW=>by kernel_rfl)
theorem axo:a6 i5:=axn.x (by kernel_rfl)
def Zp:aV:=⟨325,⟨[(0,.dat (.list bs)),(1,.dat bs)],[]⟩,kx,FX⟩
theorem apw:a6 Zp:=cb (l:=[Jq,xH,i5]) Tryz.func325 ⟨LH,Hv,axo,ag⟩
def Jc:aV:=⟨319,wE,kx,L0⟩
theorem VL:a6 Jc:=cb (l:=[Zp]) Tryz.func319 ⟨apw,ag⟩
def Tj:aV:=⟨340,Ey,⟨[(0,aN),(1,aN)],[]⟩,DW⟩
theorem W8:a6 Tj:=cb (l:=[ru,Jq]) Tryz.func340 ⟨te,LH,ag⟩
def agj:aV:=⟨342,⟨[(0,.nils 58 bs),(1,aN)],[]⟩,kx,HJ⟩
theorem axN:a6 agj:=cb (l:=[]) Tryz.func342 ag
def afK:bL:=dV ⟨[(0,.dat (.list (.list bs))),(3,aN),(9,.dat (.list (.list bs))),(10,aN),(11,aN)],[]⟩ 0 ⟨[(0,.dat (.list (.list bs))),(3,aN)],[]⟩
def afL:bL:=dV ⟨[(6,.own bs 0),(25,.dat (.list (.list bs))),(26,aN),(27,aN)],n2⟩ 2 ⟨[(6,.own bs 0)],n2⟩
def af4:aV:=⟨341,⟨[(0,.dat (.list (.list bs)))],[]⟩,kx,HE⟩
def Hp:bk:=cp [agj] [(0,afK.go RF 0),(2,afL.go RG 0)] 0
theorem RE:ca bg (Hp).Γ:=bT ⟨axN,ag⟩
theorem axa:cL Hp Tryz.f341 0 0:=cT (ar:=afK) (b:=qE) (m:=[]) RE ag
theorem axb:cL Hp Tryz.f341 2 1:=cT (ar:=afL) (b:=qS) (m:=[]) RE ag
theorem axl:a6 af4:=cz (F:=Hp) (fn:=Tryz.f341) (m:=dw Tryz.f341 [0,2]) RE Tryz.func341 ⟨axa,axb,ag⟩
def Dy:aV:=⟨339,Ey,kx,tG⟩
theorem JT:a6 Dy:=cb (l:=[Tj,af4]) Tryz.func339 ⟨W8,axl,ag⟩
end D
open Go Go.X Go.Proofs D
namespace D
def Zo:aV:=⟨338,Kw,kx,Od⟩
theorem apv:a6 Zo:=cb (l:=[D5,Dy]) Tryz.func338 ⟨Ff,JT,ag⟩
def I7:aV:=⟨332,wE,kx,LV⟩
theorem VG:a6 I7:=cb (l:=[Zo]) Tryz.func332 ⟨apv,ag⟩
def IS:aV:=⟨343,wE,kx,K1⟩
theorem Vc:a6 IS:=cb (l:=[Dy]) Tryz.func343 ⟨JT,ag⟩
def Xo:aV:=⟨360,Ey,⟨[(0,.clip bs)],[]⟩,Fh⟩
theorem anJ:a6 Xo:=cb (l:=[Tj]) Tryz.func360 ⟨W8,ag⟩
def Xt:bL:=dV ⟨[(1,cW),(2,cW),(7,.own bs 0),(15,aN),(16,aN)],n2⟩ 0 ⟨[(7,.own bs 0)],n2⟩
def Zf:aV:=⟨358,⟨[(0,.dat (.list bs)),(1,cW),(2,cW)],[]⟩,kx,FN⟩
def MT:bk:=cp [qd,JG,xH,Xo] [(0,Xt.go MF 0)] 0
theorem ZB:ca bg (MT).Γ:=bT ⟨rq,Me,Hv,anJ,ag⟩
theorem an4:cL MT Tryz.f358 0 0:=cT (ar:=Xt) (b:=yV) (m:=[]) ZB ag
theorem ao7:a6 Zf:=cz (F:=MT) (fn:=Tryz.f358) (m:=dw Tryz.f358 [0]) ZB Tryz.func358 ⟨an4,ag⟩
def VC:bL:=dV ⟨[(0,.dat (.list bs)),(1,.dat (.list bs)),(5,.own bs 0)],n2⟩ 0 ⟨[(0,.dat (.list bs)),(1,.dat (.list bs)),(5,.own bs 0)],n2⟩
def Xp:aV:=⟨39,Uc,kx,Fi⟩
def Lo:bk:=cp [] [(0,VC.go LF 0)] 0
theorem XG:ca bg (Lo).Γ:=bT ag
theorem am9:cL Lo Tryz.f39 0 0:=cT (ar:=VC) (b:=yG) (m:=[]) XG ag
theorem anK:a6 Xp:=cz (F:=Lo) (fn:=Tryz.f39) (m:=dw Tryz.f39 [0]) XG Tryz.func39 ⟨am9,ag⟩
def C5:aV:=⟨356,wE,kx,De⟩
theorem SM:a6 C5:=cb (l:=[qd,Dy,Zf,Xp]) Tryz.func356 ⟨rq,JT,ao7,anK,ag⟩
def IV:aV:=⟨350,wE,kx,Jy⟩
theorem Vf:a6 IV:=cb (l:=[qd,Dy,C5]) Tryz.func350 ⟨rq,JT,SM,ag⟩
def ahe:bL:=dV ⟨[(2,.ptr 0 dx 0 []),(5,.own bs 1),(10,aN),(11,aN)],[.box 215 dx (.dat dx),.arr 58 bs false]⟩ 0 ⟨[(5,.own bs 0)],n2⟩
def pi:aV:=⟨366,wE,kx,Tr⟩
def SL:bk:=cp [vZ,xH] [(0,ahe.go SN 0)] 0
theorem UX:ca bg (SL).Γ:=bT ⟨zc,Hv,ag⟩
theorem ale:cL SL Tryz.f366 0 0:=cT (ar:=ahe) (b:=C2) (m:=[]) UX ag
theorem UY:a6 pi:=cz (F:=SL) (fn:=Tryz.f366) (m:=dw Tryz.f366 [0]) UX Tryz.func366 ⟨ale,ag⟩
def MK:aV:=⟨61,⟨[(0,.dat (.list bs)),(1,.dat dx)],[]⟩,uh,rK⟩
end D
