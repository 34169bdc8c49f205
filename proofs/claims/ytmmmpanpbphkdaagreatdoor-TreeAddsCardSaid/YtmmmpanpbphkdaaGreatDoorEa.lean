import Derived.Test.YtmmmpanpbphkdaaGreatDoorL
import Derived.Test.YtmmmpanpbphkdaaGreatDoorD
import Derived.Test.YtmmmpanpbphkdaaGreatDoorChecked
set_option linter.unusedVariables false
set_option maxRecDepth 100000
open Go Go.X Go.Proofs D
namespace D
noncomputable abbrev bk:=Tryz.prog
theorem ai:True:=trivial
abbrev dA:cw:=.dat .bool
abbrev c6:cw:=.dat .str
abbrev aL:cw:=.dat (.int .i64)
abbrev cF:List dX:=[.arr 39 ac false]
abbrev r7:cw:=.agg [dA,dA,(.agg [c6,c6,aL]),c6,dA,aL]
abbrev Fe:List dX:=[.box 32 dm (.dat dm),.box 81 (.list (.int .i64)) (.own (.int .i64) 5),.box 4 .bool dA,.box 158 .opq (.fn 154 [] [(.ptr 0 dm 0 []),(.ptr 1 (.list (.int .i64)) 0 []),(.ptr 2 .bool 0 []),(.ptr 3 .opq 0 []),(.ptr 4 .opq 0 [])]),.box 158 .opq (.fn 100 [] [(.ptr 6 (.int .i64) 0 [])]),.arr 3 (.int .i64) false,.box 3 (.int .i64) aL]
abbrev kn:az:=.pair (.int .u8) (.pair (.int .u8) .unit)
abbrev ew:Shape:=⟨[(0,dA)],[]⟩
abbrev gn:Shape:=⟨[(0,.dat am)],[]⟩
abbrev mO:cw:=.agg [(.agg [aL,aL]),(.agg [aL,aL])]
abbrev uu:List dX:=[.box 32 dm (.dat dm),.box 81 (.list (.int .i64)) (.own (.int .i64) 2),.arr 3 (.int .i64) false]
abbrev qD:List dX:=[.box 132 .opq (.fn 183 [] [(.ptr 1 ac 0 [])]),.box 39 ac (.dat ac)]
abbrev jF:Shape:=⟨[(0,c6),(1,c6)],[]⟩
abbrev Ah:List dX:=[.loop 1012800 [(5,.ptr 2 j3 0 []),(4,.ptr 3 j3 0 [])],.box 83 (.list am) (.dat (.list am)),.box 190 j3 r7,.box 190 j3 r7]
abbrev hi:Shape:=⟨[(0,c6)],[]⟩
abbrev qE:List (Nat×cw):=[(0,.own ac 0),(1,aL),(4,.fn 236 [] []),(12,aL),(13,aL)]
abbrev oZ:cw:=.agg [(.dat (.list iC))]
abbrev Ff:List dX:=[.loop 1016800 [(5,.ptr 2 (.list ac) 0 [])],.box 83 (.list am) (.dat (.list am)),.box 62 (.list ac) (.own ac 4),.gone,.arr 39 ac false]
abbrev iB:Shape:=⟨[(0,aL)],[]⟩
abbrev r8:List dX:=[.arr 58 bz false,.box 62 (.list ac) (.dat (.list ac))]
abbrev j2:List dX:=[.box 39 ac (.dat ac)]
abbrev Ai:List (Nat×cw):=[(0,.own ac 0),(1,aL),(2,aL),(3,aL),(4,.fn 236 [] []),(10,dA),(11,dA)]
abbrev wX:Shape:=⟨[(0,.ptr 0 j3 0 []),(1,.dat am)],[.box 190 j3 r7]⟩
abbrev Aj:List (Nat×cw):=[(0,.own ac 0),(1,aL),(2,aL),(3,.fn 236 [] []),(9,aL),(10,aL)]
abbrev jT:List (Nat×cw):=[(0,.own ac 0)]
abbrev Ad:List dX:=[.box 32 dm oZ,.box 32 dm (.agg [(.own iC 2)]),.arr 87 iC false]
abbrev Ui:Shape:=⟨[(4,.ptr 0 bz 0 []),(5,.ptr 1 .bool 0 []),(6,.ptr 2 (.int .i64) 0 []),(7,aL),(1000000000,.dfr 129 [(.ptr 2 (.int .i64) 0 [])] [(.ptr 0 bz 0 []),(.ptr 1 .bool 0 [])] j3)],[.box 58 bz (.dat bz),.box 4 .bool dA,.box 3 (.int .i64) aL]⟩
abbrev wS:List (Nat×cw):=[(0,.own ac 0),(1,aL),(2,aL),(3,.fn 236 [] [])]
abbrev Ae:List (Nat×cw):=[(0,.own ac 0),(1,aL),(4,.fn 236 [] []),(11,aL),(12,aL)]
abbrev og:Shape:=⟨[(0,.dat ac)],[]⟩
abbrev mN:cw:=.agg [(.dat dm),aL]
abbrev K5:Shape:=⟨[],[.loop 1013600 [(12,.ptr 5 (.list bz) 0 [])],.box 141 .opq (.ptr 6 fO 0 []),.box 3 (.int .i64) aL,.box 39 ac (.dat ac),.box 62 (.list ac) (.dat (.list ac)),.box 64 (.list bz) (.own bz 8),.box 143 fO mN,.gone,.arr 58 bz false]⟩
abbrev K6:Shape:=⟨[],[.loop 1002700 [(7,.ptr 5 (.list bz) 0 [])],.box 141 .opq (.ptr 6 fO 0 []),.box 3 (.int .i64) aL,.box 39 ac (.dat ac),.box 62 (.list ac) (.dat (.list ac)),.box 64 (.list bz) (.own bz 7),.box 143 fO mN,.arr 58 bz false]⟩
abbrev E8:List dX:=[.box 32 dm (.dat dm),.box 85 ey (.dat ey),.box 149 kF (.agg [oZ,aL,aL])]
abbrev uk:List dX:=[.arr 39 ac false,.box 39 ac (.dat ac)]
abbrev wT:Shape:=⟨[(0,.dat am),(1,.dat (.list bz))],[]⟩
abbrev um:List dX:=[.arr 39 ac true,.box 39 ac (.dat ac)]
abbrev r6:Shape:=⟨[(0,.dat dm),(1,aL)],[]⟩
abbrev wU:Shape:=⟨[(0,c6),(1,.dat (.int .u8))],[]⟩
abbrev wV:List dX:=[.arr 39 ac false,.box 3 (.int .i64) aL]
abbrev E9:cw:=.agg [c6,aL,aL,c6]
abbrev uo:Shape:=⟨[(0,.dat (.list bz))],[]⟩
abbrev uq:Shape:=⟨[(0,.dat (.list ac))],[]⟩
abbrev Fa:List (Nat×cw):=[(0,.own ac 0),(1,aL),(2,aL),(3,aL),(4,.fn 236 [] [])]
abbrev Fb:List dX:=[.box 204 ja (.agg [aL,aL]),.box 204 ja (.agg [aL,aL])]
abbrev wW:Shape:=⟨[(0,dA)],[.box 190 j3 r7]⟩
abbrev qC:List dX:=[.box 58 bz (.dat bz)]
abbrev oh:List dX:=[.arr 58 bz false]
abbrev kA:Shape:=⟨[(0,.own bz 0)],oh⟩
abbrev Af:List dX:=[.box 39 ac (.dat ac),.arr 39 ac false]
abbrev Ag:Shape:=⟨[(0,.dat ac),(1,.dat ac)],[]⟩
abbrev Fc:Shape:=⟨[(0,.dat (.list bz)),(1,.dat ac)],[]⟩
abbrev ur:Shape:=⟨[(0,.dat ja)],[]⟩
abbrev E5:List dX:=[.box 85 ey (.dat ey),.box 39 ac (.dat ac)]
abbrev Uf:Shape:=⟨[(0,.dat (.list ac)),(5,.own ac 0),(12,.own ac 1),(13,aL),(14,aL)],[.arr 39 ac false,.arr 39 ac false]⟩
abbrev r5:Shape:=⟨[(2,dA)],[]⟩
abbrev Ug:Shape:=⟨[(0,c6),(2,.ptr 0 ac 0 []),(3,.own (.int .u8) 1)],[.box 39 ac (.agg [c6,c6]),.arr 5 (.int .u8) false]⟩
abbrev K4:List dX:=[.box 85 ey (.dat ey),.box 95 eL mO,.box 95 eL (.dat eL)]
abbrev Uh:List dX:=[.box 32 dm (.dat dm),.box 39 ac (.dat ac),.box 26 mY (.dat mY),.box 114 fO (.agg [oZ,aL]),.arr 9 .str false]
abbrev E6:List dX:=[.box 245 hG (.dat hG),.box 245 hG E9]
abbrev wR:Shape:=⟨[(0,.dat eL)],[]⟩
abbrev E7:List dX:=[.box 269 JY (.agg [(.agg [c6]),E9])]
abbrev Ac:Shape:=⟨[(2,c6),(3,aL)],[]⟩
abbrev w0:List dX:=[.box 245 hG (.dat hG)]
abbrev uw:Shape:=⟨[(4,dA)],[]⟩
abbrev ux:az:=.pair (.int .u8) kn
abbrev lB:az:=.pair (.int .u8) (.pair (.int .u8) (.pair (.int .u8) ux))
abbrev Fg:List dX:=[.box 28 lB (.dat lB),.box 41 am (.agg [aL,c6,c6,(.agg [c6,c6]),c6,c6,aL]),.box 39 ac (.dat ac)]
abbrev Uw:List (Nat×cw):=[(0,.own ac 0),(1,aL),(2,aL),(3,aL),(4,.fn 236 [] []),(10,dA),(11,dA),(12,aL),(13,aL)]
abbrev Fk:Shape:=⟨[(0,.dat (.int .u8))],[]⟩
abbrev Ux:List dX:=[.loop 1012800 [(5,.ptr 1 j3 0 []),(4,.ptr 2 j3 0 [])],.box 190 j3 r7,.box 190 j3 r7]
abbrev Uy:Shape:=⟨[(2,.ptr 0 am 0 [])],[.box 41 am (.agg [aL,c6,c6,(.dat ac),c6,c6,aL])]⟩
abbrev Uz:List dX:=[.box 85 ey (.dat ey),.box 95 eL mO,.box 95 eL mO,.box 242 .opq (.fn 189 [] [])]
abbrev UA:List (Nat×cw):=[(1,.ptr 0 lB 0 []),(2,.ptr 1 am 0 []),(3,c6),(5,.ptr 2 ac 0 []),(6,c6),(7,c6)]
abbrev Lg:Shape:=⟨[(0,.dat (.list bz)),(1,c6)],[]⟩
abbrev UB:List dX:=[.box 41 am (.dat am),.arr 58 bz false,.arr 41 am false,.box 36 jn (.dat jn)]
abbrev UC:List dX:=[.box 143 fO mN,.box 85 ey (.dat ey),.box 39 ac (.dat ac),.arr 39 ac false]
abbrev UD:Shape:=⟨[(0,c6),(2,.ptr 0 ac 0 []),(3,aL)],[.box 39 ac (.agg [c6,c6])]⟩
abbrev Lh:Shape:=⟨[(0,.dat ey),(1,.dat ac)],[]⟩
abbrev UE:List (Nat×cw):=[(0,.own ac 0),(1,aL),(2,aL),(3,aL),(4,.fn 236 [] []),(12,aL),(13,aL)]
abbrev Li:Shape:=⟨[(0,aL),(1,aL),(2,aL)],[]⟩
abbrev Fl:List (Nat×cw):=[(5,.ptr 1 (.list ac) 0 [])]
abbrev Fm:Shape:=⟨[(0,.dat hG)],[]⟩
abbrev Fo:Shape:=⟨[(0,.dat bz)],[]⟩
abbrev Fp:Shape:=⟨[(0,.dat jn)],[]⟩
abbrev Lj:Shape:=⟨[(0,.dat (.int .u64))],[]⟩
abbrev UF:List (Nat×cw):=[(2,.ptr 0 dm 0 []),(3,.ptr 1 ey 0 []),(4,.ptr 2 kF 0 []),(6,aL)]
abbrev Al:List dX:=[.arr 41 am false]
abbrev Fq:List dX:=[.box 3 (.int .i64) aL]
abbrev UG:List dX:=[.box 32 dm (.dat dm),.box 85 ey (.dat ey),.box 32 dm oZ]
abbrev UH:Shape:=⟨[(0,.dat (.list bz)),(1,.dat (.list bz))],[]⟩
def hy:cm:=⟨[(1,⟨.opq,0,[],8,false,true,false,[]⟩),(3,⟨(.int .i64),0,[],8,false,false,false,[]⟩),(4,⟨.bool,0,[],1,false,false,false,[]⟩),(5,⟨(.int .u8),0,[],1,false,false,false,[]⟩),(9,⟨.str,0,[],16,false,false,false,[]⟩),(20,⟨.opq,0,[],16,false,false,true,[]⟩),(21,⟨(.int .i32),0,[],4,false,false,false,[]⟩),(22,⟨(.list ux),168,[],3,false,false,false,[]⟩),(23,⟨(.list lB),28,[],6,false,false,false,[]⟩),(24,⟨(.pair (.list lB) (.pair (.list lB) (.pair (.list lB) (.pair (.list lB) .unit)))),0,[23,23,23,23],96,false,true,false,[]⟩),(26,⟨mY,0,[22,24,5],128,false,false,false,[]⟩),(28,⟨lB,0,[5,5,5,5,5,5],6,false,true,false,[]⟩),(30,⟨(.list iC),87,[],136,false,false,false,[]⟩),(32,⟨dm,0,[30],24,false,false,false,[]⟩),(34,⟨Gl,0,[3,3,3],24,true,false,false,[]⟩),(36,⟨jn,0,[32,3,34],56,false,false,false,[]⟩),(39,⟨ac,0,[9,9],32,true,false,false,[]⟩),(41,⟨am,0,[3,9,9,39,9,9,3],112,true,false,false,[]⟩),(43,⟨(.int .i64),0,[],8,false,false,false,[]⟩),(53,⟨ux,0,[5,5,5],3,false,true,false,[]⟩),(55,⟨(.list .str),9,[],16,false,false,false,[]⟩),(58,⟨bz,0,[9,9,3],40,true,false,false,[]⟩),(60,⟨as1,0,[58,4,3,43],64,true,false,false,[]⟩),(62,⟨(.list ac),39,[],32,false,false,false,[]⟩),(64,⟨(.list bz),58,[],40,false,false,false,[]⟩),(77,⟨kn,0,[5,5],2,false,true,false,[]⟩),(81,⟨(.list (.int .i64)),3,[],8,false,false,false,[]⟩),(82,⟨(.list eL),95,[],32,false,false,false,[]⟩),(83,⟨(.list am),41,[],112,false,false,false,[]⟩),(85,⟨ey,0,[64,55,81,82,83],120,false,false,false,[]⟩),(87,⟨iC,0,[4,4,3,85],136,false,false,false,[]⟩),(89,⟨(.int .i16),0,[],2,false,false,false,[]⟩),(90,⟨(.pair (.int .i16) (.pair (.int .i16) (.pair (.int .i16) .unit))),0,[89,89,89],6,false,true,false,[]⟩),(93,⟨ja,0,[3,3],16,true,false,false,[]⟩),(95,⟨eL,0,[93,93],32,true,false,false,[]⟩),(100,⟨.opq,0,[],8,false,true,false,[]⟩),(108,⟨ja,0,[3,3],16,true,false,false,[]⟩),(111,⟨(.list (.list .str)),55,[],24,false,false,false,[]⟩),(112,⟨(.list (.list (.list .str))),111,[],24,false,false,false,[]⟩),(114,⟨fO,0,[32,3],32,false,false,false,[]⟩),(127,⟨.opq,0,[],8,false,true,false,[]⟩),(132,⟨.opq,0,[],8,false,true,false,[]⟩),(141,⟨.opq,0,[],8,false,false,false,[]⟩),(143,⟨fO,0,[32,43],32,false,false,false,[]⟩),(144,⟨.opq,0,[],8,false,true,false,[]⟩),(145,⟨.opq,0,[],8,false,true,false,[]⟩),(149,⟨kF,0,[32,3,43],40,false,false,false,[]⟩),(156,⟨.opq,0,[],8,false,true,false,[]⟩),(158,⟨.opq,0,[],8,false,true,false,[]⟩),(159,⟨.opq,0,[],8,false,true,false,[]⟩),(160,⟨.opq,0,[],8,false,true,false,[]⟩),(164,⟨ab1,0,[108],16,true,false,false,[]⟩),(168,⟨ux,0,[5,5,5],3,false,true,false,[]⟩),(169,⟨(.list (.int .u8)),5,[],1,false,false,false,[]⟩),(171,⟨.opq,0,[],16,false,false,true,[]⟩),(176,⟨.opq,0,[],8,false,false,false,[]⟩),(177,⟨(.list (.list am)),83,[],24,false,false,false,[]⟩),(183,⟨.str,0,[],16,false,false,false,[]⟩),(190,⟨j3,0,[4,4,58,9,4,3],80,true,false,false,[]⟩),(194,⟨(.list .bool),4,[],1,false,false,false,[]⟩),(195,⟨.opq,0,[],8,false,true,false,[]⟩),(204,⟨ja,0,[3,3],16,true,false,false,[]⟩),(208,⟨.opq,0,[],8,false,false,false,[]⟩),(210,⟨am,0,[3,9,9,39,9,9,3],112,true,false,false,[("downspout/msg.apply",319),("downspout/msg.bare",320),("downspout/msg.reads",321),("downspout/msg.valid",322),("downspout/msg.writes",324)]⟩),(211,⟨am,0,[3,9,9,39,9,9,3],112,true,false,false,[("downspout/msg.apply",332),("downspout/msg.bare",333),("downspout/msg.reads",334),("downspout/msg.valid",335),("downspout/msg.writes",337)]⟩),(212,⟨am,0,[3,9,9,39,9,9,3],112,true,false,false,[("downspout/msg.apply",343),("downspout/msg.bare",344),("downspout/msg.reads",345),("downspout/msg.valid",346),("downspout/msg.writes",348)]⟩),(213,⟨am,0,[3,9,9,39,9,9,3],112,true,false,false,[("downspout/msg.apply",350),("downspout/msg.bare",351),("downspout/msg.reads",352),("downspout/msg.valid",353),("downspout/msg.writes",355)]⟩),(214,⟨am,0,[3,9,9,39,9,9,3],112,true,false,false,[("downspout/msg.apply",356),("downspout/msg.bare",361),("downspout/msg.reads",362),("downspout/msg.valid",363),("downspout/msg.writes",365)]⟩),(215,⟨am,0,[3,9,9,39,9,9,3],112,true,false,false,[("downspout/msg.apply",366),("downspout/msg.bare",367),("downspout/msg.reads",368),("downspout/msg.valid",369),("downspout/msg.writes",371)]⟩),(216,⟨(.list .str),183,[],16,false,false,false,[]⟩),(218,⟨.opq,0,[],8,false,true,false,[]⟩),(223,⟨.opq,0,[],8,false,true,false,[]⟩),(224,⟨.opq,0,[],8,false,true,false,[]⟩),(226,⟨.opq,0,[],8,false,true,false,[]⟩),(227,⟨(.pair .opq (.pair .opq (.pair .opq (.pair .opq (.pair .opq (.pair .opq (.pair .opq .unit))))))),0,[226,226,226,226,226,226,226],56,false,true,false,[]⟩),(228,⟨.opq,0,[],8,false,false,false,[]⟩),(231,⟨aqF,0,[9,4,4,9,4,3],56,true,false,false,[]⟩),(241,⟨.opq,0,[],8,false,false,false,[]⟩),(242,⟨.opq,0,[],8,false,true,false,[]⟩),(243,⟨.opq,0,[],8,false,true,false,[]⟩),(245,⟨hG,0,[9,3,3,9],48,true,false,false,[]⟩),(255,⟨.opq,0,[],8,false,true,false,[]⟩),(256,⟨.opq,0,[],8,false,true,false,[]⟩),(257,⟨(.int .u64),0,[],8,false,false,false,[]⟩),(260,⟨.opq,0,[],8,false,true,false,[]⟩),(264,⟨(.list ja),93,[],16,false,false,false,[]⟩),(265,⟨.opq,0,[],8,false,false,false,[]⟩),(267,⟨(.pair .str .unit),0,[9],16,true,false,false,[]⟩),(269,⟨JY,0,[267,245],64,true,false,false,[]⟩),(276,⟨.opq,0,[],8,false,true,false,[]⟩),(286,⟨.opq,0,[],8,false,false,false,[]⟩),(291,⟨.opq,0,[],8,false,true,false,[]⟩),(294,⟨(.int .i64),0,[],8,false,false,false,[]⟩),(301,⟨(.int .u32),0,[],4,false,false,false,[]⟩),(303,⟨(.int .u64),0,[],8,false,false,false,[]⟩),(313,⟨.opq,0,[],8,false,false,false,[]⟩),(315,⟨(.int .u64),0,[],8,false,false,false,[]⟩),(319,⟨.opq,0,[],8,false,false,false,[]⟩),(326,⟨.opq,0,[],8,false,false,false,[]⟩),(333,⟨kn,0,[5,5],2,true,false,false,[]⟩),(334,⟨(.pair kn (.pair kn (.pair kn (.pair kn (.pair kn (.pair kn (.pair kn (.pair kn (.pair kn (.pair kn (.pair kn (.pair kn (.pair kn (.pair kn (.pair kn (.pair kn .unit)))))))))))))))),0,[333,333,333,333,333,333,333,333,333,333,333,333,333,333,333,333],32,false,true,false,[]⟩),(357,⟨(.list (.list bz)),64,[],24,false,false,false,[]⟩)],VB [(296,0),(287,0),(286,0),(235,0),(263,0),(251,0),(330,0),(185,0),(181,0),(71,0),(115,0),(329,0),(219,0),(116,0),(283,0),(267,0),(266,0),(265,0),(264,0),(262,0),(261,0),(260,0),(331,0),(233,0),(342,0),(170,0),(327,0),(113,0),(68,0),(328,0),(328,1),(327,0),(327,2),(118,0)]⟩
noncomputable instance azI:Env:=⟨λY=>bif Nat.beq Y 1002700 then some (ko Tryz.f27 0) else bif Nat.beq Y 1013600 then some (ko Tryz.f136 0) else bif Nat.beq Y 1016800 then some (ko Tryz.f168 0) else bif Nat.beq Y 1012800 then some (ko Tryz.f128 0) else none,λg=>bif Nat.beq g 0 then [none,some 374,some 376,some 377,some 378,some 379,some 380] else []⟩
theorem eB:cT bk hy:=as0 aD
theorem eQ:bk.follows .mixedOrders=true:=aD
def oc (l:List aZ):bn:=mc hy (hQ l) (λk st=>.fail) 0
abbrev bc (cO:aZ):Prop:=qT bk cO
theorem pI {F:bn} {f:Nat} {S Z:Shape} {g:S.ty.den->O Z.ty.den} {fn:Func} {m:List (Nat×Code)} (c8:cd bk F.Γ) (aM:bk.funcs[f]? =some fn) (ea:oW bk F fn.ntmps m) (au:F.cx=hy:=by kernel_rfl) (L:fn.body=some (b7 fn):=by kernel_rfl) (cI:nz fn S Z=true:=by kernel_rfl) (jf:eC (b7 fn) 0=m:=by kernel_rfl) (c2:e2 (b7 fn)=false:=by kernel_rfl) (fk:F.m=S.objs.length:=by kernel_rfl) (bB: ∀d,(me F fn S Z d).val=g d:=by intro d;kernel_rfl):cE bk ⟨f,S,Z,g⟩:=
  rQ (F:=F) (au▸eB) c8 eQ aM L cI jf ea (eU _ c2) fk bB
theorem cB {F:bn} {f:Nat} {S Z:Shape} {g:S.ty.den->O Z.ty.den} {fn:Func} {m:List (Nat×Code)} (c8:cd bk F.Γ) (aM:bk.funcs[f]? =some fn) (ea:oW bk F fn.ntmps m) (au:F.cx=hy:=by kernel_rfl) (L:fn.body=some (b7 fn):=by kernel_rfl) (cI:nz fn S Z=true:=by kernel_rfl) (jf:eC (b7 fn) 0=m:=by kernel_rfl) (c2:e2 (b7 fn)=false:=by kernel_rfl) (fk:F.m=S.objs.length:=by kernel_rfl) (an:jA f=false:=by kernel_rfl) (bB: ∀d,(me F fn S Z d).val=g d:=by intro d;kernel_rfl):qT bk ⟨f,S,Z,g⟩:=
  (pI c8 aM ea au L cI jf c2 fk bB).x an
theorem cX {F:bn} {nt:Nat} {ay:bO} {c:Code} {k:Nat} {b:ay.S.ty.den->O (ay.S.ty.den⊕ay.Out)} {m:List (Nat×Code)} (c8:cd bk F.Γ) (ea:oW bk F nt m) (au:F.cx=hy:=by kernel_rfl) (nO:F.Λ k=ay.go (λd=>b8 b d) F.m:=by kernel_rfl) (jf:eC c k=m:=by kernel_rfl) (lP:hB nt c=true:=by kernel_rfl) (c2:e2 c=false:=by kernel_rfl) (L: ∀d,(ay.body F c k d).val=b d:=by intro d;kernel_rfl):hq bk F nt k c:=
  rR (F:=F) (f:=λd=>b8 b d) (au▸eB) c8 eQ (λ_=>rfl) nO jf ea lP (eU _ c2) L
theorem cg {l:List aZ} {f:Nat} {S Z:Shape} {g:S.ty.den->O Z.ty.den} {fn:Func} (aM:bk.funcs[f]? =some fn) (ad:PY bk l) (L:fn.body=some (b7 fn):=by kernel_rfl) (cI:nz fn S Z=true:=by kernel_rfl) (jf:eC (b7 fn) 0=[]:=by kernel_rfl) (c2:e2 (b7 fn)=false:=by kernel_rfl) (fk:0=S.objs.length:=by kernel_rfl) (an:jA f=false:=by kernel_rfl) (bB: ∀d,(me (oc l) fn S Z d).val=g d:=by intro d;kernel_rfl):qT bk ⟨f,S,Z,g⟩:=
  cB (F:=oc l) (m:=[]) (bY ad) aM ai rfl L cI jf c2 fk an bB
abbrev cR (F:bn) (fn:Func) (k i:Nat):Prop:=hq bk F fn.ntmps k (hp (b7 fn) i)
def dw (fn:Func) (ks:dB):List (Nat×Code):=ks.zipIdx.map λs=>(s.1,hp (b7 fn) s.2)
def Vz:List (Nat×(bX->DT (ei×bX)))->Nat->bX->DT (ei×bX)
  |[],_,_=>.fail
  |s::l,k,st=>bif Nat.beq k s.1 then s.2 st else Vz l k st
def cv (l:List aZ) (g:List (Nat×(bX->DT (ei×bX)))) (m:Nat):bn:=mc hy (hQ l) (Vz g) m
def ec (S:Shape) (k:Nat) (X:Shape):bO:=⟨S,.exit k,X,.exit (80000000+k),⟨[],[]⟩⟩
def My:aZ:=⟨162,jF,ew,qn⟩
theorem Zp:bc My:=cg (l:=[]) Tryz.func162 ai
def Ka:aZ:=⟨120,og,ew,lK⟩
theorem Md:bc Ka:=cg (l:=[]) Tryz.func120 ai
def Y8:aZ:=⟨163,⟨[],[]⟩,og,Ou⟩
theorem aqW:bc Y8:=cg (l:=[]) Tryz.func163 ai
def Y7:aZ:=⟨121,Ag,og,AL⟩
theorem aqV:bc Y7:=cg (l:=[My,Ka,Y8]) Tryz.func121 ⟨Zp,Md,aqW,ai⟩
def WB:bO:=ec ⟨[(1,.dat (.list .str)),(2,.ptr 0 ac 0 []),(5,.own ac 1),(6,c6),(7,aL)],Af⟩ 0 ⟨[(2,.ptr 0 ac 0 []),(5,.own ac 1),(6,c6)],Af⟩
def X9:aZ:=⟨119,⟨[(0,.dat ac),(1,.dat (.list .str))],[]⟩,⟨jT,cF⟩,zH⟩
def LZ:bn:=cv [Y7] [(0,WB.go Me 0)] 0
theorem YW:cd bk (LZ).Γ:=bY ⟨aqV,ai⟩
theorem aoA:cR LZ Tryz.f119 0 0:=cX (ay:=WB) (b:=DR) (m:=[]) YW ai
theorem apu:bc X9:=cB (F:=LZ) (fn:=Tryz.f119) (m:=dw Tryz.f119 [0]) YW Tryz.func119 ⟨aoA,ai⟩
def Yh:aZ:=⟨77,Lh,⟨jT,cF⟩,EN⟩
theorem aqc:bc Yh:=cg (l:=[X9]) Tryz.func77 ⟨apu,ai⟩
def Nh:aZ:=⟨96,⟨[(0,.dat ac),(1,c6)],[]⟩,ew,A1⟩
theorem aaQ:bc Nh:=cg (l:=[]) Tryz.func96 ai
def WD:bO:=ec ⟨[(0,.dat (.list bz)),(3,.ptr 0 ac 0 []),(5,.own bz 1),(6,aL)],[.box 39 ac (.dat ac),.arr 58 bz false]⟩ 0 ⟨[(5,.own bz 0)],oh⟩
def Yb:aZ:=⟨37,Fc,kA,F5⟩
def L1:bn:=cv [Nh] [(0,WD.go Mf 0)] 0
theorem Yr:cd bk (L1).Γ:=bY ⟨aaQ,ai⟩
theorem aoD:cR L1 Tryz.f37 0 0:=cX (ay:=WD) (b:=DS) (m:=[]) Yr ai
theorem apx:bc Yb:=cB (F:=L1) (fn:=Tryz.f37) (m:=dw Tryz.f37 [0]) Yr Tryz.func37 ⟨aoD,ai⟩
def Ku:aZ:=⟨118,r6,ew,zP⟩
theorem M4:bc Ku:=cg (l:=[]) Tryz.func118 ai
def TR:aZ:=⟨146,⟨[(0,.dat dm)],[]⟩,⟨[(0,.agg [(.own iC 0)])],[.arr 87 iC false]⟩,Ey⟩
theorem Xp:bc TR:=cg (l:=[]) Tryz.func146 ai
def XU:bO:=⟨⟨[(2,.ptr 0 dm 0 []),(3,.ptr 1 ey 0 []),(4,.ptr 2 kF 0 []),(5,aL)],E8⟩,.ret,⟨[(4,.ptr 0 kF 0 [])],[.box 149 kF (.agg [(.dat dm),aL,aL])]⟩,(.exit 0),⟨[(2,.ptr 0 dm 0 []),(3,.ptr 1 ey 0 []),(4,.ptr 2 kF 0 [])],E8⟩⟩
def XV:bO:=ec ⟨UF,E8⟩ 2 ⟨UF,E8⟩
def XW:bO:=ec ⟨[(3,.ptr 0 ey 0 []),(4,.ptr 1 kF 0 []),(6,aL),(7,.ptr 2 dm 0 []),(8,aL)],[.box 85 ey (.dat ey),.box 149 kF (.agg [oZ,aL,aL]),.box 32 dm (.agg [(.own iC 3)]),.arr 87 iC false]⟩ 4 ⟨[(4,.ptr 0 kF 0 []),(6,aL),(7,.ptr 1 dm 0 [])],[.box 149 kF (.agg [oZ,aL,aL]),.box 32 dm (.agg [(.own iC 2)]),.arr 87 iC false]⟩
def Ni:aZ:=⟨88,⟨[(0,.dat dm),(1,.dat ey)],[]⟩,⟨[(0,.dat kF)],[]⟩,tX⟩
def Ep:bn:=cv [Ku,TR] [(0,XU.go NO 0),(2,XV.go NP 0),(4,XW.go NQ 0)] 0
theorem FP:cd bk (Ep).Γ:=bY ⟨M4,Xp,ai⟩
theorem aqs:cR Ep Tryz.f88 0 0:=cX (ay:=XU) (b:=Ev) (m:=[]) FP ai
theorem aqt:cR Ep Tryz.f88 2 1:=cX (ay:=XV) (b:=Ew) (m:=[]) FP ai
theorem aqu:cR Ep Tryz.f88 4 2:=cX (ay:=XW) (b:=Ex) (m:=[]) FP ai
theorem aaT:bc Ni:=cB (F:=Ep) (fn:=Tryz.f88) (m:=dw Tryz.f88 [0,2,4]) FP Tryz.func88 ⟨aqs,aqt,aqu,ai⟩
def ZN:aZ:=⟨157,⟨[(0,.dat eL),(1,.dat eL)],[]⟩,wR,AN⟩
theorem aqp:bc ZN:=cg (l:=[]) Tryz.func157 ai
def X8:aZ:=⟨245,⟨[(0,c6),(1,aL)],[]⟩,Fm,abf⟩
theorem apq:bc X8:=cg (l:=[]) Tryz.func245 ai
def Wy:bO:=ec ⟨[(0,c6),(4,.own .str 0),(5,c6),(6,aL)],[.arr 9 .str false]⟩ 0 ⟨[(4,.own .str 0),(5,c6)],[.arr 9 .str false]⟩
def X7:aZ:=⟨247,hi,⟨[(0,.own .str 0),(1,dA)],[.arr 9 .str false]⟩,abe⟩
def LW:bn:=cv [] [(0,Wy.go YK 0)] 0
theorem YJ:cd bk (LW).Γ:=bY ai
theorem aow:cR LW Tryz.f247 0 0:=cX (ay:=Wy) (b:=YI) (m:=[]) YJ ai
theorem apo:bc X7:=cB (F:=LW) (fn:=Tryz.f247) (m:=dw Tryz.f247 [0]) YJ Tryz.func247 ⟨aow,ai⟩
def Xy:bO:=⟨⟨[(0,c6),(3,aL)],[]⟩,.ret,r5,(.exit 0),⟨[],[]⟩⟩
def Mx:aZ:=⟨248,hi,ew,Ot⟩
def MK:bn:=cv [] [(0,Xy.go Zn 0)] 0
theorem Zm:cd bk (MK).Γ:=bY ai
theorem apn:cR MK Tryz.f248 0 0:=cX (ay:=Xy) (b:=Zl) (m:=[]) Zm ai
theorem Zo:bc Mx:=cB (F:=MK) (fn:=Tryz.f248) (m:=dw Tryz.f248 [0]) Zm Tryz.func248 ⟨apn,ai⟩
def WA:bO:=⟨⟨[(3,.own .str 0),(4,dA),(5,aL)],[.arr 9 .str false]⟩,.ret,r5,(.exit 0),uw⟩
def Mb:aZ:=⟨228,hi,ew,EL⟩
def LY:bn:=cv [X7,Mx] [(0,WA.go YR 0)] 0
theorem YQ:cd bk (LY).Γ:=bY ⟨apo,Zo,ai⟩
theorem aoy:cR LY Tryz.f228 0 0:=cX (ay:=WA) (b:=YP) (m:=[]) YQ ai
theorem YS:bc Mb:=cB (F:=LY) (fn:=Tryz.f228) (m:=dw Tryz.f228 [0]) YQ Tryz.func228 ⟨aoy,ai⟩
def Xx:bO:=ec ⟨[(0,aL),(3,c6),(4,aL)],[]⟩ 0 ⟨[(3,c6)],[]⟩
def Y6:aZ:=⟨249,iB,hi,abS⟩
def MJ:bn:=cv [] [(0,Xx.go Zk 0)] 0
theorem Zi:cd bk (MJ).Γ:=bY ai
theorem apm:cR MJ Tryz.f249 0 0:=cX (ay:=Xx) (b:=Zh) (m:=[]) Zi ai
theorem aqU:bc Y6:=cB (F:=MJ) (fn:=Tryz.f249) (m:=dw Tryz.f249 [0]) Zi Tryz.func249 ⟨apm,ai⟩
def VQ:bO:=ec ⟨[(0,c6),(3,aL),(4,aL)],[]⟩ 0 ⟨[(0,c6),(3,aL)],[]⟩
def TP:aZ:=⟨229,hi,ew,FK⟩
def TV:bn:=cv [Y6] [(0,VQ.go Xh 0)] 0
theorem Xg:cd bk (TV).Γ:=bY ⟨aqU,ai⟩
theorem aof:cR TV Tryz.f229 0 0:=cX (ay:=VQ) (b:=Xf) (m:=[]) Xg ai
theorem Xi:bc TP:=cB (F:=TV) (fn:=Tryz.f229) (m:=dw Tryz.f229 [0]) Xg Tryz.func229 ⟨aof,ai⟩
def sK:bO:=⟨⟨[(1,.ptr 0 hG 0 []),(32,dA)],w0⟩,.nrm,⟨[(1,.ptr 0 hG 0 [])],w0⟩,.ret,r5⟩
def sX:bO:=⟨⟨[(1,.ptr 0 hG 0 [])],w0⟩,.ret,r5,(.exit 90000010),⟨[],[]⟩⟩
def sS:bO:=⟨⟨[(1,.ptr 0 hG 0 [])],w0⟩,.ret,r5,(.exit 90000003),⟨[],[]⟩⟩
def vU:aZ:=⟨259,Fm,ew,abg⟩
def ov:bn:=oc [Mx,Mb,TP]
def th:lD:=[(100002,sK.go lE 0),(10,sX.go yZ 0),(3,sS.go lF 0)]
theorem amz (d:sK.S.ty.den): @Eq (O sK.Out) ((gQ ov th (e0 (b7 Tryz.f259) 100002) 0 (sK.S.enc d)).bind λ(e,st)=>sK.out (ov).m e st).val (lE d):=aD
theorem anm (d:sX.S.ty.den): @Eq (O sX.Out) ((gQ ov th (e0 (b7 Tryz.f259) 10) 0 (sX.S.enc d)).bind λ(e,st)=>sX.out (ov).m e st).val (yZ d):=aD
theorem anD (d:sS.S.ty.den): @Eq (O sS.Out) ((gQ ov th (e0 (b7 Tryz.f259) 3) 0 (sS.S.enc d)).bind λ(e,st)=>sS.out (ov).m e st).val (lF d):=aD
theorem apr (d:(vU).S.ty.den):(su ov th Tryz.f259 (vU).S (vU).Z d).val=(vU).g d:=aD
theorem Kd:cd bk (ov).Γ:=bY ⟨Zo,YS,Xi,ai⟩
theorem amA:jP bk ov Tryz.f259.ntmps (sK.go lE 0) (e0 (b7 Tryz.f259) 100002):=
  lX eB Kd eQ (ay:=sK) (k:=0) (f:=lE) (C:=th) (l:=[]) (m:=[]) aD ai aD ai aD (eU _ aD) amz
theorem ann:jP bk ov Tryz.f259.ntmps (sX.go yZ 0) (e0 (b7 Tryz.f259) 10):=
  lX eB Kd eQ (ay:=sX) (k:=0) (f:=yZ) (C:=th) (l:=[]) (m:=[]) aD ai aD ai aD (eU _ aD) anm
theorem anE:jP bk ov Tryz.f259.ntmps (sS.go lF 0) (e0 (b7 Tryz.f259) 3):=
  lX eB Kd eQ (ay:=sS) (k:=0) (f:=lF) (C:=th) (l:=[]) (m:=[(sX.go yZ 0,e0 (b7 Tryz.f259) 10)]) aD ai aD ⟨ann,ai⟩ aD (eU _ aD) anD
theorem aps:cE bk vU:=
  AK (C:=th) (F:=ov) eB Kd eQ (fn:=Tryz.f259) (l:=[]) (m:=[(sK.go lE 0,e0 (b7 Tryz.f259) 100002),(sS.go lF 0,e0 (b7 Tryz.f259) 3)]) Tryz.func259 aD aD aD ai aD ⟨amA,anE,ai⟩ (eU _ aD) aD apr
theorem apt:bc vU:=(aps).x aD
def aag:aZ:=⟨246,Fm,⟨[(0,c6),(1,aL)],[]⟩,acB⟩
theorem arY:bc aag:=cg (l:=[vU]) Tryz.func246 ⟨apt,ai⟩
def Wz:bO:=⟨⟨[(0,c6),(2,.ptr 0 hG 0 []),(4,aL)],[.box 245 hG E9]⟩,.ret,⟨[(2,.ptr 0 hG 0 []),(3,aL)],w0⟩,(.exit 0),⟨[(2,.ptr 0 hG 0 [])],[.box 245 hG E9]⟩⟩
def Ma:aZ:=⟨227,hi,⟨[(0,.dat hG),(1,aL)],[]⟩,tD⟩
def LX:bn:=cv [X8,aag] [(0,Wz.go YN 0)] 0
theorem YM:cd bk (LX).Γ:=bY ⟨apq,arY,ai⟩
theorem aox:cR LX Tryz.f227 0 0:=cX (ay:=Wz) (b:=YL) (m:=[]) YM ai
theorem YO:bc Ma:=cB (F:=LX) (fn:=Tryz.f227) (m:=dw Tryz.f227 [0]) YM Tryz.func227 ⟨aox,ai⟩
def Wn:aZ:=⟨199,hi,ew,tp⟩
theorem aoh:bc Wn:=cg (l:=[Ma]) Tryz.func199 ⟨YO,ai⟩
def Xb:aZ:=⟨200,⟨[(0,.dat ja),(1,aL)],[]⟩,ur,rG⟩
theorem aoG:bc Xb:=cg (l:=[]) Tryz.func200 ai
def Yi:aZ:=⟨201,⟨[(0,.dat ja),(1,aL)],[]⟩,ur,tE⟩
theorem aqd:bc Yi:=cg (l:=[]) Tryz.func201 ai
def Yf:aZ:=⟨202,jF,ew,tM⟩
theorem aqa:bc Yf:=cg (l:=[Mb,TP]) Tryz.func202 ⟨YS,Xi,ai⟩
def Xa:aZ:=⟨158,⟨[(0,.dat eL),(1,.dat am)],[]⟩,wR,k9⟩
theorem aoF:bc Xa:=cg (l:=[Wn,Xb,Yi,Yf]) Tryz.func158 ⟨aoh,aoG,aqd,aqa,ai⟩
def W8:aZ:=⟨198,Fo,ur,zw⟩
theorem aoB:bc W8:=cg (l:=[Ma]) Tryz.func198 ⟨YO,ai⟩
def WC:bO:=ec ⟨[(0,.dat (.list bz)),(2,.ptr 0 ja 0 []),(3,.ptr 1 ja 0 []),(4,aL)],Fb⟩ 0 ⟨[(2,.ptr 0 ja 0 []),(3,.ptr 1 ja 0 [])],Fb⟩
def Ya:aZ:=⟨156,uo,ur,zI⟩
def L0:bn:=cv [W8] [(0,WC.go Ke 0)] 0
theorem YX:cd bk (L0).Γ:=bY ⟨aoB,ai⟩
theorem aoC:cR L0 Tryz.f156 0 0:=cX (ay:=WC) (b:=tk) (m:=[]) YX ai
theorem apv:bc Ya:=cB (F:=L0) (fn:=Tryz.f156) (m:=dw Tryz.f156 [0]) YX Tryz.func156 ⟨aoC,ai⟩
def Yg:aZ:=⟨155,ur,wR,F6⟩
theorem aqb:bc Yg:=cg (l:=[]) Tryz.func155 ai
def XS:bO:=ec ⟨[(1,.ptr 0 ey 0 []),(2,.ptr 1 eL 0 []),(3,.ptr 2 eL 0 []),(4,aL)],K4⟩ 0 ⟨[(1,.ptr 0 ey 0 []),(2,.ptr 1 eL 0 []),(3,.ptr 2 eL 0 [])],K4⟩
def XT:bO:=ec ⟨[(1,.ptr 0 ey 0 []),(2,.ptr 1 eL 0 []),(3,.ptr 2 eL 0 []),(5,aL)],K4⟩ 2 ⟨[(2,.ptr 0 eL 0 []),(3,.ptr 1 eL 0 [])],[.box 95 eL mO,.box 95 eL (.dat eL)]⟩
def aaz:aZ:=⟨105,⟨[(0,.dat ey)],[]⟩,wR,na⟩
def KP:bn:=cv [ZN,Xa,Ya,Yg] [(0,XS.go FN 0),(2,XT.go FO 0)] 0
theorem NM:cd bk (KP).Γ:=bY ⟨aqp,aoF,apv,aqb,ai⟩
theorem aqq:cR KP Tryz.f105 0 0:=cX (ay:=XS) (b:=ts) (m:=[]) NM ai
theorem aqr:cR KP Tryz.f105 2 1:=cX (ay:=XT) (b:=tt) (m:=[]) NM ai
theorem ar2:bc aaz:=cB (F:=KP) (fn:=Tryz.f105) (m:=dw Tryz.f105 [0,2]) NM Tryz.func105 ⟨aqq,aqr,ai⟩
def Wo:aZ:=⟨118,⟨[(0,.agg [(.own iC 0)]),(1,aL)],[.arr 87 iC false]⟩,⟨[(0,dA)],[.arr 87 iC false]⟩,KL⟩
def anL:bn:=cv [] [] 1
theorem aoi:bc Wo:=cB (F:=anL) (fn:=Tryz.f118) (m:=[]) (bY ai) Tryz.func118 ai
def XD:bO:=ec ⟨[(4,.ptr 0 dm 0 []),(6,.ptr 1 dm 0 []),(7,.dat (.list (.int .i64)))],Ad⟩ 0 ⟨[(4,.ptr 0 dm 0 []),(6,.ptr 1 dm 0 [])],Ad⟩
def MC:aZ:=⟨89,r6,r6,zO⟩
def MP:bn:=cv [Ku,TR,Wo] [(0,XD.go M3 0)] 0
theorem Zx:cd bk (MP).Γ:=bY ⟨M4,Xp,aoi,ai⟩
theorem aqe:cR MP Tryz.f89 0 0:=cX (ay:=XD) (b:=Ej) (m:=[]) Zx ai
theorem Zy:bc MC:=cB (F:=MP) (fn:=Tryz.f89) (m:=dw Tryz.f89 [0]) Zx Tryz.func89 ⟨aqe,ai⟩
def zt:aZ:=⟨98,r6,ew,oP⟩
theorem EE:bc zt:=cg (l:=[]) Tryz.func98 ai
def tx:aZ:=⟨59,r6,⟨[(0,.dat ey),(1,aL)],[]⟩,d9⟩
theorem zG:bc tx:=cg (l:=[zt]) Tryz.func59 ⟨EE,ai⟩
end D
open Go Go.X Go.Proofs D
namespace D
def ait:aZ:=⟨230,hi,ew,i9⟩
theorem amE:bc ait:=cg (l:=[]) Tryz.func230 ai
def ah8:aZ:=⟨205,jF,iB,Dl⟩
theorem amg:bc ah8:=cg (l:=[ait]) Tryz.func205 ⟨amE,ai⟩
def Jj:aZ:=⟨161,jF,iB,pZ⟩
theorem Te:bc Jj:=cg (l:=[ah8]) Tryz.func161 ⟨amg,ai⟩
def ahj:bO:=ec ⟨[(0,.dat (.list .str)),(1,.fn 161 [] []),(5,c6),(6,aL)],[]⟩ 0 ⟨[(5,c6)],[]⟩
def ahy:aZ:=⟨160,⟨[(0,.dat (.list .str)),(1,.fn 161 [] [])],[]⟩,hi,Sz⟩
def Ss:bn:=cv [Jj] [(0,ahj.go ip 0)] 0
theorem ahz:cd bk (Ss).Γ:=bY ⟨Te,ai⟩
theorem ayx:cR Ss Tryz.f160 0 0:=cX (ay:=ahj) (b:=xY) (m:=[]) ahz ai
theorem ayX:bc ahy:=cB (F:=Ss) (fn:=Tryz.f160) (m:=dw Tryz.f160 [0]) ahz Tryz.func160 ⟨ayx,ai⟩
def ZR:aZ:=⟨117,⟨[(0,.dat (.list .str))],[]⟩,hi,Gk⟩
theorem aqB:bc ZR:=cg (l:=[ahy]) Tryz.func117 ⟨ayX,ai⟩
def rD:aZ:=⟨74,og,ew,kI⟩
theorem tq:bc rD:=cg (l:=[]) Tryz.func74 ai
def Eo:aZ:=⟨75,Ag,og,tY⟩
theorem FT:bc Eo:=cg (l:=[ZR,rD]) Tryz.func75 ⟨aqB,tq,ai⟩
def XG:bO:=ec ⟨[(2,.ptr 0 ac 0 []),(5,.own ac 1),(6,c6),(9,.dat (.list .str)),(10,aL),(11,aL)],Af⟩ 0 ⟨[(2,.ptr 0 ac 0 []),(5,.own ac 1),(6,c6)],Af⟩
def ZQ:aZ:=⟨114,⟨[(0,.dat ac),(1,.dat (.list .str))],[]⟩,⟨jT,cF⟩,rU⟩
def MQ:bn:=cv [Eo] [(0,XG.go ZE 0)] 0
theorem ZD:cd bk (MQ).Γ:=bY ⟨FT,ai⟩
theorem aql:cR MQ Tryz.f114 0 0:=cX (ay:=XG) (b:=ZC) (m:=[]) ZD ai
theorem aqz:bc ZQ:=cB (F:=MQ) (fn:=Tryz.f114) (m:=dw Tryz.f114 [0]) ZD Tryz.func114 ⟨aql,ai⟩
def Mt:aZ:=⟨67,Lh,⟨jT,cF⟩,AQ⟩
theorem Z6:bc Mt:=cg (l:=[ZQ]) Tryz.func67 ⟨aqz,ai⟩
def ET:aZ:=⟨216,hi,og,qw⟩
theorem F9:bc ET:=cg (l:=[]) Tryz.func216 ai
def JF:aZ:=⟨324,gn,⟨jT,cF⟩,Ms⟩
theorem Wd:bc JF:=cg (l:=[ET]) Tryz.func324 ⟨F9,ai⟩
def Jy:aZ:=⟨337,gn,⟨jT,cF⟩,Mp⟩
theorem V6:bc Jy:=cg (l:=[ET]) Tryz.func337 ⟨F9,ai⟩
def Jt:aZ:=⟨348,gn,⟨jT,cF⟩,TZ⟩
theorem VV:bc Jt:=cg (l:=[]) Tryz.func348 ai
def WE:bO:=ec Ug 0 Ug
def ii:aZ:=⟨217,hi,og,kU⟩
def L2:bn:=cv [] [(0,WE.go Mj 0)] 0
theorem Yw:cd bk (L2).Γ:=bY ai
theorem aoN:cR L2 Tryz.f217 0 0:=cX (ay:=WE) (b:=zg) (m:=[]) Yw ai
theorem rB:bc ii:=cB (F:=L2) (fn:=Tryz.f217) (m:=dw Tryz.f217 [0]) Yw Tryz.func217 ⟨aoN,ai⟩
def pu:aZ:=⟨355,gn,⟨jT,cF⟩,T0⟩
theorem VW:bc pu:=cg (l:=[ii]) Tryz.func355 ⟨rB,ai⟩
def ol:aZ:=⟨365,gn,⟨jT,cF⟩,TJ⟩
theorem aiY:bc ol:=cg (l:=[ii]) Tryz.func365 ⟨rB,ai⟩
def Ji:aZ:=⟨371,gn,⟨jT,cF⟩,TK⟩
theorem aiZ:bc Ji:=cg (l:=[]) Tryz.func371 ai
def YY:aZ:=⟨72,gn,⟨jT,cF⟩,qk⟩
noncomputable def apY:bn:=mc hy (FG hy (hQ [JF,Jy,Jt,pu,ol,Ji]) 110 Tryz.f110 (hQ [JF,Jy,Jt,pu,ol,Ji])) (λk st=>.fail) 0
theorem aqH:bc YY:=cB (F:=apY) (fn:=Tryz.f72) (m:=[]) (Gd aD (Gx (F:=(mc hy (hQ [JF,Jy,Jt,pu,ol,Ji]) (λ_ _=>.fail) 0)) eB (bY ⟨Wd,V6,VV,VW,aiY,aiZ,ai⟩) eQ Tryz.func110 aD aD aD) (bY ⟨Wd,V6,VV,VW,aiY,aiZ,ai⟩)) Tryz.func72 ai
def tr:aZ:=⟨60,⟨[(0,.dat ey)],[]⟩,ew,tS⟩
theorem zz:bc tr:=cg (l:=[]) Tryz.func60 ai
def Sm:aZ:=⟨231,jF,iB,SB⟩
set_option maxHeartbeats 1000000 in
theorem ayu (a b:ByteArray) (w:World):Calls bk 231 #[.string a,.string b] w λe aq=>e=.returned (.int .i64 (Lib.compareBytes a.data.toList b.data.toList))/\aq=w:=by
  go_enter Tryz.func231,Tryz.ntmps231
  go_wp2
  rw[run_callFunc_extern Tryz.func250 aD aD aD (e:=Extern.BytealgCompare.compare) aD,Lib.run_compareString]
  simp only[Result.andThen]
  rw[Oper.upon_value]
  go_wp2
  go_ret
  exact ⟨rfl,rfl⟩
theorem ay2:cE bk Sm:=alU (g:=λa b=>Lib.compareBytes a b) Tryz.func231 aD ayu
theorem ay3:bc Sm:=ay2.x aD
def VG:aZ:=⟨208,jF,iB,T7⟩
theorem ano:bc VG:=cg (l:=[Sm]) Tryz.func208 ⟨ay3,ai⟩
def Wq:aZ:=⟨207,⟨[(0,.dat bz),(1,c6)],[]⟩,iB,Em⟩
theorem an3:bc Wq:=cg (l:=[VG]) Tryz.func207 ⟨ano,ai⟩
def aew:bO:=ec ⟨[(0,.dat (.list bz)),(1,c6),(2,.fn 207 [] []),(8,aL),(9,aL),(10,aL)],[]⟩ 0 ⟨[(0,.dat (.list bz)),(1,c6),(2,.fn 207 [] []),(8,aL),(9,aL)],[]⟩
def aeu:aZ:=⟨206,⟨[(0,.dat (.list bz)),(1,c6),(2,.fn 207 [] [])],[]⟩,⟨[(0,aL),(1,dA)],[]⟩,HC⟩
def Qh:bn:=cv [Wq] [(0,aew.go Qi 0)] 0
theorem aev:cd bk (Qh).Γ:=bY ⟨an3,ai⟩
theorem aw4:cR Qh Tryz.f206 0 0:=cX (ay:=aew) (b:=HB) (m:=[]) aev ai
theorem aw3:bc aeu:=cB (F:=Qh) (fn:=Tryz.f206) (m:=dw Tryz.f206 [0]) aev Tryz.func206 ⟨aw4,ai⟩
def Kb:aZ:=⟨164,Lg,⟨[(0,aL),(1,dA)],[]⟩,wB⟩
theorem Mn:bc Kb:=cg (l:=[aeu]) Tryz.func164 ⟨aw3,ai⟩
def MD:aZ:=⟨127,Lg,⟨[(0,.dat bz),(1,dA)],[]⟩,ab0⟩
theorem aqC:bc MD:=cg (l:=[Kb]) Tryz.func127 ⟨Mn,ai⟩
def i6:aZ:=⟨165,⟨[(0,.dat (.list am))],[]⟩,⟨[(0,.fn 209 [] [(.ptr 0 (.list am) 0 [])])],[.box 83 (.list am) (.dat (.list am))]⟩,Ip⟩
theorem ahw:bc i6:=cg (l:=[]) Tryz.func165 ai
def wz:aZ:=⟨174,⟨[(0,.dat ac),(1,c6)],[]⟩,ew,pE⟩
theorem zJ:bc wz:=cg (l:=[]) Tryz.func174 ai
def LR:aZ:=⟨375,⟨[(0,.ptr 0 j3 0 []),(1,aL)],[.box 190 j3 r7]⟩,⟨[],[.box 190 j3 r7]⟩,N4⟩
def ape:bn:=cv [] [] 1
theorem YA:bc LR:=cB (F:=ape) (fn:=Tryz.f375) (m:=[]) (bY ai) Tryz.func375 ai
def Ww:aZ:=⟨380,wX,wW,ZL⟩
def anR:bn:=cv [wz,LR] [] 1
theorem an9:bc Ww:=cB (F:=anR) (fn:=Tryz.f380) (m:=[]) (bY ⟨zJ,YA,ai⟩) Tryz.func380 ai
def Sn:aZ:=⟨270,jF,ew,sz⟩
theorem ahF:bc Sn:=cg (l:=[]) Tryz.func270 ai
def ahE:aZ:=⟨253,jF,⟨[(0,c6),(1,dA)],[]⟩,SC⟩
theorem ay4:bc ahE:=cg (l:=[Sn]) Tryz.func253 ⟨ahF,ai⟩
def S6:aZ:=⟨240,jF,⟨[(0,c6),(1,dA)],[]⟩,JK⟩
theorem aiD:bc S6:=cg (l:=[ahE]) Tryz.func240 ⟨ay4,ai⟩
end D
open Go Go.X Go.Proofs D
namespace D
def Kv:aZ:=⟨239,⟨[(0,c6),(1,c6),(2,c6)],[]⟩,⟨[(0,c6),(1,dA)],[]⟩,wE⟩
theorem M9:bc Kv:=cg (l:=[S6]) Tryz.func239 ⟨aiD,ai⟩
def ME:aZ:=⟨379,wX,wW,OB⟩
def ap3:bn:=cv [Kv] [] 1
theorem ZG:bc ME:=cB (F:=ap3) (fn:=Tryz.f379) (m:=[]) (bY ⟨M9,ai⟩) Tryz.func379 ai
def S8:aZ:=⟨359,jF,ew,yO⟩
theorem aiE:bc S8:=cg (l:=[Sn]) Tryz.func359 ⟨ahF,ai⟩
def Wv:aZ:=⟨378,wX,wW,ZK⟩
def anQ:bn:=cv [ME,S8] [] 1
theorem an8:bc Wv:=cB (F:=anQ) (fn:=Tryz.f378) (m:=[]) (bY ⟨ZG,aiE,ai⟩) Tryz.func378 ai
def Wu:aZ:=⟨377,wX,wW,ZJ⟩
def anP:bn:=cv [wz] [] 1
theorem an7:bc Wu:=cB (F:=anP) (fn:=Tryz.f377) (m:=[]) (bY ⟨zJ,ai⟩) Tryz.func377 ai
def Wt:aZ:=⟨376,wX,wW,ZI⟩
def anO:bn:=cv [] [] 1
theorem an6:bc Wt:=cB (F:=anO) (fn:=Tryz.f376) (m:=[]) (bY ai) Tryz.func376 ai
def Ws:aZ:=⟨374,wX,wW,ZH⟩
def anN:bn:=cv [LR] [] 1
theorem an5:bc Ws:=cB (F:=anN) (fn:=Tryz.f374) (m:=[]) (bY ⟨YA,ai⟩) Tryz.func374 ai
def Tj:Shape:=⟨[(0,.yld 1012800 0),(1,aL),(2,.dat am)],Ux⟩
def Tk:Shape:=⟨[(0,dA)],Ux⟩
def aiS:aZ:=⟨1012800,Tj,Tk,TD⟩
def aiT:bn:=cv [Ww,ME,Wv,Wu,Wt,Ws] [] 3
theorem anf (d:Tj.ty.den): @Eq (O Tk.ty.den) (sv aiT gf 1012800 (ko Tryz.f128 0) Tj Tk d).val (TD d):=aD
theorem ang:bc aiS:=
  Gh (F:=aiT) (c:=ko Tryz.f128 0) eB (bY ⟨an9,ZG,an8,an7,an6,an5,ai⟩) eQ aD aD aD (m:=[]) aD ai aD anf
def agD:bO:=⟨⟨[(0,.yld 1012800 0),(1,.ptr 1 (.list am) 0 []),(3,aL)],Ah⟩,.ret,⟨[],Ah⟩,(.exit 0),⟨[],Ah⟩⟩
def agS:aZ:=⟨209,⟨[(0,.yld 1012800 0),(1,.ptr 1 (.list am) 0 [])],Ah⟩,⟨[],Ah⟩,ahv⟩
def Q4:bn:=cv [aiS] [(0,agD.go ag4 4)] 4
theorem ag3:cd bk (Q4).Γ:=bY ⟨ang,ai⟩
theorem ax3:cR Q4 Tryz.f209 0 0:=cX (ay:=agD) (b:=ag2) (m:=[]) ag3 ai
theorem ayc:bc agS:=cB (F:=Q4) (fn:=Tryz.f209) (m:=dw Tryz.f209 [0]) ag3 Tryz.func209 ⟨ax3,ai⟩
def Ns:Shape:=⟨[(0,c6),(1,.dat (.list am))],[]⟩
def Nt:Shape:=⟨[(0,.dat j3)],[]⟩
def KO:aZ:=⟨128,Ns,Nt,OW⟩
def aaE:bn:={cx:=hy,Γ:=hQ [i6,agS],Λ:=λk st=>.fail,keep:=λ_=>none,m:=0,rfs:=λk=>bif Nat.beq k 3 then some 1012800 else none,its:=[209]}
theorem aru (d:Ns.ty.den): @Eq (O Nt.ty.den) (me aaE Tryz.f128 Ns Nt d).val (OW d):=aD
theorem arv:cE bk KO:=
  rQ (F:=aaE) eB (bY ⟨ahw,ayc,ai⟩) eQ (fn:=Tryz.f128) (m:=[]) Tryz.func128 aD aD aD ai (Bw (m:=[(3,ko Tryz.f128 0)]) (its:=[209]) aD ⟨BF (Y:=1012800) aD aD,ai⟩ aD ⟨⟨_,Tryz.func209,aD,aD⟩,ai⟩) aD aru
theorem arw:bc KO:=(arv).x aD
def Th:aZ:=⟨232,hi,ew,yY⟩
theorem aiX:bc Th:=cg (l:=[]) Tryz.func232 ai
def VK:aZ:=⟨210,jF,ew,XJ⟩
theorem ans:bc VK:=cg (l:=[Th]) Tryz.func210 ⟨aiX,ai⟩
def aih:aZ:=⟨211,hi,ew,Td⟩
theorem amr:bc aih:=cg (l:=[]) Tryz.func211 ai
def agM:bO:=ec ⟨[(0,.dat (.list .str)),(1,c6),(6,aL),(7,aL),(8,aL)],[]⟩ 0 ⟨[(0,.dat (.list .str)),(1,c6),(6,aL),(7,aL)],[]⟩
def ag7:aZ:=⟨166,⟨[(0,.dat (.list .str)),(1,c6)],[]⟩,⟨[(0,aL),(1,dA)],[]⟩,ahH⟩
def QW:bn:=cv [VK,aih] [(0,agM.go ahg 0)] 0
theorem ahf:cd bk (QW).Γ:=bY ⟨ans,amr,ai⟩
theorem ayd:cR QW Tryz.f166 0 0:=cX (ay:=agM) (b:=ahe) (m:=[]) ahf ai
theorem ayw:bc ag7:=cB (F:=QW) (fn:=Tryz.f166) (m:=dw Tryz.f166 [0]) ahf Tryz.func166 ⟨ayd,ai⟩
def Nj:aZ:=⟨131,⟨[(0,c6),(1,.dat (.list .str))],[]⟩,iB,acE⟩
theorem ark:bc Nj:=cg (l:=[ag7]) Tryz.func131 ⟨ayw,ai⟩
def LQ:aZ:=⟨130,⟨[(0,.dat j3),(1,.dat bz),(2,dA)],[]⟩,⟨[(0,.dat bz),(1,dA)],[]⟩,abo⟩
theorem apR:bc LQ:=cg (l:=[]) Tryz.func130 ai
def ZW:bO:=⟨⟨[(1,c6),(2,.ptr 0 jn 0 []),(4,.ptr 1 bz 0 []),(5,.ptr 2 .bool 0 []),(6,.ptr 3 (.int .i64) 0 []),(8,aL),(1000000000,.dfr 129 [(.ptr 3 (.int .i64) 0 [])] [(.ptr 1 bz 0 []),(.ptr 2 .bool 0 [])] j3)],[.box 36 jn (.dat jn),.box 58 bz (.agg [c6,c6,aL]),.box 4 .bool dA,.box 3 (.int .i64) aL]⟩,.ret,Ui,(.exit 80000000),⟨[],[]⟩⟩
def zm:bO:=⟨Ui,.nrm,⟨[(4,.ptr 0 bz 0 []),(5,.ptr 1 .bool 0 []),(6,.ptr 2 (.int .i64) 0 []),(7,aL)],[.box 58 bz (.dat bz),.box 4 .bool dA,.box 3 (.int .i64) aL]⟩,(.exit 80000000),⟨[],[]⟩⟩
def wA:Shape:=⟨[(0,.dat jn),(1,c6)],[]⟩
def wk:Shape:=⟨[(0,.dat bz),(1,dA),(2,aL),(3,aL)],[]⟩
def arC:aZ:=⟨81,wA,wk,GY⟩
def EU:bn:={cx:=hy,Γ:=hQ [tx,tr,MD,KO,Nj,LQ],Λ:=λk st=>bif Nat.beq k 0 then ZW.go abr 0 st else bif Nat.beq k dK then zm.go N6 0 st else .fail,keep:=λ_=>none,m:=0,dfr:=λk=>bif Nat.beq k 0 then some (129,[6],[4,5],j3) else none}
def aaG:bn:=mc hy (hQ [tx,tr,MD,KO,Nj,LQ]) (λ_ _=>.fail) 3
theorem apT (d:zm.S.ty.den): @Eq (O (zm.S.ty.den⊕zm.Out)) (uK zm (EU).m aaG 129 Tryz.f129 d).val (N5 d):=aD
theorem asV (d:wA.ty.den): @Eq (O wk.ty.den) (Hx EU Tryz.f81 wA wk d).val (GY d):=aD
theorem N7:cd bk (EU).Γ:=bY ⟨zG,zz,aqC,arw,ark,apR,ai⟩
theorem ary:cR EU Tryz.f81 0 0:=cX (ay:=ZW) (b:=abq) (m:=[]) N7 ai
theorem asW:cE bk arC:=
  asL (F:=EU) (Fd:=aaG) (ay:=zm) (fd:=129) (hA:=Tryz.f129) (b:=N5) (g:=N6) eB N7 eQ (fn:=Tryz.f81) (m:=dw Tryz.f81 [0]) Tryz.func81 aD aD aD ⟨ary,ai⟩ (λ_=>rfl) aD eB N7 Tryz.func129 aD aD aD aD apT aD asV
def Xc:aZ:=⟨147,Li,ew,FU⟩
theorem aoU:bc Xc:=cg (l:=[]) Tryz.func147 ai
def MG:aZ:=⟨90,⟨[(0,.dat Gl)],[]⟩,ew,zS⟩
theorem aaj:bc MG:=cg (l:=[Xc]) Tryz.func90 ⟨aoU,ai⟩
def Y2:aZ:=⟨112,⟨[(0,.dat iC)],[]⟩,ew,Gn⟩
theorem aqO:bc Y2:=cg (l:=[]) Tryz.func112 ai
def agF:bO:=⟨⟨[(0,.dat (.list iC)),(1,.fn 112 [] []),(7,aL),(8,aL)],[]⟩,.ret,⟨[(4,aL)],[]⟩,(.exit 0),⟨[],[]⟩⟩
def agU:aZ:=⟨111,⟨[(0,.dat (.list iC)),(1,.fn 112 [] [])],[]⟩,iB,Ck⟩
def QQ:bn:=cv [Y2] [(0,agF.go QT 0)] 0
theorem ag6:cd bk (QQ).Γ:=bY ⟨aqO,ai⟩
theorem aym:cR QQ Tryz.f111 0 0:=cX (ay:=agF) (b:=xU) (m:=[]) ag6 ai
theorem ayf:bc agU:=cB (F:=QQ) (fn:=Tryz.f111) (m:=dw Tryz.f111 [0]) ag6 Tryz.func111 ⟨aym,ai⟩
def Mw:aZ:=⟨104,⟨[(0,.dat dm)],[]⟩,⟨[(0,.agg [(.own iC 0)])],[.arr 87 iC false]⟩,AS⟩
theorem Zf:bc Mw:=cg (l:=[]) Tryz.func104 ai
def ZU:bO:=⟨⟨[(2,.ptr 0 dm 0 []),(3,.ptr 1 ey 0 []),(4,.ptr 2 dm 0 []),(14,.dat (.list (.int .i64))),(15,aL),(16,aL)],UG⟩,.ret,⟨[(4,.ptr 0 dm 0 []),(5,aL),(6,aL)],[.box 32 dm (.dat dm)]⟩,(.exit 0),⟨[(2,.ptr 0 dm 0 []),(3,.ptr 1 ey 0 []),(4,.ptr 2 dm 0 [])],UG⟩⟩
def ZV:bO:=ec ⟨[(4,.ptr 0 dm 0 []),(9,aL),(10,.ptr 1 dm 0 []),(57,.dat (.list (.int .i64))),(58,aL),(59,aL)],Ad⟩ 2 ⟨[(4,.ptr 0 dm 0 []),(9,aL),(10,.ptr 1 dm 0 [])],Ad⟩
def NZ:aZ:=⟨63,⟨[(0,.dat dm),(1,.dat ey)],[]⟩,⟨[(0,.dat dm),(1,aL),(2,aL)],[]⟩,kR⟩
def FX:bn:=cv [zt,agU,Mw] [(0,ZU.go Oc 0),(2,ZV.go aig 0)] 0
theorem Ob:cd bk (FX).Γ:=bY ⟨EE,ayf,Zf,ai⟩
theorem arS:cR FX Tryz.f63 0 0:=cX (ay:=ZU) (b:=EJ) (m:=[]) Ob ai
theorem arT:cR FX Tryz.f63 2 1:=cX (ay:=ZV) (b:=EK) (m:=[]) Ob ai
theorem aba:bc NZ:=cB (F:=FX) (fn:=Tryz.f63) (m:=dw Tryz.f63 [0,2]) Ob Tryz.func63 ⟨arS,arT,ai⟩
def EW:Shape:=⟨[(0,.dat Gl)],[]⟩
def EY:Shape:=⟨[(0,.dat jn),(1,aL)],[]⟩
def arD:aZ:=⟨40,EW,EY,Pr⟩
def arF:bn:=oc [MG,NZ]
theorem asX:cE bk arD:=pI (F:=arF) (fn:=Tryz.f40) (m:=[]) (bY ⟨aaj,aba,ai⟩) Tryz.func40 ai
def aah:aZ:=⟨83,Fk,hi,xd⟩
theorem arZ:bc aah:=cg (l:=[]) Tryz.func83 ai
def Za:aZ:=⟨109,⟨[(0,.dat ux)],[]⟩,Fo,Gs⟩
theorem aqY:bc Za:=cg (l:=[aah]) Tryz.func109 ⟨arZ,ai⟩
end D
open Go Go.X Go.Proofs D
namespace D
def XR:bO:=ec ⟨[(0,.dat (.list bz)),(3,.ptr 0 bz 0 []),(5,.own bz 1),(6,dA),(7,aL)],[.box 58 bz (.dat bz),.arr 58 bz false]⟩ 0 ⟨[(3,.ptr 0 bz 0 []),(5,.own bz 1),(6,dA)],[.box 58 bz (.dat bz),.arr 58 bz false]⟩
def aax:aZ:=⟨108,⟨[(0,.dat (.list bz)),(1,.dat bz)],[]⟩,kA,GG⟩
def Np:bn:=cv [] [(0,XR.go NL 0)] 0
theorem aaR:cd bk (Np).Γ:=bY ai
theorem aqZ:cR Np Tryz.f108 0 0:=cX (ay:=XR) (b:=Et) (m:=[]) aaR ai
theorem ar0:bc aax:=cB (F:=Np) (fn:=Tryz.f108) (m:=dw Tryz.f108 [0]) aaR Tryz.func108 ⟨aqZ,ai⟩
def Xz:bO:=ec ⟨[(0,.dat (.list ux)),(3,.own bz 0),(4,aL)],oh⟩ 0 ⟨[(3,.own bz 0)],oh⟩
def Y9:aZ:=⟨51,⟨[(0,.dat (.list ux))],[]⟩,kA,AM⟩
def ML:bn:=cv [Za,aax] [(0,Xz.go KJ 0)] 0
theorem Zq:cd bk (ML).Γ:=bY ⟨aqY,ar0,ai⟩
theorem apw:cR ML Tryz.f51 0 0:=cX (ay:=Xz) (b:=zp) (m:=[]) Zq ai
theorem aqX:bc Y9:=cB (F:=ML) (fn:=Tryz.f51) (m:=dw Tryz.f51 [0]) Zq Tryz.func51 ⟨apw,ai⟩
def zi:Shape:=⟨[(0,.dat dm),(1,.dat (.list bz)),(2,.dat ac),(3,.dat (.list (.list .str))),(4,.dat mY)],[]⟩
def zb:Shape:=⟨[(0,.dat fO)],[]⟩
def yU (dy:(bF×ak×aK×(List bo)×fh×H)->O (fq×H)):aZ:=⟨50,zi,zb,dy⟩
def aaA:aZ:=⟨76,r6,⟨[(0,.dat ey),(1,aL)],[]⟩,xf⟩
theorem ari:bc aaA:=cg (l:=[Ku]) Tryz.func76 ⟨M4,ai⟩
def MB:aZ:=⟨54,Fk,hi,qo⟩
theorem Zv:bc MB:=cg (l:=[]) Tryz.func54 ai
def aay:aZ:=⟨52,Fk,hi,xe⟩
theorem ar1:bc aay:=cg (l:=[MB]) Tryz.func52 ⟨Zv,ai⟩
def VR:bO:=ec UD 0 UD
def J1:aZ:=⟨53,hi,og,nX⟩
def TW:bn:=cv [] [(0,VR.go Xm 0)] 0
theorem Xl:cd bk (TW).Γ:=bY ai
theorem aog:cR TW Tryz.f53 0 0:=cX (ay:=VR) (b:=Xk) (m:=[]) Xl ai
theorem T3:bc J1:=cB (F:=TW) (fn:=Tryz.f53) (m:=dw Tryz.f53 [0]) Xl Tryz.func53 ⟨aog,ai⟩
def TQ:aZ:=⟨56,jF,ew,rF⟩
theorem Xj:bc TQ:=cg (l:=[]) Tryz.func56 ai
def Ye:aZ:=⟨57,Fk,hi,wq⟩
theorem apC:bc Ye:=cg (l:=[]) Tryz.func57 ai
def Ng:aZ:=⟨55,hi,og,oO⟩
theorem aaP:bc Ng:=cg (l:=[]) Tryz.func55 ai
def sH:bO:=⟨⟨[(1,.ptr 0 lB 0 []),(2,.ptr 1 am 0 []),(3,c6),(5,.ptr 2 ac 0 []),(6,c6),(7,c6),(63,dA)],Fg⟩,.nrm,⟨UA,Fg⟩,(.exit 90100013),⟨[],[]⟩⟩
def sU:bO:=⟨⟨UA,Fg⟩,.ret,Uy,(.exit 90000016),⟨[],[]⟩⟩
def sT:bO:=⟨⟨[(1,.ptr 0 lB 0 []),(2,.ptr 1 am 0 []),(3,c6),(5,.ptr 2 ac 0 [])],Fg⟩,.ret,Uy,(.exit 90000011),⟨[],[]⟩⟩
def v7:aZ:=⟨14,⟨[(0,.dat lB)],[]⟩,gn,zN⟩
def oz:bn:=oc [MB,aay,J1,TQ,Ye,Ng]
def tm:lD:=[(100013,sH.go sY 0),(16,sU.go rz 0),(11,sT.go nC 0)]
theorem amF (d:sH.S.ty.den): @Eq (O sH.Out) ((gQ oz tm (e0 (b7 Tryz.f14) 100013) 0 (sH.S.enc d)).bind λ(e,st)=>sH.out (oz).m e st).val (sY d):=aD
theorem anW (d:sU.S.ty.den): @Eq (O sU.Out) ((gQ oz tm (e0 (b7 Tryz.f14) 16) 0 (sU.S.enc d)).bind λ(e,st)=>sU.out (oz).m e st).val (rz d):=aD
theorem anU (d:sT.S.ty.den): @Eq (O sT.Out) ((gQ oz tm (e0 (b7 Tryz.f14) 11) 0 (sT.S.enc d)).bind λ(e,st)=>sT.out (oz).m e st).val (nC d):=aD
theorem aq1 (d:(v7).S.ty.den):(su oz tm Tryz.f14 (v7).S (v7).Z d).val=(v7).g d:=aD
theorem KK:cd bk (oz).Γ:=bY ⟨Zv,ar1,T3,Xj,apC,aaP,ai⟩
theorem amG:jP bk oz Tryz.f14.ntmps (sH.go sY 0) (e0 (b7 Tryz.f14) 100013):=
  lX eB KK eQ (ay:=sH) (k:=0) (f:=sY) (C:=tm) (l:=[]) (m:=[]) aD ai aD ai aD (eU _ aD) amF
theorem anX:jP bk oz Tryz.f14.ntmps (sU.go rz 0) (e0 (b7 Tryz.f14) 16):=
  lX eB KK eQ (ay:=sU) (k:=0) (f:=rz) (C:=tm) (l:=[]) (m:=[]) aD ai aD ai aD (eU _ aD) anW
theorem anV:jP bk oz Tryz.f14.ntmps (sT.go nC 0) (e0 (b7 Tryz.f14) 11):=
  lX eB KK eQ (ay:=sT) (k:=0) (f:=nC) (C:=tm) (l:=[]) (m:=[(sH.go sY 0,e0 (b7 Tryz.f14) 100013),(sU.go rz 0,e0 (b7 Tryz.f14) 16)]) aD ai aD ⟨amG,anX,ai⟩ aD (eU _ aD) anU
theorem aq2:cE bk v7:=
  AK (C:=tm) (F:=oz) eB KK eQ (fn:=Tryz.f14) (l:=[]) (m:=[(sT.go nC 0,e0 (b7 Tryz.f14) 11)]) Tryz.func14 aD aD aD ai aD ⟨anV,ai⟩ (eU _ aD) aD aq1
theorem aq3:bc v7:=(aq2).x aD
def XB:bO:=ec ⟨[(0,.dat (.list lB)),(1,aL),(5,.own am 0),(6,aL)],Al⟩ 0 ⟨[(5,.own am 0)],Al⟩
def MA:aZ:=⟨41,⟨[(0,.dat (.list lB)),(1,aL)],[]⟩,⟨[(0,.own am 0)],Al⟩,zM⟩
def MN:bn:=cv [v7] [(0,XB.go M1 0)] 0
theorem Zt:cd bk (MN).Γ:=bY ⟨aq3,ai⟩
theorem apz:cR MN Tryz.f41 0 0:=cX (ay:=XB) (b:=zq) (m:=[]) Zt ai
theorem Zu:bc MA:=cB (F:=MN) (fn:=Tryz.f41) (m:=dw Tryz.f41 [0]) Zt Tryz.func41 ⟨apz,ai⟩
def Yc:aZ:=⟨203,gn,⟨jT,cF⟩,nP⟩
theorem apA:bc Yc:=cg (l:=[J1]) Tryz.func203 ⟨T3,ai⟩
def W9:aZ:=⟨26,gn,⟨jT,cF⟩,lJ⟩
theorem aoE:bc W9:=cg (l:=[J1,Ng]) Tryz.func26 ⟨T3,aaP,ai⟩
def W7:aZ:=⟨204,Ag,ew,mh⟩
theorem aoz:bc W7:=cg (l:=[My,Ka]) Tryz.func204 ⟨Zp,Md,ai⟩
def XC:bO:=⟨⟨[(3,.ptr 0 ac 0 []),(5,.own ac 1),(6,aL)],Af⟩,.ret,uw,(.exit 0),⟨[],[]⟩⟩
def ZM:aZ:=⟨159,⟨[(0,.dat am),(1,.dat ac)],[]⟩,ew,jN⟩
def MO:bn:=cv [Yc,W9,W7] [(0,XC.go Ei 0)] 0
theorem Zw:cd bk (MO).Γ:=bY ⟨apA,aoE,aoz,ai⟩
theorem apD:cR MO Tryz.f159 0 0:=cX (ay:=XC) (b:=pr) (m:=[]) Zw ai
theorem aqo:bc ZM:=cB (F:=MO) (fn:=Tryz.f159) (m:=dw Tryz.f159 [0]) Zw Tryz.func159 ⟨apD,ai⟩
def VJ:bO:=ec ⟨[(2,aL),(4,.ptr 0 ac 0 []),(7,.own am 1),(8,.own am 2),(9,aL)],[.box 39 ac (.dat ac),.arr 41 am false,.arr 41 am false]⟩ 0 ⟨[(7,.own am 0)],Al⟩
def Wp:aZ:=⟨107,⟨[(0,.dat (.list lB)),(1,.dat ac),(2,aL)],[]⟩,⟨[(0,.own am 0)],Al⟩,wc⟩
def TI:bn:=cv [MA,ZM] [(0,VJ.go TB 0)] 0
theorem WZ:cd bk (TI).Γ:=bY ⟨Zu,aqo,ai⟩
theorem an1:cR TI Tryz.f107 0 0:=cX (ay:=VJ) (b:=kw) (m:=[]) WZ ai
theorem aoj:bc Wp:=cB (F:=TI) (fn:=Tryz.f107) (m:=dw Tryz.f107 [0]) WZ Tryz.func107 ⟨an1,ai⟩
def yV:bO:=ec ⟨[(1,.dat (.list bz)),(3,.dat (.list (.list .str))),(5,.ptr 0 dm 0 []),(7,.ptr 1 ac 0 []),(9,.ptr 2 mY 0 []),(10,.ptr 3 fO 0 []),(11,.own .str 4),(12,aL)],Uh⟩ 0 ⟨[(1,.dat (.list bz)),(3,.dat (.list (.list .str))),(5,.ptr 0 dm 0 []),(7,.ptr 1 ac 0 []),(9,.ptr 2 mY 0 []),(10,.ptr 3 fO 0 []),(11,.own .str 4)],Uh⟩
def yW:bO:=ec ⟨[(1,.dat (.list bz)),(3,.dat (.list (.list .str))),(5,.ptr 0 dm 0 []),(7,.ptr 1 ac 0 []),(9,.ptr 2 mY 0 []),(10,.ptr 3 fO 0 []),(14,.ptr 4 ey 0 []),(16,.own ac 5),(17,aL)],[.box 32 dm (.dat dm),.box 39 ac (.dat ac),.box 26 mY (.dat mY),.box 114 fO (.agg [oZ,aL]),.box 85 ey (.agg [(.dat (.list bz)),(.own .str 6),(.own (.int .i64) 7),(.own eL 8),(.dat (.list am))]),.arr 39 ac false,.arr 9 .str true,.arr 3 (.int .i64) false,.arr 95 eL false]⟩ 2 ⟨[(5,.ptr 0 dm 0 []),(7,.ptr 1 ac 0 []),(9,.ptr 2 mY 0 []),(10,.ptr 3 fO 0 []),(14,.ptr 4 ey 0 [])],[.box 32 dm (.dat dm),.box 39 ac (.dat ac),.box 26 mY (.dat mY),.box 114 fO (.agg [oZ,aL]),.box 85 ey (.agg [(.dat (.list bz)),(.own .str 5),(.own (.int .i64) 6),(.own eL 7),(.dat (.list am))]),.arr 9 .str true,.arr 3 (.int .i64) false,.arr 95 eL false]⟩
def mt:bO:=ec ⟨[(10,.ptr 0 fO 0 []),(14,.ptr 1 ey 0 []),(22,.ptr 2 kF 0 []),(23,.ptr 3 dm 0 []),(24,aL)],[.box 114 fO (.agg [oZ,aL]),.box 85 ey (.agg [(.dat (.list bz)),(.own .str 4),(.own (.int .i64) 5),(.own eL 6),(.own am 7)]),.box 149 kF (.dat kF),.box 32 dm (.dat dm),.arr 9 .str true,.arr 3 (.int .i64) true,.arr 95 eL true,.arr 41 am true]⟩ 4 ⟨[(10,.ptr 0 fO 0 []),(22,.ptr 1 kF 0 []),(23,.ptr 2 dm 0 [])],[.box 114 fO (.agg [oZ,aL]),.box 149 kF (.dat kF),.box 32 dm (.dat dm)]⟩
def LO:aZ:=⟨50,zi,zb,F7⟩
def rv (dy:(bF×ak×aK×(List bo)×fh×H)->O (fq×H)):bn:=cv [Yh,Nh,Yb,Ni,aaz,MC,(yU dy),aaA,Wp] [(0,yV.go (Kl dy) 0),(2,yW.go (Km dy) 0),(4,mt.go (Kn dy) 0)] 0
theorem anY (dy:(bF×ak×aK×(List bo)×fh×H)->O (fq×H)) (d:yV.S.ty.den): @Eq (O (yV.S.ty.den⊕yV.Out)) (yV.body (rv dy) (hp (b7 Tryz.f50) 0) 0 d).val (ze dy d):=aD
theorem anZ (dy:(bF×ak×aK×(List bo)×fh×H)->O (fq×H)) (d:yW.S.ty.den): @Eq (O (yW.S.ty.den⊕yW.Out)) (yW.body (rv dy) (hp (b7 Tryz.f50) 1) 2 d).val (vW dy d):=aD
theorem an0 (dy:(bF×ak×aK×(List bo)×fh×H)->O (fq×H)) (d:mt.S.ty.den): @Eq (O (mt.S.ty.den⊕mt.Out)) (mt.body (rv dy) (hp (b7 Tryz.f50) 2) 4 d).val (zf dy d):=aD
theorem aqf (dy:(bF×ak×aK×(List bo)×fh×H)->O (fq×H)) (d:zi.ty.den): @Eq (O zb.ty.den) (me (rv dy) Tryz.f50 zi zb d).val (vQ dy d):=aD
theorem Kj (dy:(bF×ak×aK×(List bo)×fh×H)->O (fq×H)) (oT:cE bk (yU dy)):cd bk (rv dy).Γ:=bY ⟨aqc,aaQ,apx,aaT,ar2,Zy,(oT.x aD),ari,aoj,ai⟩
theorem aoH (dy:(bF×ak×aK×(List bo)×fh×H)->O (fq×H)) (oT:cE bk (yU dy)):hq bk (rv dy) Tryz.f50.ntmps 0 (hp (b7 Tryz.f50) 0):=
  rR eB (Kj dy oT) eQ (ay:=yV) (f:=Kl dy) (b:=ze dy) (m:=[]) (λ_=>rfl) aD aD ai aD (eU _ aD) (anY dy)
theorem aoI (dy:(bF×ak×aK×(List bo)×fh×H)->O (fq×H)) (oT:cE bk (yU dy)):hq bk (rv dy) Tryz.f50.ntmps 2 (hp (b7 Tryz.f50) 1):=
  rR eB (Kj dy oT) eQ (ay:=yW) (f:=Km dy) (b:=vW dy) (m:=[]) (λ_=>rfl) aD aD ai aD (eU _ aD) (anZ dy)
theorem aoJ (dy:(bF×ak×aK×(List bo)×fh×H)->O (fq×H)) (oT:cE bk (yU dy)):hq bk (rv dy) Tryz.f50.ntmps 4 (hp (b7 Tryz.f50) 2):=
  rR eB (Kj dy oT) eQ (ay:=mt) (f:=Kn dy) (b:=zf dy) (m:=[]) (λ_=>rfl) aD aD ai aD (eU _ aD) (an0 dy)
theorem anb (dy:(bF×ak×aK×(List bo)×fh×H)->O (fq×H)) (oT:cE bk (yU dy)):cE bk ⟨50,zi,zb,vQ dy⟩:=
  rQ (F:=(rv dy)) eB (Kj dy oT) eQ (fn:=Tryz.f50) (m:=dw Tryz.f50 [0,2,4]) Tryz.func50 aD aD aD ⟨aoH dy oT,aoI dy oT,aoJ dy oT,ai⟩ (eU _ aD) aD (aqf dy)
theorem ai0: ∀n,cE bk ⟨50,zi,zb,yS n⟩
  |0=>A9
  |n+1=>anb _ (ai0 n)
theorem aqg:cE bk LO:=ai0 jl
theorem aqh:bc LO:=(aqg).x aD
def ZO:aZ:=⟨13,⟨[(0,.dat mY)],[]⟩,Fp,Gt⟩
theorem aqv:bc ZO:=cg (l:=[Y9,LO]) Tryz.func13 ⟨aqX,aqh,ai⟩
def AY:aZ:=⟨326,Li,ew,o4⟩
theorem Gy:bc AY:=cg (l:=[]) Tryz.func326 ai
def JU:aZ:=⟨322,gn,ew,v8⟩
theorem WU:bc JU:=cg (l:=[AY]) Tryz.func322 ⟨Gy,ai⟩
def J0:aZ:=⟨320,gn,gn,KT⟩
theorem XM:bc J0:=cg (l:=[]) Tryz.func320 ai
def JP:aZ:=⟨335,gn,ew,Eb⟩
theorem WM:bc JP:=cg (l:=[AY]) Tryz.func335 ⟨Gy,ai⟩
def JZ:aZ:=⟨333,gn,gn,KS⟩
theorem XL:bc JZ:=cg (l:=[]) Tryz.func333 ai
def NY:aZ:=⟨349,og,ew,y6⟩
theorem aa5:bc NY:=cg (l:=[rD]) Tryz.func349 ⟨tq,ai⟩
def JB:aZ:=⟨346,gn,ew,DQ⟩
theorem V9:bc JB:=cg (l:=[NY]) Tryz.func346 ⟨aa5,ai⟩
def JQ:aZ:=⟨344,gn,gn,KB⟩
theorem WQ:bc JQ:=cg (l:=[]) Tryz.func344 ai
def Nf:aZ:=⟨357,jF,ew,rT⟩
theorem aaq:bc Nf:=cg (l:=[S8,AY]) Tryz.func357 ⟨aiE,Gy,ai⟩
def JE:aZ:=⟨353,gn,ew,wt⟩
theorem Wc:bc JE:=cg (l:=[Nf]) Tryz.func353 ⟨aaq,ai⟩
def JR:aZ:=⟨351,gn,gn,KC⟩
theorem WR:bc JR:=cg (l:=[]) Tryz.func351 ai
def Js:aZ:=⟨363,gn,ew,J4⟩
theorem VU:bc Js:=cg (l:=[Nf]) Tryz.func363 ⟨aaq,ai⟩
def Jx:aZ:=⟨361,gn,gn,wl⟩
theorem V5:bc Jx:=cg (l:=[]) Tryz.func361 ai
def Jw:aZ:=⟨369,gn,ew,y8⟩
theorem V0:bc Jw:=cg (l:=[AY,NY]) Tryz.func369 ⟨Gy,aa5,ai⟩
def JG:aZ:=⟨367,gn,gn,Kr⟩
theorem We:bc JG:=cg (l:=[]) Tryz.func367 ai
def Nd:aZ:=⟨58,gn,ew,h1⟩
noncomputable def aq7:bn:=mc hy (FG hy (hQ [JU,J0,JP,JZ,JB,JQ,JE,JR,Js,Jx,Jw,JG]) 110 Tryz.f110 (hQ [JU,J0,JP,JZ,JB,JQ,JE,JR,Js,Jx,Jw,JG])) (λk st=>.fail) 0
theorem aap:bc Nd:=cB (F:=aq7) (fn:=Tryz.f58) (m:=[]) (Gd aD (Gx (F:=(mc hy (hQ [JU,J0,JP,JZ,JB,JQ,JE,JR,Js,Jx,Jw,JG]) (λ_ _=>.fail) 0)) eB (bY ⟨WU,XM,WM,XL,V9,WQ,Wc,WR,VU,V5,V0,We,ai⟩) eQ Tryz.func110 aD aD aD) (bY ⟨WU,XM,WM,XL,V9,WQ,Wc,WR,VU,V5,V0,We,ai⟩)) Tryz.func58 ai
def x4:aZ:=⟨171,uo,kA,ve⟩
def ay0:bn:=mc hy (hQ []) (λ_ _=>.fail) 0
theorem ay6:cE bk x4:=
  acb (F:=ay0) eB (bY ai) eQ (fn:=Tryz.f171) Tryz.func171 aD aD aD aD aD (λd=>(decide ((List.length ([]:ak)+List.length d.1)*40<=bC))) (λd=>(d.1,())) (λd=>([],())) (λd=>List.length d.1) (λd=>rfl) (λd=>aD) (λd=>aD) (λd h=>congrArg (λl=>(l,())) (List.eq_nil_of_length_eq_zero h).symm)
theorem Ib:bc x4:=ay6.x aD
def i7:aZ:=⟨327,⟨[(0,.own bz 0),(1,aL),(2,.own bz 1)],[.arr 58 bz false,.arr 58 bz false]⟩,⟨[(0,.own bz 2)],[.gone,.arr 58 bz false,.arr 58 bz false]⟩,Ir⟩
def ahu:bn:=mc hy (Aw 328 (Jl bz) (hQ [])) (λ_ _=>.fail) 2
theorem ayP:cd bk ahu.Γ:=abI (a37 eB (T:=64) (dY:=4) (t:=bz) aD aD aD Tryz.func328 aD aD aD aD) (bY ai)
theorem ayQ:cE bk i7:=
  asM (F:=ahu) (e:=58) (t:=bz) (bytes:=40) eB ayP eQ aD aD (fn:=Tryz.f327) Tryz.func327 aD aD aD aD aD rfl (λi xs a1=>aD) (λi xs z a1=>aD)
theorem ayR:bc i7:=ayQ.x aD
def aaD:aZ:=⟨325,⟨[(0,.dat (.list bz)),(1,.dat bz)],[]⟩,kA,GJ⟩
theorem art:bc aaD:=cg (l:=[Kb,x4,i7]) Tryz.func325 ⟨Mn,Ib,ayR,ai⟩
def JS:aZ:=⟨319,wT,kA,KD⟩
theorem WS:bc JS:=cg (l:=[aaD]) Tryz.func319 ⟨art,ai⟩
def TT:aZ:=⟨340,Fc,⟨[(0,aL),(1,aL)],[]⟩,EA⟩
theorem Xq:bc TT:=cg (l:=[rD,Kb]) Tryz.func340 ⟨tq,Mn,ai⟩
def ahB:aZ:=⟨342,⟨[(0,.nils 58 bz),(1,aL)],[]⟩,kA,Iw⟩
theorem azh:bc ahB:=cg (l:=[]) Tryz.func342 ai
def ag9:bO:=ec ⟨[(0,.dat (.list (.list bz))),(3,aL),(9,.dat (.list (.list bz))),(10,aL),(11,aL)],[]⟩ 0 ⟨[(0,.dat (.list (.list bz))),(3,aL)],[]⟩
def aha:bO:=ec ⟨[(6,.own bz 0),(25,.dat (.list (.list bz))),(26,aL),(27,aL)],oh⟩ 2 ⟨[(6,.own bz 0)],oh⟩
def ahr:aZ:=⟨341,⟨[(0,.dat (.list (.list bz)))],[]⟩,kA,Iq⟩
def H6:bn:=cv [ahB] [(0,ag9.go Sg 0),(2,aha.go Sh 0)] 0
theorem Sf:cd bk (H6).Γ:=bY ⟨azh,ai⟩
theorem ayV:cR H6 Tryz.f341 0 0:=cX (ay:=ag9) (b:=qI) (m:=[]) Sf ai
theorem ayW:cR H6 Tryz.f341 2 1:=cX (ay:=aha) (b:=qV) (m:=[]) Sf ai
theorem ayO:bc ahr:=cB (F:=H6) (fn:=Tryz.f341) (m:=dw Tryz.f341 [0,2]) Sf Tryz.func341 ⟨ayV,ayW,ai⟩
def D3:aZ:=⟨339,Fc,kA,tQ⟩
theorem KM:bc D3:=cg (l:=[TT,ahr]) Tryz.func339 ⟨Xq,ayO,ai⟩
end D
open Go Go.X Go.Proofs D
namespace D
def aaC:aZ:=⟨338,Lg,kA,GI⟩
theorem ars:bc aaC:=cg (l:=[ET,D3]) Tryz.func338 ⟨F9,KM,ai⟩
def JN:aZ:=⟨332,wT,kA,KA⟩
theorem WK:bc JN:=cg (l:=[aaC]) Tryz.func332 ⟨ars,ai⟩
def Jz:aZ:=⟨343,wT,kA,wn⟩
theorem V7:bc Jz:=cg (l:=[D3]) Tryz.func343 ⟨KM,ai⟩
def Yl:aZ:=⟨360,Fc,⟨[(0,.clip bz)],[]⟩,F1⟩
theorem apK:bc Yl:=cg (l:=[TT]) Tryz.func360 ⟨Xq,ai⟩
def Yq:bO:=ec ⟨[(1,c6),(2,c6),(7,.own bz 0),(15,aL),(16,aL)],oh⟩ 0 ⟨[(7,.own bz 0)],oh⟩
def aac:aZ:=⟨358,⟨[(0,.dat (.list bz)),(1,c6),(2,c6)],[]⟩,kA,Gz⟩
def Nl:bn:=cv [ii,Kv,x4,Yl] [(0,Yq.go NF 0)] 0
theorem aar:cd bk (Nl).Γ:=bY ⟨rB,M9,Ib,apK,ai⟩
theorem aqI:cR Nl Tryz.f358 0 0:=cX (ay:=Yq) (b:=zu) (m:=[]) aar ai
theorem arM:bc aac:=cB (F:=Nl) (fn:=Tryz.f358) (m:=dw Tryz.f358 [0]) aar Tryz.func358 ⟨aqI,ai⟩
def WG:bO:=ec ⟨[(0,.dat (.list bz)),(1,.dat (.list bz)),(5,.own bz 0)],oh⟩ 0 ⟨[(0,.dat (.list bz)),(1,.dat (.list bz)),(5,.own bz 0)],oh⟩
def Ym:aZ:=⟨39,UH,kA,F2⟩
def L3:bn:=cv [] [(0,WG.go Ml 0)] 0
theorem Yy:cd bk (L3).Γ:=bY ai
theorem aoQ:cR L3 Tryz.f39 0 0:=cX (ay:=WG) (b:=zh) (m:=[]) Yy ai
theorem apL:bc Ym:=cB (F:=L3) (fn:=Tryz.f39) (m:=dw Tryz.f39 [0]) Yy Tryz.func39 ⟨aoQ,ai⟩
def Dq:aZ:=⟨356,wT,kA,DE⟩
theorem Tm:bc Dq:=cg (l:=[ii,D3,aac,Ym]) Tryz.func356 ⟨rB,KM,arM,apL,ai⟩
def JC:aZ:=⟨350,wT,kA,Kq⟩
theorem Wa:bc JC:=cg (l:=[ii,D3,Dq]) Tryz.func350 ⟨rB,KM,Tm,ai⟩
def aiR:bO:=ec ⟨[(2,.ptr 0 am 0 []),(5,.own bz 1),(10,aL),(11,aL)],[.box 215 am (.dat am),.arr 58 bz false]⟩ 0 ⟨[(5,.own bz 0)],oh⟩
def Ju:aZ:=⟨366,wT,kA,J5⟩
def Tl:bn:=cv [wz,x4] [(0,aiR.go Tn 0)] 0
theorem VX:cd bk (Tl).Γ:=bY ⟨zJ,Ib,ai⟩
theorem am0:cR Tl Tryz.f366 0 0:=cX (ay:=aiR) (b:=Dr) (m:=[]) VX ai
theorem VY:bc Ju:=cB (F:=Tl) (fn:=Tryz.f366) (m:=dw Tryz.f366 [0]) VX Tryz.func366 ⟨am0,ai⟩
def Nc:aZ:=⟨61,⟨[(0,.dat (.list bz)),(1,.dat am)],[]⟩,uo,kP⟩
noncomputable def aq5:bn:=mc hy (FG hy (hQ [JS,JN,Jz,Dq,JC,Ju]) 110 Tryz.f110 (hQ [JS,JN,Jz,Dq,JC,Ju])) (λk st=>.fail) 0
theorem aao:bc Nc:=cB (F:=aq5) (fn:=Tryz.f61) (m:=[]) (Gd aD (Gx (F:=(mc hy (hQ [JS,JN,Jz,Dq,JC,Ju]) (λ_ _=>.fail) 0)) eB (bY ⟨WS,WK,V7,Tm,Wa,VY,ai⟩) eQ Tryz.func110 aD aD aD) (bY ⟨WS,WK,V7,Tm,Wa,VY,ai⟩)) Tryz.func61 ai
def XP:bO:=ec ⟨[(4,.ptr 0 dm 0 []),(6,.ptr 1 dm 0 []),(7,.own (.int .i64) 2)],[.box 32 dm oZ,.box 32 dm (.agg [(.own iC 3)]),.arr 3 (.int .i64) false,.arr 87 iC false]⟩ 0 ⟨[(4,.ptr 0 dm 0 []),(6,.ptr 1 dm 0 [])],Ad⟩
def aae:aZ:=⟨64,r6,r6,nb⟩
def Nn:bn:=cv [zt,Mw] [(0,XP.go NH 0)] 0
theorem aau:cd bk (Nn).Γ:=bY ⟨EE,Zf,ai⟩
theorem aqP:cR Nn Tryz.f64 0 0:=cX (ay:=XP) (b:=wh) (m:=[]) aau ai
theorem arU:bc aae:=cB (F:=Nn) (fn:=Tryz.f64) (m:=dw Tryz.f64 [0]) aau Tryz.func64 ⟨aqP,ai⟩
def ahN:aZ:=⟨62,⟨[(0,.dat (.list am))],[]⟩,⟨[(0,.clip am)],[]⟩,I8⟩
theorem azp:bc ahN:=cg (l:=[]) Tryz.func62 ai
def EV:Shape:=⟨[(0,.dat jn),(1,.dat am)],[]⟩
def EX:Shape:=⟨[(0,.dat jn),(1,aL)],[]⟩
def N0:aZ:=⟨15,EV,EX,nf⟩
def arE:bn:=oc [tx,tr,NZ,Nd,Nc,aae,ahN]
end D
