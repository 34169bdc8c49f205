import Derived.Test.YtmmmpanpbphkdaaGreatDoorL
import Derived.Test.YtmmmpanpbphkdaaGreatDoorD
import Derived.Test.YtmmmpanpbphkdaaGreatDoorChecked
set_option linter.unusedVariables false
set_option maxRecDepth 100000
open Go Go.X Go.Proofs D
namespace D
abbrev cX:b5:=.dat .bool
abbrev cn:b5:=.dat .str
abbrev aI:b5:=.dat (.int .i64)
abbrev cd:List dn:=[.arr 39 ac false]
abbrev p9:b5:=.agg [cX,cX,(.agg [cn,cn,aI]),cn,cX,aI]
abbrev iM:aD:=.pair (.int .u8) (.pair (.int .u8) .unit)
abbrev dG:Shape:=⟨[(0,cX)],[]⟩
abbrev fb:Shape:=⟨[(0,.dat cJ)],[]⟩
abbrev k4:b5:=.agg [(.agg [aI,aI]),(.agg [aI,aI])]
abbrev oL:List dn:=[.box 132 .opq (.fn 183 [] [(.ptr 1 ac 0 [])]),.box 39 ac (.dat ac)]
abbrev hZ:Shape:=⟨[(0,cn),(1,cn)],[]⟩
abbrev xL:List dn:=[.loop 1012800 [(5,.ptr 2 iv 0 []),(4,.ptr 3 iv 0 [])],.box 83 (.list cJ) (.dat (.list cJ)),.box 190 iv p9,.box 190 iv p9]
abbrev fN:Shape:=⟨[(0,cn)],[]⟩
abbrev oM:List (Nat×b5):=[(0,.own ac 0),(1,aI),(4,.fn 236 [] []),(12,aI),(13,aI)]
abbrev m1:b5:=.agg [(.dat (.list h1))]
abbrev Cp:List dn:=[.loop 1016800 [(5,.ptr 2 (.list ac) 0 [])],.box 83 (.list cJ) (.dat (.list cJ)),.box 62 (.list ac) (.own ac 4),.gone,.arr 39 ac false]
abbrev hg:Shape:=⟨[(0,aI)],[]⟩
abbrev qa:List dn:=[.arr 58 ba false,.box 62 (.list ac) (.dat (.list ac))]
abbrev iu:List dn:=[.box 39 ac (.dat ac)]
abbrev xM:List (Nat×b5):=[(0,.own ac 0),(1,aI),(2,aI),(3,aI),(4,.fn 236 [] []),(10,cX),(11,cX)]
abbrev m2:Shape:=⟨[(0,.dat (.list ba))],[]⟩
abbrev uo:Shape:=⟨[(0,.ptr 0 iv 0 []),(1,.dat cJ)],[.box 190 iv p9]⟩
abbrev xN:List (Nat×b5):=[(0,.own ac 0),(1,aI),(2,aI),(3,.fn 236 [] []),(9,aI),(10,aI)]
abbrev ig:List (Nat×b5):=[(0,.own ac 0)]
abbrev xH:List dn:=[.box 32 c0 m1,.box 32 c0 (.agg [(.own h1 2)]),.arr 87 h1 false]
abbrev Q9:Shape:=⟨[(4,.ptr 0 ba 0 []),(5,.ptr 1 .bool 0 []),(6,.ptr 2 (.int .i64) 0 []),(7,aI),(1000000000,.dfr 129 [(.ptr 2 (.int .i64) 0 [])] [(.ptr 0 ba 0 []),(.ptr 1 .bool 0 [])] iv)],[.box 58 ba (.dat ba),.box 4 .bool cX,.box 3 (.int .i64) aI]⟩
abbrev uh:List (Nat×b5):=[(0,.own ac 0),(1,aI),(2,aI),(3,.fn 236 [] [])]
abbrev oK:Shape:=⟨[(0,.dat c0),(1,aI)],[]⟩
abbrev jc:List dn:=[.arr 58 ba false]
abbrev hY:Shape:=⟨[(0,.own ba 0)],jc⟩
abbrev xI:List (Nat×b5):=[(0,.own ac 0),(1,aI),(4,.fn 236 [] []),(11,aI),(12,aI)]
abbrev k3:b5:=.agg [(.dat c0),aI]
abbrev HJ:Shape:=⟨[],[.loop 1013600 [(12,.ptr 5 (.list ba) 0 [])],.box 141 .opq (.ptr 6 eR 0 []),.box 3 (.int .i64) aI,.box 39 ac (.dat ac),.box 62 (.list ac) (.dat (.list ac)),.box 64 (.list ba) (.own ba 8),.box 143 eR k3,.gone,.arr 58 ba false]⟩
abbrev HK:Shape:=⟨[],[.loop 1002700 [(7,.ptr 5 (.list ba) 0 [])],.box 141 .opq (.ptr 6 eR 0 []),.box 3 (.int .i64) aI,.box 39 ac (.dat ac),.box 62 (.list ac) (.dat (.list ac)),.box 64 (.list ba) (.own ba 7),.box 143 eR k3,.arr 58 ba false]⟩
abbrev Cj:List dn:=[.box 32 c0 (.dat c0),.box 85 dp (.dat dp),.box 149 jg (.agg [m1,aI,aI])]
abbrev r2:List dn:=[.arr 39 ac false,.box 39 ac (.dat ac)]
abbrev ui:Shape:=⟨[(0,.dat cJ),(1,.dat (.list ba))],[]⟩
abbrev r3:List dn:=[.arr 39 ac true,.box 39 ac (.dat ac)]
abbrev m0:Shape:=⟨[(0,.dat ac)],[]⟩
abbrev uj:Shape:=⟨[(0,cn),(1,.dat (.int .u8))],[]⟩
abbrev uk:List dn:=[.arr 39 ac false,.box 3 (.int .i64) aI]
abbrev Ck:b5:=.agg [cn,aI,aI,cn]
abbrev r4:Shape:=⟨[(0,.dat (.list ac))],[]⟩
abbrev Cl:List (Nat×b5):=[(0,.own ac 0),(1,aI),(2,aI),(3,aI),(4,.fn 236 [] [])]
abbrev nL:List dn:=[.box 58 ba (.dat ba)]
abbrev Cm:List dn:=[.box 204 hA (.agg [aI,aI]),.box 204 hA (.agg [aI,aI])]
abbrev um:Shape:=⟨[(0,cX)],[.box 190 iv p9]⟩
abbrev xJ:List dn:=[.box 39 ac (.dat ac),.arr 39 ac false]
abbrev xK:Shape:=⟨[(0,.dat ac),(1,.dat ac)],[]⟩
abbrev Cn:Shape:=⟨[(0,.dat (.list ba)),(1,.dat ac)],[]⟩
abbrev r5:Shape:=⟨[(0,.dat hA)],[]⟩
abbrev Ra:Shape:=⟨[(0,.dat (.list ba)),(3,.ptr 0 ba 0 []),(5,.own ba 1),(6,cX),(7,aI)],[.box 58 ba (.dat ba),.arr 58 ba false]⟩
abbrev Co:List dn:=[.box 85 dp (.dat dp),.box 39 ac (.dat ac)]
abbrev Q6:Shape:=⟨[(0,.dat (.list ac)),(5,.own ac 0),(12,.own ac 1),(13,aI),(14,aI)],[.arr 39 ac false,.arr 39 ac false]⟩
abbrev Cg:Shape:=⟨[(0,.dat (.list ba)),(1,cn)],[]⟩
abbrev p8:Shape:=⟨[(2,cX)],[]⟩
abbrev Q7:Shape:=⟨[(0,cn),(2,.ptr 0 ac 0 []),(3,.own (.int .u8) 1)],[.box 39 ac (.agg [cn,cn]),.arr 5 (.int .u8) false]⟩
abbrev HH:List dn:=[.box 85 dp (.dat dp),.box 95 dJ k4,.box 95 dJ (.dat dJ)]
abbrev Q8:List dn:=[.box 32 c0 (.dat c0),.box 39 ac (.dat ac),.box 26 lj (.dat lj),.box 114 eR (.agg [m1,aI]),.arr 9 .str false]
abbrev Ch:List dn:=[.box 245 fZ (.dat fZ),.box 245 fZ Ck]
abbrev ug:Shape:=⟨[(0,.dat dJ)],[]⟩
abbrev Ci:List dn:=[.box 269 Gx (.agg [(.agg [cn]),Ck])]
abbrev HI:Shape:=⟨[(0,.dat (.list ba)),(1,.dat (.list ac))],[]⟩
abbrev xQ:Shape:=⟨[(2,cn),(3,aI)],[]⟩
abbrev uu:List dn:=[.box 245 fZ (.dat fZ)]
abbrev r7:List dn:=[.arr 9 .str false]
abbrev r8:aD:=.pair (.int .u8) iM
abbrev hX:aD:=.pair (.int .u8) (.pair (.int .u8) (.pair (.int .u8) r8))
abbrev Cq:List dn:=[.box 28 hX (.dat hX),.box 41 cJ (.agg [aI,cn,cn,(.agg [cn,cn]),cn,cn,aI]),.box 39 ac (.dat ac)]
abbrev Rt:Shape:=⟨[(3,.ptr 0 ba 0 []),(5,.own ba 1),(6,cX)],[.box 58 ba (.dat ba),.arr 58 ba false]⟩
abbrev Ru:List (Nat×b5):=[(0,.own ac 0),(1,aI),(2,aI),(3,aI),(4,.fn 236 [] []),(10,cX),(11,cX),(12,aI),(13,aI)]
abbrev Cu:Shape:=⟨[(0,.dat (.int .u8))],[]⟩
abbrev HR:Shape:=⟨[(0,.dat (.list ba)),(1,.dat ba)],[]⟩
abbrev Rv:List dn:=[.loop 1012800 [(5,.ptr 1 iv 0 []),(4,.ptr 2 iv 0 [])],.box 190 iv p9,.box 190 iv p9]
abbrev xR:Shape:=⟨[(0,.dat gj)],[]⟩
abbrev Rw:Shape:=⟨[(2,.ptr 0 cJ 0 [])],[.box 41 cJ (.agg [aI,cn,cn,(.dat ac),cn,cn,aI])]⟩
abbrev uv:Shape:=⟨[(4,cX)],[]⟩
abbrev Rx:List dn:=[.box 85 dp (.dat dp),.box 95 dJ k4,.box 95 dJ k4,.box 242 .opq (.fn 189 [] [])]
abbrev Ry:List (Nat×b5):=[(1,.ptr 0 hX 0 []),(2,.ptr 1 cJ 0 []),(3,cn),(5,.ptr 2 ac 0 []),(6,cn),(7,cn)]
abbrev Cv:Shape:=⟨[(0,cn),(1,cX)],[]⟩
abbrev Rz:List dn:=[.box 143 eR k3,.box 85 dp (.dat dp),.box 39 ac (.dat ac),.arr 39 ac false]
abbrev RA:Shape:=⟨[(0,cn),(2,.ptr 0 ac 0 []),(3,aI)],[.box 39 ac (.agg [cn,cn])]⟩
abbrev HS:Shape:=⟨[(0,.dat dp),(1,.dat ac)],[]⟩
abbrev RB:List (Nat×b5):=[(0,.own ac 0),(1,aI),(2,aI),(3,aI),(4,.fn 236 [] []),(12,aI),(13,aI)]
abbrev Cw:List (Nat×b5):=[(5,.ptr 1 (.list ac) 0 [])]
abbrev Cx:Shape:=⟨[(0,.dat fZ)],[]⟩
abbrev Cy:Shape:=⟨[(0,.dat ba)],[]⟩
abbrev HT:Shape:=⟨[(0,.dat ac),(1,cn)],[]⟩
abbrev HU:Shape:=⟨[(0,.dat ba),(1,cX)],[]⟩
abbrev HV:Shape:=⟨[(0,.dat (.int .u64))],[]⟩
abbrev RC:List (Nat×b5):=[(2,.ptr 0 c0 0 []),(3,.ptr 1 dp 0 []),(4,.ptr 2 jg 0 []),(6,aI)]
abbrev xP:List dn:=[.arr 41 cJ false]
abbrev Rh:List (Nat×b5):=[(0,.dat (.list ba)),(1,.dat (.list ac)),(5,.own ba 0),(6,aI)]
abbrev Ri:List dn:=[.box 32 c0 (.dat c0),.box 85 dp (.dat dp),.box 32 c0 m1]
abbrev Rj:Shape:=⟨[(0,.dat (.list ba)),(1,.dat (.list ba))],[]⟩
abbrev Rk:Shape:=⟨[(0,.dat (.list ba)),(1,.dat (.list cJ))],[]⟩
def fV:bS:=⟨[(1,⟨.opq,0,[],8,false,true,false,[]⟩),(3,⟨(.int .i64),0,[],8,false,false,false,[]⟩),(4,⟨.bool,0,[],1,false,false,false,[]⟩),(5,⟨(.int .u8),0,[],1,false,false,false,[]⟩),(9,⟨.str,0,[],16,false,false,false,[]⟩),(20,⟨.opq,0,[],16,false,false,true,[]⟩),(21,⟨(.int .i32),0,[],4,false,false,false,[]⟩),(22,⟨(.list r8),168,[],3,false,false,false,[]⟩),(23,⟨(.list hX),28,[],6,false,false,false,[]⟩),(24,⟨(.pair (.list hX) (.pair (.list hX) (.pair (.list hX) (.pair (.list hX) .unit)))),0,[23,23,23,23],96,false,true,false,[]⟩),(26,⟨lj,0,[22,24,5],128,false,false,false,[]⟩),(28,⟨hX,0,[5,5,5,5,5,5],6,false,true,false,[]⟩),(30,⟨(.list h1),87,[],136,false,false,false,[]⟩),(32,⟨c0,0,[30],24,false,false,false,[]⟩),(34,⟨Dd,0,[3,3,3],24,true,false,false,[]⟩),(36,⟨gj,0,[32,3,34],56,false,false,false,[]⟩),(39,⟨ac,0,[9,9],32,true,false,false,[]⟩),(41,⟨cJ,0,[3,9,9,39,9,9,3],112,true,false,false,[]⟩),(43,⟨(.int .i64),0,[],8,false,false,false,[]⟩),(53,⟨r8,0,[5,5,5],3,false,true,false,[]⟩),(55,⟨(.list .str),9,[],16,false,false,false,[]⟩),(58,⟨ba,0,[9,9,3],40,true,false,false,[]⟩),(60,⟨Y5,0,[58,4,3,43],64,true,false,false,[]⟩),(62,⟨(.list ac),39,[],32,false,false,false,[]⟩),(64,⟨(.list ba),58,[],40,false,false,false,[]⟩),(77,⟨iM,0,[5,5],2,false,true,false,[]⟩),(81,⟨(.list (.int .i64)),3,[],8,false,false,false,[]⟩),(82,⟨(.list dJ),95,[],32,false,false,false,[]⟩),(83,⟨(.list cJ),41,[],112,false,false,false,[]⟩),(85,⟨dp,0,[64,55,81,82,83],120,false,false,false,[]⟩),(87,⟨h1,0,[4,4,3,85],136,false,false,false,[]⟩),(89,⟨(.int .i16),0,[],2,false,false,false,[]⟩),(90,⟨(.pair (.int .i16) (.pair (.int .i16) (.pair (.int .i16) .unit))),0,[89,89,89],6,false,true,false,[]⟩),(93,⟨hA,0,[3,3],16,true,false,false,[]⟩),(95,⟨dJ,0,[93,93],32,true,false,false,[]⟩),(100,⟨.opq,0,[],8,false,true,false,[]⟩),(108,⟨hA,0,[3,3],16,true,false,false,[]⟩),(111,⟨(.list (.list .str)),55,[],24,false,false,false,[]⟩),(112,⟨(.list (.list (.list .str))),111,[],24,false,false,false,[]⟩),(114,⟨eR,0,[32,3],32,false,false,false,[]⟩),(127,⟨.opq,0,[],8,false,true,false,[]⟩),(132,⟨.opq,0,[],8,false,true,false,[]⟩),(141,⟨.opq,0,[],8,false,false,false,[]⟩),(143,⟨eR,0,[32,43],32,false,false,false,[]⟩),(144,⟨.opq,0,[],8,false,true,false,[]⟩),(145,⟨.opq,0,[],8,false,true,false,[]⟩),(149,⟨jg,0,[32,3,43],40,false,false,false,[]⟩),(156,⟨.opq,0,[],8,false,true,false,[]⟩),(158,⟨.opq,0,[],8,false,true,false,[]⟩),(159,⟨.opq,0,[],8,false,true,false,[]⟩),(160,⟨.opq,0,[],8,false,true,false,[]⟩),(164,⟨Y3,0,[108],16,true,false,false,[]⟩),(168,⟨r8,0,[5,5,5],3,false,true,false,[]⟩),(169,⟨(.list (.int .u8)),5,[],1,false,false,false,[]⟩),(171,⟨.opq,0,[],16,false,false,true,[]⟩),(176,⟨.opq,0,[],8,false,false,false,[]⟩),(177,⟨(.list (.list cJ)),83,[],24,false,false,false,[]⟩),(183,⟨.str,0,[],16,false,false,false,[]⟩),(190,⟨iv,0,[4,4,58,9,4,3],80,true,false,false,[]⟩),(194,⟨(.list .bool),4,[],1,false,false,false,[]⟩),(195,⟨.opq,0,[],8,false,true,false,[]⟩),(204,⟨hA,0,[3,3],16,true,false,false,[]⟩),(208,⟨.opq,0,[],8,false,false,false,[]⟩),(210,⟨cJ,0,[3,9,9,39,9,9,3],112,true,false,false,[("downspout/msg.apply",319),("downspout/msg.bare",320),("downspout/msg.reads",321),("downspout/msg.valid",322),("downspout/msg.writes",324)]⟩),(211,⟨cJ,0,[3,9,9,39,9,9,3],112,true,false,false,[("downspout/msg.apply",332),("downspout/msg.bare",333),("downspout/msg.reads",334),("downspout/msg.valid",335),("downspout/msg.writes",337)]⟩),(212,⟨cJ,0,[3,9,9,39,9,9,3],112,true,false,false,[("downspout/msg.apply",343),("downspout/msg.bare",344),("downspout/msg.reads",345),("downspout/msg.valid",346),("downspout/msg.writes",348)]⟩),(213,⟨cJ,0,[3,9,9,39,9,9,3],112,true,false,false,[("downspout/msg.apply",350),("downspout/msg.bare",351),("downspout/msg.reads",352),("downspout/msg.valid",353),("downspout/msg.writes",355)]⟩),(214,⟨cJ,0,[3,9,9,39,9,9,3],112,true,false,false,[("downspout/msg.apply",356),("downspout/msg.bare",361),("downspout/msg.reads",362),("downspout/msg.valid",363),("downspout/msg.writes",365)]⟩),(215,⟨cJ,0,[3,9,9,39,9,9,3],112,true,false,false,[("downspout/msg.apply",366),("downspout/msg.bare",367),("downspout/msg.reads",368),("downspout/msg.valid",369),("downspout/msg.writes",371)]⟩),(216,⟨(.list .str),183,[],16,false,false,false,[]⟩),(218,⟨.opq,0,[],8,false,true,false,[]⟩),(223,⟨.opq,0,[],8,false,true,false,[]⟩),(224,⟨.opq,0,[],8,false,true,false,[]⟩),(226,⟨.opq,0,[],8,false,true,false,[]⟩),(227,⟨(.pair .opq (.pair .opq (.pair .opq (.pair .opq (.pair .opq (.pair .opq (.pair .opq .unit))))))),0,[226,226,226,226,226,226,226],56,false,true,false,[]⟩),(228,⟨.opq,0,[],8,false,false,false,[]⟩),(231,⟨am3,0,[9,4,4,9,4,3],56,true,false,false,[]⟩),(241,⟨.opq,0,[],8,false,false,false,[]⟩),(242,⟨.opq,0,[],8,false,true,false,[]⟩),(243,⟨.opq,0,[],8,false,true,false,[]⟩),(245,⟨fZ,0,[9,3,3,9],48,true,false,false,[]⟩),(255,⟨.opq,0,[],8,false,true,false,[]⟩),(256,⟨.opq,0,[],8,false,true,false,[]⟩),(257,⟨(.int .u64),0,[],8,false,false,false,[]⟩),(260,⟨.opq,0,[],8,false,true,false,[]⟩),(264,⟨(.list hA),93,[],16,false,false,false,[]⟩),(265,⟨.opq,0,[],8,false,false,false,[]⟩),(267,⟨(.pair .str .unit),0,[9],16,true,false,false,[]⟩),(269,⟨Gx,0,[267,245],64,true,false,false,[]⟩),(276,⟨.opq,0,[],8,false,true,false,[]⟩),(286,⟨.opq,0,[],8,false,false,false,[]⟩),(291,⟨.opq,0,[],8,false,true,false,[]⟩),(294,⟨(.int .i64),0,[],8,false,false,false,[]⟩),(301,⟨(.int .u32),0,[],4,false,false,false,[]⟩),(303,⟨(.int .u64),0,[],8,false,false,false,[]⟩),(313,⟨.opq,0,[],8,false,false,false,[]⟩),(315,⟨(.int .u64),0,[],8,false,false,false,[]⟩),(319,⟨.opq,0,[],8,false,false,false,[]⟩),(326,⟨.opq,0,[],8,false,false,false,[]⟩),(333,⟨iM,0,[5,5],2,true,false,false,[]⟩),(334,⟨(.pair iM (.pair iM (.pair iM (.pair iM (.pair iM (.pair iM (.pair iM (.pair iM (.pair iM (.pair iM (.pair iM (.pair iM (.pair iM (.pair iM (.pair iM (.pair iM .unit)))))))))))))))),0,[333,333,333,333,333,333,333,333,333,333,333,333,333,333,333,333],32,false,true,false,[]⟩),(357,⟨(.list (.list ba)),64,[],24,false,false,false,[]⟩)],R7 [(296,0),(287,0),(286,0),(235,0),(263,0),(251,0),(330,0),(185,0),(181,0),(71,0),(115,0),(329,0),(219,0),(116,0),(283,0),(267,0),(266,0),(265,0),(264,0),(262,0),(261,0),(260,0),(331,0),(233,0),(342,0),(170,0),(327,0),(113,0),(68,0),(328,0),(328,1),(327,0),(327,2),(118,0)]⟩
noncomputable instance avZ:Env:=⟨fun Y=>bif Nat.beq Y 1002700 then some (iO Tryz.f27 0) else bif Nat.beq Y 1013600 then some (iO Tryz.f136 0) else bif Nat.beq Y 1016800 then some (iO Tryz.f168 0) else bif Nat.beq Y 1012800 then some (iO Tryz.f128 0) else none,fun g=>bif Nat.beq g 0 then [none,some 374,some 376,some 377,some 378,some 379,some 380] else []⟩
theorem dE:cA Tryz.prog fV:=aoO (by kernel_rfl)
theorem dN:Tryz.prog.follows .mixedOrders=true:=by kernel_rfl
def mm (l:List aS):a8:=kx fV (gl l) (fun k st=>.fail) 0
abbrev aV (E:aS):Prop:=o3 Tryz.prog E
theorem nJ {F:a8} {f:Nat} {S Z:Shape} {g:S.ty.den->Option Z.ty.den} {fn:Func} {m:List (Nat×Code)} (cE:bL Tryz.prog F.Γ) (aK:Tryz.prog.funcs[f]? =some fn) (ds:mX Tryz.prog F fn.ntmps m) (aB:F.cx=fV:=by kernel_rfl) (ag:fn.body=some (bJ fn):=by kernel_rfl) (cF:lP fn S Z=true:=by kernel_rfl) (hN:dF (bJ fn) 0=m:=by kernel_rfl) (cy:eb (bJ fn)=false:=by kernel_rfl) (ek:F.m=S.objs.length:=by kernel_rfl) (bH: ∀s,(ku F fn S Z s).val=g s:=by intro s;kernel_rfl):cc Tryz.prog ⟨f,S,Z,g⟩:=
  pQ (F:=F) (aB▸dE) cE dN aK ag cF hN ds (dQ _ cy) ek bH
theorem ca {F:a8} {f:Nat} {S Z:Shape} {g:S.ty.den->Option Z.ty.den} {fn:Func} {m:List (Nat×Code)} (cE:bL Tryz.prog F.Γ) (aK:Tryz.prog.funcs[f]? =some fn) (ds:mX Tryz.prog F fn.ntmps m) (aB:F.cx=fV:=by kernel_rfl) (ag:fn.body=some (bJ fn):=by kernel_rfl) (cF:lP fn S Z=true:=by kernel_rfl) (hN:dF (bJ fn) 0=m:=by kernel_rfl) (cy:eb (bJ fn)=false:=by kernel_rfl) (ek:F.m=S.objs.length:=by kernel_rfl) (aw:hS f=false:=by kernel_rfl) (bH: ∀s,(ku F fn S Z s).val=g s:=by intro s;kernel_rfl):o3 Tryz.prog ⟨f,S,Z,g⟩:=
  (nJ cE aK ds aB ag cF hN cy ek bH).x aw
theorem cm {F:a8} {nt:Nat} {L:bq} {c:Code} {k:Nat} {b:L.S.ty.den->Option (L.S.ty.den⊕L.Out)} {m:List (Nat×Code)} (cE:bL Tryz.prog F.Γ) (ds:mX Tryz.prog F nt m) (aB:F.cx=fV:=by kernel_rfl) (l3:F.Λ k=L.go (fun s=>bN b s) F.m:=by kernel_rfl) (hN:dF c k=m:=by kernel_rfl) (kb:fW nt c=true:=by kernel_rfl) (cy:eb c=false:=by kernel_rfl) (ag: ∀s,(L.body F c k s).val=b s:=by intro s;kernel_rfl):fS Tryz.prog F nt k c:=
  pR (F:=F) (f:=fun s=>bN b s) (aB▸dE) cE dN (fun _=>rfl) l3 hN ds kb (dQ _ cy) ag
theorem bP {l:List aS} {f:Nat} {S Z:Shape} {g:S.ty.den->Option Z.ty.den} {fn:Func} (aK:Tryz.prog.funcs[f]? =some fn) (ao:L7 Tryz.prog l) (ag:fn.body=some (bJ fn):=by kernel_rfl) (cF:lP fn S Z=true:=by kernel_rfl) (hN:dF (bJ fn) 0=[]:=by kernel_rfl) (cy:eb (bJ fn)=false:=by kernel_rfl) (ek:0=S.objs.length:=by kernel_rfl) (aw:hS f=false:=by kernel_rfl) (bH: ∀s,(ku (mm l) fn S Z s).val=g s:=by intro s;kernel_rfl):o3 Tryz.prog ⟨f,S,Z,g⟩:=
  ca (F:=mm l) (m:=[]) (bE ao) aK trivial rfl ag cF hN cy ek aw bH
abbrev cg (F:a8) (fn:Func) (k i:Nat):Prop:=fS Tryz.prog F fn.ntmps k (fP (bJ fn) i)
def cK (fn:Func) (ks:List Nat):List (Nat×Code):=ks.zipIdx.map fun q=>(q.1,fP (bJ fn) q.2)
def Sh:List (Nat×(bn->DT (dw×bn)))->Nat->bn->DT (dw×bn)
  |[],_,_=>.fail
  |q::l,k,st=>bif Nat.beq k q.1 then q.2 st else Sh l k st
def bW (l:List aS) (g:List (Nat×(bn->DT (dw×bn)))) (m:Nat):a8:=kx fV (gl l) (Sh g) m
def c4 (S:Shape) (k:Nat) (X:Shape):bq:=⟨S,.exit k,X,.exit (80000000+k),⟨[],[]⟩⟩
def IT:aS:=⟨162,hZ,dG,tT⟩
theorem WH:aV IT:=bP (l:=[]) Tryz.func162 trivial
def QT:aS:=⟨120,m0,dG,rp⟩
theorem Vb:aV QT:=bP (l:=[]) Tryz.func120 trivial
def Wn:aS:=⟨163,⟨[],[]⟩,m0,KP⟩
theorem amg:aV Wn:=bP (l:=[]) Tryz.func163 trivial
def Wm:aS:=⟨121,xK,m0,x5⟩
theorem amf:aV Wm:=bP (l:=[IT,QT,Wn]) Tryz.func121 ⟨WH,Vb,amg,trivial⟩
def Tb:bq:=c4 ⟨[(1,.dat (.list .str)),(2,.ptr 0 ac 0 []),(5,.own ac 1),(6,cn),(7,aI)],xJ⟩ 0 ⟨[(2,.ptr 0 ac 0 []),(5,.own ac 1),(6,cn)],xJ⟩
def UT:aS:=⟨119,⟨[(0,.dat ac),(1,.dat (.list .str))],[]⟩,⟨ig,cd⟩,xf⟩
def QH:a8:=bW [Wm] [(0,Tb.go Ip 0)] 0
theorem Vc:bL Tryz.prog (QH).Γ:=bE ⟨amf,trivial⟩
theorem akS:cg QH Tryz.f119 0 0:=cm (L:=Tb) (b:=A7) (m:=[]) Vc trivial
theorem alV:aV UT:=ca (F:=QH) (fn:=Tryz.f119) (m:=cK Tryz.f119 [0]) Vc Tryz.func119 ⟨akS,trivial⟩
def Up:aS:=⟨77,HS,⟨ig,cd⟩,BU⟩
theorem alw:aV Up:=bP (l:=[UT]) Tryz.func77 ⟨alV,trivial⟩
def JC:aS:=⟨96,HT,dG,yk⟩
theorem Xo:aV JC:=bP (l:=[]) Tryz.func96 trivial
def Td:bq:=c4 ⟨[(0,.dat (.list ba)),(3,.ptr 0 ac 0 []),(5,.own ba 1),(6,aI)],[.box 39 ac (.dat ac),.arr 58 ba false]⟩ 0 ⟨[(5,.own ba 0)],jc⟩
def QU:aS:=⟨37,Cn,hY,BT⟩
def QJ:a8:=bW [JC] [(0,Td.go Ir 0)] 0
theorem Ve:bL Tryz.prog (QJ).Γ:=bE ⟨Xo,trivial⟩
theorem akV:cg QJ Tryz.f37 0 0:=cm (L:=Td) (b:=A9) (m:=[]) Ve trivial
theorem Vf:aV QU:=ca (F:=QJ) (fn:=Tryz.f37) (m:=cK Tryz.f37 [0]) Ve Tryz.func37 ⟨akV,trivial⟩
def G8:aS:=⟨118,oK,dG,xm⟩
theorem Jq:aV G8:=bP (l:=[]) Tryz.func118 trivial
def Qi:aS:=⟨146,⟨[(0,.dat c0)],[]⟩,⟨[(0,.agg [(.own h1 0)])],[.arr 87 h1 false]⟩,BH⟩
theorem TX:aV Qi:=bP (l:=[]) Tryz.func146 trivial
def UE:bq:=⟨⟨[(2,.ptr 0 c0 0 []),(3,.ptr 1 dp 0 []),(4,.ptr 2 jg 0 []),(5,aI)],Cj⟩,.ret,⟨[(4,.ptr 0 jg 0 [])],[.box 149 jg (.agg [(.dat c0),aI,aI])]⟩,(.exit 0),⟨[(2,.ptr 0 c0 0 []),(3,.ptr 1 dp 0 []),(4,.ptr 2 jg 0 [])],Cj⟩⟩
def UF:bq:=c4 ⟨RC,Cj⟩ 2 ⟨RC,Cj⟩
def UG:bq:=c4 ⟨[(3,.ptr 0 dp 0 []),(4,.ptr 1 jg 0 []),(6,aI),(7,.ptr 2 c0 0 []),(8,aI)],[.box 85 dp (.dat dp),.box 149 jg (.agg [m1,aI,aI]),.box 32 c0 (.agg [(.own h1 3)]),.arr 87 h1 false]⟩ 4 ⟨[(4,.ptr 0 jg 0 []),(6,aI),(7,.ptr 1 c0 0 [])],[.box 149 jg (.agg [m1,aI,aI]),.box 32 c0 (.agg [(.own h1 2)]),.arr 87 h1 false]⟩
def JE:aS:=⟨88,⟨[(0,.dat c0),(1,.dat dp)],[]⟩,⟨[(0,.dat jg)],[]⟩,rO⟩
def BL:a8:=bW [G8,Qi] [(0,UE.go JW 0),(2,UF.go JX 0),(4,UG.go JY 0)] 0
theorem Ht:bL Tryz.prog (BL).Γ:=bE ⟨Jq,TX,trivial⟩
theorem amu:cg BL Tryz.f88 0 0:=cm (L:=UE) (b:=BE) (m:=[]) Ht trivial
theorem amP:cg BL Tryz.f88 2 1:=cm (L:=UF) (b:=BF) (m:=[]) Ht trivial
theorem amQ:cg BL Tryz.f88 4 2:=cm (L:=UG) (b:=BG) (m:=[]) Ht trivial
theorem Xs:aV JE:=ca (F:=BL) (fn:=Tryz.f88) (m:=cK Tryz.f88 [0,2,4]) Ht Tryz.func88 ⟨amu,amP,amQ,trivial⟩
def Wt:aS:=⟨157,⟨[(0,.dat dJ),(1,.dat dJ)],[]⟩,ug,KQ⟩
theorem amr:aV Wt:=bP (l:=[]) Tryz.func157 trivial
def UR:aS:=⟨245,⟨[(0,cn),(1,aI)],[]⟩,Cx,X7⟩
theorem alQ:aV UR:=bP (l:=[]) Tryz.func245 trivial
def S8:bq:=c4 ⟨[(0,cn),(4,.own .str 0),(5,cn),(6,aI)],r7⟩ 0 ⟨[(4,.own .str 0),(5,cn)],r7⟩
def UQ:aS:=⟨247,fN,⟨[(0,.own .str 0),(1,cX)],r7⟩,X6⟩
def QE:a8:=bW [] [(0,S8.go UZ 0)] 0
theorem Vw:bL Tryz.prog (QE).Γ:=bE trivial
theorem akO:cg QE Tryz.f247 0 0:=cm (L:=S8) (b:=Vv) (m:=[]) Vw trivial
theorem alP:aV UQ:=ca (F:=QE) (fn:=Tryz.f247) (m:=cK Tryz.f247 [0]) Vw Tryz.func247 ⟨akO,trivial⟩
def Uf:bq:=⟨⟨[(0,cn),(3,aI)],[]⟩,.ret,p8,(.exit 0),⟨[],[]⟩⟩
def IS:aS:=⟨248,fN,dG,KO⟩
def I3:a8:=bW [] [(0,Uf.go WE 0)] 0
theorem WD:bL Tryz.prog (I3).Γ:=bE trivial
theorem alO:cg I3 Tryz.f248 0 0:=cm (L:=Uf) (b:=WC) (m:=[]) WD trivial
theorem WG:aV IS:=ca (F:=I3) (fn:=Tryz.f248) (m:=cK Tryz.f248 [0]) WD Tryz.func248 ⟨alO,trivial⟩
def Ta:bq:=⟨⟨[(3,.own .str 0),(4,cX),(5,aI)],r7⟩,.ret,p8,(.exit 0),uv⟩
def QS:aS:=⟨228,fN,dG,BS⟩
def QG:a8:=bW [UQ,IS] [(0,Ta.go U6 0)] 0
theorem U5:bL Tryz.prog (QG).Γ:=bE ⟨alP,WG,trivial⟩
theorem akQ:cg QG Tryz.f228 0 0:=cm (L:=Ta) (b:=U4) (m:=[]) U5 trivial
theorem U7:aV QS:=ca (F:=QG) (fn:=Tryz.f228) (m:=cK Tryz.f228 [0]) U5 Tryz.func228 ⟨akQ,trivial⟩
def Ue:bq:=c4 ⟨[(0,aI),(3,cn),(4,aI)],[]⟩ 0 ⟨[(3,cn)],[]⟩
def Wl:aS:=⟨249,hg,fN,Y2⟩
def I2:a8:=bW [] [(0,Ue.go WB 0)] 0
theorem Wz:bL Tryz.prog (I2).Γ:=bE trivial
theorem alN:cg I2 Tryz.f249 0 0:=cm (L:=Ue) (b:=Wy) (m:=[]) Wz trivial
theorem ame:aV Wl:=ca (F:=I2) (fn:=Tryz.f249) (m:=cK Tryz.f249 [0]) Wz Tryz.func249 ⟨alN,trivial⟩
def Sm:bq:=c4 ⟨[(0,cn),(3,aI),(4,aI)],[]⟩ 0 ⟨[(0,cn),(3,aI)],[]⟩
def Qc:aS:=⟨229,fN,dG,Hq⟩
def Ql:a8:=bW [Wl] [(0,Sm.go TO 0)] 0
theorem TN:bL Tryz.prog (Ql).Γ:=bE ⟨ame,trivial⟩
theorem ajT:cg Ql Tryz.f229 0 0:=cm (L:=Sm) (b:=TM) (m:=[]) TN trivial
theorem TP:aV Qc:=ca (F:=Ql) (fn:=Tryz.f229) (m:=cK Tryz.f229 [0]) TN Tryz.func229 ⟨ajT,trivial⟩
def qE:bq:=⟨⟨[(1,.ptr 0 fZ 0 []),(32,cX)],uu⟩,.nrm,⟨[(1,.ptr 0 fZ 0 [])],uu⟩,.ret,p8⟩
def qM:bq:=⟨⟨[(1,.ptr 0 fZ 0 [])],uu⟩,.ret,p8,(.exit 90000010),⟨[],[]⟩⟩
def qP:bq:=⟨⟨[(1,.ptr 0 fZ 0 [])],uu⟩,.ret,p8,(.exit 90000003),⟨[],[]⟩⟩
def tu:aS:=⟨259,Cx,dG,X8⟩
def mA:a8:=mm [IS,QS,Qc]
def q7:j4:=[(100002,qE.go bi 0),(10,qM.go wB 0),(3,qP.go j5 0)]
theorem aiu (s:qE.S.ty.den): @Eq (Option qE.Out) ((fq mA q7 (dZ (bJ Tryz.f259) 100002) 0 (qE.S.enc s)).bind fun (e,st)=>qE.out (mA).m e st).val (bi s):=by kernel_rfl
theorem ajv (s:qM.S.ty.den): @Eq (Option qM.Out) ((fq mA q7 (dZ (bJ Tryz.f259) 10) 0 (qM.S.enc s)).bind fun (e,st)=>qM.out (mA).m e st).val (wB s):=by kernel_rfl
theorem ajz (s:qP.S.ty.den): @Eq (Option qP.Out) ((fq mA q7 (dZ (bJ Tryz.f259) 3) 0 (qP.S.enc s)).bind fun (e,st)=>qP.out (mA).m e st).val (j5 s):=by kernel_rfl
theorem alR (s:(tu).S.ty.den):(qu mA q7 Tryz.f259 (tu).S (tu).Z s).val=(tu).g s:=by kernel_rfl
theorem v6:bL Tryz.prog (mA).Γ:=bE ⟨WG,U7,TP,trivial⟩
theorem aiv:ic Tryz.prog mA Tryz.f259.ntmps (qE.go bi 0) (dZ (bJ Tryz.f259) 100002):=
  kg dE v6 dN (L:=qE) (k:=0) (f:=bi) (C:=q7) (l:=[]) (m:=[]) (by kernel_rfl) trivial (by kernel_rfl) trivial (by kernel_rfl) (dQ _ (by kernel_rfl)) aiu
theorem ajw:ic Tryz.prog mA Tryz.f259.ntmps (qM.go wB 0) (dZ (bJ Tryz.f259) 10):=
  kg dE v6 dN (L:=qM) (k:=0) (f:=wB) (C:=q7) (l:=[]) (m:=[]) (by kernel_rfl) trivial (by kernel_rfl) trivial (by kernel_rfl) (dQ _ (by kernel_rfl)) ajv
theorem ajA:ic Tryz.prog mA Tryz.f259.ntmps (qP.go j5 0) (dZ (bJ Tryz.f259) 3):=
  kg dE v6 dN (L:=qP) (k:=0) (f:=j5) (C:=q7) (l:=[]) (m:=[(qM.go wB 0,dZ (bJ Tryz.f259) 10)]) (by kernel_rfl) trivial (by kernel_rfl) ⟨ajw,trivial⟩ (by kernel_rfl) (dQ _ (by kernel_rfl)) ajz
theorem alS:cc Tryz.prog tu:=
  x9 (C:=q7) (F:=mA) dE v6 dN (fn:=Tryz.f259) (l:=[]) (m:=[(qE.go bi 0,dZ (bJ Tryz.f259) 100002),(qP.go j5 0,dZ (bJ Tryz.f259) 3)]) Tryz.func259 (by kernel_rfl) (by kernel_rfl) (by kernel_rfl) trivial (by kernel_rfl) ⟨aiv,ajA,trivial⟩ (dQ _ (by kernel_rfl)) (by kernel_rfl) alR
theorem alT:aV tu:=(alS).x (by kernel_rfl)
def Xj:aS:=⟨246,Cx,⟨[(0,cn),(1,aI)],[]⟩,Zk⟩
theorem anh:aV Xj:=bP (l:=[tu]) Tryz.func246 ⟨alT,trivial⟩
def S9:bq:=⟨⟨[(0,cn),(2,.ptr 0 fZ 0 []),(4,aI)],[.box 245 fZ Ck]⟩,.ret,⟨[(2,.ptr 0 fZ 0 []),(3,aI)],uu⟩,(.exit 0),⟨[(2,.ptr 0 fZ 0 [])],[.box 245 fZ Ck]⟩⟩
def QR:aS:=⟨227,fN,⟨[(0,.dat fZ),(1,aI)],[]⟩,tJ⟩
def QF:a8:=bW [UR,Xj] [(0,S9.go U2 0)] 0
theorem U1:bL Tryz.prog (QF).Γ:=bE ⟨alQ,anh,trivial⟩
theorem akP:cg QF Tryz.f227 0 0:=cm (L:=S9) (b:=U0) (m:=[]) U1 trivial
theorem U3:aV QR:=ca (F:=QF) (fn:=Tryz.f227) (m:=cK Tryz.f227 [0]) U1 Tryz.func227 ⟨akP,trivial⟩
def SX:aS:=⟨199,fN,dG,Bv⟩
theorem ajY:aV SX:=bP (l:=[QR]) Tryz.func199 ⟨U3,trivial⟩
def T8:aS:=⟨200,⟨[(0,.dat hA),(1,aI)],[]⟩,r5,w5⟩
theorem ak1:aV T8:=bP (l:=[]) Tryz.func200 trivial
def Uq:aS:=⟨201,⟨[(0,.dat hA),(1,aI)],[]⟩,r5,BV⟩
theorem alx:aV Uq:=bP (l:=[]) Tryz.func201 trivial
def Un:aS:=⟨202,hZ,dG,Bb⟩
theorem alu:aV Un:=bP (l:=[QS,Qc]) Tryz.func202 ⟨U7,TP,trivial⟩
def T7:aS:=⟨158,⟨[(0,.dat dJ),(1,.dat cJ)],[]⟩,ug,Hs⟩
theorem ak0:aV T7:=bP (l:=[SX,T8,Uq,Un]) Tryz.func158 ⟨ajY,ak1,alx,alu,trivial⟩
def T4:aS:=⟨198,Cy,r5,Hr⟩
theorem akT:aV T4:=bP (l:=[QR]) Tryz.func198 ⟨U3,trivial⟩
def Tc:bq:=c4 ⟨[(0,.dat (.list ba)),(2,.ptr 0 hA 0 []),(3,.ptr 1 hA 0 []),(4,aI)],Cm⟩ 0 ⟨[(2,.ptr 0 hA 0 []),(3,.ptr 1 hA 0 [])],Cm⟩
def UU:aS:=⟨156,m2,r5,abs⟩
def QI:a8:=bW [T4] [(0,Tc.go Iq 0)] 0
theorem Vd:bL Tryz.prog (QI).Γ:=bE ⟨akT,trivial⟩
theorem akU:cg QI Tryz.f156 0 0:=cm (L:=Tc) (b:=A8) (m:=[]) Vd trivial
theorem alW:aV UU:=ca (F:=QI) (fn:=Tryz.f156) (m:=cK Tryz.f156 [0]) Vd Tryz.func156 ⟨akU,trivial⟩
def Uo:aS:=⟨155,r5,ug,Kn⟩
theorem alv:aV Uo:=bP (l:=[]) Tryz.func155 trivial
def UC:bq:=c4 ⟨[(1,.ptr 0 dp 0 []),(2,.ptr 1 dJ 0 []),(3,.ptr 2 dJ 0 []),(4,aI)],HH⟩ 0 ⟨[(1,.ptr 0 dp 0 []),(2,.ptr 1 dJ 0 []),(3,.ptr 2 dJ 0 [])],HH⟩
def UD:bq:=c4 ⟨[(1,.ptr 0 dp 0 []),(2,.ptr 1 dJ 0 []),(3,.ptr 2 dJ 0 []),(5,aI)],HH⟩ 2 ⟨[(2,.ptr 0 dJ 0 []),(3,.ptr 1 dJ 0 [])],[.box 95 dJ k4,.box 95 dJ (.dat dJ)]⟩
def WY:aS:=⟨105,⟨[(0,.dat dp)],[]⟩,ug,pV⟩
def Ho:a8:=bW [Wt,T7,UU,Uo] [(0,UC.go JT 0),(2,UD.go JU 0)] 0
theorem JS:bL Tryz.prog (Ho).Γ:=bE ⟨amr,ak0,alW,alv,trivial⟩
theorem ams:cg Ho Tryz.f105 0 0:=cm (L:=UC) (b:=BC) (m:=[]) JS trivial
theorem amt:cg Ho Tryz.f105 2 1:=cm (L:=UD) (b:=BD) (m:=[]) JS trivial
theorem anm:aV WY:=ca (F:=Ho) (fn:=Tryz.f105) (m:=cK Tryz.f105 [0,2]) JS Tryz.func105 ⟨ams,amt,trivial⟩
def SY:aS:=⟨118,⟨[(0,.agg [(.own h1 0)]),(1,aI)],[.arr 87 h1 false]⟩,⟨[(0,cX)],[.arr 87 h1 false]⟩,Hi⟩
def aka:a8:=bW [] [] 1
theorem ajZ:aV SY:=ca (F:=aka) (fn:=Tryz.f118) (m:=[]) (bE trivial) Tryz.func118 trivial
def Ul:bq:=c4 ⟨[(4,.ptr 0 c0 0 []),(6,.ptr 1 c0 0 []),(7,.dat (.list (.int .i64)))],xH⟩ 0 ⟨[(4,.ptr 0 c0 0 []),(6,.ptr 1 c0 0 [])],xH⟩
def IW:aS:=⟨89,oK,oK,xl⟩
def I9:a8:=bW [G8,Qi,SY] [(0,Ul.go Jp 0)] 0
theorem WR:bL Tryz.prog (I9).Γ:=bE ⟨Jq,TX,ajZ,trivial⟩
theorem aly:cg I9 Tryz.f89 0 0:=cm (L:=Ul) (b:=Bw) (m:=[]) WR trivial
theorem WS:aV IW:=ca (F:=I9) (fn:=Tryz.f89) (m:=cK Tryz.f89 [0]) WR Tryz.func89 ⟨aly,trivial⟩
def Hk:aS:=⟨98,oK,dG,xw⟩
theorem Kd:aV Hk:=bP (l:=[]) Tryz.func98 trivial
def rv:aS:=⟨59,oK,⟨[(0,.dat dp),(1,aI)],[]⟩,kh⟩
theorem xd:aV rv:=bP (l:=[Hk]) Tryz.func59 ⟨Kd,trivial⟩
end D
open Go Go.X Go.Proofs D
namespace D
def ae7:aS:=⟨230,fN,dG,AM⟩
theorem aiz:aV ae7:=bP (l:=[]) Tryz.func230 trivial
def aeV:aS:=⟨205,hZ,hg,FX⟩
theorem aie:aV aeV:=bP (l:=[ae7]) Tryz.func205 ⟨aiz,trivial⟩
def F0:aS:=⟨161,hZ,hg,wy⟩
theorem PC:aV F0:=bP (l:=[aeV]) Tryz.func161 ⟨aie,trivial⟩
def adt:bq:=c4 ⟨[(0,.dat (.list .str)),(1,.fn 161 [] []),(5,cn),(6,aI)],[]⟩ 0 ⟨[(5,cn)],[]⟩
def adW:aS:=⟨160,⟨[(0,.dat (.list .str)),(1,.fn 161 [] [])],[]⟩,fN,OL⟩
def Na:a8:=bW [F0] [(0,adt.go Nb 0)] 0
theorem ad0:bL Tryz.prog (Na).Γ:=bE ⟨PC,trivial⟩
theorem auK:cg Na Tryz.f160 0 0:=cm (L:=adt) (b:=vh) (m:=[]) ad0 trivial
theorem au3:aV adW:=ca (F:=Na) (fn:=Tryz.f160) (m:=cK Tryz.f160 [0]) ad0 Tryz.func160 ⟨auK,trivial⟩
def VJ:aS:=⟨117,⟨[(0,.dat (.list .str))],[]⟩,fN,Db⟩
theorem amZ:aV VJ:=bP (l:=[adW]) Tryz.func117 ⟨au3,trivial⟩
def pF:aS:=⟨74,m0,dG,j8⟩
theorem rh:aV pF:=bP (l:=[]) Tryz.func74 trivial
def BK:aS:=⟨75,xK,m0,rP⟩
theorem Hw:aV BK:=bP (l:=[VJ,pF]) Tryz.func75 ⟨amZ,rh,trivial⟩
def TE:bq:=c4 ⟨[(2,.ptr 0 ac 0 []),(5,.own ac 1),(6,cn),(9,.dat (.list .str)),(10,aI),(11,aI)],xJ⟩ 0 ⟨[(2,.ptr 0 ac 0 []),(5,.own ac 1),(6,cn)],xJ⟩
def VI:aS:=⟨114,⟨[(0,.dat ac),(1,.dat (.list .str))],[]⟩,⟨ig,cd⟩,pW⟩
def Ja:a8:=bW [BK] [(0,TE.go WX 0)] 0
theorem WW:bL Tryz.prog (Ja).Γ:=bE ⟨Hw,trivial⟩
theorem alF:cg Ja Tryz.f114 0 0:=cm (L:=TE) (b:=WV) (m:=[]) WW trivial
theorem amX:aV VI:=ca (F:=Ja) (fn:=Tryz.f114) (m:=cK Tryz.f114 [0]) WW Tryz.func114 ⟨alF,trivial⟩
def IM:aS:=⟨67,HS,⟨ig,cd⟩,yb⟩
theorem V2:aV IM:=bP (l:=[VI]) Tryz.func67 ⟨amX,trivial⟩
def B0:aS:=⟨216,fN,m0,oz⟩
theorem C1:aV B0:=bP (l:=[]) Tryz.func216 trivial
def Gs:aS:=⟨324,fb,⟨ig,cd⟩,IK⟩
theorem SN:aV Gs:=bP (l:=[B0]) Tryz.func324 ⟨C1,trivial⟩
def Gk:aS:=⟨337,fb,⟨ig,cd⟩,IE⟩
theorem SG:aV Gk:=bP (l:=[B0]) Tryz.func337 ⟨C1,trivial⟩
def F5:aS:=⟨348,fb,⟨ig,cd⟩,Qs⟩
theorem Sq:aV F5:=bP (l:=[]) Tryz.func348 trivial
def Tg:bq:=c4 Q7 0 Q7
def n0:aS:=⟨217,fN,m0,kT⟩
def QK:a8:=bW [] [(0,Tg.go Vl 0)] 0
theorem Vk:bL Tryz.prog (QK).Γ:=bE trivial
theorem akx:cg QK Tryz.f217 0 0:=cm (L:=Tg) (b:=Vj) (m:=[]) Vk trivial
theorem pC:aV n0:=ca (F:=QK) (fn:=Tryz.f217) (m:=cK Tryz.f217 [0]) Vk Tryz.func217 ⟨akx,trivial⟩
def F6:aS:=⟨355,fb,⟨ig,cd⟩,Qt⟩
theorem Sr:aV F6:=bP (l:=[n0]) Tryz.func355 ⟨pC,trivial⟩
def FY:aS:=⟨365,fb,⟨ig,cd⟩,PX⟩
theorem afA:aV FY:=bP (l:=[n0]) Tryz.func365 ⟨pC,trivial⟩
def FZ:aS:=⟨371,fb,⟨ig,cd⟩,PY⟩
theorem afB:aV FZ:=bP (l:=[]) Tryz.func371 trivial
def Wg:aS:=⟨72,fb,⟨ig,cd⟩,om⟩
noncomputable def amI:a8:=kx fV (CP fV (gl [Gs,Gk,F5,F6,FY,FZ]) 110 Tryz.f110 (gl [Gs,Gk,F5,F6,FY,FZ])) (fun k st=>.fail) 0
theorem al5:aV Wg:=ca (F:=amI) (fn:=Tryz.f72) (m:=[]) (C4 (by kernel_rfl) (Dl (F:=(kx fV (gl [Gs,Gk,F5,F6,FY,FZ]) (fun _ _=>.fail) 0)) dE (bE ⟨SN,SG,Sq,Sr,afA,afB,trivial⟩) dN Tryz.func110 (by kernel_rfl) (by kernel_rfl) (by kernel_rfl)) (bE ⟨SN,SG,Sq,Sr,afA,afB,trivial⟩)) Tryz.func72 trivial
def rj:aS:=⟨60,⟨[(0,.dat dp)],[]⟩,dG,rQ⟩
theorem w1:aV rj:=bP (l:=[]) Tryz.func60 trivial
def OR:aS:=⟨231,hZ,hg,OW⟩
set_option maxHeartbeats 1000000 in
theorem auH (a b:ByteArray) (w:World):Calls Tryz.prog 231 #[.string a,.string b] w fun e w'=>e=.returned (.int .i64 (Lib.compareBytes a.data.toList b.data.toList))/\w'=w:=by
  go_enter Tryz.func231,Tryz.ntmps231
  go_wp2
  rw[run_callFunc_extern Tryz.func250 (by kernel_rfl) (by kernel_rfl) (by kernel_rfl) (e:=Extern.BytealgCompare.compare) (by kernel_rfl),Lib.run_compareString]
  simp only[Result.andThen]
  rw[Oper.upon_value]
  go_wp2
  go_ret
  exact ⟨rfl,rfl⟩
theorem avf:cc Tryz.prog OR:=agV (g:=fun a b=>Lib.compareBytes a b) Tryz.func231 (by kernel_rfl) auH
theorem avg:aV OR:=avf.x (by kernel_rfl)
def afL:aS:=⟨208,hZ,hg,Qg⟩
theorem ajx:aV afL:=bP (l:=[OR]) Tryz.func208 ⟨avg,trivial⟩
def S0:aS:=⟨207,⟨[(0,.dat ba),(1,cn)],[]⟩,hg,Bj⟩
theorem akn:aV S0:=bP (l:=[afL]) Tryz.func207 ⟨ajx,trivial⟩
def aa5:bq:=c4 ⟨[(0,.dat (.list ba)),(1,cn),(2,.fn 207 [] []),(8,aI),(9,aI),(10,aI)],[]⟩ 0 ⟨[(0,.dat (.list ba)),(1,cn),(2,.fn 207 [] []),(8,aI),(9,aI)],[]⟩
def abc:aS:=⟨206,⟨[(0,.dat (.list ba)),(1,cn),(2,.fn 207 [] [])],[]⟩,⟨[(0,aI),(1,cX)],[]⟩,Ex⟩
def Mt:a8:=bW [S0] [(0,aa5.go Mu 0)] 0
theorem abf:bL Tryz.prog (Mt).Γ:=bE ⟨akn,trivial⟩
theorem ate:cg Mt Tryz.f206 0 0:=cm (L:=aa5) (b:=Ew) (m:=[]) abf trivial
theorem atf:aV abc:=ca (F:=Mt) (fn:=Tryz.f206) (m:=cK Tryz.f206 [0]) abf Tryz.func206 ⟨ate,trivial⟩
def G2:aS:=⟨164,Cg,⟨[(0,aI),(1,cX)],[]⟩,tK⟩
theorem Iy:aV G2:=bP (l:=[abc]) Tryz.func164 ⟨atf,trivial⟩
def IX:aS:=⟨127,Cg,HU,Dc⟩
theorem am0:aV IX:=bP (l:=[G2]) Tryz.func127 ⟨Iy,trivial⟩
def Nh:aS:=⟨165,⟨[(0,.dat (.list cJ))],[]⟩,⟨[(0,.fn 209 [] [(.ptr 0 (.list cJ) 0 [])])],[.box 83 (.list cJ) (.dat (.list cJ))]⟩,zE⟩
theorem aek:aV Nh:=bP (l:=[]) Tryz.func165 trivial
def tG:aS:=⟨174,HT,dG,pZ⟩
theorem xg:aV tG:=bP (l:=[]) Tryz.func174 trivial
def QY:aS:=⟨375,⟨[(0,.ptr 0 iv 0 []),(1,aI)],[.box 190 iv p9]⟩,⟨[],[.box 190 iv p9]⟩,xh⟩
def ale:a8:=bW [] [] 1
theorem VB:aV QY:=ca (F:=ale) (fn:=Tryz.f375) (m:=[]) (bE trivial) Tryz.func375 trivial
def S6:aS:=⟨380,uo,um,Bm⟩
def akg:a8:=bW [tG,QY] [] 1
theorem akt:aV S6:=ca (F:=akg) (fn:=Tryz.f380) (m:=[]) (bE ⟨xg,VB,trivial⟩) Tryz.func380 trivial
def OS:aS:=⟨270,hZ,dG,o5⟩
theorem aec:aV OS:=bP (l:=[]) Tryz.func270 trivial
def aeb:aS:=⟨253,hZ,Cv,OX⟩
theorem avh:aV aeb:=bP (l:=[OS]) Tryz.func253 ⟨aec,trivial⟩
def Pn:aS:=⟨240,hZ,Cv,qr⟩
theorem afd:aV Pn:=bP (l:=[aeb]) Tryz.func240 ⟨avh,trivial⟩
end D
open Go Go.X Go.Proofs D
namespace D
def G9:aS:=⟨239,⟨[(0,cn),(1,cn),(2,cn)],[]⟩,Cv,rC⟩
theorem Jw:aV G9:=bP (l:=[Pn]) Tryz.func239 ⟨afd,trivial⟩
def IY:aS:=⟨379,uo,um,rE⟩
def amL:a8:=bW [G9] [] 1
theorem Wv:aV IY:=ca (F:=amL) (fn:=Tryz.f379) (m:=[]) (bE ⟨Jw,trivial⟩) Tryz.func379 trivial
def Po:aS:=⟨359,hZ,dG,tf⟩
theorem afe:aV Po:=bP (l:=[OS]) Tryz.func359 ⟨aec,trivial⟩
def S5:aS:=⟨378,uo,um,Bl⟩
def akf:a8:=bW [IY,Po] [] 1
theorem aks:aV S5:=ca (F:=akf) (fn:=Tryz.f378) (m:=[]) (bE ⟨Wv,afe,trivial⟩) Tryz.func378 trivial
def S4:aS:=⟨377,uo,um,Bk⟩
def ake:a8:=bW [tG] [] 1
theorem akr:aV S4:=ca (F:=ake) (fn:=Tryz.f377) (m:=[]) (bE ⟨xg,trivial⟩) Tryz.func377 trivial
def S3:aS:=⟨376,uo,um,wU⟩
def akd:a8:=bW [] [] 1
theorem akq:aV S3:=ca (F:=akd) (fn:=Tryz.f376) (m:=[]) (bE trivial) Tryz.func376 trivial
def S2:aS:=⟨374,uo,um,wT⟩
def akc:a8:=bW [QY] [] 1
theorem akp:aV S2:=ca (F:=akc) (fn:=Tryz.f374) (m:=[]) (bE ⟨VB,trivial⟩) Tryz.func374 trivial
def PA:Shape:=⟨[(0,.yld 1012800 0),(1,aI),(2,.dat cJ)],Rv⟩
def PB:Shape:=⟨[(0,cX)],Rv⟩
def afv:aS:=⟨1012800,PA,PB,nc⟩
def afw:a8:=bW [S6,IY,S5,S4,S3,S2] [] 3
theorem ajd (s:PA.ty.den): @Eq (Option PB.ty.den) (qv afw e1 1012800 (iO Tryz.f128 0) PA PB s).val (nc s):=by kernel_rfl
theorem aje:aV afv:=
  C8 (F:=afw) (c:=iO Tryz.f128 0) dE (bE ⟨akt,Wv,aks,akr,akq,akp,trivial⟩) dN (by kernel_rfl) (by kernel_rfl) (by kernel_rfl) (m:=[]) (by kernel_rfl) trivial (by kernel_rfl) ajd
def acU:bq:=⟨⟨[(0,.yld 1012800 0),(1,.ptr 1 (.list cJ) 0 []),(3,aI)],xL⟩,.ret,⟨[],xL⟩,(.exit 0),⟨[],xL⟩⟩
def adp:aS:=⟨209,⟨[(0,.yld 1012800 0),(1,.ptr 1 (.list cJ) 0 [])],xL⟩,⟨[],xL⟩,Nk⟩
def MY:a8:=bW [afv] [(0,acU.go M1 4)] 4
theorem adz:bL Tryz.prog (MY).Γ:=bE ⟨aje,trivial⟩
theorem aus:cg MY Tryz.f209 0 0:=cm (L:=acU) (b:=zm) (m:=[]) adz trivial
theorem auS:aV adp:=ca (F:=MY) (fn:=Tryz.f209) (m:=cK Tryz.f209 [0]) adz Tryz.func209 ⟨aus,trivial⟩
def JO:Shape:=⟨[(0,cn),(1,.dat (.list cJ))],[]⟩
def JP:Shape:=⟨[(0,.dat iv)],[]⟩
def Hn:aS:=⟨128,JO,JP,yf⟩
def W3:a8:={cx:=fV,Γ:=gl [Nh,adp],Λ:=fun k st=>.fail,keep:=fun _=>none,m:=0,rfs:=fun k=>bif Nat.beq k 3 then some 1012800 else none,its:=[209]}
theorem anx (s:JO.ty.den): @Eq (Option JP.ty.den) (ku W3 Tryz.f128 JO JP s).val (yf s):=by kernel_rfl
theorem anz:cc Tryz.prog Hn:=
  pQ (F:=W3) dE (bE ⟨aek,auS,trivial⟩) dN (fn:=Tryz.f128) (m:=[]) Tryz.func128 (by kernel_rfl) (by kernel_rfl) (by kernel_rfl) trivial (yI (m:=[(3,iO Tryz.f128 0)]) (its:=[209]) (by kernel_rfl) ⟨yR (Y:=1012800) (by kernel_rfl) (by kernel_rfl),trivial⟩ (by kernel_rfl) ⟨⟨_,Tryz.func209,by kernel_rfl,by kernel_rfl⟩,trivial⟩) (by kernel_rfl) anx
theorem an1:aV Hn:=(anz).x (by kernel_rfl)
def Py:aS:=⟨232,fN,dG,tn⟩
theorem afz:aV Py:=bP (l:=[]) Tryz.func232 trivial
def afI:aS:=⟨210,hZ,dG,GQ⟩
theorem aji:aV afI:=bP (l:=[Py]) Tryz.func210 ⟨afz,trivial⟩
def ae2:aS:=⟨211,fN,dG,F1⟩
theorem ain:aV ae2:=bP (l:=[]) Tryz.func211 trivial
def adP:bq:=c4 ⟨[(0,.dat (.list .str)),(1,cn),(6,aI),(7,aI),(8,aI)],[]⟩ 0 ⟨[(0,.dat (.list .str)),(1,cn),(6,aI),(7,aI)],[]⟩
def lc:aS:=⟨166,⟨[(0,.dat (.list .str)),(1,cn)],[]⟩,⟨[(0,aI),(1,cX)],[]⟩,E9⟩
def Nl:a8:=bW [afI,ae2] [(0,adP.go Nn 0)] 0
theorem ad8:bL Tryz.prog (Nl).Γ:=bE ⟨aji,ain,trivial⟩
theorem auV:cg Nl Tryz.f166 0 0:=cm (L:=adP) (b:=EJ) (m:=[]) ad8 trivial
theorem auJ:aV lc:=ca (F:=Nl) (fn:=Tryz.f166) (m:=cK Tryz.f166 [0]) ad8 Tryz.func166 ⟨auV,trivial⟩
def JG:aS:=⟨131,⟨[(0,cn),(1,.dat (.list .str))],[]⟩,hg,Dx⟩
theorem anp:aV JG:=bP (l:=[lc]) Tryz.func131 ⟨auJ,trivial⟩
def QX:aS:=⟨130,⟨[(0,.dat iv),(1,.dat ba),(2,cX)],[]⟩,HU,CV⟩
theorem amA:aV QX:=bP (l:=[]) Tryz.func130 trivial
def VP:bq:=⟨⟨[(1,cn),(2,.ptr 0 gj 0 []),(4,.ptr 1 ba 0 []),(5,.ptr 2 .bool 0 []),(6,.ptr 3 (.int .i64) 0 []),(8,aI),(1000000000,.dfr 129 [(.ptr 3 (.int .i64) 0 [])] [(.ptr 1 ba 0 []),(.ptr 2 .bool 0 [])] iv)],[.box 36 gj (.dat gj),.box 58 ba (.agg [cn,cn,aI]),.box 4 .bool cX,.box 3 (.int .i64) aI]⟩,.ret,Q9,(.exit 80000000),⟨[],[]⟩⟩
def wV:bq:=⟨Q9,.nrm,⟨[(4,.ptr 0 ba 0 []),(5,.ptr 1 .bool 0 []),(6,.ptr 2 (.int .i64) 0 []),(7,aI)],[.box 58 ba (.dat ba),.box 4 .bool cX,.box 3 (.int .i64) aI]⟩,(.exit 80000000),⟨[],[]⟩⟩
def tH:Shape:=⟨[(0,.dat gj),(1,cn)],[]⟩
def tI:Shape:=⟨[(0,.dat ba),(1,cX),(2,aI),(3,aI)],[]⟩
def Kf:aS:=⟨81,tH,tI,oA⟩
def B1:a8:={cx:=fV,Γ:=gl [rv,rj,IX,Hn,JG,QX],Λ:=fun k st=>bif Nat.beq k 0 then VP.go CW 0 st else bif Nat.beq k c1 then wV.go BZ 0 st else .fail,keep:=fun _=>none,m:=0,dfr:=fun k=>bif Nat.beq k 0 then some (129,[6],[4,5],iv) else none}
def W5:a8:=kx fV (gl [rv,rj,IX,Hn,JG,QX]) (fun _ _=>.fail) 3
theorem ask (s:wV.S.ty.den): @Eq (Option (wV.S.ty.den⊕wV.Out)) (sr wV (B1).m W5 129 Tryz.f129 s).val (tL s):=by kernel_rfl
theorem aoh (s:tH.ty.den): @Eq (Option tI.ty.den) (Eu B1 Tryz.f81 tH tI s).val (oA s):=by kernel_rfl
theorem aig:bL Tryz.prog (B1).Γ:=bE ⟨xd,w1,am0,an1,anp,amA,trivial⟩
theorem an2:cg B1 Tryz.f81 0 0:=cm (L:=VP) (b:=kC) (m:=[]) aig trivial
theorem Yi:cc Tryz.prog Kf:=
  aoy (F:=B1) (Fd:=W5) (L:=wV) (fd:=129) (fnd:=Tryz.f129) (b:=tL) (g:=BZ) dE aig dN (fn:=Tryz.f81) (m:=cK Tryz.f81 [0]) Tryz.func81 (by kernel_rfl) (by kernel_rfl) (by kernel_rfl) ⟨an2,trivial⟩ (fun _=>rfl) (by kernel_rfl) dE aig Tryz.func129 (by kernel_rfl) (by kernel_rfl) (by kernel_rfl) (by kernel_rfl) ask (by kernel_rfl) aoh
theorem aoi:aV Kf:=(Yi).x (by kernel_rfl)
def T9:aS:=⟨147,⟨[(0,aI),(1,aI),(2,aI)],[]⟩,dG,Hx⟩
theorem akE:aV T9:=bP (l:=[]) Tryz.func147 trivial
def IZ:aS:=⟨90,⟨[(0,.dat Dd)],[]⟩,dG,KY⟩
theorem Ww:aV IZ:=bP (l:=[T9]) Tryz.func90 ⟨akE,trivial⟩
def Wk:aS:=⟨112,⟨[(0,.dat h1)],[]⟩,dG,YZ⟩
theorem amc:aV Wk:=bP (l:=[]) Tryz.func112 trivial
def acW:bq:=⟨⟨[(0,.dat (.list h1)),(1,.fn 112 [] []),(7,aI),(8,aI)],[]⟩,.ret,⟨[(4,aI)],[]⟩,(.exit 0),⟨[],[]⟩⟩
def adr:aS:=⟨111,⟨[(0,.dat (.list h1)),(1,.fn 112 [] [])],[]⟩,hg,ael⟩
def M0:a8:=bW [Wk] [(0,acW.go adF 0)] 0
theorem adE:bL Tryz.prog (M0).Γ:=bE ⟨amc,trivial⟩
theorem rx:cg M0 Tryz.f111 0 0:=cm (L:=acW) (b:=adD) (m:=[]) adE trivial
theorem auX:aV adr:=ca (F:=M0) (fn:=Tryz.f111) (m:=cK Tryz.f111 [0]) adE Tryz.func111 ⟨rx,trivial⟩
def IQ:aS:=⟨104,⟨[(0,.dat c0)],[]⟩,⟨[(0,.agg [(.own h1 0)])],[.arr 87 h1 false]⟩,KM⟩
theorem Wx:aV IQ:=bP (l:=[]) Tryz.func104 trivial
def VM:bq:=⟨⟨[(2,.ptr 0 c0 0 []),(3,.ptr 1 dp 0 []),(4,.ptr 2 c0 0 []),(14,.dat (.list (.int .i64))),(15,aI),(16,aI)],Ri⟩,.ret,⟨[(4,.ptr 0 c0 0 []),(5,aI),(6,aI)],[.box 32 c0 (.dat c0)]⟩,(.exit 0),⟨[(2,.ptr 0 c0 0 []),(3,.ptr 1 dp 0 []),(4,.ptr 2 c0 0 [])],Ri⟩⟩
def VN:bq:=c4 ⟨[(4,.ptr 0 c0 0 []),(9,aI),(10,.ptr 1 c0 0 []),(57,.dat (.list (.int .i64))),(58,aI),(59,aI)],xH⟩ 2 ⟨[(4,.ptr 0 c0 0 []),(9,aI),(10,.ptr 1 c0 0 [])],xH⟩
def Kk:aS:=⟨63,⟨[(0,.dat c0),(1,.dat dp)],[]⟩,⟨[(0,.dat c0),(1,aI),(2,aI)],[]⟩,DV⟩
def CS:a8:=bW [Hk,adr,IQ] [(0,VM.go X0 0),(2,VN.go X1 0)] 0
theorem Kv:bL Tryz.prog (CS).Γ:=bE ⟨Kd,auX,Wx,trivial⟩
theorem anc:cg CS Tryz.f63 0 0:=cm (L:=VM) (b:=XW) (m:=[]) Kv trivial
theorem ane:cg CS Tryz.f63 2 1:=cm (L:=VN) (b:=XX) (m:=[]) Kv trivial
theorem X2:aV Kk:=ca (F:=CS) (fn:=Tryz.f63) (m:=cK Tryz.f63 [0,2]) Kv Tryz.func63 ⟨anc,ane,trivial⟩
def B3:Shape:=⟨[(0,.dat Dd)],[]⟩
def B5:Shape:=⟨[(0,.dat gj),(1,aI)],[]⟩
def an7:aS:=⟨40,B3,B5,LI⟩
def an9:a8:=mm [IZ,Kk]
theorem aoj:cc Tryz.prog an7:=nJ (F:=an9) (fn:=Tryz.f40) (m:=[]) (bE ⟨Ww,X2,trivial⟩) Tryz.func40 trivial
def JD:aS:=⟨83,Cu,fN,pU⟩
theorem Xp:aV JD:=bP (l:=[]) Tryz.func83 trivial
def Wq:aS:=⟨109,⟨[(0,.dat r8)],[]⟩,Cy,C5⟩
theorem amj:aV Wq:=bP (l:=[JD]) Tryz.func109 ⟨Xp,trivial⟩
end D
open Go Go.X Go.Proofs D
namespace D
def UA:bq:=c4 Ra 0 Rt
def Xk:aS:=⟨108,HR,hY,Du⟩
def JK:a8:=bW [] [(0,UA.go JQ 0)] 0
theorem Xq:bL Tryz.prog (JK).Γ:=bE trivial
theorem amk:cg JK Tryz.f108 0 0:=cm (L:=UA) (b:=Bz) (m:=[]) Xq trivial
theorem anj:aV Xk:=ca (F:=JK) (fn:=Tryz.f108) (m:=cK Tryz.f108 [0]) Xq Tryz.func108 ⟨amk,trivial⟩
def Uh:bq:=c4 ⟨[(0,.dat (.list r8)),(3,.own ba 0),(4,aI)],jc⟩ 0 ⟨[(3,.own ba 0)],jc⟩
def Wp:aS:=⟨51,⟨[(0,.dat (.list r8))],[]⟩,hY,x7⟩
def I5:a8:=bW [Wq,Xk] [(0,Uh.go Hf 0)] 0
theorem WJ:bL Tryz.prog (I5).Γ:=bE ⟨amj,anj,trivial⟩
theorem alm:cg I5 Tryz.f51 0 0:=cm (L:=Uh) (b:=wQ) (m:=[]) WJ trivial
theorem ami:aV Wp:=ca (F:=I5) (fn:=Tryz.f51) (m:=cK Tryz.f51 [0]) WJ Tryz.func51 ⟨alm,trivial⟩
def wF:Shape:=⟨[(0,.dat c0),(1,.dat (.list ba)),(2,.dat ac),(3,.dat (.list (.list .str))),(4,.dat lj)],[]⟩
def wH:Shape:=⟨[(0,.dat eR)],[]⟩
def wg (cQ:(bO×(List ak)×ah×(List (List af))×eh×Unit)->Option (dS×Unit)):aS:=⟨50,wF,wH,cQ⟩
def JF:aS:=⟨76,oK,⟨[(0,.dat dp),(1,aI)],[]⟩,xz⟩
theorem Xt:aV JF:=bP (l:=[G8]) Tryz.func76 ⟨Jq,trivial⟩
def IV:aS:=⟨54,Cu,fN,oo⟩
theorem WO:aV IV:=bP (l:=[]) Tryz.func54 trivial
def Xm:aS:=⟨52,Cu,fN,xy⟩
theorem anl:aV Xm:=bP (l:=[IV]) Tryz.func52 ⟨WO,trivial⟩
def Sn:bq:=c4 RA 0 RA
def AV:aS:=⟨53,fN,m0,mb⟩
def Qm:a8:=bW [] [(0,Sn.go TT 0)] 0
theorem TS:bL Tryz.prog (Qm).Γ:=bE trivial
theorem ajU:cg Qm Tryz.f53 0 0:=cm (L:=Sn) (b:=TR) (m:=[]) TS trivial
theorem GR:aV AV:=ca (F:=Qm) (fn:=Tryz.f53) (m:=cK Tryz.f53 [0]) TS Tryz.func53 ⟨ajU,trivial⟩
def Qd:aS:=⟨56,hZ,dG,rk⟩
theorem TQ:aV Qd:=bP (l:=[]) Tryz.func56 trivial
def UY:aS:=⟨57,Cu,fN,rg⟩
theorem alr:aV UY:=bP (l:=[]) Tryz.func57 trivial
def Hl:aS:=⟨55,fN,m0,mR⟩
theorem Ke:aV Hl:=bP (l:=[]) Tryz.func55 trivial
def d9:bq:=⟨⟨[(1,.ptr 0 hX 0 []),(2,.ptr 1 cJ 0 []),(3,cn),(5,.ptr 2 ac 0 []),(6,cn),(7,cn),(63,cX)],Cq⟩,.nrm,⟨Ry,Cq⟩,(.exit 90100013),⟨[],[]⟩⟩
def qS:bq:=⟨⟨Ry,Cq⟩,.ret,Rw,(.exit 90000016),⟨[],[]⟩⟩
def qQ:bq:=⟨⟨[(1,.ptr 0 hX 0 []),(2,.ptr 1 cJ 0 []),(3,cn),(5,.ptr 2 ac 0 [])],Cq⟩,.ret,Rw,(.exit 90000011),⟨[],[]⟩⟩
def ra:aS:=⟨14,⟨[(0,.dat hX)],[]⟩,fb,rF⟩
def mC:a8:=mm [IV,Xm,AV,Qd,UY,Hl]
def q9:j4:=[(100013,d9.go qN 0),(16,qS.go pA 0),(11,qQ.go lR 0)]
theorem aiA (s:d9.S.ty.den): @Eq (Option d9.Out) ((fq mC q9 (dZ (bJ Tryz.f14) 100013) 0 (d9.S.enc s)).bind fun (e,st)=>d9.out (mC).m e st).val (qN s):=by kernel_rfl
theorem ajD (s:qS.S.ty.den): @Eq (Option qS.Out) ((fq mC q9 (dZ (bJ Tryz.f14) 16) 0 (qS.S.enc s)).bind fun (e,st)=>qS.out (mC).m e st).val (pA s):=by kernel_rfl
theorem ajB (s:qQ.S.ty.den): @Eq (Option qQ.Out) ((fq mC q9 (dZ (bJ Tryz.f14) 11) 0 (qQ.S.enc s)).bind fun (e,st)=>qQ.out (mC).m e st).val (lR s):=by kernel_rfl
theorem amo (s:(ra).S.ty.den):(qu mC q9 Tryz.f14 (ra).S (ra).Z s).val=(ra).g s:=by kernel_rfl
theorem Hg:bL Tryz.prog (mC).Γ:=bE ⟨WO,anl,GR,TQ,alr,Ke,trivial⟩
theorem aiB:ic Tryz.prog mC Tryz.f14.ntmps (d9.go qN 0) (dZ (bJ Tryz.f14) 100013):=
  kg dE Hg dN (L:=d9) (k:=0) (f:=qN) (C:=q9) (l:=[]) (m:=[]) (by kernel_rfl) trivial (by kernel_rfl) trivial (by kernel_rfl) (dQ _ (by kernel_rfl)) aiA
theorem ajE:ic Tryz.prog mC Tryz.f14.ntmps (qS.go pA 0) (dZ (bJ Tryz.f14) 16):=
  kg dE Hg dN (L:=qS) (k:=0) (f:=pA) (C:=q9) (l:=[]) (m:=[]) (by kernel_rfl) trivial (by kernel_rfl) trivial (by kernel_rfl) (dQ _ (by kernel_rfl)) ajD
theorem ajC:ic Tryz.prog mC Tryz.f14.ntmps (qQ.go lR 0) (dZ (bJ Tryz.f14) 11):=
  kg dE Hg dN (L:=qQ) (k:=0) (f:=lR) (C:=q9) (l:=[]) (m:=[(d9.go qN 0,dZ (bJ Tryz.f14) 100013),(qS.go pA 0,dZ (bJ Tryz.f14) 16)]) (by kernel_rfl) trivial (by kernel_rfl) ⟨aiB,ajE,trivial⟩ (by kernel_rfl) (dQ _ (by kernel_rfl)) ajB
theorem amp:cc Tryz.prog ra:=
  x9 (C:=q9) (F:=mC) dE Hg dN (fn:=Tryz.f14) (l:=[]) (m:=[(qQ.go lR 0,dZ (bJ Tryz.f14) 11)]) Tryz.func14 (by kernel_rfl) (by kernel_rfl) (by kernel_rfl) trivial (by kernel_rfl) ⟨ajC,trivial⟩ (dQ _ (by kernel_rfl)) (by kernel_rfl) amo
theorem WN:aV ra:=(amp).x (by kernel_rfl)
def Uj:bq:=c4 ⟨[(0,.dat (.list hX)),(1,aI),(5,.own cJ 0),(6,aI)],xP⟩ 0 ⟨[(5,.own cJ 0)],xP⟩
def Wr:aS:=⟨41,⟨[(0,.dat (.list hX)),(1,aI)],[]⟩,⟨[(0,.own cJ 0)],xP⟩,C6⟩
def I7:a8:=bW [ra] [(0,Uj.go Jo 0)] 0
theorem WM:bL Tryz.prog (I7).Γ:=bE ⟨WN,trivial⟩
theorem alp:cg I7 Tryz.f41 0 0:=cm (L:=Uj) (b:=wR) (m:=[]) WM trivial
theorem amn:aV Wr:=ca (F:=I7) (fn:=Tryz.f41) (m:=cK Tryz.f41 [0]) WM Tryz.func41 ⟨alp,trivial⟩
def UX:aS:=⟨203,fb,⟨ig,cd⟩,mP⟩
theorem alq:aV UX:=bP (l:=[AV]) Tryz.func203 ⟨GR,trivial⟩
def Qe:aS:=⟨26,fb,⟨ig,cd⟩,h2⟩
theorem TW:aV Qe:=bP (l:=[AV,Hl]) Tryz.func26 ⟨GR,Ke,trivial⟩
def T3:aS:=⟨204,xK,dG,oi⟩
theorem akR:aV T3:=bP (l:=[IT,QT]) Tryz.func204 ⟨WH,Vb,trivial⟩
def Uk:bq:=⟨⟨[(3,.ptr 0 ac 0 []),(5,.own ac 1),(6,aI)],xJ⟩,.ret,uv,(.exit 0),⟨[],[]⟩⟩
def Ws:aS:=⟨159,⟨[(0,.dat cJ),(1,.dat ac)],[]⟩,dG,kk⟩
def I8:a8:=bW [UX,Qe,T3] [(0,Uk.go Hh 0)] 0
theorem WQ:bL Tryz.prog (I8).Γ:=bE ⟨alq,TW,akR,trivial⟩
theorem als:cg I8 Tryz.f159 0 0:=cm (L:=Uk) (b:=re) (m:=[]) WQ trivial
theorem amq:aV Ws:=ca (F:=I8) (fn:=Tryz.f159) (m:=cK Tryz.f159 [0]) WQ Tryz.func159 ⟨als,trivial⟩
def afH:bq:=c4 ⟨[(2,aI),(4,.ptr 0 ac 0 []),(7,.own cJ 1),(8,.own cJ 2),(9,aI)],[.box 39 ac (.dat ac),.arr 41 cJ false,.arr 41 cJ false]⟩ 0 ⟨[(7,.own cJ 0)],xP⟩
def SZ:aS:=⟨107,⟨[(0,.dat (.list hX)),(1,.dat ac),(2,aI)],[]⟩,⟨[(0,.own cJ 0)],xP⟩,tA⟩
def PW:a8:=bW [Wr,Ws] [(0,afH.go P0 0)] 0
theorem TC:bL Tryz.prog (PW).Γ:=bE ⟨amn,amq,trivial⟩
theorem ajK:cg PW Tryz.f107 0 0:=cm (L:=afH) (b:=ts) (m:=[]) TC trivial
theorem aj3:aV SZ:=ca (F:=PW) (fn:=Tryz.f107) (m:=cK Tryz.f107 [0]) TC Tryz.func107 ⟨ajK,trivial⟩
def wh:bq:=c4 ⟨[(1,.dat (.list ba)),(3,.dat (.list (.list .str))),(5,.ptr 0 c0 0 []),(7,.ptr 1 ac 0 []),(9,.ptr 2 lj 0 []),(10,.ptr 3 eR 0 []),(11,.own .str 4),(12,aI)],Q8⟩ 0 ⟨[(1,.dat (.list ba)),(3,.dat (.list (.list .str))),(5,.ptr 0 c0 0 []),(7,.ptr 1 ac 0 []),(9,.ptr 2 lj 0 []),(10,.ptr 3 eR 0 []),(11,.own .str 4)],Q8⟩
def wi:bq:=c4 ⟨[(1,.dat (.list ba)),(3,.dat (.list (.list .str))),(5,.ptr 0 c0 0 []),(7,.ptr 1 ac 0 []),(9,.ptr 2 lj 0 []),(10,.ptr 3 eR 0 []),(14,.ptr 4 dp 0 []),(16,.own ac 5),(17,aI)],[.box 32 c0 (.dat c0),.box 39 ac (.dat ac),.box 26 lj (.dat lj),.box 114 eR (.agg [m1,aI]),.box 85 dp (.agg [(.dat (.list ba)),(.own .str 6),(.own (.int .i64) 7),(.own dJ 8),(.dat (.list cJ))]),.arr 39 ac false,.arr 9 .str true,.arr 3 (.int .i64) false,.arr 95 dJ false]⟩ 2 ⟨[(5,.ptr 0 c0 0 []),(7,.ptr 1 ac 0 []),(9,.ptr 2 lj 0 []),(10,.ptr 3 eR 0 []),(14,.ptr 4 dp 0 [])],[.box 32 c0 (.dat c0),.box 39 ac (.dat ac),.box 26 lj (.dat lj),.box 114 eR (.agg [m1,aI]),.box 85 dp (.agg [(.dat (.list ba)),(.own .str 5),(.own (.int .i64) 6),(.own dJ 7),(.dat (.list cJ))]),.arr 9 .str true,.arr 3 (.int .i64) false,.arr 95 dJ false]⟩
def wj:bq:=c4 ⟨[(10,.ptr 0 eR 0 []),(14,.ptr 1 dp 0 []),(22,.ptr 2 jg 0 []),(23,.ptr 3 c0 0 []),(24,aI)],[.box 114 eR (.agg [m1,aI]),.box 85 dp (.agg [(.dat (.list ba)),(.own .str 4),(.own (.int .i64) 5),(.own dJ 6),(.own cJ 7)]),.box 149 jg (.dat jg),.box 32 c0 (.dat c0),.arr 9 .str true,.arr 3 (.int .i64) true,.arr 95 dJ true,.arr 41 cJ true]⟩ 4 ⟨[(10,.ptr 0 eR 0 []),(22,.ptr 1 jg 0 []),(23,.ptr 2 c0 0 [])],[.box 114 eR (.agg [m1,aI]),.box 149 jg (.dat jg),.box 32 c0 (.dat c0)]⟩
def QV:aS:=⟨50,wF,wH,CZ⟩
def pD (cQ:(bO×(List ak)×ah×(List (List af))×eh×Unit)->Option (dS×Unit)):a8:=bW [Up,JC,QU,JE,WY,IW,(wg cQ),JF,SZ] [(0,wh.go (GZ cQ) 0),(2,wi.go (G0 cQ) 0),(4,wj.go (G1 cQ) 0)] 0
theorem ajH (cQ:(bO×(List ak)×ah×(List (List af))×eh×Unit)->Option (dS×Unit)) (s:wh.S.ty.den): @Eq (Option (wh.S.ty.den⊕wh.Out)) (wh.body (pD cQ) (fP (bJ Tryz.f50) 0) 0 s).val (wL cQ s):=by kernel_rfl
theorem ajI (cQ:(bO×(List ak)×ah×(List (List af))×eh×Unit)->Option (dS×Unit)) (s:wi.S.ty.den): @Eq (Option (wi.S.ty.den⊕wi.Out)) (wi.body (pD cQ) (fP (bJ Tryz.f50) 1) 2 s).val (tz cQ s):=by kernel_rfl
theorem ajJ (cQ:(bO×(List ak)×ah×(List (List af))×eh×Unit)->Option (dS×Unit)) (s:wj.S.ty.den): @Eq (Option (wj.S.ty.den⊕wj.Out)) (wj.body (pD cQ) (fP (bJ Tryz.f50) 2) 4 s).val (wM cQ s):=by kernel_rfl
theorem alz (cQ:(bO×(List ak)×ah×(List (List af))×eh×Unit)->Option (dS×Unit)) (s:wF.ty.den): @Eq (Option wH.ty.den) (ku (pD cQ) Tryz.f50 wF wH s).val (tr cQ s):=by kernel_rfl
theorem GX (cQ:(bO×(List ak)×ah×(List (List af))×eh×Unit)->Option (dS×Unit)) (mT:cc Tryz.prog (wg cQ)):bL Tryz.prog (pD cQ).Γ:=bE ⟨alw,Xo,Vf,Xs,anm,WS,(mT.x (by kernel_rfl)),Xt,aj3,trivial⟩
theorem ak2 (cQ:(bO×(List ak)×ah×(List (List af))×eh×Unit)->Option (dS×Unit)) (mT:cc Tryz.prog (wg cQ)):fS Tryz.prog (pD cQ) Tryz.f50.ntmps 0 (fP (bJ Tryz.f50) 0):=
  pR dE (GX cQ mT) dN (L:=wh) (f:=GZ cQ) (b:=wL cQ) (m:=[]) (fun _=>rfl) (by kernel_rfl) (by kernel_rfl) trivial (by kernel_rfl) (dQ _ (by kernel_rfl)) (ajH cQ)
theorem ak3 (cQ:(bO×(List ak)×ah×(List (List af))×eh×Unit)->Option (dS×Unit)) (mT:cc Tryz.prog (wg cQ)):fS Tryz.prog (pD cQ) Tryz.f50.ntmps 2 (fP (bJ Tryz.f50) 1):=
  pR dE (GX cQ mT) dN (L:=wi) (f:=G0 cQ) (b:=tz cQ) (m:=[]) (fun _=>rfl) (by kernel_rfl) (by kernel_rfl) trivial (by kernel_rfl) (dQ _ (by kernel_rfl)) (ajI cQ)
theorem ak4 (cQ:(bO×(List ak)×ah×(List (List af))×eh×Unit)->Option (dS×Unit)) (mT:cc Tryz.prog (wg cQ)):fS Tryz.prog (pD cQ) Tryz.f50.ntmps 4 (fP (bJ Tryz.f50) 2):=
  pR dE (GX cQ mT) dN (L:=wj) (f:=G1 cQ) (b:=wM cQ) (m:=[]) (fun _=>rfl) (by kernel_rfl) (by kernel_rfl) trivial (by kernel_rfl) (dQ _ (by kernel_rfl)) (ajJ cQ)
theorem aja (cQ:(bO×(List ak)×ah×(List (List af))×eh×Unit)->Option (dS×Unit)) (mT:cc Tryz.prog (wg cQ)):cc Tryz.prog ⟨50,wF,wH,tr cQ⟩:=
  pQ (F:=(pD cQ)) dE (GX cQ mT) dN (fn:=Tryz.f50) (m:=cK Tryz.f50 [0,2,4]) Tryz.func50 (by kernel_rfl) (by kernel_rfl) (by kernel_rfl) ⟨ak2 cQ mT,ak3 cQ mT,ak4 cQ mT,trivial⟩ (dQ _ (by kernel_rfl)) (by kernel_rfl) (alz cQ)
theorem afC: ∀n,cc Tryz.prog ⟨50,wF,wH,wx n⟩
  |0=>yo
  |n+1=>aja _ (afC n)
theorem alA:cc Tryz.prog QV:=afC jB
theorem alB:aV QV:=(alA).x (by kernel_rfl)
def Wu:aS:=⟨13,⟨[(0,.dat lj)],[]⟩,xR,C7⟩
theorem amR:aV Wu:=bP (l:=[Wp,QV]) Tryz.func13 ⟨ami,alB,trivial⟩
def yc:aS:=⟨326,⟨[(0,aI),(1,aI),(2,aI)],[]⟩,dG,oW⟩
theorem Dp:aV yc:=bP (l:=[]) Tryz.func326 trivial
def GG:aS:=⟨322,fb,dG,Jj⟩
theorem Tv:aV GG:=bP (l:=[yc]) Tryz.func322 ⟨Dp,trivial⟩
def GN:aS:=⟨320,fb,fb,Kb⟩
theorem TJ:aV GN:=bP (l:=[]) Tryz.func320 trivial
def GA:aS:=⟨335,fb,dG,Je⟩
theorem Tq:aV GA:=bP (l:=[yc]) Tryz.func335 ⟨Dp,trivial⟩
def GM:aS:=⟨333,fb,fb,J9⟩
theorem TI:aV GM:=bP (l:=[]) Tryz.func333 trivial
def Kj:aS:=⟨349,m0,dG,yx⟩
theorem Yr:aV Kj:=bP (l:=[pF]) Tryz.func349 ⟨rh,trivial⟩
def Gn:aS:=⟨346,fb,dG,IH⟩
theorem SJ:aV Gn:=bP (l:=[Kj]) Tryz.func346 ⟨Yr,trivial⟩
def GB:aS:=⟨344,fb,fb,Jf⟩
theorem Tr:aV GB:=bP (l:=[]) Tryz.func344 trivial
def JA:aS:=⟨357,hZ,dG,yj⟩
theorem XF:aV JA:=bP (l:=[Po,yc]) Tryz.func357 ⟨afe,Dp,trivial⟩
def Gr:aS:=⟨353,fb,dG,IJ⟩
theorem SM:aV Gr:=bP (l:=[JA]) Tryz.func353 ⟨XF,trivial⟩
def GC:aS:=⟨351,fb,fb,Jg⟩
theorem Ts:aV GC:=bP (l:=[]) Tryz.func351 trivial
def F4:aS:=⟨363,fb,dG,Qr⟩
theorem Sp:aV F4:=bP (l:=[JA]) Tryz.func363 ⟨XF,trivial⟩
def Gj:aS:=⟨361,fb,fb,ID⟩
theorem SF:aV Gj:=bP (l:=[]) Tryz.func361 trivial
def F9:aS:=⟨369,fb,dG,Qw⟩
theorem Sv:aV F9:=bP (l:=[yc,Kj]) Tryz.func369 ⟨Dp,Yr,trivial⟩
def Gt:aS:=⟨367,fb,fb,IL⟩
theorem SO:aV Gt:=bP (l:=[]) Tryz.func367 trivial
def Jz:aS:=⟨58,fb,dG,ou⟩
noncomputable def amO:a8:=kx fV (CP fV (gl [GG,GN,GA,GM,Gn,GB,Gr,GC,F4,Gj,F9,Gt]) 110 Tryz.f110 (gl [GG,GN,GA,GM,Gn,GB,Gr,GC,F4,Gj,F9,Gt])) (fun k st=>.fail) 0
theorem XE:aV Jz:=ca (F:=amO) (fn:=Tryz.f58) (m:=[]) (C4 (by kernel_rfl) (Dl (F:=(kx fV (gl [GG,GN,GA,GM,Gn,GB,Gr,GC,F4,Gj,F9,Gt]) (fun _ _=>.fail) 0)) dE (bE ⟨Tv,TJ,Tq,TI,SJ,Tr,SM,Ts,Sp,SF,Sv,SO,trivial⟩) dN Tryz.func110 (by kernel_rfl) (by kernel_rfl) (by kernel_rfl)) (bE ⟨Tv,TJ,Tq,TI,SJ,Tr,SM,Ts,Sp,SF,Sv,SO,trivial⟩)) Tryz.func58 trivial
def vk:aS:=⟨171,m2,hY,sO⟩
def avd:a8:=kx fV (gl []) (fun _ _=>.fail) 0
theorem avj:cc Tryz.prog vk:=
  Zy (F:=avd) dE (bE trivial) dN (fn:=Tryz.f171) Tryz.func171 (by kernel_rfl) (by kernel_rfl) (by kernel_rfl) (by kernel_rfl) (by kernel_rfl) (fun s=>(decide ((List.length ([]:List ak)+List.length s.1)*40<=bm))) (fun s=>(s.1,())) (fun s=>([],())) (fun s=>List.length s.1) (fun s=>rfl) (fun s=>by kernel_rfl) (fun s=>by kernel_rfl) (fun s h=>congrArg (fun l=>(l,())) (List.eq_nil_of_length_eq_zero h).symm)
theorem Fa:aV vk:=avj.x (by kernel_rfl)
def Ni:aS:=⟨327,⟨[(0,.own ba 0),(1,aI),(2,.own ba 1)],[.arr 58 ba false,.arr 58 ba false]⟩,⟨[(0,.own ba 2)],[.gone,.arr 58 ba false,.arr 58 ba false]⟩,Ff⟩
def aej:a8:=kx fV (y8 328 (Gg ba) (gl [])) (fun _ _=>.fail) 2
theorem avp:bL Tryz.prog aej.Γ:=YJ (ahK dE (T:=64) (T2:=4) (t:=ba) (by kernel_rfl) (by kernel_rfl) (by kernel_rfl) Tryz.func328 (by kernel_rfl) (by kernel_rfl) (by kernel_rfl) (by kernel_rfl)) (bE trivial)
theorem avq:cc Tryz.prog Ni:=
  aoT (F:=aej) (e:=58) (t:=ba) (bytes:=40) dE avp dN (by kernel_rfl) (by kernel_rfl) (fn:=Tryz.f327) Tryz.func327 (by kernel_rfl) (by kernel_rfl) (by kernel_rfl) (by kernel_rfl) (by kernel_rfl) rfl (fun i xs aT=>by kernel_rfl) (fun i xs z aT=>by kernel_rfl)
theorem ul:aV Ni:=avq.x (by kernel_rfl)
def W2:aS:=⟨325,HR,hY,DA⟩
theorem anw:aV W2:=bP (l:=[G2,vk,Ni]) Tryz.func325 ⟨Iy,Fa,ul,trivial⟩
def GD:aS:=⟨319,ui,hY,Jh⟩
theorem Tt:aV GD:=bP (l:=[W2]) Tryz.func319 ⟨anw,trivial⟩
def Qk:aS:=⟨340,Cn,⟨[(0,aI),(1,aI)],[]⟩,BJ⟩
theorem TY:aV Qk:=bP (l:=[pF,G2]) Tryz.func340 ⟨rh,Iy,trivial⟩
def aee:aS:=⟨342,⟨[(0,.nils 58 ba),(1,aI)],[]⟩,hY,Fj⟩
theorem avt:aV aee:=bP (l:=[]) Tryz.func342 trivial
def ad2:bq:=c4 ⟨[(0,.dat (.list (.list ba))),(3,aI),(9,.dat (.list (.list ba))),(10,aI),(11,aI)],[]⟩ 0 ⟨[(0,.dat (.list (.list ba))),(3,aI)],[]⟩
def ad3:bq:=c4 ⟨[(6,.own ba 0),(25,.dat (.list (.list ba))),(26,aI),(27,aI)],jc⟩ 2 ⟨[(6,.own ba 0)],jc⟩
def aeg:aS:=⟨341,⟨[(0,.dat (.list (.list ba)))],[]⟩,hY,Fe⟩
def EW:a8:=bW [aee] [(0,ad2.go Nt 0),(2,ad3.go Nx 0)] 0
theorem Ns:bL Tryz.prog (EW).Γ:=bE ⟨avt,trivial⟩
theorem au1:cg EW Tryz.f341 0 0:=cm (L:=ad2) (b:=oQ) (m:=[]) Ns trivial
theorem au2:cg EW Tryz.f341 2 1:=cm (L:=ad3) (b:=oR) (m:=[]) Ns trivial
theorem avo:aV aeg:=ca (F:=EW) (fn:=Tryz.f341) (m:=cK Tryz.f341 [0,2]) Ns Tryz.func341 ⟨au1,au2,trivial⟩
def Be:aS:=⟨339,Cn,hY,rD⟩
theorem Hj:aV Be:=bP (l:=[Qk,aeg]) Tryz.func339 ⟨TY,avo,trivial⟩
end D
open Go Go.X Go.Proofs D
namespace D
def W1:aS:=⟨338,Cg,hY,Li⟩
theorem anv:aV W1:=bP (l:=[B0,Be]) Tryz.func338 ⟨C1,Hj,trivial⟩
def Gy:aS:=⟨332,ui,hY,Jb⟩
theorem To:aV Gy:=bP (l:=[W1]) Tryz.func332 ⟨anv,trivial⟩
def Gl:aS:=⟨343,ui,hY,IF⟩
theorem SH:aV Gl:=bP (l:=[Be]) Tryz.func343 ⟨Hj,trivial⟩
def Ut:aS:=⟨360,Cn,⟨[(0,.clip ba)],[]⟩,CT⟩
theorem alJ:aV Ut:=bP (l:=[Qk]) Tryz.func360 ⟨TY,trivial⟩
def Uy:bq:=c4 ⟨[(1,cn),(2,cn),(7,.own ba 0),(15,aI),(16,aI)],jc⟩ 0 ⟨[(7,.own ba 0)],jc⟩
def Xg:aS:=⟨358,⟨[(0,.dat (.list ba)),(1,cn),(2,cn)],[]⟩,hY,Dq⟩
def JI:a8:=bW [n0,G9,vk,Ut] [(0,Uy.go Ka 0)] 0
theorem XG:bL Tryz.prog (JI).Γ:=bE ⟨pC,Jw,Fa,alJ,trivial⟩
theorem al6:cg JI Tryz.f358 0 0:=cm (L:=Uy) (b:=w2) (m:=[]) XG trivial
theorem am5:aV Xg:=ca (F:=JI) (fn:=Tryz.f358) (m:=cK Tryz.f358 [0]) XG Tryz.func358 ⟨al6,trivial⟩
def Th:bq:=c4 ⟨[(0,.dat (.list ba)),(1,.dat (.list ba)),(5,.own ba 0)],jc⟩ 0 ⟨[(0,.dat (.list ba)),(1,.dat (.list ba)),(5,.own ba 0)],jc⟩
def Uu:aS:=⟨39,Rj,hY,CU⟩
def QL:a8:=bW [] [(0,Th.go Ix 0)] 0
theorem Vx:bL Tryz.prog (QL).Γ:=bE trivial
theorem akA:cg QL Tryz.f39 0 0:=cm (L:=Th) (b:=wN) (m:=[]) Vx trivial
theorem amv:aV Uu:=ca (F:=QL) (fn:=Tryz.f39) (m:=cK Tryz.f39 [0]) Vx Tryz.func39 ⟨akA,trivial⟩
def AK:aS:=⟨356,ui,hY,AW⟩
theorem PL:aV AK:=bP (l:=[n0,Be,Xg,Uu]) Tryz.func356 ⟨pC,Hj,am5,amv,trivial⟩
def Gp:aS:=⟨350,ui,hY,G5⟩
theorem SK:aV Gp:=bP (l:=[n0,Be,AK]) Tryz.func350 ⟨pC,Hj,PL,trivial⟩
def aft:bq:=c4 ⟨[(2,.ptr 0 cJ 0 []),(5,.own ba 1),(10,aI),(11,aI)],[.box 215 cJ (.dat cJ),.arr 58 ba false]⟩ 0 ⟨[(5,.own ba 0)],jc⟩
def F7:aS:=⟨366,ui,hY,Qu⟩
def PG:a8:=bW [tG,vk] [(0,aft.go PM 0)] 0
theorem Ss:bL Tryz.prog (PG).Γ:=bE ⟨xg,Fa,trivial⟩
theorem aiY:cg PG Tryz.f366 0 0:=cm (L:=aft) (b:=AP) (m:=[]) Ss trivial
theorem St:aV F7:=ca (F:=PG) (fn:=Tryz.f366) (m:=cK Tryz.f366 [0]) Ss Tryz.func366 ⟨aiY,trivial⟩
def Jy:aS:=⟨61,⟨[(0,.dat (.list ba)),(1,.dat cJ)],[]⟩,m2,pS⟩
noncomputable def amM:a8:=kx fV (CP fV (gl [GD,Gy,Gl,AK,Gp,F7]) 110 Tryz.f110 (gl [GD,Gy,Gl,AK,Gp,F7])) (fun k st=>.fail) 0
theorem XD:aV Jy:=ca (F:=amM) (fn:=Tryz.f61) (m:=[]) (C4 (by kernel_rfl) (Dl (F:=(kx fV (gl [GD,Gy,Gl,AK,Gp,F7]) (fun _ _=>.fail) 0)) dE (bE ⟨Tt,To,SH,PL,SK,St,trivial⟩) dN Tryz.func110 (by kernel_rfl) (by kernel_rfl) (by kernel_rfl)) (bE ⟨Tt,To,SH,PL,SK,St,trivial⟩)) Tryz.func61 trivial
def Uz:bq:=c4 ⟨[(4,.ptr 0 c0 0 []),(6,.ptr 1 c0 0 []),(7,.own (.int .i64) 2)],[.box 32 c0 m1,.box 32 c0 (.agg [(.own h1 3)]),.arr 3 (.int .i64) false,.arr 87 h1 false]⟩ 0 ⟨[(4,.ptr 0 c0 0 []),(6,.ptr 1 c0 0 [])],xH⟩
def Xi:aS:=⟨64,oK,oK,K5⟩
def JJ:a8:=bW [Hk,IQ] [(0,Uz.go XN 0)] 0
theorem XM:bL Tryz.prog (JJ).Γ:=bE ⟨Kd,Wx,trivial⟩
theorem amd:cg JJ Tryz.f64 0 0:=cm (L:=Uz) (b:=XL) (m:=[]) XM trivial
theorem anf:aV Xi:=ca (F:=JJ) (fn:=Tryz.f64) (m:=cK Tryz.f64 [0]) XM Tryz.func64 ⟨amd,trivial⟩
def aep:aS:=⟨62,⟨[(0,.dat (.list cJ))],[]⟩,⟨[(0,.clip cJ)],[]⟩,aez⟩
theorem avC:aV aep:=bP (l:=[]) Tryz.func62 trivial
def B2:Shape:=⟨[(0,.dat gj),(1,.dat cJ)],[]⟩
def B4:Shape:=⟨[(0,.dat gj),(1,aI)],[]⟩
def an6:aS:=⟨15,B2,B4,LH⟩
def an8:a8:=mm [rv,rj,Kk,Jz,Jy,Xi,aep]
theorem aog:cc Tryz.prog an6:=nJ (F:=an8) (fn:=Tryz.f15) (m:=[]) (bE ⟨xd,w1,X2,XE,XD,anf,avC,trivial⟩) Tryz.func15 trivial
def Tj:bq:=c4 ⟨[(1,.ptr 0 gj 0 []),(3,.ptr 1 dp 0 []),(5,aI)],[.box 36 gj (.dat gj),.box 85 dp (.dat dp)]⟩ 0 ⟨[(5,aI)],[]⟩
def A3:Shape:=xR
def A5:Shape:=hg
def akG:aS:=⟨17,A3,A5,Kw⟩
end D
