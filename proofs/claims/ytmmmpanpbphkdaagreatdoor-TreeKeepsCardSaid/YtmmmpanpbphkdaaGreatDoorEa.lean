import Derived.Test.YtmmmpanpbphkdaaGreatDoorL
import Derived.Test.YtmmmpanpbphkdaaGreatDoorD
import Derived.Test.YtmmmpanpbphkdaaGreatDoorChecked
set_option linter.unusedVariables false
set_option maxRecDepth 100000
open Go Go.X Go.Proofs D
namespace D
noncomputable abbrev bj:=Tryz.prog
theorem ai:True:=trivial
abbrev dC:cu:=.dat .bool
abbrev c4:cu:=.dat .str
abbrev aK:cu:=.dat (.int .i64)
abbrev cA:List dZ:=[.arr 39 ac false]
abbrev r5:cu:=.agg [dC,dC,(.agg [c4,c4,aK]),c4,dC,aK]
abbrev ER:List dZ:=[.box 32 dk (.dat dk),.box 81 (.list (.int .i64)) (.own (.int .i64) 5),.box 4 .bool dC,.box 158 .opq (.fn 154 [] [(.ptr 0 dk 0 []),(.ptr 1 (.list (.int .i64)) 0 []),(.ptr 2 .bool 0 []),(.ptr 3 .opq 0 []),(.ptr 4 .opq 0 [])]),.box 158 .opq (.fn 100 [] [(.ptr 6 (.int .i64) 0 [])]),.arr 3 (.int .i64) false,.box 3 (.int .i64) aK]
abbrev km:aB:=.pair (.int .u8) (.pair (.int .u8) .unit)
abbrev eC:Shape:=⟨[(0,dC)],[]⟩
abbrev gw:Shape:=⟨[(0,.dat dw)],[]⟩
abbrev mN:cu:=.agg [(.agg [aK,aK]),(.agg [aK,aK])]
abbrev uq:List dZ:=[.box 32 dk (.dat dk),.box 81 (.list (.int .i64)) (.own (.int .i64) 2),.arr 3 (.int .i64) false]
abbrev qy:List dZ:=[.box 132 .opq (.fn 183 [] [(.ptr 1 ac 0 [])]),.box 39 ac (.dat ac)]
abbrev jA:Shape:=⟨[(0,c4),(1,c4)],[]⟩
abbrev zX:List dZ:=[.loop 1012800 [(5,.ptr 2 j0 0 []),(4,.ptr 3 j0 0 [])],.box 83 (.list dw) (.dat (.list dw)),.box 190 j0 r5,.box 190 j0 r5]
abbrev hf:Shape:=⟨[(0,c4)],[]⟩
abbrev qz:List (Nat×cu):=[(0,.own ac 0),(1,aK),(4,.fn 236 [] []),(12,aK),(13,aK)]
abbrev oU:cu:=.agg [(.dat (.list iB))]
abbrev ES:List dZ:=[.loop 1016800 [(5,.ptr 2 (.list ac) 0 [])],.box 83 (.list dw) (.dat (.list dw)),.box 62 (.list ac) (.own ac 4),.gone,.arr 39 ac false]
abbrev iA:Shape:=⟨[(0,aK)],[]⟩
abbrev r6:List dZ:=[.arr 58 bx false,.box 62 (.list ac) (.dat (.list ac))]
abbrev jZ:List dZ:=[.box 39 ac (.dat ac)]
abbrev zY:List (Nat×cu):=[(0,.own ac 0),(1,aK),(2,aK),(3,aK),(4,.fn 236 [] []),(10,dC),(11,dC)]
abbrev wT:Shape:=⟨[(0,.ptr 0 j0 0 []),(1,.dat dw)],[.box 190 j0 r5]⟩
abbrev pF:Shape:=⟨[(0,.dat dk),(1,aK)],[]⟩
abbrev zS:List (Nat×cu):=[(0,.own ac 0),(1,aK),(2,aK),(3,.fn 236 [] []),(9,aK),(10,aK)]
abbrev jQ:List (Nat×cu):=[(0,.own ac 0)]
abbrev zT:List dZ:=[.box 32 dk oU,.box 32 dk (.agg [(.own iB 2)]),.arr 87 iB false]
abbrev T6:Shape:=⟨[(4,.ptr 0 bx 0 []),(5,.ptr 1 .bool 0 []),(6,.ptr 2 (.int .i64) 0 []),(7,aK),(1000000000,.dfr 129 [(.ptr 2 (.int .i64) 0 [])] [(.ptr 0 bx 0 []),(.ptr 1 .bool 0 [])] j0)],[.box 58 bx (.dat bx),.box 4 .bool dC,.box 3 (.int .i64) aK]⟩
abbrev wO:List (Nat×cu):=[(0,.own ac 0),(1,aK),(2,aK),(3,.fn 236 [] [])]
abbrev zU:List (Nat×cu):=[(0,.own ac 0),(1,aK),(4,.fn 236 [] []),(11,aK),(12,aK)]
abbrev mM:cu:=.agg [(.dat dk),aK]
abbrev KI:Shape:=⟨[],[.loop 1013600 [(12,.ptr 5 (.list bx) 0 [])],.box 141 .opq (.ptr 6 fN 0 []),.box 3 (.int .i64) aK,.box 39 ac (.dat ac),.box 62 (.list ac) (.dat (.list ac)),.box 64 (.list bx) (.own bx 8),.box 143 fN mM,.gone,.arr 58 bx false]⟩
abbrev KJ:Shape:=⟨[],[.loop 1002700 [(7,.ptr 5 (.list bx) 0 [])],.box 141 .opq (.ptr 6 fN 0 []),.box 3 (.int .i64) aK,.box 39 ac (.dat ac),.box 62 (.list ac) (.dat (.list ac)),.box 64 (.list bx) (.own bx 7),.box 143 fN mM,.arr 58 bx false]⟩
abbrev EL:List dZ:=[.box 32 dk (.dat dk),.box 85 et (.dat et),.box 149 kH (.agg [oU,aK,aK])]
abbrev ui:List dZ:=[.arr 39 ac false,.box 39 ac (.dat ac)]
abbrev wP:Shape:=⟨[(0,.dat dw),(1,.dat (.list bx))],[]⟩
abbrev uj:List dZ:=[.arr 39 ac true,.box 39 ac (.dat ac)]
abbrev oT:Shape:=⟨[(0,.dat ac)],[]⟩
abbrev wQ:Shape:=⟨[(0,c4),(1,.dat (.int .u8))],[]⟩
abbrev wR:List dZ:=[.arr 39 ac false,.box 3 (.int .i64) aK]
abbrev EM:cu:=.agg [c4,aK,aK,c4]
abbrev uk:Shape:=⟨[(0,.dat (.list bx))],[]⟩
abbrev um:Shape:=⟨[(0,.dat (.list ac))],[]⟩
abbrev EN:List (Nat×cu):=[(0,.own ac 0),(1,aK),(2,aK),(3,aK),(4,.fn 236 [] [])]
abbrev EO:List dZ:=[.box 204 iX (.agg [aK,aK]),.box 204 iX (.agg [aK,aK])]
abbrev wS:Shape:=⟨[(0,dC)],[.box 190 j0 r5]⟩
abbrev qx:List dZ:=[.box 58 bx (.dat bx)]
abbrev oh:List dZ:=[.arr 58 bx false]
abbrev kD:Shape:=⟨[(0,.own bx 0)],oh⟩
abbrev zV:List dZ:=[.box 39 ac (.dat ac),.arr 39 ac false]
abbrev zW:Shape:=⟨[(0,.dat ac),(1,.dat ac)],[]⟩
abbrev EP:Shape:=⟨[(0,.dat (.list bx)),(1,.dat ac)],[]⟩
abbrev uo:Shape:=⟨[(0,.dat iX)],[]⟩
abbrev EI:List dZ:=[.box 85 et (.dat et),.box 39 ac (.dat ac)]
abbrev T3:Shape:=⟨[(0,.dat (.list ac)),(5,.own ac 0),(12,.own ac 1),(13,aK),(14,aK)],[.arr 39 ac false,.arr 39 ac false]⟩
abbrev r3:Shape:=⟨[(2,dC)],[]⟩
abbrev r4:Shape:=⟨[(4,dC)],[]⟩
abbrev T4:Shape:=⟨[(0,c4),(2,.ptr 0 ac 0 []),(3,.own (.int .u8) 1)],[.box 39 ac (.agg [c4,c4]),.arr 5 (.int .u8) false]⟩
abbrev KH:List dZ:=[.box 85 et (.dat et),.box 95 eJ mN,.box 95 eJ (.dat eJ)]
abbrev T5:List dZ:=[.box 32 dk (.dat dk),.box 39 ac (.dat ac),.box 26 mY (.dat mY),.box 114 fN (.agg [oU,aK]),.arr 9 .str false]
abbrev EJ:List dZ:=[.box 245 hF (.dat hF),.box 245 hF EM]
abbrev wN:Shape:=⟨[(0,.dat eJ)],[]⟩
abbrev EK:List dZ:=[.box 269 Jx (.agg [(.agg [c4]),EM])]
abbrev z1:Shape:=⟨[(2,c4),(3,aK)],[]⟩
abbrev wW:List dZ:=[.box 245 hF (.dat hF)]
abbrev uu:aB:=.pair (.int .u8) km
abbrev lz:aB:=.pair (.int .u8) (.pair (.int .u8) (.pair (.int .u8) uu))
abbrev ET:List dZ:=[.box 28 lz (.dat lz),.box 41 dw (.agg [aK,c4,c4,(.agg [c4,c4]),c4,c4,aK]),.box 39 ac (.dat ac)]
abbrev Ul:List (Nat×cu):=[(0,.own ac 0),(1,aK),(2,aK),(3,aK),(4,.fn 236 [] []),(10,dC),(11,dC),(12,aK),(13,aK)]
abbrev EX:Shape:=⟨[(0,.dat (.int .u8))],[]⟩
abbrev Um:List dZ:=[.loop 1012800 [(5,.ptr 1 j0 0 []),(4,.ptr 2 j0 0 [])],.box 190 j0 r5,.box 190 j0 r5]
abbrev Un:Shape:=⟨[(2,.ptr 0 dw 0 [])],[.box 41 dw (.agg [aK,c4,c4,(.dat ac),c4,c4,aK])]⟩
abbrev Uo:List dZ:=[.box 85 et (.dat et),.box 95 eJ mN,.box 95 eJ mN,.box 242 .opq (.fn 189 [] [])]
abbrev Up:List (Nat×cu):=[(1,.ptr 0 lz 0 []),(2,.ptr 1 dw 0 []),(3,c4),(5,.ptr 2 ac 0 []),(6,c4),(7,c4)]
abbrev KS:Shape:=⟨[(0,.dat (.list bx)),(1,c4)],[]⟩
abbrev Uq:List dZ:=[.box 143 fN mM,.box 85 et (.dat et),.box 39 ac (.dat ac),.arr 39 ac false]
abbrev Ur:Shape:=⟨[(0,c4),(2,.ptr 0 ac 0 []),(3,aK)],[.box 39 ac (.agg [c4,c4])]⟩
abbrev KT:Shape:=⟨[(0,.dat et),(1,.dat ac)],[]⟩
abbrev Us:List (Nat×cu):=[(0,.own ac 0),(1,aK),(2,aK),(3,aK),(4,.fn 236 [] []),(12,aK),(13,aK)]
abbrev EY:List (Nat×cu):=[(5,.ptr 1 (.list ac) 0 [])]
abbrev EZ:Shape:=⟨[(0,.dat hF)],[]⟩
abbrev E0:Shape:=⟨[(0,.dat bx)],[]⟩
abbrev E1:Shape:=⟨[(0,.dat ht)],[]⟩
abbrev KU:Shape:=⟨[(0,.dat (.int .u64))],[]⟩
abbrev Ut:List (Nat×cu):=[(2,.ptr 0 dk 0 []),(3,.ptr 1 et 0 []),(4,.ptr 2 kH 0 []),(6,aK)]
abbrev z6:List dZ:=[.arr 41 dw false]
abbrev E2:List dZ:=[.box 3 (.int .i64) aK]
abbrev Uu:List dZ:=[.box 32 dk (.dat dk),.box 85 et (.dat et),.box 32 dk oU]
abbrev Uv:Shape:=⟨[(0,.dat (.list bx)),(1,.dat (.list bx))],[]⟩
def hC:cj:=⟨[(1,⟨.opq,0,[],8,false,true,false,[]⟩),(3,⟨(.int .i64),0,[],8,false,false,false,[]⟩),(4,⟨.bool,0,[],1,false,false,false,[]⟩),(5,⟨(.int .u8),0,[],1,false,false,false,[]⟩),(9,⟨.str,0,[],16,false,false,false,[]⟩),(20,⟨.opq,0,[],16,false,false,true,[]⟩),(21,⟨(.int .i32),0,[],4,false,false,false,[]⟩),(22,⟨(.list uu),168,[],3,false,false,false,[]⟩),(23,⟨(.list lz),28,[],6,false,false,false,[]⟩),(24,⟨(.pair (.list lz) (.pair (.list lz) (.pair (.list lz) (.pair (.list lz) .unit)))),0,[23,23,23,23],96,false,true,false,[]⟩),(26,⟨mY,0,[22,24,5],128,false,false,false,[]⟩),(28,⟨lz,0,[5,5,5,5,5,5],6,false,true,false,[]⟩),(30,⟨(.list iB),87,[],136,false,false,false,[]⟩),(32,⟨dk,0,[30],24,false,false,false,[]⟩),(34,⟨FM,0,[3,3,3],24,true,false,false,[]⟩),(36,⟨ht,0,[32,3,34],56,false,false,false,[]⟩),(39,⟨ac,0,[9,9],32,true,false,false,[]⟩),(41,⟨dw,0,[3,9,9,39,9,9,3],112,true,false,false,[]⟩),(43,⟨(.int .i64),0,[],8,false,false,false,[]⟩),(53,⟨uu,0,[5,5,5],3,false,true,false,[]⟩),(55,⟨(.list .str),9,[],16,false,false,false,[]⟩),(58,⟨bx,0,[9,9,3],40,true,false,false,[]⟩),(60,⟨asw,0,[58,4,3,43],64,true,false,false,[]⟩),(62,⟨(.list ac),39,[],32,false,false,false,[]⟩),(64,⟨(.list bx),58,[],40,false,false,false,[]⟩),(77,⟨km,0,[5,5],2,false,true,false,[]⟩),(81,⟨(.list (.int .i64)),3,[],8,false,false,false,[]⟩),(82,⟨(.list eJ),95,[],32,false,false,false,[]⟩),(83,⟨(.list dw),41,[],112,false,false,false,[]⟩),(85,⟨et,0,[64,55,81,82,83],120,false,false,false,[]⟩),(87,⟨iB,0,[4,4,3,85],136,false,false,false,[]⟩),(89,⟨(.int .i16),0,[],2,false,false,false,[]⟩),(90,⟨(.pair (.int .i16) (.pair (.int .i16) (.pair (.int .i16) .unit))),0,[89,89,89],6,false,true,false,[]⟩),(93,⟨iX,0,[3,3],16,true,false,false,[]⟩),(95,⟨eJ,0,[93,93],32,true,false,false,[]⟩),(100,⟨.opq,0,[],8,false,true,false,[]⟩),(108,⟨iX,0,[3,3],16,true,false,false,[]⟩),(111,⟨(.list (.list .str)),55,[],24,false,false,false,[]⟩),(112,⟨(.list (.list (.list .str))),111,[],24,false,false,false,[]⟩),(114,⟨fN,0,[32,3],32,false,false,false,[]⟩),(127,⟨.opq,0,[],8,false,true,false,[]⟩),(132,⟨.opq,0,[],8,false,true,false,[]⟩),(141,⟨.opq,0,[],8,false,false,false,[]⟩),(143,⟨fN,0,[32,43],32,false,false,false,[]⟩),(144,⟨.opq,0,[],8,false,true,false,[]⟩),(145,⟨.opq,0,[],8,false,true,false,[]⟩),(149,⟨kH,0,[32,3,43],40,false,false,false,[]⟩),(156,⟨.opq,0,[],8,false,true,false,[]⟩),(158,⟨.opq,0,[],8,false,true,false,[]⟩),(159,⟨.opq,0,[],8,false,true,false,[]⟩),(160,⟨.opq,0,[],8,false,true,false,[]⟩),(164,⟨abM,0,[108],16,true,false,false,[]⟩),(168,⟨uu,0,[5,5,5],3,false,true,false,[]⟩),(169,⟨(.list (.int .u8)),5,[],1,false,false,false,[]⟩),(171,⟨.opq,0,[],16,false,false,true,[]⟩),(176,⟨.opq,0,[],8,false,false,false,[]⟩),(177,⟨(.list (.list dw)),83,[],24,false,false,false,[]⟩),(183,⟨.str,0,[],16,false,false,false,[]⟩),(190,⟨j0,0,[4,4,58,9,4,3],80,true,false,false,[]⟩),(194,⟨(.list .bool),4,[],1,false,false,false,[]⟩),(195,⟨.opq,0,[],8,false,true,false,[]⟩),(204,⟨iX,0,[3,3],16,true,false,false,[]⟩),(208,⟨.opq,0,[],8,false,false,false,[]⟩),(210,⟨dw,0,[3,9,9,39,9,9,3],112,true,false,false,[("downspout/msg.apply",319),("downspout/msg.bare",320),("downspout/msg.reads",321),("downspout/msg.valid",322),("downspout/msg.writes",324)]⟩),(211,⟨dw,0,[3,9,9,39,9,9,3],112,true,false,false,[("downspout/msg.apply",332),("downspout/msg.bare",333),("downspout/msg.reads",334),("downspout/msg.valid",335),("downspout/msg.writes",337)]⟩),(212,⟨dw,0,[3,9,9,39,9,9,3],112,true,false,false,[("downspout/msg.apply",343),("downspout/msg.bare",344),("downspout/msg.reads",345),("downspout/msg.valid",346),("downspout/msg.writes",348)]⟩),(213,⟨dw,0,[3,9,9,39,9,9,3],112,true,false,false,[("downspout/msg.apply",350),("downspout/msg.bare",351),("downspout/msg.reads",352),("downspout/msg.valid",353),("downspout/msg.writes",355)]⟩),(214,⟨dw,0,[3,9,9,39,9,9,3],112,true,false,false,[("downspout/msg.apply",356),("downspout/msg.bare",361),("downspout/msg.reads",362),("downspout/msg.valid",363),("downspout/msg.writes",365)]⟩),(215,⟨dw,0,[3,9,9,39,9,9,3],112,true,false,false,[("downspout/msg.apply",366),("downspout/msg.bare",367),("downspout/msg.reads",368),("downspout/msg.valid",369),("downspout/msg.writes",371)]⟩),(216,⟨(.list .str),183,[],16,false,false,false,[]⟩),(218,⟨.opq,0,[],8,false,true,false,[]⟩),(223,⟨.opq,0,[],8,false,true,false,[]⟩),(224,⟨.opq,0,[],8,false,true,false,[]⟩),(226,⟨.opq,0,[],8,false,true,false,[]⟩),(227,⟨(.pair .opq (.pair .opq (.pair .opq (.pair .opq (.pair .opq (.pair .opq (.pair .opq .unit))))))),0,[226,226,226,226,226,226,226],56,false,true,false,[]⟩),(228,⟨.opq,0,[],8,false,false,false,[]⟩),(231,⟨at9,0,[9,4,4,9,4,3],56,true,false,false,[]⟩),(241,⟨.opq,0,[],8,false,false,false,[]⟩),(242,⟨.opq,0,[],8,false,true,false,[]⟩),(243,⟨.opq,0,[],8,false,true,false,[]⟩),(245,⟨hF,0,[9,3,3,9],48,true,false,false,[]⟩),(255,⟨.opq,0,[],8,false,true,false,[]⟩),(256,⟨.opq,0,[],8,false,true,false,[]⟩),(257,⟨(.int .u64),0,[],8,false,false,false,[]⟩),(260,⟨.opq,0,[],8,false,true,false,[]⟩),(264,⟨(.list iX),93,[],16,false,false,false,[]⟩),(265,⟨.opq,0,[],8,false,false,false,[]⟩),(267,⟨(.pair .str .unit),0,[9],16,true,false,false,[]⟩),(269,⟨Jx,0,[267,245],64,true,false,false,[]⟩),(276,⟨.opq,0,[],8,false,true,false,[]⟩),(286,⟨.opq,0,[],8,false,false,false,[]⟩),(291,⟨.opq,0,[],8,false,true,false,[]⟩),(294,⟨(.int .i64),0,[],8,false,false,false,[]⟩),(301,⟨(.int .u32),0,[],4,false,false,false,[]⟩),(303,⟨(.int .u64),0,[],8,false,false,false,[]⟩),(313,⟨.opq,0,[],8,false,false,false,[]⟩),(315,⟨(.int .u64),0,[],8,false,false,false,[]⟩),(319,⟨.opq,0,[],8,false,false,false,[]⟩),(326,⟨.opq,0,[],8,false,false,false,[]⟩),(333,⟨km,0,[5,5],2,true,false,false,[]⟩),(334,⟨(.pair km (.pair km (.pair km (.pair km (.pair km (.pair km (.pair km (.pair km (.pair km (.pair km (.pair km (.pair km (.pair km (.pair km (.pair km (.pair km .unit)))))))))))))))),0,[333,333,333,333,333,333,333,333,333,333,333,333,333,333,333,333],32,false,true,false,[]⟩),(357,⟨(.list (.list bx)),64,[],24,false,false,false,[]⟩)],Vf [(296,0),(287,0),(286,0),(235,0),(263,0),(251,0),(330,0),(185,0),(181,0),(71,0),(115,0),(329,0),(219,0),(116,0),(283,0),(267,0),(266,0),(265,0),(264,0),(262,0),(261,0),(260,0),(331,0),(233,0),(342,0),(170,0),(327,0),(113,0),(68,0),(328,0),(328,1),(327,0),(327,2),(118,0)]⟩
noncomputable instance azd:Env:=⟨λY=>bif Nat.beq Y 1002700 then some (ko Tryz.f27 0) else bif Nat.beq Y 1013600 then some (ko Tryz.f136 0) else bif Nat.beq Y 1016800 then some (ko Tryz.f168 0) else bif Nat.beq Y 1012800 then some (ko Tryz.f128 0) else none,λg=>bif Nat.beq g 0 then [none,some 374,some 376,some 377,some 378,some 379,some 380] else []⟩
theorem eA:cN bj hC:=asv aC
theorem eO:bj.follows .mixedOrders=true:=aC
def oe (l:List aY):bn:=ma hC (hP l) (λk st=>.fail) 0
abbrev bc (cT:aY):Prop:=aux bj cT
theorem pD {F:bn} {f:Nat} {S Z:Shape} {g:S.ty.den->O Z.ty.den} {fn:Func} {m:List (Nat×Code)} (c7:cc bj F.Γ) (aM:bj.funcs[f]? =some fn) (dS:oQ bj F fn.ntmps m) (aw:F.cx=hC:=by kernel_rfl) (L:fn.body=some (b4 fn):=by kernel_rfl) (cC:ny fn S Z=true:=by kernel_rfl) (ja:ez (b4 fn) 0=m:=by kernel_rfl) (c1:e0 (b4 fn)=false:=by kernel_rfl) (fk:F.m=S.objs.length:=by kernel_rfl) (bC: ∀d,(l9 F fn S Z d).val=g d:=by intro d;kernel_rfl):cz bj ⟨f,S,Z,g⟩:=
  rO (F:=F) (aw▸eA) c7 eO aM L cC ja dS (eS _ c1) fk bC
theorem cy {F:bn} {f:Nat} {S Z:Shape} {g:S.ty.den->O Z.ty.den} {fn:Func} {m:List (Nat×Code)} (c7:cc bj F.Γ) (aM:bj.funcs[f]? =some fn) (dS:oQ bj F fn.ntmps m) (aw:F.cx=hC:=by kernel_rfl) (L:fn.body=some (b4 fn):=by kernel_rfl) (cC:ny fn S Z=true:=by kernel_rfl) (ja:ez (b4 fn) 0=m:=by kernel_rfl) (c1:e0 (b4 fn)=false:=by kernel_rfl) (fk:F.m=S.objs.length:=by kernel_rfl) (al:jv f=false:=by kernel_rfl) (bC: ∀d,(l9 F fn S Z d).val=g d:=by intro d;kernel_rfl):aux bj ⟨f,S,Z,g⟩:=
  (pD c7 aM dS aw L cC ja c1 fk bC).x al
theorem cX {F:bn} {nt:Nat} {ax:bK} {c:Code} {k:Nat} {b:ax.S.ty.den->O (ax.S.ty.den⊕ax.Out)} {m:List (Nat×Code)} (c7:cc bj F.Γ) (dS:oQ bj F nt m) (aw:F.cx=hC:=by kernel_rfl) (nN:F.Λ k=ax.go (λd=>b6 b d) F.m:=by kernel_rfl) (ja:ez c k=m:=by kernel_rfl) (lM:hx nt c=true:=by kernel_rfl) (c1:e0 c=false:=by kernel_rfl) (L: ∀d,(ax.body F c k d).val=b d:=by intro d;kernel_rfl):hl bj F nt k c:=
  rP (F:=F) (f:=λd=>b6 b d) (aw▸eA) c7 eO (λ_=>rfl) nN ja dS lM (eS _ c1) L
theorem cf {l:List aY} {f:Nat} {S Z:Shape} {g:S.ty.den->O Z.ty.den} {fn:Func} (aM:bj.funcs[f]? =some fn) (ad:PQ bj l) (L:fn.body=some (b4 fn):=by kernel_rfl) (cC:ny fn S Z=true:=by kernel_rfl) (ja:ez (b4 fn) 0=[]:=by kernel_rfl) (c1:e0 (b4 fn)=false:=by kernel_rfl) (fk:0=S.objs.length:=by kernel_rfl) (al:jv f=false:=by kernel_rfl) (bC: ∀d,(l9 (oe l) fn S Z d).val=g d:=by intro d;kernel_rfl):aux bj ⟨f,S,Z,g⟩:=
  cy (F:=oe l) (m:=[]) (bV ad) aM ai rfl L cC ja c1 fk al bC
abbrev cM (F:bn) (fn:Func) (k i:Nat):Prop:=hl bj F fn.ntmps k (hk (b4 fn) i)
def dt (fn:Func) (ks:dA):List (Nat×Code):=ks.zipIdx.map λs=>(s.1,hk (b4 fn) s.2)
def Vk:List (Nat×(bU->DT (ef×bU)))->Nat->bU->DT (ef×bU)
  |[],_,_=>.fail
  |s::l,k,st=>bif Nat.beq k s.1 then s.2 st else Vk l k st
def cr (l:List aY) (g:List (Nat×(bU->DT (ef×bU)))) (m:Nat):bn:=ma hC (hP l) (Vk g) m
def dY (S:Shape) (k:Nat) (X:Shape):bK:=⟨S,.exit k,X,.exit (80000000+k),⟨[],[]⟩⟩
def MI:aY:=⟨162,jA,eC,qg⟩
theorem Y5:bc MI:=cf (l:=[]) Tryz.func162 ai
def LG:aY:=⟨120,oT,eC,mZ⟩
theorem Yw:bc LG:=cf (l:=[]) Tryz.func120 ai
def YR:aY:=⟨163,⟨[],[]⟩,oT,Oa⟩
theorem apY:bc YR:=cf (l:=[]) Tryz.func163 ai
def YQ:aY:=⟨121,zW,oT,Ay⟩
theorem apX:bc YQ:=cf (l:=[MI,LG,YR]) Tryz.func121 ⟨Y5,Yw,apY,ai⟩
def V7:bK:=dY ⟨[(1,.dat (.list .str)),(2,.ptr 0 ac 0 []),(5,.own ac 1),(6,c4),(7,aK)],zV⟩ 0 ⟨[(2,.ptr 0 ac 0 []),(5,.own ac 1),(6,c4)],zV⟩
def Xd:aY:=⟨119,⟨[(0,.dat ac),(1,.dat (.list .str))],[]⟩,⟨jQ,cA⟩,zq⟩
def LR:bn:=cr [YQ] [(0,V7.go L1 0)] 0
theorem Yx:cc bj (LR).Γ:=bV ⟨apX,ai⟩
theorem anI:cM LR Tryz.f119 0 0:=cX (ax:=V7) (b:=Dy) (m:=[]) Yx ai
theorem aoH:bc Xd:=cy (F:=LR) (fn:=Tryz.f119) (m:=dt Tryz.f119 [0]) Yx Tryz.func119 ⟨anI,ai⟩
def XU:aY:=⟨77,KT,⟨jQ,cA⟩,EC⟩
theorem aoS:bc XU:=cf (l:=[Xd]) Tryz.func77 ⟨aoH,ai⟩
def Nk:aY:=⟨96,⟨[(0,.dat ac),(1,c4)],[]⟩,eC,AJ⟩
theorem aak:bc Nk:=cf (l:=[]) Tryz.func96 ai
def V9:bK:=dY ⟨[(0,.dat (.list bx)),(3,.ptr 0 ac 0 []),(5,.own bx 1),(6,aK)],[.box 39 ac (.dat ac),.arr 58 bx false]⟩ 0 ⟨[(5,.own bx 0)],oh⟩
def Xf:aY:=⟨37,EP,kD,Fv⟩
def LU:bn:=cr [Nk] [(0,V9.go L2 0)] 0
theorem Yz:cc bj (LU).Γ:=bV ⟨aak,ai⟩
theorem anL:cM LU Tryz.f37 0 0:=cX (ax:=V9) (b:=Dz) (m:=[]) Yz ai
theorem aoK:bc Xf:=cy (F:=LU) (fn:=Tryz.f37) (m:=dt Tryz.f37 [0]) Yz Tryz.func37 ⟨anL,ai⟩
def JY:aY:=⟨118,pF,eC,zH⟩
theorem MC:bc JY:=cf (l:=[]) Tryz.func118 ai
def TB:aY:=⟨146,⟨[(0,.dat dk)],[]⟩,⟨[(0,.agg [(.own iB 0)])],[.arr 87 iB false]⟩,Ei⟩
theorem W7:bc TB:=cf (l:=[]) Tryz.func146 ai
def X9:bK:=⟨⟨[(2,.ptr 0 dk 0 []),(3,.ptr 1 et 0 []),(4,.ptr 2 kH 0 []),(5,aK)],EL⟩,.ret,⟨[(4,.ptr 0 kH 0 [])],[.box 149 kH (.agg [(.dat dk),aK,aK])]⟩,(.exit 0),⟨[(2,.ptr 0 dk 0 []),(3,.ptr 1 et 0 []),(4,.ptr 2 kH 0 [])],EL⟩⟩
def Ya:bK:=dY ⟨Ut,EL⟩ 2 ⟨Ut,EL⟩
def Yb:bK:=dY ⟨[(3,.ptr 0 et 0 []),(4,.ptr 1 kH 0 []),(6,aK),(7,.ptr 2 dk 0 []),(8,aK)],[.box 85 et (.dat et),.box 149 kH (.agg [oU,aK,aK]),.box 32 dk (.agg [(.own iB 3)]),.arr 87 iB false]⟩ 4 ⟨[(4,.ptr 0 kH 0 []),(6,aK),(7,.ptr 1 dk 0 [])],[.box 149 kH (.agg [oU,aK,aK]),.box 32 dk (.agg [(.own iB 2)]),.arr 87 iB false]⟩
def Nl:aY:=⟨88,⟨[(0,.dat dk),(1,.dat et)],[]⟩,⟨[(0,.dat kH)],[]⟩,tV⟩
def D7:bn:=cr [JY,TB] [(0,X9.go Nw 0),(2,Ya.go Nx 0),(4,Yb.go Ny 0)] 0
theorem Kq:cc bj (D7).Γ:=bV ⟨MC,W7,ai⟩
theorem aqc:cM D7 Tryz.f88 0 0:=cX (ax:=X9) (b:=wt) (m:=[]) Kq ai
theorem aqd:cM D7 Tryz.f88 2 1:=cX (ax:=Ya) (b:=Eg) (m:=[]) Kq ai
theorem aqe:cM D7 Tryz.f88 4 2:=cX (ax:=Yb) (b:=Eh) (m:=[]) Kq ai
theorem aax:bc Nl:=cy (F:=D7) (fn:=Tryz.f88) (m:=dt Tryz.f88 [0,2,4]) Kq Tryz.func88 ⟨aqc,aqd,aqe,ai⟩
def YV:aY:=⟨157,⟨[(0,.dat eJ),(1,.dat eJ)],[]⟩,wN,AA⟩
theorem ap9:bc YV:=cf (l:=[]) Tryz.func157 ai
def Xc:aY:=⟨245,⟨[(0,c4),(1,aK)],[]⟩,EZ,aaX⟩
theorem aoD:bc Xc:=cf (l:=[]) Tryz.func245 ai
def V4:bK:=dY ⟨[(0,c4),(4,.own .str 0),(5,c4),(6,aK)],[.arr 9 .str false]⟩ 0 ⟨[(4,.own .str 0),(5,c4)],[.arr 9 .str false]⟩
def Xb:aY:=⟨247,hf,⟨[(0,.own .str 0),(1,dC)],[.arr 9 .str false]⟩,aaW⟩
def LO:bn:=cr [] [(0,V4.go XQ 0)] 0
theorem XP:cc bj (LO).Γ:=bV ai
theorem anD:cM LO Tryz.f247 0 0:=cX (ax:=V4) (b:=XO) (m:=[]) XP ai
theorem aoC:bc Xb:=cy (F:=LO) (fn:=Tryz.f247) (m:=dt Tryz.f247 [0]) XP Tryz.func247 ⟨anD,ai⟩
def W3:bK:=⟨⟨[(0,c4),(3,aK)],[]⟩,.ret,r3,(.exit 0),⟨[],[]⟩⟩
def MH:aY:=⟨248,hf,eC,N9⟩
def Mb:bn:=cr [] [(0,W3.go Y3 0)] 0
theorem Y2:cc bj (Mb).Γ:=bV ai
theorem aoB:cM Mb Tryz.f248 0 0:=cX (ax:=W3) (b:=Y1) (m:=[]) Y2 ai
theorem Y4:bc MH:=cy (F:=Mb) (fn:=Tryz.f248) (m:=dt Tryz.f248 [0]) Y2 Tryz.func248 ⟨aoB,ai⟩
def V6:bK:=⟨⟨[(3,.own .str 0),(4,dC),(5,aK)],[.arr 9 .str false]⟩,.ret,r3,(.exit 0),r4⟩
def LF:aY:=⟨228,hf,eC,EA⟩
def LQ:bn:=cr [Xb,MH] [(0,V6.go Ys 0)] 0
theorem Yr:cc bj (LQ).Γ:=bV ⟨aoC,Y4,ai⟩
theorem anF:cM LQ Tryz.f228 0 0:=cX (ax:=V6) (b:=Yq) (m:=[]) Yr ai
theorem aig:bc LF:=cy (F:=LQ) (fn:=Tryz.f228) (m:=dt Tryz.f228 [0]) Yr Tryz.func228 ⟨anF,ai⟩
def W2:bK:=dY ⟨[(0,aK),(3,c4),(4,aK)],[]⟩ 0 ⟨[(3,c4)],[]⟩
def YP:aY:=⟨249,iA,hf,abv⟩
def Ma:bn:=cr [] [(0,W2.go Y0 0)] 0
theorem YY:cc bj (Ma).Γ:=bV ai
theorem aoA:cM Ma Tryz.f249 0 0:=cX (ax:=W2) (b:=ZS) (m:=[]) YY ai
theorem apW:bc YP:=cy (F:=Ma) (fn:=Tryz.f249) (m:=dt Tryz.f249 [0]) YY Tryz.func249 ⟨aoA,ai⟩
def VG:bK:=dY ⟨[(0,c4),(3,aK),(4,aK)],[]⟩ 0 ⟨[(0,c4),(3,aK)],[]⟩
def TA:aY:=⟨229,hf,eC,Kl⟩
def TF:bn:=cr [YP] [(0,VG.go XA 0)] 0
theorem Xz:cc bj (TF).Γ:=bV ⟨apW,ai⟩
theorem anp:cM TF Tryz.f229 0 0:=cX (ax:=VG) (b:=Xy) (m:=[]) Xz ai
theorem XB:bc TA:=cy (F:=TF) (fn:=Tryz.f229) (m:=dt Tryz.f229 [0]) Xz Tryz.func229 ⟨anp,ai⟩
def sH:bK:=⟨⟨[(1,.ptr 0 hF 0 []),(32,dC)],wW⟩,.nrm,⟨[(1,.ptr 0 hF 0 [])],wW⟩,.ret,r3⟩
def sP:bK:=⟨⟨[(1,.ptr 0 hF 0 [])],wW⟩,.ret,r3,(.exit 90000010),⟨[],[]⟩⟩
def sR:bK:=⟨⟨[(1,.ptr 0 hF 0 [])],wW⟩,.ret,r3,(.exit 90000003),⟨[],[]⟩⟩
def vR:aY:=⟨259,EZ,eC,aaY⟩
def ov:bn:=oe [MH,LF,TA]
def te:lC:=[(100002,sH.go lD 0),(10,sP.go yR 0),(3,sR.go lE 0)]
theorem alM (d:sH.S.ty.den): @Eq (O sH.Out) ((gN ov te (eY (b4 Tryz.f259) 100002) 0 (sH.S.enc d)).bind λ(e,st)=>sH.out (ov).m e st).val (lD d):=aC
theorem amz (d:sP.S.ty.den): @Eq (O sP.Out) ((gN ov te (eY (b4 Tryz.f259) 10) 0 (sP.S.enc d)).bind λ(e,st)=>sP.out (ov).m e st).val (yR d):=aC
theorem amP (d:sR.S.ty.den): @Eq (O sR.Out) ((gN ov te (eY (b4 Tryz.f259) 3) 0 (sR.S.enc d)).bind λ(e,st)=>sR.out (ov).m e st).val (lE d):=aC
theorem aoE (d:(vR).S.ty.den):(sr ov te Tryz.f259 (vR).S (vR).Z d).val=(vR).g d:=aC
theorem JR:cc bj (ov).Γ:=bV ⟨Y4,aig,XB,ai⟩
theorem alN:jL bj ov Tryz.f259.ntmps (sH.go lD 0) (eY (b4 Tryz.f259) 100002):=
  lT eA JR eO (ax:=sH) (k:=0) (f:=lD) (C:=te) (l:=[]) (m:=[]) aC ai aC ai aC (eS _ aC) alM
theorem amA:jL bj ov Tryz.f259.ntmps (sP.go yR 0) (eY (b4 Tryz.f259) 10):=
  lT eA JR eO (ax:=sP) (k:=0) (f:=yR) (C:=te) (l:=[]) (m:=[]) aC ai aC ai aC (eS _ aC) amz
theorem amQ:jL bj ov Tryz.f259.ntmps (sR.go lE 0) (eY (b4 Tryz.f259) 3):=
  lT eA JR eO (ax:=sR) (k:=0) (f:=lE) (C:=te) (l:=[]) (m:=[(sP.go yR 0,eY (b4 Tryz.f259) 10)]) aC ai aC ⟨amA,ai⟩ aC (eS _ aC) amP
theorem aoF:cz bj vR:=
  At (C:=te) (F:=ov) eA JR eO (fn:=Tryz.f259) (l:=[]) (m:=[(sH.go lD 0,eY (b4 Tryz.f259) 100002),(sR.go lE 0,eY (b4 Tryz.f259) 3)]) Tryz.func259 aC aC aC ai aC ⟨alN,amQ,ai⟩ (eS _ aC) aC aoE
theorem aoG:bc vR:=(aoF).x aC
def ZZ:aY:=⟨246,EZ,⟨[(0,c4),(1,aK)],[]⟩,acf⟩
theorem aq4:bc ZZ:=cf (l:=[vR]) Tryz.func246 ⟨aoG,ai⟩
def V5:bK:=⟨⟨[(0,c4),(2,.ptr 0 hF 0 []),(4,aK)],[.box 245 hF EM]⟩,.ret,⟨[(2,.ptr 0 hF 0 []),(3,aK)],wW⟩,(.exit 0),⟨[(2,.ptr 0 hF 0 [])],[.box 245 hF EM]⟩⟩
def LD:aY:=⟨227,hf,⟨[(0,.dat hF),(1,aK)],[]⟩,tx⟩
def LP:bn:=cr [Xc,ZZ] [(0,V5.go Yo 0)] 0
theorem Yn:cc bj (LP).Γ:=bV ⟨aoD,aq4,ai⟩
theorem anE:cM LP Tryz.f227 0 0:=cX (ax:=V5) (b:=XR) (m:=[]) Yn ai
theorem Yp:bc LD:=cy (F:=LP) (fn:=Tryz.f227) (m:=dt Tryz.f227 [0]) Yn Tryz.func227 ⟨anE,ai⟩
def Wt:aY:=⟨199,hf,eC,tm⟩
theorem anr:bc Wt:=cf (l:=[LD]) Tryz.func199 ⟨Yp,ai⟩
def WU:aY:=⟨200,⟨[(0,.dat iX),(1,aK)],[]⟩,uo,rC⟩
theorem anO:bc WU:=cf (l:=[]) Tryz.func200 ai
def XV:aY:=⟨201,⟨[(0,.dat iX),(1,aK)],[]⟩,uo,tC⟩
theorem aoT:bc XV:=cf (l:=[]) Tryz.func201 ai
def XS:aY:=⟨202,jA,eC,tM⟩
theorem aoQ:bc XS:=cf (l:=[LF,TA]) Tryz.func202 ⟨aig,XB,ai⟩
def WT:aY:=⟨158,⟨[(0,.dat eJ),(1,.dat dw)],[]⟩,wN,k7⟩
theorem anN:bc WT:=cf (l:=[Wt,WU,XV,XS]) Tryz.func158 ⟨anr,anO,aoT,aoQ,ai⟩
def WR:aY:=⟨198,E0,uo,zg⟩
theorem anJ:bc WR:=cf (l:=[LD]) Tryz.func198 ⟨Yp,ai⟩
def V8:bK:=dY ⟨[(0,.dat (.list bx)),(2,.ptr 0 iX 0 []),(3,.ptr 1 iX 0 []),(4,aK)],EO⟩ 0 ⟨[(2,.ptr 0 iX 0 []),(3,.ptr 1 iX 0 [])],EO⟩
def Xe:aY:=⟨156,uk,uo,zr⟩
def LS:bn:=cr [WR] [(0,V8.go JS 0)] 0
theorem Yy:cc bj (LS).Γ:=bV ⟨anJ,ai⟩
theorem anK:cM LS Tryz.f156 0 0:=cX (ax:=V8) (b:=tg) (m:=[]) Yy ai
theorem aoI:bc Xe:=cy (F:=LS) (fn:=Tryz.f156) (m:=dt Tryz.f156 [0]) Yy Tryz.func156 ⟨anK,ai⟩
def XT:aY:=⟨155,uo,wN,Fw⟩
theorem aoR:bc XT:=cf (l:=[]) Tryz.func155 ai
def X7:bK:=dY ⟨[(1,.ptr 0 et 0 []),(2,.ptr 1 eJ 0 []),(3,.ptr 2 eJ 0 []),(4,aK)],KH⟩ 0 ⟨[(1,.ptr 0 et 0 []),(2,.ptr 1 eJ 0 []),(3,.ptr 2 eJ 0 [])],KH⟩
def X8:bK:=dY ⟨[(1,.ptr 0 et 0 []),(2,.ptr 1 eJ 0 []),(3,.ptr 2 eJ 0 []),(5,aK)],KH⟩ 2 ⟨[(2,.ptr 0 eJ 0 []),(3,.ptr 1 eJ 0 [])],[.box 95 eJ mN,.box 95 eJ (.dat eJ)]⟩
def Z3:aY:=⟨105,⟨[(0,.dat et)],[]⟩,wN,nc⟩
def Ky:bn:=cr [YV,WT,Xe,XT] [(0,X7.go Ko 0),(2,X8.go Kp 0)] 0
theorem Nu:cc bj (Ky).Γ:=bV ⟨ap9,anN,aoI,aoR,ai⟩
theorem aqa:cM Ky Tryz.f105 0 0:=cX (ax:=X7) (b:=tq) (m:=[]) Nu ai
theorem aqb:cM Ky Tryz.f105 2 1:=cX (ax:=X8) (b:=tr) (m:=[]) Nu ai
theorem aq8:bc Z3:=cy (F:=Ky) (fn:=Tryz.f105) (m:=dt Tryz.f105 [0,2]) Nu Tryz.func105 ⟨aqa,aqb,ai⟩
def Wu:aY:=⟨118,⟨[(0,.agg [(.own iB 0)]),(1,aK)],[.arr 87 iB false]⟩,⟨[(0,dC)],[.arr 87 iB false]⟩,Kc⟩
def amZ:bn:=cr [] [] 1
theorem ans:bc Wu:=cy (F:=amZ) (fn:=Tryz.f118) (m:=[]) (bV ai) Tryz.func118 ai
def Xk:bK:=dY ⟨[(4,.ptr 0 dk 0 []),(6,.ptr 1 dk 0 []),(7,.dat (.list (.int .i64)))],zT⟩ 0 ⟨[(4,.ptr 0 dk 0 []),(6,.ptr 1 dk 0 [])],zT⟩
def MM:aY:=⟨89,pF,pF,zG⟩
def Mg:bn:=cr [JY,TB,Wu] [(0,Xk.go MB 0)] 0
theorem Zd:cc bj (Mg).Γ:=bV ⟨MC,W7,ans,ai⟩
theorem aoU:cM Mg Tryz.f89 0 0:=cX (ax:=Xk) (b:=DZ) (m:=[]) Zd ai
theorem Ze:bc MM:=cy (F:=Mg) (fn:=Tryz.f89) (m:=dt Tryz.f89 [0]) Zd Tryz.func89 ⟨aoU,ai⟩
def wa:aY:=⟨98,pF,eC,mt⟩
theorem zf:bc wa:=cf (l:=[]) Tryz.func98 ai
def tv:aY:=⟨59,pF,⟨[(0,.dat et),(1,aK)],[]⟩,ik⟩
theorem zp:bc tv:=cf (l:=[wa]) Tryz.func59 ⟨zf,ai⟩
end D
open Go Go.X Go.Proofs D
namespace D
def ahU:aY:=⟨230,hf,eC,vF⟩
theorem alS:bc ahU:=cf (l:=[]) Tryz.func230 ai
def ahA:aY:=⟨205,jA,iA,C9⟩
theorem alu:bc ahA:=cf (l:=[ahU]) Tryz.func205 ⟨alS,ai⟩
def IU:aY:=⟨161,jA,iA,pT⟩
theorem S1:bc IU:=cf (l:=[ahA]) Tryz.func161 ⟨alu,ai⟩
def agp:bK:=dY ⟨[(0,.dat (.list .str)),(1,.fn 161 [] []),(5,c4),(6,aK)],[]⟩ 0 ⟨[(5,c4)],[]⟩
def agN:aY:=⟨160,⟨[(0,.dat (.list .str)),(1,.fn 161 [] [])],[]⟩,hf,Sl⟩
def R9:bn:=cr [IU] [(0,agp.go ii 0)] 0
theorem md:cc bj (R9).Γ:=bV ⟨S1,ai⟩
theorem aye:cM R9 Tryz.f160 0 0:=cX (ax:=agp) (b:=xO) (m:=[]) md ai
theorem ayq:bc agN:=cy (F:=R9) (fn:=Tryz.f160) (m:=dt Tryz.f160 [0]) md Tryz.func160 ⟨aye,ai⟩
def Zv:aY:=⟨117,⟨[(0,.dat (.list .str))],[]⟩,hf,FW⟩
theorem apO:bc Zv:=cf (l:=[agN]) Tryz.func117 ⟨ayq,ai⟩
def rA:aY:=⟨74,oT,eC,la⟩
theorem tn:bc rA:=cf (l:=[]) Tryz.func74 ai
def D6:aY:=⟨75,zW,oT,tW⟩
theorem Kt:bc D6:=cf (l:=[Zv,rA]) Tryz.func75 ⟨apO,tn,ai⟩
def Xn:bK:=dY ⟨[(2,.ptr 0 ac 0 []),(5,.own ac 1),(6,c4),(9,.dat (.list .str)),(10,aK),(11,aK)],zV⟩ 0 ⟨[(2,.ptr 0 ac 0 []),(5,.own ac 1),(6,c4)],zV⟩
def Zu:aY:=⟨114,⟨[(0,.dat ac),(1,.dat (.list .str))],[]⟩,⟨jQ,cA⟩,rR⟩
def Mh:bn:=cr [D6] [(0,Xn.go Zk 0)] 0
theorem Zj:cc bj (Mh).Γ:=bV ⟨Kt,ai⟩
theorem apA:cM Mh Tryz.f114 0 0:=cX (ax:=Xn) (b:=Zi) (m:=[]) Zj ai
theorem apL:bc Zu:=cy (F:=Mh) (fn:=Tryz.f114) (m:=dt Tryz.f114 [0]) Zj Tryz.func114 ⟨apA,ai⟩
def acl:aY:=⟨67,KT,⟨jQ,cA⟩,Av⟩
theorem ZK:bc acl:=cf (l:=[Zu]) Tryz.func67 ⟨apL,ai⟩
def Em:aY:=⟨216,hf,oT,qq⟩
theorem Fz:bc Em:=cf (l:=[]) Tryz.func216 ai
def Jg:aY:=⟨324,gw,⟨jQ,cA⟩,LA⟩
theorem VQ:bc Jg:=cf (l:=[Em]) Tryz.func324 ⟨Fz,ai⟩
def I9:aY:=⟨337,gw,⟨jQ,cA⟩,Lu⟩
theorem VJ:bc I9:=cf (l:=[Em]) Tryz.func337 ⟨Fz,ai⟩
def pi:aY:=⟨348,gw,⟨jQ,cA⟩,TK⟩
theorem Vs:bc pi:=cf (l:=[]) Tryz.func348 ai
def Wa:bK:=dY T4 0 T4
def pX:aY:=⟨217,hf,oT,lX⟩
def LV:bn:=cr [] [(0,Wa.go YG 0)] 0
theorem YF:cc bj (LV).Γ:=bV ai
theorem anV:cM LV Tryz.f217 0 0:=cX (ax:=Wa) (b:=YE) (m:=[]) YF ai
theorem rz:bc pX:=cy (F:=LV) (fn:=Tryz.f217) (m:=dt Tryz.f217 [0]) YF Tryz.func217 ⟨anV,ai⟩
def I5:aY:=⟨355,gw,⟨jQ,cA⟩,TL⟩
theorem Vt:bc I5:=cf (l:=[pX]) Tryz.func355 ⟨rz,ai⟩
def IS:aY:=⟨365,gw,⟨jQ,cA⟩,Tq⟩
theorem aip:bc IS:=cf (l:=[pX]) Tryz.func365 ⟨rz,ai⟩
def IT:aY:=⟨371,gw,⟨jQ,cA⟩,Tr⟩
theorem aiq:bc IT:=cf (l:=[]) Tryz.func371 ai
def YH:aY:=⟨72,gw,⟨jQ,cA⟩,qf⟩
noncomputable def ape:bn:=ma hC (Fj hC (hP [Jg,I9,pi,I5,IS,IT]) 110 Tryz.f110 (hP [Jg,I9,pi,I5,IS,IT])) (λk st=>.fail) 0
theorem apq:bc YH:=cy (F:=ape) (fn:=Tryz.f72) (m:=[]) (FF aC (F4 (F:=(ma hC (hP [Jg,I9,pi,I5,IS,IT]) (λ_ _=>.fail) 0)) eA (bV ⟨VQ,VJ,Vs,Vt,aip,aiq,ai⟩) eO Tryz.func110 aC aC aC) (bV ⟨VQ,VJ,Vs,Vt,aip,aiq,ai⟩)) Tryz.func72 ai
def tp:aY:=⟨60,⟨[(0,.dat et)],[]⟩,eC,tX⟩
theorem zi:bc tp:=cf (l:=[]) Tryz.func60 ai
def R4:aY:=⟨231,jA,iA,Sn⟩
set_option maxHeartbeats 1000000 in
theorem ax9 (a b:ByteArray) (w:World):Calls bj 231 #[.string a,.string b] w λe aq=>e=.returned (.int .i64 (Lib.compareBytes a.data.toList b.data.toList))/\aq=w:=by
  go_enter Tryz.func231,Tryz.ntmps231
  go_wp2
  rw[run_callFunc_extern Tryz.func250 aC aC aC (e:=Extern.BytealgCompare.compare) aC,Lib.run_compareString]
  simp only[Result.andThen]
  rw[Oper.upon_value]
  go_wp2
  go_ret
  exact ⟨rfl,rfl⟩
theorem ayx:cz bj R4:=akX (g:=λa b=>Lib.compareBytes a b) Tryz.func231 aC ax9
theorem ayy:bc R4:=ayx.x aC
def VB:aY:=⟨208,jA,iA,TU⟩
theorem amB:bc VB:=cf (l:=[R4]) Tryz.func208 ⟨ayy,ai⟩
def Ww:aY:=⟨207,⟨[(0,.dat bx),(1,c4)],[]⟩,iA,D4⟩
theorem anA:bc Ww:=cf (l:=[VB]) Tryz.func207 ⟨amB,ai⟩
def adZ:bK:=dY ⟨[(0,.dat (.list bx)),(1,c4),(2,.fn 207 [] []),(8,aK),(9,aK),(10,aK)],[]⟩ 0 ⟨[(0,.dat (.list bx)),(1,c4),(2,.fn 207 [] []),(8,aK),(9,aK)],[]⟩
def ad3:aY:=⟨206,⟨[(0,.dat (.list bx)),(1,c4),(2,.fn 207 [] [])],[]⟩,⟨[(0,aK),(1,dC)],[]⟩,Hd⟩
def P2:bn:=cr [Ww] [(0,adZ.go P3 0)] 0
theorem ad4:cc bj (P2).Γ:=bV ⟨anA,ai⟩
theorem awo:cM P2 Tryz.f206 0 0:=cX (ax:=adZ) (b:=Hc) (m:=[]) ad4 ai
theorem awx:bc ad3:=cy (F:=P2) (fn:=Tryz.f206) (m:=dt Tryz.f206 [0]) ad4 Tryz.func206 ⟨awo,ai⟩
def JI:aY:=⟨164,KS,⟨[(0,aK),(1,dC)],[]⟩,wu⟩
theorem L8:bc JI:=cf (l:=[ad3]) Tryz.func164 ⟨awx,ai⟩
def MN:aY:=⟨127,KS,⟨[(0,.dat bx),(1,dC)],[]⟩,abL⟩
theorem apP:bc MN:=cf (l:=[JI]) Tryz.func127 ⟨L8,ai⟩
def Sg:aY:=⟨165,⟨[(0,.dat (.list dw))],[]⟩,⟨[(0,.fn 209 [] [(.ptr 0 (.list dw) 0 [])])],[.box 83 (.list dw) (.dat (.list dw))]⟩,HV⟩
theorem ag1:bc Sg:=cf (l:=[]) Tryz.func165 ai
def rc:aY:=⟨174,⟨[(0,.dat ac),(1,c4)],[]⟩,eC,pz⟩
theorem zs:bc rc:=cf (l:=[]) Tryz.func174 ai
def LK:aY:=⟨375,⟨[(0,.ptr 0 j0 0 []),(1,aK)],[.box 190 j0 r5]⟩,⟨[],[.box 190 j0 r5]⟩,NT⟩
def aos:bn:=cr [] [] 1
theorem Yh:bc LK:=cy (F:=aos) (fn:=Tryz.f375) (m:=[]) (bV ai) Tryz.func375 ai
def WC:aY:=⟨380,wT,wS,Zr⟩
def am5:bn:=cr [rc,LK] [] 1
theorem anl:bc WC:=cy (F:=am5) (fn:=Tryz.f380) (m:=[]) (bV ⟨zs,Yh,ai⟩) Tryz.func380 ai
def R5:aY:=⟨270,jA,eC,sw⟩
theorem ag4:bc R5:=cf (l:=[]) Tryz.func270 ai
def ag3:aY:=⟨253,jA,⟨[(0,c4),(1,dC)],[]⟩,So⟩
theorem ayz:bc ag3:=cf (l:=[R5]) Tryz.func253 ⟨ag4,ai⟩
def SS:aY:=⟨240,jA,⟨[(0,c4),(1,dC)],[]⟩,Jk⟩
theorem aic:bc SS:=cf (l:=[ag3]) Tryz.func240 ⟨ayz,ai⟩
end D
open Go Go.X Go.Proofs D
namespace D
def JZ:aY:=⟨239,⟨[(0,c4),(1,c4),(2,c4)],[]⟩,⟨[(0,c4),(1,dC)],[]⟩,wz⟩
theorem adc:bc JZ:=cf (l:=[SS]) Tryz.func239 ⟨aic,ai⟩
def MO:aY:=⟨379,wT,wS,Oh⟩
def aph:bn:=cr [JZ] [] 1
theorem Zm:bc MO:=cy (F:=aph) (fn:=Tryz.f379) (m:=[]) (bV ⟨adc,ai⟩) Tryz.func379 ai
def rg:aY:=⟨359,jA,eC,Dh⟩
theorem aid:bc rg:=cf (l:=[R5]) Tryz.func359 ⟨ag4,ai⟩
def WB:aY:=⟨378,wT,wS,Zq⟩
def am4:bn:=cr [MO,rg] [] 1
theorem ank:bc WB:=cy (F:=am4) (fn:=Tryz.f378) (m:=[]) (bV ⟨Zm,aid,ai⟩) Tryz.func378 ai
def WA:aY:=⟨377,wT,wS,Zp⟩
def am3:bn:=cr [rc] [] 1
theorem anj:bc WA:=cy (F:=am3) (fn:=Tryz.f377) (m:=[]) (bV ⟨zs,ai⟩) Tryz.func377 ai
def Wz:aY:=⟨376,wT,wS,Zo⟩
def am2:bn:=cr [] [] 1
theorem ani:bc Wz:=cy (F:=am2) (fn:=Tryz.f376) (m:=[]) (bV ai) Tryz.func376 ai
def Wy:aY:=⟨374,wT,wS,Zn⟩
def am1:bn:=cr [LK] [] 1
theorem anC:bc Wy:=cy (F:=am1) (fn:=Tryz.f374) (m:=[]) (bV ⟨Yh,ai⟩) Tryz.func374 ai
def S5:Shape:=⟨[(0,.yld 1012800 0),(1,aK),(2,.dat dw)],Um⟩
def S6:Shape:=⟨[(0,dC)],Um⟩
def aik:aY:=⟨1012800,S5,S6,Tv⟩
def ail:bn:=cr [WC,MO,WB,WA,Wz,Wy] [] 3
theorem ams (d:S5.ty.den): @Eq (O S6.ty.den) (ss ail gb 1012800 (ko Tryz.f128 0) S5 S6 d).val (Tv d):=aC
theorem amt:bc aik:=
  FT (F:=ail) (c:=ko Tryz.f128 0) eA (bV ⟨anl,Zm,ank,anj,ani,anC,ai⟩) eO aC aC aC (m:=[]) aC ai aC ams
def agu:bK:=⟨⟨[(0,.yld 1012800 0),(1,.ptr 1 (.list dw) 0 []),(3,aK)],zX⟩,.ret,⟨[],zX⟩,(.exit 0),⟨[],zX⟩⟩
def agl:aY:=⟨209,⟨[(0,.yld 1012800 0),(1,.ptr 1 (.list dw) 0 [])],zX⟩,⟨[],zX⟩,ag0⟩
def QK:bn:=cr [aik] [(0,agu.go agy 4)] 4
theorem agU:cc bj (QK).Γ:=bV ⟨amt,ai⟩
theorem axy:cM QK Tryz.f209 0 0:=cX (ax:=agu) (b:=lw) (m:=[]) agU ai
theorem axL:bc agl:=cy (F:=QK) (fn:=Tryz.f209) (m:=dt Tryz.f209 [0]) agU Tryz.func209 ⟨axy,ai⟩
def M0:Shape:=⟨[(0,c4),(1,.dat (.list dw))],[]⟩
def M1:Shape:=⟨[(0,.dat j0)],[]⟩
def Kx:aY:=⟨128,M0,M1,OR⟩
def aao:bn:={cx:=hC,Γ:=hP [Sg,agl],Λ:=λk st=>.fail,keep:=λ_=>none,m:=0,rfs:=λk=>bif Nat.beq k 3 then some 1012800 else none,its:=[209]}
theorem aqD (d:M0.ty.den): @Eq (O M1.ty.den) (l9 aao Tryz.f128 M0 M1 d).val (OR d):=aC
theorem aqE:cz bj Kx:=
  rO (F:=aao) eA (bV ⟨ag1,axL,ai⟩) eO (fn:=Tryz.f128) (m:=[]) Tryz.func128 aC aC aC ai (Bd (m:=[(3,ko Tryz.f128 0)]) (its:=[209]) aC ⟨Bo (Y:=1012800) aC aC,ai⟩ aC ⟨⟨_,Tryz.func209,aC,aC⟩,ai⟩) aC aqD
theorem aqF:bc Kx:=(aqE).x aC
def S3:aY:=⟨232,hf,eC,yK⟩
theorem aio:bc S3:=cf (l:=[]) Tryz.func232 ai
def Vy:aY:=⟨210,jA,eC,Xq⟩
theorem amF:bc Vy:=cf (l:=[S3]) Tryz.func210 ⟨aio,ai⟩
def ahI:aY:=⟨211,hf,eC,S0⟩
theorem alO:bc ahI:=cf (l:=[]) Tryz.func211 ai
def age:bK:=dY ⟨[(0,.dat (.list .str)),(1,c4),(6,aK),(7,aK),(8,aK)],[]⟩ 0 ⟨[(0,.dat (.list .str)),(1,c4),(6,aK),(7,aK)],[]⟩
def agB:aY:=⟨166,⟨[(0,.dat (.list .str)),(1,c4)],[]⟩,⟨[(0,aK),(1,dC)],[]⟩,ag8⟩
def QG:bn:=cr [Vy,ahI] [(0,age.go agK 0)] 0
theorem agJ:cc bj (QG).Γ:=bV ⟨amF,alO,ai⟩
theorem axM:cM QG Tryz.f166 0 0:=cX (ax:=age) (b:=agI) (m:=[]) agJ ai
theorem ayd:bc agB:=cy (F:=QG) (fn:=Tryz.f166) (m:=dt Tryz.f166 [0]) agJ Tryz.func166 ⟨axM,ai⟩
def Nn:aY:=⟨131,⟨[(0,c4),(1,.dat (.list .str))],[]⟩,iA,aci⟩
theorem arb:bc Nn:=cf (l:=[agB]) Tryz.func131 ⟨ayd,ai⟩
def LJ:aY:=⟨130,⟨[(0,.dat j0),(1,.dat bx),(2,dC)],[]⟩,⟨[(0,.dat bx),(1,dC)],[]⟩,aa6⟩
theorem ao6:bc LJ:=cf (l:=[]) Tryz.func130 ai
def ZA:bK:=⟨⟨[(1,c4),(2,.ptr 0 ht 0 []),(4,.ptr 1 bx 0 []),(5,.ptr 2 .bool 0 []),(6,.ptr 3 (.int .i64) 0 []),(8,aK),(1000000000,.dfr 129 [(.ptr 3 (.int .i64) 0 [])] [(.ptr 1 bx 0 []),(.ptr 2 .bool 0 [])] j0)],[.box 36 ht (.dat ht),.box 58 bx (.agg [c4,c4,aK]),.box 4 .bool dC,.box 3 (.int .i64) aK]⟩,.ret,T6,(.exit 80000000),⟨[],[]⟩⟩
def y1:bK:=⟨T6,.nrm,⟨[(4,.ptr 0 bx 0 []),(5,.ptr 1 .bool 0 []),(6,.ptr 2 (.int .i64) 0 []),(7,aK)],[.box 58 bx (.dat bx),.box 4 .bool dC,.box 3 (.int .i64) aK]⟩,(.exit 80000000),⟨[],[]⟩⟩
def wm:Shape:=⟨[(0,.dat ht),(1,c4)],[]⟩
def wq:Shape:=⟨[(0,.dat bx),(1,dC),(2,aK),(3,aK)],[]⟩
def aqK:aY:=⟨81,wm,wq,Gy⟩
def En:bn:={cx:=hC,Γ:=hP [tv,tp,MN,Kx,Nn,LJ],Λ:=λk st=>bif Nat.beq k 0 then ZA.go aa9 0 st else bif Nat.beq k dJ then y1.go NV 0 st else .fail,keep:=λ_=>none,m:=0,dfr:=λk=>bif Nat.beq k 0 then some (129,[6],[4,5],j0) else none}
def aaq:bn:=ma hC (hP [tv,tp,MN,Kx,Nn,LJ]) (λ_ _=>.fail) 3
theorem ao9 (d:y1.S.ty.den): @Eq (O (y1.S.ty.den⊕y1.Out)) (uI y1 (En).m aaq 129 Tryz.f129 d).val (NU d):=aC
theorem ar9 (d:wm.ty.den): @Eq (O wq.ty.den) (G5 En Tryz.f81 wm wq d).val (Gy d):=aC
theorem NW:cc bj (En).Γ:=bV ⟨zp,zi,apP,aqF,arb,ao6,ai⟩
theorem aqG:cM En Tryz.f81 0 0:=cX (ax:=ZA) (b:=aa8) (m:=[]) NW ai
theorem asa:cz bj aqK:=
  arS (F:=En) (Fd:=aaq) (ax:=y1) (fd:=129) (hv:=Tryz.f129) (b:=NU) (g:=NV) eA NW eO (fn:=Tryz.f81) (m:=dt Tryz.f81 [0]) Tryz.func81 aC aC aC ⟨aqG,ai⟩ (λ_=>rfl) aC eA NW Tryz.func129 aC aC aC aC ao9 aC ar9
def WV:aY:=⟨147,⟨[(0,aK),(1,aK),(2,aK)],[]⟩,eC,Ku⟩
theorem an2:bc WV:=cf (l:=[]) Tryz.func147 ai
def MQ:aY:=⟨90,⟨[(0,.dat FM)],[]⟩,eC,wB⟩
theorem Zt:bc MQ:=cf (l:=[WV]) Tryz.func90 ⟨an2,ai⟩
def YL:aY:=⟨112,⟨[(0,.dat iB)],[]⟩,eC,FK⟩
theorem apx:bc YL:=cf (l:=[]) Tryz.func112 ai
def agw:bK:=⟨⟨[(0,.dat (.list iB)),(1,.fn 112 [] []),(7,aK),(8,aK)],[]⟩,.ret,⟨[(4,aK)],[]⟩,(.exit 0),⟨[],[]⟩⟩
def agn:aY:=⟨111,⟨[(0,.dat (.list iB)),(1,.fn 112 [] [])],[]⟩,iA,BV⟩
def QN:bn:=cr [YL] [(0,agw.go QD 0)] 0
theorem agA:cc bj (QN).Γ:=bV ⟨apx,ai⟩
theorem axF:cM QN Tryz.f111 0 0:=cX (ax:=agw) (b:=xK) (m:=[]) agA ai
theorem axO:bc agn:=cy (F:=QN) (fn:=Tryz.f111) (m:=dt Tryz.f111 [0]) agA Tryz.func111 ⟨axF,ai⟩
def Kf:aY:=⟨104,⟨[(0,.dat dk)],[]⟩,⟨[(0,.agg [(.own iB 0)])],[.arr 87 iB false]⟩,zD⟩
theorem My:bc Kf:=cf (l:=[]) Tryz.func104 ai
def Zy:bK:=⟨⟨[(2,.ptr 0 dk 0 []),(3,.ptr 1 et 0 []),(4,.ptr 2 dk 0 []),(14,.dat (.list (.int .i64))),(15,aK),(16,aK)],Uu⟩,.ret,⟨[(4,.ptr 0 dk 0 []),(5,aK),(6,aK)],[.box 32 dk (.dat dk)]⟩,(.exit 0),⟨[(2,.ptr 0 dk 0 []),(3,.ptr 1 et 0 []),(4,.ptr 2 dk 0 [])],Uu⟩⟩
def Zz:bK:=dY ⟨[(4,.ptr 0 dk 0 []),(9,aK),(10,.ptr 1 dk 0 []),(57,.dat (.list (.int .i64))),(58,aK),(59,aK)],zT⟩ 2 ⟨[(4,.ptr 0 dk 0 []),(9,aK),(10,.ptr 1 dk 0 [])],zT⟩
def ND:aY:=⟨63,⟨[(0,.dat dk),(1,.dat et)],[]⟩,⟨[(0,.dat dk),(1,aK),(2,aK)],[]⟩,lV⟩
def Fm:bn:=cr [wa,agn,Kf] [(0,Zy.go NN 0),(2,Zz.go NO 0)] 0
theorem NM:cc bj (Fm).Γ:=bV ⟨zf,axO,My,ai⟩
theorem aqX:cM Fm Tryz.f63 0 0:=cX (ax:=Zy) (b:=Ey) (m:=[]) NM ai
theorem aqY:cM Fm Tryz.f63 2 1:=cX (ax:=Zz) (b:=Ez) (m:=[]) NM ai
theorem aaS:bc ND:=cy (F:=Fm) (fn:=Tryz.f63) (m:=dt Tryz.f63 [0,2]) NM Tryz.func63 ⟨aqX,aqY,ai⟩
def Ep:Shape:=⟨[(0,.dat FM)],[]⟩
def Es:Shape:=⟨[(0,.dat ht),(1,aK)],[]⟩
def aqL:aY:=⟨40,Ep,Es,Pa⟩
def aqN:bn:=oe [MQ,ND]
theorem asb:cz bj aqL:=pD (F:=aqN) (fn:=Tryz.f40) (m:=[]) (bV ⟨Zt,aaS,ai⟩) Tryz.func40 ai
def Z0:aY:=⟨83,EX,hf,zJ⟩
theorem aq5:bc Z0:=cf (l:=[]) Tryz.func83 ai
def YT:aY:=⟨109,⟨[(0,.dat uu)],[]⟩,E0,FQ⟩
theorem ap0:bc YT:=cf (l:=[Z0]) Tryz.func109 ⟨aq5,ai⟩
end D
open Go Go.X Go.Proofs D
namespace D
def X6:bK:=dY ⟨[(0,.dat (.list bx)),(3,.ptr 0 bx 0 []),(5,.own bx 1),(6,dC),(7,aK)],[.box 58 bx (.dat bx),.arr 58 bx false]⟩ 0 ⟨[(3,.ptr 0 bx 0 []),(5,.own bx 1),(6,dC)],[.box 58 bx (.dat bx),.arr 58 bx false]⟩
def Z1:aY:=⟨108,⟨[(0,.dat (.list bx)),(1,.dat bx)],[]⟩,kD,Gd⟩
def MX:bn:=cr [] [(0,X6.go Nt 0)] 0
theorem aal:cc bj (MX).Γ:=bV ai
theorem ap3:cM MX Tryz.f108 0 0:=cX (ax:=X6) (b:=Ef) (m:=[]) aal ai
theorem aq6:bc Z1:=cy (F:=MX) (fn:=Tryz.f108) (m:=dt Tryz.f108 [0]) aal Tryz.func108 ⟨ap3,ai⟩
def W4:bK:=dY ⟨[(0,.dat (.list uu)),(3,.own bx 0),(4,aK)],oh⟩ 0 ⟨[(3,.own bx 0)],oh⟩
def YS:aY:=⟨51,⟨[(0,.dat (.list uu))],[]⟩,kD,Az⟩
def Mc:bn:=cr [YT,Z1] [(0,W4.go Ka 0)] 0
theorem Y6:cc bj (Mc).Γ:=bV ⟨ap0,aq6,ai⟩
theorem aoJ:cM Mc Tryz.f51 0 0:=cX (ax:=W4) (b:=y9) (m:=[]) Y6 ai
theorem apZ:bc YS:=cy (F:=Mc) (fn:=Tryz.f51) (m:=dt Tryz.f51 [0]) Y6 Tryz.func51 ⟨aoJ,ai⟩
def yX:Shape:=⟨[(0,.dat dk),(1,.dat (.list bx)),(2,.dat ac),(3,.dat (.list (.list .str))),(4,.dat mY)],[]⟩
def yZ:Shape:=⟨[(0,.dat fN)],[]⟩
def yE (dv:(bB×aj×aL×(List bo)×fg×H)->O (fh×H)):aY:=⟨50,yX,yZ,dv⟩
def Z4:aY:=⟨76,pF,⟨[(0,.dat et),(1,aK)],[]⟩,zL⟩
theorem aq9:bc Z4:=cf (l:=[JY]) Tryz.func76 ⟨MC,ai⟩
def ML:aY:=⟨54,EX,hf,qh⟩
theorem Zb:bc ML:=cf (l:=[]) Tryz.func54 ai
def Z2:aY:=⟨52,EX,hf,zK⟩
theorem aq7:bc Z2:=cf (l:=[ML]) Tryz.func52 ⟨Zb,ai⟩
def VH:bK:=dY Ur 0 Ur
def JC:aY:=⟨53,hf,oT,nY⟩
def TG:bn:=cr [] [(0,VH.go XE 0)] 0
theorem XD:cc bj (TG).Γ:=bV ai
theorem anq:cM TG Tryz.f53 0 0:=cX (ax:=VH) (b:=XC) (m:=[]) XD ai
theorem TQ:bc JC:=cy (F:=TG) (fn:=Tryz.f53) (m:=dt Tryz.f53 [0]) XD Tryz.func53 ⟨anq,ai⟩
def WO:aY:=⟨56,jA,eC,v8⟩
theorem anG:bc WO:=cf (l:=[]) Tryz.func56 ai
def Xh:aY:=⟨57,EX,hf,wh⟩
theorem aoO:bc Xh:=cf (l:=[]) Tryz.func57 ai
def Nj:aY:=⟨55,hf,oT,oL⟩
theorem aaj:bc Nj:=cf (l:=[]) Tryz.func55 ai
def sE:bK:=⟨⟨[(1,.ptr 0 lz 0 []),(2,.ptr 1 dw 0 []),(3,c4),(5,.ptr 2 ac 0 []),(6,c4),(7,c4),(63,dC)],ET⟩,.nrm,⟨Up,ET⟩,(.exit 90100013),⟨[],[]⟩⟩
def sT:bK:=⟨⟨Up,ET⟩,.ret,Un,(.exit 90000016),⟨[],[]⟩⟩
def sS:bK:=⟨⟨[(1,.ptr 0 lz 0 []),(2,.ptr 1 dw 0 []),(3,c4),(5,.ptr 2 ac 0 [])],ET⟩,.ret,Un,(.exit 90000011),⟨[],[]⟩⟩
def vW:aY:=⟨14,⟨[(0,.dat lz)],[]⟩,gw,zF⟩
def oy:bn:=oe [ML,Z2,JC,WO,Xh,Nj]
def tj:lC:=[(100013,sE.go sV 0),(16,sT.go rv 0),(11,sS.go nB 0)]
theorem alT (d:sE.S.ty.den): @Eq (O sE.Out) ((gN oy tj (eY (b4 Tryz.f14) 100013) 0 (sE.S.enc d)).bind λ(e,st)=>sE.out (oy).m e st).val (sV d):=aC
theorem amT (d:sT.S.ty.den): @Eq (O sT.Out) ((gN oy tj (eY (b4 Tryz.f14) 16) 0 (sT.S.enc d)).bind λ(e,st)=>sT.out (oy).m e st).val (rv d):=aC
theorem amR (d:sS.S.ty.den): @Eq (O sS.Out) ((gN oy tj (eY (b4 Tryz.f14) 11) 0 (sS.S.enc d)).bind λ(e,st)=>sS.out (oy).m e st).val (nB d):=aC
theorem ap5 (d:(vW).S.ty.den):(sr oy tj Tryz.f14 (vW).S (vW).Z d).val=(vW).g d:=aC
theorem Kb:cc bj (oy).Γ:=bV ⟨Zb,aq7,TQ,anG,aoO,aaj,ai⟩
theorem alU:jL bj oy Tryz.f14.ntmps (sE.go sV 0) (eY (b4 Tryz.f14) 100013):=
  lT eA Kb eO (ax:=sE) (k:=0) (f:=sV) (C:=tj) (l:=[]) (m:=[]) aC ai aC ai aC (eS _ aC) alT
theorem amU:jL bj oy Tryz.f14.ntmps (sT.go rv 0) (eY (b4 Tryz.f14) 16):=
  lT eA Kb eO (ax:=sT) (k:=0) (f:=rv) (C:=tj) (l:=[]) (m:=[]) aC ai aC ai aC (eS _ aC) amT
theorem amS:jL bj oy Tryz.f14.ntmps (sS.go nB 0) (eY (b4 Tryz.f14) 11):=
  lT eA Kb eO (ax:=sS) (k:=0) (f:=nB) (C:=tj) (l:=[]) (m:=[(sE.go sV 0,eY (b4 Tryz.f14) 100013),(sT.go rv 0,eY (b4 Tryz.f14) 16)]) aC ai aC ⟨alU,amU,ai⟩ aC (eS _ aC) amR
theorem ap6:cz bj vW:=
  At (C:=tj) (F:=oy) eA Kb eO (fn:=Tryz.f14) (l:=[]) (m:=[(sS.go nB 0,eY (b4 Tryz.f14) 11)]) Tryz.func14 aC aC aC ai aC ⟨amS,ai⟩ (eS _ aC) aC ap5
theorem ap7:bc vW:=(ap6).x aC
def Xi:bK:=dY ⟨[(0,.dat (.list lz)),(1,aK),(5,.own dw 0),(6,aK)],z6⟩ 0 ⟨[(5,.own dw 0)],z6⟩
def MK:aY:=⟨41,⟨[(0,.dat (.list lz)),(1,aK)],[]⟩,⟨[(0,.own dw 0)],z6⟩,zE⟩
def Me:bn:=cr [vW] [(0,Xi.go MA 0)] 0
theorem Y9:cc bj (Me).Γ:=bV ⟨ap7,ai⟩
theorem aoM:cM Me Tryz.f41 0 0:=cX (ax:=Xi) (b:=za) (m:=[]) Y9 ai
theorem Za:bc MK:=cy (F:=Me) (fn:=Tryz.f41) (m:=dt Tryz.f41 [0]) Y9 Tryz.func41 ⟨aoM,ai⟩
def Xg:aY:=⟨203,gw,⟨jQ,cA⟩,nO⟩
theorem aoN:bc Xg:=cf (l:=[JC]) Tryz.func203 ⟨TQ,ai⟩
def WS:aY:=⟨26,gw,⟨jQ,cA⟩,lI⟩
theorem anM:bc WS:=cf (l:=[JC,Nj]) Tryz.func26 ⟨TQ,aaj,ai⟩
def WQ:aY:=⟨204,zW,eC,me⟩
theorem anH:bc WQ:=cf (l:=[MI,LG]) Tryz.func204 ⟨Y5,Yw,ai⟩
def Xj:bK:=⟨⟨[(3,.ptr 0 ac 0 []),(5,.own ac 1),(6,aK)],zV⟩,.ret,r4,(.exit 0),⟨[],[]⟩⟩
def YU:aY:=⟨159,⟨[(0,.dat dw),(1,.dat ac)],[]⟩,eC,jK⟩
def Mf:bn:=cr [Xg,WS,WQ] [(0,Xj.go DY 0)] 0
theorem Zc:cc bj (Mf).Γ:=bV ⟨aoN,anM,anH,ai⟩
theorem aoP:cM Mf Tryz.f159 0 0:=cX (ax:=Xj) (b:=pg) (m:=[]) Zc ai
theorem ap8:bc YU:=cy (F:=Mf) (fn:=Tryz.f159) (m:=dt Tryz.f159 [0]) Zc Tryz.func159 ⟨aoP,ai⟩
def Vo:bK:=dY ⟨[(2,aK),(4,.ptr 0 ac 0 []),(7,.own dw 1),(8,.own dw 2),(9,aK)],[.box 39 ac (.dat ac),.arr 41 dw false,.arr 41 dw false]⟩ 0 ⟨[(7,.own dw 0)],z6⟩
def Wv:aY:=⟨107,⟨[(0,.dat (.list lz)),(1,.dat ac),(2,aK)],[]⟩,⟨[(0,.own dw 0)],z6⟩,vZ⟩
def Tp:bn:=cr [MK,YU] [(0,Vo.go Tt 0)] 0
theorem WE:cc bj (Tp).Γ:=bV ⟨Za,ap8,ai⟩
theorem ane:cM Tp Tryz.f107 0 0:=cX (ax:=Vo) (b:=vN) (m:=[]) WE ai
theorem ant:bc Wv:=cy (F:=Tp) (fn:=Tryz.f107) (m:=dt Tryz.f107 [0]) WE Tryz.func107 ⟨ane,ai⟩
def yF:bK:=dY ⟨[(1,.dat (.list bx)),(3,.dat (.list (.list .str))),(5,.ptr 0 dk 0 []),(7,.ptr 1 ac 0 []),(9,.ptr 2 mY 0 []),(10,.ptr 3 fN 0 []),(11,.own .str 4),(12,aK)],T5⟩ 0 ⟨[(1,.dat (.list bx)),(3,.dat (.list (.list .str))),(5,.ptr 0 dk 0 []),(7,.ptr 1 ac 0 []),(9,.ptr 2 mY 0 []),(10,.ptr 3 fN 0 []),(11,.own .str 4)],T5⟩
def yG:bK:=dY ⟨[(1,.dat (.list bx)),(3,.dat (.list (.list .str))),(5,.ptr 0 dk 0 []),(7,.ptr 1 ac 0 []),(9,.ptr 2 mY 0 []),(10,.ptr 3 fN 0 []),(14,.ptr 4 et 0 []),(16,.own ac 5),(17,aK)],[.box 32 dk (.dat dk),.box 39 ac (.dat ac),.box 26 mY (.dat mY),.box 114 fN (.agg [oU,aK]),.box 85 et (.agg [(.dat (.list bx)),(.own .str 6),(.own (.int .i64) 7),(.own eJ 8),(.dat (.list dw))]),.arr 39 ac false,.arr 9 .str true,.arr 3 (.int .i64) false,.arr 95 eJ false]⟩ 2 ⟨[(5,.ptr 0 dk 0 []),(7,.ptr 1 ac 0 []),(9,.ptr 2 mY 0 []),(10,.ptr 3 fN 0 []),(14,.ptr 4 et 0 [])],[.box 32 dk (.dat dk),.box 39 ac (.dat ac),.box 26 mY (.dat mY),.box 114 fN (.agg [oU,aK]),.box 85 et (.agg [(.dat (.list bx)),(.own .str 5),(.own (.int .i64) 6),(.own eJ 7),(.dat (.list dw))]),.arr 9 .str true,.arr 3 (.int .i64) false,.arr 95 eJ false]⟩
def yH:bK:=dY ⟨[(10,.ptr 0 fN 0 []),(14,.ptr 1 et 0 []),(22,.ptr 2 kH 0 []),(23,.ptr 3 dk 0 []),(24,aK)],[.box 114 fN (.agg [oU,aK]),.box 85 et (.agg [(.dat (.list bx)),(.own .str 4),(.own (.int .i64) 5),(.own eJ 6),(.own dw 7)]),.box 149 kH (.dat kH),.box 32 dk (.dat dk),.arr 9 .str true,.arr 3 (.int .i64) true,.arr 95 eJ true,.arr 41 dw true]⟩ 4 ⟨[(10,.ptr 0 fN 0 []),(22,.ptr 1 kH 0 []),(23,.ptr 2 dk 0 [])],[.box 114 fN (.agg [oU,aK]),.box 149 kH (.dat kH),.box 32 dk (.dat dk)]⟩
def LH:aY:=⟨50,yX,yZ,Fx⟩
def rq (dv:(bB×aj×aL×(List bo)×fg×H)->O (fh×H)):bn:=cr [XU,Nk,Xf,Nl,Z3,MM,(yE dv),Z4,Wv] [(0,yF.go (JN dv) 0),(2,yG.go (JO dv) 0),(4,yH.go (JP dv) 0)] 0
theorem ana (dv:(bB×aj×aL×(List bo)×fg×H)->O (fh×H)) (d:yF.S.ty.den): @Eq (O (yF.S.ty.den⊕yF.Out)) (yF.body (rq dv) (hk (b4 Tryz.f50) 0) 0 d).val (yU dv d):=aC
theorem anb (dv:(bB×aj×aL×(List bo)×fg×H)->O (fh×H)) (d:yG.S.ty.den): @Eq (O (yG.S.ty.den⊕yG.Out)) (yG.body (rq dv) (hk (b4 Tryz.f50) 1) 2 d).val (vS dv d):=aC
theorem anc (dv:(bB×aj×aL×(List bo)×fg×H)->O (fh×H)) (d:yH.S.ty.den): @Eq (O (yH.S.ty.den⊕yH.Out)) (yH.body (rq dv) (hk (b4 Tryz.f50) 2) 4 d).val (yV dv d):=aC
theorem aoV (dv:(bB×aj×aL×(List bo)×fg×H)->O (fh×H)) (d:yX.ty.den): @Eq (O yZ.ty.den) (l9 (rq dv) Tryz.f50 yX yZ d).val (vM dv d):=aC
theorem JX (dv:(bB×aj×aL×(List bo)×fg×H)->O (fh×H)) (oN:cz bj (yE dv)):cc bj (rq dv).Γ:=bV ⟨aoS,aak,aoK,aax,aq8,Ze,(oN.x aC),aq9,ant,ai⟩
theorem anP (dv:(bB×aj×aL×(List bo)×fg×H)->O (fh×H)) (oN:cz bj (yE dv)):hl bj (rq dv) Tryz.f50.ntmps 0 (hk (b4 Tryz.f50) 0):=
  rP eA (JX dv oN) eO (ax:=yF) (f:=JN dv) (b:=yU dv) (m:=[]) (λ_=>rfl) aC aC ai aC (eS _ aC) (ana dv)
theorem anQ (dv:(bB×aj×aL×(List bo)×fg×H)->O (fh×H)) (oN:cz bj (yE dv)):hl bj (rq dv) Tryz.f50.ntmps 2 (hk (b4 Tryz.f50) 1):=
  rP eA (JX dv oN) eO (ax:=yG) (f:=JO dv) (b:=vS dv) (m:=[]) (λ_=>rfl) aC aC ai aC (eS _ aC) (anb dv)
theorem anR (dv:(bB×aj×aL×(List bo)×fg×H)->O (fh×H)) (oN:cz bj (yE dv)):hl bj (rq dv) Tryz.f50.ntmps 4 (hk (b4 Tryz.f50) 2):=
  rP eA (JX dv oN) eO (ax:=yH) (f:=JP dv) (b:=yV dv) (m:=[]) (λ_=>rfl) aC aC ai aC (eS _ aC) (anc dv)
theorem amp (dv:(bB×aj×aL×(List bo)×fg×H)->O (fh×H)) (oN:cz bj (yE dv)):cz bj ⟨50,yX,yZ,vM dv⟩:=
  rO (F:=(rq dv)) eA (JX dv oN) eO (fn:=Tryz.f50) (m:=dt Tryz.f50 [0,2,4]) Tryz.func50 aC aC aC ⟨anP dv oN,anQ dv oN,anR dv oN,ai⟩ (eS _ aC) aC (aoV dv)
theorem air: ∀n,cz bj ⟨50,yX,yZ,yL n⟩
  |0=>AR
  |n+1=>amp _ (air n)
theorem aoW:cz bj LH:=air jf
theorem aoX:bc LH:=(aoW).x aC
def YW:aY:=⟨13,⟨[(0,.dat mY)],[]⟩,E1,FR⟩
theorem aqf:bc YW:=cf (l:=[YS,LH]) Tryz.func13 ⟨apZ,aoX,ai⟩
def AK:aY:=⟨326,⟨[(0,aK),(1,aK),(2,aK)],[]⟩,eC,qG⟩
theorem F5:bc AK:=cf (l:=[]) Tryz.func326 ai
def Jt:aY:=⟨322,gw,eC,Mp⟩
theorem Wm:bc Jt:=cf (l:=[AK]) Tryz.func322 ⟨F5,ai⟩
def ut:aY:=⟨320,gw,gw,Nb⟩
theorem Xt:bc ut:=cf (l:=[]) Tryz.func320 ai
def Jo:aY:=⟨335,gw,eC,Mk⟩
theorem Wh:bc Jo:=cf (l:=[AK]) Tryz.func335 ⟨F5,ai⟩
def JB:aY:=⟨333,gw,gw,M9⟩
theorem Xs:bc JB:=cf (l:=[]) Tryz.func333 ai
def NC:aY:=⟨349,oT,eC,AW⟩
theorem aaM:bc NC:=cf (l:=[rA]) Tryz.func349 ⟨tn,ai⟩
def Jc:aY:=⟨346,gw,eC,Lx⟩
theorem VM:bc Jc:=cf (l:=[NC]) Tryz.func346 ⟨aaM,ai⟩
def Jp:aY:=⟨344,gw,gw,Ml⟩
theorem Wi:bc Jp:=cf (l:=[]) Tryz.func344 ai
def Ni:aY:=⟨357,jA,eC,AH⟩
theorem aac:bc Ni:=cf (l:=[rg,AK]) Tryz.func357 ⟨aid,F5,ai⟩
def Jf:aY:=⟨353,gw,eC,Lz⟩
theorem VP:bc Jf:=cf (l:=[Ni]) Tryz.func353 ⟨aac,ai⟩
def Jq:aY:=⟨351,gw,gw,Mm⟩
theorem Wj:bc Jq:=cf (l:=[]) Tryz.func351 ai
def I4:aY:=⟨363,gw,eC,TJ⟩
theorem Vr:bc I4:=cf (l:=[Ni]) Tryz.func363 ⟨aac,ai⟩
def I8:aY:=⟨361,gw,gw,Lt⟩
theorem VI:bc I8:=cf (l:=[]) Tryz.func361 ai
def I7:aY:=⟨369,gw,eC,TO⟩
theorem Vx:bc I7:=cf (l:=[AK,NC]) Tryz.func369 ⟨F5,aaM,ai⟩
def Jh:aY:=⟨367,gw,gw,LB⟩
theorem VR:bc Jh:=cf (l:=[]) Tryz.func367 ai
def Nh:aY:=⟨58,gw,eC,oK⟩
noncomputable def aqy:bn:=ma hC (Fj hC (hP [Jt,ut,Jo,JB,Jc,Jp,Jf,Jq,I4,I8,I7,Jh]) 110 Tryz.f110 (hP [Jt,ut,Jo,JB,Jc,Jp,Jf,Jq,I4,I8,I7,Jh])) (λk st=>.fail) 0
theorem aab:bc Nh:=cy (F:=aqy) (fn:=Tryz.f58) (m:=[]) (FF aC (F4 (F:=(ma hC (hP [Jt,ut,Jo,JB,Jc,Jp,Jf,Jq,I4,I8,I7,Jh]) (λ_ _=>.fail) 0)) eA (bV ⟨Wm,Xt,Wh,Xs,VM,Wi,VP,Wj,Vr,VI,Vx,VR,ai⟩) eO Tryz.func110 aC aC aC) (bV ⟨Wm,Xt,Wh,Xs,VM,Wi,VP,Wj,Vr,VI,Vx,VR,ai⟩)) Tryz.func58 ai
def xW:aY:=⟨171,uk,kD,va⟩
def ayv:bn:=ma hC (hP []) (λ_ _=>.fail) 0
theorem ayB:cz bj xW:=
  abT (F:=ayv) eA (bV ai) eO (fn:=Tryz.f171) Tryz.func171 aC aC aC aC aC (λd=>(decide ((List.length ([]:aj)+List.length d.1)*40<=am))) (λd=>(d.1,())) (λd=>([],())) (λd=>List.length d.1) (λd=>rfl) (λd=>aC) (λd=>aC) (λd h=>congrArg (λl=>(l,())) (List.eq_nil_of_length_eq_zero h).symm)
theorem HJ:bc xW:=ayB.x aC
def Sh:aY:=⟨327,⟨[(0,.own bx 0),(1,aK),(2,.own bx 1)],[.arr 58 bx false,.arr 58 bx false]⟩,⟨[(0,.own bx 2)],[.gone,.arr 58 bx false,.arr 58 bx false]⟩,HX⟩
def agZ:bn:=ma hC (Aj 328 (IW bx) (hP [])) (λ_ _=>.fail) 2
theorem ayk:cc bj agZ.Γ:=abo (ak8 eA (T:=64) (dX:=4) (t:=bx) aC aC aC Tryz.func328 aC aC aC aC) (bV ai)
theorem ayl:cz bj Sh:=
  arU (F:=agZ) (e:=58) (t:=bx) (bytes:=40) eA ayk eO aC aC (fn:=Tryz.f327) Tryz.func327 aC aC aC aC aC rfl (λi xs aZ=>aC) (λi xs z aZ=>aC)
theorem aym:bc Sh:=ayl.x aC
def aan:aY:=⟨325,⟨[(0,.dat (.list bx)),(1,.dat bx)],[]⟩,kD,Gf⟩
theorem aqC:bc aan:=cf (l:=[JI,xW,Sh]) Tryz.func325 ⟨L8,HJ,aym,ai⟩
def Jr:aY:=⟨319,wP,kD,Mn⟩
theorem Wk:bc Jr:=cf (l:=[aan]) Tryz.func319 ⟨aqC,ai⟩
def TD:aY:=⟨340,EP,⟨[(0,aK),(1,aK)],[]⟩,Ed⟩
theorem W8:bc TD:=cf (l:=[rA,JI]) Tryz.func340 ⟨tn,L8,ai⟩
def ag9:aY:=⟨342,⟨[(0,.nils 58 bx),(1,aK)],[]⟩,kD,H4⟩
theorem ayL:bc ag9:=cf (l:=[]) Tryz.func342 ai
def agD:bK:=dY ⟨[(0,.dat (.list (.list bx))),(3,aK),(9,.dat (.list (.list bx))),(10,aK),(11,aK)],[]⟩ 0 ⟨[(0,.dat (.list (.list bx))),(3,aK)],[]⟩
def agE:bK:=dY ⟨[(6,.own bx 0),(25,.dat (.list (.list bx))),(26,aK),(27,aK)],oh⟩ 2 ⟨[(6,.own bx 0)],oh⟩
def agW:aY:=⟨341,⟨[(0,.dat (.list (.list bx)))],[]⟩,kD,HW⟩
def HE:bn:=cr [ag9] [(0,agD.go i7 0),(2,agE.go i8 0)] 0
theorem i6:cc bj (HE).Γ:=bV ⟨ayL,ai⟩
theorem ax5:cM HE Tryz.f341 0 0:=cX (ax:=agD) (b:=qD) (m:=[]) i6 ai
theorem ax6:cM HE Tryz.f341 2 1:=cX (ax:=agE) (b:=qQ) (m:=[]) i6 ai
theorem ayj:bc agW:=cy (F:=HE) (fn:=Tryz.f341) (m:=dt Tryz.f341 [0,2]) i6 Tryz.func341 ⟨ax5,ax6,ai⟩
def DL:aY:=⟨339,EP,kD,tO⟩
theorem Kd:bc DL:=cf (l:=[TD,agW]) Tryz.func339 ⟨W8,ayj,ai⟩
end D
open Go Go.X Go.Proofs D
namespace D
def Z6:aY:=⟨338,KS,kD,OQ⟩
theorem aqB:bc Z6:=cf (l:=[Em,DL]) Tryz.func338 ⟨Fz,Kd,ai⟩
def Jy:aY:=⟨332,wP,kD,Mi⟩
theorem Wf:bc Jy:=cf (l:=[Z6]) Tryz.func332 ⟨aqB,ai⟩
def Ja:aY:=⟨343,wP,kD,Lv⟩
theorem VK:bc Ja:=cf (l:=[DL]) Tryz.func343 ⟨Kd,ai⟩
def XY:aY:=⟨360,EP,⟨[(0,.clip bx)],[]⟩,FB⟩
theorem apE:bc XY:=cf (l:=[TD]) Tryz.func360 ⟨W8,ai⟩
def X3:bK:=dY ⟨[(1,c4),(2,c4),(7,.own bx 0),(15,aK),(16,aK)],oh⟩ 0 ⟨[(7,.own bx 0)],oh⟩
def ZU:aY:=⟨358,⟨[(0,.dat (.list bx)),(1,c4),(2,c4)],[]⟩,kD,F6⟩
def Np:bn:=cr [pX,JZ,xW,XY] [(0,X3.go Na 0)] 0
theorem aad:cc bj (Np).Γ:=bV ⟨rz,adc,HJ,apE,ai⟩
theorem apr:cM Np Tryz.f358 0 0:=cX (ax:=X3) (b:=zd) (m:=[]) aad ai
theorem aqv:bc ZU:=cy (F:=Np) (fn:=Tryz.f358) (m:=dt Tryz.f358 [0]) aad Tryz.func358 ⟨apr,ai⟩
def Wb:bK:=dY ⟨[(0,.dat (.list bx)),(1,.dat (.list bx)),(5,.own bx 0)],oh⟩ 0 ⟨[(0,.dat (.list bx)),(1,.dat (.list bx)),(5,.own bx 0)],oh⟩
def XZ:aY:=⟨39,Uv,kD,FC⟩
def LW:bn:=cr [] [(0,Wb.go L6 0)] 0
theorem Yf:cc bj (LW).Γ:=bV ai
theorem anY:cM LW Tryz.f39 0 0:=cX (ax:=Wb) (b:=yW) (m:=[]) Yf ai
theorem apF:bc XZ:=cy (F:=LW) (fn:=Tryz.f39) (m:=dt Tryz.f39 [0]) Yf Tryz.func39 ⟨anY,ai⟩
def Dg:aY:=⟨356,wP,kD,Ds⟩
theorem Tb:bc Dg:=cf (l:=[pX,DL,ZU,XZ]) Tryz.func356 ⟨rz,Kd,aqv,apF,ai⟩
def Jd:aY:=⟨350,wP,kD,JK⟩
theorem VN:bc Jd:=cf (l:=[pX,DL,Dg]) Tryz.func350 ⟨rz,Kd,Tb,ai⟩
def ah7:bK:=dY ⟨[(2,.ptr 0 dw 0 []),(5,.own bx 1),(10,aK),(11,aK)],[.box 215 dw (.dat dw),.arr 58 bx false]⟩ 0 ⟨[(5,.own bx 0)],oh⟩
def pm:aY:=⟨366,wP,kD,TM⟩
def S9:bn:=cr [rc,xW] [(0,ah7.go Tc 0)] 0
theorem Vu:cc bj (S9).Γ:=bV ⟨zs,HJ,ai⟩
theorem ame:cM S9 Tryz.f366 0 0:=cX (ax:=ah7) (b:=Dd) (m:=[]) Vu ai
theorem Vv:bc pm:=cy (F:=S9) (fn:=Tryz.f366) (m:=dt Tryz.f366 [0]) Vu Tryz.func366 ⟨ame,ai⟩
def Ng:aY:=⟨61,⟨[(0,.dat (.list bx)),(1,.dat dw)],[]⟩,uk,qk⟩
noncomputable def aqw:bn:=ma hC (Fj hC (hP [Jr,Jy,Ja,Dg,Jd,pm]) 110 Tryz.f110 (hP [Jr,Jy,Ja,Dg,Jd,pm])) (λk st=>.fail) 0
theorem aaa:bc Ng:=cy (F:=aqw) (fn:=Tryz.f61) (m:=[]) (FF aC (F4 (F:=(ma hC (hP [Jr,Jy,Ja,Dg,Jd,pm]) (λ_ _=>.fail) 0)) eA (bV ⟨Wk,Wf,VK,Tb,VN,Vv,ai⟩) eO Tryz.func110 aC aC aC) (bV ⟨Wk,Wf,VK,Tb,VN,Vv,ai⟩)) Tryz.func61 ai
def X4:bK:=dY ⟨[(4,.ptr 0 dk 0 []),(6,.ptr 1 dk 0 []),(7,.own (.int .i64) 2)],[.box 32 dk oU,.box 32 dk (.agg [(.own iB 3)]),.arr 3 (.int .i64) false,.arr 87 iB false]⟩ 0 ⟨[(4,.ptr 0 dk 0 []),(6,.ptr 1 dk 0 [])],zT⟩
def ZW:aY:=⟨64,pF,pF,nb⟩
def Nq:bn:=cr [wa,Kf] [(0,X4.go Kk 0)] 0
theorem aag:cc bj (Nq).Γ:=bV ⟨zf,My,ai⟩
theorem apR:cM Nq Tryz.f64 0 0:=cX (ax:=X4) (b:=pj) (m:=[]) aag ai
theorem aqZ:bc ZW:=cy (F:=Nq) (fn:=Tryz.f64) (m:=dt Tryz.f64 [0]) aag Tryz.func64 ⟨apR,ai⟩
def ahf:aY:=⟨62,⟨[(0,.dat (.list dw))],[]⟩,⟨[(0,.clip dw)],[]⟩,IG⟩
theorem ayW:bc ahf:=cf (l:=[]) Tryz.func62 ai
def Eo:Shape:=⟨[(0,.dat ht),(1,.dat dw)],[]⟩
def Er:Shape:=⟨[(0,.dat ht),(1,aK)],[]⟩
def NP:aY:=⟨15,Eo,Er,un⟩
def aqM:bn:=oe [tv,tp,ND,Nh,Ng,ZW,ahf]
end D
