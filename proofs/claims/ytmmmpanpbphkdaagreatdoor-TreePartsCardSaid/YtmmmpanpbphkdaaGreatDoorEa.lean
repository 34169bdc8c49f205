import Derived.Test.YtmmmpanpbphkdaaGreatDoorL
import Derived.Test.YtmmmpanpbphkdaaGreatDoorD
import Derived.Test.YtmmmpanpbphkdaaGreatDoorChecked
set_option linter.unusedVariables false
set_option maxRecDepth 100000
open Go Go.X Go.Proofs D
namespace D
abbrev c7:b4:=.dat .bool
abbrev cu:b4:=.dat .str
abbrev aK:b4:=.dat (.int .i64)
abbrev cb:List dm:=[.arr 39 ac false]
abbrev p1:b4:=.agg [c7,c7,(.agg [cu,cu,aK]),cu,c7,aK]
abbrev ih:aD:=.pair (.int .u8) (.pair (.int .u8) .unit)
abbrev dG:Shape:=⟨[(0,c7)],[]⟩
abbrev e9:Shape:=⟨[(0,.dat cQ)],[]⟩
abbrev kX:b4:=.agg [(.agg [aK,aK]),(.agg [aK,aK])]
abbrev oD:List dm:=[.box 132 .opq (.fn 183 [] [(.ptr 1 ac 0 [])]),.box 39 ac (.dat ac)]
abbrev hT:Shape:=⟨[(0,cu),(1,cu)],[]⟩
abbrev xo:List dm:=[.loop 1012800 [(5,.ptr 2 ik 0 []),(4,.ptr 3 ik 0 [])],.box 83 (.list cQ) (.dat (.list cQ)),.box 190 ik p1,.box 190 ik p1]
abbrev fM:Shape:=⟨[(0,cu)],[]⟩
abbrev oE:List (Nat×b4):=[(0,.own ac 0),(1,aK),(4,.fn 236 [] []),(12,aK),(13,aK)]
abbrev mX:b4:=.agg [(.dat (.list hV))]
abbrev B3:List dm:=[.loop 1016800 [(5,.ptr 2 (.list ac) 0 [])],.box 83 (.list cQ) (.dat (.list cQ)),.box 62 (.list ac) (.own ac 4),.gone,.arr 39 ac false]
abbrev hd:Shape:=⟨[(0,aK)],[]⟩
abbrev p2:List dm:=[.arr 58 bd false,.box 62 (.list ac) (.dat (.list ac))]
abbrev ij:List dm:=[.box 39 ac (.dat ac)]
abbrev xp:List (Nat×b4):=[(0,.own ac 0),(1,aK),(2,aK),(3,aK),(4,.fn 236 [] []),(10,c7),(11,c7)]
abbrev ui:Shape:=⟨[(0,.ptr 0 ik 0 []),(1,.dat cQ)],[.box 190 ik p1]⟩
abbrev xq:List (Nat×b4):=[(0,.own ac 0),(1,aK),(2,aK),(3,.fn 236 [] []),(9,aK),(10,aK)]
abbrev h7:List (Nat×b4):=[(0,.own ac 0)]
abbrev xr:List dm:=[.box 32 c8 mX,.box 32 c8 (.agg [(.own hV 2)]),.arr 87 hV false]
abbrev Qn:Shape:=⟨[(4,.ptr 0 bd 0 []),(5,.ptr 1 .bool 0 []),(6,.ptr 2 (.int .i64) 0 []),(7,aK),(1000000000,.dfr 129 [(.ptr 2 (.int .i64) 0 [])] [(.ptr 0 bd 0 []),(.ptr 1 .bool 0 [])] ik)],[.box 58 bd (.dat bd),.box 4 .bool c7,.box 3 (.int .i64) aK]⟩
abbrev ud:List (Nat×b4):=[(0,.own ac 0),(1,aK),(2,aK),(3,.fn 236 [] [])]
abbrev xl:List (Nat×b4):=[(0,.own ac 0),(1,aK),(4,.fn 236 [] []),(11,aK),(12,aK)]
abbrev kW:b4:=.agg [(.dat c8),aK]
abbrev Hi:Shape:=⟨[],[.loop 1013600 [(12,.ptr 5 (.list bd) 0 [])],.box 141 .opq (.ptr 6 eR 0 []),.box 3 (.int .i64) aK,.box 39 ac (.dat ac),.box 62 (.list ac) (.dat (.list ac)),.box 64 (.list bd) (.own bd 8),.box 143 eR kW,.gone,.arr 58 bd false]⟩
abbrev Hj:Shape:=⟨[],[.loop 1002700 [(7,.ptr 5 (.list bd) 0 [])],.box 141 .opq (.ptr 6 eR 0 []),.box 3 (.int .i64) aK,.box 39 ac (.dat ac),.box 62 (.list ac) (.dat (.list ac)),.box 64 (.list bd) (.own bd 7),.box 143 eR kW,.arr 58 bd false]⟩
abbrev BX:List dm:=[.box 32 c8 (.dat c8),.box 85 dE (.dat dE),.box 149 iY (.agg [mX,aK,aK])]
abbrev rW:List dm:=[.arr 39 ac false,.box 39 ac (.dat ac)]
abbrev ue:Shape:=⟨[(0,.dat cQ),(1,.dat (.list bd))],[]⟩
abbrev rX:List dm:=[.arr 39 ac true,.box 39 ac (.dat ac)]
abbrev mW:Shape:=⟨[(0,.dat ac)],[]⟩
abbrev pZ:Shape:=⟨[(0,.dat c8),(1,aK)],[]⟩
abbrev p0:Shape:=⟨[(0,.dat (.list bd))],[]⟩
abbrev uf:Shape:=⟨[(0,cu),(1,.dat (.int .u8))],[]⟩
abbrev ug:List dm:=[.arr 39 ac false,.box 3 (.int .i64) aK]
abbrev BY:b4:=.agg [cu,aK,aK,cu]
abbrev rY:Shape:=⟨[(0,.dat (.list ac))],[]⟩
abbrev BZ:List (Nat×b4):=[(0,.own ac 0),(1,aK),(2,aK),(3,aK),(4,.fn 236 [] [])]
abbrev B0:List dm:=[.box 204 hv (.agg [aK,aK]),.box 204 hv (.agg [aK,aK])]
abbrev uh:Shape:=⟨[(0,c7)],[.box 190 ik p1]⟩
abbrev oB:List dm:=[.box 58 bd (.dat bd)]
abbrev mg:List dm:=[.arr 58 bd false]
abbrev iU:Shape:=⟨[(0,.own bd 0)],mg⟩
abbrev xm:List dm:=[.box 39 ac (.dat ac),.arr 39 ac false]
abbrev xn:Shape:=⟨[(0,.dat ac),(1,.dat ac)],[]⟩
abbrev B1:Shape:=⟨[(0,.dat (.list bd)),(1,.dat ac)],[]⟩
abbrev oC:Shape:=⟨[(2,c7)],[]⟩
abbrev rZ:Shape:=⟨[(0,.dat hv)],[]⟩
abbrev B2:List dm:=[.box 85 dE (.dat dE),.box 39 ac (.dat ac)]
abbrev Qk:Shape:=⟨[(0,.dat (.list ac)),(5,.own ac 0),(12,.own ac 1),(13,aK),(14,aK)],[.arr 39 ac false,.arr 39 ac false]⟩
abbrev Ql:Shape:=⟨[(0,cu),(2,.ptr 0 ac 0 []),(3,.own (.int .u8) 1)],[.box 39 ac (.agg [cu,cu]),.arr 5 (.int .u8) false]⟩
abbrev Hh:List dm:=[.box 85 dE (.dat dE),.box 95 dK kX,.box 95 dK (.dat dK)]
abbrev Qm:List dm:=[.box 32 c8 (.dat c8),.box 39 ac (.dat ac),.box 26 lb (.dat lb),.box 114 eR (.agg [mX,aK]),.arr 9 .str false]
abbrev BV:List dm:=[.box 245 fX (.dat fX),.box 245 fX BY]
abbrev ub:Shape:=⟨[(0,.dat dK)],[]⟩
abbrev BW:List dm:=[.box 269 Gd (.agg [(.agg [cu]),BY])]
abbrev xk:Shape:=⟨[(2,cu),(3,aK)],[]⟩
abbrev uc:List dm:=[.box 245 fX (.dat fX)]
abbrev rV:List dm:=[.arr 9 .str false]
abbrev r0:aD:=.pair (.int .u8) ih
abbrev kh:aD:=.pair (.int .u8) (.pair (.int .u8) (.pair (.int .u8) r0))
abbrev B4:List dm:=[.box 28 kh (.dat kh),.box 41 cQ (.agg [aK,cu,cu,(.agg [cu,cu]),cu,cu,aK]),.box 39 ac (.dat ac)]
abbrev QE:List (Nat×b4):=[(0,.own ac 0),(1,aK),(2,aK),(3,aK),(4,.fn 236 [] []),(10,c7),(11,c7),(12,aK),(13,aK)]
abbrev B8:Shape:=⟨[(0,.dat (.int .u8))],[]⟩
abbrev QF:List dm:=[.loop 1012800 [(5,.ptr 1 ik 0 []),(4,.ptr 2 ik 0 [])],.box 190 ik p1,.box 190 ik p1]
abbrev QG:Shape:=⟨[(2,.ptr 0 cQ 0 [])],[.box 41 cQ (.agg [aK,cu,cu,(.dat ac),cu,cu,aK])]⟩
abbrev QH:List dm:=[.box 85 dE (.dat dE),.box 95 dK kX,.box 95 dK kX,.box 242 .opq (.fn 189 [] [])]
abbrev QI:List (Nat×b4):=[(1,.ptr 0 kh 0 []),(2,.ptr 1 cQ 0 []),(3,cu),(5,.ptr 2 ac 0 []),(6,cu),(7,cu)]
abbrev Hr:Shape:=⟨[(0,.dat (.list bd)),(1,cu)],[]⟩
abbrev QJ:List dm:=[.box 143 eR kW,.box 85 dE (.dat dE),.box 39 ac (.dat ac),.arr 39 ac false]
abbrev QK:Shape:=⟨[(0,cu),(2,.ptr 0 ac 0 []),(3,aK)],[.box 39 ac (.agg [cu,cu])]⟩
abbrev Hs:Shape:=⟨[(0,.dat dE),(1,.dat ac)],[]⟩
abbrev QL:List (Nat×b4):=[(0,.own ac 0),(1,aK),(2,aK),(3,aK),(4,.fn 236 [] []),(12,aK),(13,aK)]
abbrev B9:List (Nat×b4):=[(5,.ptr 1 (.list ac) 0 [])]
abbrev xu:Shape:=⟨[(4,c7)],[]⟩
abbrev Ca:Shape:=⟨[(0,.dat fX)],[]⟩
abbrev Cb:Shape:=⟨[(0,.dat bd)],[]⟩
abbrev Cc:Shape:=⟨[(0,.dat iq)],[]⟩
abbrev Ht:Shape:=⟨[(0,.dat (.int .u64))],[]⟩
abbrev QM:List (Nat×b4):=[(2,.ptr 0 c8 0 []),(3,.ptr 1 dE 0 []),(4,.ptr 2 iY 0 []),(6,aK)]
abbrev xv:List dm:=[.arr 41 cQ false]
abbrev QN:List dm:=[.box 32 c8 (.dat c8),.box 85 dE (.dat dE),.box 32 c8 mX]
abbrev QO:Shape:=⟨[(0,.dat (.list bd)),(1,.dat (.list bd))],[]⟩
def fV:bS:=⟨[(1,⟨.opq,0,[],8,false,true,false,[]⟩),(3,⟨(.int .i64),0,[],8,false,false,false,[]⟩),(4,⟨.bool,0,[],1,false,false,false,[]⟩),(5,⟨(.int .u8),0,[],1,false,false,false,[]⟩),(9,⟨.str,0,[],16,false,false,false,[]⟩),(20,⟨.opq,0,[],16,false,false,true,[]⟩),(21,⟨(.int .i32),0,[],4,false,false,false,[]⟩),(22,⟨(.list r0),168,[],3,false,false,false,[]⟩),(23,⟨(.list kh),28,[],6,false,false,false,[]⟩),(24,⟨(.pair (.list kh) (.pair (.list kh) (.pair (.list kh) (.pair (.list kh) .unit)))),0,[23,23,23,23],96,false,true,false,[]⟩),(26,⟨lb,0,[22,24,5],128,false,false,false,[]⟩),(28,⟨kh,0,[5,5,5,5,5,5],6,false,true,false,[]⟩),(30,⟨(.list hV),87,[],136,false,false,false,[]⟩),(32,⟨c8,0,[30],24,false,false,false,[]⟩),(34,⟨CW,0,[3,3,3],24,true,false,false,[]⟩),(36,⟨iq,0,[32,3,34],56,false,false,false,[]⟩),(39,⟨ac,0,[9,9],32,true,false,false,[]⟩),(41,⟨cQ,0,[3,9,9,39,9,9,3],112,true,false,false,[]⟩),(43,⟨(.int .i64),0,[],8,false,false,false,[]⟩),(53,⟨r0,0,[5,5,5],3,false,true,false,[]⟩),(55,⟨(.list .str),9,[],16,false,false,false,[]⟩),(58,⟨bd,0,[9,9,3],40,true,false,false,[]⟩),(60,⟨XI,0,[58,4,3,43],64,true,false,false,[]⟩),(62,⟨(.list ac),39,[],32,false,false,false,[]⟩),(64,⟨(.list bd),58,[],40,false,false,false,[]⟩),(77,⟨ih,0,[5,5],2,false,true,false,[]⟩),(81,⟨(.list (.int .i64)),3,[],8,false,false,false,[]⟩),(82,⟨(.list dK),95,[],32,false,false,false,[]⟩),(83,⟨(.list cQ),41,[],112,false,false,false,[]⟩),(85,⟨dE,0,[64,55,81,82,83],120,false,false,false,[]⟩),(87,⟨hV,0,[4,4,3,85],136,false,false,false,[]⟩),(89,⟨(.int .i16),0,[],2,false,false,false,[]⟩),(90,⟨(.pair (.int .i16) (.pair (.int .i16) (.pair (.int .i16) .unit))),0,[89,89,89],6,false,true,false,[]⟩),(93,⟨hv,0,[3,3],16,true,false,false,[]⟩),(95,⟨dK,0,[93,93],32,true,false,false,[]⟩),(100,⟨.opq,0,[],8,false,true,false,[]⟩),(108,⟨hv,0,[3,3],16,true,false,false,[]⟩),(111,⟨(.list (.list .str)),55,[],24,false,false,false,[]⟩),(112,⟨(.list (.list (.list .str))),111,[],24,false,false,false,[]⟩),(114,⟨eR,0,[32,3],32,false,false,false,[]⟩),(127,⟨.opq,0,[],8,false,true,false,[]⟩),(132,⟨.opq,0,[],8,false,true,false,[]⟩),(141,⟨.opq,0,[],8,false,false,false,[]⟩),(143,⟨eR,0,[32,43],32,false,false,false,[]⟩),(144,⟨.opq,0,[],8,false,true,false,[]⟩),(145,⟨.opq,0,[],8,false,true,false,[]⟩),(149,⟨iY,0,[32,3,43],40,false,false,false,[]⟩),(156,⟨.opq,0,[],8,false,true,false,[]⟩),(158,⟨.opq,0,[],8,false,true,false,[]⟩),(159,⟨.opq,0,[],8,false,true,false,[]⟩),(160,⟨.opq,0,[],8,false,true,false,[]⟩),(164,⟨Xx,0,[108],16,true,false,false,[]⟩),(168,⟨r0,0,[5,5,5],3,false,true,false,[]⟩),(169,⟨(.list (.int .u8)),5,[],1,false,false,false,[]⟩),(171,⟨.opq,0,[],16,false,false,true,[]⟩),(176,⟨.opq,0,[],8,false,false,false,[]⟩),(177,⟨(.list (.list cQ)),83,[],24,false,false,false,[]⟩),(183,⟨.str,0,[],16,false,false,false,[]⟩),(190,⟨ik,0,[4,4,58,9,4,3],80,true,false,false,[]⟩),(194,⟨(.list .bool),4,[],1,false,false,false,[]⟩),(195,⟨.opq,0,[],8,false,true,false,[]⟩),(204,⟨hv,0,[3,3],16,true,false,false,[]⟩),(208,⟨.opq,0,[],8,false,false,false,[]⟩),(210,⟨cQ,0,[3,9,9,39,9,9,3],112,true,false,false,[("downspout/msg.apply",319),("downspout/msg.bare",320),("downspout/msg.reads",321),("downspout/msg.valid",322),("downspout/msg.writes",324)]⟩),(211,⟨cQ,0,[3,9,9,39,9,9,3],112,true,false,false,[("downspout/msg.apply",332),("downspout/msg.bare",333),("downspout/msg.reads",334),("downspout/msg.valid",335),("downspout/msg.writes",337)]⟩),(212,⟨cQ,0,[3,9,9,39,9,9,3],112,true,false,false,[("downspout/msg.apply",343),("downspout/msg.bare",344),("downspout/msg.reads",345),("downspout/msg.valid",346),("downspout/msg.writes",348)]⟩),(213,⟨cQ,0,[3,9,9,39,9,9,3],112,true,false,false,[("downspout/msg.apply",350),("downspout/msg.bare",351),("downspout/msg.reads",352),("downspout/msg.valid",353),("downspout/msg.writes",355)]⟩),(214,⟨cQ,0,[3,9,9,39,9,9,3],112,true,false,false,[("downspout/msg.apply",356),("downspout/msg.bare",361),("downspout/msg.reads",362),("downspout/msg.valid",363),("downspout/msg.writes",365)]⟩),(215,⟨cQ,0,[3,9,9,39,9,9,3],112,true,false,false,[("downspout/msg.apply",366),("downspout/msg.bare",367),("downspout/msg.reads",368),("downspout/msg.valid",369),("downspout/msg.writes",371)]⟩),(216,⟨(.list .str),183,[],16,false,false,false,[]⟩),(218,⟨.opq,0,[],8,false,true,false,[]⟩),(223,⟨.opq,0,[],8,false,true,false,[]⟩),(224,⟨.opq,0,[],8,false,true,false,[]⟩),(226,⟨.opq,0,[],8,false,true,false,[]⟩),(227,⟨(.pair .opq (.pair .opq (.pair .opq (.pair .opq (.pair .opq (.pair .opq (.pair .opq .unit))))))),0,[226,226,226,226,226,226,226],56,false,true,false,[]⟩),(228,⟨.opq,0,[],8,false,false,false,[]⟩),(231,⟨alb,0,[9,4,4,9,4,3],56,true,false,false,[]⟩),(241,⟨.opq,0,[],8,false,false,false,[]⟩),(242,⟨.opq,0,[],8,false,true,false,[]⟩),(243,⟨.opq,0,[],8,false,true,false,[]⟩),(245,⟨fX,0,[9,3,3,9],48,true,false,false,[]⟩),(255,⟨.opq,0,[],8,false,true,false,[]⟩),(256,⟨.opq,0,[],8,false,true,false,[]⟩),(257,⟨(.int .u64),0,[],8,false,false,false,[]⟩),(260,⟨.opq,0,[],8,false,true,false,[]⟩),(264,⟨(.list hv),93,[],16,false,false,false,[]⟩),(265,⟨.opq,0,[],8,false,false,false,[]⟩),(267,⟨(.pair .str .unit),0,[9],16,true,false,false,[]⟩),(269,⟨Gd,0,[267,245],64,true,false,false,[]⟩),(276,⟨.opq,0,[],8,false,true,false,[]⟩),(286,⟨.opq,0,[],8,false,false,false,[]⟩),(291,⟨.opq,0,[],8,false,true,false,[]⟩),(294,⟨(.int .i64),0,[],8,false,false,false,[]⟩),(301,⟨(.int .u32),0,[],4,false,false,false,[]⟩),(303,⟨(.int .u64),0,[],8,false,false,false,[]⟩),(313,⟨.opq,0,[],8,false,false,false,[]⟩),(315,⟨(.int .u64),0,[],8,false,false,false,[]⟩),(319,⟨.opq,0,[],8,false,false,false,[]⟩),(326,⟨.opq,0,[],8,false,false,false,[]⟩),(333,⟨ih,0,[5,5],2,true,false,false,[]⟩),(334,⟨(.pair ih (.pair ih (.pair ih (.pair ih (.pair ih (.pair ih (.pair ih (.pair ih (.pair ih (.pair ih (.pair ih (.pair ih (.pair ih (.pair ih (.pair ih (.pair ih .unit)))))))))))))))),0,[333,333,333,333,333,333,333,333,333,333,333,333,333,333,333,333],32,false,true,false,[]⟩),(357,⟨(.list (.list bd)),64,[],24,false,false,false,[]⟩)],Q3 [(296,0),(287,0),(286,0),(235,0),(263,0),(251,0),(330,0),(185,0),(181,0),(71,0),(115,0),(329,0),(219,0),(116,0),(283,0),(267,0),(266,0),(265,0),(264,0),(262,0),(261,0),(260,0),(331,0),(233,0),(342,0),(170,0),(327,0),(113,0),(68,0),(328,0),(328,1),(327,0),(327,2),(118,0)]⟩
noncomputable instance auR:Env:=⟨fun Y=>bif Nat.beq Y 1002700 then some (iI Tryz.f27 0) else bif Nat.beq Y 1013600 then some (iI Tryz.f136 0) else bif Nat.beq Y 1016800 then some (iI Tryz.f168 0) else bif Nat.beq Y 1012800 then some (iI Tryz.f128 0) else none,fun g=>bif Nat.beq g 0 then [none,some 374,some 376,some 377,some 378,some 379,some 380] else []⟩
theorem dI:cA Tryz.prog fV:=amQ (by kernel_rfl)
theorem dS:Tryz.prog.follows .mixedOrders=true:=by kernel_rfl
def lz (l:List aS):ba:=ko fV (gi l) (fun k st=>.fail) 0
abbrev aW (E:aS):Prop:=oX Tryz.prog E
theorem nD {F:ba} {f:Nat} {S Z:Shape} {g:S.ty.den->Option Z.ty.den} {fn:Func} {m:List (Nat×Code)} (cE:bO Tryz.prog F.Γ) (aJ:Tryz.prog.funcs[f]? =some fn) (dq:mT Tryz.prog F fn.ntmps m) (aB:F.cx=fV:=by kernel_rfl) (ag:fn.body=some (bK fn):=by kernel_rfl) (cJ:lH fn S Z=true:=by kernel_rfl) (hK:dF (bK fn) 0=m:=by kernel_rfl) (cv:eb (bK fn)=false:=by kernel_rfl) (ej:F.m=S.objs.length:=by kernel_rfl) (bH: ∀s,(k5 F fn S Z s).val=g s:=by intro s;kernel_rfl):ck Tryz.prog ⟨f,S,Z,g⟩:=
  rG (F:=F) (aB▸dI) cE dS aJ ag cJ hK dq (dW _ cv) ej bH
theorem cc {F:ba} {f:Nat} {S Z:Shape} {g:S.ty.den->Option Z.ty.den} {fn:Func} {m:List (Nat×Code)} (cE:bO Tryz.prog F.Γ) (aJ:Tryz.prog.funcs[f]? =some fn) (dq:mT Tryz.prog F fn.ntmps m) (aB:F.cx=fV:=by kernel_rfl) (ag:fn.body=some (bK fn):=by kernel_rfl) (cJ:lH fn S Z=true:=by kernel_rfl) (hK:dF (bK fn) 0=m:=by kernel_rfl) (cv:eb (bK fn)=false:=by kernel_rfl) (ej:F.m=S.objs.length:=by kernel_rfl) (aw:hP f=false:=by kernel_rfl) (bH: ∀s,(k5 F fn S Z s).val=g s:=by intro s;kernel_rfl):oX Tryz.prog ⟨f,S,Z,g⟩:=
  (nD cE aJ dq aB ag cJ hK cv ej bH).x aw
theorem cz {F:ba} {nt:Nat} {L:bA} {c:Code} {k:Nat} {b:L.S.ty.den->Option (L.S.ty.den⊕L.Out)} {m:List (Nat×Code)} (cE:bO Tryz.prog F.Γ) (dq:mT Tryz.prog F nt m) (aB:F.cx=fV:=by kernel_rfl) (lY:F.Λ k=L.go (fun s=>bM b s) F.m:=by kernel_rfl) (hK:dF c k=m:=by kernel_rfl) (j3:fS nt c=true:=by kernel_rfl) (cv:eb c=false:=by kernel_rfl) (ag: ∀s,(L.body F c k s).val=b s:=by intro s;kernel_rfl):fT Tryz.prog F nt k c:=
  rH (F:=F) (f:=fun s=>bM b s) (aB▸dI) cE dS (fun _=>rfl) lY hK dq j3 (dW _ cv) ag
theorem bR {l:List aS} {f:Nat} {S Z:Shape} {g:S.ty.den->Option Z.ty.den} {fn:Func} (aJ:Tryz.prog.funcs[f]? =some fn) (ao:Lj Tryz.prog l) (ag:fn.body=some (bK fn):=by kernel_rfl) (cJ:lH fn S Z=true:=by kernel_rfl) (hK:dF (bK fn) 0=[]:=by kernel_rfl) (cv:eb (bK fn)=false:=by kernel_rfl) (ej:0=S.objs.length:=by kernel_rfl) (aw:hP f=false:=by kernel_rfl) (bH: ∀s,(k5 (lz l) fn S Z s).val=g s:=by intro s;kernel_rfl):oX Tryz.prog ⟨f,S,Z,g⟩:=
  cc (F:=lz l) (m:=[]) (bG ao) aJ trivial rfl ag cJ hK cv ej aw bH
abbrev cm (F:ba) (fn:Func) (k i:Nat):Prop:=fT Tryz.prog F fn.ntmps k (ip (bK fn) i)
def cS (fn:Func) (ks:List Nat):List (Nat×Code):=ks.zipIdx.map fun q=>(q.1,ip (bK fn) q.2)
def Re:List (Nat×(bn->DT (dv×bn)))->Nat->bn->DT (dv×bn)
  |[],_,_=>.fail
  |q::l,k,st=>bif Nat.beq k q.1 then q.2 st else Re l k st
def b9 (l:List aS) (g:List (Nat×(bn->DT (dv×bn)))) (m:Nat):ba:=ko fV (gi l) (Re g) m
def dk (S:Shape) (k:Nat) (X:Shape):bA:=⟨S,.exit k,X,.exit (80000000+k),⟨[],[]⟩⟩
def Iz:aS:=⟨162,hT,dG,tH⟩
theorem Vv:aW Iz:=bR (l:=[]) Tryz.func162 trivial
def PH:aS:=⟨120,mW,dG,ra⟩
theorem TP:aW PH:=bR (l:=[]) Tryz.func120 trivial
def Us:aS:=⟨163,⟨[],[]⟩,mW,J3⟩
theorem akp:aW Us:=bR (l:=[]) Tryz.func163 trivial
def Ur:aS:=⟨121,xn,mW,xF⟩
theorem ako:aW Ur:=bR (l:=[Iz,PH,Us]) Tryz.func121 ⟨Vv,TP,akp,trivial⟩
def Se:bA:=dk ⟨[(1,.dat (.list .str)),(2,.ptr 0 ac 0 []),(5,.own ac 1),(6,cu),(7,aK)],xm⟩ 0 ⟨[(2,.ptr 0 ac 0 []),(5,.own ac 1),(6,cu)],xm⟩
def S1:aS:=⟨119,⟨[(0,.dat ac),(1,.dat (.list .str))],[]⟩,⟨h7,cb⟩,wX⟩
def P3:ba:=b9 [Ur] [(0,Se.go HQ 0)] 0
theorem TQ:bO Tryz.prog (P3).Γ:=bG ⟨ako,trivial⟩
theorem ajb:cm P3 Tryz.f119 0 0:=cz (L:=Se) (b:=AD) (m:=[]) TQ trivial
theorem aj1:aW S1:=cc (F:=P3) (fn:=Tryz.f119) (m:=cS Tryz.f119 [0]) TQ Tryz.func119 ⟨ajb,trivial⟩
def S9:aS:=⟨77,Hs,⟨h7,cb⟩,BD⟩
theorem ajC:aW S9:=bR (l:=[S1]) Tryz.func77 ⟨aj1,trivial⟩
def Je:aS:=⟨96,⟨[(0,.dat ac),(1,cu)],[]⟩,dG,xO⟩
theorem V4:aW Je:=bR (l:=[]) Tryz.func96 trivial
def Sg:bA:=dk ⟨[(0,.dat (.list bd)),(3,.ptr 0 ac 0 []),(5,.own bd 1),(6,aK)],[.box 39 ac (.dat ac),.arr 58 bd false]⟩ 0 ⟨[(5,.own bd 0)],mg⟩
def S3:aS:=⟨37,B1,iU,Cy⟩
def P5:ba:=b9 [Je] [(0,Sg.go HS 0)] 0
theorem TS:bO Tryz.prog (P5).Γ:=bG ⟨V4,trivial⟩
theorem aje:cm P5 Tryz.f37 0 0:=cz (L:=Sg) (b:=AF) (m:=[]) TS trivial
theorem aj4:aW S3:=cc (F:=P5) (fn:=Tryz.f37) (m:=cS Tryz.f37 [0]) TS Tryz.func37 ⟨aje,trivial⟩
def GF:aS:=⟨118,pZ,dG,wl⟩
theorem Il:aW GF:=bR (l:=[]) Tryz.func118 trivial
def Pk:aS:=⟨146,⟨[(0,.dat c8)],[]⟩,⟨[(0,.agg [(.own hV 0)])],[.arr 87 hV false]⟩,Bl⟩
theorem Tu:aW Pk:=bR (l:=[]) Tryz.func146 trivial
def Tm:bA:=⟨⟨[(2,.ptr 0 c8 0 []),(3,.ptr 1 dE 0 []),(4,.ptr 2 iY 0 []),(5,aK)],BX⟩,.ret,⟨[(4,.ptr 0 iY 0 [])],[.box 149 iY (.agg [(.dat c8),aK,aK])]⟩,(.exit 0),⟨[(2,.ptr 0 c8 0 []),(3,.ptr 1 dE 0 []),(4,.ptr 2 iY 0 [])],BX⟩⟩
def Tn:bA:=dk ⟨QM,BX⟩ 2 ⟨QM,BX⟩
def To:bA:=dk ⟨[(3,.ptr 0 dE 0 []),(4,.ptr 1 iY 0 []),(6,aK),(7,.ptr 2 c8 0 []),(8,aK)],[.box 85 dE (.dat dE),.box 149 iY (.agg [mX,aK,aK]),.box 32 c8 (.agg [(.own hV 3)]),.arr 87 hV false]⟩ 4 ⟨[(4,.ptr 0 iY 0 []),(6,aK),(7,.ptr 1 c8 0 [])],[.box 149 iY (.agg [mX,aK,aK]),.box 32 c8 (.agg [(.own hV 2)]),.arr 87 hV false]⟩
def Jg:aS:=⟨88,⟨[(0,.dat c8),(1,.dat dE)],[]⟩,⟨[(0,.dat iY)],[]⟩,rI⟩
def Bb:ba:=b9 [GF,Pk] [(0,Tm.go I7 0),(2,Tn.go I8 0),(4,To.go I9 0)] 0
theorem GV:bO Tryz.prog (Bb).Γ:=bG ⟨Il,Tu,trivial⟩
theorem akC:cm Bb Tryz.f88 0 0:=cz (L:=Tm) (b:=Bi) (m:=[]) GV trivial
theorem akD:cm Bb Tryz.f88 2 1:=cz (L:=Tn) (b:=Bj) (m:=[]) GV trivial
theorem akE:cm Bb Tryz.f88 4 2:=cz (L:=To) (b:=Bk) (m:=[]) GV trivial
theorem V8:aW Jg:=cc (F:=Bb) (fn:=Tryz.f88) (m:=cS Tryz.f88 [0,2,4]) GV Tryz.func88 ⟨akC,akD,akE,trivial⟩
def Ux:aS:=⟨157,⟨[(0,.dat dK),(1,.dat dK)],[]⟩,ub,J4⟩
theorem akz:aW Ux:=bR (l:=[]) Tryz.func157 trivial
def S0:aS:=⟨245,⟨[(0,cu),(1,aK)],[]⟩,Ca,WO⟩
theorem ajX:aW S0:=bR (l:=[]) Tryz.func245 trivial
def Sb:bA:=dk ⟨[(0,cu),(4,.own .str 0),(5,cu),(6,aK)],rV⟩ 0 ⟨[(4,.own .str 0),(5,cu)],rV⟩
def SZ:aS:=⟨247,fM,⟨[(0,.own .str 0),(1,c7)],rV⟩,WN⟩
def PR:ba:=b9 [] [(0,Sb.go TD 0)] 0
theorem TC:bO Tryz.prog (PR).Γ:=bG trivial
theorem ai6:cm PR Tryz.f247 0 0:=cz (L:=Sb) (b:=TB) (m:=[]) TC trivial
theorem ajW:aW SZ:=cc (F:=PR) (fn:=Tryz.f247) (m:=cS Tryz.f247 [0]) TC Tryz.func247 ⟨ai6,trivial⟩
def SC:bA:=⟨⟨[(0,cu),(3,aK)],[]⟩,.ret,oC,(.exit 0),⟨[],[]⟩⟩
def Iy:aS:=⟨248,fM,dG,J2⟩
def II:ba:=b9 [] [(0,SC.go Vt 0)] 0
theorem Vs:bO Tryz.prog (II).Γ:=bG trivial
theorem ajV:cm II Tryz.f248 0 0:=cz (L:=SC) (b:=Vr) (m:=[]) Vs trivial
theorem Vu:aW Iy:=cc (F:=II) (fn:=Tryz.f248) (m:=cS Tryz.f248 [0]) Vs Tryz.func248 ⟨ajV,trivial⟩
def Sd:bA:=⟨⟨[(3,.own .str 0),(4,c7),(5,aK)],rV⟩,.ret,oC,(.exit 0),xu⟩
def PG:aS:=⟨228,fM,dG,BB⟩
def P2:ba:=b9 [SZ,Iy] [(0,Sd.go TK 0)] 0
theorem TJ:bO Tryz.prog (P2).Γ:=bG ⟨ajW,Vu,trivial⟩
theorem ai8:cm P2 Tryz.f228 0 0:=cz (L:=Sd) (b:=TI) (m:=[]) TJ trivial
theorem TL:aW PG:=cc (F:=P2) (fn:=Tryz.f228) (m:=cS Tryz.f228 [0]) TJ Tryz.func228 ⟨ai8,trivial⟩
def SB:bA:=dk ⟨[(0,aK),(3,cu),(4,aK)],[]⟩ 0 ⟨[(3,cu)],[]⟩
def Uq:aS:=⟨249,hd,fM,XG⟩
def abs:ba:=b9 [] [(0,SB.go Vq 0)] 0
theorem Vo:bO Tryz.prog (abs).Γ:=bG trivial
theorem ajU:cm abs Tryz.f249 0 0:=cz (L:=SB) (b:=Vn) (m:=[]) Vo trivial
theorem akn:aW Uq:=cc (F:=abs) (fn:=Tryz.f249) (m:=cS Tryz.f249 [0]) Vo Tryz.func249 ⟨ajU,trivial⟩
def Rg:bA:=dk ⟨[(0,cu),(3,aK),(4,aK)],[]⟩ 0 ⟨[(0,cu),(3,aK)],[]⟩
def Pj:aS:=⟨229,fM,dG,G5⟩
def Pn:ba:=b9 [Uq] [(0,Rg.go SV 0)] 0
theorem SU:bO Tryz.prog (Pn).Γ:=bG ⟨akn,trivial⟩
theorem aia:cm Pn Tryz.f229 0 0:=cz (L:=Rg) (b:=SS) (m:=[]) SU trivial
theorem SW:aW Pj:=cc (F:=Pn) (fn:=Tryz.f229) (m:=cS Tryz.f229 [0]) SU Tryz.func229 ⟨aia,trivial⟩
def qu:bA:=⟨⟨[(1,.ptr 0 fX 0 []),(32,c7)],uc⟩,.nrm,⟨[(1,.ptr 0 fX 0 [])],uc⟩,.ret,oC⟩
def qE:bA:=⟨⟨[(1,.ptr 0 fX 0 [])],uc⟩,.ret,oC,(.exit 90000010),⟨[],[]⟩⟩
def qH:bA:=⟨⟨[(1,.ptr 0 fX 0 [])],uc⟩,.ret,oC,(.exit 90000003),⟨[],[]⟩⟩
def td:aS:=⟨259,Ca,dG,WQ⟩
def mr:ba:=lz [Iy,PG,Pj]
def qX:jU:=[(100002,qu.go jW 0),(10,qE.go wk 0),(3,qH.go jX 0)]
theorem agK (s:qu.S.ty.den): @Eq (Option qu.Out) ((fo mr qX (dZ (bK Tryz.f259) 100002) 0 (qu.S.enc s)).bind fun (e,st)=>qu.out (mr).m e st).val (jW s):=by kernel_rfl
theorem ahP (s:qE.S.ty.den): @Eq (Option qE.Out) ((fo mr qX (dZ (bK Tryz.f259) 10) 0 (qE.S.enc s)).bind fun (e,st)=>qE.out (mr).m e st).val (wk s):=by kernel_rfl
theorem ahV (s:qH.S.ty.den): @Eq (Option qH.Out) ((fo mr qX (dZ (bK Tryz.f259) 3) 0 (qH.S.enc s)).bind fun (e,st)=>qH.out (mr).m e st).val (jX s):=by kernel_rfl
theorem ajY (s:(td).S.ty.den):(ql mr qX Tryz.f259 (td).S (td).Z s).val=(td).g s:=by kernel_rfl
theorem Gv:bO Tryz.prog (mr).Γ:=bG ⟨Vu,TL,SW,trivial⟩
theorem agL:h6 Tryz.prog mr Tryz.f259.ntmps (qu.go jW 0) (dZ (bK Tryz.f259) 100002):=
  j7 dI Gv dS (L:=qu) (k:=0) (f:=jW) (C:=qX) (l:=[]) (m:=[]) (by kernel_rfl) trivial (by kernel_rfl) trivial (by kernel_rfl) (dW _ (by kernel_rfl)) agK
theorem ahQ:h6 Tryz.prog mr Tryz.f259.ntmps (qE.go wk 0) (dZ (bK Tryz.f259) 10):=
  j7 dI Gv dS (L:=qE) (k:=0) (f:=wk) (C:=qX) (l:=[]) (m:=[]) (by kernel_rfl) trivial (by kernel_rfl) trivial (by kernel_rfl) (dW _ (by kernel_rfl)) ahP
theorem ahW:h6 Tryz.prog mr Tryz.f259.ntmps (qH.go jX 0) (dZ (bK Tryz.f259) 3):=
  j7 dI Gv dS (L:=qH) (k:=0) (f:=jX) (C:=qX) (l:=[]) (m:=[(qE.go wk 0,dZ (bK Tryz.f259) 10)]) (by kernel_rfl) trivial (by kernel_rfl) ⟨ahQ,trivial⟩ (by kernel_rfl) (dW _ (by kernel_rfl)) ahV
theorem ajZ:ck Tryz.prog td:=
  BT (C:=qX) (F:=mr) dI Gv dS (fn:=Tryz.f259) (l:=[]) (m:=[(qu.go jW 0,dZ (bK Tryz.f259) 100002),(qH.go jX 0,dZ (bK Tryz.f259) 3)]) Tryz.func259 (by kernel_rfl) (by kernel_rfl) (by kernel_rfl) trivial (by kernel_rfl) ⟨agL,ahW,trivial⟩ (dW _ (by kernel_rfl)) (by kernel_rfl) ajY
theorem aj0:aW td:=(ajZ).x (by kernel_rfl)
def VF:aS:=⟨246,Ca,⟨[(0,cu),(1,aK)],[]⟩,XW⟩
theorem alo:aW VF:=bR (l:=[td]) Tryz.func246 ⟨aj0,trivial⟩
def Sc:bA:=⟨⟨[(0,cu),(2,.ptr 0 fX 0 []),(4,aK)],[.box 245 fX BY]⟩,.ret,⟨[(2,.ptr 0 fX 0 []),(3,aK)],uc⟩,(.exit 0),⟨[(2,.ptr 0 fX 0 [])],[.box 245 fX BY]⟩⟩
def PF:aS:=⟨227,fM,⟨[(0,.dat fX),(1,aK)],[]⟩,tt⟩
def P1:ba:=b9 [S0,VF] [(0,Sc.go TG 0)] 0
theorem TF:bO Tryz.prog (P1).Γ:=bG ⟨ajX,alo,trivial⟩
theorem ai7:cm P1 Tryz.f227 0 0:=cz (L:=Sc) (b:=TE) (m:=[]) TF trivial
theorem TH:aW PF:=cc (F:=P1) (fn:=Tryz.f227) (m:=cS Tryz.f227 [0]) TF Tryz.func227 ⟨ai7,trivial⟩
def RH:aS:=⟨199,fM,dG,AW⟩
theorem aic:aW RH:=bR (l:=[PF]) Tryz.func199 ⟨TH,trivial⟩
def Sv:aS:=⟨200,⟨[(0,.dat hv),(1,aK)],[]⟩,rZ,wL⟩
theorem aji:aW Sv:=bR (l:=[]) Tryz.func200 trivial
def Ta:aS:=⟨201,⟨[(0,.dat hv),(1,aK)],[]⟩,rZ,BE⟩
theorem ajD:aW Ta:=bR (l:=[]) Tryz.func201 trivial
def S7:aS:=⟨202,hT,dG,AM⟩
theorem ajA:aW S7:=bR (l:=[PG,Pj]) Tryz.func202 ⟨TL,SW,trivial⟩
def Su:aS:=⟨158,⟨[(0,.dat dK),(1,.dat cQ)],[]⟩,ub,G9⟩
theorem ajh:aW Su:=bR (l:=[RH,Sv,Ta,S7]) Tryz.func158 ⟨aic,aji,ajD,ajA,trivial⟩
def Ss:aS:=⟨198,Cb,rZ,G6⟩
theorem ajc:aW Ss:=bR (l:=[PF]) Tryz.func198 ⟨TH,trivial⟩
def Sf:bA:=dk ⟨[(0,.dat (.list bd)),(2,.ptr 0 hv 0 []),(3,.ptr 1 hv 0 []),(4,aK)],B0⟩ 0 ⟨[(2,.ptr 0 hv 0 []),(3,.ptr 1 hv 0 [])],B0⟩
def S2:aS:=⟨156,p0,rZ,Cx⟩
def P4:ba:=b9 [Ss] [(0,Sf.go HR 0)] 0
theorem TR:bO Tryz.prog (P4).Γ:=bG ⟨ajc,trivial⟩
theorem ajd:cm P4 Tryz.f156 0 0:=cz (L:=Sf) (b:=AE) (m:=[]) TR trivial
theorem aj2:aW S2:=cc (F:=P4) (fn:=Tryz.f156) (m:=cS Tryz.f156 [0]) TR Tryz.func156 ⟨ajd,trivial⟩
def S8:aS:=⟨155,rZ,ub,JB⟩
theorem ajB:aW S8:=bR (l:=[]) Tryz.func155 trivial
def Tk:bA:=dk ⟨[(1,.ptr 0 dE 0 []),(2,.ptr 1 dK 0 []),(3,.ptr 2 dK 0 []),(4,aK)],Hh⟩ 0 ⟨[(1,.ptr 0 dE 0 []),(2,.ptr 1 dK 0 []),(3,.ptr 2 dK 0 [])],Hh⟩
def Tl:bA:=dk ⟨[(1,.ptr 0 dE 0 []),(2,.ptr 1 dK 0 []),(3,.ptr 2 dK 0 []),(5,aK)],Hh⟩ 2 ⟨[(2,.ptr 0 dK 0 []),(3,.ptr 1 dK 0 [])],[.box 95 dK kX,.box 95 dK (.dat dK)]⟩
def VI:aS:=⟨105,⟨[(0,.dat dE)],[]⟩,ub,pN⟩
def G3:ba:=b9 [Ux,Su,S2,S8] [(0,Tk.go I4 0),(2,Tl.go I5 0)] 0
theorem I3:bO Tryz.prog (G3).Γ:=bG ⟨akz,ajh,aj2,ajB,trivial⟩
theorem akA:cm G3 Tryz.f105 0 0:=cz (L:=Tk) (b:=Bg) (m:=[]) I3 trivial
theorem akB:cm G3 Tryz.f105 2 1:=cz (L:=Tl) (b:=Bh) (m:=[]) I3 trivial
theorem alr:aW VI:=cc (F:=G3) (fn:=Tryz.f105) (m:=cS Tryz.f105 [0,2]) I3 Tryz.func105 ⟨akA,akB,trivial⟩
def RI:aS:=⟨118,⟨[(0,.agg [(.own hV 0)]),(1,aK)],[.arr 87 hV false]⟩,⟨[(0,c7)],[.arr 87 hV false]⟩,GO⟩
def ain:ba:=b9 [] [] 1
theorem aid:aW RI:=cc (F:=ain) (fn:=Tryz.f118) (m:=[]) (bG trivial) Tryz.func118 trivial
def SH:bA:=dk ⟨[(4,.ptr 0 c8 0 []),(6,.ptr 1 c8 0 []),(7,.dat (.list (.int .i64)))],xr⟩ 0 ⟨[(4,.ptr 0 c8 0 []),(6,.ptr 1 c8 0 [])],xr⟩
def IC:aS:=⟨89,pZ,pZ,w1⟩
def IN:ba:=b9 [GF,Pk,RI] [(0,SH.go Ik 0)] 0
theorem U2:bO Tryz.prog (IN).Γ:=bG ⟨Il,Tu,aid,trivial⟩
theorem ajE:cm IN Tryz.f89 0 0:=cz (L:=SH) (b:=AX) (m:=[]) U2 trivial
theorem U3:aW IC:=cc (F:=IN) (fn:=Tryz.f89) (m:=cS Tryz.f89 [0]) U2 Tryz.func89 ⟨ajE,trivial⟩
def G0:aS:=⟨98,pZ,dG,xa⟩
theorem I1:aW G0:=bR (l:=[]) Tryz.func98 trivial
def q9:aS:=⟨59,pZ,⟨[(0,.dat dE),(1,aK)],[]⟩,j9⟩
theorem un:aW q9:=bR (l:=[G0]) Tryz.func59 ⟨I1,trivial⟩
end D
open Go Go.X Go.Proofs D
namespace D
def ad5:aS:=⟨230,fM,dG,Al⟩
theorem ag3:aW ad5:=bR (l:=[]) Tryz.func230 trivial
def adJ:aS:=⟨205,hT,hd,Fs⟩
theorem agI:aW adJ:=bR (l:=[ad5]) Tryz.func205 ⟨ag3,trivial⟩
def Fz:aS:=⟨161,hT,hd,wh⟩
theorem ON:aW Fz:=bR (l:=[adJ]) Tryz.func161 ⟨agI,trivial⟩
def ach:bA:=dk ⟨[(0,.dat (.list .str)),(1,.fn 161 [] []),(5,cu),(6,aK)],[]⟩ 0 ⟨[(5,cu)],[]⟩
def acR:aS:=⟨160,⟨[(0,.dat (.list .str)),(1,.fn 161 [] [])],[]⟩,fM,N1⟩
def Mr:ba:=b9 [Fz] [(0,ach.go Ms 0)] 0
theorem acV:bO Tryz.prog (Mr).Γ:=bG ⟨ON,trivial⟩
theorem aty:cm Mr Tryz.f160 0 0:=cz (L:=ach) (b:=vf) (m:=[]) acV trivial
theorem atG:aW acR:=cc (F:=Mr) (fn:=Tryz.f160) (m:=cS Tryz.f160 [0]) acV Tryz.func160 ⟨aty,trivial⟩
def UB:aS:=⟨117,⟨[(0,.dat (.list .str))],[]⟩,fM,CU⟩
theorem ak8:aW UB:=bR (l:=[acR]) Tryz.func117 ⟨atG,trivial⟩
def pA:aS:=⟨74,mW,dG,j0⟩
theorem q0:aW pA:=bR (l:=[]) Tryz.func74 trivial
def Ba:aS:=⟨75,xn,mW,rJ⟩
theorem GX:aW Ba:=bR (l:=[UB,pA]) Tryz.func75 ⟨ak8,q0,trivial⟩
def SK:bA:=dk ⟨[(2,.ptr 0 ac 0 []),(5,.own ac 1),(6,cu),(9,.dat (.list .str)),(10,aK),(11,aK)],xm⟩ 0 ⟨[(2,.ptr 0 ac 0 []),(5,.own ac 1),(6,cu)],xm⟩
def UA:aS:=⟨114,⟨[(0,.dat ac),(1,.dat (.list .str))],[]⟩,⟨h7,cb⟩,pO⟩
def IP:ba:=b9 [Ba] [(0,SK.go U9 0)] 0
theorem U8:bO Tryz.prog (IP).Γ:=bG ⟨GX,trivial⟩
theorem ajL:cm IP Tryz.f114 0 0:=cz (L:=SK) (b:=U7) (m:=[]) U8 trivial
theorem ak6:aW UA:=cc (F:=IP) (fn:=Tryz.f114) (m:=cS Tryz.f114 [0]) U8 Tryz.func114 ⟨ajL,trivial⟩
def Iu:aS:=⟨67,Hs,⟨h7,cb⟩,BL⟩
theorem UT:aW Iu:=bR (l:=[UA]) Tryz.func67 ⟨ak6,trivial⟩
def Bn:aS:=⟨216,fM,mW,oo⟩
theorem CC:aW Bn:=bR (l:=[]) Tryz.func216 trivial
def FZ:aS:=⟨324,e9,⟨h7,cb⟩,PZ⟩
theorem Rq:aW FZ:=bR (l:=[Bn]) Tryz.func324 ⟨CC,trivial⟩
def FQ:aS:=⟨337,e9,⟨h7,cb⟩,PT⟩
theorem Rj:aW FQ:=bR (l:=[Bn]) Tryz.func337 ⟨CC,trivial⟩
def FN:aS:=⟨348,e9,⟨h7,cb⟩,Ps⟩
theorem aeJ:aW FN:=bR (l:=[]) Tryz.func348 trivial
def Si:bA:=dk Ql 0 Ql
def nT:aS:=⟨217,fM,mW,kN⟩
def P7:ba:=b9 [] [(0,Si.go Uc 0)] 0
theorem Ub:bO Tryz.prog (P7).Γ:=bG trivial
theorem aiJ:cm P7 Tryz.f217 0 0:=cz (L:=Si) (b:=Ua) (m:=[]) Ub trivial
theorem px:aW nT:=cc (F:=P7) (fn:=Tryz.f217) (m:=cS Tryz.f217 [0]) Ub Tryz.func217 ⟨aiJ,trivial⟩
def FC:aS:=⟨355,e9,⟨h7,cb⟩,Pt⟩
theorem aeK:aW FC:=bR (l:=[nT]) Tryz.func355 ⟨px,trivial⟩
def Fx:aS:=⟨365,e9,⟨h7,cb⟩,Pb⟩
theorem aeD:aW Fx:=bR (l:=[nT]) Tryz.func365 ⟨px,trivial⟩
def Fy:aS:=⟨371,e9,⟨h7,cb⟩,Pc⟩
theorem aeE:aW Fy:=bR (l:=[]) Tryz.func371 trivial
def UY:aS:=⟨72,e9,⟨h7,cb⟩,oc⟩
noncomputable def akR:ba:=ko fV (Cs fV (gi [FZ,FQ,FN,FC,Fx,Fy]) 110 Tryz.f110 (gi [FZ,FQ,FN,FC,Fx,Fy])) (fun k st=>.fail) 0
theorem ake:aW UY:=cc (F:=akR) (fn:=Tryz.f72) (m:=[]) (CQ (by kernel_rfl) (C2 (F:=(ko fV (gi [FZ,FQ,FN,FC,Fx,Fy]) (fun _ _=>.fail) 0)) dI (bG ⟨Rq,Rj,aeJ,aeK,aeD,aeE,trivial⟩) dS Tryz.func110 (by kernel_rfl) (by kernel_rfl) (by kernel_rfl)) (bG ⟨Rq,Rj,aeJ,aeK,aeD,aeE,trivial⟩)) Tryz.func72 trivial
def q3:aS:=⟨60,⟨[(0,.dat dE)],[]⟩,dG,rK⟩
theorem wO:aW q3:=bR (l:=[]) Tryz.func60 trivial
def N6:aS:=⟨231,hT,hd,Ob⟩
set_option maxHeartbeats 1000000 in
theorem atv (a b:ByteArray) (w:World):Calls Tryz.prog 231 #[.string a,.string b] w fun e w'=>e=.returned (.int .i64 (Lib.compareBytes a.data.toList b.data.toList))/\w'=w:=by
  go_enter Tryz.func231,Tryz.ntmps231
  go_wp2
  rw[run_callFunc_extern Tryz.func250 (by kernel_rfl) (by kernel_rfl) (by kernel_rfl) (e:=Extern.BytealgCompare.compare) (by kernel_rfl),Lib.run_compareString]
  simp only[Result.andThen]
  rw[Oper.upon_value]
  go_wp2
  go_ret
  exact ⟨rfl,rfl⟩
theorem aub:ck Tryz.prog N6:=afh (g:=fun a b=>Lib.compareBytes a b) Tryz.func231 (by kernel_rfl) atv
theorem auc:aW N6:=aub.x (by kernel_rfl)
def aey:aS:=⟨208,hT,hd,PB⟩
theorem ahR:aW aey:=bR (l:=[N6]) Tryz.func208 ⟨auc,trivial⟩
def R4:aS:=⟨207,⟨[(0,.dat bd),(1,cu)],[]⟩,hd,A4⟩
theorem aiw:aW R4:=bR (l:=[aey]) Tryz.func207 ⟨ahR,trivial⟩
def ZZ:bA:=dk ⟨[(0,.dat (.list bd)),(1,cu),(2,.fn 207 [] []),(8,aK),(9,aK),(10,aK)],[]⟩ 0 ⟨[(0,.dat (.list bd)),(1,cu),(2,.fn 207 [] []),(8,aK),(9,aK)],[]⟩
def Z6:aS:=⟨206,⟨[(0,.dat (.list bd)),(1,cu),(2,.fn 207 [] [])],[]⟩,⟨[(0,aK),(1,c7)],[]⟩,D9⟩
def LK:ba:=b9 [R4] [(0,ZZ.go LL 0)] 0
theorem aaa:bO Tryz.prog (LK).Γ:=bG ⟨aiw,trivial⟩
theorem lw:cm LK Tryz.f206 0 0:=cz (L:=ZZ) (b:=D8) (m:=[]) aaa trivial
theorem arX:aW Z6:=cc (F:=LK) (fn:=Tryz.f206) (m:=cS Tryz.f206 [0]) aaa Tryz.func206 ⟨lw,trivial⟩
def Gr:aS:=⟨164,Hr,⟨[(0,aK),(1,c7)],[]⟩,tD⟩
theorem HZ:aW Gr:=bR (l:=[Z6]) Tryz.func164 ⟨arX,trivial⟩
def ID:aS:=⟨127,Hr,⟨[(0,.dat bd),(1,c7)],[]⟩,CV⟩
theorem ak9:aW ID:=bR (l:=[Gr]) Tryz.func127 ⟨HZ,trivial⟩
def Mx:aS:=⟨165,⟨[(0,.dat (.list cQ))],[]⟩,⟨[(0,.fn 209 [] [(.ptr 0 (.list cQ) 0 [])])],[.box 83 (.list cQ) (.dat (.list cQ))]⟩,zd⟩
theorem adh:aW Mx:=bR (l:=[]) Tryz.func165 trivial
def tz:aS:=⟨174,⟨[(0,.dat ac),(1,cu)],[]⟩,dG,pR⟩
theorem ut:aW tz:=bR (l:=[]) Tryz.func174 trivial
def PM:aS:=⟨375,⟨[(0,.ptr 0 ik 0 []),(1,aK)],[.box 190 ik p1]⟩,⟨[],[.box 190 ik p1]⟩,wY⟩
def aiU:ba:=b9 [] [] 1
theorem Uj:aW PM:=cc (F:=aiU) (fn:=Tryz.f375) (m:=[]) (bG trivial) Tryz.func375 trivial
def Sa:aS:=⟨380,ui,uh,A7⟩
def ait:ba:=b9 [tz,PM] [] 1
theorem aiC:aW Sa:=cc (F:=ait) (fn:=Tryz.f380) (m:=[]) (bG ⟨ut,Uj,trivial⟩) Tryz.func380 trivial
def N7:aS:=⟨270,hT,dG,oZ⟩
theorem adl:aW N7:=bR (l:=[]) Tryz.func270 trivial
def adk:aS:=⟨253,hT,⟨[(0,cu),(1,c7)],[]⟩,Oc⟩
theorem aud:aW adk:=bR (l:=[N7]) Tryz.func253 ⟨adl,trivial⟩
def qr:aS:=⟨240,hT,⟨[(0,cu),(1,c7)],[]⟩,F2⟩
theorem aek:aW qr:=bR (l:=[adk]) Tryz.func240 ⟨aud,trivial⟩
end D
open Go Go.X Go.Proofs D
namespace D
def GG:aS:=⟨239,⟨[(0,cu),(1,cu),(2,cu)],[]⟩,⟨[(0,cu),(1,c7)],[]⟩,rq⟩
theorem Ir:aW GG:=bR (l:=[qr]) Tryz.func239 ⟨aek,trivial⟩
def IE:aS:=⟨379,ui,uh,rv⟩
def akU:ba:=b9 [GG] [] 1
theorem Va:aW IE:=cc (F:=akU) (fn:=Tryz.f379) (m:=[]) (bG ⟨Ir,trivial⟩) Tryz.func379 trivial
def OI:aS:=⟨359,hT,dG,sY⟩
theorem ael:aW OI:=bR (l:=[N7]) Tryz.func359 ⟨adl,trivial⟩
def R9:aS:=⟨378,ui,uh,A6⟩
def ais:ba:=b9 [IE,OI] [] 1
theorem aiB:aW R9:=cc (F:=ais) (fn:=Tryz.f378) (m:=[]) (bG ⟨Va,ael,trivial⟩) Tryz.func378 trivial
def R8:aS:=⟨377,ui,uh,A5⟩
def air:ba:=b9 [tz] [] 1
theorem aiA:aW R8:=cc (F:=air) (fn:=Tryz.f377) (m:=[]) (bG ⟨ut,trivial⟩) Tryz.func377 trivial
def R7:aS:=⟨376,ui,uh,wI⟩
def aiq:ba:=b9 [] [] 1
theorem aiz:aW R7:=cc (F:=aiq) (fn:=Tryz.f376) (m:=[]) (bG trivial) Tryz.func376 trivial
def R6:aS:=⟨374,ui,uh,wH⟩
def aip:ba:=b9 [PM] [] 1
theorem aiy:aW R6:=cc (F:=aip) (fn:=Tryz.f374) (m:=[]) (bG ⟨Uj,trivial⟩) Tryz.func374 trivial
def OS:Shape:=⟨[(0,.yld 1012800 0),(1,aK),(2,.dat cQ)],QF⟩
def OT:Shape:=⟨[(0,c7)],QF⟩
def aei:aS:=⟨1012800,OS,OT,m6⟩
def aej:ba:=b9 [Sa,IE,R9,R8,R7,R6] [] 3
theorem ahw (s:OS.ty.den): @Eq (Option OT.ty.den) (qf aej e0 1012800 (iI Tryz.f128 0) OS OT s).val (m6 s):=by kernel_rfl
theorem ahx:aW aei:=
  CR (F:=aej) (c:=iI Tryz.f128 0) dI (bG ⟨aiC,Va,aiB,aiA,aiz,aiy,trivial⟩) dS (by kernel_rfl) (by kernel_rfl) (by kernel_rfl) (m:=[]) (by kernel_rfl) trivial (by kernel_rfl) ahw
def abL:bA:=⟨⟨[(0,.yld 1012800 0),(1,.ptr 1 (.list cQ) 0 []),(3,aK)],xo⟩,.ret,⟨[],xo⟩,(.exit 0),⟨[],xo⟩⟩
def acO:aS:=⟨209,⟨[(0,.yld 1012800 0),(1,.ptr 1 (.list cQ) 0 [])],xo⟩,⟨[],xo⟩,MA⟩
def Mg:ba:=b9 [aei] [(0,abL.go Mj 4)] 4
theorem aco:bO Tryz.prog (Mg).Γ:=bG ⟨ahx,trivial⟩
theorem asZ:cm Mg Tryz.f209 0 0:=cz (L:=abL) (b:=y7) (m:=[]) aco trivial
theorem ati:aW acO:=cc (F:=Mg) (fn:=Tryz.f209) (m:=cS Tryz.f209 [0]) aco Tryz.func209 ⟨asZ,trivial⟩
def Jo:Shape:=⟨[(0,cu),(1,.dat (.list cQ))],[]⟩
def Jp:Shape:=⟨[(0,.dat ik)],[]⟩
def G2:aS:=⟨128,Jo,Jp,xR⟩
def VN:ba:={cx:=fV,Γ:=gi [Mx,acO],Λ:=fun k st=>.fail,keep:=fun _=>none,m:=0,rfs:=fun k=>bif Nat.beq k 3 then some 1012800 else none,its:=[209]}
theorem alD (s:Jo.ty.den): @Eq (Option Jp.ty.den) (k5 VN Tryz.f128 Jo Jp s).val (xR s):=by kernel_rfl
theorem alE:ck Tryz.prog G2:=
  rG (F:=VN) dI (bG ⟨adh,ati,trivial⟩) dS (fn:=Tryz.f128) (m:=[]) Tryz.func128 (by kernel_rfl) (by kernel_rfl) (by kernel_rfl) trivial (yd (m:=[(3,iI Tryz.f128 0)]) (its:=[209]) (by kernel_rfl) ⟨yn (Y:=1012800) (by kernel_rfl) (by kernel_rfl),trivial⟩ (by kernel_rfl) ⟨⟨_,Tryz.func209,by kernel_rfl,by kernel_rfl⟩,trivial⟩) (by kernel_rfl) alD
theorem alF:aW G2:=(alE).x (by kernel_rfl)
def OP:aS:=⟨232,fM,dG,s6⟩
theorem aeC:aW OP:=bR (l:=[]) Tryz.func232 trivial
def aev:aS:=⟨210,hT,dG,Gh⟩
theorem ahC:aW aev:=bR (l:=[OP]) Tryz.func210 ⟨aeC,trivial⟩
def adQ:aS:=⟨211,fM,dG,FA⟩
theorem agN:aW adQ:=bR (l:=[]) Tryz.func211 trivial
def acH:bA:=dk ⟨[(0,.dat (.list .str)),(1,cu),(6,aK),(7,aK),(8,aK)],[]⟩ 0 ⟨[(0,.dat (.list .str)),(1,cu),(6,aK),(7,aK)],[]⟩
def acy:aS:=⟨166,⟨[(0,.dat (.list .str)),(1,cu)],[]⟩,⟨[(0,aK),(1,c7)],[]⟩,EK⟩
def MC:ba:=b9 [aev,adQ] [(0,acH.go MD 0)] 0
theorem ac4:bO Tryz.prog (MC).Γ:=bG ⟨ahC,agN,trivial⟩
theorem atk:cm MC Tryz.f166 0 0:=cz (L:=acH) (b:=ED) (m:=[]) ac4 trivial
theorem atx:aW acy:=cc (F:=MC) (fn:=Tryz.f166) (m:=cS Tryz.f166 [0]) ac4 Tryz.func166 ⟨atk,trivial⟩
def Jh:aS:=⟨131,⟨[(0,cu),(1,.dat (.list .str))],[]⟩,hd,Da⟩
theorem alv:aW Jh:=bR (l:=[acy]) Tryz.func131 ⟨atx,trivial⟩
def PL:aS:=⟨130,⟨[(0,.dat ik),(1,.dat bd),(2,c7)],[]⟩,⟨[(0,.dat bd),(1,c7)],[]⟩,CF⟩
theorem akJ:aW PL:=bR (l:=[]) Tryz.func130 trivial
def UG:bA:=⟨⟨[(1,cu),(2,.ptr 0 iq 0 []),(4,.ptr 1 bd 0 []),(5,.ptr 2 .bool 0 []),(6,.ptr 3 (.int .i64) 0 []),(8,aK),(1000000000,.dfr 129 [(.ptr 3 (.int .i64) 0 [])] [(.ptr 1 bd 0 []),(.ptr 2 .bool 0 [])] ik)],[.box 36 iq (.dat iq),.box 58 bd (.agg [cu,cu,aK]),.box 4 .bool c7,.box 3 (.int .i64) aK]⟩,.ret,Qn,(.exit 80000000),⟨[],[]⟩⟩
def wE:bA:=⟨Qn,.nrm,⟨[(4,.ptr 0 bd 0 []),(5,.ptr 1 .bool 0 []),(6,.ptr 2 (.int .i64) 0 []),(7,aK)],[.box 58 bd (.dat bd),.box 4 .bool c7,.box 3 (.int .i64) aK]⟩,(.exit 80000000),⟨[],[]⟩⟩
def tA:Shape:=⟨[(0,.dat iq),(1,cu)],[]⟩
def ts:Shape:=⟨[(0,.dat bd),(1,c7),(2,aK),(3,aK)],[]⟩
def Jw:aS:=⟨81,tA,ts,oq⟩
def Bo:ba:={cx:=fV,Γ:=gi [q9,q3,ID,G2,Jh,PL],Λ:=fun k st=>bif Nat.beq k 0 then UG.go CG 0 st else bif Nat.beq k cZ then wE.go Bz 0 st else .fail,keep:=fun _=>none,m:=0,dfr:=fun k=>bif Nat.beq k 0 then some (129,[6],[4,5],ik) else none}
def VP:ba:=ko fV (gi [q9,q3,ID,G2,Jh,PL]) (fun _ _=>.fail) 3
theorem akM (s:wE.S.ty.den): @Eq (Option (wE.S.ty.den⊕wE.Out)) (r3 wE (Bo).m VP 129 Tryz.f129 s).val (rt s):=by kernel_rfl
theorem amm (s:tA.ty.den): @Eq (Option ts.ty.den) (D3 Bo Tryz.f81 tA ts s).val (oq s):=by kernel_rfl
theorem JL:bO Tryz.prog (Bo).Γ:=bG ⟨un,wO,ak9,alF,alv,akJ,trivial⟩
theorem alG:cm Bo Tryz.f81 0 0:=cz (L:=UG) (b:=kv) (m:=[]) JL trivial
theorem WZ:ck Tryz.prog Jw:=
  amD (F:=Bo) (Fd:=VP) (L:=wE) (fd:=129) (fnd:=Tryz.f129) (b:=rt) (g:=Bz) dI JL dS (fn:=Tryz.f81) (m:=cS Tryz.f81 [0]) Tryz.func81 (by kernel_rfl) (by kernel_rfl) (by kernel_rfl) ⟨alG,trivial⟩ (fun _=>rfl) (by kernel_rfl) dI JL Tryz.func129 (by kernel_rfl) (by kernel_rfl) (by kernel_rfl) (by kernel_rfl) akM (by kernel_rfl) amm
theorem amn:aW Jw:=(WZ).x (by kernel_rfl)
def Sw:aS:=⟨147,⟨[(0,aK),(1,aK),(2,aK)],[]⟩,dG,GY⟩
theorem aiQ:aW Sw:=bR (l:=[]) Tryz.func147 trivial
def IF:aS:=⟨90,⟨[(0,.dat CW)],[]⟩,dG,Kc⟩
theorem Vb:aW IF:=bR (l:=[Sw]) Tryz.func90 ⟨aiQ,trivial⟩
def Up:aS:=⟨112,⟨[(0,.dat hV)],[]⟩,dG,XD⟩
theorem akl:aW Up:=bR (l:=[]) Tryz.func112 trivial
def abN:bA:=⟨⟨[(0,.dat (.list hV)),(1,.fn 112 [] []),(7,aK),(8,aK)],[]⟩,.ret,⟨[(4,aK)],[]⟩,(.exit 0),⟨[],[]⟩⟩
def acf:aS:=⟨111,⟨[(0,.dat (.list hV)),(1,.fn 112 [] [])],[]⟩,hd,adi⟩
def Mi:ba:=b9 [Up] [(0,abN.go acv 0)] 0
theorem acu:bO Tryz.prog (Mi).Γ:=bG ⟨akl,trivial⟩
theorem rc:cm Mi Tryz.f111 0 0:=cz (L:=abN) (b:=acs) (m:=[]) acu trivial
theorem atn:aW acf:=cc (F:=Mi) (fn:=Tryz.f111) (m:=cS Tryz.f111 [0]) acu Tryz.func111 ⟨rc,trivial⟩
def Ix:aS:=⟨104,⟨[(0,.dat c8)],[]⟩,⟨[(0,.agg [(.own hV 0)])],[.arr 87 hV false]⟩,J0⟩
theorem Vm:aW Ix:=bR (l:=[]) Tryz.func104 trivial
def UE:bA:=⟨⟨[(2,.ptr 0 c8 0 []),(3,.ptr 1 dE 0 []),(4,.ptr 2 c8 0 []),(14,.dat (.list (.int .i64))),(15,aK),(16,aK)],QN⟩,.ret,⟨[(4,.ptr 0 c8 0 []),(5,aK),(6,aK)],[.box 32 c8 (.dat c8)]⟩,(.exit 0),⟨[(2,.ptr 0 c8 0 []),(3,.ptr 1 dE 0 []),(4,.ptr 2 c8 0 [])],QN⟩⟩
def UF:bA:=dk ⟨[(4,.ptr 0 c8 0 []),(9,aK),(10,.ptr 1 c8 0 []),(57,.dat (.list (.int .i64))),(58,aK),(59,aK)],xr⟩ 2 ⟨[(4,.ptr 0 c8 0 []),(9,aK),(10,.ptr 1 c8 0 [])],xr⟩
def Jv:aS:=⟨63,⟨[(0,.dat c8),(1,.dat dE)],[]⟩,⟨[(0,.dat c8),(1,aK),(2,aK)],[]⟩,Dj⟩
def Cv:ba:=b9 [G0,acf,Ix] [(0,UE.go WH 0),(2,UF.go WI 0)] 0
theorem Jz:bO Tryz.prog (Cv).Γ:=bG ⟨I1,atn,Vm,trivial⟩
theorem alj:cm Cv Tryz.f63 0 0:=cz (L:=UE) (b:=WC) (m:=[]) Jz trivial
theorem alk:cm Cv Tryz.f63 2 1:=cz (L:=UF) (b:=WD) (m:=[]) Jz trivial
theorem WJ:aW Jv:=cc (F:=Cv) (fn:=Tryz.f63) (m:=cS Tryz.f63 [0,2]) Jz Tryz.func63 ⟨alj,alk,trivial⟩
def Bq:Shape:=⟨[(0,.dat CW)],[]⟩
def Bs:Shape:=⟨[(0,.dat iq),(1,aK)],[]⟩
def amd:aS:=⟨40,Bq,Bs,KY⟩
def amf:ba:=lz [IF,Jv]
theorem amo:ck Tryz.prog amd:=nD (F:=amf) (fn:=Tryz.f40) (m:=[]) (bG ⟨Vb,WJ,trivial⟩) Tryz.func40 trivial
def Jf:aS:=⟨83,B8,fM,pM⟩
theorem V5:aW Jf:=bR (l:=[]) Tryz.func83 trivial
def Uu:aS:=⟨109,⟨[(0,.dat r0)],[]⟩,Cb,CM⟩
theorem akr:aW Uu:=bR (l:=[Jf]) Tryz.func109 ⟨V5,trivial⟩
end D
open Go Go.X Go.Proofs D
namespace D
def Tj:bA:=dk ⟨[(0,.dat (.list bd)),(3,.ptr 0 bd 0 []),(5,.own bd 1),(6,c7),(7,aK)],[.box 58 bd (.dat bd),.arr 58 bd false]⟩ 0 ⟨[(3,.ptr 0 bd 0 []),(5,.own bd 1),(6,c7)],[.box 58 bd (.dat bd),.arr 58 bd false]⟩
def VG:aS:=⟨108,⟨[(0,.dat (.list bd)),(1,.dat bd)],[]⟩,iU,C9⟩
def Jl:ba:=b9 [] [(0,Tj.go I2 0)] 0
theorem V6:bO Tryz.prog (Jl).Γ:=bG trivial
theorem aks:cm Jl Tryz.f108 0 0:=cz (L:=Tj) (b:=Be) (m:=[]) V6 trivial
theorem alp:aW VG:=cc (F:=Jl) (fn:=Tryz.f108) (m:=cS Tryz.f108 [0]) V6 Tryz.func108 ⟨aks,trivial⟩
def SD:bA:=dk ⟨[(0,.dat (.list r0)),(3,.own bd 0),(4,aK)],mg⟩ 0 ⟨[(3,.own bd 0)],mg⟩
def Ut:aS:=⟨51,⟨[(0,.dat (.list r0))],[]⟩,iU,xG⟩
def IJ:ba:=b9 [Uu,VG] [(0,SD.go GL 0)] 0
theorem Vw:bO Tryz.prog (IJ).Γ:=bG ⟨akr,alp,trivial⟩
theorem aj3:cm IJ Tryz.f51 0 0:=cz (L:=SD) (b:=wF) (m:=[]) Vw trivial
theorem akq:aW Ut:=cc (F:=IJ) (fn:=Tryz.f51) (m:=cS Tryz.f51 [0]) Vw Tryz.func51 ⟨aj3,trivial⟩
def wu:Shape:=⟨[(0,.dat c8),(1,.dat (.list bd)),(2,.dat ac),(3,.dat (.list (.list .str))),(4,.dat lb)],[]⟩
def wx:Shape:=⟨[(0,.dat eR)],[]⟩
def v8 (cN:(bN×(List ak)×ah×(List (List af))×eg×Unit)->Option (er×Unit)):aS:=⟨50,wu,wx,cN⟩
def VJ:aS:=⟨76,pZ,⟨[(0,.dat dE),(1,aK)],[]⟩,xc⟩
theorem als:aW VJ:=bR (l:=[GF]) Tryz.func76 ⟨Il,trivial⟩
def IB:aS:=⟨54,B8,fM,od⟩
theorem VA:aW IB:=bR (l:=[]) Tryz.func54 trivial
def VH:aS:=⟨52,B8,fM,xb⟩
theorem alq:aW VH:=bR (l:=[IB]) Tryz.func52 ⟨VA,trivial⟩
def Rh:bA:=dk QK 0 QK
def Gn:aS:=⟨53,fM,mW,l8⟩
def Po:ba:=b9 [] [(0,Rh.go Tr 0)] 0
theorem Tq:bO Tryz.prog (Po).Γ:=bG trivial
theorem aib:cm Po Tryz.f53 0 0:=cz (L:=Rh) (b:=Tp) (m:=[]) Tq trivial
theorem Px:aW Gn:=cc (F:=Po) (fn:=Tryz.f53) (m:=cS Tryz.f53 [0]) Tq Tryz.func53 ⟨aib,trivial⟩
def Sq:aS:=⟨56,hT,dG,q4⟩
theorem ai9:aW Sq:=bR (l:=[]) Tryz.func56 trivial
def S6:aS:=⟨57,B8,fM,tu⟩
theorem ajy:aW S6:=bR (l:=[]) Tryz.func57 trivial
def Jd:aS:=⟨55,fM,mW,mK⟩
theorem V3:aW Jd:=bR (l:=[]) Tryz.func55 trivial
def qv:bA:=⟨⟨[(1,.ptr 0 kh 0 []),(2,.ptr 1 cQ 0 []),(3,cu),(5,.ptr 2 ac 0 []),(6,cu),(7,cu),(63,c7)],B4⟩,.nrm,⟨QI,B4⟩,(.exit 90100013),⟨[],[]⟩⟩
def qK:bA:=⟨⟨QI,B4⟩,.ret,QG,(.exit 90000016),⟨[],[]⟩⟩
def qI:bA:=⟨⟨[(1,.ptr 0 kh 0 []),(2,.ptr 1 cQ 0 []),(3,cu),(5,.ptr 2 ac 0 [])],B4⟩,.ret,QG,(.exit 90000011),⟨[],[]⟩⟩
def tk:aS:=⟨14,⟨[(0,.dat kh)],[]⟩,e9,w0⟩
def mw:ba:=lz [IB,VH,Gn,Sq,S6,Jd]
def q2:jU:=[(100013,qv.go qF 0),(16,qK.go pt 0),(11,qI.go lJ 0)]
theorem ag4 (s:qv.S.ty.den): @Eq (Option qv.Out) ((fo mw q2 (dZ (bK Tryz.f14) 100013) 0 (qv.S.enc s)).bind fun (e,st)=>qv.out (mw).m e st).val (qF s):=by kernel_rfl
theorem ahZ (s:qK.S.ty.den): @Eq (Option qK.Out) ((fo mw q2 (dZ (bK Tryz.f14) 16) 0 (qK.S.enc s)).bind fun (e,st)=>qK.out (mw).m e st).val (pt s):=by kernel_rfl
theorem ahX (s:qI.S.ty.den): @Eq (Option qI.Out) ((fo mw q2 (dZ (bK Tryz.f14) 11) 0 (qI.S.enc s)).bind fun (e,st)=>qI.out (mw).m e st).val (lJ s):=by kernel_rfl
theorem akv (s:(tk).S.ty.den):(ql mw q2 Tryz.f14 (tk).S (tk).Z s).val=(tk).g s:=by kernel_rfl
theorem GM:bO Tryz.prog (mw).Γ:=bG ⟨VA,alq,Px,ai9,ajy,V3,trivial⟩
theorem ag5:h6 Tryz.prog mw Tryz.f14.ntmps (qv.go qF 0) (dZ (bK Tryz.f14) 100013):=
  j7 dI GM dS (L:=qv) (k:=0) (f:=qF) (C:=q2) (l:=[]) (m:=[]) (by kernel_rfl) trivial (by kernel_rfl) trivial (by kernel_rfl) (dW _ (by kernel_rfl)) ag4
theorem ah0:h6 Tryz.prog mw Tryz.f14.ntmps (qK.go pt 0) (dZ (bK Tryz.f14) 16):=
  j7 dI GM dS (L:=qK) (k:=0) (f:=pt) (C:=q2) (l:=[]) (m:=[]) (by kernel_rfl) trivial (by kernel_rfl) trivial (by kernel_rfl) (dW _ (by kernel_rfl)) ahZ
theorem ahY:h6 Tryz.prog mw Tryz.f14.ntmps (qI.go lJ 0) (dZ (bK Tryz.f14) 11):=
  j7 dI GM dS (L:=qI) (k:=0) (f:=lJ) (C:=q2) (l:=[]) (m:=[(qv.go qF 0,dZ (bK Tryz.f14) 100013),(qK.go pt 0,dZ (bK Tryz.f14) 16)]) (by kernel_rfl) trivial (by kernel_rfl) ⟨ag5,ah0,trivial⟩ (by kernel_rfl) (dW _ (by kernel_rfl)) ahX
theorem akw:ck Tryz.prog tk:=
  BT (C:=q2) (F:=mw) dI GM dS (fn:=Tryz.f14) (l:=[]) (m:=[(qI.go lJ 0,dZ (bK Tryz.f14) 11)]) Tryz.func14 (by kernel_rfl) (by kernel_rfl) (by kernel_rfl) trivial (by kernel_rfl) ⟨ahY,trivial⟩ (dW _ (by kernel_rfl)) (by kernel_rfl) akv
theorem akx:aW tk:=(akw).x (by kernel_rfl)
def SF:bA:=dk ⟨[(0,.dat (.list kh)),(1,aK),(5,.own cQ 0),(6,aK)],xv⟩ 0 ⟨[(5,.own cQ 0)],xv⟩
def Uv:aS:=⟨41,⟨[(0,.dat (.list kh)),(1,aK)],[]⟩,⟨[(0,.own cQ 0)],xv⟩,CN⟩
def IL:ba:=b9 [tk] [(0,SF.go Ij 0)] 0
theorem Vz:bO Tryz.prog (IL).Γ:=bG ⟨akx,trivial⟩
theorem ajw:cm IL Tryz.f41 0 0:=cz (L:=SF) (b:=wG) (m:=[]) Vz trivial
theorem aku:aW Uv:=cc (F:=IL) (fn:=Tryz.f41) (m:=cS Tryz.f41 [0]) Vz Tryz.func41 ⟨ajw,trivial⟩
def S5:aS:=⟨203,e9,⟨h7,cb⟩,mI⟩
theorem ajx:aW S5:=bR (l:=[Gn]) Tryz.func203 ⟨Px,trivial⟩
def St:aS:=⟨26,e9,⟨h7,cb⟩,kr⟩
theorem ajg:aW St:=bR (l:=[Gn,Jd]) Tryz.func26 ⟨Px,V3,trivial⟩
def Sr:aS:=⟨204,xn,dG,n9⟩
theorem aja:aW Sr:=bR (l:=[Iz,PH]) Tryz.func204 ⟨Vv,TP,trivial⟩
def SG:bA:=⟨⟨[(3,.ptr 0 ac 0 []),(5,.own ac 1),(6,aK)],xm⟩,.ret,xu,(.exit 0),⟨[],[]⟩⟩
def Uw:aS:=⟨159,⟨[(0,.dat cQ),(1,.dat ac)],[]⟩,dG,kc⟩
def IM:ba:=b9 [S5,St,Sr] [(0,SG.go GN 0)] 0
theorem U1:bO Tryz.prog (IM).Γ:=bG ⟨ajx,ajg,aja,trivial⟩
theorem ajz:cm IM Tryz.f159 0 0:=cz (L:=SG) (b:=qZ) (m:=[]) U1 trivial
theorem aky:aW Uw:=cc (F:=IM) (fn:=Tryz.f159) (m:=cS Tryz.f159 [0]) U1 Tryz.func159 ⟨ajz,trivial⟩
def aeQ:bA:=dk ⟨[(2,aK),(4,.ptr 0 ac 0 []),(7,.own cQ 1),(8,.own cQ 2),(9,aK)],[.box 39 ac (.dat ac),.arr 41 cQ false,.arr 41 cQ false]⟩ 0 ⟨[(7,.own cQ 0)],xv⟩
def R3:aS:=⟨107,⟨[(0,.dat (.list kh)),(1,.dat ac),(2,aK)],[]⟩,⟨[(0,.own cQ 0)],xv⟩,tl⟩
def O7:ba:=b9 [Uv,Uw] [(0,aeQ.go wn 0)] 0
theorem R0:bO Tryz.prog (O7).Γ:=bG ⟨aku,aky,trivial⟩
theorem ah4:cm O7 Tryz.f107 0 0:=cz (L:=aeQ) (b:=ta) (m:=[]) R0 trivial
theorem aie:aW R3:=cc (F:=O7) (fn:=Tryz.f107) (m:=cS Tryz.f107 [0]) R0 Tryz.func107 ⟨ah4,trivial⟩
def wa:bA:=dk ⟨[(1,.dat (.list bd)),(3,.dat (.list (.list .str))),(5,.ptr 0 c8 0 []),(7,.ptr 1 ac 0 []),(9,.ptr 2 lb 0 []),(10,.ptr 3 eR 0 []),(11,.own .str 4),(12,aK)],Qm⟩ 0 ⟨[(1,.dat (.list bd)),(3,.dat (.list (.list .str))),(5,.ptr 0 c8 0 []),(7,.ptr 1 ac 0 []),(9,.ptr 2 lb 0 []),(10,.ptr 3 eR 0 []),(11,.own .str 4)],Qm⟩
def wb:bA:=dk ⟨[(1,.dat (.list bd)),(3,.dat (.list (.list .str))),(5,.ptr 0 c8 0 []),(7,.ptr 1 ac 0 []),(9,.ptr 2 lb 0 []),(10,.ptr 3 eR 0 []),(14,.ptr 4 dE 0 []),(16,.own ac 5),(17,aK)],[.box 32 c8 (.dat c8),.box 39 ac (.dat ac),.box 26 lb (.dat lb),.box 114 eR (.agg [mX,aK]),.box 85 dE (.agg [(.dat (.list bd)),(.own .str 6),(.own (.int .i64) 7),(.own dK 8),(.dat (.list cQ))]),.arr 39 ac false,.arr 9 .str true,.arr 3 (.int .i64) false,.arr 95 dK false]⟩ 2 ⟨[(5,.ptr 0 c8 0 []),(7,.ptr 1 ac 0 []),(9,.ptr 2 lb 0 []),(10,.ptr 3 eR 0 []),(14,.ptr 4 dE 0 [])],[.box 32 c8 (.dat c8),.box 39 ac (.dat ac),.box 26 lb (.dat lb),.box 114 eR (.agg [mX,aK]),.box 85 dE (.agg [(.dat (.list bd)),(.own .str 5),(.own (.int .i64) 6),(.own dK 7),(.dat (.list cQ))]),.arr 9 .str true,.arr 3 (.int .i64) false,.arr 95 dK false]⟩
def wc:bA:=dk ⟨[(10,.ptr 0 eR 0 []),(14,.ptr 1 dE 0 []),(22,.ptr 2 iY 0 []),(23,.ptr 3 c8 0 []),(24,aK)],[.box 114 eR (.agg [mX,aK]),.box 85 dE (.agg [(.dat (.list bd)),(.own .str 4),(.own (.int .i64) 5),(.own dK 6),(.own cQ 7)]),.box 149 iY (.dat iY),.box 32 c8 (.dat c8),.arr 9 .str true,.arr 3 (.int .i64) true,.arr 95 dK true,.arr 41 cQ true]⟩ 4 ⟨[(10,.ptr 0 eR 0 []),(22,.ptr 1 iY 0 []),(23,.ptr 2 c8 0 [])],[.box 114 eR (.agg [mX,aK]),.box 149 iY (.dat iY),.box 32 c8 (.dat c8)]⟩
def PI:aS:=⟨50,wu,wx,CA⟩
def py (cN:(bN×(List ak)×ah×(List (List af))×eg×Unit)->Option (er×Unit)):ba:=b9 [S9,Je,S3,Jg,VI,IC,(v8 cN),VJ,R3] [(0,wa.go (GC cN) 0),(2,wb.go (GD cN) 0),(4,wc.go (v6 cN) 0)] 0
theorem ah1 (cN:(bN×(List ak)×ah×(List (List af))×eg×Unit)->Option (er×Unit)) (s:wa.S.ty.den): @Eq (Option (wa.S.ty.den⊕wa.Out)) (wa.body (py cN) (ip (bK Tryz.f50) 0) 0 s).val (wz cN s):=by kernel_rfl
theorem ah2 (cN:(bN×(List ak)×ah×(List (List af))×eg×Unit)->Option (er×Unit)) (s:wb.S.ty.den): @Eq (Option (wb.S.ty.den⊕wb.Out)) (wb.body (py cN) (ip (bK Tryz.f50) 1) 2 s).val (tf cN s):=by kernel_rfl
theorem ah3 (cN:(bN×(List ak)×ah×(List (List af))×eg×Unit)->Option (er×Unit)) (s:wc.S.ty.den): @Eq (Option (wc.S.ty.den⊕wc.Out)) (wc.body (py cN) (ip (bK Tryz.f50) 2) 4 s).val (wA cN s):=by kernel_rfl
theorem ajF (cN:(bN×(List ak)×ah×(List (List af))×eg×Unit)->Option (er×Unit)) (s:wu.ty.den): @Eq (Option wx.ty.den) (k5 (py cN) Tryz.f50 wu wx s).val (s9 cN s):=by kernel_rfl
theorem GA (cN:(bN×(List ak)×ah×(List (List af))×eg×Unit)->Option (er×Unit)) (mN:ck Tryz.prog (v8 cN)):bO Tryz.prog (py cN).Γ:=bG ⟨ajC,V4,aj4,V8,alr,U3,(mN.x (by kernel_rfl)),als,aie,trivial⟩
theorem aiD (cN:(bN×(List ak)×ah×(List (List af))×eg×Unit)->Option (er×Unit)) (mN:ck Tryz.prog (v8 cN)):fT Tryz.prog (py cN) Tryz.f50.ntmps 0 (ip (bK Tryz.f50) 0):=
  rH dI (GA cN mN) dS (L:=wa) (f:=GC cN) (b:=wz cN) (m:=[]) (fun _=>rfl) (by kernel_rfl) (by kernel_rfl) trivial (by kernel_rfl) (dW _ (by kernel_rfl)) (ah1 cN)
theorem aiE (cN:(bN×(List ak)×ah×(List (List af))×eg×Unit)->Option (er×Unit)) (mN:ck Tryz.prog (v8 cN)):fT Tryz.prog (py cN) Tryz.f50.ntmps 2 (ip (bK Tryz.f50) 1):=
  rH dI (GA cN mN) dS (L:=wb) (f:=GD cN) (b:=tf cN) (m:=[]) (fun _=>rfl) (by kernel_rfl) (by kernel_rfl) trivial (by kernel_rfl) (dW _ (by kernel_rfl)) (ah2 cN)
theorem aiF (cN:(bN×(List ak)×ah×(List (List af))×eg×Unit)->Option (er×Unit)) (mN:ck Tryz.prog (v8 cN)):fT Tryz.prog (py cN) Tryz.f50.ntmps 4 (ip (bK Tryz.f50) 2):=
  rH dI (GA cN mN) dS (L:=wc) (f:=v6 cN) (b:=wA cN) (m:=[]) (fun _=>rfl) (by kernel_rfl) (by kernel_rfl) trivial (by kernel_rfl) (dW _ (by kernel_rfl)) (ah3 cN)
theorem aht (cN:(bN×(List ak)×ah×(List (List af))×eg×Unit)->Option (er×Unit)) (mN:ck Tryz.prog (v8 cN)):ck Tryz.prog ⟨50,wu,wx,s9 cN⟩:=
  rG (F:=(py cN)) dI (GA cN mN) dS (fn:=Tryz.f50) (m:=cS Tryz.f50 [0,2,4]) Tryz.func50 (by kernel_rfl) (by kernel_rfl) (by kernel_rfl) ⟨aiD cN mN,aiE cN mN,aiF cN mN,trivial⟩ (dW _ (by kernel_rfl)) (by kernel_rfl) (ajF cN)
theorem aeF: ∀n,ck Tryz.prog ⟨50,wu,wx,wg n⟩
  |0=>Dl
  |n+1=>aht _ (aeF n)
theorem ajG:ck Tryz.prog PI:=aeF jV
theorem ajH:aW PI:=(ajG).x (by kernel_rfl)
def Uy:aS:=⟨13,⟨[(0,.dat lb)],[]⟩,Cc,CO⟩
theorem akF:aW Uy:=bR (l:=[Ut,PI]) Tryz.func13 ⟨akq,ajH,trivial⟩
def xI:aS:=⟨326,⟨[(0,aK),(1,aK),(2,aK)],[]⟩,dG,oN⟩
theorem C4:aW xI:=bR (l:=[]) Tryz.func326 trivial
def F9:aS:=⟨322,e9,dG,Ic⟩
theorem RT:aW F9:=bR (l:=[xI]) Tryz.func322 ⟨C4,trivial⟩
def Gm:aS:=⟨320,e9,e9,IZ⟩
theorem SP:aW Gm:=bR (l:=[]) Tryz.func320 trivial
def F4:aS:=⟨335,e9,dG,H7⟩
theorem RO:aW F4:=bR (l:=[xI]) Tryz.func335 ⟨C4,trivial⟩
def Gl:aS:=⟨333,e9,e9,IX⟩
theorem SO:aW Gl:=bR (l:=[]) Tryz.func333 trivial
def Ju:aS:=⟨349,mW,dG,xU⟩
theorem Wt:aW Ju:=bR (l:=[pA]) Tryz.func349 ⟨q0,trivial⟩
def FU:aS:=⟨346,e9,dG,PW⟩
theorem Rm:aW FU:=bR (l:=[Ju]) Tryz.func346 ⟨Wt,trivial⟩
def F5:aS:=⟨344,e9,e9,H8⟩
theorem RP:aW F5:=bR (l:=[]) Tryz.func344 trivial
def Jc:aS:=⟨357,hT,dG,xM⟩
theorem Wk:aW Jc:=bR (l:=[OI,xI]) Tryz.func357 ⟨ael,C4,trivial⟩
def FY:aS:=⟨353,e9,dG,PY⟩
theorem Rp:aW FY:=bR (l:=[Jc]) Tryz.func353 ⟨Wk,trivial⟩
def F6:aS:=⟨351,e9,e9,H9⟩
theorem RQ:aW F6:=bR (l:=[]) Tryz.func351 trivial
def FM:aS:=⟨363,e9,dG,Pr⟩
theorem aeI:aW FM:=bR (l:=[Jc]) Tryz.func363 ⟨Wk,trivial⟩
def FP:aS:=⟨361,e9,e9,PS⟩
theorem Ri:aW FP:=bR (l:=[]) Tryz.func361 trivial
def FF:aS:=⟨369,e9,dG,Pw⟩
theorem aeO:aW FF:=bR (l:=[xI,Ju]) Tryz.func369 ⟨C4,Wt,trivial⟩
def F0:aS:=⟨367,e9,e9,P0⟩
theorem Rr:aW F0:=bR (l:=[]) Tryz.func367 trivial
def Jb:aS:=⟨58,e9,dG,oh⟩
noncomputable def akY:ba:=ko fV (Cs fV (gi [F9,Gm,F4,Gl,FU,F5,FY,F6,FM,FP,FF,F0]) 110 Tryz.f110 (gi [F9,Gm,F4,Gl,FU,F5,FY,F6,FM,FP,FF,F0])) (fun k st=>.fail) 0
theorem Wj:aW Jb:=cc (F:=akY) (fn:=Tryz.f58) (m:=[]) (CQ (by kernel_rfl) (C2 (F:=(ko fV (gi [F9,Gm,F4,Gl,FU,F5,FY,F6,FM,FP,FF,F0]) (fun _ _=>.fail) 0)) dI (bG ⟨RT,SP,RO,SO,Rm,RP,Rp,RQ,aeI,Ri,aeO,Rr,trivial⟩) dS Tryz.func110 (by kernel_rfl) (by kernel_rfl) (by kernel_rfl)) (bG ⟨RT,SP,RO,SO,Rm,RP,Rp,RQ,aeI,Ri,aeO,Rr,trivial⟩)) Tryz.func58 trivial
def vi:aS:=⟨171,p0,iU,sA⟩
def at7:ba:=ko fV (gi []) (fun _ _=>.fail) 0
theorem auf:ck Tryz.prog vi:=
  Yc (F:=at7) dI (bG trivial) dS (fn:=Tryz.f171) Tryz.func171 (by kernel_rfl) (by kernel_rfl) (by kernel_rfl) (by kernel_rfl) (by kernel_rfl) (fun s=>(decide ((List.length ([]:List ak)+List.length s.1)*40<=bm))) (fun s=>(s.1,())) (fun s=>([],())) (fun s=>List.length s.1) (fun s=>rfl) (fun s=>by kernel_rfl) (fun s=>by kernel_rfl) (fun s h=>congrArg (fun l=>(l,())) (List.eq_nil_of_length_eq_zero h).symm)
theorem EE:aW vi:=auf.x (by kernel_rfl)
def My:aS:=⟨327,⟨[(0,.own bd 0),(1,aK),(2,.own bd 1)],[.arr 58 bd false,.arr 58 bd false]⟩,⟨[(0,.own bd 2)],[.gone,.arr 58 bd false,.arr 58 bd false]⟩,EP⟩
def acZ:ba:=ko fV (yB 328 (FL bd) (gi [])) (fun _ _=>.fail) 2
theorem atU:bO Tryz.prog acZ.Γ:=Xk (af8 dI (T:=64) (T2:=4) (t:=bd) (by kernel_rfl) (by kernel_rfl) (by kernel_rfl) Tryz.func328 (by kernel_rfl) (by kernel_rfl) (by kernel_rfl) (by kernel_rfl)) (bG trivial)
theorem atV:ck Tryz.prog My:=
  amF (F:=acZ) (e:=58) (t:=bd) (bytes:=40) dI atU dS (by kernel_rfl) (by kernel_rfl) (fn:=Tryz.f327) Tryz.func327 (by kernel_rfl) (by kernel_rfl) (by kernel_rfl) (by kernel_rfl) (by kernel_rfl) rfl (fun i xs aT=>by kernel_rfl) (fun i xs z aT=>by kernel_rfl)
theorem atX:aW My:=atV.x (by kernel_rfl)
def VM:aS:=⟨325,⟨[(0,.dat (.list bd)),(1,.dat bd)],[]⟩,iU,Dd⟩
theorem alC:aW VM:=bR (l:=[Gr,vi,My]) Tryz.func325 ⟨HZ,EE,atX,trivial⟩
def F7:aS:=⟨319,ue,iU,Ia⟩
theorem RR:aW F7:=bR (l:=[VM]) Tryz.func319 ⟨alC,trivial⟩
def Pm:aS:=⟨340,B1,⟨[(0,aK),(1,aK)],[]⟩,Bd⟩
theorem Tv:aW Pm:=bR (l:=[pA,Gr]) Tryz.func340 ⟨q0,HZ,trivial⟩
def ada:aS:=⟨342,⟨[(0,.nils 58 bd),(1,aK)],[]⟩,iU,ET⟩
theorem aun:aW ada:=bR (l:=[]) Tryz.func342 trivial
def acA:bA:=dk ⟨[(0,.dat (.list (.list bd))),(3,aK),(9,.dat (.list (.list bd))),(10,aK),(11,aK)],[]⟩ 0 ⟨[(0,.dat (.list (.list bd))),(3,aK)],[]⟩
def lc:bA:=dk ⟨[(6,.own bd 0),(25,.dat (.list (.list bd))),(26,aK),(27,aK)],mg⟩ 2 ⟨[(6,.own bd 0)],mg⟩
def acW:aS:=⟨341,⟨[(0,.dat (.list (.list bd)))],[]⟩,iU,EO⟩
def Ev:ba:=b9 [ada] [(0,acA.go MI 0),(2,lc.go MJ 0)] 0
theorem MB:bO Tryz.prog (Ev).Γ:=bG ⟨aun,trivial⟩
theorem atE:cm Ev Tryz.f341 0 0:=cz (L:=acA) (b:=oK) (m:=[]) MB trivial
theorem atF:cm Ev Tryz.f341 2 1:=cz (L:=lc) (b:=oL) (m:=[]) MB trivial
theorem atT:aW acW:=cc (F:=Ev) (fn:=Tryz.f341) (m:=cS Tryz.f341 [0,2]) MB Tryz.func341 ⟨atE,atF,trivial⟩
def AP:aS:=⟨339,B1,iU,ru⟩
theorem GP:aW AP:=bR (l:=[Pm,acW]) Tryz.func339 ⟨Tv,atT,trivial⟩
end D
open Go Go.X Go.Proofs D
namespace D
def VL:aS:=⟨338,Hr,iU,Ky⟩
theorem alB:aW VL:=bR (l:=[Bn,AP]) Tryz.func338 ⟨CC,GP,trivial⟩
def Ge:aS:=⟨332,ue,iU,H5⟩
theorem RM:aW Ge:=bR (l:=[VL]) Tryz.func332 ⟨alB,trivial⟩
def FR:aS:=⟨343,ue,iU,PU⟩
theorem Rk:aW FR:=bR (l:=[AP]) Tryz.func343 ⟨GP,trivial⟩
def Td:aS:=⟨360,B1,⟨[(0,.clip bd)],[]⟩,CE⟩
theorem ajP:aW Td:=bR (l:=[Pm]) Tryz.func360 ⟨Tv,trivial⟩
def Th:bA:=dk ⟨[(1,cu),(2,cu),(7,.own bd 0),(15,aK),(16,aK)],mg⟩ 0 ⟨[(7,.own bd 0)],mg⟩
def VC:aS:=⟨358,⟨[(0,.dat (.list bd)),(1,cu),(2,cu)],[]⟩,iU,C5⟩
def Jj:ba:=b9 [nT,GG,vi,Td] [(0,Th.go IY 0)] 0
theorem Wl:bO Tryz.prog (Jj).Γ:=bG ⟨px,Ir,EE,ajP,trivial⟩
theorem akf:cm Jj Tryz.f358 0 0:=cz (L:=Th) (b:=wK) (m:=[]) Wl trivial
theorem ald:aW VC:=cc (F:=Jj) (fn:=Tryz.f358) (m:=cS Tryz.f358 [0]) Wl Tryz.func358 ⟨akf,trivial⟩
def Sj:bA:=dk ⟨[(0,.dat (.list bd)),(1,.dat (.list bd)),(5,.own bd 0)],mg⟩ 0 ⟨[(0,.dat (.list bd)),(1,.dat (.list bd)),(5,.own bd 0)],mg⟩
def PJ:aS:=⟨39,QO,iU,BG⟩
def P8:ba:=b9 [] [(0,Sj.go HY 0)] 0
theorem Ue:bO Tryz.prog (P8).Γ:=bG trivial
end D
