/- Part 5 of a proof by the abstract machine. -/
import Derived.Test.YtfeonbdbigcdcaaGreatDoorQ4
import Derived.KernelRfl
import Derived.Test.YtfeonbdbigcdcaaGreatDoorRows
import Derived.Test.YtfeonbdbigcdcaaGreatDoorProg
import Derived.Shelf.Spec.BitsCarry
import Derived.Lib.ItoaNum
import Derived.Lib.ItoaLen
import Derived.Lib.AtoiAll
import Derived.Lib.TrimByte
set_option linter.unusedVariables false
set_option maxRecDepth 100000
namespace Go.AM
open Go.Proofs Go.RowKit
open Go.Proofs.YtfeonbdbigcdcaaGreatDoor
def SI:World→Prop:=LaidI Tryz.prog Rows.sessSoFarRow.laid
def SW:World→Prop:=WOf SI
theorem swErrS {w:World} (h:SW w):∃ ev,w.cell? ⟨6,0,none⟩=some ev∧(ev = .nilIface∨∃ te pe,ev = .iface te pe):=by
 obtain ⟨w0,h1,h2,h3⟩:=h
 obtain ⟨ev,a,b⟩:=zg2 h1 (by kernel_rfl) 5 rfl (g:=6) (by kernel_rfl) (by kernel_rfl) Tryz.underlying221
 exact ⟨ev,zmc a h3,b⟩
theorem swErrR {w:World} (h:SW w):∃ ev,w.cell? ⟨7,0,none⟩=some ev∧(ev = .nilIface∨∃ te pe,ev = .iface te pe):=by
 obtain ⟨w0,h1,h2,h3⟩:=h
 obtain ⟨ev,a,b⟩:=zg2 h1 (by kernel_rfl) 4 rfl (g:=7) (by kernel_rfl) (by kernel_rfl) Tryz.underlying221
 exact ⟨ev,zmc a h3,b⟩
theorem mixed:Tryz.prog.follows .mixedOrders=true:=by kernel_rfl
abbrev V0:SV:=.int .i64
abbrev b0:List (List SV):=[[V0,V0]]
abbrev V1:SV:=.sl .u8 .unk
abbrev v1:SV:=.const (.ref 0 0)
abbrev V2:SV:=.int .u8
abbrev V3:SV:=.agg [V2,V0,V2,V0,V2,V0]
abbrev V4:SV:=.agg [V0,V0]
abbrev V5:SV:=.int .u32
abbrev V6:SV:=.agg [.str,.str]
abbrev V7:SV:=.int .u64
abbrev r8:List SV:=[.bool,V7,V0]
abbrev v9:SV:=.const (.ref 1 0)
abbrev V8:SV:=.agg [.bool,V7,V0]
abbrev v15:SV:=.sl Y7 (.own 0)
abbrev v16:SV:=.const (.ref 5 0)
abbrev r17:List SV:=[V1,V0,V0,V0,.bool]
abbrev b18:List (List SV):=[[V0,V0],[v15],[V0],[V0,V0],[v16],r17,[v16]]
abbrev e19:List (Nat×SV):=[(0,v16),(1,V0),(2,V0),(11,.bool)]
abbrev e20:List (Nat×SV):=[(0,v16),(1,V0)]
abbrev e21:List (Nat×SV):=[(0,v16)]
abbrev e24:List (Nat×SV):=[(5,V7),(6,V0)]
abbrev e25:List (Nat×SV):=[(2,V7),(3,V0),(4,V0)]
abbrev v26:SV:=.const (.ref 6 0)
abbrev b28:List (List SV):=[[V0,V0],[v15],[V0],[V0,V0],[v16],r17]
abbrev r31:List SV:=[(.sl .str (.own 1)),(.const (.mref 6))]
abbrev v32:SV:=.sl Y3 (.own 2)
abbrev r34:List SV:=[.str,V0,v32,V0,(.sl Y4 (.own 3)),V0]
abbrev r37:List SV:=[.str,V0,(.sl Y3 (.own 4)),V0,(.sl Y4 (.own 5)),V0]
abbrev v38:SV:=.const (.ref 7 0)
abbrev b39:List (List SV):=[[V0,V0],[v15],[V0],[V0,V0],[v16],r17,[.mp],r31,[v16],r34,r37,[v38],[v16],[V0],[V0],[V0],[V0,V0],[V0,V0],[V0]]
abbrev t40:List Bool:=[true,true,true,true,true,true]
abbrev b41:List (List SV):=[[V0,V0],[v15],[V0],[V0,V0],[v16],r17,[.mp],r31,[v16],r34,r37,[v38],[v16],[V0],[V0],[V0],[V0,V0],[V0,V0],[V0],[v16]]
abbrev b46:List (List SV):=[[V0,V0],[v15],[V0],[V0,V0],[v16],r17,[.mp],r31,[v16],r34,r37,[v38],[v16],[V0],[V0],[V0],[V0,V0],[V0,V0],[V0],[V0,V0]]
abbrev b47:List (List SV):=[[V0,V0],[v15],[V0],[V0,V0],[v16],r17,[.mp],r31,[v16],r34,r37,[v38],[v16],[V0],[V0],[V0],[V0,V0],[V0,V0],[V0],[V0,V0],[v16]]
abbrev e49:List (Nat×SV):=[(0,(.const (.fn 100 [] [(.ref 20 0)]))),(5,V7),(6,V0)]
abbrev e51:List (Nat×SV):=[(1,(.const (.ref 20 0)))]
abbrev b52:List (List SV):=[[V0,V0],[v15],[V0],[V0,V0],[v16],r17,[.mp],r31,[v16],r34,r37,[v38],[v16],[V0],[V0],[V0],[V0,V0],[V0,V0],[V0],[V0,V0],[V0]]
abbrev b53:List (List SV):=[[V0,V0],[v15],[V0],[V0,V0],[v16],r17,[.mp],r31,[v16],r34,r37,[v38],[v16],[V0],[V0],[V0],[V0,V0],[V0,V0],[V0],[V0,V0],[V0],[V0,V0]]
abbrev e56:List (Nat×SV):=[(8,.bool)]
abbrev e57:List (Nat×SV):=[(0,v38),(1,v16),(2,V0),(3,V0),(10,V7)]
abbrev e58:List (Nat×SV):=[(8,.str)]
abbrev e59:List (Nat×SV):=[(0,v38),(1,v16),(2,V0),(3,V0)]
abbrev b62:List (List SV):=[[V0,V0],[v15],[V0],[V0,V0],[v16],r17,[.mp],r31,[v16],r34,r37,[v38],[v16],[V0],[V0],[V0]]
abbrev e63:List (Nat×SV):=[(0,v38),(1,v16),(2,V0)]
abbrev e64:List (Nat×SV):=[(6,.str)]
abbrev v68:SV:=.const (.ref 11 0)
abbrev v69:SV:=.const (.ref 12 0)
abbrev v70:SV:=.const (.ref 13 0)
abbrev v71:SV:=.const (.ref 14 0)
abbrev v72:SV:=.const (.ref 15 0)
abbrev e73:List (Nat×SV):=[(5,V0),(6,v68),(7,v69),(8,v70),(9,v71),(10,v72)]
abbrev b74:List (List SV):=[[V0,V0],[v15],[V0],[V0,V0],[v16],r17,[.mp],r31,[v16],r34,r37]
abbrev e75:List (Nat×SV):=[(12,.str)]
abbrev b79:List (List SV):=[[V0,V0],[v15],[V0],[V0,V0],[v16],r17,[.mp],r31,[v16],r34,r37,[v16],[V0],[V0],[v16]]
abbrev b83:List (List SV):=[[V0,V0],[v15],[V0],[V0,V0],[v16],r17,[.mp],r31,[v16],r34,r37,[v16],[V0],[V0]]
abbrev b88:List (List SV):=[[V0,V0],[v15],[V0],[V0,V0],[v16],r17,[.mp],r31,[v16],r34,r37,r8,[v16]]
abbrev b92:List (List SV):=[[V0,V0],[v15],[V0],[V0,V0],[v16],r17,[.mp],r31,[v16],r34,r37,r8]
abbrev b93:List (List SV):=[[V0,V0],[v15],[V0],[V0,V0],[v16],r17,[.mp],r31,[v16],r34,r37,r8,r8,[v16]]
abbrev b98:List (List SV):=[[V0,V0],[v15],[V0],[V0,V0],[v16],r17,[.mp],r31,[v16],r34,r37,r8,r8,[V0,V0]]
abbrev v101:SV:=.const (.ref 8 0)
abbrev v102:SV:=.const (.ref 9 0)
abbrev v103:SV:=.const (.ref 10 0)
abbrev r106:List SV:=[.str,.str]
abbrev b107:List (List SV):=[[V0,V0],[v15],[V0],[V0,V0],[v16],r17,[.mp],r31,[v16],r34,r37,r106,[v38],[v16],[V0],[V0],[V0],[V0,V0],[V0,V0],[V0]]
abbrev b108:List (List SV):=[[V0,V0],[v15],[V0],[V0,V0],[v16],r17,[.mp],r31,[v16],r34,r37,r106,[v38],[v16],[V0],[V0],[V0],[V0,V0],[V0,V0],[V0],[v16]]
abbrev b109:List (List SV):=[[V0,V0],[v15],[V0],[V0,V0],[v16],r17,[.mp],r31,[v16],r34,r37,r106,[v38],[v16],[V0],[V0],[V0],[V0,V0],[V0,V0],[V0],[V0,V0]]
abbrev b110:List (List SV):=[[V0,V0],[v15],[V0],[V0,V0],[v16],r17,[.mp],r31,[v16],r34,r37,r106,[v38],[v16],[V0],[V0],[V0],[V0,V0],[V0,V0],[V0],[V0,V0],[v16]]
abbrev b115:List (List SV):=[[V0,V0],[v15],[V0],[V0,V0],[v16],r17,[.mp],r31,[v16],r34,r37,r106,[v38],[v16],[V0],[V0],[V0],[V0,V0],[V0,V0],[V0],[V0,V0],[V0]]
abbrev b116:List (List SV):=[[V0,V0],[v15],[V0],[V0,V0],[v16],r17,[.mp],r31,[v16],r34,r37,r106,[v38],[v16],[V0],[V0],[V0],[V0,V0],[V0,V0],[V0],[V0,V0],[V0],[V0,V0]]
abbrev b121:List (List SV):=[[V0,V0],[v15],[V0],[V0,V0],[v16],r17,[.mp],r31,[v16],r34,r37,r106,[v38],[v16],[V0],[V0],[V0]]
abbrev b127:List (List SV):=[[V0,V0],[v15],[V0],[V0,V0],[v16],r17,[.mp],r31,[v16],r34,r37,r106]
abbrev b135:List (List SV):=[[V0,V0],[v15],[V0],[V0,V0],[v16],r17,[.mp],r31,[v16],r34]
abbrev t136:List Bool:=[true,true,true,true]
abbrev b140:List (List SV):=[[V0,V0],[v15],[V0],[V0,V0],[v16],r17,[.mp],r31]
abbrev t141:List Bool:=[true,true]
abbrev V9:SV:=.sl Y7 .unk
abbrev V10:SV:=.sl Y3 .unk
abbrev V11:SV:=.sl Y4 .unk
abbrev V12:SV:=.agg [.str,V0,V10,V0,V11,V0]
abbrev b144:List (List SV):=[[.str],[V0,V0],[V0]]
abbrev v145:SV:=.const (.ref 2 0)
abbrev b148:List (List SV):=[r8,[V0,V0],[V0,V0],r8]
abbrev v149:SV:=.const (.ref 3 0)
abbrev b154:List (List SV):=[[V0,V0],[V0,V0]]
abbrev V13:SV:=.agg [V2,V2]
abbrev b157:List (List SV):=[[V0,V0],[V0,V0],[V0,V0],[V0]]
abbrev r163:List SV:=[.str,V0,(.sl Y3 (.own 0)),V0,(.sl Y4 (.own 1)),V0]
abbrev b164:List (List SV):=[[.str],r163,[V0,V0],[V0],r34]
abbrev v165:SV:=.const (.ref 4 0)
abbrev r167:List SV:=[.str,V0,V10,V0,V11,V0]
abbrev b171:List (List SV):=[[.str],r163,[V0,V0],[V0],r34,r8,[V0,V0]]
abbrev v173:SV:=.const (.fn 138 [] [(.ref 3 0),(.ref 0 0)])
abbrev V14:SV:=.sl .str .unk
abbrev r178:List SV:=[(.row Y4)]
abbrev b179:List (List SV):=[r178,r178,r178]
abbrev V15:SV:=.agg [.str,.str,.str,.str,.str,.str]
abbrev v183:SV:=.sl Y4 (.own 0)
abbrev r187:List SV:=[.str,V0,v32,V0,V11,V0,V0,V0]
abbrev b188:List (List SV):=[r163,[V0,V0],r187,[V0,V0],[V0,V0]]
abbrev t189:List Bool:=[true,true,true]
abbrev V16:SV:=.agg [.str,(.const (.fn 216 [(.ref 2 0)] [])),.str,(.const (.fn 217 [(.ref 2 0)] [])),.str,(.const (.fn 218 [(.ref 2 0)] []))]
abbrev b194:List (List SV):=[r163,[V0,V0],r187,[V0,V0]]
abbrev v195:SV:=.const (.imms 2 [(.fn 154 [(.ref 2 0)] []),(.fn 155 [(.ref 2 0)] [])])
abbrev b198:List (List SV):=[r163,[V0,V0],r34,[V0,V0],[.str]]
abbrev v199:SV:=.const (.yield 0)
abbrev v201:SV:=.const .nilp
abbrev r203:List SV:=[V0,v9,v201,(.const (.fn 24 [(.ref 0 0)] [])),.bool,.bool]
abbrev v204:SV:=.sl .u8 (.own 0)
abbrev r205:List SV:=[V0,V0,V0,v204,.bool]
abbrev v206:SV:=.sl Y9 (.own 1)
abbrev v207:SV:=.sl Y1 (.own 2)
abbrev b208:List (List SV):=[r203,r205,[v206],[v1],[V1],[v9],[v207],[V1]]
abbrev v209:SV:=.const (.yield 1)
abbrev v211:SV:=.sl .u8 (.own 1)
abbrev r212:List SV:=[V0,V0,V0,v211,.bool]
abbrev v213:SV:=.sl Y9 (.own 2)
abbrev t216:List Bool:=[true,true,true,false]
abbrev t219:List Bool:=[true,true,false]
abbrev v220:SV:=.sl Y9 (.own 0)
abbrev e224:List (Nat×SV):=[(8,v1),(9,V0),(10,v220)]
abbrev r226:List SV:=[V0,v201,v9,(.const (.fn 26 [(.ref 0 0)] [])),.bool,.bool]
abbrev r227:List SV:=[V0,V0,v204,V0,.bool]
abbrev v228:SV:=.sl Y11 (.own 2)
abbrev b229:List (List SV):=[r226,r227,[v206],[v1],[V1],[v228],[v9],[V1]]
abbrev v231:SV:=.sl .u8 (.own 3)
abbrev r233:List SV:=[V0,V0,v211,V0,.bool]
abbrev V17:SV:=.sl Y9 .unk
abbrev b239:List (List SV):=[r167,r167]
abbrev e242:List (Nat×SV):=[(4,.bool)]
abbrev V18:SV:=.agg [V0,V0,V0,V9,V0,V0]
abbrev V19:SV:=.sl Y0 .unk
abbrev v245:SV:=.sl (.sl .u8) (.own 0)
abbrev V20:SV:=.sl (.sl .u8) .unk
abbrev e250:List (Nat×SV):=[(6,.bool)]
abbrev r252:List SV:=[V0,v145,v201,(.const (.fn 24 [(.ref 1 0)] [])),.bool,.bool]
abbrev b253:List (List SV):=[[V0,V0],r252,r212]
abbrev e254:List (Nat×SV):=[(0,V1),(4,v1),(7,v9),(9,V0),(10,V20),(11,v220),(12,V0),(13,V0),(16,V17),(18,V0)]
abbrev b255:List (List SV):=[[V0,V0],r252,r205]
abbrev e256:List (Nat×SV):=[(0,V1),(4,v1),(7,v9),(9,V0),(10,V20),(11,v220),(12,V0),(13,V0)]
abbrev v257:SV:=.sl .u8 (.own 2)
abbrev r258:List SV:=[V0,V0,V0,v257,.bool]
abbrev b259:List (List SV):=[[V0,V0],r252,r258]
abbrev e260:List (Nat×SV):=[(0,V1),(4,v1),(7,v9),(9,V0),(10,V20),(11,v220),(12,V0),(13,V0),(14,v206)]
abbrev e261:List (Nat×SV):=[(0,V1),(4,v1),(7,v9),(9,V0),(10,V20),(11,v220),(12,V0),(13,V0),(14,v206),(15,V0)]
abbrev v262:SV:=.sl Y9 (.own 3)
abbrev e264:List (Nat×SV):=[(0,v199),(1,v165),(17,v207),(18,V0),(19,V0)]
abbrev b267:List (List SV):=[[V0,V0],r252,r258,[v262],[v9],[V1],[v145],[(.sl Y1 (.own 4))],[V1]]
abbrev t268:List Bool:=[true,false,true,true,true]
abbrev v271:SV:=.sl Y9 (.own 4)
abbrev t274:List Bool:=[true,false,true,true,true,false]
abbrev t275:List Bool:=[true,false,true,true,false]
abbrev e276:List (Nat×SV):=[(0,V1),(2,V19),(4,v1),(7,v9),(9,V0)]
abbrev e277:List (Nat×SV):=[(0,V1),(2,V19),(4,v1),(7,v9),(8,V0)]
abbrev r279:List SV:=[V0,v201,v145,(.const (.fn 26 [(.ref 1 0)] [])),.bool,.bool]
abbrev b280:List (List SV):=[[V0,V0],r279,r233]
abbrev b281:List (List SV):=[[V0,V0],r279,r227]
abbrev r282:List SV:=[V0,V0,v257,V0,.bool]
abbrev b283:List (List SV):=[[V0,V0],r279,r282]
abbrev e285:List (Nat×SV):=[(0,v199),(1,v165),(20,v228),(21,V0),(22,V0)]
abbrev v287:SV:=.sl Y11 (.own 4)
abbrev b288:List (List SV):=[[V0,V0],r279,r282,[v262],[v9],[V1],[v287],[v145],[V1]]
def tab:Tree TI:=.node 131 (.node 65 (.node 35 (.node 25 (.node 9 (.node 4 (.one 3 ⟨.int .i64,1,8,false,[(.int .i64 (0:Int))],some Y0,false⟩) (.node 5 (.one 4 ⟨.bool,1,1,false,[(.bool false)],some .bool,false⟩) (.one 5 ⟨.int .u8,1,1,false,[(.int .u8 (0:Int))],some .u8,false⟩))) (.node 22 (.one 9 ⟨.str,1,16,false,[(.str [])],some .str,false⟩) (.node 24 (.one 22 ⟨.slice 5,1,24,false,[.sl .u8 [] .full],some (.sl .u8),false⟩) (.one 24 ⟨.struct [(0,3),(1,3)],2,16,true,[(.int .i64 (0:Int)),(.int .i64 (0:Int))],some Y10,true⟩)))) (.node 28 (.node 26 (.one 25 ⟨.ptr,1,8,false,[.nilp],none,false⟩) (.node 27 (.one 26 ⟨.slice 37,1,24,false,[.sl Y9 [] .full],some Y12,false⟩) (.one 27 ⟨.int .i64,1,8,false,[(.int .i64 (0:Int))],some Y0,false⟩))) (.node 32 (.node 31 (.one 28 ⟨.other,1,0,false,[.any],none,false⟩) (.one 31 ⟨.func,1,8,false,[.nilfn],none,false⟩)) (.node 33 (.one 32 ⟨.func,1,8,false,[.nilfn],none,false⟩) (.one 33 ⟨.other,1,0,false,[.any],none,false⟩))))) (.node 53 (.node 40 (.node 37 (.one 35 ⟨.slice 63,1,24,false,[.sl Y7 [] .full],some Y8,false⟩) (.node 39 (.one 37 ⟨.struct [(0,3),(1,3),(2,3),(3,35),(4,27),(5,3)],6,64,true,[(.int .i64 (0:Int)),(.int .i64 (0:Int)),(.int .i64 (0:Int)),.sl Y7 [] .full,(.int .i64 (0:Int)),(.int .i64 (0:Int))],some Y9,false⟩) (.one 39 ⟨.slice 3,1,24,false,[.sl Y0 [] .full],some (.sl Y0),false⟩))) (.node 51 (.one 40 ⟨.slice 22,1,24,false,[.sl (.sl .u8) [] .full],some (.sl (.sl .u8)),false⟩) (.node 52 (.one 51 ⟨.ptr,1,8,false,[.nilp],none,false⟩) (.one 52 ⟨.ptr,1,8,false,[.nilp],none,false⟩)))) (.node 58 (.node 55 (.one 53 ⟨.func,1,8,false,[.nilfn],none,false⟩) (.node 57 (.one 55 ⟨.struct [(0,3),(1,51),(2,52),(3,53),(4,4),(5,4)],6,40,true,[(.int .i64 (0:Int)),.nilp,.nilp,.nilfn,(.bool false),(.bool false)],none,false⟩) (.one 57 ⟨.func,1,8,false,[.nilfn],none,false⟩))) (.node 61 (.node 60 (.one 58 ⟨.other,1,0,false,[.any],none,false⟩) (.one 60 ⟨.slice 123,1,24,false,[.sl Y3 [] .full],some Y5,false⟩)) (.node 63 (.one 61 ⟨.slice 126,1,24,false,[.sl Y4 [] .full],some Y6,false⟩) (.one 63 ⟨.struct [(0,9),(1,3),(2,60),(3,3),(4,61),(5,3)],6,88,true,[(.str []),(.int .i64 (0:Int)),.sl Y3 [] .full,(.int .i64 (0:Int)),.sl Y4 [] .full,(.int .i64 (0:Int))],some Y7,false⟩)))))) (.node 93 (.node 82 (.node 76 (.node 67 (.one 65 ⟨.other,1,0,false,[.any],none,false⟩) (.node 74 (.one 67 ⟨.other,1,0,false,[.any],none,false⟩) (.one 74 ⟨.struct [(0,3),(1,3),(2,22),(3,3),(4,4)],5,56,true,[(.int .i64 (0:Int)),(.int .i64 (0:Int)),.sl .u8 [] .full,(.int .i64 (0:Int)),(.bool false)],some Y13,false⟩))) (.node 78 (.one 76 ⟨.struct [(0,27),(1,3)],2,16,true,[(.int .i64 (0:Int)),(.int .i64 (0:Int))],some Y10,true⟩) (.node 79 (.one 78 ⟨.struct [(0,3),(1,3),(2,22),(3,76)],5,56,true,[(.int .i64 (0:Int)),(.int .i64 (0:Int)),.sl .u8 [] .full,(.int .i64 (0:Int)),(.int .i64 (0:Int))],some Y11,false⟩) (.one 79 ⟨.other,1,0,false,[.any],none,false⟩)))) (.node 87 (.node 83 (.one 82 ⟨.struct [(0,3),(1,3),(2,9),(3,4)],4,40,true,[(.int .i64 (0:Int)),(.int .i64 (0:Int)),(.str []),(.bool false)],some Y1,true⟩) (.node 86 (.one 83 ⟨.other,1,0,false,[.any],none,false⟩) (.one 86 ⟨.struct [(0,3),(1,3),(2,3),(3,22),(4,4)],5,56,true,[(.int .i64 (0:Int)),(.int .i64 (0:Int)),(.int .i64 (0:Int)),.sl .u8 [] .full,(.bool false)],some Y14,false⟩))) (.node 89 (.node 88 (.one 87 ⟨.func,1,8,false,[.nilfn],none,false⟩) (.one 88 ⟨.slice 82,1,24,false,[.sl Y1 [] .full],some Y15,false⟩)) (.node 92 (.one 89 ⟨.other,1,0,false,[.any],none,false⟩) (.one 92 ⟨.slice 78,1,24,false,[.sl Y11 [] .full],some Y16,false⟩))))) (.node 118 (.node 108 (.node 95 (.one 93 ⟨.other,1,0,false,[.any],none,false⟩) (.node 106 (.one 95 ⟨.other,1,0,false,[.any],none,false⟩) (.one 106 ⟨.func,1,8,false,[.nilfn],none,false⟩))) (.node 112 (.node 109 (.one 108 ⟨.func,1,8,false,[.nilfn],none,false⟩) (.one 109 ⟨.other,1,0,false,[.any],none,false⟩)) (.node 115 (.one 112 ⟨.func,1,8,false,[.nilfn],none,false⟩) (.one 115 ⟨.other,1,0,false,[.any],none,false⟩)))) (.node 126 (.node 121 (.one 118 ⟨.other,1,0,false,[.any],none,false⟩) (.node 123 (.one 121 ⟨.int .u64,1,8,false,[(.int .u64 (0:Int))],some Y2,false⟩) (.one 123 ⟨.struct [(0,4),(1,121),(2,3)],3,24,true,[(.bool false),(.int .u64 (0:Int)),(.int .i64 (0:Int))],some Y3,true⟩))) (.node 128 (.node 127 (.one 126 ⟨.struct [(0,9),(1,9)],2,32,true,[(.str []),(.str [])],some Y4,true⟩) (.one 127 ⟨.func,1,8,false,[.nilfn],none,false⟩)) (.node 130 (.one 128 ⟨.other,1,0,false,[.any],none,false⟩) (.one 130 ⟨.func,1,8,false,[.nilfn],none,false⟩))))))) (.node 211 (.node 162 (.node 141 (.node 136 (.node 133 (.one 131 ⟨.func,1,8,false,[.nilfn],none,false⟩) (.node 134 (.one 133 ⟨.struct [(0,130),(1,131)],2,16,true,[.nilfn,.nilfn],none,false⟩) (.one 134 ⟨.other,1,0,false,[.any],none,false⟩))) (.node 137 (.one 136 ⟨.func,1,8,false,[.nilfn],none,false⟩) (.node 138 (.one 137 ⟨.func,1,8,false,[.nilfn],none,false⟩) (.one 138 ⟨.other,1,0,false,[.any],none,false⟩)))) (.node 145 (.node 143 (.one 141 ⟨.int .u32,1,4,false,[(.int .u32 (0:Int))],some Y17,false⟩) (.node 144 (.one 143 ⟨.struct [(0,5),(1,27)],2,16,true,[(.int .u8 (0:Int)),(.int .i64 (0:Int))],some Y18,true⟩) (.one 144 ⟨.arr 3 143,6,48,true,[(.int .u8 (0:Int)),(.int .i64 (0:Int)),(.int .u8 (0:Int)),(.int .i64 (0:Int)),(.int .u8 (0:Int)),(.int .i64 (0:Int))],some Y19,false⟩))) (.node 151 (.node 148 (.one 145 ⟨.ptr,1,8,false,[.nilp],none,false⟩) (.one 148 ⟨.ptr,1,8,false,[.nilp],none,false⟩)) (.node 158 (.one 151 ⟨.func,1,8,false,[.nilfn],none,false⟩) (.one 158 ⟨.other,1,0,false,[.any],none,false⟩))))) (.node 190 (.node 168 (.node 164 (.one 162 ⟨.func,1,8,false,[.nilfn],none,false⟩) (.node 167 (.one 164 ⟨.struct [(0,22),(1,3),(2,76),(4,4)],5,56,true,[.sl .u8 [] .full,(.int .i64 (0:Int)),(.int .i64 (0:Int)),(.int .i64 (0:Int)),(.bool false)],some Y20,false⟩) (.one 167 ⟨.map 9 3,1,8,false,[.any],none,false⟩))) (.node 170 (.one 168 ⟨.slice 9,1,24,false,[.sl .str [] .full],some (.sl .str),false⟩) (.node 188 (.one 170 ⟨.struct [(0,168),(1,167)],2,32,true,[.sl .str [] .full,.any],none,false⟩) (.one 188 ⟨.func,1,8,false,[.nilfn],none,false⟩)))) (.node 203 (.node 199 (.one 190 ⟨.other,1,0,false,[.any],none,false⟩) (.node 200 (.one 199 ⟨.ptr,1,8,false,[.nilp],none,false⟩) (.one 200 ⟨.other,1,0,false,[.any],none,false⟩))) (.node 208 (.node 205 (.one 203 ⟨.func,1,8,false,[.nilfn],none,false⟩) (.one 205 ⟨.other,1,0,false,[.any],none,false⟩)) (.node 210 (.one 208 ⟨.other,1,0,false,[.any],none,false⟩) (.one 210 ⟨.func,1,8,false,[.nilfn],none,false⟩)))))) (.node 260 (.node 232 (.node 227 (.node 221 (.one 211 ⟨.other,1,0,false,[.any],none,false⟩) (.node 222 (.one 221 ⟨.iface,1,16,false,[(.err false)],none,false⟩) (.one 222 ⟨.other,1,0,false,[.any],none,false⟩))) (.node 228 (.one 227 ⟨.func,1,8,false,[.nilfn],none,false⟩) (.node 230 (.one 228 ⟨.ptr,1,8,false,[.nilp],none,false⟩) (.one 230 ⟨.struct [(0,63),(6,3),(7,3)],8,104,true,[(.str []),(.int .i64 (0:Int)),.sl Y3 [] .full,(.int .i64 (0:Int)),.sl Y4 [] .full,(.int .i64 (0:Int)),(.int .i64 (0:Int)),(.int .i64 (0:Int))],some Y21,false⟩)))) (.node 238 (.node 233 (.one 232 ⟨.func,1,8,false,[.nilfn],none,false⟩) (.node 235 (.one 233 ⟨.slice 232,1,24,false,[.nils],none,false⟩) (.one 235 ⟨.func,1,8,false,[.nilfn],none,false⟩))) (.node 246 (.node 241 (.one 238 ⟨.struct [(0,3),(1,9),(2,4)],3,32,true,[(.int .i64 (0:Int)),(.str []),(.bool false)],some Y22,true⟩) (.one 241 ⟨.other,1,0,false,[.any],none,false⟩)) (.node 247 (.one 246 ⟨.func,1,8,false,[.nilfn],none,false⟩) (.one 247 ⟨.func,1,8,false,[.nilfn],none,false⟩))))) (.node 292 (.node 284 (.node 263 (.one 260 ⟨.other,1,0,false,[.any],none,false⟩) (.node 276 (.one 263 ⟨.other,1,0,false,[.any],none,false⟩) (.one 276 ⟨.other,1,0,false,[.any],none,false⟩))) (.node 288 (.node 286 (.one 284 ⟨.other,1,0,false,[.any],none,false⟩) (.one 286 ⟨.other,1,0,false,[.any],none,false⟩)) (.node 290 (.one 288 ⟨.arr 2 5,2,2,true,[(.int .u8 (0:Int)),(.int .u8 (0:Int))],some Y23,false⟩) (.one 290 ⟨.func,1,8,false,[.nilfn],none,false⟩)))) (.node 301 (.node 299 (.one 292 ⟨.arr 6 9,6,96,true,[(.str []),(.str []),(.str []),(.str []),(.str []),(.str [])],some Y24,false⟩) (.node 300 (.one 299 ⟨.func,1,8,false,[.nilfn],none,false⟩) (.one 300 ⟨.struct [(0,9),(1,299)],2,24,true,[(.str []),.nilfn],none,false⟩))) (.node 326 (.node 302 (.one 301 ⟨.arr 3 300,6,72,true,[(.str []),.nilfn,(.str []),.nilfn,(.str []),.nilfn],none,false⟩) (.one 302 ⟨.func,1,8,false,[.nilfn],none,false⟩)) (.node 331 (.one 326 ⟨.other,1,0,false,[.any],none,false⟩) (.one 331 ⟨.func,1,8,false,[.nilfn],none,false⟩)))))))
theorem zvg:tab.all (tiOK Tryz.prog)=true:=by kernel_rfl
abbrev FO (g:Nat) (ps:List SV) (rv:RV) (f:arrL ps (Option rv.den)):Prop:=FnOK Tryz.prog SW g ps rv (appL ps f)
theorem mx {X:Type} {fns:List (Nat×Func)} {C:List (Nat×(List AV→Option Entry))} {loops:List (Nat×Nat×List (LoopI X))} {rfs:List (Nat×Nat×Func×List Nat×Nat)}
 {conf : List (Nat × Nat × List (Nat × Nat))} {unroll : List (Nat × Nat × Nat)} {cuts : List (Nat × Nat × List (CutI X))} {rows : List (Nat × Ty)} {pr : List (Nat × Pr)} {bt : Option (Nat × Nat)} {keep : List Nat} (hf : AllT (fun p => Tryz.prog.funcs[p.1]? = some p.2 ∧ p.2.name ≠ "runtime.NumGoroutine") fns)
 (hC:AllT (fun p=>OrcOK Tryz.prog SW p.1 p.2) C) (hc:AllT (fun p=>okC (mkCx tab.get fns C loops rfs conf unroll cuts rows pr bt keep) p.1 p.2.ntmps (p.2.body.getD .skip)) fns) (hr:AllT (fun q=>Tryz.prog.funcs[q.1]? = some q.2.2.1∧lkp fns q.1=some q.2.2.1) rfs)
 (hp:AllT (fun p=>PrOK Tryz.prog SW p.1 p.2) pr:=by exact trivial):CxOK Tryz.prog SW (mkCx tab.get fns C loops rfs conf unroll cuts rows pr bt keep):=ztr mixed (tabOK zvg) hf hC hc hr hp
def q0:Shape:=⟨[(0,V1),(4,v1),(13,V3),(14,V0)],b0,[],[],[],1,0,0⟩
def q1:Shape:=⟨[(0,V1),(4,v1)],b0,[],[],[],1,0,0⟩
def q2:Shape:=⟨[(2,V0),(3,V0),(4,v1)],b0,[],[],[],1,0,0⟩
noncomputable def ql1 (X:Type) (n:Nat):LoopI X:=mkLi 8 0 0 0 q0 [(0,q1)] [q2] n fun m ks=>F.zj.L2 n (xe q1 ks 0) (xr q2 ks) m
def q3:Shape:=⟨[(0,V1),(4,v1),(7,V0),(8,V0)],b0,[],[],[],1,0,0⟩
def q4:Shape:=⟨[(4,v1)],b0,[],[],[],1,0,0⟩
noncomputable def ql2 (X:Type) (n:Nat):LoopI X:=mkLi 8 0 0 0 q3 [(3,q4)] [q2] n fun m ks=>F.zj.L10 n (xe q4 ks 3) (xr q2 ks) m
noncomputable def cx57 (X:Type) (n:Nat):Cx X:=mkCx tab.get [(57,Tryz.f57)] [] [(57,2,[ql1 X n]),(57,10,[ql2 X n])] [] [] []
theorem qo1 (X:Type) (n:Nat):LO (cx57 X n) 57 Tryz.f57 0 (ql1 X n):=lok
theorem qo2 (X:Type) (n:Nat):LO (cx57 X n) 57 Tryz.f57 1 (ql2 X n):=lok
theorem zty (X:Type) (n:Nat):CxOK Tryz.prog SW (cx57 X n):=mx (T1 (J Tryz.func57 (by decide))) trivial (T1 (okc (J (T1 (qo1 X n)) (T1 (T1 (qo2 X n)))) trivial)) trivial
abbrev P57:List SV:=[V1]
abbrev R57:RV:=.many [V0,V0,V4]
theorem ok57 (n:Nat):FO 57 P57 R57 (F.zj n):=zh WOf.st (zty _ n) (d:=8) fun _=>by kernel_rfl
noncomputable def o57 (n:Nat):=oc 57 P57 R57 (F.zj n)
noncomputable def cx55 (X:Type) (n:Nat):Cx X:=mkCx tab.get [(55,Tryz.f55)] [o57 n] [] [] [] []
theorem ztz (X:Type) (n:Nat):CxOK Tryz.prog SW (cx55 X n):=mx (T1 (J Tryz.func55 (by decide))) (T1 (zd (ok57 n))) (T1 (okc trivial trivial)) trivial
abbrev P55:List SV:=[V1]
abbrev R55:RV:=.many [V0,V4]
theorem ok55 (n:Nat):FO 55 P55 R55 (F.zal n):=zh WOf.st (ztz _ n) (d:=8) fun _=>by kernel_rfl
noncomputable def o55 (n:Nat):=oc 55 P55 R55 (F.zal n)
noncomputable def cx70 (X:Type) (n:Nat):Cx X:=mkCx tab.get [(70,Tryz.f70)] [] [] [] [] []
theorem zt0 (X:Type) (n:Nat):CxOK Tryz.prog SW (cx70 X n):=mx (T1 (J Tryz.func70 (by decide))) trivial (T1 (okc trivial trivial)) trivial
abbrev P70:List SV:=[V1,V1]
abbrev R70:RV:=.one .bool
theorem ok70 (n:Nat):FO 70 P70 R70 (F.zaw n):=zh WOf.st (zt0 _ n) (d:=8) fun _=>by kernel_rfl
noncomputable def o70 (n:Nat):=oc 70 P70 R70 (F.zaw n)
noncomputable def cx71 (X:Type) (n:Nat):Cx X:=mkCx tab.get [(71,Tryz.f71)] [] [] [] [] []
theorem zt1 (X:Type) (n:Nat):CxOK Tryz.prog SW (cx71 X n):=mx (T1 (J Tryz.func71 (by decide))) trivial (T1 (okc trivial trivial)) trivial
abbrev P71:List SV:=[V5]
abbrev R71:RV:=.one V1
theorem ok71 (n:Nat):FO 71 P71 R71 (F.za3 n):=zh WOf.st (zt1 _ n) (d:=8) fun _=>by kernel_rfl
noncomputable def o71 (n:Nat):=oc 71 P71 R71 (F.za3 n)
def q5:Shape:=⟨[(0,V5),(3,V0)],[],[],[],[],0,0,0⟩
def q6:Shape:=⟨[(0,V5)],[],[],[],[],0,0,0⟩
noncomputable def ql3 (X:Type) (n:Nat):LoopI X:=mkLi 8 0 0 0 q5 [(0,q6)] [] n fun m ks=>F.zai.L2 n (xe q6 ks 0) m
noncomputable def cx159 (X:Type) (n:Nat):Cx X:=mkCx tab.get [(159,Tryz.f159)] [] [(159,2,[ql3 X n])] [] [] []
theorem qo3 (X:Type) (n:Nat):LO (cx159 X n) 159 Tryz.f159 0 (ql3 X n):=lok
theorem zrd (X:Type) (n:Nat):CxOK Tryz.prog SW (cx159 X n):=mx (T1 (J Tryz.func159 (by decide))) trivial (T1 (okc (T1 (T1 (qo3 X n))) trivial)) trivial
abbrev P159:List SV:=[V5]
abbrev R159:RV:=.one V5
theorem ok159 (n:Nat):FO 159 P159 R159 (F.zai n):=zh WOf.st (zrd _ n) (d:=8) fun _=>by kernel_rfl
noncomputable def o159 (n:Nat):=oc 159 P159 R159 (F.zai n)
def q7:Shape:=⟨[(5,V5),(11,V1),(12,V0),(13,V0)],[],[],[],[],0,0,0⟩
def q8:Shape:=⟨[(5,V5)],[],[],[],[],0,0,0⟩
noncomputable def ql4 (X:Type) (n:Nat):LoopI X:=mkLi 8 0 0 0 q7 [(0,q8)] [] n fun m ks=>F.zad.L3 n (xe q8 ks 0) m
noncomputable def cx98 (X:Type) (n:Nat):Cx X:=mkCx tab.get [(98,Tryz.f98)] [o159 n] [(98,3,[ql4 X n])] [] [] []
theorem qo4 (X:Type) (n:Nat):LO (cx98 X n) 98 Tryz.f98 0 (ql4 X n):=lok
theorem zt2 (X:Type) (n:Nat):CxOK Tryz.prog SW (cx98 X n):=mx (T1 (J Tryz.func98 (by decide))) (T1 (zd (ok159 n))) (T1 (okc (T1 (T1 (qo4 X n))) trivial)) trivial
abbrev P98:List SV:=[V5,V1]
abbrev R98:RV:=.one V5
theorem ok98 (n:Nat):FO 98 P98 R98 (F.zad n):=zh WOf.st (zt2 _ n) (d:=8) fun _=>by kernel_rfl
noncomputable def o98 (n:Nat):=oc 98 P98 R98 (F.zad n)
noncomputable def cx72 (X:Type) (n:Nat):Cx X:=mkCx tab.get [(72,Tryz.f72)] [o98 n] [] [] [] []
theorem zt3 (X:Type) (n:Nat):CxOK Tryz.prog SW (cx72 X n):=mx (T1 (J Tryz.func72 (by decide))) (T1 (zd (ok98 n))) (T1 (okc trivial trivial)) trivial
abbrev P72:List SV:=[V1]
abbrev R72:RV:=.one V5
theorem ok72 (n:Nat):FO 72 P72 R72 (F.za5 n):=zh WOf.st (zt3 _ n) (d:=8) fun _=>by kernel_rfl
noncomputable def o72 (n:Nat):=oc 72 P72 R72 (F.za5 n)
noncomputable def cx56 (X:Type) (n:Nat):Cx X:=mkCx tab.get [(56,Tryz.f56)] [o70 n,o71 n,o72 n] [] [] [] []
theorem zt4 (X:Type) (n:Nat):CxOK Tryz.prog SW (cx56 X n):=mx (T1 (J Tryz.func56 (by decide))) (J (zd (ok70 n)) (J (zd (ok71 n)) (T1 (zd (ok72 n))))) (T1 (okc trivial trivial)) trivial
abbrev P56:List SV:=[V1]
abbrev R56:RV:=.one V0
theorem ok56 (n:Nat):FO 56 P56 R56 (F.zax n):=zh WOf.st (zt4 _ n) (d:=8) fun _=>by kernel_rfl
noncomputable def o56 (n:Nat):=oc 56 P56 R56 (F.zax n)
noncomputable def cx54 (X:Type) (n:Nat):Cx X:=mkCx tab.get [(54,Tryz.f54)] [] [] [] [] []
theorem zt5 (X:Type) (n:Nat):CxOK Tryz.prog SW (cx54 X n):=mx (T1 (J Tryz.func54 (by decide))) trivial (T1 (okc trivial trivial)) trivial
abbrev P54:List SV:=[V1]
abbrev R54:RV:=.one V1
theorem ok54 (n:Nat):FO 54 P54 R54 (F.zag n):=zh WOf.st (zt5 _ n) (d:=8) fun _=>by kernel_rfl
noncomputable def o54 (n:Nat):=oc 54 P54 R54 (F.zag n)
noncomputable def cx108 (X:Type) (n:Nat):Cx X:=mkCx tab.get [(108,Tryz.f108)] [] [] [] [] []
theorem zre (X:Type) (n:Nat):CxOK Tryz.prog SW (cx108 X n):=mx (T1 (J Tryz.func108 (by decide))) trivial (T1 (okc trivial trivial)) trivial
abbrev P108:List SV:=[V0]
abbrev R108:RV:=.one .bool
theorem ok108 (n:Nat):FO 108 P108 R108 (F.zay n):=zh WOf.st (zre _ n) (d:=8) fun _=>by kernel_rfl
noncomputable def o108 (n:Nat):=oc 108 P108 R108 (F.zay n)
noncomputable def cx111 (X:Type) (n:Nat):Cx X:=mkCx tab.get [(111,Tryz.f111)] [] [] [] [] []
theorem zrf (X:Type) (n:Nat):CxOK Tryz.prog SW (cx111 X n):=mx (T1 (J Tryz.func111 (by decide))) trivial (T1 (okc trivial trivial)) trivial
abbrev P111:List SV:=[V6,V6]
abbrev R111:RV:=.one .bool
theorem ok111 (n:Nat):FO 111 P111 R111 (F.za2 n):=zh WOf.st (zrf _ n) (d:=8) fun _=>by kernel_rfl
noncomputable def o111 (n:Nat):=oc 111 P111 R111 (F.za2 n)
noncomputable def cx168 (X:Type) (n:Nat):Cx X:=mkCx tab.get [(168,Tryz.f168)] [] [] [] [] []
theorem zrg (X:Type) (n:Nat):CxOK Tryz.prog SW (cx168 X n):=mx (T1 (J Tryz.func168 (by decide))) trivial (T1 (okc trivial trivial)) trivial
abbrev P168:List SV:=[V7]
abbrev R168:RV:=.one V0
theorem ok168 (n:Nat):FO 168 P168 R168 (F.zas n):=zh WOf.st (zrg _ n) (d:=8) fun _=>by kernel_rfl
noncomputable def o168 (n:Nat):=oc 168 P168 R168 (F.zas n)
abbrev P262:List SV:=[V7,V7]
abbrev R262:RV:=.many [V7,V7]
theorem ok262 (n:Nat):FO 262 P262 R262 (O.mul64 n):=zrb (enters Tryz.func262 (by kernel_rfl) (by decide)) Tryz.bits_Mul64 n
noncomputable def o262 (n:Nat):=oc 262 P262 R262 (O.mul64 n)
abbrev P263:List SV:=[V7,V7,V7]
abbrev R263:RV:=.many [V7,V7]
theorem ok263 (n:Nat):FO 263 P263 R263 (O.add64 n):=zrc (fun x y c hx hy hc w=>by rw [run_callFunc_extern Tryz.func263 (by kernel_rfl) (by kernel_rfl) (by kernel_rfl) (e:=Go.add64Entry) (by kernel_rfl),Go.run_add64 x y c (by omega) (by omega) (by omega) (by omega)]; simp only [Result.andThen]; congr 5<;>omega) n
noncomputable def o263 (n:Nat):=oc 263 P263 R263 (O.add64 n)
noncomputable def cx202 (X:Type) (n:Nat):Cx X:=mkCx tab.get [(202,Tryz.f202)] [o262 n,o263 n] [] [] [] []
theorem zrh (X:Type) (n:Nat):CxOK Tryz.prog SW (cx202 X n):=mx (T1 (J Tryz.func202 (by decide))) (J (zd (ok262 n)) (T1 (zd (ok263 n)))) (T1 (okc trivial trivial)) trivial
abbrev P202:List SV:=[V7,V7]
abbrev R202:RV:=.many [V7,.bool]
theorem ok202 (n:Nat):FO 202 P202 R202 (F.zaq n):=zh WOf.st (zrh _ n) (d:=8) fun _=>by kernel_rfl
noncomputable def o202 (n:Nat):=oc 202 P202 R202 (F.zaq n)
def q9:Shape:=⟨[(1,v1),(2,v9)],[r8,r8],[],[],[],2,0,0⟩
noncomputable def ql5 (X:Type) (n:Nat):LoopI X:=mkLi 8 0 0 0 q9 [(0,q9)] [] n fun m ks=>F.zg.L3 n (xe q9 ks 0) m
def q10:Shape:=⟨[(2,v9),(3,V0)],[r8,r8],[],[],[],2,0,0⟩
noncomputable def ql6 (X:Type) (n:Nat):LoopI X:=mkLi 8 0 0 0 q9 [(2,q9)] [q10] n fun m ks=>F.zg.L5 n (xe q9 ks 2) (xr q10 ks) m
noncomputable def cx203 (X:Type) (n:Nat):Cx X:=mkCx tab.get [(203,Tryz.f203)] [o202 n] [(203,3,[ql5 X n]),(203,5,[ql6 X n])] [] [] []
theorem qo5 (X:Type) (n:Nat):LO (cx203 X n) 203 Tryz.f203 0 (ql5 X n):=lok
theorem qo6 (X:Type) (n:Nat):LO (cx203 X n) 203 Tryz.f203 1 (ql6 X n):=lok
theorem zri (X:Type) (n:Nat):CxOK Tryz.prog SW (cx203 X n):=mx (T1 (J Tryz.func203 (by decide))) (T1 (zd (ok202 n))) (T1 (okc (J (T1 (qo5 X n)) (T1 (T1 (qo6 X n)))) trivial)) trivial
abbrev P203:List SV:=[V8]
abbrev R203:RV:=.many [V8,V0]
theorem ok203 (n:Nat):FO 203 P203 R203 (F.zg n):=zh WOf.st (zri _ n) (d:=8) fun _=>by kernel_rfl
noncomputable def o203 (n:Nat):=oc 203 P203 R203 (F.zg n)
noncomputable def cx169 (X:Type) (n:Nat):Cx X:=mkCx tab.get [(169,Tryz.f169)] [o203 n] [] [] [] []
theorem zrj (X:Type) (n:Nat):CxOK Tryz.prog SW (cx169 X n):=mx (T1 (J Tryz.func169 (by decide))) (T1 (zd (ok203 n))) (T1 (okc trivial trivial)) trivial
abbrev P169:List SV:=[V8]
abbrev R169:RV:=.one V0
theorem ok169 (n:Nat):FO 169 P169 R169 (F.zaz n):=zh WOf.st (zrj _ n) (d:=8) fun _=>by kernel_rfl
noncomputable def o169 (n:Nat):=oc 169 P169 R169 (F.zaz n)
noncomputable def cx255 (X:Type) (n:Nat):Cx X:=mkCx tab.get [(255,Tryz.f255)] [] [] [] [] []
theorem zrk (X:Type) (n:Nat):CxOK Tryz.prog SW (cx255 X n):=mx (T1 (J Tryz.func255 (by decide))) trivial (T1 (okc trivial trivial)) trivial
abbrev P255:List SV:=[V0]
abbrev R255:RV:=.one .bool
theorem ok255 (n:Nat):FO 255 P255 R255 (F.zar n):=zh WOf.st (zrk _ n) (d:=8) fun _=>by kernel_rfl
noncomputable def o255 (n:Nat):=oc 255 P255 R255 (F.zar n)
noncomputable def cx300 (X:Type) (n:Nat):Cx X:=mkCx tab.get [(300,Tryz.f300)] [] [] [] [] []
theorem zrl (X:Type) (n:Nat):CxOK Tryz.prog SW (cx300 X n):=mx (T1 (J Tryz.func300 (by decide))) trivial (T1 (okc trivial trivial)) trivial
abbrev P300:List SV:=[V2,V2,V2]
abbrev R300:RV:=.one .bool
theorem ok300 (n:Nat):FO 300 P300 R300 (F.zab n):=zh WOf.st (zrl _ n) (d:=8) fun _=>by kernel_rfl
noncomputable def o300 (n:Nat):=oc 300 P300 R300 (F.zab n)
noncomputable def cx256 (X:Type) (n:Nat):Cx X:=mkCx tab.get [(256,Tryz.f256)] [o300 n] [] [] [] []
theorem zrm (X:Type) (n:Nat):CxOK Tryz.prog SW (cx256 X n):=mx (T1 (J Tryz.func256 (by decide))) (T1 (zd (ok300 n))) (T1 (okc trivial trivial)) trivial
abbrev P256:List SV:=[V0,V2]
abbrev R256:RV:=.one .bool
theorem ok256 (n:Nat):FO 256 P256 R256 (F.zau n):=zh WOf.st (zrm _ n) (d:=8) fun _=>by kernel_rfl
noncomputable def o256 (n:Nat):=oc 256 P256 R256 (F.zau n)
def q11:Shape:=⟨[(0,V0),(1,.str),(11,V0),(12,V0)],[],[],[],[],0,0,0⟩
def q12:Shape:=⟨[],[],[],[],[],0,0,0⟩
def q13:Shape:=⟨[(4,V0),(5,V0)],[],[],[],[],0,0,0⟩
noncomputable def ql7 (X:Type) (n:Nat):LoopI X:=mkLi 8 0 0 0 q11 [(0,q12)] [q13] n fun m ks=>F.zz.L4 n (fun _=>xe q12 ks 0) (xr q13 ks) m
noncomputable def cx198 (X:Type) (n:Nat):Cx X:=mkCx tab.get [(198,Tryz.f198)] [o255 n,o256 n] [(198,4,[ql7 X n])] [] [] []
theorem qo7 (X:Type) (n:Nat):LO (cx198 X n) 198 Tryz.f198 0 (ql7 X n):=lok
theorem zrn (X:Type) (n:Nat):CxOK Tryz.prog SW (cx198 X n):=mx (T1 (J Tryz.func198 (by decide))) (J (zd (ok255 n)) (T1 (zd (ok256 n)))) (T1 (okc (T1 (T1 (qo7 X n))) trivial)) trivial
abbrev P198:List SV:=[V0,.str]
abbrev R198:RV:=.many [V0,V0]
theorem ok198 (n:Nat):FO 198 P198 R198 (F.zz n):=zh WOf.st (zrn _ n) (d:=8) fun _=>by kernel_rfl
noncomputable def o198 (n:Nat):=oc 198 P198 R198 (F.zz n)
def q14:Shape:=⟨[(0,V0),(4,V0),(9,V0)],[],[],[],[],0,0,0⟩
def q15:Shape:=⟨[(4,V0)],[],[],[],[],0,0,0⟩
noncomputable def ql8 (X:Type) (n:Nat):LoopI X:=mkLi 8 0 0 0 q14 [(0,q15)] [] n fun m ks=>F.zaa.L5 n (xe q15 ks 0) m
noncomputable def cx221 (X:Type) (n:Nat):Cx X:=mkCx tab.get [(221,Tryz.f221)] [o255 n,o256 n] [(221,5,[ql8 X n])] [] [] []
theorem qo8 (X:Type) (n:Nat):LO (cx221 X n) 221 Tryz.f221 0 (ql8 X n):=lok
theorem zro (X:Type) (n:Nat):CxOK Tryz.prog SW (cx221 X n):=mx (T1 (J Tryz.func221 (by decide))) (J (zd (ok255 n)) (T1 (zd (ok256 n)))) (T1 (okc (T1 (T1 (qo8 X n))) trivial)) trivial
abbrev P221:List SV:=[V0]
abbrev R221:RV:=.many [V0,V0]
theorem ok221 (n:Nat):FO 221 P221 R221 (F.zaa n):=zh WOf.st (zro _ n) (d:=8) fun _=>by kernel_rfl
noncomputable def o221 (n:Nat):=oc 221 P221 R221 (F.zaa n)
theorem bclone (n:Nat) {l:List UInt8} (h:l.length≤70368744177664):F.zag n l=some l:=by
 unfold F.zag
 cases l with
 | nil=>exact if_pos rfl
 | cons x l =>
  simp only [List.length_cons] at h
  simp only [List.isEmpty_cons,cond_false,List.length_cons,List.nil_append]
  rw [decide_eq_true (by omega)]; rfl
def q16:Shape:=⟨e19,b18,[true],[],[],7,1,0⟩
def q17:Shape:=⟨[],b18,[true],[],[],7,1,0⟩
noncomputable def ql9 (X:Type) (n:Nat):CutI X:=mkCi 9 7 1 0 q16 [q17] [] [] fun ks a b c d e f g h i j k l o p q=>F.za.C1_cur_Cur_Fail n (fun r s=>xn q17 ks d e f g h i j k r s p q) a b c l o
def q18:Shape:=⟨e20,b18,[true],[],[],7,1,0⟩
def q19:Shape:=⟨[(4,V1)],b18,[true],[],[],7,1,0⟩
noncomputable def ql10 (X:Type) (n:Nat):CutI X:=mkCi 10 7 1 0 q18 [] [] [q19] fun ks a b c d e f g h i j k l o=>F.za.C1_cur_Cur_Take n (fun p q r s=>xr q19 ks p b c d e f g h q r s l o) a h i j k
def q20:Shape:=⟨e21,b18,[true],[],[],7,1,0⟩
def q21:Shape:=⟨[(2,V2)],b18,[true],[],[],7,1,0⟩
noncomputable def ql11 (X:Type) (n:Nat):CutI X:=mkCi 11 7 1 0 q20 [] [] [q21] fun ks a b c d e f g h i j k l=>F.za.C1_cur_Cur_Byte n (fun o p q r=>xr q21 ks o a b c d e f g p q r k l) g h i j
def q22:Shape:=⟨[(0,(.const (.fn 100 [] [(.ref 6 0)]))),(5,V7),(6,V0)],b18,[true],[],[],7,1,0⟩
def q23:Shape:=⟨e24,b18,[true],[],[],7,1,0⟩
def q24:Shape:=⟨e25,b18,[true],[],[],7,1,0⟩
noncomputable def ql12 (X:Type) (n:Nat):LoopI X:=mkLi 13 7 1 0 q22 [(0,q23)] [q24] n fun m ks a b c d e f g h i j k l o p=>F.za.L3_varint_read n (fun q r s t u=>xe q23 ks 0 q r c d e f g h i s t u o p) (fun q r s t u v=>xr q24 ks q r s c d e f g h i t u v o p) m a b i j k l
noncomputable def ql13 (X:Type) (n:Nat):CutI X:=mkCi 13 7 1 0 q16 [q17] [] [] fun ks a b c d e f g h i j k l o p q=>F.za.C1_cur_Cur_Fail n (fun r s=>xn q17 ks d e f g h i j k r s p q) a b c l o
def q25:Shape:=⟨[(1,v26)],b18,[true],[],[],7,0,0⟩
def q26:Shape:=⟨[(2,V7)],b28,[true],[],[],6,0,0⟩
noncomputable def ql14 (X:Type) (n:Nat):CutI X:=mkCi 14 6 0 0 q25 [] [] [q26] fun ks a b c d e f g h i j k l=>F.za.C1_varint_Read n (fun o p q r=>xr q26 ks o a b c d e f g p q r k l) g h i j
def q27:Shape:=⟨e19,b28,[true],[],[],6,1,0⟩
def q28:Shape:=⟨[],b28,[true],[],[],6,1,0⟩
noncomputable def ql15 (X:Type) (n:Nat):CutI X:=mkCi 14 6 1 0 q27 [q28] [] [] fun ks a b c d e f g h i j k l o p q=>F.za.C1_cur_Cur_Fail n (fun r s=>xn q28 ks d e f g h i j k r s p q) a b c l o
def q29:Shape:=⟨e19,b39,t40,[],[],19,6,0⟩
def q30:Shape:=⟨[],b39,t40,[],[],19,6,0⟩
noncomputable def ql16 (X:Type) (n:Nat):CutI X:=mkCi 9 19 6 0 q29 [q30] [] [] fun ks a b c d e f g h i j k l o p q r s t u v w x y z A B C D E G H I J K L M N O P Q R S=>F.za.C1_cur_Cur_Fail n (fun T U=>xn q30 ks d e f g h i j k T U p q r s t u v w x y z A B C D E G H I J K L M N O P Q R S) a b c l o
def q31:Shape:=⟨e19,b41,t40,[],[],20,6,0⟩
def q32:Shape:=⟨[],b41,t40,[],[],20,6,0⟩
noncomputable def ql17 (X:Type) (n:Nat):CutI X:=mkCi 4 20 6 0 q31 [q32] [] [] fun ks a b c d e f g h i j k l o p q r s t u v w x y z A B C D E G H I J K L M N O P Q R S=>F.za.C1_cur_Cur_Fail n (fun T U=>xn q32 ks d e f g h i j k T U p q r s t u v w x y z A B C D E G H I J K L M N O P Q R S) a b c l o
def q33:Shape:=⟨e20,b41,t40,[],[],20,6,0⟩
def q34:Shape:=⟨[(4,V1)],b41,t40,[],[],20,6,0⟩
noncomputable def ql18 (X:Type) (n:Nat):CutI X:=mkCi 5 20 6 0 q33 [] [] [q34] fun ks a b c d e f g h i j k l o p q r s t u v w x y z A B C D E G H I J K L M N O P Q=>F.za.C1_cur_Cur_Take n (fun R S T U=>xr q34 ks R b c d e f g h S T U l o p q r s t u v w x y z A B C D E G H I J K L M N O P Q) a h i j k
def q35:Shape:=⟨e21,b41,t40,[],[],20,6,0⟩
def q36:Shape:=⟨[(2,V2)],b41,t40,[],[],20,6,0⟩
noncomputable def ql19 (X:Type) (n:Nat):CutI X:=mkCi 6 20 6 0 q35 [] [] [q36] fun ks a b c d e f g h i j k l o p q r s t u v w x y z A B C D E G H I J K L M N O P=>F.za.C1_cur_Cur_Byte n (fun Q R S T=>xr q36 ks Q a b c d e f g R S T k l o p q r s t u v w x y z A B C D E G H I J K L M N O P) g h i j
def q37:Shape:=⟨[(0,(.const (.fn 100 [] [(.ref 19 0)]))),(5,V7),(6,V0)],b41,t40,[],[],20,6,0⟩
def q38:Shape:=⟨e24,b41,t40,[],[],20,6,0⟩
def q39:Shape:=⟨e25,b41,t40,[],[],20,6,0⟩
noncomputable def ql20 (X:Type) (n:Nat):LoopI X:=mkLi 8 20 6 0 q37 [(0,q38)] [q39] n fun m ks a b c d e f g h i j k l o p q r s t u v w x y z A B C D E G H I J K L M N O P Q R=>F.za.L3_varint_read n (fun S T U V W=>xe q38 ks 0 S T c d e f g h i U V W o p q r s t u v w x y z A B C D E G H I J K L M N O P Q R) (fun S T U V W Y=>xr q39 ks S T U c d e f g h i V W Y o p q r s t u v w x y z A B C D E G H I J K L M N O P Q R) m a b i j k l
noncomputable def ql21 (X:Type) (n:Nat):CutI X:=mkCi 8 20 6 0 q31 [q32] [] [] fun ks a b c d e f g h i j k l o p q r s t u v w x y z A B C D E G H I J K L M N O P Q R S=>F.za.C1_cur_Cur_Fail n (fun T U=>xn q32 ks d e f g h i j k T U p q r s t u v w x y z A B C D E G H I J K L M N O P Q R S) a b c l o
def q40:Shape:=⟨[(1,(.const (.ref 19 0)))],b41,t40,[],[],20,6,0⟩
def q41:Shape:=⟨[(2,V7)],b39,t40,[],[],19,6,0⟩
noncomputable def ql22 (X:Type) (n:Nat):CutI X:=mkCi 9 19 6 0 q40 [] [] [q41] fun ks a b c d e f g h i j k l o p q r s t u v w x y z A B C D E G H I J K L M N O P=>F.za.C1_varint_Read n (fun Q R S T=>xr q41 ks Q a b c d e f g R S T k l o p q r s t u v w x y z A B C D E G H I J K L M N O P) g h i j
def q42:Shape:=⟨e19,b46,t40,[],[],20,6,0⟩
def q43:Shape:=⟨[],b46,t40,[],[],20,6,0⟩
noncomputable def ql23 (X:Type) (n:Nat):CutI X:=mkCi 8 20 6 0 q42 [q43] [] [] fun ks a b c d e f g h i j k l o p q r s t u v w x y z A B C D E G H I J K L M N O P Q R S T U=>F.za.C1_cur_Cur_Fail n (fun V W=>xn q43 ks d e f g h i j k V W p q r s t u v w x y z A B C D E G H I J K L M N O P Q R S T U) a b c l o
def q44:Shape:=⟨e19,b47,t40,[],[],21,6,0⟩
def q45:Shape:=⟨[],b47,t40,[],[],21,6,0⟩
noncomputable def ql24 (X:Type) (n:Nat):CutI X:=mkCi 3 21 6 0 q44 [q45] [] [] fun ks a b c d e f g h i j k l o p q r s t u v w x y z A B C D E G H I J K L M N O P Q R S T U=>F.za.C1_cur_Cur_Fail n (fun V W=>xn q45 ks d e f g h i j k V W p q r s t u v w x y z A B C D E G H I J K L M N O P Q R S T U) a b c l o
def q46:Shape:=⟨e20,b47,t40,[],[],21,6,0⟩
def q47:Shape:=⟨[(4,V1)],b47,t40,[],[],21,6,0⟩
noncomputable def ql25 (X:Type) (n:Nat):CutI X:=mkCi 4 21 6 0 q46 [] [] [q47] fun ks a b c d e f g h i j k l o p q r s t u v w x y z A B C D E G H I J K L M N O P Q R S=>F.za.C1_cur_Cur_Take n (fun T U V W=>xr q47 ks T b c d e f g h U V W l o p q r s t u v w x y z A B C D E G H I J K L M N O P Q R S) a h i j k
def q48:Shape:=⟨e21,b47,t40,[],[],21,6,0⟩
def q49:Shape:=⟨[(2,V2)],b47,t40,[],[],21,6,0⟩
noncomputable def ql26 (X:Type) (n:Nat):CutI X:=mkCi 5 21 6 0 q48 [] [] [q49] fun ks a b c d e f g h i j k l o p q r s t u v w x y z A B C D E G H I J K L M N O P Q R=>F.za.C1_cur_Cur_Byte n (fun S T U V=>xr q49 ks S a b c d e f g T U V k l o p q r s t u v w x y z A B C D E G H I J K L M N O P Q R) g h i j
def q50:Shape:=⟨e49,b47,t40,[],[],21,6,0⟩
def q51:Shape:=⟨e24,b47,t40,[],[],21,6,0⟩
def q52:Shape:=⟨e25,b47,t40,[],[],21,6,0⟩
noncomputable def ql27 (X:Type) (n:Nat):LoopI X:=mkLi 7 21 6 0 q50 [(0,q51)] [q52] n fun m ks a b c d e f g h i j k l o p q r s t u v w x y z A B C D E G H I J K L M N O P Q R S T=>F.za.L3_varint_read n (fun U V W Y Z=>xe q51 ks 0 U V c d e f g h i W Y Z o p q r s t u v w x y z A B C D E G H I J K L M N O P Q R S T) (fun U V W Y Z a0=>xr q52 ks U V W c d e f g h i Y Z a0 o p q r s t u v w x y z A B C D E G H I J K L M N O P Q R S T) m a b i j k l
noncomputable def ql28 (X:Type) (n:Nat):CutI X:=mkCi 7 21 6 0 q44 [q45] [] [] fun ks a b c d e f g h i j k l o p q r s t u v w x y z A B C D E G H I J K L M N O P Q R S T U=>F.za.C1_cur_Cur_Fail n (fun V W=>xn q45 ks d e f g h i j k V W p q r s t u v w x y z A B C D E G H I J K L M N O P Q R S T U) a b c l o
def q53:Shape:=⟨e51,b47,t40,[],[],21,6,0⟩
def q54:Shape:=⟨[(2,V7)],b46,t40,[],[],20,6,0⟩
noncomputable def ql29 (X:Type) (n:Nat):CutI X:=mkCi 8 20 6 0 q53 [] [] [q54] fun ks a b c d e f g h i j k l o p q r s t u v w x y z A B C D E G H I J K L M N O P Q R=>F.za.C1_varint_Read n (fun S T U V=>xr q54 ks S a b c d e f g T U V k l o p q r s t u v w x y z A B C D E G H I J K L M N O P Q R) g h i j
def q55:Shape:=⟨e19,b52,t40,[],[],21,6,0⟩
def q56:Shape:=⟨[],b52,t40,[],[],21,6,0⟩
noncomputable def ql30 (X:Type) (n:Nat):CutI X:=mkCi 7 21 6 0 q55 [q56] [] [] fun ks a b c d e f g h i j k l o p q r s t u v w x y z A B C D E G H I J K L M N O P Q R S T U V=>F.za.C1_cur_Cur_Fail n (fun W Y=>xn q56 ks d e f g h i j k W Y p q r s t u v w x y z A B C D E G H I J K L M N O P Q R S T U V) a b c l o
def q57:Shape:=⟨e20,b52,t40,[],[],21,6,0⟩
def q58:Shape:=⟨[(4,V1)],b52,t40,[],[],21,6,0⟩
noncomputable def ql31 (X:Type) (n:Nat):CutI X:=mkCi 8 21 6 0 q57 [] [] [q58] fun ks a b c d e f g h i j k l o p q r s t u v w x y z A B C D E G H I J K L M N O P Q R S T=>F.za.C1_cur_Cur_Take n (fun U V W Y=>xr q58 ks U b c d e f g h V W Y l o p q r s t u v w x y z A B C D E G H I J K L M N O P Q R S T) a h i j k
def q59:Shape:=⟨e19,b53,t40,[],[],22,6,0⟩
def q60:Shape:=⟨[],b53,t40,[],[],22,6,0⟩
noncomputable def ql32 (X:Type) (n:Nat):CutI X:=mkCi 7 22 6 0 q59 [q60] [] [] fun ks a b c d e f g h i j k l o p q r s t u v w x y z A B C D E G H I J K L M N O P Q R S T U V W Y=>F.za.C1_cur_Cur_Fail n (fun Z a0=>xn q60 ks d e f g h i j k Z a0 p q r s t u v w x y z A B C D E G H I J K L M N O P Q R S T U V W Y) a b c l o
def q61:Shape:=⟨[(0,v16),(1,V0),(2,.str),(3,(.const (.fn 276 [] [(.ref 20 0)])))],b53,t40,[],[],22,6,0⟩
def q62:Shape:=⟨e56,b53,t40,[],[],22,6,0⟩
noncomputable def ql33 (X:Type) (n:Nat):CutI X:=mkCi 8 22 6 0 q61 [] [] [q62] fun ks a b c d e f g h i j k l o p q r s t u v w x y z A B C D E G H I J K L M N O P Q R S T U V W=>F.za.C1_dict_check n (fun Y Z a0=>xr q62 ks Y c d e f g h i j Z a0 o p q r s t u v w x y z A B C D E G H I J K L M N O P Q R S T U V W) a b k l O
noncomputable def ql34 (X:Type) (n:Nat):CutI X:=mkCi 8 22 6 0 q59 [q60] [] [] fun ks a b c d e f g h i j k l o p q r s t u v w x y z A B C D E G H I J K L M N O P Q R S T U V W Y=>F.za.C1_cur_Cur_Fail n (fun Z a0=>xn q60 ks d e f g h i j k Z a0 p q r s t u v w x y z A B C D E G H I J K L M N O P Q R S T U V W Y) a b c l o
def q63:Shape:=⟨e57,b46,t40,[],[],20,6,0⟩
def q64:Shape:=⟨e58,b46,t40,[],[],20,6,0⟩
noncomputable def ql35 (X:Type) (n:Nat):CutI X:=mkCi 9 20 6 0 q63 [] [] [q64] fun ks a b c d e f g h i j k l o p q r s t u v w x y z A B C D E G H I J K L M N O P Q R S T U=>F.za.C8_dict_Dict_fresh n (fun V W Y Z a0 b0 c0=>xr q64 ks V d e f g h i j W Y Z p a0 b0 s t u v w x y z A B C D E G H I J K L M N O P c0 R S T U) a b c j k l o q r Q
def q65:Shape:=⟨e59,b46,t40,[],[],20,6,0⟩
noncomputable def ql36 (X:Type) (n:Nat):CutI X:=mkCi 9 20 6 0 q65 [] [] [q64] fun ks a b c d e f g h i j k l o p q r s t u v w x y z A B C D E G H I J K L M N O P Q R S T=>F.za.C1_dict_Dict_fresh n (fun U V W Y Z a0 b0=>xr q64 ks U c d e f g h i V W Y o Z a0 r s t u v w x y z A B C D E G H I J K L M N O b0 Q R S T) a b i j k l p q P
noncomputable def ql37 (X:Type) (n:Nat):CutI X:=mkCi 9 20 6 0 q42 [q43] [] [] fun ks a b c d e f g h i j k l o p q r s t u v w x y z A B C D E G H I J K L M N O P Q R S T U=>F.za.C1_cur_Cur_Fail n (fun V W=>xn q43 ks d e f g h i j k V W p q r s t u v w x y z A B C D E G H I J K L M N O P Q R S T U) a b c l o
def q66:Shape:=⟨[(0,v16),(1,V0),(2,.str),(3,(.const (.fn 224 [] [(.ref 18 0)])))],b46,t40,[],[],20,6,0⟩
def q67:Shape:=⟨e56,b46,t40,[],[],20,6,0⟩
noncomputable def ql38 (X:Type) (n:Nat):CutI X:=mkCi 9 20 6 0 q66 [] [] [q67] fun ks a b c d e f g h i j k l o p q r s t u v w x y z A B C D E G H I J K L M N O P Q R S T=>F.za.C1_dict_check_1 n (fun U V W=>xr q67 ks U c d e f g h i j V W o p q r s t u v w x y z A B C D E G H I J K L M N O P Q R S T) a b k l L
def q68:Shape:=⟨e63,b62,t40,[],[],16,6,0⟩
def q69:Shape:=⟨e64,b62,t40,[],[],16,6,0⟩
noncomputable def ql39 (X:Type) (n:Nat):CutI X:=mkCi 10 16 6 0 q68 [] [] [q69] fun ks a b c d e f g h i j k l o p q r s t u v w x y z A B C D E G H I J K L=>F.za.C1_dict_Dict_Get n (fun M N O P Q R S=>xr q69 ks M b c d e f g h N O P l Q R q r s t u v w x y z A B C D E G S I J K L) a h i j k o p H
def q70:Shape:=⟨e19,b62,t40,[],[],16,6,0⟩
def q71:Shape:=⟨[],b62,t40,[],[],16,6,0⟩
noncomputable def ql40 (X:Type) (n:Nat):CutI X:=mkCi 11 16 6 0 q70 [q71] [] [] fun ks a b c d e f g h i j k l o p q r s t u v w x y z A B C D E G H I J K L M N=>F.za.C1_cur_Cur_Fail n (fun O P=>xn q71 ks d e f g h i j k O P p q r s t u v w x y z A B C D E G H I J K L M N) a b c l o
def q72:Shape:=⟨[(0,v16),(1,V0),(2,(.const (.fn 162 [] [(.ref 11 0),(.ref 12 0),(.ref 13 0)]))),(3,(.const (.fn 164 [] [(.ref 14 0),(.ref 15 0)])))],b62,t40,[],[],16,6,0⟩
def q73:Shape:=⟨e58,b62,t40,[],[],16,6,0⟩
noncomputable def ql41 (X:Type) (n:Nat):CutI X:=mkCi 12 16 6 0 q72 [] [] [q73] fun ks a b c d e f g h i j k l o p q r s t u v w x y z A B C D E G H I J K L=>F.za.C1_rec_bound_string n (fun M N O P Q R S=>xr q73 ks M b c d e f g h N O P l Q R q r s t u v w x y z A B C D E G S I J K L) a h i j k o p C D E H
def q74:Shape:=⟨e73,b62,t40,[],[],16,4,0⟩
def q75:Shape:=⟨e75,b74,t40,[],[],11,4,0⟩
noncomputable def ql42 (X:Type) (n:Nat):CutI X:=mkCi 13 11 4 0 q74 [] [] [q75] fun ks a b c d e f g h i j k l o p q r s t u v w x y z A B C D E G H I J K L=>F.za.C1_rec_word n (fun M N O P Q R S=>xr q75 ks M b c d e f g h N O P l Q R q r s t u v w x y z A B G S I J K L) a h i j k o p C D E H
def q76:Shape:=⟨e19,b74,t40,[],[],11,6,0⟩
def q77:Shape:=⟨[],b74,t40,[],[],11,6,0⟩
noncomputable def ql43 (X:Type) (n:Nat):CutI X:=mkCi 9 11 6 0 q76 [q77] [] [] fun ks a b c d e f g h i j k l o p q r s t u v w x y z A B C D E G H I J K=>F.za.C1_cur_Cur_Fail n (fun L M=>xn q77 ks d e f g h i j k L M p q r s t u v w x y z A B C D E G H I J K) a b c l o
def q78:Shape:=⟨e20,b74,t40,[],[],11,6,0⟩
def q79:Shape:=⟨[(4,V1)],b74,t40,[],[],11,6,0⟩
noncomputable def ql44 (X:Type) (n:Nat):CutI X:=mkCi 10 11 6 0 q78 [] [] [q79] fun ks a b c d e f g h i j k l o p q r s t u v w x y z A B C D E G H I=>F.za.C1_cur_Cur_Take n (fun J K L M=>xr q79 ks J b c d e f g h K L M l o p q r s t u v w x y z A B C D E G H I) a h i j k
def q80:Shape:=⟨e21,b74,t40,[],[],11,6,0⟩
def q81:Shape:=⟨[(2,V2)],b74,t40,[],[],11,6,0⟩
noncomputable def ql45 (X:Type) (n:Nat):CutI X:=mkCi 11 11 6 0 q80 [] [] [q81] fun ks a b c d e f g h i j k l o p q r s t u v w x y z A B C D E G H=>F.za.C1_cur_Cur_Byte n (fun I J K L=>xr q81 ks I a b c d e f g J K L k l o p q r s t u v w x y z A B C D E G H) g h i j
noncomputable def ql46 (X:Type) (n:Nat):CutI X:=mkCi 12 11 6 0 q76 [q77] [] [] fun ks a b c d e f g h i j k l o p q r s t u v w x y z A B C D E G H I J K=>F.za.C1_cur_Cur_Fail n (fun L M=>xn q77 ks d e f g h i j k L M p q r s t u v w x y z A B C D E G H I J K) a b c l o
def q82:Shape:=⟨[(0,v16),(1,V0),(2,(.const (.fn 107 [] [(.ref 8 0)]))),(3,(.const (.fn 108 [] [])))],b74,t40,[],[],11,6,0⟩
def q83:Shape:=⟨[(8,V0)],b74,t40,[],[],11,6,0⟩
noncomputable def ql47 (X:Type) (n:Nat):CutI X:=mkCi 13 11 6 0 q82 [] [] [q83] fun ks a b c d e f g h i j k l o p q r s t u v w x y z A B C D E G H I=>F.za.C1_rec_bound_int n (fun J K L M=>xr q83 ks J b c d e f g h K L M l o p q r s t u v w x y z A B C D E G H I) a h i j k
def q84:Shape:=⟨e19,b79,t40,[],[],15,6,0⟩
def q85:Shape:=⟨[],b79,t40,[],[],15,6,0⟩
noncomputable def ql48 (X:Type) (n:Nat):CutI X:=mkCi 5 15 6 0 q84 [q85] [] [] fun ks a b c d e f g h i j k l o p q r s t u v w x y z A B C D E G H I J K L M=>F.za.C1_cur_Cur_Fail n (fun N O=>xn q85 ks d e f g h i j k N O p q r s t u v w x y z A B C D E G H I J K L M) a b c l o
def q86:Shape:=⟨e20,b79,t40,[],[],15,6,0⟩
def q87:Shape:=⟨[(4,V1)],b79,t40,[],[],15,6,0⟩
noncomputable def ql49 (X:Type) (n:Nat):CutI X:=mkCi 6 15 6 0 q86 [] [] [q87] fun ks a b c d e f g h i j k l o p q r s t u v w x y z A B C D E G H I J K=>F.za.C1_cur_Cur_Take n (fun L M N O=>xr q87 ks L b c d e f g h M N O l o p q r s t u v w x y z A B C D E G H I J K) a h i j k
def q88:Shape:=⟨e21,b79,t40,[],[],15,6,0⟩
def q89:Shape:=⟨[(2,V2)],b79,t40,[],[],15,6,0⟩
noncomputable def ql50 (X:Type) (n:Nat):CutI X:=mkCi 7 15 6 0 q88 [] [] [q89] fun ks a b c d e f g h i j k l o p q r s t u v w x y z A B C D E G H I J=>F.za.C1_cur_Cur_Byte n (fun K L M N=>xr q89 ks K a b c d e f g L M N k l o p q r s t u v w x y z A B C D E G H I J) g h i j
def q90:Shape:=⟨[(0,(.const (.fn 100 [] [(.ref 14 0)]))),(5,V7),(6,V0)],b79,t40,[],[],15,6,0⟩
def q91:Shape:=⟨e24,b79,t40,[],[],15,6,0⟩
def q92:Shape:=⟨e25,b79,t40,[],[],15,6,0⟩
noncomputable def ql51 (X:Type) (n:Nat):LoopI X:=mkLi 9 15 6 0 q90 [(0,q91)] [q92] n fun m ks a b c d e f g h i j k l o p q r s t u v w x y z A B C D E G H I J K L=>F.za.L3_varint_read n (fun M N O P Q=>xe q91 ks 0 M N c d e f g h i O P Q o p q r s t u v w x y z A B C D E G H I J K L) (fun M N O P Q R=>xr q92 ks M N O c d e f g h i P Q R o p q r s t u v w x y z A B C D E G H I J K L) m a b i j k l
noncomputable def ql52 (X:Type) (n:Nat):CutI X:=mkCi 9 15 6 0 q84 [q85] [] [] fun ks a b c d e f g h i j k l o p q r s t u v w x y z A B C D E G H I J K L M=>F.za.C1_cur_Cur_Fail n (fun N O=>xn q85 ks d e f g h i j k N O p q r s t u v w x y z A B C D E G H I J K L M) a b c l o
def q93:Shape:=⟨[(1,v71)],b79,t40,[],[],15,6,0⟩
def q94:Shape:=⟨[(2,V7)],b83,t40,[],[],14,6,0⟩
noncomputable def ql53 (X:Type) (n:Nat):CutI X:=mkCi 10 14 6 0 q93 [] [] [q94] fun ks a b c d e f g h i j k l o p q r s t u v w x y z A B C D E G H I J=>F.za.C1_varint_Read n (fun K L M N=>xr q94 ks K a b c d e f g L M N k l o p q r s t u v w x y z A B C D E G H I J) g h i j
def q95:Shape:=⟨e19,b83,t40,[],[],14,6,0⟩
def q96:Shape:=⟨[],b83,t40,[],[],14,6,0⟩
noncomputable def ql54 (X:Type) (n:Nat):CutI X:=mkCi 11 14 6 0 q95 [q96] [] [] fun ks a b c d e f g h i j k l o p q r s t u v w x y z A B C D E G H I J K L M=>F.za.C1_cur_Cur_Fail n (fun N O=>xn q96 ks d e f g h i j k N O p q r s t u v w x y z A B C D E G H I J K L M) a b c l o
def q97:Shape:=⟨[(0,v16),(1,V0),(2,(.const (.fn 166 [] [(.ref 11 0)]))),(3,(.const (.fn 167 [] [(.ref 12 0),(.ref 13 0)])))],b83,t40,[],[],14,6,0⟩
def q98:Shape:=⟨[(8,V7)],b83,t40,[],[],14,6,0⟩
noncomputable def ql55 (X:Type) (n:Nat):CutI X:=mkCi 12 14 6 0 q97 [] [] [q98] fun ks a b c d e f g h i j k l o p q r s t u v w x y z A B C D E G H I J K=>F.za.C1_rec_bound_uint64 n (fun L M N O=>xr q98 ks L b c d e f g h M N O l o p q r s t u v w x y z A B C D E G H I J K) a h i j k C D
def q99:Shape:=⟨[(3,V0),(4,v68),(5,v69),(6,v70)],b83,t40,[],[],14,6,0⟩
noncomputable def ql56 (X:Type) (n:Nat):CutI X:=mkCi 13 11 6 0 q99 [] [] [q83] fun ks a b c d e f g h i j k l o p q r s t u v w x y z A B C D E G H I J K=>F.za.C1_rec_number n (fun L M N O=>xr q83 ks L b c d e f g h M N O l o p q r s t u v w x y z A B E G H I J K) a h i j k C D
def q100:Shape:=⟨e19,b88,t40,[],[],13,6,0⟩
def q101:Shape:=⟨[],b88,t40,[],[],13,6,0⟩
noncomputable def ql57 (X:Type) (n:Nat):CutI X:=mkCi 7 13 6 0 q100 [q101] [] [] fun ks a b c d e f g h i j k l o p q r s t u v w x y z A B C D E G H I J K L M N=>F.za.C1_cur_Cur_Fail n (fun O P=>xn q101 ks d e f g h i j k O P p q r s t u v w x y z A B C D E G H I J K L M N) a b c l o
def q102:Shape:=⟨e20,b88,t40,[],[],13,6,0⟩
def q103:Shape:=⟨[(4,V1)],b88,t40,[],[],13,6,0⟩
noncomputable def ql58 (X:Type) (n:Nat):CutI X:=mkCi 8 13 6 0 q102 [] [] [q103] fun ks a b c d e f g h i j k l o p q r s t u v w x y z A B C D E G H I J K L=>F.za.C1_cur_Cur_Take n (fun M N O P=>xr q103 ks M b c d e f g h N O P l o p q r s t u v w x y z A B C D E G H I J K L) a h i j k
def q104:Shape:=⟨e21,b88,t40,[],[],13,6,0⟩
def q105:Shape:=⟨[(2,V2)],b88,t40,[],[],13,6,0⟩
noncomputable def ql59 (X:Type) (n:Nat):CutI X:=mkCi 9 13 6 0 q104 [] [] [q105] fun ks a b c d e f g h i j k l o p q r s t u v w x y z A B C D E G H I J K=>F.za.C1_cur_Cur_Byte n (fun L M N O=>xr q105 ks L a b c d e f g M N O k l o p q r s t u v w x y z A B C D E G H I J K) g h i j
def q106:Shape:=⟨[(0,(.const (.fn 100 [] [(.ref 12 0)]))),(5,V7),(6,V0)],b88,t40,[],[],13,6,0⟩
def q107:Shape:=⟨e24,b88,t40,[],[],13,6,0⟩
def q108:Shape:=⟨e25,b88,t40,[],[],13,6,0⟩
noncomputable def ql60 (X:Type) (n:Nat):LoopI X:=mkLi 11 13 6 0 q106 [(0,q107)] [q108] n fun m ks a b c d e f g h i j k l o p q r s t u v w x y z A B C D E G H I J K L M=>F.za.L3_varint_read n (fun N O P Q R=>xe q107 ks 0 N O c d e f g h i P Q R o p q r s t u v w x y z A B C D E G H I J K L M) (fun N O P Q R S=>xr q108 ks N O P c d e f g h i Q R S o p q r s t u v w x y z A B C D E G H I J K L M) m a b i j k l
noncomputable def ql61 (X:Type) (n:Nat):CutI X:=mkCi 11 13 6 0 q100 [q101] [] [] fun ks a b c d e f g h i j k l o p q r s t u v w x y z A B C D E G H I J K L M N=>F.za.C1_cur_Cur_Fail n (fun O P=>xn q101 ks d e f g h i j k O P p q r s t u v w x y z A B C D E G H I J K L M N) a b c l o
def q109:Shape:=⟨[(1,v69)],b88,t40,[],[],13,6,0⟩
def q110:Shape:=⟨[(2,V7)],b92,t40,[],[],12,6,0⟩
noncomputable def ql62 (X:Type) (n:Nat):CutI X:=mkCi 12 12 6 0 q109 [] [] [q110] fun ks a b c d e f g h i j k l o p q r s t u v w x y z A B C D E G H I J K=>F.za.C1_varint_Read n (fun L M N O=>xr q110 ks L a b c d e f g M N O k l o p q r s t u v w x y z A B C D E G H I J K) g h i j
def q111:Shape:=⟨e19,b93,t40,[],[],14,6,0⟩
def q112:Shape:=⟨[],b93,t40,[],[],14,6,0⟩
noncomputable def ql63 (X:Type) (n:Nat):CutI X:=mkCi 7 14 6 0 q111 [q112] [] [] fun ks a b c d e f g h i j k l o p q r s t u v w x y z A B C D E G H I J K L M N O P Q=>F.za.C1_cur_Cur_Fail n (fun R S=>xn q112 ks d e f g h i j k R S p q r s t u v w x y z A B C D E G H I J K L M N O P Q) a b c l o
def q113:Shape:=⟨e20,b93,t40,[],[],14,6,0⟩
def q114:Shape:=⟨[(4,V1)],b93,t40,[],[],14,6,0⟩
noncomputable def ql64 (X:Type) (n:Nat):CutI X:=mkCi 8 14 6 0 q113 [] [] [q114] fun ks a b c d e f g h i j k l o p q r s t u v w x y z A B C D E G H I J K L M N O=>F.za.C1_cur_Cur_Take n (fun P Q R S=>xr q114 ks P b c d e f g h Q R S l o p q r s t u v w x y z A B C D E G H I J K L M N O) a h i j k
def q115:Shape:=⟨e21,b93,t40,[],[],14,6,0⟩
def q116:Shape:=⟨[(2,V2)],b93,t40,[],[],14,6,0⟩
noncomputable def ql65 (X:Type) (n:Nat):CutI X:=mkCi 9 14 6 0 q115 [] [] [q116] fun ks a b c d e f g h i j k l o p q r s t u v w x y z A B C D E G H I J K L M N=>F.za.C1_cur_Cur_Byte n (fun O P Q R=>xr q116 ks O a b c d e f g P Q R k l o p q r s t u v w x y z A B C D E G H I J K L M N) g h i j
def q117:Shape:=⟨[(0,(.const (.fn 100 [] [(.ref 13 0)]))),(5,V7),(6,V0)],b93,t40,[],[],14,6,0⟩
def q118:Shape:=⟨e24,b93,t40,[],[],14,6,0⟩
def q119:Shape:=⟨e25,b93,t40,[],[],14,6,0⟩
noncomputable def ql66 (X:Type) (n:Nat):LoopI X:=mkLi 11 14 6 0 q117 [(0,q118)] [q119] n fun m ks a b c d e f g h i j k l o p q r s t u v w x y z A B C D E G H I J K L M N O P=>F.za.L3_varint_read n (fun Q R S T U=>xe q118 ks 0 Q R c d e f g h i S T U o p q r s t u v w x y z A B C D E G H I J K L M N O P) (fun Q R S T U V=>xr q119 ks Q R S c d e f g h i T U V o p q r s t u v w x y z A B C D E G H I J K L M N O P) m a b i j k l
noncomputable def ql67 (X:Type) (n:Nat):CutI X:=mkCi 11 14 6 0 q111 [q112] [] [] fun ks a b c d e f g h i j k l o p q r s t u v w x y z A B C D E G H I J K L M N O P Q=>F.za.C1_cur_Cur_Fail n (fun R S=>xn q112 ks d e f g h i j k R S p q r s t u v w x y z A B C D E G H I J K L M N O P Q) a b c l o
def q120:Shape:=⟨[(1,v70)],b93,t40,[],[],14,6,0⟩
def q121:Shape:=⟨[(2,V7)],[[V0,V0],[v15],[V0],[V0,V0],[v16],r17,[.mp],r31,[v16],r34,r37,r8,r8],t40,[],[],13,6,0⟩
noncomputable def ql68 (X:Type) (n:Nat):CutI X:=mkCi 12 13 6 0 q120 [] [] [q121] fun ks a b c d e f g h i j k l o p q r s t u v w x y z A B C D E G H I J K L M N=>F.za.C1_varint_Read n (fun O P Q R=>xr q121 ks O a b c d e f g P Q R k l o p q r s t u v w x y z A B C D E G H I J K L M N) g h i j
def q122:Shape:=⟨e19,b98,t40,[],[],14,6,0⟩
def q123:Shape:=⟨[],b98,t40,[],[],14,6,0⟩
noncomputable def ql69 (X:Type) (n:Nat):CutI X:=mkCi 12 14 6 0 q122 [q123] [] [] fun ks a b c d e f g h i j k l o p q r s t u v w x y z A B C D E G H I J K L M N O P Q R S=>F.za.C1_cur_Cur_Fail n (fun T U=>xn q123 ks d e f g h i j k T U p q r s t u v w x y z A B C D E G H I J K L M N O P Q R S) a b c l o
def q124:Shape:=⟨[(0,v16),(2,v68)],b92,t40,[],[],12,6,0⟩
def q125:Shape:=⟨[(2,v68)],b92,t40,[],[],12,6,0⟩
noncomputable def ql70 (X:Type) (n:Nat):CutI X:=mkCi 13 11 6 0 q124 [] [] [q125] fun ks a b c d e f g h i j k l o p q r s t u v w x y z A _ _ _ B C D E G H=>F.za.C1_rec_GetDec n (fun I J K L M N=>xr q125 ks a b c d e f g I J K k l o p q r s t u v w x y z A L M N B C D E G H) g h i j
def q126:Shape:=⟨[(0,v38),(3,v101),(4,v102),(5,v103),(6,V0)],b74,t40,[],[],11,2,0⟩
noncomputable def ql71 (X:Type) (n:Nat):CutI X:=mkCi 14 8 2 0 q126 [q126] [] [] fun ks a b c d e f g h i j k l o p q r s t u v w x y z A B C D E G H I=>F.za.C9_rec_Get n (fun J K L M N O=>xn q126 ks J b c d e f g h K L M l o p q r s t u v w x N z A B C D E G O I) a h i j k w x y z A B H
def q127:Shape:=⟨[(0,v38),(3,v101),(4,v102),(5,v103)],b74,t40,[],[],11,2,0⟩
noncomputable def ql72 (X:Type) (n:Nat):LoopI X:=mkLi 14 8 2 0 q126 [(0,q127)] [] n fun m ks a b c d e f g h i j k l o p q r s t u v w x y z A B C D E G H I=>F.za.L7_rec_Get n (fun J K L M N=>xe q127 ks 0 b c d e f g h J K L l o p q r s t u v w x M z A B C D E G N I) m a h i j k w x y z A B H
noncomputable def ql73 (X:Type) (n:Nat):CutI X:=mkCi 14 8 2 0 q126 [q127] [] [] fun ks a b c d e f g h i j k l o p q r s t u v w x y z A B C D E G H I=>F.za.C7_rec_Get n (fun J K L M N=>xn q127 ks b c d e f g h J K L l o p q r s t u v w x M z A B C D E G N I) a h i j k w x y z A B H
def q128:Shape:=⟨e73,b62,t40,[],[],16,6,0⟩
def q129:Shape:=⟨e75,b74,t40,[],[],11,6,0⟩
noncomputable def ql74 (X:Type) (n:Nat):CutI X:=mkCi 13 11 6 0 q128 [] [] [q129] fun ks a b c d e f g h i j k l o p q r s t u v w x y z A B C D E G H I J K L=>F.za.C1_rec_word n (fun M N O P Q R S=>xr q129 ks M b c d e f g h N O P l Q R q r s t u v w x y z A B G S I J K L) a h i j k o p C D E H
def q130:Shape:=⟨e19,b107,t40,[],[],20,6,0⟩
def q131:Shape:=⟨[],b107,t40,[],[],20,6,0⟩
noncomputable def ql75 (X:Type) (n:Nat):CutI X:=mkCi 9 20 6 0 q130 [q131] [] [] fun ks a b c d e f g h i j k l o p q r s t u v w x y z A B C D E G H I J K L M N O P Q R S T U=>F.za.C1_cur_Cur_Fail n (fun V W=>xn q131 ks d e f g h i j k V W p q r s t u v w x y z A B C D E G H I J K L M N O P Q R S T U) a b c l o
def q132:Shape:=⟨e19,b108,t40,[],[],21,6,0⟩
def q133:Shape:=⟨[],b108,t40,[],[],21,6,0⟩
noncomputable def ql76 (X:Type) (n:Nat):CutI X:=mkCi 4 21 6 0 q132 [q133] [] [] fun ks a b c d e f g h i j k l o p q r s t u v w x y z A B C D E G H I J K L M N O P Q R S T U=>F.za.C1_cur_Cur_Fail n (fun V W=>xn q133 ks d e f g h i j k V W p q r s t u v w x y z A B C D E G H I J K L M N O P Q R S T U) a b c l o
def q134:Shape:=⟨e20,b108,t40,[],[],21,6,0⟩
def q135:Shape:=⟨[(4,V1)],b108,t40,[],[],21,6,0⟩
noncomputable def ql77 (X:Type) (n:Nat):CutI X:=mkCi 5 21 6 0 q134 [] [] [q135] fun ks a b c d e f g h i j k l o p q r s t u v w x y z A B C D E G H I J K L M N O P Q R S=>F.za.C1_cur_Cur_Take n (fun T U V W=>xr q135 ks T b c d e f g h U V W l o p q r s t u v w x y z A B C D E G H I J K L M N O P Q R S) a h i j k
def q136:Shape:=⟨e21,b108,t40,[],[],21,6,0⟩
def q137:Shape:=⟨[(2,V2)],b108,t40,[],[],21,6,0⟩
noncomputable def ql78 (X:Type) (n:Nat):CutI X:=mkCi 6 21 6 0 q136 [] [] [q137] fun ks a b c d e f g h i j k l o p q r s t u v w x y z A B C D E G H I J K L M N O P Q R=>F.za.C1_cur_Cur_Byte n (fun S T U V=>xr q137 ks S a b c d e f g T U V k l o p q r s t u v w x y z A B C D E G H I J K L M N O P Q R) g h i j
def q138:Shape:=⟨e49,b108,t40,[],[],21,6,0⟩
def q139:Shape:=⟨e24,b108,t40,[],[],21,6,0⟩
def q140:Shape:=⟨e25,b108,t40,[],[],21,6,0⟩
noncomputable def ql79 (X:Type) (n:Nat):LoopI X:=mkLi 8 21 6 0 q138 [(0,q139)] [q140] n fun m ks a b c d e f g h i j k l o p q r s t u v w x y z A B C D E G H I J K L M N O P Q R S T=>F.za.L3_varint_read n (fun U V W Y Z=>xe q139 ks 0 U V c d e f g h i W Y Z o p q r s t u v w x y z A B C D E G H I J K L M N O P Q R S T) (fun U V W Y Z a0=>xr q140 ks U V W c d e f g h i Y Z a0 o p q r s t u v w x y z A B C D E G H I J K L M N O P Q R S T) m a b i j k l
noncomputable def ql80 (X:Type) (n:Nat):CutI X:=mkCi 8 21 6 0 q132 [q133] [] [] fun ks a b c d e f g h i j k l o p q r s t u v w x y z A B C D E G H I J K L M N O P Q R S T U=>F.za.C1_cur_Cur_Fail n (fun V W=>xn q133 ks d e f g h i j k V W p q r s t u v w x y z A B C D E G H I J K L M N O P Q R S T U) a b c l o
def q141:Shape:=⟨e51,b108,t40,[],[],21,6,0⟩
def q142:Shape:=⟨[(2,V7)],b107,t40,[],[],20,6,0⟩
noncomputable def ql81 (X:Type) (n:Nat):CutI X:=mkCi 9 20 6 0 q141 [] [] [q142] fun ks a b c d e f g h i j k l o p q r s t u v w x y z A B C D E G H I J K L M N O P Q R=>F.za.C1_varint_Read n (fun S T U V=>xr q142 ks S a b c d e f g T U V k l o p q r s t u v w x y z A B C D E G H I J K L M N O P Q R) g h i j
def q143:Shape:=⟨e19,b109,t40,[],[],21,6,0⟩
def q144:Shape:=⟨[],b109,t40,[],[],21,6,0⟩
noncomputable def ql82 (X:Type) (n:Nat):CutI X:=mkCi 8 21 6 0 q143 [q144] [] [] fun ks a b c d e f g h i j k l o p q r s t u v w x y z A B C D E G H I J K L M N O P Q R S T U V W=>F.za.C1_cur_Cur_Fail n (fun Y Z=>xn q144 ks d e f g h i j k Y Z p q r s t u v w x y z A B C D E G H I J K L M N O P Q R S T U V W) a b c l o
def q145:Shape:=⟨e19,b110,t40,[],[],22,6,0⟩
def q146:Shape:=⟨[],b110,t40,[],[],22,6,0⟩
noncomputable def ql83 (X:Type) (n:Nat):CutI X:=mkCi 3 22 6 0 q145 [q146] [] [] fun ks a b c d e f g h i j k l o p q r s t u v w x y z A B C D E G H I J K L M N O P Q R S T U V W=>F.za.C1_cur_Cur_Fail n (fun Y Z=>xn q146 ks d e f g h i j k Y Z p q r s t u v w x y z A B C D E G H I J K L M N O P Q R S T U V W) a b c l o
def q147:Shape:=⟨e20,b110,t40,[],[],22,6,0⟩
def q148:Shape:=⟨[(4,V1)],b110,t40,[],[],22,6,0⟩
noncomputable def ql84 (X:Type) (n:Nat):CutI X:=mkCi 4 22 6 0 q147 [] [] [q148] fun ks a b c d e f g h i j k l o p q r s t u v w x y z A B C D E G H I J K L M N O P Q R S T U=>F.za.C1_cur_Cur_Take n (fun V W Y Z=>xr q148 ks V b c d e f g h W Y Z l o p q r s t u v w x y z A B C D E G H I J K L M N O P Q R S T U) a h i j k
def q149:Shape:=⟨e21,b110,t40,[],[],22,6,0⟩
def q150:Shape:=⟨[(2,V2)],b110,t40,[],[],22,6,0⟩
noncomputable def ql85 (X:Type) (n:Nat):CutI X:=mkCi 5 22 6 0 q149 [] [] [q150] fun ks a b c d e f g h i j k l o p q r s t u v w x y z A B C D E G H I J K L M N O P Q R S T=>F.za.C1_cur_Cur_Byte n (fun U V W Y=>xr q150 ks U a b c d e f g V W Y k l o p q r s t u v w x y z A B C D E G H I J K L M N O P Q R S T) g h i j
def q151:Shape:=⟨[(0,(.const (.fn 100 [] [(.ref 21 0)]))),(5,V7),(6,V0)],b110,t40,[],[],22,6,0⟩
def q152:Shape:=⟨e24,b110,t40,[],[],22,6,0⟩
def q153:Shape:=⟨e25,b110,t40,[],[],22,6,0⟩
noncomputable def ql86 (X:Type) (n:Nat):LoopI X:=mkLi 7 22 6 0 q151 [(0,q152)] [q153] n fun m ks a b c d e f g h i j k l o p q r s t u v w x y z A B C D E G H I J K L M N O P Q R S T U V=>F.za.L3_varint_read n (fun W Y Z a0 b0=>xe q152 ks 0 W Y c d e f g h i Z a0 b0 o p q r s t u v w x y z A B C D E G H I J K L M N O P Q R S T U V) (fun W Y Z a0 b0 c0=>xr q153 ks W Y Z c d e f g h i a0 b0 c0 o p q r s t u v w x y z A B C D E G H I J K L M N O P Q R S T U V) m a b i j k l
noncomputable def ql87 (X:Type) (n:Nat):CutI X:=mkCi 7 22 6 0 q145 [q146] [] [] fun ks a b c d e f g h i j k l o p q r s t u v w x y z A B C D E G H I J K L M N O P Q R S T U V W=>F.za.C1_cur_Cur_Fail n (fun Y Z=>xn q146 ks d e f g h i j k Y Z p q r s t u v w x y z A B C D E G H I J K L M N O P Q R S T U V W) a b c l o
def q154:Shape:=⟨[(1,(.const (.ref 21 0)))],b110,t40,[],[],22,6,0⟩
def q155:Shape:=⟨[(2,V7)],b109,t40,[],[],21,6,0⟩
noncomputable def ql88 (X:Type) (n:Nat):CutI X:=mkCi 8 21 6 0 q154 [] [] [q155] fun ks a b c d e f g h i j k l o p q r s t u v w x y z A B C D E G H I J K L M N O P Q R S T=>F.za.C1_varint_Read n (fun U V W Y=>xr q155 ks U a b c d e f g V W Y k l o p q r s t u v w x y z A B C D E G H I J K L M N O P Q R S T) g h i j
def q156:Shape:=⟨e19,b115,t40,[],[],22,6,0⟩
def q157:Shape:=⟨[],b115,t40,[],[],22,6,0⟩
noncomputable def ql89 (X:Type) (n:Nat):CutI X:=mkCi 7 22 6 0 q156 [q157] [] [] fun ks a b c d e f g h i j k l o p q r s t u v w x y z A B C D E G H I J K L M N O P Q R S T U V W Y=>F.za.C1_cur_Cur_Fail n (fun Z a0=>xn q157 ks d e f g h i j k Z a0 p q r s t u v w x y z A B C D E G H I J K L M N O P Q R S T U V W Y) a b c l o
def q158:Shape:=⟨e20,b115,t40,[],[],22,6,0⟩
def q159:Shape:=⟨[(4,V1)],b115,t40,[],[],22,6,0⟩
noncomputable def ql90 (X:Type) (n:Nat):CutI X:=mkCi 8 22 6 0 q158 [] [] [q159] fun ks a b c d e f g h i j k l o p q r s t u v w x y z A B C D E G H I J K L M N O P Q R S T U V=>F.za.C1_cur_Cur_Take n (fun W Y Z a0=>xr q159 ks W b c d e f g h Y Z a0 l o p q r s t u v w x y z A B C D E G H I J K L M N O P Q R S T U V) a h i j k
def q160:Shape:=⟨e19,b116,t40,[],[],23,6,0⟩
def q161:Shape:=⟨[],b116,t40,[],[],23,6,0⟩
noncomputable def ql91 (X:Type) (n:Nat):CutI X:=mkCi 7 23 6 0 q160 [q161] [] [] fun ks a b c d e f g h i j k l o p q r s t u v w x y z A B C D E G H I J K L M N O P Q R S T U V W Y Z a0=>F.za.C1_cur_Cur_Fail n (fun b0 c0=>xn q161 ks d e f g h i j k b0 c0 p q r s t u v w x y z A B C D E G H I J K L M N O P Q R S T U V W Y Z a0) a b c l o
def q162:Shape:=⟨[(0,v16),(1,V0),(2,.str),(3,(.const (.fn 276 [] [(.ref 21 0)])))],b116,t40,[],[],23,6,0⟩
def q163:Shape:=⟨e56,b116,t40,[],[],23,6,0⟩
noncomputable def ql92 (X:Type) (n:Nat):CutI X:=mkCi 8 23 6 0 q162 [] [] [q163] fun ks a b c d e f g h i j k l o p q r s t u v w x y z A B C D E G H I J K L M N O P Q R S T U V W Y Z=>F.za.C1_dict_check n (fun a0 b0 c0=>xr q163 ks a0 c d e f g h i j b0 c0 o p q r s t u v w x y z A B C D E G H I J K L M N O P Q R S T U V W Y Z) a b k l Q
noncomputable def ql93 (X:Type) (n:Nat):CutI X:=mkCi 8 23 6 0 q160 [q161] [] [] fun ks a b c d e f g h i j k l o p q r s t u v w x y z A B C D E G H I J K L M N O P Q R S T U V W Y Z a0=>F.za.C1_cur_Cur_Fail n (fun b0 c0=>xn q161 ks d e f g h i j k b0 c0 p q r s t u v w x y z A B C D E G H I J K L M N O P Q R S T U V W Y Z a0) a b c l o
def q164:Shape:=⟨e57,b109,t40,[],[],21,6,0⟩
def q165:Shape:=⟨e58,b109,t40,[],[],21,6,0⟩
noncomputable def ql94 (X:Type) (n:Nat):CutI X:=mkCi 9 21 6 0 q164 [] [] [q165] fun ks a b c d e f g h i j k l o p q r s t u v w x y z A B C D E G H I J K L M N O P Q R S T U V W=>F.za.C8_dict_Dict_fresh n (fun Y Z a0 b0 c0 d0 e0=>xr q165 ks Y d e f g h i j Z a0 b0 p c0 d0 s t u v w x y z A B C D E G H I J K L M N O P Q R e0 T U V W) a b c j k l o q r S
def q166:Shape:=⟨e59,b109,t40,[],[],21,6,0⟩
noncomputable def ql95 (X:Type) (n:Nat):CutI X:=mkCi 9 21 6 0 q166 [] [] [q165] fun ks a b c d e f g h i j k l o p q r s t u v w x y z A B C D E G H I J K L M N O P Q R S T U V=>F.za.C1_dict_Dict_fresh n (fun W Y Z a0 b0 c0 d0=>xr q165 ks W c d e f g h i Y Z a0 o b0 c0 r s t u v w x y z A B C D E G H I J K L M N O P Q d0 S T U V) a b i j k l p q R
noncomputable def ql96 (X:Type) (n:Nat):CutI X:=mkCi 9 21 6 0 q143 [q144] [] [] fun ks a b c d e f g h i j k l o p q r s t u v w x y z A B C D E G H I J K L M N O P Q R S T U V W=>F.za.C1_cur_Cur_Fail n (fun Y Z=>xn q144 ks d e f g h i j k Y Z p q r s t u v w x y z A B C D E G H I J K L M N O P Q R S T U V W) a b c l o
def q167:Shape:=⟨[(0,v16),(1,V0),(2,.str),(3,(.const (.fn 224 [] [(.ref 19 0)])))],b109,t40,[],[],21,6,0⟩
def q168:Shape:=⟨e56,b109,t40,[],[],21,6,0⟩
noncomputable def ql97 (X:Type) (n:Nat):CutI X:=mkCi 9 21 6 0 q167 [] [] [q168] fun ks a b c d e f g h i j k l o p q r s t u v w x y z A B C D E G H I J K L M N O P Q R S T U V=>F.za.C1_dict_check_1 n (fun W Y Z=>xr q168 ks W c d e f g h i j Y Z o p q r s t u v w x y z A B C D E G H I J K L M N O P Q R S T U V) a b k l N
def q169:Shape:=⟨e63,b121,t40,[],[],17,6,0⟩
def q170:Shape:=⟨e64,b121,t40,[],[],17,6,0⟩
noncomputable def ql98 (X:Type) (n:Nat):CutI X:=mkCi 10 17 6 0 q169 [] [] [q170] fun ks a b c d e f g h i j k l o p q r s t u v w x y z A B C D E G H I J K L M N=>F.za.C1_dict_Dict_Get n (fun O P Q R S T U=>xr q170 ks O b c d e f g h P Q R l S T q r s t u v w x y z A B C D E G H I U K L M N) a h i j k o p J
def q171:Shape:=⟨e19,b121,t40,[],[],17,6,0⟩
def q172:Shape:=⟨[],b121,t40,[],[],17,6,0⟩
noncomputable def ql99 (X:Type) (n:Nat):CutI X:=mkCi 11 17 6 0 q171 [q172] [] [] fun ks a b c d e f g h i j k l o p q r s t u v w x y z A B C D E G H I J K L M N O P=>F.za.C1_cur_Cur_Fail n (fun Q R=>xn q172 ks d e f g h i j k Q R p q r s t u v w x y z A B C D E G H I J K L M N O P) a b c l o
def q173:Shape:=⟨[(0,v16),(1,V0),(2,(.const (.fn 162 [] [(.ref 12 0),(.ref 13 0),(.ref 14 0)]))),(3,(.const (.fn 164 [] [(.ref 15 0),(.ref 16 0)])))],b121,t40,[],[],17,6,0⟩
def q174:Shape:=⟨e58,b121,t40,[],[],17,6,0⟩
noncomputable def ql100 (X:Type) (n:Nat):CutI X:=mkCi 12 17 6 0 q173 [] [] [q174] fun ks a b c d e f g h i j k l o p q r s t u v w x y z A B C D E G H I J K L M N=>F.za.C1_rec_bound_string n (fun O P Q R S T U=>xr q174 ks O b c d e f g h P Q R l S T q r s t u v w x y z A B C D E G H I U K L M N) a h i j k o p E G H J
def q175:Shape:=⟨[(5,V0),(6,v69),(7,v70),(8,v71),(9,v72),(10,(.const (.ref 16 0)))],b121,t40,[],[],17,6,0⟩
def q176:Shape:=⟨e75,b127,t40,[],[],12,6,0⟩
noncomputable def ql101 (X:Type) (n:Nat):CutI X:=mkCi 13 12 6 0 q175 [] [] [q176] fun ks a b c d e f g h i j k l o p q r s t u v w x y z A B C D E G H I J K L M N=>F.za.C1_rec_word n (fun O P Q R S T U=>xr q176 ks O b c d e f g h P Q R l S T q r s t u v w x y z A B C D I U K L M N) a h i j k o p E G H J
def q177:Shape:=⟨e19,b127,t40,[],[],12,6,0⟩
def q178:Shape:=⟨[],b127,t40,[],[],12,6,0⟩
noncomputable def ql102 (X:Type) (n:Nat):CutI X:=mkCi 13 12 6 0 q177 [q178] [] [] fun ks a b c d e f g h i j k l o p q r s t u v w x y z A B C D E G H I J K L M=>F.za.C1_cur_Cur_Fail n (fun N O=>xn q178 ks d e f g h i j k N O p q r s t u v w x y z A B C D E G H I J K L M) a b c l o
def q179:Shape:=⟨[(0,v38),(3,v101),(4,v102),(5,v103),(8,V0),(9,V0),(10,v68),(87,.bool)],b127,t40,[],[],12,2,0⟩
def q180:Shape:=⟨[(0,v38),(3,v101),(4,v102),(5,v103),(8,V0),(10,v68)],b127,t40,[],[],12,2,0⟩
noncomputable def ql103 (X:Type) (n:Nat):CutI X:=mkCi 14 8 2 0 q179 [q180] [] [] fun ks a b c d e f g h i j k l o p q r s t u v w x y z A B C D E G H I J K L M=>F.za.C22_rec_Get n (fun N O=>xn q180 ks a d e f g h i j k N O p q r s t u v w x y z A B C D E G H I J K L M) b c l o
def q181:Shape:=⟨[(0,v38),(3,v101),(4,v102),(5,v103),(8,V0),(9,V0),(10,v68),(11,V0)],b127,t40,[],[],12,2,0⟩
noncomputable def ql104 (X:Type) (n:Nat):CutI X:=mkCi 14 8 2 0 q181 [q180] [] [] fun ks a b c d e f g h i j k l o p q r s t u v w x y z A B C D E G H I J K L M=>F.za.C21_rec_Get n (fun N O=>xn q180 ks a d e f g h i j k N O p q r s t u v w x y z A B C D E G H I J K L M) b c l o C E G
def q182:Shape:=⟨[(0,v38),(3,v101),(4,v102),(5,v103),(8,V0)],b74,t40,[],[],11,2,0⟩
noncomputable def ql105 (X:Type) (n:Nat):CutI X:=mkCi 14 8 2 0 q180 [q182] [] [] fun ks a b c d e f g h i j k l o p q r s t u v w x y z A B C D E G H I J K=>F.za.C23_rec_Get n (fun L M=>xn q182 ks a b c d e f g h i j k l o p q r s t u v w x y z L B E G H I J M) A C D K
def q183:Shape:=⟨[(0,v38),(3,v101),(4,v102),(5,v103),(8,V0),(9,V0),(10,v68)],b127,t40,[],[],12,2,0⟩
noncomputable def ql106 (X:Type) (n:Nat):CutI X:=mkCi 14 8 2 0 q183 [q182] [] [] fun ks a b c d e f g h i j k l o p q r s t u v w x y z A B C D E G H I J K L=>F.za.C20_rec_Get n (fun M N O P=>xn q182 ks a c d e f g h i j M N o p q r s t u v w x y z A O C G H I J K P) b k l B D E L
noncomputable def ql107 (X:Type) (n:Nat):CutI X:=mkCi 14 8 2 0 q183 [q182] [] [] fun ks a b c d e f g h i j k l o p q r s t u v w x y z A B C D _ E G H I J K=>F.za.C19_rec_Get n (fun L M N O P Q R S=>xn q182 ks a c d e f g h i L M N o O P r s t u v w x y z A Q C E R H I J S) b i j k l p q B D G K
def q184:Shape:=⟨[(0,v38),(3,v101),(4,v102),(5,v103),(8,V0),(9,V0)],b74,t40,[],[],11,2,0⟩
noncomputable def ql108 (X:Type) (n:Nat):CutI X:=mkCi 14 8 2 0 q184 [q182] [] [] fun ks a b c d e f g h i j k l o p q r s t u v w x y z A B C D E G H I J=>F.za.C18_rec_Get n (fun K L M N O P Q R=>xn q182 ks a c d e f g h i K L M o N O r s t u v w x y z A P C D Q G H I R) b i j k l p q B E J
noncomputable def ql109 (X:Type) (n:Nat):CutI X:=mkCi 14 8 2 0 q182 [q182] [] [] fun ks a b c d e f g h i j k l o p q r s t u v w x y z A B C D E G H I=>F.za.C17_rec_Get n (fun J K L M N O P Q R=>xn q182 ks J b c d e f g h K L M l N O q r s t u v w x y z P B C Q E G H R) a h i j k o p A D I
def q185:Shape:=⟨[(3,v101),(4,v102),(5,v103)],b74,t40,[],[],11,2,0⟩
noncomputable def ql110 (X:Type) (n:Nat):LoopI X:=mkLi 14 8 2 0 q182 [(2,q185)] [] n fun m ks a b c d e f g h i j k l o p q r s t u v w x y z A B C D E G H I=>F.za.L15_rec_Get n (fun J K L M N O P Q=>xe q185 ks 2 b c d e f g h J K L l M N q r s t u v w x y z O B C P E G H Q) m a h i j k o p A D I
noncomputable def ql111 (X:Type) (n:Nat):CutI X:=mkCi 14 8 2 0 q182 [q185] [] [] fun ks a b c d e f g h i j k l o p q r s t u v w x y z A B C D E G H I=>F.za.C15_rec_Get n (fun J K L M N O P Q=>xn q185 ks b c d e f g h J K L l M N q r s t u v w x y z O B C P E G H Q) a h i j k o p A D I
def q186:Shape:=⟨[(4,v102)],b135,t136,[],[],10,2,0⟩
noncomputable def ql112 (X:Type) (n:Nat):CutI X:=mkCi 14 8 2 0 q185 [] [] [q186] fun ks a b c d e f g h i j k l o _ _ _ _ _ _ p q r s t u v w _ _ x y=>F.za.C25_rec_Get n (fun z A B C D E G H=>xr q186 ks a b c d e f g h i j k l o z A B C D E v w G H) i j p q r s t u x y
noncomputable def ql113 (X:Type) (n:Nat):CutI X:=mkCi 14 8 2 0 q185 [] [] [q186] fun ks a b c d e f g h i j k l o _ _ _ _ _ _ p q r s t _ u v _ _ w x=>F.za.C24_rec_Get n (fun y z A B C D E G H I J=>xr q186 ks a b c d e f g y z A k l o B C D E G H u v I J) g h i j p q r s t w x
noncomputable def ql114 (X:Type) (n:Nat):CutI X:=mkCi 14 8 2 0 q127 [] [] [q186] fun ks a b c d e f g h i j k l o _ _ _ _ _ _ p q r s t _ u v _ _ w x=>F.za.C14_rec_Get n (fun y z A B C D E G H I J K L M=>xr q186 ks a b c d e f g y z A k B C D E G H I J u K L M) g h i j l o p q r s t v w x
def q187:Shape:=⟨[(0,v38),(3,v101),(4,v102),(5,v103),(7,V0)],b74,t40,[],[],11,2,0⟩
noncomputable def ql115 (X:Type) (n:Nat):CutI X:=mkCi 14 8 2 0 q187 [] [] [q186] fun ks a b c d e f g h i j k l o p _ _ _ _ _ _ q r s _ t _ u v _ _ w x=>F.za.C13_rec_Get n (fun y z A B C D E G H I J K L M=>xr q186 ks b c d e f g h y z A l B C D E G H I J u K L M) a h i j k o p q r s t v w x
noncomputable def ql116 (X:Type) (n:Nat):CutI X:=mkCi 14 8 2 0 q127 [] [] [q186] fun ks a b c d e f g h i j k l o _ _ _ _ _ _ p q r _ s _ t u _ _ v w=>F.za.C10_rec_Get n (fun x y z A B C D E G H I J K L=>xr q186 ks a b c d e f g x y z k A B C D E G H I t J K L) g h i j l o p q r s u v w
noncomputable def ql117 (X:Type) (n:Nat):CutI X:=mkCi 14 8 2 0 q127 [] [] [q186] fun ks a b c d e f g h i j k l o _ _ _ _ _ _ p q r s t u v w _ _ x y=>F.za.C6_rec_Get n (fun z A B C D E G H I J K L M N=>xr q186 ks a b c d e f g z A B k C D E G H I J K v L M N) g h i j l o p q r s t u w x y
noncomputable def ql118 (X:Type) (n:Nat):CutI X:=mkCi 14 8 2 0 q127 [] [] [q186] fun ks a b c d e f g h i j k l o _ _ _ _ _ _ p _ q r s t u v _ _ w x=>F.za.C5_rec_Get n (fun y z A B C D E G H I J K L M=>xr q186 ks a b c d e f g y z A k B C D E G H I J u K L M) g h i j l o p q r s t v w x
def q188:Shape:=⟨[(0,v38),(3,v101),(4,v102)],b135,t136,[],[],10,2,0⟩
noncomputable def ql119 (X:Type) (n:Nat):CutI X:=mkCi 14 8 2 0 q188 [] [] [q186] fun ks a b c d e f g h i j k l o _ _ _ _ _ _ p q _ _=>F.za.C3_rec_Get n (fun r s t u v w x y z A B C D E=>xr q186 ks a b c d e f g r s t k u v w x y z A B p C D E) g h i j l o q
noncomputable def ql120 (X:Type) (n:Nat):CutI X:=mkCi 14 8 2 0 q188 [] [] [q186] fun ks a b c d e f g h i j k l o _ _ _ _ _ _ p q _ _=>F.za.C1_rec_Get n (fun r s t u v w x y z A B C D E=>xr q186 ks a b c d e f g r s t k u v w x y z A B p C D E) g h i j l o q
def q189:Shape:=⟨[(0,v16),(1,v9),(4,v38),(14,V7),(15,V7)],b140,t141,[],[],8,0,0⟩
def q190:Shape:=⟨e21,b140,t141,[],[],8,0,0⟩
def q191:Shape:=⟨[],b140,t141,[],[],8,0,0⟩
noncomputable def ql121 (X:Type) (n:Nat):LoopI X:=mkLi 15 6 0 0 q189 [(0,q190),(167000005,q191)] [] n fun m ks a b c d e f g h i j k l o p q r s=>F.za.L6_frame_Payload_1 n (fun t u v w x y z A=>xe q190 ks 0 c d t f g h i u v w o x y z A) (fun t u v w x y z A=>xe q191 ks 167000005 c d t f g h i u v w o x y z A) m a b e i j k l o p q r s
def q192:Shape:=⟨e19,b140,t141,[],[],8,2,0⟩
def q193:Shape:=⟨[],b140,t141,[],[],8,2,0⟩
noncomputable def ql122 (X:Type) (n:Nat):CutI X:=mkCi 14 8 2 0 q192 [q193] [] [] fun ks a b c d e f g h i j k l o p q r s t=>F.za.C1_cur_Cur_Fail n (fun u v=>xn q193 ks d e f g h i j k u v p q r s t) a b c l o
def q194:Shape:=⟨[(0,v16),(1,v9),(3,V7)],b28,[true],[],[],6,0,0⟩
def q195:Shape:=⟨[],b28,[true],[],[],6,0,0⟩
noncomputable def ql123 (X:Type) (n:Nat):CutI X:=mkCi 15 6 0 0 q194 [q195] [(167000005,q195)] [] fun ks a b c d e f g h i j k l o=>F.za.C3_frame_Payload_1 n (fun p q r s t=>xe q195 ks 167000005 b c p e f g h q r s l t) (fun p q r s t=>xn q195 ks b c p e f g h q r s l t) a d h i j k l o
noncomputable def cx58 (X:Type) (n:Nat):Cx X:=mkCx tab.get [(58,Tryz.f58),(73,Tryz.f73),(74,Tryz.f74),(75,Tryz.f75),(77,Tryz.f77),(78,Tryz.f78),(79,Tryz.f79),(80,Tryz.f80),(99,Tryz.f99),(100,Tryz.f100),(101,Tryz.f101),(102,Tryz.f102),(103,Tryz.f103),(104,Tryz.f104),(105,Tryz.f105),(106,Tryz.f106),(107,Tryz.f107),(109,Tryz.f109),(110,Tryz.f110),(160,Tryz.f160),(161,Tryz.f161),(162,Tryz.f162),(163,Tryz.f163),(164,Tryz.f164),(165,Tryz.f165),(166,Tryz.f166),(167,Tryz.f167),(222,Tryz.f222),(223,Tryz.f223),(224,Tryz.f224),(276,Tryz.f276),(277,Tryz.f277)] [o54 n,o108 n,o111 n,o168 n,o169 n,o198 n,o221 n] [(73,6,[ql121 X n]),(78,7,[ql72 X n]),(78,15,[ql110 X n]),(99,3,[ql12 X n,ql20 X n,ql27 X n,ql51 X n,ql60 X n,ql66 X n,ql79 X n,ql86 X n])] [] [(73,7,[(0,3),(3,3)]),(74,3,[(0,3),(3,3),(5,5)]),(78,9,[(1,3),(3,3)]),(100,2,[(2,2),(1000,0),(1000,1),(1000,3),(1000,2),(1000,4),(1000,5),(1000,6)]),(163,2,[(2,1),(1,1),(1000,0),(1000,2),(1000,1),(1000,3)]),(163,13,[(2,1),(1,1),(1000,0),(1000,2),(1000,1),(1000,3),(1000,4)])] [] [(73,3,[ql123 X n]),(74,1,[ql14 X n,ql22 X n,ql29 X n,ql53 X n,ql62 X n,ql68 X n,ql81 X n,ql88 X n]),(75,1,[ql9 X n,ql13 X n,ql15 X n,ql16 X n,ql17 X n,ql21 X n,ql23 X n,ql24 X n,ql28 X n,ql30 X n,ql32 X n,ql34 X n,ql37 X n,ql40 X n,ql43 X n,ql46 X n,ql48 X n,ql52 X n,ql54 X n,ql57 X n,ql61 X n,ql63 X n,ql67 X n,ql69 X n,ql75 X n,ql76 X n,ql80 X n,ql82 X n,ql83 X n,ql87 X n,ql89 X n,ql91 X n,ql93 X n,ql96 X n,ql99 X n,ql102 X n,ql122 X n]),(78,1,[ql120 X n]),(78,3,[ql119 X n]),(78,5,[ql118 X n]),(78,6,[ql117 X n]),(78,7,[ql73 X n]),(78,9,[ql71 X n]),(78,10,[ql116 X n]),(78,13,[ql115 X n]),(78,14,[ql114 X n]),(78,15,[ql111 X n]),(78,17,[ql109 X n]),(78,18,[ql108 X n]),(78,19,[ql107 X n]),(78,20,[ql106 X n]),(78,21,[ql104 X n]),(78,22,[ql103 X n]),(78,23,[ql105 X n]),(78,24,[ql113 X n]),(78,25,[ql112 X n]),(101,1,[ql11 X n,ql19 X n,ql26 X n,ql45 X n,ql50 X n,ql59 X n,ql65 X n,ql78 X n,ql85 X n]),(105,1,[ql42 X n,ql74 X n,ql101 X n]),(106,1,[ql47 X n]),(109,1,[ql56 X n]),(110,1,[ql70 X n]),(160,1,[ql10 X n,ql18 X n,ql25 X n,ql31 X n,ql44 X n,ql49 X n,ql58 X n,ql64 X n,ql77 X n,ql84 X n,ql90 X n]),(161,1,[ql41 X n,ql100 X n]),(163,1,[ql39 X n,ql98 X n]),(165,1,[ql55 X n]),(222,1,[ql36 X n,ql95 X n]),(222,8,[ql35 X n,ql94 X n]),(223,1,[ql33 X n,ql38 X n,ql92 X n,ql97 X n])] [] [(76,.must 166),(81,.tryp 166)] none []
theorem qo9 (X:Type) (n:Nat):CO (cx58 X n) 75 Tryz.f75 0 (ql9 X n):=fun _ _=>by kernel_rfl
theorem qo10 (X:Type) (n:Nat):CO (cx58 X n) 160 Tryz.f160 0 (ql10 X n):=fun _ _=>by kernel_rfl
theorem qo11 (X:Type) (n:Nat):CO (cx58 X n) 101 Tryz.f101 0 (ql11 X n):=fun _ _=>by kernel_rfl
theorem qo13 (X:Type) (n:Nat):CO (cx58 X n) 75 Tryz.f75 0 (ql13 X n):=fun _ _=>by kernel_rfl
theorem qo14 (X:Type) (n:Nat):CO (cx58 X n) 74 Tryz.f74 0 (ql14 X n):=fun _ _=>by kernel_rfl
theorem qo15 (X:Type) (n:Nat):CO (cx58 X n) 75 Tryz.f75 0 (ql15 X n):=fun _ _=>by kernel_rfl
theorem qo16 (X:Type) (n:Nat):CO (cx58 X n) 75 Tryz.f75 0 (ql16 X n):=fun _ _=>by kernel_rfl
theorem qo17 (X:Type) (n:Nat):CO (cx58 X n) 75 Tryz.f75 0 (ql17 X n):=fun _ _=>by kernel_rfl
theorem qo18 (X:Type) (n:Nat):CO (cx58 X n) 160 Tryz.f160 0 (ql18 X n):=fun _ _=>by kernel_rfl
theorem qo19 (X:Type) (n:Nat):CO (cx58 X n) 101 Tryz.f101 0 (ql19 X n):=fun _ _=>by kernel_rfl
theorem qo21 (X:Type) (n:Nat):CO (cx58 X n) 75 Tryz.f75 0 (ql21 X n):=fun _ _=>by kernel_rfl
theorem qo22 (X:Type) (n:Nat):CO (cx58 X n) 74 Tryz.f74 0 (ql22 X n):=fun _ _=>by kernel_rfl
theorem qo23 (X:Type) (n:Nat):CO (cx58 X n) 75 Tryz.f75 0 (ql23 X n):=fun _ _=>by kernel_rfl
theorem qo24 (X:Type) (n:Nat):CO (cx58 X n) 75 Tryz.f75 0 (ql24 X n):=fun _ _=>by kernel_rfl
theorem qo25 (X:Type) (n:Nat):CO (cx58 X n) 160 Tryz.f160 0 (ql25 X n):=fun _ _=>by kernel_rfl
theorem qo26 (X:Type) (n:Nat):CO (cx58 X n) 101 Tryz.f101 0 (ql26 X n):=fun _ _=>by kernel_rfl
theorem qo28 (X:Type) (n:Nat):CO (cx58 X n) 75 Tryz.f75 0 (ql28 X n):=fun _ _=>by kernel_rfl
theorem qo29 (X:Type) (n:Nat):CO (cx58 X n) 74 Tryz.f74 0 (ql29 X n):=fun _ _=>by kernel_rfl
theorem qo30 (X:Type) (n:Nat):CO (cx58 X n) 75 Tryz.f75 0 (ql30 X n):=fun _ _=>by kernel_rfl
theorem qo31 (X:Type) (n:Nat):CO (cx58 X n) 160 Tryz.f160 0 (ql31 X n):=fun _ _=>by kernel_rfl
theorem qo32 (X:Type) (n:Nat):CO (cx58 X n) 75 Tryz.f75 0 (ql32 X n):=fun _ _=>by kernel_rfl
theorem qo33 (X:Type) (n:Nat):CO (cx58 X n) 223 Tryz.f223 0 (ql33 X n):=fun _ _=>by kernel_rfl
theorem qo34 (X:Type) (n:Nat):CO (cx58 X n) 75 Tryz.f75 0 (ql34 X n):=fun _ _=>by kernel_rfl
theorem qo35 (X:Type) (n:Nat):CO (cx58 X n) 222 Tryz.f222 7 (ql35 X n):=fun _ _=>by kernel_rfl
theorem qo36 (X:Type) (n:Nat):CO (cx58 X n) 222 Tryz.f222 0 (ql36 X n):=fun _ _=>by kernel_rfl
theorem qo37 (X:Type) (n:Nat):CO (cx58 X n) 75 Tryz.f75 0 (ql37 X n):=fun _ _=>by kernel_rfl
theorem qo38 (X:Type) (n:Nat):CO (cx58 X n) 223 Tryz.f223 0 (ql38 X n):=fun _ _=>by kernel_rfl
theorem qo39 (X:Type) (n:Nat):CO (cx58 X n) 163 Tryz.f163 0 (ql39 X n):=fun _ _=>by kernel_rfl
theorem qo40 (X:Type) (n:Nat):CO (cx58 X n) 75 Tryz.f75 0 (ql40 X n):=fun _ _=>by kernel_rfl
theorem qo41 (X:Type) (n:Nat):CO (cx58 X n) 161 Tryz.f161 0 (ql41 X n):=fun _ _=>by kernel_rfl
theorem qo42 (X:Type) (n:Nat):CO (cx58 X n) 105 Tryz.f105 0 (ql42 X n):=fun _ _=>by kernel_rfl
theorem qo43 (X:Type) (n:Nat):CO (cx58 X n) 75 Tryz.f75 0 (ql43 X n):=fun _ _=>by kernel_rfl
theorem qo44 (X:Type) (n:Nat):CO (cx58 X n) 160 Tryz.f160 0 (ql44 X n):=fun _ _=>by kernel_rfl
theorem qo45 (X:Type) (n:Nat):CO (cx58 X n) 101 Tryz.f101 0 (ql45 X n):=fun _ _=>by kernel_rfl
theorem qo46 (X:Type) (n:Nat):CO (cx58 X n) 75 Tryz.f75 0 (ql46 X n):=fun _ _=>by kernel_rfl
theorem qo47 (X:Type) (n:Nat):CO (cx58 X n) 106 Tryz.f106 0 (ql47 X n):=fun _ _=>by kernel_rfl
theorem qo48 (X:Type) (n:Nat):CO (cx58 X n) 75 Tryz.f75 0 (ql48 X n):=fun _ _=>by kernel_rfl
theorem qo49 (X:Type) (n:Nat):CO (cx58 X n) 160 Tryz.f160 0 (ql49 X n):=fun _ _=>by kernel_rfl
theorem qo50 (X:Type) (n:Nat):CO (cx58 X n) 101 Tryz.f101 0 (ql50 X n):=fun _ _=>by kernel_rfl
theorem qo52 (X:Type) (n:Nat):CO (cx58 X n) 75 Tryz.f75 0 (ql52 X n):=fun _ _=>by kernel_rfl
theorem qo53 (X:Type) (n:Nat):CO (cx58 X n) 74 Tryz.f74 0 (ql53 X n):=fun _ _=>by kernel_rfl
theorem qo54 (X:Type) (n:Nat):CO (cx58 X n) 75 Tryz.f75 0 (ql54 X n):=fun _ _=>by kernel_rfl
theorem qo55 (X:Type) (n:Nat):CO (cx58 X n) 165 Tryz.f165 0 (ql55 X n):=fun _ _=>by kernel_rfl
theorem qo56 (X:Type) (n:Nat):CO (cx58 X n) 109 Tryz.f109 0 (ql56 X n):=fun _ _=>by kernel_rfl
theorem qo57 (X:Type) (n:Nat):CO (cx58 X n) 75 Tryz.f75 0 (ql57 X n):=fun _ _=>by kernel_rfl
theorem qo58 (X:Type) (n:Nat):CO (cx58 X n) 160 Tryz.f160 0 (ql58 X n):=fun _ _=>by kernel_rfl
theorem qo59 (X:Type) (n:Nat):CO (cx58 X n) 101 Tryz.f101 0 (ql59 X n):=fun _ _=>by kernel_rfl
theorem qo61 (X:Type) (n:Nat):CO (cx58 X n) 75 Tryz.f75 0 (ql61 X n):=fun _ _=>by kernel_rfl
theorem qo62 (X:Type) (n:Nat):CO (cx58 X n) 74 Tryz.f74 0 (ql62 X n):=fun _ _=>by kernel_rfl
theorem qo63 (X:Type) (n:Nat):CO (cx58 X n) 75 Tryz.f75 0 (ql63 X n):=fun _ _=>by kernel_rfl
theorem qo64 (X:Type) (n:Nat):CO (cx58 X n) 160 Tryz.f160 0 (ql64 X n):=fun _ _=>by kernel_rfl
theorem qo65 (X:Type) (n:Nat):CO (cx58 X n) 101 Tryz.f101 0 (ql65 X n):=fun _ _=>by kernel_rfl
theorem qo67 (X:Type) (n:Nat):CO (cx58 X n) 75 Tryz.f75 0 (ql67 X n):=fun _ _=>by kernel_rfl
theorem qo68 (X:Type) (n:Nat):CO (cx58 X n) 74 Tryz.f74 0 (ql68 X n):=fun _ _=>by kernel_rfl
theorem qo69 (X:Type) (n:Nat):CO (cx58 X n) 75 Tryz.f75 0 (ql69 X n):=fun _ _=>by kernel_rfl
theorem qo70 (X:Type) (n:Nat):CO (cx58 X n) 110 Tryz.f110 0 (ql70 X n):=fun _ _=>by kernel_rfl
theorem qo71 (X:Type) (n:Nat):CO (cx58 X n) 78 Tryz.f78 9 (ql71 X n):=fun _ _=>by kernel_rfl
theorem qo73 (X:Type) (n:Nat):CO (cx58 X n) 78 Tryz.f78 8 (ql73 X n):=fun _ _=>by kernel_rfl
theorem qo74 (X:Type) (n:Nat):CO (cx58 X n) 105 Tryz.f105 0 (ql74 X n):=fun _ _=>by kernel_rfl
theorem qo75 (X:Type) (n:Nat):CO (cx58 X n) 75 Tryz.f75 0 (ql75 X n):=fun _ _=>by kernel_rfl
theorem qo76 (X:Type) (n:Nat):CO (cx58 X n) 75 Tryz.f75 0 (ql76 X n):=fun _ _=>by kernel_rfl
theorem qo77 (X:Type) (n:Nat):CO (cx58 X n) 160 Tryz.f160 0 (ql77 X n):=fun _ _=>by kernel_rfl
theorem qo78 (X:Type) (n:Nat):CO (cx58 X n) 101 Tryz.f101 0 (ql78 X n):=fun _ _=>by kernel_rfl
theorem qo80 (X:Type) (n:Nat):CO (cx58 X n) 75 Tryz.f75 0 (ql80 X n):=fun _ _=>by kernel_rfl
theorem qo81 (X:Type) (n:Nat):CO (cx58 X n) 74 Tryz.f74 0 (ql81 X n):=fun _ _=>by kernel_rfl
theorem qo82 (X:Type) (n:Nat):CO (cx58 X n) 75 Tryz.f75 0 (ql82 X n):=fun _ _=>by kernel_rfl
theorem qo83 (X:Type) (n:Nat):CO (cx58 X n) 75 Tryz.f75 0 (ql83 X n):=fun _ _=>by kernel_rfl
theorem qo84 (X:Type) (n:Nat):CO (cx58 X n) 160 Tryz.f160 0 (ql84 X n):=fun _ _=>by kernel_rfl
theorem qo85 (X:Type) (n:Nat):CO (cx58 X n) 101 Tryz.f101 0 (ql85 X n):=fun _ _=>by kernel_rfl
theorem qo87 (X:Type) (n:Nat):CO (cx58 X n) 75 Tryz.f75 0 (ql87 X n):=fun _ _=>by kernel_rfl
theorem qo88 (X:Type) (n:Nat):CO (cx58 X n) 74 Tryz.f74 0 (ql88 X n):=fun _ _=>by kernel_rfl
theorem qo89 (X:Type) (n:Nat):CO (cx58 X n) 75 Tryz.f75 0 (ql89 X n):=fun _ _=>by kernel_rfl
theorem qo90 (X:Type) (n:Nat):CO (cx58 X n) 160 Tryz.f160 0 (ql90 X n):=fun _ _=>by kernel_rfl
theorem qo91 (X:Type) (n:Nat):CO (cx58 X n) 75 Tryz.f75 0 (ql91 X n):=fun _ _=>by kernel_rfl
theorem qo92 (X:Type) (n:Nat):CO (cx58 X n) 223 Tryz.f223 0 (ql92 X n):=fun _ _=>by kernel_rfl
theorem qo93 (X:Type) (n:Nat):CO (cx58 X n) 75 Tryz.f75 0 (ql93 X n):=fun _ _=>by kernel_rfl
theorem qo94 (X:Type) (n:Nat):CO (cx58 X n) 222 Tryz.f222 7 (ql94 X n):=fun _ _=>by kernel_rfl
theorem qo95 (X:Type) (n:Nat):CO (cx58 X n) 222 Tryz.f222 0 (ql95 X n):=fun _ _=>by kernel_rfl
theorem qo96 (X:Type) (n:Nat):CO (cx58 X n) 75 Tryz.f75 0 (ql96 X n):=fun _ _=>by kernel_rfl
theorem qo97 (X:Type) (n:Nat):CO (cx58 X n) 223 Tryz.f223 0 (ql97 X n):=fun _ _=>by kernel_rfl
theorem qo98 (X:Type) (n:Nat):CO (cx58 X n) 163 Tryz.f163 0 (ql98 X n):=fun _ _=>by kernel_rfl
theorem qo99 (X:Type) (n:Nat):CO (cx58 X n) 75 Tryz.f75 0 (ql99 X n):=fun _ _=>by kernel_rfl
theorem qo100 (X:Type) (n:Nat):CO (cx58 X n) 161 Tryz.f161 0 (ql100 X n):=fun _ _=>by kernel_rfl
theorem qo101 (X:Type) (n:Nat):CO (cx58 X n) 105 Tryz.f105 0 (ql101 X n):=fun _ _=>by kernel_rfl
theorem qo102 (X:Type) (n:Nat):CO (cx58 X n) 75 Tryz.f75 0 (ql102 X n):=fun _ _=>by kernel_rfl
theorem qo103 (X:Type) (n:Nat):CO (cx58 X n) 78 Tryz.f78 26 (ql103 X n):=fun _ _=>by kernel_rfl
theorem qo104 (X:Type) (n:Nat):CO (cx58 X n) 78 Tryz.f78 25 (ql104 X n):=fun _ _=>by kernel_rfl
theorem qo105 (X:Type) (n:Nat):CO (cx58 X n) 78 Tryz.f78 24 (ql105 X n):=fun _ _=>by kernel_rfl
theorem qo106 (X:Type) (n:Nat):CO (cx58 X n) 78 Tryz.f78 23 (ql106 X n):=fun _ _=>by kernel_rfl
theorem qo107 (X:Type) (n:Nat):CO (cx58 X n) 78 Tryz.f78 22 (ql107 X n):=fun _ _=>by kernel_rfl
theorem qo108 (X:Type) (n:Nat):CO (cx58 X n) 78 Tryz.f78 21 (ql108 X n):=fun _ _=>by kernel_rfl
theorem qo109 (X:Type) (n:Nat):CO (cx58 X n) 78 Tryz.f78 18 (ql109 X n):=fun _ _=>by kernel_rfl
theorem qo111 (X:Type) (n:Nat):CO (cx58 X n) 78 Tryz.f78 17 (ql111 X n):=fun _ _=>by kernel_rfl
theorem qo112 (X:Type) (n:Nat):CO (cx58 X n) 78 Tryz.f78 27 (ql112 X n):=fun _ _=>by kernel_rfl
theorem qo113 (X:Type) (n:Nat):CO (cx58 X n) 78 Tryz.f78 16 (ql113 X n):=fun _ _=>by kernel_rfl
theorem qo114 (X:Type) (n:Nat):CO (cx58 X n) 78 Tryz.f78 15 (ql114 X n):=fun _ _=>by kernel_rfl
theorem qo115 (X:Type) (n:Nat):CO (cx58 X n) 78 Tryz.f78 13 (ql115 X n):=fun _ _=>by kernel_rfl
theorem qo116 (X:Type) (n:Nat):CO (cx58 X n) 78 Tryz.f78 7 (ql116 X n):=fun _ _=>by kernel_rfl
theorem qo117 (X:Type) (n:Nat):CO (cx58 X n) 78 Tryz.f78 6 (ql117 X n):=fun _ _=>by kernel_rfl
theorem qo118 (X:Type) (n:Nat):CO (cx58 X n) 78 Tryz.f78 5 (ql118 X n):=fun _ _=>by kernel_rfl
theorem qo119 (X:Type) (n:Nat):CO (cx58 X n) 78 Tryz.f78 1 (ql119 X n):=fun _ _=>by kernel_rfl
theorem qo120 (X:Type) (n:Nat):CO (cx58 X n) 78 Tryz.f78 0 (ql120 X n):=fun _ _=>by kernel_rfl
theorem qo122 (X:Type) (n:Nat):CO (cx58 X n) 75 Tryz.f75 0 (ql122 X n):=fun _ _=>by kernel_rfl
theorem qo123 (X:Type) (n:Nat):CO (cx58 X n) 73 Tryz.f73 1 (ql123 X n):=fun _ _=>by kernel_rfl
theorem qo12 (X:Type) (n:Nat):LO (cx58 X n) 99 Tryz.f99 0 (ql12 X n):=lok
theorem qo20 (X:Type) (n:Nat):LO (cx58 X n) 99 Tryz.f99 0 (ql20 X n):=lok
theorem qo27 (X:Type) (n:Nat):LO (cx58 X n) 99 Tryz.f99 0 (ql27 X n):=lok
theorem qo51 (X:Type) (n:Nat):LO (cx58 X n) 99 Tryz.f99 0 (ql51 X n):=lok
theorem qo60 (X:Type) (n:Nat):LO (cx58 X n) 99 Tryz.f99 0 (ql60 X n):=lok
theorem qo66 (X:Type) (n:Nat):LO (cx58 X n) 99 Tryz.f99 0 (ql66 X n):=lok
theorem qo72 (X:Type) (n:Nat):LO (cx58 X n) 78 Tryz.f78 0 (ql72 X n):=lok
theorem qo79 (X:Type) (n:Nat):LO (cx58 X n) 99 Tryz.f99 0 (ql79 X n):=lok
theorem qo86 (X:Type) (n:Nat):LO (cx58 X n) 99 Tryz.f99 0 (ql86 X n):=lok
theorem qo110 (X:Type) (n:Nat):LO (cx58 X n) 78 Tryz.f78 1 (ql110 X n):=lok
theorem qo121 (X:Type) (n:Nat):LO (cx58 X n) 73 Tryz.f73 0 (ql121 X n):=lok
theorem zt6 (X:Type) (n:Nat):CxOK Tryz.prog SW (cx58 X n):=mx (J (J Tryz.func58 (by decide)) (J (J Tryz.func73 (by decide)) (J (J Tryz.func74 (by decide)) (J (J Tryz.func75 (by decide)) (J (J Tryz.func77 (by decide)) (J (J Tryz.func78 (by decide)) (J (J Tryz.func79 (by decide)) (J (J Tryz.func80 (by decide)) (J (J Tryz.func99 (by decide)) (J (J Tryz.func100 (by decide)) (J (J Tryz.func101 (by decide)) (J (J Tryz.func102 (by decide)) (J (J Tryz.func103 (by decide)) (J (J Tryz.func104 (by decide)) (J (J Tryz.func105 (by decide)) (J (J Tryz.func106 (by decide)) (J (J Tryz.func107 (by decide)) (J (J Tryz.func109 (by decide)) (J (J Tryz.func110 (by decide)) (J (J Tryz.func160 (by decide)) (J (J Tryz.func161 (by decide)) (J (J Tryz.func162 (by decide)) (J (J Tryz.func163 (by decide)) (J (J Tryz.func164 (by decide)) (J (J Tryz.func165 (by decide)) (J (J Tryz.func166 (by decide)) (J (J Tryz.func167 (by decide)) (J (J Tryz.func222 (by decide)) (J (J Tryz.func223 (by decide)) (J (J Tryz.func224 (by decide)) (J (J Tryz.func276 (by decide)) (T1 (J Tryz.func277 (by decide)))))))))))))))))))))))))))))))))) (J (zd (ok54 n)) (J (zd (ok108 n)) (J (zd (ok111 n)) (J (zd (ok168 n)) (J (zd (ok169 n)) (J (zd (ok198 n)) (T1 (zd (ok221 n))))))))) (J (okc trivial trivial) (J (okk (J trivial (J (T1 (qo123 X n)) (J trivial (J trivial (J trivial (J trivial (J trivial (J trivial (J trivial (J trivial (J trivial (T1 trivial)))))))))))) (T1 (T1 (qo121 X n))) trivial) (J (okk (J (J (qo14 X n) (J (qo22 X n) (J (qo29 X n) (J (qo53 X n) (J (qo62 X n) (J (qo68 X n) (J (qo81 X n) (T1 (qo88 X n))))))))) (J trivial (J trivial (J trivial (J trivial (J trivial (T1 trivial))))))) trivial trivial) (J (okk (T1 (J (qo9 X n) (J (qo13 X n) (J (qo15 X n) (J (qo16 X n) (J (qo17 X n) (J (qo21 X n) (J (qo23 X n) (J (qo24 X n) (J (qo28 X n) (J (qo30 X n) (J (qo32 X n) (J (qo34 X n) (J (qo37 X n) (J (qo40 X n) (J (qo43 X n) (J (qo46 X n) (J (qo48 X n) (J (qo52 X n) (J (qo54 X n) (J (qo57 X n) (J (qo61 X n) (J (qo63 X n) (J (qo67 X n) (J (qo69 X n) (J (qo75 X n) (J (qo76 X n) (J (qo80 X n) (J (qo82 X n) (J (qo83 X n) (J (qo87 X n) (J (qo89 X n) (J (qo91 X n) (J (qo93 X n) (J (qo96 X n) (J (qo99 X n) (J (qo102 X n) (T1 (qo122 X n))))))))))))))))))))))))))))))))))))))) trivial trivial) (J (okc trivial trivial) (J (okk (J (T1 (qo120 X n)) (J (T1 (qo119 X n)) (J trivial (J trivial (J trivial (J (T1 (qo118 X n)) (J (T1 (qo117 X n)) (J (T1 (qo116 X n)) (J (T1 (qo73 X n)) (J (T1 (qo71 X n)) (J trivial (J trivial (J trivial (J (T1 (qo115 X n)) (J trivial (J (T1 (qo114 X n)) (J (T1 (qo113 X n)) (J (T1 (qo111 X n)) (J (T1 (qo109 X n)) (J trivial (J trivial (J (T1 (qo108 X n)) (J (T1 (qo107 X n)) (J (T1 (qo106 X n)) (J (T1 (qo105 X n)) (J (T1 (qo104 X n)) (J (T1 (qo103 X n)) (J (T1 (qo112 X n)) (J trivial (J trivial (J trivial (T1 trivial)))))))))))))))))))))))))))))))) (J (T1 (qo72 X n)) (T1 (T1 (qo110 X n)))) trivial) (J (okc trivial trivial) (J (okc trivial trivial) (J (okc (T1 (J (qo12 X n) (J (qo20 X n) (J (qo27 X n) (J (qo51 X n) (J (qo60 X n) (J (qo66 X n) (J (qo79 X n) (T1 (qo86 X n)))))))))) trivial) (J (okc trivial trivial) (J (okk (J (J (qo11 X n) (J (qo19 X n) (J (qo26 X n) (J (qo45 X n) (J (qo50 X n) (J (qo59 X n) (J (qo65 X n) (J (qo78 X n) (T1 (qo85 X n)))))))))) (J trivial (J trivial (J trivial (J trivial (T1 trivial)))))) trivial trivial) (J (okc trivial trivial) (J (okc trivial trivial) (J (okc trivial trivial) (J (okk (J (J (qo42 X n) (J (qo74 X n) (T1 (qo101 X n)))) (T1 trivial)) trivial trivial) (J (okk (J (T1 (qo47 X n)) (J trivial (J trivial (J trivial (J trivial (T1 trivial)))))) trivial trivial) (J (okc trivial trivial) (J (okk (J (T1 (qo56 X n)) (T1 trivial)) trivial trivial) (J (okk (J (T1 (qo70 X n)) (J trivial (J trivial (J trivial (J trivial (J trivial (J trivial (J trivial (J trivial (J trivial (T1 trivial))))))))))) trivial trivial) (J (okk (J (J (qo10 X n) (J (qo18 X n) (J (qo25 X n) (J (qo31 X n) (J (qo44 X n) (J (qo49 X n) (J (qo58 X n) (J (qo64 X n) (J (qo77 X n) (J (qo84 X n) (T1 (qo90 X n)))))))))))) (J trivial (J trivial (J trivial (J trivial (J trivial (J trivial (J trivial (J trivial (J trivial (J trivial (T1 trivial)))))))))))) trivial trivial) (J (okk (J (J (qo41 X n) (T1 (qo100 X n))) (J trivial (J trivial (J trivial (J trivial (T1 trivial)))))) trivial trivial) (J (okc trivial trivial) (J (okk (J (J (qo39 X n) (T1 (qo98 X n))) (J trivial (J trivial (J trivial (J trivial (J trivial (J trivial (J trivial (J trivial (J trivial (J trivial (J trivial (J trivial (J trivial (J trivial (J trivial (J trivial (J trivial (J trivial (J trivial (J trivial (J trivial (J trivial (J trivial (J trivial (J trivial (J trivial (J trivial (T1 trivial))))))))))))))))))))))))))))) trivial trivial) (J (okc trivial trivial) (J (okk (J (T1 (qo55 X n)) (J trivial (J trivial (J trivial (J trivial (T1 trivial)))))) trivial trivial) (J (okc trivial trivial) (J (okc trivial trivial) (J (okk (J (J (qo36 X n) (T1 (qo95 X n))) (J trivial (J trivial (J trivial (J trivial (J trivial (J trivial (J (J (qo35 X n) (T1 (qo94 X n))) (J trivial (J trivial (J trivial (J trivial (J trivial (J trivial (J trivial (J trivial (J trivial (J trivial (J trivial (J trivial (T1 trivial))))))))))))))))))))) trivial trivial) (J (okk (J (J (qo33 X n) (J (qo38 X n) (J (qo92 X n) (T1 (qo97 X n))))) (J trivial (J trivial (J trivial (J trivial (J trivial (T1 trivial))))))) trivial trivial) (J (okc trivial trivial) (J (okc trivial trivial) (T1 (okc trivial trivial))))))))))))))))))))))))))))))))) trivial (J (ztw.mono (fun _ _=>trivial)) (T1 (zvf (ok54 n) (fun l h=>bclone n h))))
abbrev P58:List SV:=[V1]
abbrev R58:RV:=.many [V9,V4]
theorem ok58 (n:Nat):FO 58 P58 R58 (F.za n):=zh WOf.st (zt6 _ n) (d:=16) fun _=>by kernel_rfl
noncomputable def o58 (n:Nat):=oc 58 P58 R58 (F.za n)
noncomputable def cx40 (X:Type) (n:Nat):Cx X:=mkCx tab.get [(40,Tryz.f40)] [o55 n,o56 n,o57 n,o58 n] [] [] [] []
theorem zt7 (X:Type) (n:Nat):CxOK Tryz.prog SW (cx40 X n):=mx (T1 (J Tryz.func40 (by decide))) (J (zd (ok55 n)) (J (zd (ok56 n)) (J (zd (ok57 n)) (T1 (zd (ok58 n)))))) (T1 (okc trivial trivial)) trivial
abbrev P40:List SV:=[V1]
abbrev R40:RV:=.many [V9,V4]
theorem ok40 (n:Nat):FO 40 P40 R40 (F.zam n):=zh WOf.st (zt7 _ n) (d:=8) fun _=>by kernel_rfl
noncomputable def o40 (n:Nat):=oc 40 P40 R40 (F.zam n)
abbrev P254:List SV:=[.str,.str]
abbrev R254:RV:=.one V0
theorem ok254 (n:Nat):FO 254 P254 R254 (O.index1 n):=zo3 (enters Tryz.func254 (by kernel_rfl) (by decide)) Tryz.stringslite_Index_one n
noncomputable def o254 (n:Nat):=oc 254 P254 R254 (O.index1 n)
noncomputable def cx197 (X:Type) (n:Nat):Cx X:=mkCx tab.get [(197,Tryz.f197)] [o254 n] [] [] [] []
theorem zrp (X:Type) (n:Nat):CxOK Tryz.prog SW (cx197 X n):=mx (T1 (J Tryz.func197 (by decide))) (T1 (zd (ok254 n))) (T1 (okc trivial trivial)) trivial
abbrev P197:List SV:=[.str,.str]
abbrev R197:RV:=.many [.str,.str,.bool]
theorem ok197 (n:Nat):FO 197 P197 R197 (F.zan n):=zh WOf.st (zrp _ n) (d:=8) fun _=>by kernel_rfl
noncomputable def o197 (n:Nat):=oc 197 P197 R197 (F.zan n)
noncomputable def cx139 (X:Type) (n:Nat):Cx X:=mkCx tab.get [(139,Tryz.f139)] [o197 n] [] [] [] []
theorem zrq (X:Type) (n:Nat):CxOK Tryz.prog SW (cx139 X n):=mx (T1 (J Tryz.func139 (by decide))) (T1 (zd (ok197 n))) (T1 (okc trivial trivial)) trivial
abbrev P139:List SV:=[.str,.str]
abbrev R139:RV:=.many [.str,.str,.bool]
theorem ok139 (n:Nat):FO 139 P139 R139 (F.zx n):=zh WOf.st (zrq _ n) (d:=8) fun _=>by kernel_rfl
noncomputable def o139 (n:Nat):=oc 139 P139 R139 (F.zx n)
noncomputable def cx140 (X:Type) (n:Nat):Cx X:=mkCx tab.get [(140,Tryz.f140)] [o198 n] [] [] [] []
theorem zrr (X:Type) (n:Nat):CxOK Tryz.prog SW (cx140 X n):=mx (T1 (J Tryz.func140 (by decide))) (T1 (zd (ok198 n))) (T1 (okc trivial trivial)) trivial
abbrev P140:List SV:=[V0,.str,V0,V0]
abbrev R140:RV:=.one V4
theorem ok140 (n:Nat):FO 140 P140 R140 (F.zaj n):=zh WOf.st (zrr _ n) (d:=8) fun _=>by kernel_rfl
noncomputable def o140 (n:Nat):=oc 140 P140 R140 (F.zaj n)
noncomputable def cx141 (X:Type) (n:Nat):Cx X:=mkCx tab.get [(141,Tryz.f141)] [] [] [] [] []
theorem zrs (X:Type) (n:Nat):CxOK Tryz.prog SW (cx141 X n):=mx (T1 (J Tryz.func141 (by decide))) trivial (T1 (okc trivial trivial)) trivial
abbrev P141:List SV:=[V0,V0]
abbrev R141:RV:=.many [V12,V4]
theorem ok141 (n:Nat):FO 141 P141 R141 (F.zae n):=zh WOf.st (zrs _ n) (d:=8) fun _=>by kernel_rfl
noncomputable def o141 (n:Nat):=oc 141 P141 R141 (F.zae n)
abbrev P196:List SV:=[.str,.str]
abbrev R196:RV:=.one .str
theorem ok196 (n:Nat):FO 196 P196 R196 (O.trimR n):=zq9 (enters Tryz.func196 (by kernel_rfl) (by decide)) Tryz.strings_TrimRight_one n
noncomputable def o196 (n:Nat):=oc 196 P196 R196 (O.trimR n)
noncomputable def cx204 (X:Type) (n:Nat):Cx X:=mkCx tab.get [(204,Tryz.f204)] [] [] [] [] []
theorem zrt (X:Type) (n:Nat):CxOK Tryz.prog SW (cx204 X n):=mx (T1 (J Tryz.func204 (by decide))) trivial (T1 (okc trivial trivial)) trivial
abbrev P204:List SV:=[.str,.str]
abbrev R204:RV:=.one .bool
theorem ok204 (n:Nat):FO 204 P204 R204 (F.zv n):=zh WOf.st (zrt _ n) (d:=8) fun _=>by kernel_rfl
noncomputable def o204 (n:Nat):=oc 204 P204 R204 (F.zv n)
noncomputable def cx144 (X:Type) (n:Nat):Cx X:=mkCx tab.get [(144,Tryz.f144)] [o204 n] [] [] [] []
theorem zru (X:Type) (n:Nat):CxOK Tryz.prog SW (cx144 X n):=mx (T1 (J Tryz.func144 (by decide))) (T1 (zd (ok204 n))) (T1 (okc trivial trivial)) trivial
abbrev P144:List SV:=[.str,.str]
abbrev R144:RV:=.one .bool
theorem ok144 (n:Nat):FO 144 P144 R144 (F.zr n):=zh WOf.st (zru _ n) (d:=8) fun _=>by kernel_rfl
noncomputable def o144 (n:Nat):=oc 144 P144 R144 (F.zr n)
def q196:Shape:=⟨[(0,v145),(1,v1),(3,V0)],b144,[],[],[],3,0,0⟩
def q197:Shape:=⟨[(0,v145),(3,V0)],b144,[],[],[],3,0,0⟩
noncomputable def ql124 (X:Type) (n:Nat):LoopI X:=mkLi 7 3 0 0 q196 [(0,q197)] [] n fun m ks=>F.zy.L2_dec_look_1 n (xe q197 ks 0) m
noncomputable def cx199 (X:Type) (n:Nat):Cx X:=mkCx tab.get [(199,Tryz.f199),(257,Tryz.f257)] [o144 n] [(257,2,[ql124 X n])] [] [] []
theorem qo124 (X:Type) (n:Nat):LO (cx199 X n) 257 Tryz.f257 0 (ql124 X n):=lok
theorem zrv (X:Type) (n:Nat):CxOK Tryz.prog SW (cx199 X n):=mx (J (J Tryz.func199 (by decide)) (T1 (J Tryz.func257 (by decide)))) (T1 (zd (ok144 n))) (J (okc trivial trivial) (T1 (okc (T1 (T1 (qo124 X n))) trivial))) trivial
abbrev P199:List SV:=[.str]
abbrev R199:RV:=.one V4
theorem ok199 (n:Nat):FO 199 P199 R199 (F.zy n):=zh WOf.st (zrv _ n) (d:=8) fun _=>by kernel_rfl
noncomputable def o199 (n:Nat):=oc 199 P199 R199 (F.zy n)
noncomputable def cx258 (X:Type) (n:Nat):Cx X:=mkCx tab.get [(258,Tryz.f258)] [o204 n] [] [] [] []
theorem zrw (X:Type) (n:Nat):CxOK Tryz.prog SW (cx258 X n):=mx (T1 (J Tryz.func258 (by decide))) (T1 (zd (ok204 n))) (T1 (okc trivial trivial)) trivial
abbrev P258:List SV:=[.str,.str]
abbrev R258:RV:=.many [.str,.bool]
theorem ok258 (n:Nat):FO 258 P258 R258 (F.zah n):=zh WOf.st (zrw _ n) (d:=8) fun _=>by kernel_rfl
noncomputable def o258 (n:Nat):=oc 258 P258 R258 (F.zah n)
noncomputable def cx200 (X:Type) (n:Nat):Cx X:=mkCx tab.get [(200,Tryz.f200)] [o258 n] [] [] [] []
theorem zrx (X:Type) (n:Nat):CxOK Tryz.prog SW (cx200 X n):=mx (T1 (J Tryz.func200 (by decide))) (T1 (zd (ok258 n))) (T1 (okc trivial trivial)) trivial
abbrev P200:List SV:=[.str,.str]
abbrev R200:RV:=.many [.str,.bool]
theorem ok200 (n:Nat):FO 200 P200 R200 (F.zt n):=zh WOf.st (zrx _ n) (d:=8) fun _=>by kernel_rfl
noncomputable def o200 (n:Nat):=oc 200 P200 R200 (F.zt n)
abbrev P201:List SV:=[.str,.str]
abbrev R201:RV:=.one .str
theorem ok201 (n:Nat):FO 201 P201 R201 (O.trimL n):=zra (enters Tryz.func201 (by kernel_rfl) (by decide)) Tryz.strings_TrimLeft_one n
noncomputable def o201 (n:Nat):=oc 201 P201 R201 (O.trimL n)
def q198:Shape:=⟨[(2,v1),(3,v9),(10,.str),(11,v149),(66,V0),(67,V0)],b148,[],[],[],4,0,0⟩
def q199:Shape:=⟨[(2,v1),(3,v9),(11,v149)],b148,[],[],[],4,0,0⟩
noncomputable def ql125 (X:Type) (n:Nat):LoopI X:=mkLi 8 0 0 0 q198 [(0,q199)] [] n fun m ks=>F.zq.L14 n (xe q199 ks 0) m
noncomputable def cx142 (X:Type) (n:Nat):Cx X:=mkCx tab.get [(142,Tryz.f142)] [o139 n,o196 n,o199 n,o200 n,o201 n,o202 n,o203 n] [(142,14,[ql125 X n])] [] [(142,3,[(1,2)])] []
theorem qo125 (X:Type) (n:Nat):LO (cx142 X n) 142 Tryz.f142 0 (ql125 X n):=lok
theorem zry (X:Type) (n:Nat):CxOK Tryz.prog SW (cx142 X n):=mx (T1 (J Tryz.func142 (by decide))) (J (zd (ok139 n)) (J (zd (ok196 n)) (J (zd (ok199 n)) (J (zd (ok200 n)) (J (zd (ok201 n)) (J (zd (ok202 n)) (T1 (zd (ok203 n))))))))) (T1 (okc (T1 (T1 (qo125 X n))) trivial)) trivial
abbrev P142:List SV:=[.str]
abbrev R142:RV:=.many [V8,V4]
theorem ok142 (n:Nat):FO 142 P142 R142 (F.zq n):=zh WOf.st (zry _ n) (d:=8) fun _=>by kernel_rfl
noncomputable def o142 (n:Nat):=oc 142 P142 R142 (F.zq n)
abbrev P135:List SV:=[V0]
abbrev R135:RV:=.many [.str,V0]
theorem ok135 (n:Nat):FO 135 P135 R135 (O.word n):=ztv (enters Tryz.func135 (by kernel_rfl) (by decide)) Tryz.statsd_Word n
noncomputable def o135 (n:Nat):=oc 135 P135 R135 (O.word n)
def q200:Shape:=⟨[(0,.str),(4,V0)],[],[],[],[],0,0,0⟩
def q201:Shape:=⟨[(2,V0),(3,V0)],[],[],[],[],0,0,0⟩
noncomputable def ql126 (X:Type) (n:Nat):LoopI X:=mkLi 8 0 0 0 q200 [(0,q12)] [q201] n fun m ks=>F.zo.L2 n (fun _=>xe q12 ks 0) (xr q201 ks) m
noncomputable def cx143 (X:Type) (n:Nat):Cx X:=mkCx tab.get [(143,Tryz.f143)] [o135 n] [(143,2,[ql126 X n])] [] [] []
theorem qo126 (X:Type) (n:Nat):LO (cx143 X n) 143 Tryz.f143 0 (ql126 X n):=lok
theorem zrz (X:Type) (n:Nat):CxOK Tryz.prog SW (cx143 X n):=mx (T1 (J Tryz.func143 (by decide))) (T1 (zd (ok135 n))) (T1 (okc (T1 (T1 (qo126 X n))) trivial)) trivial
abbrev P143:List SV:=[.str]
abbrev R143:RV:=.many [V0,V0]
theorem ok143 (n:Nat):FO 143 P143 R143 (F.zo n):=zh WOf.st (zrz _ n) (d:=8) fun _=>by kernel_rfl
noncomputable def o143 (n:Nat):=oc 143 P143 R143 (F.zo n)
noncomputable def cx205 (X:Type) (n:Nat):Cx X:=mkCx tab.get [(205,Tryz.f205)] [] [] [] [] []
theorem zr0 (X:Type) (n:Nat):CxOK Tryz.prog SW (cx205 X n):=mx (T1 (J Tryz.func205 (by decide))) trivial (T1 (okc trivial trivial)) trivial
abbrev P205:List SV:=[V0,V0]
abbrev R205:RV:=.many [V0,V4]
theorem ok205 (n:Nat):FO 205 P205 R205 (F.z8 n):=zh WOf.st (zr0 _ n) (d:=8) fun _=>by kernel_rfl
noncomputable def o205 (n:Nat):=oc 205 P205 R205 (F.z8 n)
def q202:Shape:=⟨[(0,.str),(3,v1),(4,v9),(16,V13),(17,V0)],b154,[],[],[],2,0,0⟩
def q203:Shape:=⟨[(0,.str),(3,v1),(4,v9)],b154,[],[],[],2,0,0⟩
noncomputable def ql127 (X:Type) (n:Nat):LoopI X:=mkLi 8 0 0 0 q202 [(0,q203)] [] n fun m ks=>F.zl.L5 n (xe q203 ks 0) m
def q204:Shape:=⟨[(3,v1),(7,.str),(9,v149),(10,(.const (.fn 206 [] [(.ref 3 0)]))),(81,V0)],b157,[],[],[],4,0,0⟩
def q205:Shape:=⟨[(3,v1),(9,v149)],b157,[],[],[],4,0,0⟩
noncomputable def ql128 (X:Type) (n:Nat):LoopI X:=mkLi 8 0 0 0 q204 [(3,q205)] [] n fun m ks=>F.zl.L23 n (xe q205 ks 3) m
noncomputable def cx145 (X:Type) (n:Nat):Cx X:=mkCx tab.get [(145,Tryz.f145),(206,Tryz.f206)] [o140 n,o205 n] [(145,5,[ql127 X n]),(145,23,[ql128 X n])] [] [] []
theorem qo127 (X:Type) (n:Nat):LO (cx145 X n) 145 Tryz.f145 0 (ql127 X n):=lok
theorem qo128 (X:Type) (n:Nat):LO (cx145 X n) 145 Tryz.f145 1 (ql128 X n):=lok
theorem zr1 (X:Type) (n:Nat):CxOK Tryz.prog SW (cx145 X n):=mx (J (J Tryz.func145 (by decide)) (T1 (J Tryz.func206 (by decide)))) (J (zd (ok140 n)) (T1 (zd (ok205 n)))) (J (okc (J (T1 (qo127 X n)) (T1 (T1 (qo128 X n)))) trivial) (T1 (okc trivial trivial))) trivial
abbrev P145:List SV:=[.str]
abbrev R145:RV:=.many [V0,V4]
theorem ok145 (n:Nat):FO 145 P145 R145 (F.zl n):=zh WOf.st (zr1 _ n) (d:=8) fun _=>by kernel_rfl
noncomputable def o145 (n:Nat):=oc 145 P145 R145 (F.zl n)
def q206:Shape:=⟨[(2,v9),(3,v145),(4,v149),(6,v165),(9,.bool),(19,V0),(141,.bool)],b164,t136,[],[],5,0,0⟩
def q207:Shape:=⟨[(2,v9),(3,v145)],[[.str],r167,[V0,V0]],[],[],[],3,0,0⟩
def q208:Shape:=⟨[(2,v9),(3,v145),(4,v149),(6,v165),(9,.bool)],b164,t136,[],[],5,0,0⟩
noncomputable def ql129 (X:Type) (n:Nat):CutI X:=mkCi 8 0 0 0 q206 [q208] [] [q207] fun ks=>F.ze.C30 n (xr q207 ks) (xn q208 ks)
noncomputable def ql130 (X:Type) (n:Nat):CutI X:=mkCi 8 0 0 0 q208 [] [] [q207] fun ks=>F.ze.C31 n (xr q207 ks)
def q209:Shape:=⟨[(2,v9),(3,v145),(4,v149),(6,v165),(9,.bool),(13,v26),(16,V0),(18,.str),(19,V0)],b171,t136,[],[],7,0,0⟩
noncomputable def ql131 (X:Type) (n:Nat):CutI X:=mkCi 8 0 0 0 q209 [] [] [q207] fun ks=>F.ze.C28 n (xr q207 ks)
def q210:Shape:=⟨[(1,v1),(2,v9),(3,v145),(4,v149),(5,v173),(6,v165),(7,.str),(9,.bool),(12,v16),(13,v26),(16,V0)],b171,t136,[],[],7,0,0⟩
noncomputable def ql132 (X:Type) (n:Nat):CutI X:=mkCi 8 0 0 0 q210 [] [] [q207] fun ks=>F.ze.C21 n (xr q207 ks)
def q211:Shape:=⟨[(1,v1),(2,v9),(3,v145),(4,v149),(5,v173),(6,v165),(7,.str),(9,.bool),(10,.str),(11,V0),(12,v16),(13,v26),(14,.str),(15,V0)],b171,t136,[],[],7,0,0⟩
noncomputable def ql133 (X:Type) (n:Nat):CutI X:=mkCi 8 0 0 0 q211 [] [] [q207] fun ks=>F.ze.C16 n (xr q207 ks)
def q212:Shape:=⟨[(1,v1),(2,v9),(3,v145),(4,v149),(5,v173),(6,v165),(7,.str),(9,.bool),(10,.str),(11,V0)],b164,t136,[],[],5,0,0⟩
noncomputable def ql134 (X:Type) (n:Nat):CutI X:=mkCi 8 0 0 0 q212 [] [] [q207] fun ks=>F.ze.C10 n (xr q207 ks)
def q213:Shape:=⟨[(1,v1),(2,v9),(3,v145),(4,v149),(5,v173),(6,v165),(7,.str),(9,.bool)],b164,t136,[],[],5,0,0⟩
noncomputable def ql135 (X:Type) (n:Nat):CutI X:=mkCi 8 0 0 0 q213 [] [] [q207] fun ks=>F.ze.C5 n (xr q207 ks)
noncomputable def cx92 (X:Type) (n:Nat):Cx X:=mkCx tab.get [(92,Tryz.f92),(138,Tryz.f138)] [o139 n,o140 n,o141 n,o142 n,o143 n,o144 n,o145 n] [] [] [(92,21,[(2,5),(2,7)])] [] [(92,5,[ql135 X n]),(92,10,[ql134 X n]),(92,16,[ql133 X n]),(92,21,[ql132 X n]),(92,28,[ql131 X n]),(92,30,[ql129 X n]),(92,31,[ql130 X n])]
theorem qo129 (X:Type) (n:Nat):CO (cx92 X n) 92 Tryz.f92 37 (ql129 X n):=fun _ _=>by kernel_rfl
theorem qo130 (X:Type) (n:Nat):CO (cx92 X n) 92 Tryz.f92 36 (ql130 X n):=fun _ _=>by kernel_rfl
theorem qo131 (X:Type) (n:Nat):CO (cx92 X n) 92 Tryz.f92 34 (ql131 X n):=fun _ _=>by kernel_rfl
theorem qo132 (X:Type) (n:Nat):CO (cx92 X n) 92 Tryz.f92 21 (ql132 X n):=fun _ _=>by kernel_rfl
theorem qo133 (X:Type) (n:Nat):CO (cx92 X n) 92 Tryz.f92 19 (ql133 X n):=fun _ _=>by kernel_rfl
theorem qo134 (X:Type) (n:Nat):CO (cx92 X n) 92 Tryz.f92 11 (ql134 X n):=fun _ _=>by kernel_rfl
theorem qo135 (X:Type) (n:Nat):CO (cx92 X n) 92 Tryz.f92 4 (ql135 X n):=fun _ _=>by kernel_rfl
theorem zt8 (X:Type) (n:Nat):CxOK Tryz.prog SW (cx92 X n):=mx (J (J Tryz.func92 (by decide)) (T1 (J Tryz.func138 (by decide)))) (J (zd (ok139 n)) (J (zd (ok140 n)) (J (zd (ok141 n)) (J (zd (ok142 n)) (J (zd (ok143 n)) (J (zd (ok144 n)) (T1 (zd (ok145 n))))))))) (J (okk (J trivial (J trivial (J trivial (J trivial (J (T1 (qo135 X n)) (J trivial (J trivial (J trivial (J trivial (J trivial (J trivial (J (T1 (qo134 X n)) (J trivial (J trivial (J trivial (J trivial (J trivial (J trivial (J trivial (J (T1 (qo133 X n)) (J trivial (J (T1 (qo132 X n)) (J trivial (J trivial (J trivial (J trivial (J trivial (J trivial (J trivial (J trivial (J trivial (J trivial (J trivial (J trivial (J (T1 (qo131 X n)) (J trivial (J (T1 (qo130 X n)) (J (T1 (qo129 X n)) (J trivial (J trivial (J trivial (J trivial (T1 trivial))))))))))))))))))))))))))))))))))))))))))) trivial trivial) (T1 (okc trivial trivial))) trivial
abbrev P92:List SV:=[.str]
abbrev R92:RV:=.many [V12,V4]
theorem ok92 (n:Nat):FO 92 P92 R92 (F.ze n):=zh WOf.st (zt8 _ n) (d:=8) fun _=>by kernel_rfl
noncomputable def o92 (n:Nat):=oc 92 P92 R92 (F.ze n)
abbrev P153:List SV:=[.str,.str]
abbrev R153:RV:=.one V14
theorem ok153 (n:Nat):FO 153 P153 R153 (O.split1 n):=zo8 (enters Tryz.func153 (by kernel_rfl) (by decide)) Tryz.strings_Split_one n
noncomputable def o153 (n:Nat):=oc 153 P153 R153 (O.split1 n)
noncomputable def cx269 (X:Type) (n:Nat):Cx X:=mkCx tab.get [(269,Tryz.f269)] [] [] [] [] []
theorem zr2 (X:Type) (n:Nat):CxOK Tryz.prog SW (cx269 X n):=mx (T1 (J Tryz.func269 (by decide))) trivial (T1 (okc trivial trivial)) trivial
abbrev P269:List SV:=[V11]
abbrev R269:RV:=.one V11
theorem ok269 (n:Nat):FO 269 P269 R269 (F.zk n):=zh WOf.st (zr2 _ n) (d:=8) fun _=>by kernel_rfl
noncomputable def o269 (n:Nat):=oc 269 P269 R269 (F.zk n)
def q214:Shape:=⟨[(3,(.ms 2 Y4)),(4,V0),(11,(.ms 2 Y4)),(12,V0),(13,V0)],b179,[],[],[],3,0,0⟩
def q215:Shape:=⟨[(3,(.ms 2 Y4)),(4,V0)],b179,[],[],[],3,0,0⟩
noncomputable def ql136 (X:Type) (n:Nat):LoopI X:=mkLi 8 0 0 0 q214 [(0,q215)] [] n fun m ks=>F.zm.L5 n (xe q215 ks 0) m
noncomputable def cx208 (X:Type) (n:Nat):Cx X:=mkCx tab.get [(208,Tryz.f208),(264,Tryz.f264)] [o269 n] [(208,5,[ql136 X n])] [] [] [] [] [(61,Y4)] [(265,.sort Y4 266 sortTags)] none [264]
theorem qo136 (X:Type) (n:Nat):LO (cx208 X n) 208 Tryz.f208 0 (ql136 X n):=lok
theorem zr3 (X:Type) (n:Nat):CxOK Tryz.prog SW (cx208 X n):=mx (J (J Tryz.func208 (by decide)) (T1 (J Tryz.func264 (by decide)))) (T1 (zd (ok269 n))) (J (okc (T1 (T1 (qo136 X n))) trivial) (T1 (okc trivial trivial))) trivial (T1 (zlm.mono (fun _ _=>trivial)))
abbrev P208:List SV:=[V11]
abbrev R208:RV:=.one V11
theorem ok208 (n:Nat):FO 208 P208 R208 (F.zm n):=zh WOf.st (zr3 _ n) (d:=8) fun _=>by kernel_rfl
noncomputable def o208 (n:Nat):=oc 208 P208 R208 (F.zm n)
noncomputable def cx210 (X:Type) (n:Nat):Cx X:=mkCx tab.get [(210,Tryz.f210)] [] [] [] [] []
theorem zr4 (X:Type) (n:Nat):CxOK Tryz.prog SW (cx210 X n):=mx (T1 (J Tryz.func210 (by decide))) trivial (T1 (okc trivial trivial)) trivial
abbrev P210:List SV:=[]
abbrev R210:RV:=.one V15
theorem ok210 (n:Nat):FO 210 P210 R210 (F.za4 n):=zh WOf.st (zr4 _ n) (d:=8) fun _=>by kernel_rfl
noncomputable def o210 (n:Nat):=oc 210 P210 R210 (F.za4 n)
def q216:Shape:=⟨[(0,.str),(6,V15),(7,V0)],[],[],[],[],0,0,0⟩
noncomputable def ql137 (X:Type) (n:Nat):LoopI X:=mkLi 8 0 0 0 q216 [(0,q12)] [q201] n fun m ks=>F.zak.L2 n (fun _=>xe q12 ks 0) (xr q201 ks) m
noncomputable def cx215 (X:Type) (n:Nat):Cx X:=mkCx tab.get [(215,Tryz.f215)] [o210 n] [(215,2,[ql137 X n])] [] [] []
theorem qo137 (X:Type) (n:Nat):LO (cx215 X n) 215 Tryz.f215 0 (ql137 X n):=lok
theorem zr5 (X:Type) (n:Nat):CxOK Tryz.prog SW (cx215 X n):=mx (T1 (J Tryz.func215 (by decide))) (T1 (zd (ok210 n))) (T1 (okc (T1 (T1 (qo137 X n))) trivial)) trivial
abbrev P215:List SV:=[.str]
abbrev R215:RV:=.many [V0,V0]
theorem ok215 (n:Nat):FO 215 P215 R215 (F.zak n):=zh WOf.st (zr5 _ n) (d:=8) fun _=>by kernel_rfl
noncomputable def o215 (n:Nat):=oc 215 P215 R215 (F.zak n)
abbrev P307:List SV:=[.str]
abbrev R307:RV:=.many [V0,.err]
theorem ok307 (n:Nat):FO 307 P307 R307 (O.atoi n):=zts (enters Tryz.func307 (by kernel_rfl) (by decide)) (fun s hs v hv w hw=>(Tryz.strconv_Atoi_ok s (by omega) v hv w).mono fun e w' ⟨a,b⟩=>⟨a,by rcases b with rfl | ⟨t,rfl⟩; exact Below.refl _ _; exact zll⟩)
 (fun s hs n1 n2 w hw=>by obtain ⟨ev,hv,hev⟩:=swErrS hw; exact (Any.strconv_Atoi_syntax Tryz.laysC172 s (by omega) (by cases hq:Lib.atoiAll s.data.toList with | ok v=>exact absurd hq (n1 v) | range=>exact absurd hq n2 | _=>rfl) ev w hv hev).mono fun e w' ⟨N,a,_,_,b⟩=>⟨⟨_,_,a⟩,b⟩)
 (fun s hs hq w hw=>by obtain ⟨ev,hv,hev⟩:=swErrR hw; exact (Any.strconv_Atoi_range Tryz.laysC172 s (by omega) hq ev w hv hev).mono fun e w' ⟨N,a,_,_,b⟩=>⟨⟨_,_,a⟩,b⟩) n
noncomputable def o307 (n:Nat):=oc 307 P307 R307 (O.atoi n)
noncomputable def cx275 (X:Type) (n:Nat):Cx X:=mkCx tab.get [(275,Tryz.f275)] [o140 n,o205 n,o307 n] [] [] [] []
theorem zr6 (X:Type) (n:Nat):CxOK Tryz.prog SW (cx275 X n):=mx (T1 (J Tryz.func275 (by decide))) (J (zd (ok140 n)) (J (zd (ok205 n)) (T1 (zd (ok307 n))))) (T1 (okc trivial trivial)) trivial
abbrev P275:List SV:=[.str,V0,V0]
abbrev R275:RV:=.many [V0,V4]
theorem ok275 (n:Nat):FO 275 P275 R275 (F.za0 n):=zh WOf.st (zr6 _ n) (d:=8) fun _=>by kernel_rfl
noncomputable def o275 (n:Nat):=oc 275 P275 R275 (F.za0 n)
noncomputable def cx220 (X:Type) (n:Nat):Cx X:=mkCx tab.get [(220,Tryz.f220)] [o275 n] [] [] [] []
theorem zr7 (X:Type) (n:Nat):CxOK Tryz.prog SW (cx220 X n):=mx (T1 (J Tryz.func220 (by decide))) (T1 (zd (ok275 n))) (T1 (okc trivial trivial)) trivial
abbrev P220:List SV:=[.str]
abbrev R220:RV:=.many [V0,V4]
theorem ok220 (n:Nat):FO 220 P220 R220 (F.zav n):=zh WOf.st (zr7 _ n) (d:=8) fun _=>by kernel_rfl
noncomputable def o220 (n:Nat):=oc 220 P220 R220 (F.zav n)
noncomputable def cx211 (X:Type) (n:Nat):Cx X:=mkCx tab.get [(211,Tryz.f211)] [o140 n] [] [] [] []
theorem zr8 (X:Type) (n:Nat):CxOK Tryz.prog SW (cx211 X n):=mx (T1 (J Tryz.func211 (by decide))) (T1 (zd (ok140 n))) (T1 (okc trivial trivial)) trivial
abbrev P211:List SV:=[V6]
abbrev R211:RV:=.one V0
theorem ok211 (n:Nat):FO 211 P211 R211 (F.za1 n):=zh WOf.st (zr8 _ n) (d:=8) fun _=>by kernel_rfl
noncomputable def o211 (n:Nat):=oc 211 P211 R211 (F.za1 n)
def q217:Shape:=⟨[(3,v1),(4,v183),(5,V0),(13,V14),(14,V0),(15,V0)],b0,[true],[],[],1,0,0⟩
def q218:Shape:=⟨[(3,v1),(4,v183)],b0,[true],[],[],1,0,0⟩
def q219:Shape:=⟨[(2,v183),(3,v1)],b0,[true],[],[],1,0,0⟩
noncomputable def ql138 (X:Type) (n:Nat):LoopI X:=mkLi 8 0 0 0 q217 [(0,q218)] [q219] n fun m ks=>F.zac.L4 n (xe q218 ks 0) (xr q219 ks) m
noncomputable def cx274 (X:Type) (n:Nat):Cx X:=mkCx tab.get [(274,Tryz.f274)] [o139 n,o153 n,o211 n] [(274,4,[ql138 X n])] [] [] []
theorem qo138 (X:Type) (n:Nat):LO (cx274 X n) 274 Tryz.f274 0 (ql138 X n):=lok
theorem zr9 (X:Type) (n:Nat):CxOK Tryz.prog SW (cx274 X n):=mx (T1 (J Tryz.func274 (by decide))) (J (zd (ok139 n)) (J (zd (ok153 n)) (T1 (zd (ok211 n))))) (T1 (okc (T1 (T1 (qo138 X n))) trivial)) trivial
abbrev P274:List SV:=[.str]
abbrev R274:RV:=.many [V11,V4]
theorem ok274 (n:Nat):FO 274 P274 R274 (F.zac n):=zh WOf.st (zr9 _ n) (d:=8) fun _=>by kernel_rfl
noncomputable def o274 (n:Nat):=oc 274 P274 R274 (F.zac n)
def q220:Shape:=⟨[(0,v145),(4,v165),(8,V0),(42,V14),(43,V0),(44,V0)],b188,t189,[],[],5,3,0⟩
def q221:Shape:=⟨[(4,v165)],b188,t189,[],[],5,3,0⟩
noncomputable def ql139 (X:Type) (n:Nat):LoopI X:=mkLi 7 4 3 0 q220 [(1,q221)] [q221] n fun m ks=>F.zf.L9_dog_reader_first n (xe q221 ks 1) (xr q221 ks) m
def q222:Shape:=⟨[(0,v145),(1,.str),(4,v165),(19,V16),(20,V0)],b188,t189,[],[],5,3,0⟩
def q223:Shape:=⟨[(0,v145),(4,v165)],b188,t189,[],[],5,3,0⟩
noncomputable def ql140 (X:Type) (n:Nat):LoopI X:=mkLi 7 4 3 0 q222 [(0,q223)] [q221] n fun m ks=>F.zf.L2_dog_reader_more n (xe q223 ks 0) (xr q221 ks) m
def q224:Shape:=⟨[(0,.str),(2,v1),(3,v9),(4,v145),(5,V14),(6,v195),(7,v149),(26,V14),(27,V0),(28,V0)],b194,t189,[],[],4,0,0⟩
def q225:Shape:=⟨[(0,.str),(2,v1),(3,v9),(4,v145),(5,V14),(6,v195),(7,v149)],b194,t189,[],[],4,0,0⟩
noncomputable def ql141 (X:Type) (n:Nat):LoopI X:=mkLi 8 0 0 0 q224 [(0,q225)] [] n fun m ks=>F.zf.L8 n (xe q225 ks 0) m
noncomputable def cx94 (X:Type) (n:Nat):Cx X:=mkCx tab.get [(94,Tryz.f94),(154,Tryz.f154),(155,Tryz.f155),(156,Tryz.f156),(214,Tryz.f214),(216,Tryz.f216),(217,Tryz.f217),(218,Tryz.f218)] [o139 n,o140 n,o142 n,o145 n,o153 n,o200 n,o208 n,o215 n,o220 n,o274 n] [(94,8,[ql141 X n]),(154,9,[ql139 X n]),(156,2,[ql140 X n])] [] [(94,20,[(1,2)]),(94,21,[(4,5)])] []
theorem qo139 (X:Type) (n:Nat):LO (cx94 X n) 154 Tryz.f154 0 (ql139 X n):=lok
theorem qo140 (X:Type) (n:Nat):LO (cx94 X n) 156 Tryz.f156 0 (ql140 X n):=lok
theorem qo141 (X:Type) (n:Nat):LO (cx94 X n) 94 Tryz.f94 0 (ql141 X n):=lok
theorem zt9 (X:Type) (n:Nat):CxOK Tryz.prog SW (cx94 X n):=mx (J (J Tryz.func94 (by decide)) (J (J Tryz.func154 (by decide)) (J (J Tryz.func155 (by decide)) (J (J Tryz.func156 (by decide)) (J (J Tryz.func214 (by decide)) (J (J Tryz.func216 (by decide)) (J (J Tryz.func217 (by decide)) (T1 (J Tryz.func218 (by decide)))))))))) (J (zd (ok139 n)) (J (zd (ok140 n)) (J (zd (ok142 n)) (J (zd (ok145 n)) (J (zd (ok153 n)) (J (zd (ok200 n)) (J (zd (ok208 n)) (J (zd (ok215 n)) (J (zd (ok220 n)) (T1 (zd (ok274 n)))))))))))) (J (okc (T1 (T1 (qo141 X n))) trivial) (J (okc (T1 (T1 (qo139 X n))) trivial) (J (okc trivial trivial) (J (okc (T1 (T1 (qo140 X n))) trivial) (J (okc trivial trivial) (J (okc trivial trivial) (J (okc trivial trivial) (T1 (okc trivial trivial))))))))) trivial
abbrev P94:List SV:=[.str]
abbrev R94:RV:=.many [V12,V4]
theorem ok94 (n:Nat):FO 94 P94 R94 (F.zf n):=zh WOf.st (zt9 _ n) (d:=8) fun _=>by kernel_rfl
noncomputable def o94 (n:Nat):=oc 94 P94 R94 (F.zf n)
def q226:Shape:=⟨[(0,v199),(1,v165),(3,V0),(4,V0),(5,.bool)],b198,t136,[.ready],[(0,96,4,[(4,v145),(5,v149)])],5,0,1⟩
def q227:Shape:=⟨[],b198,t136,[.ready],[],5,0,1⟩
def q228:Shape:=⟨[],b198,t136,[.done (.ex 0)],[],5,0,1⟩
noncomputable def ql142 (X:Type) (n:Nat):LoopI X:=mkLi 7 5 0 1 q226 [(0,q227)] [q228] n fun m ks=>F.zi.L2_graphite_cut_1 n (xe q227 ks 0) (xr q228 ks) m
noncomputable def cx96 (X:Type) (n:Nat):Cx X:=mkCx tab.get [(96,Tryz.f96),(157,Tryz.f157),(158,Tryz.f158),(219,Tryz.f219)] [o139 n,o140 n,o142 n,o220 n] [(219,2,[ql142 X n])] [(96,4,Tryz.f96,[4,5],0)] [(96,13,[(1,2)]),(96,14,[(1,2)])] []
theorem qo142 (X:Type) (n:Nat):LO (cx96 X n) 219 Tryz.f219 0 (ql142 X n):=lok
theorem zua (X:Type) (n:Nat):CxOK Tryz.prog SW (cx96 X n):=mx (J (J Tryz.func96 (by decide)) (J (J Tryz.func157 (by decide)) (J (J Tryz.func158 (by decide)) (T1 (J Tryz.func219 (by decide)))))) (J (zd (ok139 n)) (J (zd (ok140 n)) (J (zd (ok142 n)) (T1 (zd (ok220 n)))))) (J (okc trivial (T1 (rfo (cx:=cx96 X n) (g:=96) (i:=4) (lv:=[4,5]) (show _=some (Tryz.f96.ntmps,_,rfNo Tryz.f96 0) by kernel_rfl)))) (J (okc trivial trivial) (J (okc trivial trivial) (T1 (okc (T1 (T1 (qo142 X n))) trivial))))) (T1 (J Tryz.func96 rfl))
abbrev P96:List SV:=[.str]
abbrev R96:RV:=.many [V12,V4]
theorem ok96 (n:Nat):FO 96 P96 R96 (F.zi n):=zh WOf.st (zua _ n) (d:=8) fun _=>by kernel_rfl
noncomputable def o96 (n:Nat):=oc 96 P96 R96 (F.zi n)
noncomputable def cx52 (X:Type) (n:Nat):Cx X:=mkCx tab.get [(52,Tryz.f52),(66,Tryz.f66)] [o92 n,o94 n,o96 n] [] [] [] []
theorem zub (X:Type) (n:Nat):CxOK Tryz.prog SW (cx52 X n):=mx (J (J Tryz.func52 (by decide)) (T1 (J Tryz.func66 (by decide)))) (J (zd (ok92 n)) (J (zd (ok94 n)) (T1 (zd (ok96 n))))) (J (okc trivial trivial) (T1 (okc trivial trivial))) trivial
abbrev P52:List SV:=[.str,V0]
abbrev R52:RV:=.many [V12,V4]
theorem ok52 (n:Nat):FO 52 P52 R52 (F.zat n):=zh WOf.st (zub _ n) (d:=8) fun _=>by kernel_rfl
noncomputable def o52 (n:Nat):=oc 52 P52 R52 (F.zat n)
abbrev P90:List SV:=[V1,V1]
abbrev R90:RV:=.one V0
theorem ok90 (n:Nat):FO 90 P90 R90 (O.bindex n):=zo9 (enters Tryz.func90 (by kernel_rfl) (by decide)) Tryz.bytes_Index_one n
noncomputable def o90 (n:Nat):=oc 90 P90 R90 (O.bindex n)
noncomputable def cx65 (X:Type) (n:Nat):Cx X:=mkCx tab.get [(65,Tryz.f65)] [o90 n] [] [] [] []
theorem zuc (X:Type) (n:Nat):CxOK Tryz.prog SW (cx65 X n):=mx (T1 (J Tryz.func65 (by decide))) (T1 (zd (ok90 n))) (T1 (okc trivial trivial)) trivial
abbrev P65:List SV:=[V1,V1]
abbrev R65:RV:=.many [V1,V1,.bool]
theorem ok65 (n:Nat):FO 65 P65 R65 (F.zap n):=zh WOf.st (zuc _ n) (d:=8) fun _=>by kernel_rfl
noncomputable def o65 (n:Nat):=oc 65 P65 R65 (F.zap n)
def q229:Shape:=⟨[(0,v209),(1,v38)],b208,t189,[.ready,.ready],[(1,36,6,[(2,v16),(7,v26)]),(0,7,7,[(6,v145)])],8,0,2⟩
def q230:Shape:=⟨[],b208,t189,[.ready,.ready],[],8,0,2⟩
noncomputable def ql143 (X:Type) (n:Nat):LoopI X:=mkLi 4 8 0 2 q229 [(0,q230)] [] n fun m ks a b c d e f g h i j k l o p q=>F.zd.L0_line_pieces_1 n (fun r s t u v w x=>xe q230 ks 0 a b c d r s t h i j u v w p x) m d e f g k l o q
def q231:Shape:=⟨[(0,v199),(1,v149),(17,(.sl Y1 (.own 0))),(18,V0),(19,V0)],[r203,r212,[v213],[v1],[V1],[v9],[(.sl Y1 (.own 3))],[V1]],t216,[.ready,.busy],[(0,7,7,[(6,v145)])],8,0,2⟩
def q232:Shape:=⟨[],b208,t219,[.ready,.busy],[],8,0,2⟩
noncomputable def ql144 (X:Type) (n:Nat):LoopI X:=mkLi 6 5 0 1 q231 [(0,q232)] [] n fun m ks a b c d e f g h i j k l o p q _ r s=>F.zd.L2_sess_Sess_text_1 n (fun t u=>xe q232 ks 0 d e f g h i j k t o p q r u) m a b c d l s
def q233:Shape:=⟨[(9,V0),(10,v220),(11,v206)],[],t141,[.busy,.busy],[],0,0,2⟩
def q234:Shape:=⟨[(6,v220),(7,V0)],[],[true],[.busy,.busy],[],0,0,2⟩
noncomputable def ql145 (X:Type) (n:Nat):CutI X:=mkCi 8 0 0 0 q233 [] [] [q234] fun ks a b c d _=>F.zd.C8 n (xr q234 ks) a b c d
def q235:Shape:=⟨e224,[r203,r212],t141,[.busy,.busy],[],2,0,2⟩
noncomputable def ql146 (X:Type) (n:Nat):CutI X:=mkCi 8 0 0 0 q235 [] [] [q234,q234] fun ks a b c d e f g h _ i j _=>F.zd.C5 n (xr q234 ks) (xr q234 ks) a b c d e f g h i j
def q236:Shape:=⟨[(0,v209),(1,v38),(2,v26)],b229,t189,[.ready,.ready],[(1,39,6,[(7,v16)]),(0,7,7,[(6,v145)])],8,0,2⟩
def q237:Shape:=⟨[],b229,t189,[.ready,.ready],[],8,0,2⟩
def q238:Shape:=⟨[],[r226,r227,[v206],[v1],[V1],[v228],[v9],[v231]],t136,[.ready,.ready],[],8,0,2⟩
noncomputable def ql147 (X:Type) (n:Nat):LoopI X:=mkLi 4 8 0 2 q236 [(0,q237)] [q238] n fun m ks a b c d e f g h i j k l o p q=>F.zd.L0_chunk_Framer_frames_1 n (fun r s t u v w x=>xe q237 ks 0 a b c d r s t h i j u v w p x) (fun r s t u v w x y z=>xr q238 ks a b c d r s t u i j v w x p y z) m d e f g k l o q
def q239:Shape:=⟨[(0,v199),(1,v149),(20,(.sl Y11 (.own 0))),(21,V0),(22,V0)],[r226,r233,[v213],[v1],[V1],[(.sl Y11 (.own 3))],[v9],[V1]],t216,[.ready,.busy],[(0,7,7,[(6,v145)])],8,0,2⟩
def q240:Shape:=⟨[],b229,t219,[.ready,.busy],[],8,0,2⟩
noncomputable def ql148 (X:Type) (n:Nat):LoopI X:=mkLi 6 5 0 1 q239 [(0,q240)] [q240] n fun m ks a b c d e f g h i j k l o p q _ r s=>F.zd.L2_sess_Sess_binary_1 n (fun t u v=>xe q240 ks 0 d t f g h i j k u o p q r v) (fun t u v=>xr q240 ks d t f g h i j k u o p q r v) m a b c e l s
def q241:Shape:=⟨e224,[r226,r233],t141,[.busy,.busy],[],2,0,2⟩
noncomputable def ql149 (X:Type) (n:Nat):CutI X:=mkCi 8 0 0 0 q241 [] [] [q234,q234] fun ks a b c d e _ f g _ h i _=>F.zd.C5_1 n (xr q234 ks) (xr q234 ks) a b c d e f g h i
noncomputable def cx13 (X:Type) (n:Nat):Cx X:=mkCx tab.get [(7,Tryz.f7),(8,Tryz.f8),(11,Tryz.f11),(13,Tryz.f13),(19,Tryz.f19),(20,Tryz.f20),(24,Tryz.f24),(25,Tryz.f25),(26,Tryz.f26),(27,Tryz.f27),(32,Tryz.f32),(33,Tryz.f33),(35,Tryz.f35),(36,Tryz.f36),(37,Tryz.f37),(38,Tryz.f38),(39,Tryz.f39),(45,Tryz.f45),(46,Tryz.f46),(47,Tryz.f47),(48,Tryz.f48),(50,Tryz.f50),(53,Tryz.f53),(64,Tryz.f64),(67,Tryz.f67),(68,Tryz.f68),(69,Tryz.f69),(97,Tryz.f97)] [o40 n,o52 n,o54 n,o55 n,o65 n] [(35,2,[ql144 X n]),(38,2,[ql148 X n]),(64,0,[ql143 X n]),(67,0,[ql147 X n])] [(7,7,Tryz.f7,[6],0),(36,6,Tryz.f36,[2,7],0),(39,6,Tryz.f39,[7],0)] [(33,7,[(9,9)]),(35,0,[(5,5)]),(36,14,[(0,11),(11,11)]),(37,4,[(1,10),(5,10),(1,11),(5,11),(10,11)]),(37,6,[(3,8),(5,8)]),(38,0,[(5,5)]),(38,9,[(3,8),(5,8)]),(46,1,[(3,19),(7,19),(13,19),(17,19)]),(48,1,[(3,9),(7,9)])] [] [(13,5,[ql146 X n,ql149 X n]),(13,8,[ql145 X n])] [] [(51,.rd longF)] none []
theorem qo145 (X:Type) (n:Nat):CO (cx13 X n) 13 Tryz.f13 9 (ql145 X n):=fun _ _=>by kernel_rfl
theorem qo146 (X:Type) (n:Nat):CO (cx13 X n) 13 Tryz.f13 5 (ql146 X n):=fun _ _=>by kernel_rfl
theorem qo149 (X:Type) (n:Nat):CO (cx13 X n) 13 Tryz.f13 5 (ql149 X n):=fun _ _=>by kernel_rfl
theorem qo143 (X:Type) (n:Nat):LO (cx13 X n) 64 Tryz.f64 0 (ql143 X n):=lok
theorem qo144 (X:Type) (n:Nat):LO (cx13 X n) 35 Tryz.f35 0 (ql144 X n):=lok
theorem qo147 (X:Type) (n:Nat):LO (cx13 X n) 67 Tryz.f67 0 (ql147 X n):=lok
theorem qo148 (X:Type) (n:Nat):LO (cx13 X n) 38 Tryz.f38 0 (ql148 X n):=lok
theorem zud (X:Type) (n:Nat):CxOK Tryz.prog SW (cx13 X n):=mx (J (J Tryz.func7 (by decide)) (J (J Tryz.func8 (by decide)) (J (J Tryz.func11 (by decide)) (J (J Tryz.func13 (by decide)) (J (J Tryz.func19 (by decide)) (J (J Tryz.func20 (by decide)) (J (J Tryz.func24 (by decide)) (J (J Tryz.func25 (by decide)) (J (J Tryz.func26 (by decide)) (J (J Tryz.func27 (by decide)) (J (J Tryz.func32 (by decide)) (J (J Tryz.func33 (by decide)) (J (J Tryz.func35 (by decide)) (J (J Tryz.func36 (by decide)) (J (J Tryz.func37 (by decide)) (J (J Tryz.func38 (by decide)) (J (J Tryz.func39 (by decide)) (J (J Tryz.func45 (by decide)) (J (J Tryz.func46 (by decide)) (J (J Tryz.func47 (by decide)) (J (J Tryz.func48 (by decide)) (J (J Tryz.func50 (by decide)) (J (J Tryz.func53 (by decide)) (J (J Tryz.func64 (by decide)) (J (J Tryz.func67 (by decide)) (J (J Tryz.func68 (by decide)) (J (J Tryz.func69 (by decide)) (T1 (J Tryz.func97 (by decide)))))))))))))))))))))))))))))) (J (zd (ok40 n)) (J (zd (ok52 n)) (J (zd (ok54 n)) (J (zd (ok55 n)) (T1 (zd (ok65 n))))))) (J (okc trivial (T1 (rfo (cx:=cx13 X n) (g:=7) (i:=7) (lv:=[6]) (show _=some (Tryz.f7.ntmps,_,rfNo Tryz.f7 0) by kernel_rfl)))) (J (okc trivial trivial) (J (okc trivial trivial) (J (okk (J trivial (J trivial (J trivial (J trivial (J trivial (J (J (qo146 X n) (T1 (qo149 X n))) (J trivial (J trivial (J trivial (J (T1 (qo145 X n)) (J trivial (J trivial (J trivial (T1 trivial)))))))))))))) trivial trivial) (J (okc trivial trivial) (J (okc trivial trivial) (J (okc trivial trivial) (J (okc trivial trivial) (J (okc trivial trivial) (J (okc trivial trivial) (J (okc trivial trivial) (J (okc trivial trivial) (J (okc (T1 (T1 (qo144 X n))) trivial) (J (okc trivial (T1 (rfo (cx:=cx13 X n) (g:=36) (i:=6) (lv:=[2,7]) (show _=some (Tryz.f36.ntmps,_,rfNo Tryz.f36 0) by kernel_rfl)))) (J (okc trivial trivial) (J (okc (T1 (T1 (qo148 X n))) trivial) (J (okc trivial (T1 (rfo (cx:=cx13 X n) (g:=39) (i:=6) (lv:=[7]) (show _=some (Tryz.f39.ntmps,_,rfNo Tryz.f39 0) by kernel_rfl)))) (J (okc trivial trivial) (J (okc trivial trivial) (J (okc trivial trivial) (J (okc trivial trivial) (J (okc trivial trivial) (J (okc trivial trivial) (J (okc (T1 (T1 (qo143 X n))) trivial) (J (okc (T1 (T1 (qo147 X n))) trivial) (J (okc trivial trivial) (J (okc trivial trivial) (T1 (okc trivial trivial))))))))))))))))))))))))))))) (J (J Tryz.func7 rfl) (J (J Tryz.func36 rfl) (T1 (J Tryz.func39 rfl)))) (T1 (zme.mono (fun _ _=>trivial)))
abbrev P13:List SV:=[V0,V0,V1]
abbrev R13:RV:=.many [V17,V0]
theorem ok13 (n:Nat):FO 13 P13 R13 (F.zd n):=zh WOf.st (zud _ n) (d:=8) fun _=>by kernel_rfl
noncomputable def o13 (n:Nat):=oc 13 P13 R13 (F.zd n)
def q242:Shape:=⟨[(2,v1),(3,v9),(5,V0)],b239,[],[],[],2,0,0⟩
def q243:Shape:=⟨[(2,v1),(3,v9)],b239,[],[],[],2,0,0⟩
def q244:Shape:=⟨e242,b239,[],[],[],2,0,0⟩
noncomputable def ql150 (X:Type) (n:Nat):LoopI X:=mkLi 8 0 0 0 q242 [(0,q243)] [q244] n fun m ks=>F.zh.L4 n (xe q243 ks 0) (xr q244 ks) m
def q245:Shape:=⟨[(2,v1),(3,v9),(6,V0)],b239,[],[],[],2,0,0⟩
def q246:Shape:=⟨[],b239,[],[],[],2,0,0⟩
noncomputable def ql151 (X:Type) (n:Nat):LoopI X:=mkLi 8 0 0 0 q245 [(2,q246)] [q244] n fun m ks=>F.zh.L9 n (xe q246 ks 2) (xr q244 ks) m
noncomputable def cx49 (X:Type) (n:Nat):Cx X:=mkCx tab.get [(49,Tryz.f49)] [] [(49,4,[ql150 X n]),(49,9,[ql151 X n])] [] [] []
theorem qo150 (X:Type) (n:Nat):LO (cx49 X n) 49 Tryz.f49 0 (ql150 X n):=lok
theorem qo151 (X:Type) (n:Nat):LO (cx49 X n) 49 Tryz.f49 1 (ql151 X n):=lok
theorem zue (X:Type) (n:Nat):CxOK Tryz.prog SW (cx49 X n):=mx (T1 (J Tryz.func49 (by decide))) trivial (T1 (okc (J (T1 (qo150 X n)) (T1 (T1 (qo151 X n)))) trivial)) trivial
abbrev P49:List SV:=[V12,V12]
abbrev R49:RV:=.one .bool
theorem ok49 (n:Nat):FO 49 P49 R49 (F.zh n):=zh WOf.st (zue _ n) (d:=8) fun _=>by kernel_rfl
noncomputable def o49 (n:Nat):=oc 49 P49 R49 (F.zh n)
def q247:Shape:=⟨[(0,V9),(1,V9),(5,V0)],[],[],[],[],0,0,0⟩
def q248:Shape:=⟨e242,[],[],[],[],0,0,0⟩
noncomputable def ql152 (X:Type) (n:Nat):LoopI X:=mkLi 8 0 0 0 q247 [(0,q12)] [q248] n fun m ks=>F.zp.L4 n (fun _=>xe q12 ks 0) (xr q248 ks) m
noncomputable def cx34 (X:Type) (n:Nat):Cx X:=mkCx tab.get [(34,Tryz.f34)] [o49 n] [(34,4,[ql152 X n])] [] [] []
theorem qo152 (X:Type) (n:Nat):LO (cx34 X n) 34 Tryz.f34 0 (ql152 X n):=lok
theorem zuf (X:Type) (n:Nat):CxOK Tryz.prog SW (cx34 X n):=mx (T1 (J Tryz.func34 (by decide))) (T1 (zd (ok49 n))) (T1 (okc (T1 (T1 (qo152 X n))) trivial)) trivial
abbrev P34:List SV:=[V9,V9]
abbrev R34:RV:=.one .bool
theorem ok34 (n:Nat):FO 34 P34 R34 (F.zp n):=zh WOf.st (zuf _ n) (d:=8) fun _=>by kernel_rfl
noncomputable def o34 (n:Nat):=oc 34 P34 R34 (F.zp n)
noncomputable def cx23 (X:Type) (n:Nat):Cx X:=mkCx tab.get [(23,Tryz.f23)] [o34 n] [] [] [] []
theorem zug (X:Type) (n:Nat):CxOK Tryz.prog SW (cx23 X n):=mx (T1 (J Tryz.func23 (by decide))) (T1 (zd (ok34 n))) (T1 (okc trivial trivial)) trivial
abbrev P23:List SV:=[V18,V18]
abbrev R23:RV:=.one .bool
theorem ok23 (n:Nat):FO 23 P23 R23 (F.zao n):=zh WOf.st (zug _ n) (d:=8) fun _=>by kernel_rfl
noncomputable def o23 (n:Nat):=oc 23 P23 R23 (F.zao n)
noncomputable def cx10 (X:Type) (n:Nat):Cx X:=mkCx tab.get [(10,Tryz.f10)] [o13 n,o23 n] [] [] [] [] [] [(22,.u8)]
theorem zuh (X:Type) (n:Nat):CxOK Tryz.prog SW (cx10 X n):=mx (T1 (J Tryz.func10 (by decide))) (J (zd (ok13 n)) (T1 (zd (ok23 n)))) (T1 (okc trivial trivial)) trivial
abbrev P10:List SV:=[]
abbrev R10:RV:=.one .bool
theorem ok10 (n:Nat):FO 10 P10 R10 (F.zaf n):=zh WOf.st (zuh _ n) (d:=8) fun _=>by kernel_rfl
noncomputable def o10 (n:Nat):=oc 10 P10 R10 (F.zaf n)
def q249:Shape:=⟨[(0,V1),(1,V19),(5,v245),(6,V0),(7,V0)],[],[true],[],[],0,0,0⟩
def q250:Shape:=⟨[(0,V1),(5,v245),(6,V0)],[],[true],[],[],0,0,0⟩
noncomputable def ql153 (X:Type) (n:Nat):LoopI X:=mkLi 8 0 0 0 q249 [(0,q250)] [] n fun m ks=>F.zw.L4 n (xe q250 ks 0) m
noncomputable def cx12 (X:Type) (n:Nat):Cx X:=mkCx tab.get [(12,Tryz.f12)] [] [(12,4,[ql153 X n])] [] [] []
theorem qo153 (X:Type) (n:Nat):LO (cx12 X n) 12 Tryz.f12 0 (ql153 X n):=lok
theorem zui (X:Type) (n:Nat):CxOK Tryz.prog SW (cx12 X n):=mx (T1 (J Tryz.func12 (by decide))) trivial (T1 (okc (T1 (T1 (qo153 X n))) trivial)) trivial
abbrev P12:List SV:=[V1,V19]
abbrev R12:RV:=.one V20
theorem ok12 (n:Nat):FO 12 P12 R12 (F.zw n):=zh WOf.st (zui _ n) (d:=8) fun _=>by kernel_rfl
noncomputable def o12 (n:Nat):=oc 12 P12 R12 (F.zw n)
def q251:Shape:=⟨[(0,V17),(1,V17),(5,V0)],[],[],[],[],0,0,0⟩
noncomputable def ql154 (X:Type) (n:Nat):LoopI X:=mkLi 8 0 0 0 q251 [(0,q12)] [q248] n fun m ks=>F.zu.L4 n (fun _=>xe q12 ks 0) (xr q248 ks) m
noncomputable def cx14 (X:Type) (n:Nat):Cx X:=mkCx tab.get [(14,Tryz.f14)] [o23 n] [(14,4,[ql154 X n])] [] [] []
theorem qo154 (X:Type) (n:Nat):LO (cx14 X n) 14 Tryz.f14 0 (ql154 X n):=lok
theorem zuj (X:Type) (n:Nat):CxOK Tryz.prog SW (cx14 X n):=mx (T1 (J Tryz.func14 (by decide))) (T1 (zd (ok23 n))) (T1 (okc (T1 (T1 (qo154 X n))) trivial)) trivial
abbrev P14:List SV:=[V17,V17]
abbrev R14:RV:=.one .bool
theorem ok14 (n:Nat):FO 14 P14 R14 (F.zu n):=zh WOf.st (zuj _ n) (d:=8) fun _=>by kernel_rfl
noncomputable def o14 (n:Nat):=oc 14 P14 R14 (F.zu n)
def q252:Shape:=⟨[(0,V1),(2,V19),(4,v1),(7,v201),(8,V0)],b0,[],[],[],1,0,0⟩
def q253:Shape:=⟨e250,[],[],[],[],0,0,0⟩
noncomputable def ql155 (X:Type) (n:Nat):CutI X:=mkCi 8 0 0 0 q252 [] [] [q253] fun ks _ _ a _ _=>F.zb.C4 n (xr q253 ks) a
def q254:Shape:=⟨e254,b253,t141,[],[],3,0,0⟩
def q255:Shape:=⟨e250,b255,[true],[],[],3,0,0⟩
def q256:Shape:=⟨e256,b253,t141,[],[],3,0,0⟩
noncomputable def ql156 (X:Type) (n:Nat):CutI X:=mkCi 8 0 0 0 q254 [q256] [] [q255] fun ks a b c d e f g h i j k l o p q r s t u v=>F.zb.C31 n (fun w=>xr q255 ks w i j k l o p q r s t v) (fun _=>xn q256 ks a b c d e f i j k l o p q r s t u v) b d e g h k l o s
def q257:Shape:=⟨e260,b259,t189,[],[],3,0,0⟩
noncomputable def ql157 (X:Type) (n:Nat):CutI X:=mkCi 8 0 0 0 q257 [q256] [] [q255] fun ks a b c d e f g h i j k l o p q r s t _ u=>F.zb.C20 n (fun v=>xr q255 ks v h i j k l o p q r s u) (fun v w x=>xn q256 ks a b c v w f h i j k l o p q r s x u) a b c d e f g h i j k l r t
def q258:Shape:=⟨e261,b259,t189,[],[],3,0,0⟩
noncomputable def ql158 (X:Type) (n:Nat):CutI X:=mkCi 8 0 0 0 q258 [q256] [] [q255] fun ks a b c d e f g h i j k l o p q r s t u _ v=>F.zb.C18 n (fun w=>xr q255 ks w i j k l o p q r s t v) (fun w x y=>xn q256 ks a b c w x f i j k l o p q r s t y v) a b c d e f g h i j k l o s u
def q259:Shape:=⟨e264,[[V0,V0],r252,r212,[v262],[v9],[V1],[v145]],t136,[.ready],[(0,7,7,[(6,v149)])],7,2,1⟩
def q260:Shape:=⟨[],[[V0,V0],r252,r212,[v213],[v9],[V1],[v145]],t189,[.ready],[],7,2,1⟩
noncomputable def ql159 (X:Type) (n:Nat):LoopI X:=mkLi 6 6 2 1 q259 [(0,q260)] [] n fun m ks a b c d e f g h i j k l o p q r s _ t=>F.zd.L2_sess_Sess_text_1 n (fun u v=>xe q260 ks 0 d e f g h i j k l o u q r s v) m a b c f p t
def q261:Shape:=⟨[(0,v209),(1,v101)],b267,t268,[.ready,.ready],[(1,36,6,[(2,v26),(7,v38)]),(0,7,7,[(6,v149)])],9,2,2⟩
def q262:Shape:=⟨[],b267,t268,[.ready,.ready],[],9,2,2⟩
noncomputable def ql160 (X:Type) (n:Nat):LoopI X:=mkLi 4 9 2 2 q261 [(0,q262)] [] n fun m ks a b c d e f g h i j k l o p q r s t=>F.zb.L0_line_pieces_1 n (fun u v w x y z A=>xe q262 ks 0 a b c d e f u v w j k l x y q z s A) m f g h i o p r t
def q263:Shape:=⟨e264,[[V0,V0],r252,[V0,V0,V0,v231,.bool],[v271],[v9],[V1],[v145],[(.sl Y1 (.own 5))],[V1]],t274,[.ready,.busy],[(0,7,7,[(6,v149)])],9,2,2⟩
def q264:Shape:=⟨[],b267,t275,[.ready,.busy],[],9,2,2⟩
noncomputable def ql161 (X:Type) (n:Nat):LoopI X:=mkLi 6 6 2 1 q263 [(0,q264)] [] n fun m ks a b c d e f g h i j k l o p q r s t _ u v=>F.zd.L2_sess_Sess_text_1 n (fun w x=>xe q264 ks 0 d e f g h i j k l o w q r s t u x) m a b c f p v
def q265:Shape:=⟨[],b255,[true],[],[],3,0,0⟩
noncomputable def ql162 (X:Type) (n:Nat):LoopI X:=mkLi 8 0 0 0 q256 [(0,q265)] [q255] n fun m ks a b c d e f g h i j k l o p q r s t=>F.zb.L15 n (fun u v w x=>xe q265 ks 0 g h i j k l u v w r x) (fun u v w x y=>xr q255 ks u g h i j k l v w x r y) m a b c d e f g h i j k l o p q r s t
def q266:Shape:=⟨e276,b255,[true],[],[],3,0,0⟩
noncomputable def ql163 (X:Type) (n:Nat):CutI X:=mkCi 8 0 0 0 q266 [] [] [q253] fun ks a b c d e f g h i j k l o p=>F.zb.C11 n (xr q253 ks) a b c d e f g h i j k l o p
def q267:Shape:=⟨e277,b255,[true],[],[],3,0,0⟩
noncomputable def ql164 (X:Type) (n:Nat):CutI X:=mkCi 8 0 0 0 q267 [] [] [q253,q253] fun ks a b c d e f g h i j k l o p=>F.zb.C4_1 n (xr q253 ks) (xr q253 ks) a b c d e f g h i j k l o p
def q268:Shape:=⟨e254,b280,t141,[],[],3,0,0⟩
def q269:Shape:=⟨e250,b281,[true],[],[],3,0,0⟩
def q270:Shape:=⟨e256,b280,t141,[],[],3,0,0⟩
noncomputable def ql165 (X:Type) (n:Nat):CutI X:=mkCi 8 0 0 0 q268 [q270] [] [q269] fun ks a b c d e f g h i j k l o p q r s t u v=>F.zb.C31_1 n (fun w=>xr q269 ks w i j k l o p q r s t v) (fun _=>xn q270 ks a b c d e f i j k l o p q r s t u v) b d e g h k l o r
def q271:Shape:=⟨e260,b283,t189,[],[],3,0,0⟩
noncomputable def ql166 (X:Type) (n:Nat):CutI X:=mkCi 8 0 0 0 q271 [q270] [] [q269] fun ks a b c d e f g h i j k l o p q r s t _ u=>F.zb.C20_1 n (fun v=>xr q269 ks v h i j k l o p q r s u) (fun v w x=>xn q270 ks a b c v w f h i j k l o p q r s x u) a b c d e f g h i j k l q t
def q272:Shape:=⟨e261,b283,t189,[],[],3,0,0⟩
noncomputable def ql167 (X:Type) (n:Nat):CutI X:=mkCi 8 0 0 0 q272 [q270] [] [q269] fun ks a b c d e f g h i j k l o p q r s t u _ v=>F.zb.C18_1 n (fun w=>xr q269 ks w i j k l o p q r s t v) (fun w x y=>xn q270 ks a b c w x f i j k l o p q r s t y v) a b c d e f g h i j k l o r u
def q273:Shape:=⟨e285,[[V0,V0],r279,r233,[v262],[v9],[V1]],t136,[.ready],[(0,7,7,[(6,v149)])],6,2,1⟩
def q274:Shape:=⟨[],[[V0,V0],r279,r233,[v213],[v9],[V1]],t189,[.ready],[],6,2,1⟩
noncomputable def ql168 (X:Type) (n:Nat):LoopI X:=mkLi 6 6 2 1 q273 [(0,q274)] [q274] n fun m ks a b c d e f g h i j k l o p q r s _ t=>F.zd.L2_sess_Sess_binary_1 n (fun u v w=>xe q274 ks 0 d e f u h i j k l o v q r s w) (fun u v w=>xr q274 ks d e f u h i j k l o v q r s w) m a b c g p t
def q275:Shape:=⟨[(0,v209),(1,v101),(2,v38)],b288,t268,[.ready,.ready],[(1,39,6,[(7,v26)]),(0,7,7,[(6,v149)])],9,2,2⟩
def q276:Shape:=⟨[],b288,t268,[.ready,.ready],[],9,2,2⟩
def q277:Shape:=⟨[],[[V0,V0],r279,r282,[v262],[v9],[V1],[v287],[v145],[(.sl .u8 (.own 5))]],[true,false,true,true,true,true],[.ready,.ready],[],9,2,2⟩
noncomputable def ql169 (X:Type) (n:Nat):LoopI X:=mkLi 4 9 2 2 q275 [(0,q276)] [q277] n fun m ks a b c d e f g h i j k l o p q r s t=>F.zd.L0_chunk_Framer_frames_1 n (fun u v w x y z A=>xe q276 ks 0 a b c d e f u v w j k l x y q z s A) (fun u v w x y z A B C=>xr q277 ks a b c d e f u v w x k l y z q A s B C) m f g h i o p r t
def q278:Shape:=⟨e285,[[V0,V0],r279,[V0,V0,v231,V0,.bool],[v271],[v9],[V1],[(.sl Y11 (.own 5))],[v145],[V1]],t274,[.ready,.busy],[(0,7,7,[(6,v149)])],9,2,2⟩
def q279:Shape:=⟨[],b288,t275,[.ready,.busy],[],9,2,2⟩
noncomputable def ql170 (X:Type) (n:Nat):LoopI X:=mkLi 6 6 2 1 q278 [(0,q279)] [q279] n fun m ks a b c d e f g h i j k l o p q r s t _ u v=>F.zd.L2_sess_Sess_binary_1 n (fun w x y=>xe q279 ks 0 d e f w h i j k l o x q r s t u y) (fun w x y=>xr q279 ks d e f w h i j k l o x q r s t u y) m a b c g p v
def q280:Shape:=⟨[],b281,[true],[],[],3,0,0⟩
noncomputable def ql171 (X:Type) (n:Nat):LoopI X:=mkLi 8 0 0 0 q270 [(0,q280)] [q269] n fun m ks a b c d e f g h i j k l o p q r s t=>F.zb.L15_1 n (fun u v w x y z=>xe q280 ks 0 g h i u k l v w x y z) (fun u v w x y z A=>xr q269 ks u g h i v k l w x y z A) m a b c d e f g h i j k l o p q r s t
def q281:Shape:=⟨e276,b281,[true],[],[],3,0,0⟩
noncomputable def ql172 (X:Type) (n:Nat):CutI X:=mkCi 8 0 0 0 q281 [] [] [q253] fun ks a b c d e f g h i j k l o p=>F.zb.C11_1 n (xr q253 ks) a b c d e f g h i j k l o p
def q282:Shape:=⟨e277,b281,[true],[],[],3,0,0⟩
noncomputable def ql173 (X:Type) (n:Nat):CutI X:=mkCi 8 0 0 0 q282 [] [] [q253,q253] fun ks a b c d e f g h i j k l o p=>F.zb.C4_2 n (xr q253 ks) (xr q253 ks) a b c d e f g h i j k l o p
noncomputable def cx4 (X:Type) (n:Nat):Cx X:=mkCx tab.get [(4,Tryz.f4),(7,Tryz.f7),(9,Tryz.f9),(11,Tryz.f11),(19,Tryz.f19),(21,Tryz.f21),(22,Tryz.f22),(24,Tryz.f24),(25,Tryz.f25),(26,Tryz.f26),(27,Tryz.f27),(35,Tryz.f35),(36,Tryz.f36),(37,Tryz.f37),(38,Tryz.f38),(39,Tryz.f39),(45,Tryz.f45),(46,Tryz.f46),(47,Tryz.f47),(48,Tryz.f48),(50,Tryz.f50),(53,Tryz.f53),(64,Tryz.f64),(67,Tryz.f67),(68,Tryz.f68),(69,Tryz.f69),(97,Tryz.f97)] [o10 n,o12 n,o13 n,o14 n,o40 n,o52 n,o54 n,o55 n,o65 n] [(4,15,[ql162 X n,ql171 X n]),(35,2,[ql159 X n,ql161 X n]),(38,2,[ql168 X n,ql170 X n]),(64,0,[ql160 X n]),(67,0,[ql169 X n])] [(7,7,Tryz.f7,[6],0),(36,6,Tryz.f36,[2,7],0),(39,6,Tryz.f39,[7],0)] [(35,0,[(5,5)]),(36,14,[(0,11),(11,11)]),(37,4,[(1,10),(5,10),(1,11),(5,11),(10,11)]),(37,6,[(3,8),(5,8)]),(38,0,[(5,5)]),(38,9,[(3,8),(5,8)]),(46,1,[(3,19),(7,19),(13,19),(17,19)]),(48,1,[(3,9),(7,9)])] [] [(4,4,[ql155 X n,ql164 X n,ql173 X n]),(4,11,[ql163 X n,ql172 X n]),(4,18,[ql158 X n,ql167 X n]),(4,20,[ql157 X n,ql166 X n]),(4,31,[ql156 X n,ql165 X n])] [] [(51,.rd longF)] none []
theorem qo155 (X:Type) (n:Nat):CO (cx4 X n) 4 Tryz.f4 4 (ql155 X n):=fun _ _=>by kernel_rfl
theorem qo156 (X:Type) (n:Nat):CO (cx4 X n) 4 Tryz.f4 33 (ql156 X n):=fun _ _=>by kernel_rfl
theorem qo157 (X:Type) (n:Nat):CO (cx4 X n) 4 Tryz.f4 23 (ql157 X n):=fun _ _=>by kernel_rfl
theorem qo158 (X:Type) (n:Nat):CO (cx4 X n) 4 Tryz.f4 22 (ql158 X n):=fun _ _=>by kernel_rfl
theorem qo163 (X:Type) (n:Nat):CO (cx4 X n) 4 Tryz.f4 12 (ql163 X n):=fun _ _=>by kernel_rfl
theorem qo164 (X:Type) (n:Nat):CO (cx4 X n) 4 Tryz.f4 4 (ql164 X n):=fun _ _=>by kernel_rfl
theorem qo165 (X:Type) (n:Nat):CO (cx4 X n) 4 Tryz.f4 33 (ql165 X n):=fun _ _=>by kernel_rfl
theorem qo166 (X:Type) (n:Nat):CO (cx4 X n) 4 Tryz.f4 23 (ql166 X n):=fun _ _=>by kernel_rfl
theorem qo167 (X:Type) (n:Nat):CO (cx4 X n) 4 Tryz.f4 22 (ql167 X n):=fun _ _=>by kernel_rfl
theorem qo172 (X:Type) (n:Nat):CO (cx4 X n) 4 Tryz.f4 12 (ql172 X n):=fun _ _=>by kernel_rfl
theorem qo173 (X:Type) (n:Nat):CO (cx4 X n) 4 Tryz.f4 4 (ql173 X n):=fun _ _=>by kernel_rfl
theorem qo159 (X:Type) (n:Nat):LO (cx4 X n) 35 Tryz.f35 0 (ql159 X n):=lok
theorem qo160 (X:Type) (n:Nat):LO (cx4 X n) 64 Tryz.f64 0 (ql160 X n):=lok
theorem qo161 (X:Type) (n:Nat):LO (cx4 X n) 35 Tryz.f35 0 (ql161 X n):=lok
theorem qo162 (X:Type) (n:Nat):LO (cx4 X n) 4 Tryz.f4 0 (ql162 X n):=lok
theorem qo168 (X:Type) (n:Nat):LO (cx4 X n) 38 Tryz.f38 0 (ql168 X n):=lok
theorem qo169 (X:Type) (n:Nat):LO (cx4 X n) 67 Tryz.f67 0 (ql169 X n):=lok
theorem qo170 (X:Type) (n:Nat):LO (cx4 X n) 38 Tryz.f38 0 (ql170 X n):=lok
theorem qo171 (X:Type) (n:Nat):LO (cx4 X n) 4 Tryz.f4 0 (ql171 X n):=lok
theorem zvh (X:Type) (n:Nat):CxOK Tryz.prog SW (cx4 X n):=mx (J (J Tryz.func4 (by decide)) (J (J Tryz.func7 (by decide)) (J (J Tryz.func9 (by decide)) (J (J Tryz.func11 (by decide)) (J (J Tryz.func19 (by decide)) (J (J Tryz.func21 (by decide)) (J (J Tryz.func22 (by decide)) (J (J Tryz.func24 (by decide)) (J (J Tryz.func25 (by decide)) (J (J Tryz.func26 (by decide)) (J (J Tryz.func27 (by decide)) (J (J Tryz.func35 (by decide)) (J (J Tryz.func36 (by decide)) (J (J Tryz.func37 (by decide)) (J (J Tryz.func38 (by decide)) (J (J Tryz.func39 (by decide)) (J (J Tryz.func45 (by decide)) (J (J Tryz.func46 (by decide)) (J (J Tryz.func47 (by decide)) (J (J Tryz.func48 (by decide)) (J (J Tryz.func50 (by decide)) (J (J Tryz.func53 (by decide)) (J (J Tryz.func64 (by decide)) (J (J Tryz.func67 (by decide)) (J (J Tryz.func68 (by decide)) (J (J Tryz.func69 (by decide)) (T1 (J Tryz.func97 (by decide))))))))))))))))))))))))))))) (J (zd (ok10 n)) (J (zd (ok12 n)) (J (zd (ok13 n)) (J (zd (ok14 n)) (J (zd (ok40 n)) (J (zd (ok52 n)) (J (zd (ok54 n)) (J (zd (ok55 n)) (T1 (zd (ok65 n))))))))))) (J (okk (J trivial (J trivial (J trivial (J trivial (J (J (qo155 X n) (J (qo164 X n) (T1 (qo173 X n)))) (J trivial (J trivial (J trivial (J trivial (J trivial (J trivial (J trivial (J (J (qo163 X n) (T1 (qo172 X n))) (J trivial (J trivial (J trivial (J trivial (J trivial (J trivial (J trivial (J trivial (J trivial (J (J (qo158 X n) (T1 (qo167 X n))) (J (J (qo157 X n) (T1 (qo166 X n))) (J trivial (J trivial (J trivial (J trivial (J trivial (J trivial (J trivial (J trivial (J trivial (J (J (qo156 X n) (T1 (qo165 X n))) (J trivial (J trivial (J trivial (J trivial (J trivial (J trivial (T1 trivial))))))))))))))))))))))))))))))))))))))))) (T1 (J (qo162 X n) (T1 (qo171 X n)))) trivial) (J (okc trivial (T1 (rfo (cx:=cx4 X n) (g:=7) (i:=7) (lv:=[6]) (show _=some (Tryz.f7.ntmps,_,rfNo Tryz.f7 0) by kernel_rfl)))) (J (okc trivial trivial) (J (okc trivial trivial) (J (okc trivial trivial) (J (okc trivial trivial) (J (okc trivial trivial) (J (okc trivial trivial) (J (okc trivial trivial) (J (okc trivial trivial) (J (okc trivial trivial) (J (okc (T1 (J (qo159 X n) (T1 (qo161 X n)))) trivial) (J (okc trivial (T1 (rfo (cx:=cx4 X n) (g:=36) (i:=6) (lv:=[2,7]) (show _=some (Tryz.f36.ntmps,_,rfNo Tryz.f36 0) by kernel_rfl)))) (J (okc trivial trivial) (J (okc (T1 (J (qo168 X n) (T1 (qo170 X n)))) trivial) (J (okc trivial (T1 (rfo (cx:=cx4 X n) (g:=39) (i:=6) (lv:=[7]) (show _=some (Tryz.f39.ntmps,_,rfNo Tryz.f39 0) by kernel_rfl)))) (J (okc trivial trivial) (J (okc trivial trivial) (J (okc trivial trivial) (J (okc trivial trivial) (J (okc trivial trivial) (J (okc trivial trivial) (J (okc (T1 (T1 (qo160 X n))) trivial) (J (okc (T1 (T1 (qo169 X n))) trivial) (J (okc trivial trivial) (J (okc trivial trivial) (T1 (okc trivial trivial)))))))))))))))))))))))))))) (J (J Tryz.func7 rfl) (J (J Tryz.func36 rfl) (T1 (J Tryz.func39 rfl)))) (T1 (zme.mono (fun _ _=>trivial)))
abbrev P4:List SV:=[V1,V4,V19]
abbrev R4:RV:=.one .bool
theorem ok4 (n:Nat):FO 4 P4 R4 (F.zb n):=zh WOf.st (zvh _ n) (d:=8) fun _=>by kernel_rfl
end Go.AM
set_option linter.unusedVariables false
set_option linter.unusedSimpArgs false
namespace Go.AM
def isDig (b:UInt8):Bool:=decide (48≤b.toNat)&&decide (b.toNat≤57)
def dv (b:UInt8):Nat:=b.toNat - 48
def valF (a:Nat) (l:List UInt8):Nat:=l.foldl (fun a b=>a*10+dv b) a
theorem zga (a:Nat):valF a []=a:=rfl
theorem zin (a:Nat) (b:UInt8) (l:List UInt8):valF a (b::l)=valF (a*10+dv b) l:=by unfold valF; rw [List.foldl_cons]
def val (l:List UInt8):Nat:=valF 0 l
def Digs (l:List UInt8):Prop:=l.all isDig=true
theorem zam {b:UInt8}:isDig b=true↔48≤b.toNat∧b.toNat≤57:=by simp [isDig]
theorem z8 {b:UInt8} {l:List UInt8}:Digs (b::l)↔isDig b=true∧Digs l:=by simp [Digs]
theorem zab {l m:List UInt8}:Digs (l++m)↔Digs l∧Digs m:=by simp [Digs]
theorem zdn (k:Nat):Digs (List.replicate k 48):=by
 unfold Digs
 rw [List.all_eq_true]
 intro x hx
 rw [List.eq_of_mem_replicate hx]
 rfl
theorem zpd {l:List UInt8} (k:Nat) (h:Digs l):Digs (l.take k):=by
 unfold Digs at h ⊢
 rw [List.all_eq_true] at h ⊢
 exact fun x hx=>h x (List.mem_of_mem_take hx)
theorem zi9 {b:UInt8} (h:isDig b=true):dv b<10:=by
 have:=zam.1 h
 unfold dv
 omega
theorem zkc {a b:UInt8} (h:a.toNat=b.toNat):a=b:=UInt8.toNat_inj.1 h
theorem zg3 {a b:UInt8} (ha:isDig a=true) (hb:isDig b=true) (h:dv a=dv b):a=b:=by
 have h1:=zam.1 ha
 have h2:=zam.1 hb
 unfold dv at h
 exact zkc (by omega)
theorem zmf (a:Nat) (l:List UInt8):valF a l=a*10 ^ l.length+val l:=by
 unfold val
 induction l generalizing a with
 | nil=>rw [zga,zga]; simp
 | cons b l ih =>
  simp only [zin,List.length_cons]
  rw [ih (a*10+dv b),ih (0*10+dv b),Nat.pow_succ,Nat.add_mul,Nat.zero_mul,Nat.zero_add,Nat.mul_assoc,Nat.mul_comm 10,Nat.add_assoc]
theorem zcz:val []=0:=rfl
theorem zar (b:UInt8) (l:List UInt8):val (b::l)=dv b*10 ^ l.length+val l:=by
 show valF (0*10+dv b) l=_
 rw [zmf,Nat.zero_mul,Nat.zero_add]
theorem zb7 (l m:List UInt8):val (l++m)=val l*10 ^ m.length+val m:=by
 induction l with
 | nil=>simp [zcz]
 | cons b l ih=>rw [List.cons_append,zar,zar,ih,List.length_append,Nat.pow_add,Nat.add_mul,Nat.mul_assoc,Nat.add_assoc]
theorem zdo (l:List UInt8) (b:UInt8):val (l++[b])=val l*10+dv b:=by rw [zb7,zar]; simp [zcz]
theorem zew {l:List UInt8} (h:Digs l):val l<10 ^ l.length:=by
 induction l with
 | nil=>simp [zcz]
 | cons b l ih =>
  obtain ⟨h1,h2⟩:=z8.1 h
  have:=ih h2
  have hd:=zi9 h1
  rw [zar,List.length_cons,Nat.pow_succ,Nat.mul_comm (10 ^ l.length)]
  have h3:dv b*10 ^ l.length≤9*10 ^ l.length:=Nat.mul_le_mul_right _ (by omega)
  omega
theorem zs9:dv 48=0:=rfl
theorem zhn (k:Nat):val (List.replicate k 48)=0:=by
 induction k with
 | zero=>rfl
 | succ k ih=>rw [List.replicate_succ,zar,ih,zs9]; simp
theorem zho (k:Nat) (l:List UInt8):val (List.replicate k 48++l)=val l:=by rw [zb7,zhn]; simp
theorem zag (k:Nat) (l:List UInt8):val (l++List.replicate k 48)=val l*10 ^ k:=by rw [zb7,zhn]; simp
theorem zln {l:List UInt8} (hd:Digs l) (h:val l=0):l=List.replicate l.length 48:=by
 induction l with
 | nil=>rfl
 | cons b l ih =>
  obtain ⟨h1,h2⟩:=z8.1 hd
  rw [zar] at h
  have hp:0<10 ^ l.length:=Nat.pow_pos (by omega)
  have h3:dv b=0:=by
   cases hb:dv b with
   | zero=>rfl
   | succ k=>rw [hb,Nat.succ_mul] at h; omega
  rw [List.length_cons,List.replicate_succ,← ih h2 (by omega)]
  rw [zg3 (a:=b) (b:=48) h1 rfl h3]
theorem zuk {l m:List UInt8} (hl:Digs l) (hm:Digs m) (hlen:l.length=m.length) (h:val l=val m):l=m:=by
 induction l generalizing m with
 | nil=>cases m with
  | nil=>rfl
  | cons=>simp at hlen
 | cons b l ih=>cases m with
  | nil=>simp at hlen
  | cons c m =>
   obtain ⟨h1,h2⟩:=z8.1 hl
   obtain ⟨h3,h4⟩:=z8.1 hm
   have hlen:l.length=m.length:=by simpa using hlen
   rw [zar,zar,hlen] at h
   have b1:=zew h2
   have b2:=zew h4
   rw [hlen] at b1
   have hp:0<10 ^ m.length:=Nat.pow_pos (by omega)
   have e:dv b=dv c:=by
    have q1:=congrArg (· / 10 ^ m.length) h
    simp only [Nat.mul_comm (dv b),Nat.mul_comm (dv c),Nat.mul_add_div hp,Nat.div_eq_of_lt b1,Nat.div_eq_of_lt b2] at q1
    omega
   rw [e] at h
   rw [zg3 h1 h3 e,ih h2 h4 hlen (by omega)]
theorem zpe (k:Nat) (h:k<10):(UInt8.ofNat (48+k)).toNat=48+k:=by simp [UInt8.toNat_ofNat']; omega
theorem zkd (k:Nat) (h:k<10):isDig (UInt8.ofNat (48+k))=true:=by rw [zam,zpe k h]; omega
theorem zta (k:Nat) (h:k<10):dv (UInt8.ofNat (48+k))=k:=by unfold dv; rw [zpe k h]; omega
theorem zgb {u:Nat} (h:u<10):Lib.decDigits u=[UInt8.ofNat (48+u)]:=Lib.decDigits_one h
theorem zpf {u:Nat} (h:¬ u<10):Lib.decDigits u=Lib.decDigits (u / 10)++[UInt8.ofNat (48+u % 10)]:=by rw [Lib.decDigits,dif_neg h]
theorem zc0 (u:Nat):Digs (Lib.decDigits u):=by
 induction u using Nat.strongRecOn with
 | _ u ih =>
  by_cases h:u<10
  · rw [zgb h,z8]; exact ⟨zkd u h,rfl⟩
  · rw [zpf h,zab,z8]
    exact ⟨ih _ (by omega),zkd _ (by omega),rfl⟩
theorem zc1 (u:Nat):val (Lib.decDigits u)=u:=by
 induction u using Nat.strongRecOn with
 | _ u ih =>
  by_cases h:u<10
  · rw [zgb h,zar,zta u h]; simp [zcz]
  · rw [zpf h,zdo,ih _ (by omega),zta _ (by omega)]; omega
theorem zpg (u:Nat):(Lib.decDigits u).length=Lib.nDigits u:=Lib.decDigits_length u
def Norm (l:List UInt8):Prop:=l≠[]∧(l.head? = some 48→l.length=1)
theorem pu10 (acc:Nat) (l:List UInt8) (hd:Digs l) (ha:acc<18446744073709551616):Lib.parseUint10 acc l=if valF acc l<18446744073709551616 then .ok (valF acc l) else .range:=by
 induction l generalizing acc with
 | nil=>rw [zga,if_pos ha]; rfl
 | cons b l ih =>
  obtain ⟨h1,h2⟩:=z8.1 hd
  have hb:=zam.1 h1
  have hmono:∀ x,x≤valF x l:=fun x=>by
   rw [zmf]
   have:0<10 ^ l.length:=Nat.pow_pos (by omega)
   have:=Nat.le_mul_of_pos_right x this
   omega
  have hm:=hmono (acc*10+dv b)
  simp only [Lib.parseUint10,hb,and_self,if_true]
  rw [zin]
  generalize hV:valF (acc*10+dv b) l=V at hm ⊢
  unfold dv at hm
  by_cases h3:1844674407370955162≤acc
  · rw [if_pos h3,if_neg (by omega)]
  · rw [if_neg h3]
    by_cases h4:18446744073709551616≤acc*10+(b.toNat - 48)
    · rw [if_pos h4,if_neg (by omega)]
    · rw [if_neg h4,ih _ h2 (by omega)]
      have:valF (acc*10+(b.toNat - 48)) l=V:=hV
      rw [this]
theorem zph {l:List UInt8} (hd:Digs l) (hn:l≠[]):Lib.atoiAll l=if val l<9223372036854775808 then .ok (val l:Int) else .range:=by
 cases l with
 | nil=>exact absurd rfl hn
 | cons b r =>
  have hb:=zam.1 (z8.1 hd).1
  simp only [Lib.atoiAll]
  rw [if_neg (by omega)]
  unfold Lib.parseMag
  rw [if_neg (by simp),pu10 0 _ hd (by omega)]
  have e:valF 0 (b::r)=val (b::r):=rfl
  rw [e]
  by_cases h1:val (b::r)<18446744073709551616
  · rw [if_pos h1]
    simp only []
    by_cases h2:val (b::r)<9223372036854775808
    · rw [if_pos h2,if_neg (by omega),if_neg (by omega),if_neg (by omega)]
    · rw [if_neg h2,if_pos (by omega)]
  · rw [if_neg h1,if_neg (by omega)]
def trz:List UInt8→List UInt8
 | []=>[]
 | b::l=>if trz l=[] then (if b=48 then [] else [b]) else b::trz l
theorem zpi (l:List UInt8) (c:UInt8):∃ k,l=Lib.trimRightB l c++List.replicate k c∧(∀ x,(Lib.trimRightB l c).getLast? = some x→x≠c):=by
 have h:=List.takeWhile_append_dropWhile (p:=fun b:UInt8=>b==c) (l:=l.reverse)
 refine ⟨(l.reverse.takeWhile (· == c)).length,?_,?_⟩
 · unfold Lib.trimRightB
   have h2:=congrArg List.reverse h
   rw [List.reverse_append,List.reverse_reverse] at h2
   have h3:(l.reverse.takeWhile (· == c)).reverse=List.replicate (l.reverse.takeWhile (· == c)).length c:=by
    rw [List.eq_replicate_iff]
    refine ⟨by simp,fun b hb => ?_⟩
    have:=List.all_eq_true.1 (List.all_takeWhile (p:=fun b:UInt8=>b==c) (l:=l.reverse)) b (List.mem_reverse.1 hb)
    simpa using this
   rw [h3] at h2
   exact h2.symm
 · intro x hx
   unfold Lib.trimRightB at hx
   rw [List.getLast?_reverse] at hx
   have:=List.head?_dropWhile_not (p:=fun b:UInt8=>b==c) (l:=l.reverse)
   rw [hx] at this
   simpa using this
theorem za8 (l:List UInt8):∃ k,l=trz l++List.replicate k 48∧(∀ x,(trz l).getLast? = some x→x≠48):=by
 induction l with
 | nil=>exact ⟨0,rfl,by simp [trz]⟩
 | cons b l ih =>
  obtain ⟨k,h1,h2⟩:=ih
  unfold trz
  by_cases h:trz l=[]
  · rw [if_pos h]
    rw [h,List.nil_append] at h1
    by_cases hb:b=48
    · rw [if_pos hb]
      exact ⟨k+1,by rw [List.replicate_succ,← h1,hb]; rfl,by simp⟩
    · rw [if_neg hb]
      exact ⟨k,by rw [← h1]; rfl,by simp [hb]⟩
  · rw [if_neg h]
    refine ⟨k,by rw [List.cons_append,← h1],?_⟩
    intro x hx
    rw [List.getLast?_cons] at hx
    cases e:(trz l).getLast? with
    | none=>simp at e; exact absurd e h
    | some y =>
     rw [e] at hx
     have hy:=h2 y e
     simp at hx
     rw [← hx]; exact hy
theorem zgc {a b:List UInt8} {c:UInt8} {i j:Nat} (h:a++List.replicate i c=b++List.replicate j c) (ha:∀ x,a.getLast? = some x→x≠c) (hb:∀ x,b.getLast? = some x→x≠c):a=b:=by
 induction i generalizing j with
 | zero =>
  cases j with
  | zero=>simpa using h
  | succ j =>
   rw [List.replicate_succ',← List.append_assoc] at h
   simp only [List.replicate_zero,List.append_nil] at h
   exact absurd rfl (ha c (by rw [h]; simp))
 | succ i ih =>
  cases j with
  | zero =>
   rw [List.replicate_succ',← List.append_assoc] at h
   simp only [List.replicate_zero,List.append_nil] at h
   exact absurd rfl (hb c (by rw [← h]; simp))
  | succ j =>
   rw [List.replicate_succ',List.replicate_succ',← List.append_assoc,← List.append_assoc] at h
   exact ih (List.append_inj_left' h rfl)
theorem zpj (l:List UInt8):Lib.trimRightB l 48=trz l:=by
 obtain ⟨i,h1,h2⟩:=zpi l 48
 obtain ⟨j,h3,h4⟩:=za8 l
 exact zgc (h1.symm.trans h3) h2 h4
theorem zio (l:List UInt8) (k:Nat):trz (l++List.replicate k 48)=trz l:=by
 obtain ⟨i,h1,h2⟩:=za8 (l++List.replicate k 48)
 obtain ⟨j,h3,h4⟩:=za8 l
 refine zgc (i:=i) (j:=j+k) (c:=48) ?_ h2 h4
 rw [← h1]
 conv=>lhs; rw [h3]
 rw [List.append_assoc,List.replicate_append_replicate]
theorem zke {l:List UInt8} (h:∀ x,l.getLast? = some x→x≠48):trz l=l:=by
 obtain ⟨j,h3,h4⟩:=za8 l
 exact (zgc (i:=0) (j:=j) (c:=48) (by rw [← h3]; simp) h h4).symm
theorem zpk (l:List UInt8):(trz l).length≤l.length:=by
 obtain ⟨k,h1,_⟩:=za8 l
 have:=congrArg List.length h1
 simp at this
 omega
theorem zdp {l:List UInt8} (h:Digs l):Digs (trz l):=by
 obtain ⟨k,h1,_⟩:=za8 l
 rw [h1,zab] at h
 exact h.1
theorem zb9 (l:List UInt8):l=trz l++List.replicate (l.length - (trz l).length) 48:=by
 obtain ⟨k,h1,_⟩:=za8 l
 have:=congrArg List.length h1
 simp at this
 rw [show l.length - (trz l).length=k from by omega]
 exact h1
theorem zdq {l:List UInt8} {x:UInt8} (h:(trz l).getLast? = some x):x≠48:=by
 obtain ⟨k,_,h2⟩:=za8 l
 exact h2 x h
theorem zmg {l:List UInt8} (hd:Digs l):trz l=[]↔val l=0:=by
 constructor
 · intro h
   have:=zb9 l
   rw [h,List.nil_append] at this
   rw [this,zhn]
 · intro h
   have:=zln hd h
   obtain ⟨k,h1,h2⟩:=za8 l
   rw [this] at h1 ⊢
   have:=zio [] l.length
   simpa [trz] using this
end Go.AM
set_option linter.unusedVariables false
set_option linter.unusedSimpArgs false
namespace Go.AM
abbrev DecD:=Bool×Int×Int×Unit
abbrev DecR:=DecD×Int×Unit
def two64:Nat:=18446744073709551616
theorem zas:two64=18446744073709551616:=rfl
def normR (neg:Bool) (c0:Nat) (E:Int):DecR:=
 if E < -18 then ((false,0,0,()),10,()) else if c0*10 ^ (E - 18).toNat<two64 then ((neg,((c0*10 ^ (E - 18).toNat:Nat):Int),(if E≤18 then E else 18),()),0,()) else ((false,0,0,()),10,())
def zeroD:DecR:=((false,0,0,()),0,())
def valR (neg:Bool) (d:List UInt8) (e:Int):DecR:=
 if val d=0 then zeroD else normR neg (val (trz d)) (e+((d.length - (trz d).length:Nat):Int))
theorem zul (d:List UInt8):val d=val (trz d)*10 ^ (d.length - (trz d).length):=by
 have:=congrArg val (zb9 d)
 rw [zag] at this
 exact this
theorem zkf {d:List UInt8} (hd:Digs d) (h:val d≠0):val (trz d) % 10≠0:=by
 have hne:trz d≠[]:=fun hh=>h ((zmg hd).1 hh)
 obtain ⟨x,hx⟩:∃ x,(trz d).getLast? = some x:=by
  cases e:(trz d).getLast? with
  | none=>simp at e; exact absurd e hne
  | some x=>exact ⟨x,rfl⟩
 have hx48:=zdq hx
 obtain ⟨ys,hys⟩:=List.getLast?_eq_some_iff.1 hx
 have hdig:=zdp hd
 rw [hys] at hdig ⊢
 obtain ⟨_,h2⟩:=zab.1 hdig
 obtain ⟨h3,_⟩:=z8.1 h2
 rw [zdo]
 have:=zi9 h3
 have h0:dv x≠0:=fun h0=>hx48 (zg3 h3 (b:=48) rfl h0)
 omega
theorem zlo {a b i j:Nat} (ha:a % 10≠0) (hb:b % 10≠0) (h:a*10 ^ i=b*10 ^ j):a=b∧i=j:=by
 induction i generalizing j with
 | zero =>
  cases j with
  | zero=>simpa using h
  | succ j=>rw [Nat.pow_zero,Nat.mul_one,Nat.pow_succ,← Nat.mul_assoc] at h; omega
 | succ i ih =>
  cases j with
  | zero=>rw [Nat.pow_zero,Nat.mul_one,Nat.pow_succ,← Nat.mul_assoc] at h; omega
  | succ j =>
   rw [Nat.pow_succ,Nat.pow_succ,← Nat.mul_assoc,← Nat.mul_assoc] at h
   obtain ⟨h1,h2⟩:=ih (Nat.eq_of_mul_eq_mul_right (by omega) h)
   exact ⟨h1,by omega⟩
theorem zaq {d:List UInt8} (hd:Digs d) {c0 z:Nat} (h0:c0 % 10≠0) (hv:val d=c0*10 ^ z) (neg:Bool) (e:Int):valR neg d e=normR neg c0 (e+z):=by
 have hne:val d≠0:=by
  rw [hv]
  have:=Nat.mul_pos (show 0<c0 by omega) (Nat.pow_pos (n:=z) (show 0<10 by omega))
  omega
 unfold valR
 rw [if_neg hne]
 obtain ⟨h1,h2⟩:=zlo (zkf hd hne) h0 ((zul d).symm.trans hv)
 rw [h1,h2]
theorem zcn (c:Nat) (h:0<c):∃ c0 z,c=c0*10 ^ z∧c0 % 10≠0:=by
 induction c using Nat.strongRecOn with
 | _ c ih =>
  by_cases h1:c % 10=0
  · obtain ⟨c0,z,h2,h3⟩:=ih (c / 10) (by omega) (by omega)
    exact ⟨c0,z+1,by rw [Nat.pow_succ,← Nat.mul_assoc,← h2]; omega,h3⟩
  · exact ⟨c,0,by simp,h1⟩
theorem zcd (neg:Bool) {d:List UInt8} (hd:Digs d) (k:Nat) (e:Int):valR neg (d++List.replicate k 48) e=valR neg d (e+k):=by
 have hD:Digs (d++List.replicate k 48):=zab.2 ⟨hd,zdn _⟩
 by_cases h:val d=0
 · have:val (d++List.replicate k 48)=0:=by rw [zag,h]; simp
   unfold valR
   rw [if_pos h,if_pos this]
 · obtain ⟨c0,z,h1,h2⟩:=zcn (val d) (by omega)
   rw [zaq hd h2 h1,zaq hD h2 (z:=z+k) (by rw [zag,h1,Nat.pow_add,Nat.mul_assoc])]
   congr 1
   omega
theorem zkg (n:Nat) (c d:Nat) (hc:c<two64) (hd:d<two64):F.zaq n (c:Int) (d:Int)=some ((((c*10+d) % two64:Nat):Int),decide (c*10+d<two64),()):=by
 unfold F.zaq O.mul64
 rw [zas] at *
 rw [zf (by omega),za]
 unfold O.add64
 rw [show (c:Int).toNat=c from rfl,show (10:Int).toNat=10 from rfl]
 dsimp only
 rw [zf (by omega),za]
 simp only [Int.toNat_natCast,show (0:Int).toNat=0 from rfl,Nat.add_zero]
 by_cases h:c*10<18446744073709551616
 · have e1:((((c*10 / 18446744073709551616:Nat):Int))==0)=true:=by simp; omega
   rw [e1,cond_true]
   have e2:c*10 % 18446744073709551616=c*10:=Nat.mod_eq_of_lt h
   rw [e2]
   congr 2
   congr 1
   by_cases h2:c*10+d<18446744073709551616
   · have:(c*10+d) / 18446744073709551616=0:=Nat.div_eq_of_lt h2
     simp [h2,this]
   · have:¬ (c*10+d) / 18446744073709551616=0:=by omega
     have e:((((c*10+d) / 18446744073709551616:Nat):Int)==0)=false:=by simp; omega
     rw [e]; simp [h2]
 · have e1:((((c*10 / 18446744073709551616:Nat):Int))==0)=false:=by simp; omega
   rw [e1,cond_false]
   have:¬ c*10+d<18446744073709551616:=by omega
   simp only [this,decide_false]
   congr 2
   omega
theorem znk (n:Nat) (X:Type) (k0:Bool→Int→Int→Bool→Int→Int→Option X) (neg b:Bool) (x y:Int) (c0:Nat) (h0:c0 % 10≠0):∀ (z m:Nat) (e:Int),c0*10 ^ z<two64→-9223372036854775808≤e→e+z≤9223372036854775807→z<m →
 ∃ j,j≤z∧F.zg.L3 n k0 m neg ((c0*10 ^ z:Nat):Int) e b x y=k0 neg ((c0*10 ^ j:Nat):Int) (e+z - j) b x y∧(j=0∨18≤e+z - j)∧(e+z - j≤18∨j=z):=by
 intro z
 induction z with
 | zero =>
  intro m e hc he1 he2 hm
  obtain ⟨m,rfl⟩:∃ q,m=q+1:=⟨m - 1,by omega⟩
  refine ⟨0,Nat.le_refl _,?_,Or.inl rfl,Or.inr rfl⟩
  show F.zg.L3.step n _ k0 _ _ _ _ _ _=_
  unfold F.zg.L3.step
  have e1:((((c0*10 ^ 0:Nat):Int).tmod 10)==0)=false:=by
   rw [Nat.pow_zero,Nat.mul_one]
   have:¬ ((c0:Int).tmod 10)=0:=by
    rw [show ((c0:Int).tmod 10)=((c0 % 10:Nat):Int) from rfl]; omega
   simpa using this
  rw [e1,cond_false]
  congr 1
  omega
 | succ z ih =>
  intro m e hc he1 he2 hm
  obtain ⟨m,rfl⟩:∃ q,m=q+1:=⟨m - 1,by omega⟩
  have hstep:F.zg.L3 n k0 (m+1) neg ((c0*10 ^ (z+1):Nat):Int) e b x y=F.zg.L3.step n (F.zg.L3 n k0 m) k0 neg ((c0*10 ^ (z+1):Nat):Int) e b x y:=rfl
  have hmul:c0*10 ^ (z+1)=c0*10 ^ z*10:=by rw [Nat.pow_succ,Nat.mul_assoc]
  have e1:((((c0*10 ^ (z+1):Nat):Int).tmod 10)==0)=true:=by
   have:((c0*10 ^ (z+1):Nat):Int).tmod 10=0:=by
    rw [show (((c0*10 ^ (z+1):Nat):Int).tmod 10)=((c0*10 ^ (z+1) % 10:Nat):Int) from rfl]; omega
   simpa using this
  have e2:((c0*10 ^ (z+1):Nat):Int).tdiv 10=((c0*10 ^ z:Nat):Int):=by
   rw [show (((c0*10 ^ (z+1):Nat):Int).tdiv 10)=((c0*10 ^ (z+1) / 10:Nat):Int) from rfl]; omega
  rw [hstep]
  unfold F.zg.L3.step
  rw [e1,cond_true]
  by_cases h18:e<18
  · rw [zf h18,e2,IntWalk.u64_in _ (by rw [zas] at hc; omega),ze (by omega)]
    obtain ⟨j,j1,j2,j3,j4⟩:=ih m (e+1) (by omega) (by omega) (by omega) (by omega)
    refine ⟨j,by omega,?_,?_,?_⟩
    · rw [j2]
      congr 1
      omega
    · rcases j3 with j3 | j3
      · exact Or.inl j3
      · exact Or.inr (by omega)
    · rcases j4 with j4 | j4
      · exact Or.inl (by omega)
      · exact Or.inl (by omega)
  · rw [zg h18]
    refine ⟨z+1,Nat.le_refl _,?_,Or.inr (by omega),Or.inr rfl⟩
    congr 1
    omega
theorem ziq (n:Nat) (X:Type) (k2:Bool→Int→Int→Bool→Int→Int→Option X) (K:Int→Bool→Int→Int→Option X) (neg b:Bool) (x y:Int):∀ (m c d:Nat),0<c→c<two64→two64≤c*10 ^ m→18+(d:Int)≤9223372036854775807 →
 F.zg.L5 n k2 (fun q _ _ _ u v w=>K q u v w) (m+1) neg (c:Int) (18+(d:Int)) b x y=if c*10 ^ d<two64 then k2 neg ((c*10 ^ d:Nat):Int) 18 b x y else K 10 false 0 0:=by
 intro m
 induction m with
 | zero=>intro c d h1 h2 h3; rw [Nat.pow_zero,Nat.mul_one] at h3; omega
 | succ m ih =>
  intro c d h1 h2 h3 h4
  have hstep:F.zg.L5 n k2 (fun q _ _ _ u v w=>K q u v w) (m+1+1) neg (c:Int) (18+(d:Int)) b x y=F.zg.L5.step n (F.zg.L5 n k2 (fun q _ _ _ u v w=>K q u v w) (m+1)) k2 (fun q _ _ _ u v w=>K q u v w) neg (c:Int) (18+(d:Int)) b x y:=rfl
  rw [hstep]
  unfold F.zg.L5.step
  cases d with
  | zero =>
   rw [zg (by omega),Nat.pow_zero,Nat.mul_one,if_pos h2]
   rfl
  | succ d =>
   rw [zf (by omega),show (0:Int)=((0:Nat):Int) from rfl,zkg n c 0 h2 (by decide),za]
   have hp:c*10≤c*10 ^ (d+1):=by
    rw [Nat.pow_succ,← Nat.mul_assoc]
    have:0<10 ^ d:=Nat.pow_pos (by omega)
    have:=Nat.le_mul_of_pos_right c this
    omega
   by_cases hf:c*10+0<two64
   · simp only [hf,decide_true,Bool.not_true,cond_false]
     rw [ze (by omega),show (18+((d+1:Nat):Int) - 1)=18+(d:Int) from by omega,Nat.mod_eq_of_lt hf]
     have:=ih (c*10+0) d (by omega) hf (by rw [Nat.pow_succ] at h3; rw [Nat.add_zero,Nat.mul_assoc,Nat.mul_comm 10]; exact h3) (by omega)
     rw [show ((0:Nat):Int)=(0:Int) from rfl] at *
     rw [this,Nat.add_zero,Nat.mul_assoc,Nat.mul_comm 10,← Nat.pow_succ]
   · have:¬ c*10 ^ (d+1)<two64:=by omega
     simp only [hf,decide_false,Bool.not_false,cond_true]
     rw [if_neg this]
theorem zlp (n:Nat) (hn:100≤n) (neg:Bool) (c0 z:Nat) (h0:c0 % 10≠0) (hc:c0*10 ^ z<two64) (e:Int) (he : -9223372036854775808≤e∧e≤9223372036854775807) :
 F.zg n (neg,((c0*10 ^ z:Nat):Int),e,())=some (normR neg c0 (e+z)):=by
 have hz:z≤20:=by
  refine Classical.byContradiction fun hh => ?_
  have h1:10 ^ 20≤10 ^ z:=Nat.pow_le_pow_right (by omega) (by omega)
  have h2:=Nat.le_mul_of_pos_left (10 ^ z) (show 0<c0 by omega)
  rw [zas] at hc
  omega
 have hpos:0<c0*10 ^ z:=Nat.mul_pos (by omega) (Nat.pow_pos (by omega))
 unfold F.zg
 have e0:(((c0*10 ^ z:Nat):Int)==0)=false:=by
  have:¬ ((c0*10 ^ z:Nat):Int)=0:=by omega
  simpa using this
 simp only [e0,cond_false]
 by_cases hbig:9223372036854775807<e+z
 ·
  have h18:¬ e<18:=by omega
  obtain ⟨m,rfl⟩:∃ q,n=q+1:=⟨n - 1,by omega⟩
  have hs:∀ (k0:Bool→Int→Int→Bool→Int→Int→Option DecR),F.zg.L3 (m+1) k0 (m+1) neg ((c0*10 ^ z:Nat):Int) e false 0 0=k0 neg ((c0*10 ^ z:Nat):Int) e false 0 0:=by
   intro k0
   show F.zg.L3.step (m+1) (F.zg.L3 (m+1) k0 m) k0 _ _ _ _ _ _=_
   unfold F.zg.L3.step
   rw [zg h18]
   cases (((c0*10 ^ z:Nat):Int).tmod 10==0)<;>rfl
  rw [hs]
  obtain ⟨d,hd⟩:∃ d:Nat,e=18+(d:Int):=⟨(e - 18).toNat,by omega⟩
  have hfuel:two64≤c0*10 ^ z*10 ^ m:=by
   have h1:10 ^ 20≤10 ^ m:=Nat.pow_le_pow_right (by omega) (by omega)
   have h2:=Nat.le_mul_of_pos_left (10 ^ m) hpos
   rw [zas]
   omega
  rw [hd,ziq (m+1) _ _ (fun q u v w=>some ((u,v,w,()),q,())) neg false 0 0 m _ d hpos hc hfuel (by omega)]
  have hnot:∀ w,20≤w→¬ c0*10 ^ w<two64:=by
   intro w hw
   have h1:10 ^ 20≤10 ^ w:=Nat.pow_le_pow_right (by omega) hw
   have h2:=Nat.le_mul_of_pos_left (10 ^ w) (show 0<c0 by omega)
   rw [zas]
   omega
  unfold normR
  rw [if_neg (show ¬ 18+(d:Int)+z < -18 by omega),if_neg (by rw [Nat.mul_assoc,← Nat.pow_add]; exact hnot _ (by omega)),if_neg (hnot _ (by omega))]
 · obtain ⟨j,j1,j2,j3,j4⟩:=znk n DecR (fun e1_b0_0 e1_b0_1 e1_b0_2 e1_b1_0 e1_b1_1 e1_b1_2 =>
    F.zg.L5 n
     (fun e3_b0_0 e3_b0_1 e3_b0_2 e3_b1_0 e3_b1_1 e3_b1_2 =>
      bif decide (e3_b0_2<(-18:Int)) then
       some (((false,(0:Int),(0:Int),()),(10:Int),()))
      else
       some (((e3_b0_0,e3_b0_1,e3_b0_2,()),(0:Int),())))
     (fun e4_3 e4_b0_0 e4_b0_1 e4_b0_2 e4_b1_0 e4_b1_1 e4_b1_2 =>
      some (((e4_b1_0,e4_b1_1,e4_b1_2,()),e4_3,()))) n e1_b0_0 e1_b0_1 e1_b0_2 e1_b1_0 e1_b1_1 e1_b1_2) neg false 0 0 c0 h0 z n e hc he.1 (by omega) (by omega)
   refine j2.trans ?_
   have hcj:c0*10 ^ j<two64:=by
    have h1:10 ^ j≤10 ^ z:=Nat.pow_le_pow_right (by omega) j1
    have:=Nat.mul_le_mul_left c0 h1
    omega
   have hposj:0<c0*10 ^ j:=Nat.mul_pos (by omega) (Nat.pow_pos (by omega))
   obtain ⟨m,rfl⟩:∃ q,n=q+1:=⟨n - 1,by omega⟩
   by_cases hE:18≤e+z - j
   · obtain ⟨d,hd⟩:∃ d:Nat,e+z - j=18+(d:Int):=⟨(e+z - j - 18).toNat,by omega⟩
     have hfuel:two64≤c0*10 ^ j*10 ^ m:=by
      have h1:10 ^ 20≤10 ^ m:=Nat.pow_le_pow_right (by omega) (by omega)
      have h2:=Nat.le_mul_of_pos_left (10 ^ m) hposj
      rw [zas]
      omega
     show F.zg.L5 (m+1) _ _ (m+1) neg _ (e+z - j) false 0 0=_
     rw [hd,ziq (m+1) _ _ (fun q u v w=>some ((u,v,w,()),q,())) neg false 0 0 m _ d hposj hcj hfuel (by omega)]
     unfold normR
     rw [if_neg (show ¬ e+z < -18 by omega),Nat.mul_assoc,← Nat.pow_add,show j+d=(e+z - 18).toNat from by omega]
     by_cases hf:c0*10 ^ (e+z - 18).toNat<two64
     · rw [if_pos hf,if_pos hf,zg (by omega)]
       congr 3
       by_cases hh:e+z≤18
       · rw [if_pos hh,show e+(z:Int)=18 from by omega]
       · rw [if_neg hh]
     · rw [if_neg hf,if_neg hf]
   · have hj0:j=0:=by omega
     subst hj0
     have hlow:∀ (k2:Bool→Int→Int→Bool→Int→Int→Option DecR) (kr:Int→Bool→Int→Int→Bool→Int→Int→Option DecR) (c:Int) (E:Int),¬ E>18→F.zg.L5 (m+1) k2 kr (m+1) neg c E false 0 0=k2 neg c E false 0 0:=by
      intro k2 kr c E hE
      show F.zg.L5.step (m+1) (F.zg.L5 (m+1) k2 kr m) k2 kr neg c E false 0 0=_
      unfold F.zg.L5.step
      rw [zg hE]
     rw [hlow _ _ _ _ (by omega)]
     unfold normR
     rw [Nat.pow_zero,Nat.mul_one,show (e+(z:Int) - 18).toNat=0 from by omega,Nat.pow_zero,Nat.mul_one,show (e+(z:Int) - ((0:Nat):Int))=e+z from by omega]
     by_cases h18:e+z < -18
     · rw [zf h18,if_pos h18]
     · rw [zg h18,if_neg h18,if_pos (by rw [Nat.pow_zero,Nat.mul_one] at hcj; exact hcj),if_pos (by omega)]
theorem zex (n:Nat) (hn:100≤n) (neg:Bool) (c:Nat) (hc:c<two64) (e:Int) (he : -9223372036854775808≤e∧e≤9223372036854775807):F.zg n (neg,(c:Int),e,())=some (valR neg (Lib.decDigits c) e):=by
 by_cases h:c=0
 · subst h
   unfold valR
   rw [if_pos (zc1 0)]
   rfl
 · obtain ⟨c0,z,h1,h2⟩:=zcn c (by omega)
   rw [zaq (zc0 c) h2 (by rw [zc1]; exact h1)]
   rw [h1] at hc ⊢
   exact zlp n hn neg c0 z h2 hc e he
end Go.AM
set_option linter.unusedVariables false
set_option linter.unusedSimpArgs false
namespace Go.AM
def lz (d:List UInt8):List UInt8:=d.dropWhile (· == 48)
theorem zkh (d:List UInt8):d=List.replicate (d.length - (lz d).length) 48++lz d:=by
 induction d with
 | nil=>rfl
 | cons b d ih =>
  unfold lz at ih ⊢
  by_cases h:b=48
  · subst h
    have e:((48:UInt8)::d).dropWhile (· == 48)=d.dropWhile (· == 48):=by simp [List.dropWhile_cons]
    have hl:(d.dropWhile (· == 48)).length≤d.length:=(List.dropWhile_sublist _).length_le
    rw [e,List.length_cons,show d.length+1 - (d.dropWhile (· == 48)).length=(d.length - (d.dropWhile (· == 48)).length)+1 from by omega,List.replicate_succ,List.cons_append,← ih]
  · have e:(b::d).dropWhile (· == 48)=b::d:=by simp [List.dropWhile_cons,h]
    rw [e]
    simp
theorem zvi (d:List UInt8):val (lz d)=val d:=by
 conv=>rhs; rw [zkh d]
 rw [zho]
theorem zmh {d:List UInt8} (h:Digs d):Digs (lz d):=by
 rw [zkh d,zab] at h
 exact h.2
theorem zvq (d:List UInt8):(lz d).length≤d.length:=(List.dropWhile_sublist _).length_le
end Go.AM
set_option linter.unusedVariables false
set_option linter.unusedSimpArgs false
namespace Go.AM
abbrev FaultR:=Int×Int×Unit
abbrev ParseR:=DecD×FaultR×Unit
theorem za0 (n:Nat) (s:List UInt8) (c:UInt8):F.zr n s [c]=some (decide (s.head? = some c)):=by
 unfold F.zr F.zv
 cases s with
 | nil=>rfl
 | cons b s =>
  have e:sub (b::s) (0:Int) ((([c]:List UInt8).length:Nat):Int)=some [b]:=zp (b::s) 0 1 (by omega) (by simp)
  rw [zf (by simp; omega),e,za,za]
  by_cases h:b=c
  · subst h; simp
  · simp [h]
def tw (s:List UInt8):List UInt8:=s.takeWhile isDig
theorem zc2 (s:List UInt8):Digs (tw s):=List.all_takeWhile
theorem zki (s:List UInt8):s=tw s++s.drop (tw s).length:=by
 induction s with
 | nil=>rfl
 | cons b s ih =>
  unfold tw at ih ⊢
  by_cases h:isDig b=true
  · simp only [List.takeWhile_cons,h,if_true,List.length_cons,List.drop_succ_cons,List.cons_append]
    rw [← ih]
  · simp [List.takeWhile_cons,h]
theorem ztb (s:List UInt8):(tw s).length≤s.length:=(List.takeWhile_sublist _).length_le
theorem zfr (n:Nat) (X:Type) (k0:Int→(List UInt8)→Int→Int→Int→Option X) (v3 b0 b1:Int) (s:List UInt8) (hs:s.length<4611686018427387904):∀ (r:List UInt8) (k m:Nat),s.drop k=r→k≤s.length→r.length<m →
 F.zy.L2_dec_look_1 n k0 m v3 s b0 b1 (k:Int)=k0 v3 s b0 b1 ((k+(tw r).length:Nat):Int):=by
 intro r
 induction r with
 | nil =>
  intro k m hk hkl hm
  have:=zz hk
  obtain ⟨m,rfl⟩:∃ q,m=q+1:=⟨m - 1,by omega⟩
  show F.zy.L2_dec_look_1.step n _ k0 _ _ _ _ _=_
  unfold F.zy.L2_dec_look_1.step
  rw [zg (by omega)]
  rfl
 | cons x r ih =>
  intro k m hk hkl hm
  obtain ⟨h1,h2,h3⟩:=zx hk
  obtain ⟨m,rfl⟩:∃ q,m=q+1:=⟨m - 1,by omega⟩
  show F.zy.L2_dec_look_1.step n (F.zy.L2_dec_look_1 n k0 m) k0 _ _ _ _ _=_
  unfold F.zy.L2_dec_look_1.step
  rw [zf (by omega),zt,h2,za,za]
  unfold tw at ih ⊢
  by_cases hd:isDig x=true
  · have hx:=zam.1 hd
    rw [zf (by omega),zf (by omega),zi (by omega),ih (k+1) m h3 (by omega) (by simp at hm; omega)]
    simp only [List.takeWhile_cons,hd,if_true,List.length_cons]
    congr 2
    omega
  · simp only [List.takeWhile_cons,hd,if_false]
    by_cases h48:48≤x.toNat
    · have:¬ x.toNat≤57:=fun h=>hd (zam.2 ⟨h48,h⟩)
      rw [zf (by omega),zg (by omega)]
      rfl
    · rw [zg (by omega)]
      rfl
def p0 (s:List UInt8):Nat:=if s.head? = some 45 then 1 else 0
def p1q (q:Nat) (s:List UInt8):Nat:=q+(tw (s.drop q)).length
def p3q (q:Nat) (s:List UInt8):Nat:=p1q q s+1+(tw (s.drop (p1q q s+1))).length
theorem znl (s:List UInt8):p0 s≤s.length:=by
 unfold p0
 cases s with
 | nil=>simp
 | cons b s=>split<;>simp
theorem znm {q:Nat} {s:List UInt8} (hq:q≤s.length):p1q q s≤s.length:=by
 have h2:=ztb (s.drop q)
 simp at h2
 unfold p1q
 omega
theorem zmi {s:List UInt8} {k:Nat} {x:UInt8} (h:(s.drop k).head? = some x):k<s.length:=by
 cases e:s.drop k with
 | nil=>rw [e] at h; simp at h
 | cons b r =>
  have:=congrArg List.length e
  simp at this
  omega
theorem zvr {q:Nat} {s:List UInt8} (h:(s.drop (p1q q s)).head? = some 46):p3q q s≤s.length:=by
 have h1:=zmi h
 have h2:=ztb (s.drop (p1q q s+1))
 simp at h2
 unfold p3q
 omega
def endR (right:Prop) [Decidable right] (at':Nat) (len:Nat):FaultR:=
 if right∧at'=len then (0,0,()) else if at'=len then (11,(at':Int),()) else (14,(at':Int),())
def lookQ (q:Nat) (s:List UInt8):FaultR:=
 if q<p1q q s∧(s.drop (p1q q s)).head? = some 46 then endR (p1q q s+1<p3q q s) (p3q q s) s.length else endR (q<p1q q s) (p1q q s) s.length
def lookR (s:List UInt8):FaultR:=lookQ (p0 s) s
theorem zpl (a b:Nat) (at' len:Nat):(bif decide ((at':Int)>(a:Int)) then
 bif (at':Int)==(len:Int) then some (((0:Int),(0:Int),())) else bif (at':Int)==(len:Int) then some (((11:Int),(at':Int),())) else some (((14:Int),(at':Int),()))
 else bif (at':Int)==(len:Int) then some (((11:Int),(at':Int),())) else some (((14:Int),(at':Int),())))=some (endR (a<at') at' len):=by
 unfold endR
 by_cases h1:at'=len
 · have e:((at':Int)==(len:Int))=true:=by simp [h1]
   rw [e]
   by_cases h2:a<at'
   · rw [zf (by omega),if_pos ⟨h2,h1⟩]; rfl
   · rw [zg (by omega),if_neg (fun h=>h2 h.1),if_pos h1]; rfl
 · have e:((at':Int)==(len:Int))=false:=by
    have:¬ (at':Int)=(len:Int):=by omega
    simpa using this
   rw [e,if_neg (fun h=>h1 h.2),if_neg h1]
   simp only [cond_false]
   cases decide ((at':Int)>(a:Int))<;>rfl
theorem zir (n : Nat) (s:List UInt8) (hs:s.length<4000000000000000000) (hn:s.length<n) (q:Nat) (hq:q≤s.length) :
 F.zy.L2_dec_look_1 n
  (fun e4_3 e4_b0_0 e4_b1_0 e4_b1_1 e4_b2_0 =>
   bif decide (e4_b2_0>e4_3) then
    (sub e4_b0_0 e4_b2_0 (e4_b0_0.length:Int)).bind fun x5 =>
     (F.zr n x5 ([46])).bind fun y6 =>
      bif y6 then
       F.zy.L2_dec_look_1 n
        (fun e7_3 e7_b0_0 e7_b1_0 e7_b1_1 e7_b2_0 =>
         bif decide (e7_b2_0>e7_3) then
          bif e7_b2_0==(e7_b0_0.length:Int) then
           some (((0:Int),(0:Int),()))
          else
          bif e7_b2_0==(e7_b0_0.length:Int) then
           some (((11:Int),e7_b2_0,()))
          else
           some (((14:Int),e7_b2_0,()))
         else
         bif e7_b2_0==(e7_b0_0.length:Int) then
          some (((11:Int),e7_b2_0,()))
         else
          some (((14:Int),e7_b2_0,()))) n (IntKind.wrap .i64 (e4_b2_0+(1:Int))) e4_b0_0 e4_b1_0 e4_b1_1 (IntKind.wrap .i64 (e4_b2_0+(1:Int)))
      else
      bif decide (e4_b2_0>e4_3) then
       bif e4_b2_0==(e4_b0_0.length:Int) then
        some (((0:Int),(0:Int),()))
       else
       bif e4_b2_0==(e4_b0_0.length:Int) then
        some (((11:Int),e4_b2_0,()))
       else
        some (((14:Int),e4_b2_0,()))
      else
      bif e4_b2_0==(e4_b0_0.length:Int) then
       some (((11:Int),e4_b2_0,()))
      else
       some (((14:Int),e4_b2_0,()))
   else
   bif decide (e4_b2_0>e4_3) then
    bif e4_b2_0==(e4_b0_0.length:Int) then
     some (((0:Int),(0:Int),()))
    else
    bif e4_b2_0==(e4_b0_0.length:Int) then
     some (((11:Int),e4_b2_0,()))
    else
     some (((14:Int),e4_b2_0,()))
   else
   bif e4_b2_0==(e4_b0_0.length:Int) then
    some (((11:Int),e4_b2_0,()))
   else
    some (((14:Int),e4_b2_0,()))) n (q:Int) s (0:Int) (0:Int) (q:Int)
 = some (lookQ q s):=by
 rw [zfr n _ _ _ _ _ s (by omega) (s.drop q) q n rfl hq (by simp; omega)]
 have hkl:p1q q s≤s.length:=znm hq
 show (bif decide (((p1q q s:Nat):Int)>(q:Int)) then _ else _)=_
 unfold lookQ
 have hk3:p3q q s=p1q q s+1+(tw (s.drop (p1q q s+1))).length:=rfl
 have hsh:q+(tw (s.drop q)).length=p1q q s:=rfl
 simp only [hsh]
 generalize p3q q s=k3 at hk3 ⊢
 clear hsh
 generalize p1q q s=k at hkl hk3 ⊢
 subst hk3
 have hE:=zpl q 0 k s.length
 rw [hE]
 by_cases h1:q<k
 · rw [zf (by omega)]
   have hsub:sub s (k:Int) (s.length:Int)=some (s.drop k):=by
    have:=zp s k s.length hkl (Nat.le_refl _)
    rw [List.take_length] at this
    exact this
   rw [hsub,za,za0,za]
   by_cases h2:(s.drop k).head? = some 46
   · have hlt:k<s.length:=by
      cases e:s.drop k with
      | nil=>rw [e] at h2; simp at h2
      | cons b r =>
       have:=congrArg List.length e
       simp at this
       omega
     rw [decide_eq_true h2,cond_true,if_pos ⟨h1,h2⟩,zi (by omega),zfr n _ _ _ _ _ s (by omega) (s.drop (k+1)) (k+1) n rfl (by omega) (by simp; omega)]
     exact zpl (k+1) 0 _ s.length
   · rw [decide_eq_false h2,cond_false,if_neg (fun h=>h2 h.2)]
 · rw [zg (by omega),if_neg (fun h=>h1 h.1)]
theorem zum (n:Nat) (s:List UInt8) (hs:s.length<4000000000000000000) (hn:s.length<n):F.zy n s=some (lookR s):=by
 unfold F.zy
 rw [za0,za]
 by_cases h:s.head? = some 45
 · have hp:p0 s=1:=by unfold p0; rw [if_pos h]
   rw [decide_eq_true h,cond_true]
   have hq:1≤s.length:=by have:=znl s; omega
   have:=zir n s hs hn 1 hq
   refine this.trans ?_
   unfold lookR
   rw [hp]
 · have hp:p0 s=0:=by unfold p0; rw [if_neg h]
   rw [decide_eq_false h,cond_false]
   have:=zir n s hs hn 0 (by omega)
   refine this.trans ?_
   unfold lookR
   rw [hp]
end Go.AM
set_option linter.unusedVariables false
set_option linter.unusedSimpArgs false
namespace Go.AM
def outR (r:DecR):ParseR:=if r.2.1=0 then (r.1,(0,0,()),()) else ((false,0,0,()),(r.2.1,0,()),())
def badR (f:FaultR):ParseR:=((false,0,0,()),f,())
def aheadD (s:List UInt8):List UInt8:=tw (s.drop (p0 s))
def behindD (s:List UInt8):List UInt8:=if (s.drop (p1q (p0 s) s)).head? = some 46 then tw (s.drop (p1q (p0 s) s+1)) else []
def negD (s:List UInt8):Bool:=decide (s.head? = some 45)
def parseR (s:List UInt8):ParseR:=
 if (lookR s).1=0 then outR (valR (negD s) (aheadD s++behindD s) (-((behindD s).length:Int))) else badR (lookR s)
theorem zpm (neg:Bool) (d:List UInt8) (e:Int):(valR neg d e).2.1=0∨(valR neg d e).2.1=10∧(valR neg d e).1=(false,0,0,()):=by
 unfold valR zeroD normR
 by_cases h:val d=0
 · rw [if_pos h]; exact Or.inl rfl
 · rw [if_neg h]
   split
   · exact Or.inr ⟨rfl,rfl⟩
   · split
     · exact Or.inl rfl
     · exact Or.inr ⟨rfl,rfl⟩
theorem zis {d d':List UInt8} (hd:Digs d) (hd':Digs d') (h:val d=val d') (neg:Bool) (e:Int):valR neg d e=valR neg d' e:=by
 by_cases h0:val d=0
 · unfold valR
   rw [if_pos h0,if_pos (h▸h0)]
 · obtain ⟨c0,z,h1,h2⟩:=zcn (val d) (by omega)
   rw [zaq hd h2 h1,zaq hd' h2 (h▸h1)]
theorem zsa {d:List UInt8} (hd:Digs d) (h:two64≤val d) (ht:trz d=d) (neg:Bool) (e:Int):valR neg d e=((false,0,0,()),10,()):=by
 have h0:val d≠0:=by rw [zas] at h; omega
 have hc:=zkf hd h0
 rw [ht] at hc
 rw [zaq hd hc (z:=0) (by simp)]
 unfold normR
 split
 · rfl
 · rw [if_neg]
   have:=Nat.le_mul_of_pos_right (val d) (Nat.pow_pos (n:=(e+((0:Nat):Int) - 18).toNat) (show 0<10 by omega))
   omega
end Go.AM
set_option linter.unusedVariables false
set_option linter.unusedSimpArgs false
namespace Go.AM
theorem zpn (n:Nat) (X:Type) (k0:Bool→Int→Int→Int→Int→Int→Int→Bool→Int→Int→Option X) (s:List UInt8) (hs:s.length<4611686018427387904) (b:Bool) (x1 x2 x3 x4 x5 x6:Int) (neg:Bool) (E:Int):∀ (r:List UInt8) (k m:Nat),s.drop k=r→k≤s.length→r.length<m→Digs r→val (s.take k)<two64 →
 F.zq.L14 n k0 m s (s.length:Int) (k:Int) b x1 x2 x3 x4 x5 x6 neg (val (s.take k):Int) E=if val s<two64 then k0 b x1 x2 x3 x4 x5 x6 neg (val s) E else k0 b x1 x2 x3 x4 x5 x6 neg 1 (-19):=by
 intro r
 induction r with
 | nil =>
  intro k m hk hkl hm hd hv
  have hk:=zz hk
  obtain ⟨m,rfl⟩:∃ q,m=q+1:=⟨m - 1,by omega⟩
  show F.zq.L14.step n _ k0 _ _ _ _ _ _ _ _ _ _ _ _ _=_
  unfold F.zq.L14.step
  rw [List.take_of_length_le hk] at hv ⊢
  rw [zg (by omega),if_pos hv]
 | cons x r ih =>
  intro k m hk hkl hm hd hv
  obtain ⟨h1,h2,h3⟩:=zx hk
  obtain ⟨d1,d2⟩:=z8.1 hd
  have hx:=zam.1 d1
  obtain ⟨m,rfl⟩:∃ q,m=q+1:=⟨m - 1,by omega⟩
  show F.zq.L14.step n (F.zq.L14 n k0 m) k0 _ _ _ _ _ _ _ _ _ _ _ _ _=_
  unfold F.zq.L14.step
  have htk:s.take (k+1)=s.take k++[x]:=by rw [List.take_add_one,h2]; rfl
  have hvk:val (s.take (k+1))=val (s.take k)*10+dv x:=by rw [htk,zdo]
  have hsv:val (s.take (k+1))≤val s:=by
   have e:s=s.take (k+1)++s.drop (k+1):=(List.take_append_drop _ _).symm
   have h5:val s=val (s.take (k+1))*10 ^ (s.drop (k+1)).length+val (s.drop (k+1)):=by
    conv=>lhs; rw [e]
    rw [zb7]
   have:=Nat.le_mul_of_pos_right (val (s.take (k+1))) (Nat.pow_pos (n:=(s.drop (k+1)).length) (show 0<10 by omega))
   omega
  have hdl:=zi9 d1
  have hdx:IntKind.wrap .u64 (IntKind.wrap .u8 ((x.toNat:Int) - 48))=(dv x:Int):=by
   have h8:IntKind.wrap .u8 ((x.toNat:Int) - 48)=(x.toNat:Int) - 48:=IntWalk.u8_in _ (by omega)
   rw [h8,IntWalk.u64_in _ (by omega)]; unfold dv; omega
  rw [zf (by omega),zt,h2,za,hdx,zkg n _ _ hv (by rw [zas]; omega),za,← hvk,zi (by omega)]
  by_cases hf:val (s.take (k+1))<two64
  · simp only [hf,decide_true,Bool.not_true,cond_false,Nat.mod_eq_of_lt hf]
    exact ih (k+1) m h3 (by omega) (by simp at hm; omega) d2 hf
  · simp only [hf,decide_false,Bool.not_false,cond_true]
    rw [if_neg (by omega)]
theorem zi6 (n:Nat) (s:List UInt8):F.zt n s [45]=some (s.drop (p0 s),negD s,()):=by
 unfold F.zt F.zah
 have hp:F.zv n s [45]=some (decide (s.head? = some 45)):=by
  have:=za0 n s 45
  unfold F.zr at this
  cases e:F.zv n s [45] with
  | none=>rw [e] at this; cases this
  | some b=>rw [e] at this; exact this
 rw [hp,za]
 unfold p0 negD
 by_cases h:s.head? = some 45
 · have hl:1≤s.length:=by cases s with | nil=>simp at h | cons=>simp
   have hsub:sub s ((([45]:List UInt8).length:Nat):Int) (s.length:Int)=some (s.drop 1):=by
    have:=zp s 1 s.length hl (Nat.le_refl _)
    rw [List.take_length] at this
    exact this
   rw [decide_eq_true h,Bool.not_true,cond_false,hsub,if_pos h]
   rfl
 · rw [decide_eq_false h,Bool.not_false,cond_true,if_neg h]
   rfl
theorem zlq {a t:List UInt8} (ha:Digs a):Lib.indexByte (a++46::t) 46=(a.length:Int):=by
 induction a with
 | nil=>simp [Lib.indexByte]
 | cons b a ih =>
  obtain ⟨h1,h2⟩:=z8.1 ha
  have hb:¬ b=46:=fun h=>by subst h; simp [isDig] at h1
  have:=ih h2
  simp only [List.cons_append,Lib.indexByte,beq_iff_eq,hb,if_false,this]
  have hne:¬ (a.length:Int) = -1:=by omega
  simp [hne]
theorem znn {a:List UInt8} (ha:Digs a):Lib.indexByte a 46 = -1:=by
 induction a with
 | nil=>rfl
 | cons b a ih =>
  obtain ⟨h1,h2⟩:=z8.1 ha
  have hb:¬ b=46:=fun h=>by subst h; simp [isDig] at h1
  simp [Lib.indexByte,hb,ih h2]
theorem zmj {s:List UInt8} (h:(lookR s).1=0):lookR s=(0,0,())∧aheadD s≠[] ∧
 ((s.drop (p0 s)=aheadD s∧behindD s=[])∨(s.drop (p0 s)=aheadD s++46::behindD s∧behindD s≠[])):=by
 unfold lookR lookQ at h ⊢
 have split:=zki (s.drop (p0 s))
 rw [List.drop_drop] at split
 have hle:=znm (znl s)
 by_cases hp:p0 s<p1q (p0 s) s∧(s.drop (p1q (p0 s) s)).head? = some 46
 · rw [if_pos hp] at h ⊢
   unfold endR at h ⊢
   by_cases h3:p1q (p0 s) s+1<p3q (p0 s) s∧p3q (p0 s) s=s.length
   · rw [if_pos h3]
     refine ⟨rfl,?_,Or.inr ?_⟩
     · intro hh
       have:(tw (s.drop (p0 s))).length=0:=by unfold aheadD at hh; rw [hh]; rfl
       have:=hp.1
       unfold p1q at this
       omega
     · have hb:behindD s=tw (s.drop (p1q (p0 s) s+1)):=by unfold behindD; rw [if_pos hp.2]
       have h2:=zki (s.drop (p1q (p0 s) s+1))
       rw [List.drop_drop] at h2
       have h4:s.drop (p1q (p0 s) s+1+(tw (s.drop (p1q (p0 s) s+1))).length)=[]:=List.drop_eq_nil_of_le (by
        have h5:=h3.2
        unfold p3q at h5
        omega)
       rw [h4,List.append_nil] at h2
       have h5:s.drop (p1q (p0 s) s)=46::s.drop (p1q (p0 s) s+1):=by
        cases e:s.drop (p1q (p0 s) s) with
        | nil=>rw [e] at hp; simp at hp
        | cons c r =>
         rw [e] at hp
         have hc:c=46:=by simpa using hp.2
         subst hc
         obtain ⟨_,_,g3⟩:=zx e
         rw [g3]
       refine ⟨?_,?_⟩
       · rw [split]
         have:s.drop (p0 s+(tw (s.drop (p0 s))).length)=s.drop (p1q (p0 s) s):=rfl
         rw [this,h5,hb,← h2]
         rfl
       · rw [hb]
         intro hh
         have h6:=h3.1
         unfold p3q at h6
         rw [hh] at h6
         simp at h6
   · rw [if_neg h3] at h
     split at h<;>cases h
 · rw [if_neg hp] at h ⊢
   unfold endR at h ⊢
   by_cases h3:p0 s<p1q (p0 s) s∧p1q (p0 s) s=s.length
   · rw [if_pos h3]
     have hd:s.drop (p1q (p0 s) s)=[]:=List.drop_eq_nil_of_le (by omega)
     refine ⟨rfl,?_,Or.inl ⟨?_,?_⟩⟩
     · intro hh
       have:(tw (s.drop (p0 s))).length=0:=by unfold aheadD at hh; rw [hh]; rfl
       have:=h3.1
       unfold p1q at this
       omega
     · have:s.drop (p0 s+(tw (s.drop (p0 s))).length)=s.drop (p1q (p0 s) s):=rfl
       rw [this,hd,List.append_nil] at split
       exact split
     · unfold behindD
       rw [hd]
       simp
   · rw [if_neg h3] at h
     split at h<;>cases h
theorem zfs (s:List UInt8):Digs (behindD s):=by
 unfold behindD
 split
 · exact zc2 _
 · rfl
theorem zpo (n:Nat) {s:List UInt8} (hs:s.length≤10000) (h:(lookR s).1=0):∃ f,F.zx n (s.drop (p0 s)) [46]=some (aheadD s,behindD s,f,()):=by
 obtain ⟨_,_,h3⟩:=zmj h
 unfold F.zx F.zan O.index1
 rcases h3 with ⟨a,b⟩ | ⟨a,b⟩
 · have hi:Lib.indexByte (aheadD s) 46 = -1:=znn (zc2 _)
   rw [a,b]
   simp only [za]
   rw [hi]
   exact ⟨false,rfl⟩
 · have hl:(aheadD s++46::behindD s).length≤10000:=by rw [← a]; simp; omega
   have hl2:(aheadD s).length+((behindD s).length+1)≤10000:=by simpa using hl
   have hi:Lib.indexByte (aheadD s++46::behindD s) 46=((aheadD s).length:Int):=zlq (zc2 _)
   rw [a]
   simp only [za]
   rw [hi]
   have s1:sub (aheadD s++46::behindD s) 0 ((aheadD s).length:Int)=some (aheadD s):=by
    have:=zp (aheadD s++46::behindD s) 0 (aheadD s).length (by omega) (by simp)
    rw [List.drop_zero,List.take_left'] at this
    · exact this
    · rfl
   have hdr:(aheadD s++46::behindD s).drop ((aheadD s).length+1)=behindD s:=by
    rw [List.drop_append,List.drop_eq_nil_of_le (by omega),List.nil_append,show (aheadD s).length+1 - (aheadD s).length=1 from by omega]
    rfl
   have s2:sub (aheadD s++46::behindD s) (((aheadD s).length+1:Nat):Int) ((aheadD s++46::behindD s).length:Int)=some (behindD s):=by
    have:=zp (aheadD s++46::behindD s) ((aheadD s).length+1) (aheadD s++46::behindD s).length (by simp) (Nat.le_refl _)
    rw [List.take_length,hdr] at this
    exact this
   have hw:IntKind.wrap .i64 (((aheadD s).length:Int)+((([46]:List UInt8).length:Nat):Int))=(((aheadD s).length+1:Nat):Int):=zi (by omega)
   rw [zf (by omega),s1,za,hw,s2]
   exact ⟨true,rfl⟩
theorem zkj (n:Nat) {s:List UInt8} (h:s.length≤10000):O.trimR n s [48]=some (trz s):=by
 unfold O.trimR
 have hb:(Nat.blt (48:UInt8).toNat 128&&Nat.ble s.length big47)=true:=by
  rw [Bool.and_eq_true,Nat.ble_eq]
  exact ⟨rfl,by unfold big47; omega⟩
 simp only [hb,cond_true,zpj]
theorem zsb (n:Nat) {s:List UInt8} (h:s.length≤10000):O.trimL n s [48]=some (lz s):=by
 unfold O.trimL
 have hb:(Nat.blt (48:UInt8).toNat 128&&Nat.ble s.length big47)=true:=by
  rw [Bool.and_eq_true,Nat.ble_eq]
  exact ⟨rfl,by unfold big47; omega⟩
 simp only [hb,cond_true]
 rfl
theorem zun (d:List UInt8):trz (trz d)=trz d:=zke (fun x hx=>zdq hx)
theorem zuo (neg:Bool) {d:List UInt8} (hd:Digs d) (e:Int):valR neg (lz d) e=valR neg d e:=zis (zmh hd) hd (zvi d) neg e
theorem zgd (n : Nat) (hn : 200000≤n) (neg:Bool) (d:List UInt8) (hd:Digs d) (hl:d.length≤10000) (E:Int) (hE : -100000≤E∧E≤100000) (ht:trz d=d) (x1 x2 x3 x4 x5 x6:Int) :
 F.zq.L14 n
  (fun e9_b0_0 e9_b0_1 e9_b0_2 e9_b1_0 e9_b1_1 e9_b2_0 e9_b2_1 e9_b3_0 e9_b3_1 e9_b3_2 =>
   (F.zg n (e9_b3_0,e9_b3_1,e9_b3_2,())).bind fun y10 =>
    bif !(y10.2.1==(0:Int)) then
     some (((false,(0:Int),(0:Int),()),(y10.2.1,(0:Int),()),()))
    else
     some (((y10.1.1,y10.1.2.1,y10.1.2.2.1,()),((0:Int),(0:Int),()),()))) n d (d.length:Int) (0:Int) false x1 x2 x3 x4 x5 x6 neg (0:Int) E
 = some (outR (valR neg d E)):=by
 refine (zpn n _ _ d (by omega) false x1 x2 x3 x4 x5 x6 neg E d 0 n rfl (by omega) (by omega) hd (by rw [List.take_zero,zcz,zas]; omega)).trans ?_
 have out:∀ r:DecR,(r.2.1=0∨r.2.1=10∧r.1=(false,0,0,()))→((some r).bind fun y10 =>
  bif !(y10.2.1==(0:Int)) then
   some (((false,(0:Int),(0:Int),()),(y10.2.1,(0:Int),()),()))
  else
   some (((y10.1.1,y10.1.2.1,y10.1.2.2.1,()),((0:Int),(0:Int),()),())))=some (outR r):=by
  intro r hr
  rw [za]
  unfold outR
  rcases hr with h | ⟨h1,h2⟩
  · rw [h,if_pos rfl]; rfl
  · rw [h1,if_neg (by decide)]; rfl
 by_cases hv:val d<two64
 · rw [if_pos hv,zex n (by omega) neg _ hv E (by omega),zis (zc0 _) hd (zc1 _)]
   exact out _ (zpm neg d E)
 · have h19:=zex n (by omega) neg 1 (by decide) (-19) (by omega)
   have hb:=zsa hd (by omega) ht neg E
   rw [if_neg hv,show (1:Int)=((1:Nat):Int) from rfl,h19,hb]
   have e1:valR neg (Lib.decDigits 1) (-19)=((false,0,0,()),10,()):=by
    rw [zaq (zc0 1) (c0:=1) (z:=0) (by decide) (by rw [zc1])]
    unfold normR
    rw [if_pos (by omega)]
   rw [e1]
   exact out _ (Or.inr ⟨rfl,rfl⟩)
theorem zcs (n:Nat) (hn:200000≤n) (s:List UInt8) (hs:s.length≤10000):F.zq n s=some (parseR s):=by
 unfold F.zq
 rw [zum n s (by omega) (by omega),za]
 by_cases h:(lookR s).1=0
 · obtain ⟨h1,h2,h3⟩:=zmj h
   obtain ⟨f,hcut⟩:=zpo n hs h
   have e0:(!((0:Int)==0&&(0:Int)==0))=false:=rfl
   rw [h1]
   simp only [e0,cond_false]
   rw [zi6,za]
   simp only [hcut,za]
   have ha:Digs (aheadD s):=zc2 _
   have hb:=zfs s
   have hlen:(aheadD s).length+(behindD s).length≤10000:=by
    have hd:(s.drop (p0 s)).length≤10000:=by simp; omega
    rcases h3 with ⟨a,b⟩ | ⟨a,b⟩
    · rw [b]; rw [a] at hd; simpa using hd
    · rw [a] at hd; simp at hd; omega
   unfold parseR
   rw [if_pos h]
   generalize aheadD s=a at *
   generalize behindD s=b at *
   have htb:=zpk b
   rw [zkj n (by omega),za,zf (by rw [zim]; omega),zsb n (by simp; omega),za]
   have hab:Digs (a++trz b):=zab.2 ⟨ha,zdp hb⟩
   have hall:=zvq (a++trz b)
   have hallL:(lz (a++trz b)).length≤a.length+(trz b).length:=by simpa using hall
   have hts:=zpk (lz (a++trz b))
   rw [zkj n (by omega),za]
   have hval:valR (negD s) (lz (a++trz b)) (-((trz b).length:Int))=valR (negD s) (a++b) (-(b.length:Int)):=by
    rw [zuo _ hab]
    have hpad:=zb9 b
    conv=>rhs; rw [hpad]
    rw [← List.append_assoc,zcd _ hab]
    congr 1
    simp
    omega
   have hD:=zmh hab
   have hw:IntKind.wrap .i64 (0 - ((trz b).length:Int)) = -((trz b).length:Int):=by rw [ze (by omega)]; omega
   rw [hw]
   by_cases hz:(trz b).length=0
   · have ez:(-((trz b).length:Int)==0)=true:=by simp [hz]
     rw [ez,cond_true]
     by_cases hsh:(trz (lz (a++trz b))).length<(lz (a++trz b)).length
     · have hw2:IntKind.wrap .i64 (((lz (a++trz b)).length:Int) - ((trz (lz (a++trz b))).length:Int))=(((lz (a++trz b)).length - (trz (lz (a++trz b))).length:Nat):Int):=by rw [ze (by omega)]; omega
       rw [zf (by omega),hw2]
       have:=zgd n hn (negD s) _ (zdp hD) (by omega) (((lz (a++trz b)).length - (trz (lz (a++trz b))).length:Nat):Int) (by omega) (zun _) 0 0 0 0 0 0
       refine this.trans ?_
       congr 2
       rw [← hval,hz]
       have hpad:=zb9 (lz (a++trz b))
       conv=>rhs; rw [hpad]
       rw [zcd _ (zdp hD)]
       congr 1
       omega
     · have hq:trz (lz (a++trz b))=lz (a++trz b):=by
        have hpad:=zb9 (lz (a++trz b))
        rw [show (lz (a++trz b)).length - (trz (lz (a++trz b))).length=0 from by omega,List.replicate_zero,List.append_nil] at hpad
        exact hpad.symm
       rw [zg (by omega)]
       have:=zgd n hn (negD s) _ hD (by omega) (-((trz b).length:Int)) (by omega) hq 0 0 0 0 0 0
       refine this.trans ?_
       rw [hval]
   · have ez:(-((trz b).length:Int)==0)=false:=by
      have:¬ (-((trz b).length:Int))=0:=by omega
      simpa using this
     rw [ez,cond_false]
     have hq:trz (lz (a++trz b))=lz (a++trz b):=by
      refine zke fun x hx => ?_
      have hrep:=zkh (a++trz b)
      have hlast:(a++trz b).getLast? = some x:=by
       rw [hrep,List.getLast?_append,hx]; rfl
      rw [List.getLast?_append] at hlast
      cases e:(trz b).getLast? with
      | none=>simp at e; rw [e] at hz; simp at hz
      | some y =>
       rw [e] at hlast
       have hy:y=x:=by simpa using hlast
       rw [← hy]
       exact zdq e
     have:=zgd n hn (negD s) _ hD (by omega) (-((trz b).length:Int)) (by omega) hq 0 0 0 0 0 0
     refine this.trans ?_
     rw [hval]
 · have e:((lookR s).1==0)=false:=by simpa using h
   unfold parseR
   rw [if_neg h,e]
   rfl
end Go.AM
set_option linter.unusedVariables false
set_option linter.unusedSimpArgs false
namespace Go.AM
def checkR (neg:Bool) (c:Nat) (e:Int):Int:=
 if c≠0∧(e < -18∨e>18) then 10 else if (valR neg (Lib.decDigits c) e).2.1=0∧(valR neg (Lib.decDigits c) e).1=(neg,(c:Int),e,()) then 0 else 21
theorem zsc (a b:DecD):((a.1==b.1)&&((a.2.1==b.2.1)&&(a.2.2.1==b.2.2.1)))=decide (a=b):=by
 obtain ⟨a1,a2,a3,_⟩:=a
 obtain ⟨b1,b2,b3,_⟩:=b
 by_cases h:(((a1,a2,a3,()):DecD)=(b1,b2,b3,()))
 · have:a1=b1∧a2=b2∧a3=b3:=by simpa using h
   rw [decide_eq_true h]
   simp [this]
 · rw [decide_eq_false h]
   have:¬ (a1=b1∧a2=b2∧a3=b3):=fun hh=>h (by simp [hh])
   simp only [Bool.and_eq_false_iff,beq_eq_false_iff_ne]
   by_cases g1:a1=b1
   · by_cases g2:a2=b2
     · exact Or.inr (Or.inr fun g3=>this ⟨g1,g2,g3⟩)
     · exact Or.inr (Or.inl g2)
   · exact Or.inl g1
theorem zno (neg:Bool) (c:Nat) (e:Int) (r:DecR) (hr:r=valR neg (Lib.decDigits c) e) :
 (bif !(r.2.1==(0:Int)) then some ((21:Int)) else bif !((r.1.1==neg)&&((r.1.2.1==(c:Int))&&(r.1.2.2.1==e))) then some ((21:Int)) else some ((0:Int)))
  = some (if (valR neg (Lib.decDigits c) e).2.1=0∧(valR neg (Lib.decDigits c) e).1=(neg,(c:Int),e,()) then 0 else 21):=by
 subst hr
 have hb:=zsc (valR neg (Lib.decDigits c) e).1 (neg,(c:Int),e,())
 simp only at hb
 rw [hb]
 by_cases h1:(valR neg (Lib.decDigits c) e).2.1=0
 · have e1:((valR neg (Lib.decDigits c) e).2.1==0)=true:=by simp [h1]
   rw [e1]
   by_cases h2:(valR neg (Lib.decDigits c) e).1=(neg,(c:Int),e,())
   · rw [decide_eq_true h2,if_pos ⟨h1,h2⟩]; rfl
   · rw [decide_eq_false h2,if_neg (fun h=>h2 h.2)]; rfl
 · have e1:((valR neg (Lib.decDigits c) e).2.1==0)=false:=by simpa using h1
   rw [e1,if_neg (fun h=>h1 h.1)]; rfl
theorem zsd (n:Nat) (hn:100≤n) (neg:Bool) (c:Nat) (hc:c<two64) (e:Int) (he : -9223372036854775808≤e∧e≤9223372036854775807):F.zaz n (neg,(c:Int),e,())=some (checkR neg c e):=by
 unfold F.zaz checkR
 simp only [zex n hn neg c hc e he,za]
 have T:=zno neg c e _ rfl
 by_cases h0:c=0
 · have e0:(((c:Int))==0)=true:=by simp [h0]
   rw [e0,if_neg (fun h=>h.1 h0)]
   exact T
 · have e0:(((c:Int))==0)=false:=by simpa using h0
   rw [e0]
   simp only [Bool.not_false,cond_true]
   by_cases h1:e < -18
   · rw [zf h1,if_pos ⟨h0,Or.inl h1⟩]
   · rw [zg h1]
     by_cases h2:e>18
     · rw [zf h2,if_pos ⟨h0,Or.inr h2⟩]
     · rw [zg h2,if_neg (by omega)]
       exact T
end Go.AM
set_option linter.unusedVariables false
set_option linter.unusedSimpArgs false
namespace Go.AM
theorem zse {α:Type} (b:Bool) (u v:α):(bif b then some u else some v)=some (bif b then u else v):=by cases b<;>rfl
def btw (x lo hi:Int):Bool:=decide (lo≤x)&&decide (x≤hi)
def wordI (x:Int):Bool:=btw x 65 90||(btw x 97 122||(x==95||(x==46||(x==45||btw x 48 57))))
def cls (c:Int) (b:UInt8):Bool:=
 bif c==3 then btw b.toNat 33 126&&(!((b.toNat:Int)==44) && !((b.toNat:Int)==124))
 else bif c==2 then ((b.toNat:Int)==47)||wordI b.toNat
 else bif c==1 then wordI b.toNat
 else (c==4)&&btw b.toNat 48 57
def may (c:Int):Bool:=decide (1≤c)&&decide (c≤4)
theorem cls4 (b:UInt8):cls 4 b=isDig b:=by
 unfold cls isDig btw
 simp
 congr 1<;>simp only [decide_eq_decide]<;>omega
theorem zmk (n:Nat) (c:Int):F.zar n c=some (may c):=by
 unfold F.zar may
 by_cases h:1≤c
 · rw [zf (by omega)]; simp [h]
 · rw [zg (by omega)]; simp [h]
theorem znp (n:Nat) (x lo hi:Int):F.zab n x lo hi=some (btw x lo hi):=by
 unfold F.zab btw
 by_cases h:lo≤x
 · rw [zf (by omega)]; simp [h]
 · rw [zg (by omega)]; simp [h]
theorem ztc (n:Nat) (c:Int) (b:UInt8):F.zau n c (b.toNat)=some (cls c b):=by
 unfold F.zau cls wordI
 simp only [znp,za,zse]
 congr 1
 cases c==3<;>cases c==2<;>cases c==1<;>cases c==4<;>generalize hx:(b.toNat:Int)=x<;>clear hx <;>
  (cases btw x 33 126<;>cases x==44<;>cases btw x 65 90<;>cases btw x 97 122<;>cases x==95<;>cases x==46<;>cases x==45<;>cases x==47<;>rfl)
def badK (p:UInt8→Bool):Nat→List UInt8→Int
 | _,[] => -1
 | k,b::l=>if p b then badK p (k+1) l else (k:Int)
theorem zc3 (p:UInt8→Bool) (k:Nat) (l:List UInt8):0≤badK p k l↔¬ l.all p=true:=by
 induction l generalizing k with
 | nil=>simp [badK]
 | cons b l ih =>
  unfold badK
  by_cases h:p b=true
  · rw [if_pos h,ih]; simp [h]
  · rw [if_neg h]; simp [h]
theorem zsf (p:UInt8→Bool) (k:Nat) (l:List UInt8) (h:l.all p=true):badK p k l = -1:=by
 induction l generalizing k with
 | nil=>rfl
 | cons b l ih =>
  simp only [List.all_cons,Bool.and_eq_true] at h
  unfold badK
  rw [if_pos h.1,ih _ h.2]
theorem zup (p:UInt8→Bool) (k:Nat) (l:List UInt8):badK p k l<k+l.length∨badK p k l = -1:=by
 induction l generalizing k with
 | nil=>exact Or.inr rfl
 | cons b l ih =>
  unfold badK
  by_cases hb:p b=true
  · rw [if_pos hb]; have:=ih (k+1); simp; omega
  · rw [if_neg hb]; simp; omega
theorem zkk (n:Nat) (X:Type) (k0:Unit→Option X) (kr:Int→Int→Option X) (c:Int) (s:List UInt8) (hs:s.length<4611686018427387904):∀ (r:List UInt8) (k m:Nat),s.drop k=r→r.length<m →
 F.zz.L4 n k0 kr m c s (s.length:Int) (k:Int)=if 0≤badK (cls c) k r then kr (badK (cls c) k r) 0 else k0 ():=by
 intro r
 induction r with
 | nil =>
  intro k m hk hm
  have:=zz hk
  cases m with
  | zero=>simp at hm
  | succ m =>
   show F.zz.L4.step n _ k0 kr c s _ k=_
   unfold F.zz.L4.step
   rw [zg (by omega)]
   rfl
 | cons x r ih =>
  intro k m hk hm
  obtain ⟨h1,h2,h3⟩:=zx hk
  cases m with
  | zero=>simp at hm
  | succ m =>
   show F.zz.L4.step n (F.zz.L4 n k0 kr m) k0 kr c s _ k=_
   unfold F.zz.L4.step
   rw [zf (by omega),zt,h2,za,ztc,za]
   unfold badK
   by_cases hx:cls c x=true
   · rw [hx,if_pos rfl,zi (by omega),ih (k+1) m h3 (by simp at hm; omega)]
     rfl
   · have hx:cls c x=false:=by simpa using hx
     rw [hx]
     have:¬ (false=true):=by simp
     rw [if_neg this,if_pos (by omega)]
     rfl
theorem zhp (n:Nat) (c:Int) (s:List UInt8) (hs:s.length<4611686018427387904) (hn:s.length<n):F.zz n c s=some (bif may c then (badK (cls c) 0 s,0,()) else (0,1,())):=by
 unfold F.zz
 rw [zmk,za]
 cases hm:may c
 · rfl
 · simp only [Bool.not_true,cond_false]
   refine (zkk n _ _ _ c s hs s 0 n rfl hn).trans ?_
   by_cases h:0≤badK (cls c) 0 s
   · rw [if_pos h]; rfl
   · rw [if_neg h]
     have:s.all (cls c)=true:=Classical.byContradiction fun hh=>h ((zc3 _ _ _).2 hh)
     rw [zsf _ _ _ this]; rfl
def textF (c:Int) (s:List UInt8) (lo hi:Int):Int×Int×Unit:=
 if may c=false∨lo<0∨hi<lo then (1,0,()) else if (s.length:Int)<lo then (13,(s.length:Int),()) else if (s.length:Int)>hi then (12,hi,())
 else if 0≤badK (cls c) 0 s then (14,badK (cls c) 0 s,()) else (0,0,())
theorem zbe (n:Nat) (c:Int) (s:List UInt8) (lo hi:Int) (hs:s.length<4611686018427387904) (hn:s.length<n):F.zaj n c s lo hi=some (textF c s lo hi):=by
 unfold F.zaj textF
 rw [zhp n c s hs hn,za]
 cases hm:may c
 · rw [if_pos (Or.inl rfl)]; rfl
 · simp only [cond_true]
   have e:(!((0:Int)==0))=false:=rfl
   rw [e,cond_false]
   by_cases h1:lo<0
   · rw [zf h1,if_pos (Or.inr (Or.inl h1))]
   · rw [zg h1]
     by_cases h2:hi<lo
     · rw [zf h2,if_pos (Or.inr (Or.inr h2))]
     · rw [zg h2,if_neg (by simp [h1,h2])]
       by_cases h3:(s.length:Int)<lo
       · rw [zf h3,if_pos h3]
       · rw [zg h3,if_neg h3]
         by_cases h4:(s.length:Int)>hi
         · rw [zf h4,if_pos h4]
         · rw [zg h4,if_neg h4]
           by_cases h5:0≤badK (cls c) 0 s
           · rw [zf (by omega),if_pos h5]
           · rw [zg (by omega),if_neg h5]
def bytesOf (c:Int):List UInt8:=
 bif c==1 then [65,66,67,68,69,70,71,72,73,74,75,76,77,78,79,80,81,82,83,84,85,86,87,88,89,90,97,98,99,100,101,102,103,104,105,106,107,108,109,110,111,112,113,114,115,116,117,118,119,120,121,122,48,49,50,51,52,53,54,55,56,57,95,46,45]
 else bif c==2 then [65,66,67,68,69,70,71,72,73,74,75,76,77,78,79,80,81,82,83,84,85,86,87,88,89,90,97,98,99,100,101,102,103,104,105,106,107,108,109,110,111,112,113,114,115,116,117,118,119,120,121,122,48,49,50,51,52,53,54,55,56,57,95,46,45,47]
 else bif c==3 then [65,66,67,68,69,70,71,72,73,74,75,76,77,78,79,80,81,82,83,84,85,86,87,88,89,90,97,98,99,100,101,102,103,104,105,106,107,108,109,110,111,112,113,114,115,116,117,118,119,120,121,122,48,49,50,51,52,53,54,55,56,57,95,46,45,47,33,34,35,36,37,38,39,40,41,42,43,58,59,60,61,62,63,64,91,92,93,94,96,123,125,126]
 else bif c==4 then [48,49,50,51,52,53,54,55,56,57] else []
end Go.AM
set_option linter.unusedVariables false
set_option linter.unusedSimpArgs false
namespace Go.AM
def seg (c:UInt8) (s:List UInt8):List UInt8:=s.takeWhile (· != c)
theorem zat (c b:UInt8) (s:List UInt8):seg c (b::s)=if b=c then [] else b::seg c s:=by
 unfold seg
 by_cases h:b=c
 · subst h; simp [List.takeWhile_cons]
 · simp [List.takeWhile_cons,h]
theorem zak (c:UInt8) (s:List UInt8):(seg c s).length≤s.length:=(List.takeWhile_sublist _).length_le
theorem zml (c:UInt8) (s:List UInt8):Lib.indexByte s c=if c∈s then ((seg c s).length:Int) else -1:=by
 induction s with
 | nil=>simp [Lib.indexByte]
 | cons b s ih =>
  rw [zat]
  simp only [Lib.indexByte,beq_iff_eq,List.mem_cons]
  by_cases h:b=c
  · subst h; simp
  · rw [if_neg h,ih]
    have h':¬ c=b:=fun hh=>h hh.symm
    by_cases hm:c∈s
    · rw [if_pos hm,if_pos (Or.inr hm),if_neg h]
      rw [if_neg (by omega),List.length_cons]
      omega
    · rw [if_neg hm,if_pos rfl,if_neg (by simp [h',hm])]
theorem za9 {c:UInt8} {s:List UInt8} (h:c∉s):seg c s=s:=by
 induction s with
 | nil=>rfl
 | cons b s ih =>
  rw [zat,if_neg (fun hh=>h (by simp [hh])),ih (fun hh=>h (by simp [hh]))]
theorem za1 {c:UInt8} {s:List UInt8} (h:c∈s):(seg c s).length<s.length:=by
 induction s with
 | nil=>simp at h
 | cons b s ih =>
  rw [zat]
  by_cases hb:b=c
  · rw [if_pos hb]; simp
  · rw [if_neg hb]
    have:c∈s:=by
     rcases List.mem_cons.1 h with rfl | h
     · exact absurd rfl hb
     · exact h
    have:=ih this
    simp
    omega
theorem zkl (c:UInt8) (s:List UInt8):s.take (seg c s).length=seg c s:=by
 induction s with
 | nil=>rfl
 | cons b s ih =>
  rw [zat]
  by_cases hb:b=c
  · rw [if_pos hb]; rfl
  · rw [if_neg hb]; simp [ih]
theorem zbo (n:Nat) (c:UInt8) {s:List UInt8} (hs:s.length≤1000000):F.zx n s [c]=some (seg c s,(if c∈s then s.drop ((seg c s).length+1) else []),decide (c∈s),()):=by
 unfold F.zx F.zan O.index1
 simp only [za]
 rw [zml]
 by_cases h:c∈s
 · have hl:=za1 h
   have s1:sub s 0 ((seg c s).length:Int)=some (seg c s):=by
    have:=zp s 0 (seg c s).length (by omega) (by omega)
    rw [List.drop_zero,zkl] at this
    exact this
   have s2:sub s (((seg c s).length+1:Nat):Int) (s.length:Int)=some (s.drop ((seg c s).length+1)):=by
    have:=zp s ((seg c s).length+1) s.length (by omega) (Nat.le_refl _)
    rw [List.take_length] at this
    exact this
   have hw:IntKind.wrap .i64 (((seg c s).length:Int)+((([c]:List UInt8).length:Nat):Int))=(((seg c s).length+1:Nat):Int):=zi (by omega)
   simp only [h,if_true,decide_true]
   rw [zf (by omega),s1,za,hw,s2]
   rfl
 · simp only [h,if_false,decide_false]
   rw [zg (by omega),za9 h]
   rfl
theorem zaj {s:List UInt8} {p:Nat} (h:p≤s.length):sub s (p:Int) (s.length:Int)=some (s.drop p):=by
 have:=zp s p s.length h (Nat.le_refl _)
 rw [List.take_length] at this
 exact this
def nextP (c:UInt8) (s:List UInt8) (p:Nat):Nat:=p+(seg c (s.drop p)).length+(if c∈s.drop p then 1 else 0)
theorem zge {c:UInt8} {s:List UInt8} {p:Nat} (h:p≤s.length):nextP c s p≤s.length:=by
 unfold nextP
 by_cases hm:c∈s.drop p
 · have:=za1 hm
   simp at this
   rw [if_pos hm]; omega
 · have:=zak c (s.drop p)
   simp at this
   rw [if_neg hm]; omega
theorem zb0 {s:List UInt8} (h:(parseR s).2.1.1=0):(parseR s).2.1.2.1=0:=by
 unfold parseR outR badR at h ⊢
 split
 · rename_i h1
   rw [if_pos h1] at h
   split
   · rfl
   · rename_i h2
     rw [if_neg h2] at h
     first | done | exact absurd h h2
 · rename_i h1
   rw [if_neg h1] at h
   exact absurd h h1
theorem zkm {c:Int} {s:List UInt8} {lo hi:Int} (h:(textF c s lo hi).1=0):(textF c s lo hi).2.1=0:=by
 unfold textF at h ⊢
 by_cases h1:may c=false∨lo<0∨hi<lo
 · rw [if_pos h1]
 rw [if_neg h1] at h ⊢
 by_cases h2:(s.length:Int)<lo
 · rw [if_pos h2] at h; cases h
 rw [if_neg h2] at h ⊢
 by_cases h3:(s.length:Int)>hi
 · rw [if_pos h3] at h; cases h
 rw [if_neg h3] at h ⊢
 by_cases h4:0≤badK (cls c) 0 s
 · rw [if_pos h4] at h; cases h
 rw [if_neg h4]
abbrev MetD:=List UInt8×Int×List (Bool×Int×Int)×Int×List (List UInt8×List UInt8)×Int×Unit
abbrev MetR:=MetD×FaultR×Unit
end Go.AM
set_option linter.unusedVariables false
set_option linter.unusedSimpArgs false
namespace Go.AM
end Go.AM
set_option linter.unusedVariables false
set_option linter.unusedSimpArgs false
namespace Go.AM
end Go.AM
set_option linter.unusedVariables false
set_option linter.unusedSimpArgs false
namespace Go.AM
abbrev DecL:=Bool×Int×Int
abbrev TagL:=List UInt8×List UInt8
def DecLOK (d:DecL):Prop:=True∧(0≤d.2.1∧d.2.1≤18446744073709551615) ∧ -9223372036854775808≤d.2.2∧d.2.2≤9223372036854775807
def decC (d:DecL):Int:=checkR d.1 d.2.1.toNat d.2.2
def nameOK (s:List UInt8):Bool:=(textF 1 s 1 200).1==0
def tagGood (t:TagL):Bool:=((textF 2 t.1 1 64).1==0)&&((textF 3 t.2 0 100).1==0)
theorem zdr (c:Int) (s:List UInt8) (lo hi:Int):(((textF c s lo hi).1==0)&&((textF c s lo hi).2.1==0))=((textF c s lo hi).1==0):=by
 by_cases h:(textF c s lo hi).1=0
 · rw [h,zkm h]; rfl
 · rw [beq_eq_false_iff_ne.2 h]; rfl
def TagLOK (t:TagL):Prop:=t.1.length≤10000∧t.2.length≤10000
theorem zuq (n:Nat) (hn:200000≤n) {t:TagL} (h:TagLOK t):F.za1 n (t.1,t.2,())=some (bif tagGood t then 0 else 19):=by
 obtain ⟨h1,h2⟩:=h
 unfold F.za1 tagGood
 simp only [zbe n 2 t.1 1 64 (by omega) (by omega),zbe n 3 t.2 0 100 (by omega) (by omega),za,zdr]
 cases ((textF 2 t.1 1 64).1==0)<;>cases ((textF 3 t.2 0 100).1==0)<;>rfl
def kindB (k:Int):Bool:=decide (1≤k)&&decide (k≤5)
def valsB (vs:List DecL):Bool:=decide (1≤vs.length)&&(decide (vs.length≤64)&&vs.all fun d=>decC d==0)
def rateB (k r:Int):Bool:=decide (1≤r)&&(decide (r≤1000000)&&(!(k==2)||r==1000000))
def tagsB (ts:List TagL):Bool:=decide (ts.length≤32)&&ts.all tagGood
def timeB (t:Int):Bool:=decide (0≤t)&&decide (t≤1099511627776)
def chkM (m:MetD):Int:=
 bif !nameOK m.1 then 15 else bif !kindB m.2.1 then 16 else bif !valsB m.2.2.1 then 17 else bif !rateB m.2.1 m.2.2.2.1 then 18 else bif !tagsB m.2.2.2.2.1 then 19 else bif !timeB m.2.2.2.2.2.1 then 20 else 0
def MetOK (m:MetD):Prop:=m.1.length≤10000∧(m.2.2.1.length≤10000∧∀ d∈m.2.2.1,DecLOK d)∧(m.2.2.2.2.1.length≤10000∧∀ t∈m.2.2.2.2.1,TagLOK t)
end Go.AM
set_option linter.unusedVariables false
set_option linter.unusedSimpArgs false
namespace Go.AM
theorem zit (s:List UInt8):nameOK s=(s.all (cls 1)&&(decide (1≤s.length)&&decide (s.length≤200))):=by
 unfold nameOK textF
 rw [if_neg (by simp [may])]
 by_cases h1:(s.length:Int)<1
 · rw [if_pos h1]
   have:decide (1≤s.length)=false:=decide_eq_false (by omega)
   rw [this]; simp
 rw [if_neg h1]
 have e1:decide (1≤s.length)=true:=decide_eq_true (by omega)
 by_cases h2:(s.length:Int)>200
 · rw [if_pos h2]
   have:decide (s.length≤200)=false:=decide_eq_false (by omega)
   rw [this]; simp
 rw [if_neg h2]
 have e2:decide (s.length≤200)=true:=decide_eq_true (by omega)
 rw [e1,e2]
 by_cases h3:0≤badK (cls 1) 0 s
 · rw [if_pos h3]
   have:s.all (cls 1)=false:=by
    have:=(zc3 (cls 1) 0 s).1 h3
    simpa using this
   rw [this]; rfl
 · rw [if_neg h3]
   have:s.all (cls 1)=true:=Classical.byContradiction fun hh=>h3 ((zc3 _ _ _).2 hh)
   rw [this]; rfl
end Go.AM
set_option linter.unusedVariables false
set_option linter.unusedSimpArgs false
namespace Go.AM
end Go.AM
set_option linter.unusedVariables false
set_option linter.unusedSimpArgs false
namespace Go.AM
end Go.AM
set_option linter.unusedVariables false
set_option linter.unusedSimpArgs false
namespace Go.AM
end Go.AM
set_option linter.unusedVariables false
set_option linter.unusedSimpArgs false
namespace Go.AM
theorem zgf {m:MetD} (h:chkM m=0):nameOK m.1=true∧kindB m.2.1=true∧valsB m.2.2.1=true∧rateB m.2.1 m.2.2.2.1=true∧tagsB m.2.2.2.2.1=true∧timeB m.2.2.2.2.2.1=true:=by
 unfold chkM at h
 revert h
 cases nameOK m.1<;>cases kindB m.2.1<;>cases valsB m.2.2.1<;>cases rateB m.2.1 m.2.2.2.1<;>cases tagsB m.2.2.2.2.1<;>cases timeB m.2.2.2.2.2.1<;>simp
end Go.AM
set_option linter.unusedVariables false
set_option linter.unusedSimpArgs false
namespace Go.AM
end Go.AM
set_option linter.unusedVariables false
set_option linter.unusedSimpArgs false
namespace Go.AM
abbrev NumR:=Int×(Int×Int×Unit)×Unit
def numR (v c at':Int):NumR:=(v,(c,at',()),())
theorem zsg:cls 4=isDig:=funext cls4
theorem zsh (n:Nat) (c a:Int):F.z8 n c a=some (0,(c,a,()),()):=rfl
theorem zbu {s:List UInt8} {k:Nat} (h:¬ 0≤badK isDig k s):Digs s:=Classical.byContradiction fun hh=>h ((zc3 _ _ _).2 hh)
theorem textF4 (s:List UInt8) (hs:s.length<4611686018427387904):textF 4 s 1 (IntKind.wrap .i64 ((s.length:Int)+1))=if s=[] then (13,0,()) else if 0≤badK isDig 0 s then (14,badK isDig 0 s,()) else (0,0,()):=by
 unfold textF
 rw [zi hs,zsg]
 have hm:may 4=true:=rfl
 rw [if_neg (by simp [hm]; omega)]
 cases s with
 | nil=>rfl
 | cons b s =>
  rw [if_neg (show ¬ (((b::s).length:Nat):Int)<1 from by simp; omega),if_neg (show ¬ (((b::s).length:Nat):Int)>(((b::s).length+1:Nat):Int) from by omega),if_neg (show ¬ (b::s=[]) from by simp)]
end Go.AM
set_option linter.unusedVariables false
set_option linter.unusedSimpArgs false
namespace Go.AM
def pad6 (k:Nat):List UInt8:=(Lib.decDigits (1000000+k)).drop 1
theorem zsi {k:Nat} (h:k<1000000):Lib.decDigits (1000000+k)=49::pad6 k∧(pad6 k).length=6∧Digs (pad6 k)∧val (pad6 k)=k:=by
 have hN:(Lib.decDigits (1000000+k)).length=7:=by rw [zpg]; exact Lib.nDigits_unique 6 _ (by omega) (by omega)
 have hd:=zc0 (1000000+k)
 have hv:=zc1 (1000000+k)
 unfold pad6
 cases e:Lib.decDigits (1000000+k) with
 | nil=>rw [e] at hN; simp at hN
 | cons b r =>
  rw [e] at hN hd hv
  have hr:r.length=6:=by simpa using hN
  obtain ⟨d1,d2⟩:=z8.1 hd
  have:=zew d2
  rw [hr] at this
  rw [zar,hr] at hv
  have hb:dv b=1:=by omega
  have:b=49:=zg3 d1 rfl hb
  subst this
  refine ⟨rfl,hr,d2,?_⟩
  show val r=k
  omega
def rateText (k:Int):List UInt8×Int×Unit:=
 if k<1∨k>1000000 then ([],10,()) else if k=1000000 then ([49],0,()) else ([48,46]++trz (pad6 k.toNat),0,())
def rateR (s:List UInt8):NumR:=
 if s=[49] then numR 1000000 0 0 else if s=[] then numR 0 13 0 else if s.head? ≠ some 48 then numR 0 11 0 else if (s.drop 1).head? ≠ some 46 then numR 0 11 1
 else if s.drop 2=[] then numR 0 13 2 else if 0≤badK isDig 0 (s.drop 2) then numR 0 14 (2+badK isDig 0 (s.drop 2)) else if 6<(s.drop 2).length then numR 0 12 8
 else if val (s.drop 2)=0 then numR 0 10 0 else numR ((val (s.drop 2)*10 ^ (6 - (s.drop 2).length):Nat):Int) 0 0
theorem zhq (n:Nat) (X:Type) (k3:Int→Int→Int→Int→Int→Int→Int→Option X) (d:List UInt8) (hd:Digs d) (hl:d.length≤6) (a b c e f g:Int):∀ (j i m:Nat),i+j=6→j<m →
 F.zl.L23 n k3 m d (i:Int) a b c e f g (val ((d++List.replicate (6 - d.length) 48).take i):Int)=k3 a b c e f g ((val d*10 ^ (6 - d.length):Nat):Int):=by
 have hD:Digs (d++List.replicate (6 - d.length) 48):=zab.2 ⟨hd,zdn _⟩
 have hL:(d++List.replicate (6 - d.length) (48:UInt8)).length=6:=by simp; omega
 intro j
 induction j with
 | zero =>
  intro i m hi hm
  cases m with
  | zero=>omega
  | succ m =>
   show F.zl.L23.step n _ k3 d _ _ _ _ _ _ _ _=_
   unfold F.zl.L23.step
   rw [zg (by omega),List.take_of_length_le (by omega),zag]
 | succ j ih =>
  intro i m hi hm
  cases m with
  | zero=>omega
  | succ m =>
   show F.zl.L23.step n (F.zl.L23 n k3 m) k3 d _ _ _ _ _ _ _ _=_
   unfold F.zl.L23.step
   rw [zf (by omega),zi (by omega)]
   have hb:val ((d++List.replicate (6 - d.length) 48).take i)<10 ^ i:=by
    have:=zew (zpd i hD)
    rw [List.length_take,hL,Nat.min_eq_left (by omega)] at this
    exact this
   have hp:(10:Nat) ^ i≤10 ^ 6:=Nat.pow_le_pow_right (by omega) (by omega)
   have hstep:∀ x,(d++List.replicate (6 - d.length) (48:UInt8))[i]? = some x→val ((d++List.replicate (6 - d.length) 48).take (i+1))=val ((d++List.replicate (6 - d.length) 48).take i)*10+dv x:=by
    intro x hx
    rw [List.take_add_one,hx]
    exact zdo _ _
   by_cases hlt:i<d.length
   · have hx:(d++List.replicate (6 - d.length) (48:UInt8))[i]? = d[i]?:=List.getElem?_append_left hlt
     rw [zf (by omega),za7 hlt,za]
     have hg:d[i]? = some d[i]:=by simp [hlt]
     have hdx:=List.all_eq_true.1 hd d[i] (List.getElem_mem hlt)
     have hdi:=zam.1 hdx
     have hv:=hstep d[i] (hx.trans hg)
     have hdl:=zi9 hdx
     have h8:IntKind.wrap .i64 (IntKind.wrap .u8 ((d[i].toNat:Int) - 48))=(dv d[i]:Int):=by
      rw [IntWalk.u8_in _ (by omega),ze (by omega)]; unfold dv; omega
     rw [h8,ze (x:=10*_) (by omega),ze (by omega),show 10*(val ((d++List.replicate (6 - d.length) (48:UInt8)).take i):Int)+(dv d[i]:Int)=(val ((d++List.replicate (6 - d.length) (48:UInt8)).take (i+1)):Int) from by omega]
     exact ih (i+1) m (by omega) (by omega)
   · have hx:(d++List.replicate (6 - d.length) (48:UInt8))[i]? = some 48:=by
      rw [List.getElem?_append_right (by omega),List.getElem?_replicate,if_pos (by omega)]
     have hv:=hstep 48 hx
     rw [zs9] at hv
     rw [zg (by omega),ze (x:=10*_) (by omega),ze (by omega),show 10*(val ((d++List.replicate (6 - d.length) (48:UInt8)).take i):Int)+0=(val ((d++List.replicate (6 - d.length) (48:UInt8)).take (i+1)):Int) from by omega]
     exact ih (i+1) m (by omega) (by omega)
theorem zhr (n:Nat) (X:Type) (k0:List UInt8→Int→Int→Int→Int→Option X) (s:List UInt8) (m:Nat) (hm:3≤m) :
 F.zl.L5 n k0 m s (48,46,()) 0 0 0 0 0=if s=[] then k0 s 0 0 13 0 else if s.head? ≠ some 48 then k0 s 0 0 11 0 else if (s.drop 1).head? ≠ some 46 then k0 s 0 0 11 1 else k0 s 0 0 0 0:=by
 obtain ⟨m,rfl⟩:∃ q,m=q+3:=⟨m - 3,by omega⟩
 show F.zl.L5.step n (F.zl.L5 n k0 (m+2)) k0 s _ _ _ _ _ _=_
 have hb:∀ (b c:UInt8),((b.toNat:Int)==(c.toNat:Int))=decide (b=c):=by
  intro b c
  by_cases h:b=c
  · simp [h]
  · have:¬ (b.toNat:Int)=(c.toNat:Int):=fun hh=>h (zkc (by omega))
    simp [h,this]
 cases s with
 | nil=>rfl
 | cons b r =>
  have e48:((b.toNat:Int)==48)=decide (b=48):=hb b 48
  unfold F.zl.L5.step
  have a1:decide ((0:Int)<2)=true:=rfl
  have a2:((0:Int)==0)=true:=rfl
  have a3:((0:Int)==(((b::r).length:Nat):Int))=false:=by
   have:¬ (0:Int)=(((b::r).length:Nat):Int):=by simp; omega
   simpa using this
  have a4:decide ((0:Int)≥(((b::r).length:Nat):Int))=false:=by
   have:¬ (0:Int)≥(((b::r).length:Nat):Int):=by simp only [List.length_cons]; omega
   exact decide_eq_false this
  have a5:idx (b::r) (0:Int)=some b:=rfl
  rw [a1,a2,a3,a4,a5,cond_true,cond_true,cond_false,cond_false,za,e48]
  by_cases h1:b=48
  · subst h1
    simp only [decide_true,Bool.not_true,cond_false]
    show F.zl.L5.step n (F.zl.L5 n k0 (m+1)) k0 _ _ 1 _ _ _ _=_
    unfold F.zl.L5.step
    have c1:decide ((1:Int)<2)=true:=rfl
    have c2:((1:Int)==0)=false:=rfl
    have c3:((1:Int)==1)=true:=rfl
    rw [c1,c2,c3,cond_true,cond_false,cond_true]
    cases r with
    | nil=>rfl
    | cons c r =>
     have e46:((c.toNat:Int)==46)=decide (c=46):=hb c 46
     have b3:((1:Int)==(((48::c::r).length:Nat):Int))=false:=by
      have:¬ (1:Int)=(((48::c::r).length:Nat):Int):=by simp; omega
      simpa using this
     have b4:decide ((1:Int)≥(((48::c::r).length:Nat):Int))=false:=by
      have:¬ (1:Int)≥(((48::c::r).length:Nat):Int):=by simp; omega
      simpa using this
     have b5:idx (48::c::r) (1:Int)=some c:=rfl
     rw [b3,b4,b5,cond_false,cond_false,za,e46]
     by_cases h2:c=46
     · subst h2
       rfl
     · simp [h2]
  · simp [h1]
theorem zkn (n : Nat) (hn:100≤n) (s:List UInt8) (hs:s.length≤1000000) (hl:s.length<n):F.zl n s=some (rateR s):=by
 unfold F.zl rateR
 by_cases h1:s=[49]
 · rw [if_pos h1,h1]; rfl
 have e1:(s==[49])=false:=by simpa using h1
 rw [e1,cond_false,if_neg h1,zhr n _ _ s n (by omega)]
 by_cases h2:s=[]
 · rw [if_pos h2,if_pos h2]; rfl
 rw [if_neg h2,if_neg h2]
 by_cases h3:s.head? ≠ some 48
 · rw [if_pos h3,if_pos h3]; rfl
 rw [if_neg h3,if_neg h3]
 by_cases h4:(s.drop 1).head? ≠ some 46
 · rw [if_pos h4,if_pos h4]; rfl
 rw [if_neg h4,if_neg h4]
 have e2:(!((0:Int)==0&&(0:Int)==0))=false:=rfl
 simp only [e2,cond_false]
 have hlen:2≤s.length:=by
  cases s with
  | nil=>exact absurd rfl h2
  | cons b r=>cases r with
   | nil=>simp at h4
   | cons=>simp
 have hsub:sub s 2 (s.length:Int)=some (s.drop 2):=by
  have:=zp s 2 s.length hlen (Nat.le_refl _)
  rw [List.take_length] at this
  exact this
 have hdl:(s.drop 2).length+2=s.length:=by simp; omega
 rw [hsub,za,zbe n 4 _ _ _ (by omega) (by omega),za,textF4 _ (by omega)]
 generalize s.drop 2=d at hdl ⊢
 by_cases h5:d=[]
 · rw [if_pos h5,if_pos h5]; rfl
 rw [if_neg h5,if_neg h5]
 by_cases h6:0≤badK isDig 0 d
 · rw [if_pos h6,if_pos h6]
   have:=zup isDig 0 d
   have e:(!((14:Int)==0&&badK isDig 0 d==0))=true:=rfl
   simp only [e,cond_true,zsh,za]
   rw [ze (by omega)]
   rfl
 rw [if_neg h6,if_neg h6]
 simp only [e2,cond_false]
 have hd:=zbu h6
 by_cases h7:6<d.length
 · rw [zf (by omega),if_pos h7]; rfl
 rw [zg (by omega),if_neg h7]
 have:=zhq n _ (fun e12_b0_0 e12_b0_1 e12_b1_0 e12_b1_1 e12_b2_0 e12_b2_1 e12_b3_0 =>
  bif e12_b3_0==(0:Int) then
   (F.z8 n (10:Int) (0:Int)).bind fun y13 =>
    some ((y13.1,(y13.2.1.1,y13.2.1.2.1,()),()))
  else
   some ((e12_b3_0,((0:Int),(0:Int),()),()))) d hd (by omega) 0 0 0 0 0 0 6 0 n (by omega) (by omega)
 refine this.trans ?_
 have hpp:0<10 ^ (6 - d.length):=Nat.pow_pos (by omega)
 by_cases h8:val d=0
 · rw [if_pos h8,h8,Nat.zero_mul]; rfl
 · rw [if_neg h8]
   have:¬ ((val d*10 ^ (6 - d.length):Nat):Int)=0:=by
    have:=Nat.mul_pos (Nat.pos_of_ne_zero h8) hpp
    omega
   have e:(((val d*10 ^ (6 - d.length):Nat):Int)==0)=false:=by simpa using this
   rw [e,cond_false]
   rfl
end Go.AM
set_option linter.unusedVariables false
set_option linter.unusedSimpArgs false
namespace Go.AM
theorem zpp (d:List UInt8):rateR (48::46::d)=if d=[] then numR 0 13 2 else if 0≤badK isDig 0 d then numR 0 14 (2+badK isDig 0 d) else if 6<d.length then numR 0 12 8
 else if val d=0 then numR 0 10 0 else numR ((val d*10 ^ (6 - d.length):Nat):Int) 0 0:=by
 unfold rateR
 rw [if_neg (by simp),if_neg (by simp),if_neg (by simp),if_neg (by simp)]
 rfl
theorem zi7 {k:Int} (hk:1≤k∧k<1000000):rateText k=(48::46::trz (pad6 k.toNat),0,()):=by
 unfold rateText
 rw [if_neg (by omega),if_neg (by omega)]; rfl
theorem zhs {s:List UInt8} (h:(rateR s).2.1.1=0):(rateR s).2.1.2.1=0∧1≤(rateR s).1∧(rateR s).1≤1000000∧(rateText (rateR s).1).2.1=0 ∧
 ∃ a j,s=a++List.replicate j 48∧(rateText (rateR s).1).1=a∧a≠[]∧(∀ x,a.getLast? = some x→x≠48):=by
 by_cases h1:s=[49]
 · subst h1
   exact ⟨rfl,by decide,by decide,rfl,[49],0,rfl,rfl,by simp,by simp⟩
 have e:=h
 unfold rateR at e
 rw [if_neg h1] at e
 by_cases h2:s=[]
 · rw [if_pos h2] at e; cases e
 rw [if_neg h2] at e
 by_cases h3:s.head? ≠ some 48
 · rw [if_pos h3] at e; cases e
 rw [if_neg h3] at e
 by_cases h4:(s.drop 1).head? ≠ some 46
 · rw [if_pos h4] at e; cases e
 clear e
 obtain ⟨d,rfl⟩:∃ d,s=48::46::d:=by
  cases s with
  | nil=>exact absurd rfl h2
  | cons b r=>cases r with
   | nil=>simp at h4
   | cons c r =>
    simp at h3 h4
    exact ⟨r,by rw [h3,h4]⟩
 rw [zpp] at h ⊢
 by_cases g1:d=[]
 · rw [if_pos g1] at h; cases h
 rw [if_neg g1] at h ⊢
 by_cases g2:0≤badK isDig 0 d
 · rw [if_pos g2] at h; cases h
 rw [if_neg g2] at h ⊢
 by_cases g3:6<d.length
 · rw [if_pos g3] at h; cases h
 rw [if_neg g3] at h ⊢
 by_cases g4:val d=0
 · rw [if_pos g4] at h; cases h
 rw [if_neg g4]
 have hd:=zbu g2
 have hp:0<10 ^ (6 - d.length):=Nat.pow_pos (by omega)
 have hpos:=Nat.mul_pos (Nat.pos_of_ne_zero g4) hp
 have hub:val d*10 ^ (6 - d.length)<1000000:=by
  have h5:=zew (zab.2 ⟨hd,zdn (6 - d.length)⟩)
  rw [zag,List.length_append,List.length_replicate,show d.length+(6 - d.length)=6 from by omega] at h5
  exact h5
 have hk:1≤((val d*10 ^ (6 - d.length):Nat):Int)∧((val d*10 ^ (6 - d.length):Nat):Int)<1000000:=by omega
 have hf:=zi7 hk
 obtain ⟨p1,p2,p3,p4⟩:=zsi hub
 have hpd:pad6 (val d*10 ^ (6 - d.length))=d++List.replicate (6 - d.length) 48:=
  zuk p3 (zab.2 ⟨hd,zdn _⟩) (by simp; omega) (by rw [p4,zag])
 have ht:trz (pad6 (val d*10 ^ (6 - d.length)))=trz d:=by rw [hpd,zio]
 have hne:trz d≠[]:=fun hh=>g4 ((zmg hd).1 hh)
 show (0:Int)=0∧_∧_∧(rateText ((val d*10 ^ (6 - d.length):Nat):Int)).2.1=0∧∃ a j,_∧(rateText ((val d*10 ^ (6 - d.length):Nat):Int)).1=a∧_
 rw [hf]
 refine ⟨rfl,hk.1,by show ((val d*10 ^ (6 - d.length):Nat):Int)≤1000000; omega,rfl,48::46::trz d,d.length - (trz d).length,?_,?_,by simp,?_⟩
 · rw [List.cons_append,List.cons_append,← zb9]
 · show 48::46::trz (pad6 (val d*10 ^ (6 - d.length)))=_
   rw [ht]
 · intro x hx
   refine zdq (l:=d) ?_
   rw [← hx]
   cases e:trz d with
   | nil=>exact absurd e hne
   | cons b r=>simp [List.getLast?_cons]
end Go.AM
set_option linter.unusedVariables false
set_option linter.unusedSimpArgs false
namespace Go.AM
def kindOf (s:List UInt8):Int:=if s=[99] then 1 else if s=[103] then 2 else if s=[109,115] then 3 else if s=[104] then 4 else 0
def sdKindR (s:List UInt8):Int×Int×Unit:=if kindOf s=0 then (0,16,()) else (kindOf s,0,())
theorem zbk (n m:Nat) {X:Type} (k0:Unit→Option X) (kr:Int→Int→Option X) (s:List UInt8) (v:Int):F.zo.L2 n k0 kr (m+1) s v=F.zo.L2.step n (F.zo.L2 n k0 kr m) k0 kr s v:=rfl
theorem zc5 (n:Nat) {X:Type} (rec:List UInt8→Int→Option X) (k0:Unit→Option X) (kr:Int→Int→Option X) (s:List UInt8) (v:Int) (h:v≤5) (h1:1≤v):F.zo.L2.step n rec k0 kr s v=if v≤4∧wordL v=s then kr v 0 else rec s (v+1):=by
 unfold F.zo.L2.step
 rw [zf h]
 simp only [O.word,za]
 rw [ze (by omega)]
 by_cases h4:v≤4
 · have hE:wordE v=0:=by unfold wordE; rw [if_pos (by omega)]
   rw [hE]
   by_cases hs:wordL v=s
   · rw [if_pos ⟨h4,hs⟩,hs]; simp
   · rw [if_neg (fun hh=>hs hh.2),beq_eq_false_iff_ne.2 hs]; rfl
 · have hE:wordE v=16:=by unfold wordE; rw [if_neg (by omega)]
   rw [hE,if_neg (fun hh=>h4 hh.1)]; rfl
theorem zpq (n:Nat) (hn:10≤n) (s:List UInt8):F.zo n s=some (sdKindR s):=by
 unfold F.zo
 obtain ⟨m,hm⟩:∃ q,n=q+6:=⟨n - 6,by omega⟩
 have key:∀ (X:Type) (k0:Unit→Option X) (kr:Int→Int→Option X),F.zo.L2 n k0 kr (m+6) s 1=if kindOf s=0 then k0 () else kr (kindOf s) 0:=by
  intro X k0 kr
  rw [zbk n (m+5),zc5 n _ _ _ _ _ (by omega) (by omega)]
  unfold kindOf
  have w1:wordL 1=[99]:=rfl
  have w2:wordL 2=[103]:=rfl
  have w3:wordL 3=[109,115]:=rfl
  have w4:wordL 4=[104]:=rfl
  by_cases h1:s=[99]
  · rw [if_pos ⟨by omega,by rw [h1]; rfl⟩,if_pos h1]; rfl
  rw [if_neg (fun h=>h1 (by rw [← h.2]; rfl)),if_neg h1,zbk n (m+4),zc5 n _ _ _ _ _ (by omega) (by omega)]
  by_cases h2:s=[103]
  · rw [if_pos ⟨by omega,by rw [h2]; rfl⟩,if_pos h2]; rfl
  rw [if_neg (fun h=>h2 (by rw [← h.2]; rfl)),if_neg h2,zbk n (m+3),zc5 n _ _ _ _ _ (by omega) (by omega)]
  by_cases h3:s=[109,115]
  · rw [if_pos ⟨by omega,by rw [h3]; rfl⟩,if_pos h3]; rfl
  rw [if_neg (fun h=>h3 (by rw [← h.2]; rfl)),if_neg h3,zbk n (m+2),zc5 n _ _ _ _ _ (by omega) (by omega)]
  by_cases h4:s=[104]
  · rw [if_pos ⟨by omega,by rw [h4]; rfl⟩,if_pos h4]; rfl
  rw [if_neg (fun h=>h4 (by rw [← h.2]; rfl)),if_neg h4,zbk n (m+1),zc5 n _ _ _ _ _ (by omega) (by omega),if_neg (fun h=>by have:=h.1; omega),zbk n m]
  unfold F.zo.L2.step
  rw [zg (by omega)]
  rfl
 rw [← hm] at key
 rw [key]
 unfold sdKindR
 by_cases h:kindOf s=0
 · rw [if_pos h,if_pos h]
 · rw [if_neg h,if_neg h]
end Go.AM
set_option linter.unusedVariables false
set_option linter.unusedSimpArgs false
namespace Go.AM
abbrev KRS (X:Type):=List UInt8→List UInt8→Int→List (Bool×Int×Int)→Int→List (List UInt8×List UInt8)→Int→Int→Int→Option X
section
variable {X:Type} (n:Nat) (kr:KRS X)
def badK' (kr:KRS X) (s:List UInt8) (c a:Int):Option X:=kr s [] 0 [] 0 [] 0 c a
theorem zpr (c9:Bool) (s:List UInt8) (b10:List UInt8) (b11:Int) (b12:List (Bool×Int×Int)) (b13:Int) (b14:List (List UInt8×List UInt8)) (b15 b20 b21 b3:Int) (d0:List UInt8) (d1:Int) (d2:List (Bool×Int×Int)) (d3:Int) (d4:List (List UInt8×List UInt8)) (d5:Int) (k0 k1 k2 k3:Nat) :
 F.ze.C31 n kr c9 s b10 b11 b12 b13 b14 b15 b20 b21 b3 d0 d1 d2 d3 d4 d5 k0 k1 k2 k3=if c9=true then badK' kr s 11 (IntKind.wrap .i64 (b3 - 1)) else kr s d0 d1 d2 d3 d4 d5 0 0:=by
 cases c9<;>rfl
theorem zps (hn:100≤n) (c9:Bool) (kind:Int) (rate:List UInt8) (hr:rate.length≤10000) (hl:rate.length<n) (at':Int) (s:List UInt8) (b10:List UInt8) (b11:Int) (b12:List (Bool×Int×Int)) (b13:Int) (b14:List (List UInt8×List UInt8)) (b15 b20 b21 b3:Int) (d0:List UInt8) (d1:Int) (d2:List (Bool×Int×Int)) (d3:Int) (d4:List (List UInt8×List UInt8)) (d5:Int) (e0:Bool) (e1 e2 f0 f1:Int) (k0 k1 k2 k3:Nat) :
 F.ze.C28 n kr c9 kind rate at' s b10 b11 b12 b13 b14 b15 b20 b21 b3 d0 d1 d2 d3 d4 d5 e0 e1 e2 f0 f1 k0 k1 k2 k3 =
  if ¬ (rateR rate).2.1.1=0∨(kind=2∧¬ (rateR rate).1=1000000) then badK' kr s 18 at' else if c9=true then badK' kr s 11 (IntKind.wrap .i64 (b3 - 1)) else kr s d0 d1 d2 (rateR rate).1 d4 d5 0 0:=by
 unfold F.ze.C28
 rw [zkn n hn rate (by omega) hl,za]
 have c30:∀ (kn:Bool→List UInt8→List UInt8→Int→List (Bool×Int×Int)→Int→List (List UInt8×List UInt8)→Int→Int→Int→Int→List UInt8→Int→List (Bool×Int×Int)→Int→List (List UInt8×List UInt8)→Int→Nat→Nat→Nat→Nat→Option X) (t:Bool) (r:Int),F.ze.C30 n kr kn c9 at' t s b10 b11 b12 b13 b14 b15 b20 b21 b3 d0 d1 d2 r d4 d5 k0 k1 k2 k3=if t=true then badK' kr s 18 at' else kn c9 s b10 b11 b12 b13 b14 b15 b20 b21 b3 d0 d1 d2 r d4 d5 k0 k1 k2 k3:=by
  intro kn t r
  cases t<;>rfl
 by_cases h0:(rateR rate).2.1.1=0
 · have h1:=(zhs h0).1
   have e:(!((rateR rate).2.1.1==0&&(rateR rate).2.1.2.1==0))=false:=by rw [h0,h1]; rfl
   rw [e,cond_false]
   by_cases hk:kind=2
   · have ek:(kind==2)=true:=by simp [hk]
     rw [ek,cond_true]
     refine (c30 _ _ _).trans ?_
     by_cases hr1:(rateR rate).1=1000000
     · have e2:(!((rateR rate).1==1000000))=false:=by simp [hr1]
       rw [e2,if_neg (by simp),if_neg (by simp [h0,hr1])]
       exact zpr n kr c9 s b10 b11 b12 b13 b14 b15 b20 b21 b3 d0 d1 d2 _ d4 d5 k0 k1 k2 k3
     · have e2:(!((rateR rate).1==1000000))=true:=by simpa using hr1
       rw [e2,if_pos rfl,if_pos (Or.inr ⟨hk,hr1⟩)]
   · have ek:(kind==2)=false:=by simpa using hk
     rw [ek,cond_false]
     refine (c30 _ _ _).trans ?_
     rw [if_neg (by simp),if_neg (by simp [h0,hk])]
     exact zpr n kr c9 s b10 b11 b12 b13 b14 b15 b20 b21 b3 d0 d1 d2 _ d4 d5 k0 k1 k2 k3
 · have e:(!((rateR rate).2.1.1==0&&(rateR rate).2.1.2.1==0))=true:=by
    have:((rateR rate).2.1.1==0)=false:=by simpa using h0
    rw [this]; rfl
   rw [e,cond_true]
   refine (c30 _ _ _).trans ?_
   rw [if_pos rfl,if_pos (Or.inl h0)]
def rateS (kr:KRS X) (s name:List UInt8) (kind:Int) (v:List (Bool×Int×Int)) (r0:Int) (tags:List (List UInt8×List UInt8)) (time:Int) (is3:Bool) (p:Nat):Option X:=
 if is3=false then kr s name kind v r0 tags time 0 0
 else if ¬ (s.drop p).head? = some 64 then badK' kr s 11 p
 else if ¬ (rateR (seg 124 (s.drop (p+1)))).2.1.1=0∨(kind=2∧¬ (rateR (seg 124 (s.drop (p+1)))).1=1000000) then badK' kr s 18 ((p+1:Nat):Int)
 else if 124∈s.drop (p+1) then badK' kr s 11 ((p+1+(seg 124 (s.drop (p+1))).length:Nat):Int) else kr s name kind v (rateR (seg 124 (s.drop (p+1)))).1 tags time 0 0
theorem zpt (hn:20000≤n) (name:List UInt8) (is3:Bool) (kind:Int) (s:List UInt8) (hs:s.length≤10000) (b10:List UInt8) (b11:Int) (b12:List (Bool×Int×Int)) (b13:Int) (b14:List (List UInt8×List UInt8)) (b15 b20 b21:Int) (p:Nat) (hp:p≤s.length) (d0:List UInt8) (d1:Int) (d2:List (Bool×Int×Int)) (d3:Int) (d4:List (List UInt8×List UInt8)) (d5:Int) (e0:Bool) (e1 e2 f0 f1:Int) (k0 k1 k2 k3:Nat) :
 F.ze.C21 n kr name is3 kind s b10 b11 b12 b13 b14 b15 b20 b21 (p:Int) d0 d1 d2 d3 d4 d5 e0 e1 e2 f0 f1 k0 k1 k2 k3=rateS kr s name kind [(e0,e1,e2)] d3 d4 d5 is3 p:=by
 unfold F.ze.C21 rateS
 cases is3
 · rfl
 · rw [Bool.not_true,cond_false,if_neg (by simp),zaj hp,za,za0,za]
   by_cases h64:(s.drop p).head? = some 64
   · have hlt:=zmi h64
     have hsl:=zak 124 (s.drop (p+1))
     have hdl:(s.drop (p+1)).length=s.length - (p+1):=by simp
     rw [decide_eq_true h64,Bool.not_true,cond_false,if_neg (fun h=>h h64),zi (by omega),zaj (by omega),za,zbo n 124 (by omega),za]
     have w1:IntKind.wrap .i64 (((p+1:Nat):Int)+((seg 124 (s.drop (p+1))).length:Int))=((p+1+(seg 124 (s.drop (p+1))).length:Nat):Int):=by rw [ze (by omega)]; omega
     simp only [w1]
     by_cases hm:124∈s.drop (p+1)
     · simp only [hm,decide_true,cond_true,if_true]
       rw [zi (by omega)]
       refine (zps n kr (by omega) true kind _ (by omega) (by omega) _ s b10 b11 b12 b13 b14 b15 b20 b21 _ name kind [(e0,e1,e2)] d3 d4 d5 e0 e1 e2 f0 f1 k0 k1 1 k3).trans ?_
       rw [if_pos rfl,ze (by omega)]
       congr 2
       omega
     · simp only [hm,decide_false,cond_false,if_false]
       exact (zps n kr (by omega) false kind _ (by omega) (by omega) _ s b10 b11 b12 b13 b14 b15 b20 b21 _ name kind [(e0,e1,e2)] d3 d4 d5 e0 e1 e2 f0 f1 k0 k1 1 k3)
   · rw [decide_eq_false h64,Bool.not_false,cond_true,if_pos h64]
     rfl
def kindS (kr:KRS X) (s name:List UInt8) (word value:List UInt8) (av aw:Int) (v:List (Bool×Int×Int)) (r0:Int) (tags:List (List UInt8×List UInt8)) (time:Int) (is3:Bool) (p:Nat):Option X:=
 if kindOf word=0 then badK' kr s 16 aw else if kindOf word=2∧value.head? = some 45 then badK' kr s 26 av else rateS kr s name (kindOf word) v r0 tags time is3 p
theorem zpu (hn:20000≤n) (name:List UInt8) (is3:Bool) (value:List UInt8) (av:Int) (word:List UInt8) (aw:Int) (s:List UInt8) (hs:s.length≤10000) (b10:List UInt8) (b11:Int) (b12:List (Bool×Int×Int)) (b13:Int) (b14:List (List UInt8×List UInt8)) (b15 b20 b21:Int) (p:Nat) (hp:p≤s.length) (d0:List UInt8) (d1:Int) (d2:List (Bool×Int×Int)) (d3:Int) (d4:List (List UInt8×List UInt8)) (d5:Int) (e0:Bool) (e1 e2 f0 f1:Int) (k0 k1 k2 k3:Nat) :
 F.ze.C16 n kr name is3 value av word aw s b10 b11 b12 b13 b14 b15 b20 b21 (p:Int) d0 d1 d2 d3 d4 d5 e0 e1 e2 f0 f1 k0 k1 k2 k3=kindS kr s name word value av aw [(e0,e1,e2)] d3 d4 d5 is3 p:=by
 unfold F.ze.C16 kindS
 rw [zpq n (by omega),za]
 unfold sdKindR
 by_cases h0:kindOf word=0
 · rw [if_pos h0,if_pos h0]; rfl
 · have e0':(!((0:Int)==0))=false:=rfl
   rw [if_neg h0,if_neg h0]
   simp only [e0',cond_false]
   by_cases h2:kindOf word=2
   · have e2':(kindOf word==2)=true:=by simp [h2]
     rw [e2',cond_true,za0,za]
     by_cases h45:value.head? = some 45
     · rw [decide_eq_true h45,cond_true,if_pos ⟨h2,h45⟩]; rfl
     · rw [decide_eq_false h45,cond_false,if_neg (fun h=>h45 h.2)]
       exact zpt n kr hn name is3 _ s hs b10 b11 b12 b13 b14 b15 b20 b21 p hp d0 d1 d2 d3 d4 d5 e0 e1 e2 f0 f1 k0 k1 k2 k3
   · have e2':(kindOf word==2)=false:=by simpa using h2
     rw [e2',cond_false,if_neg (fun h=>h2 h.1)]
     exact zpt n kr hn name is3 _ s hs b10 b11 b12 b13 b14 b15 b20 b21 p hp d0 d1 d2 d3 d4 d5 e0 e1 e2 f0 f1 k0 k1 k2 k3
def valueS (kr:KRS X) (s name:List UInt8) (value:List UInt8) (av:Nat) (r0:Int) (tags:List (List UInt8×List UInt8)) (time:Int) (is2:Bool) (p:Nat):Option X:=
 if ¬ (parseR value).2.1.1=0 then badK' kr s 17 av else if is2=false then badK' kr s 11 s.length
 else kindS kr s name (seg 124 (s.drop p)) value av p [((parseR value).1.1,(parseR value).1.2.1,(parseR value).1.2.2.1)] r0 tags time (decide (124∈s.drop p)) (nextP 124 s p)
theorem zpv (hn:200000≤n) (name:List UInt8) (is2:Bool) (value:List UInt8) (hv:value.length≤10000) (av:Nat) (s:List UInt8) (hs:s.length≤10000) (b10:List UInt8) (b11:Int) (b12:List (Bool×Int×Int)) (b13:Int) (b14:List (List UInt8×List UInt8)) (b15 b20 b21:Int) (p:Nat) (hp:p≤s.length) (d0:List UInt8) (d1:Int) (d2:List (Bool×Int×Int)) (d3:Int) (d4:List (List UInt8×List UInt8)) (d5:Int) (k0 k1 k2 k3:Nat) :
 F.ze.C10 n kr name is2 value (av:Int) s b10 b11 b12 b13 b14 b15 b20 b21 (p:Int) d0 d1 d2 d3 d4 d5 k0 k1 k2 k3=valueS kr s name value av d3 d4 d5 is2 p:=by
 unfold F.ze.C10 valueS
 rw [zcs n hn value hv,za]
 by_cases h0:(parseR value).2.1.1=0
 · have e:(!((parseR value).2.1.1==0&&(parseR value).2.1.2.1==0))=false:=by rw [h0,zb0 h0]; rfl
   rw [e,cond_false,if_neg (fun h=>h h0)]
   cases is2
   · rfl
   · have hsl:=zak 124 (s.drop p)
     have hdl:(s.drop p).length=s.length - p:=by simp
     have hnl:=zge (c:=124) hp
     rw [Bool.not_true,cond_false,if_neg (by simp),zaj hp,za,zbo n 124 (by omega),za]
     have w1:IntKind.wrap .i64 ((p:Int)+((seg 124 (s.drop p)).length:Int))=((p+(seg 124 (s.drop p)).length:Nat):Int):=by rw [ze (by omega)]; omega
     simp only [w1]
     by_cases hm:124∈s.drop p
     · have hq:nextP 124 s p=p+(seg 124 (s.drop p)).length+1:=by unfold nextP; rw [if_pos hm]
       simp only [hm,decide_true,cond_true]
       rw [zi (by omega),← hq]
       exact zpu n kr (by omega) name true value _ _ _ s hs b10 b11 b12 b13 b14 b15 b20 b21 _ hnl d0 d1 d2 d3 d4 d5 _ _ _ _ _ k0 k1 k2 k3
     · have hq:nextP 124 s p=p+(seg 124 (s.drop p)).length:=by unfold nextP; rw [if_neg hm]; rfl
       simp only [hm,decide_false,cond_false]
       rw [← hq]
       exact zpu n kr (by omega) name false value _ _ _ s hs b10 b11 b12 b13 b14 b15 b20 b21 _ hnl d0 d1 d2 d3 d4 d5 _ _ _ _ _ k0 k1 k2 k3
 · have e:(!((parseR value).2.1.1==0&&(parseR value).2.1.2.1==0))=true:=by
    have:((parseR value).2.1.1==0)=false:=by simpa using h0
    rw [this]; rfl
   rw [e,cond_true,if_pos h0]
   rfl
def nameS (kr:KRS X) (s name:List UInt8) (r0:Int) (tags:List (List UInt8×List UInt8)) (time:Int) (is1:Bool) (p:Nat):Option X:=
 if ¬ (textF 1 name 1 200).1=0 then badK' kr s 15 0 else if is1=false then badK' kr s 11 s.length
 else valueS kr s name (seg 124 (s.drop p)) p r0 tags time (decide (124∈s.drop p)) (nextP 124 s p)
theorem ztd (hn:200000≤n) (name:List UInt8) (hnl:name.length≤10000) (is1:Bool) (s:List UInt8) (hs:s.length≤10000) (b10:List UInt8) (b11:Int) (b12:List (Bool×Int×Int)) (b13:Int) (b14:List (List UInt8×List UInt8)) (b15 b20 b21:Int) (p:Nat) (hp:p≤s.length) (d0:List UInt8) (d1:Int) (d2:List (Bool×Int×Int)) (d3:Int) (d4:List (List UInt8×List UInt8)) (d5:Int) (k0 k1 k2 k3:Nat) :
 F.ze.C5 n kr name is1 s b10 b11 b12 b13 b14 b15 b20 b21 (p:Int) d0 d1 d2 d3 d4 d5 k0 k1 k2 k3=nameS kr s name d3 d4 d5 is1 p:=by
 unfold F.ze.C5 nameS
 rw [zbe n 1 name 1 200 (by omega) (by omega),za]
 by_cases h0:(textF 1 name 1 200).1=0
 · have e:(!((textF 1 name 1 200).1==0&&(textF 1 name 1 200).2.1==0))=false:=by rw [h0,zkm h0]; rfl
   rw [e,cond_false,if_neg (fun h=>h h0)]
   cases is1
   · rfl
   · have hsl:=zak 124 (s.drop p)
     have hdl:(s.drop p).length=s.length - p:=by simp
     have hnx:=zge (c:=124) hp
     rw [Bool.not_true,cond_false,if_neg (by simp),zaj hp,za,zbo n 124 (by omega),za]
     have w1:IntKind.wrap .i64 ((p:Int)+((seg 124 (s.drop p)).length:Int))=((p+(seg 124 (s.drop p)).length:Nat):Int):=by rw [ze (by omega)]; omega
     simp only [w1]
     by_cases hm:124∈s.drop p
     · have hq:nextP 124 s p=p+(seg 124 (s.drop p)).length+1:=by unfold nextP; rw [if_pos hm]
       simp only [hm,decide_true,cond_true]
       rw [zi (by omega),← hq]
       exact zpv n kr hn name true _ (by omega) p s hs b10 b11 b12 b13 b14 b15 b20 b21 _ hnx d0 d1 d2 d3 d4 d5 k0 k1 k2 k3
     · have hq:nextP 124 s p=p+(seg 124 (s.drop p)).length:=by unfold nextP; rw [if_neg hm]; rfl
       simp only [hm,decide_false,cond_false]
       rw [← hq]
       exact zpv n kr hn name false _ (by omega) p s hs b10 b11 b12 b13 b14 b15 b20 b21 _ hnx d0 d1 d2 d3 d4 d5 k0 k1 k2 k3
 · have e:(!((textF 1 name 1 200).1==0&&(textF 1 name 1 200).2.1==0))=true:=by
    have:((textF 1 name 1 200).1==0)=false:=by simpa using h0
    rw [this]; rfl
   rw [e,cond_true,if_pos h0]
   rfl
end
def finK:KRS MetR:=fun _ a b c d e f x y=>some ((a,b,c,d,e,f,()),(x,y,()),())
def sdParse (s:List UInt8):Option MetR:=nameS finK s (seg 58 s) 1000000 [] 0 (decide (58∈s)) (nextP 58 s 0)
theorem znq (n:Nat) (hn:200000≤n) (s:List UInt8) (hs:s.length≤10000):F.ze n s=sdParse s:=by
 unfold F.ze sdParse
 have h0:sub s (0:Int) (s.length:Int)=some s:=zaj (s:=s) (p:=0) (Nat.zero_le _)
 have hsl:=zak 58 s
 have hnx:=zge (c:=58) (s:=s) (p:=0) (Nat.zero_le _)
 rw [h0,za,zbo n 58 (by omega),za]
 have w1:IntKind.wrap .i64 ((0:Int)+((seg 58 s).length:Int))=(((seg 58 s).length:Nat):Int):=by rw [ze (by omega)]; omega
 simp only [w1]
 by_cases hm:58∈s
 · have hq:nextP 58 s 0=(seg 58 s).length+1:=by unfold nextP; rw [List.drop_zero,if_pos hm]; omega
   simp only [hm,decide_true,cond_true]
   rw [zi (by omega),← hq]
   exact ztd n finK hn _ (by omega) true s hs _ _ _ _ _ _ _ _ _ hnx _ _ _ _ _ _ _ _ _ _
 · have hq:nextP 58 s 0=(seg 58 s).length:=by unfold nextP; rw [List.drop_zero,if_neg hm]; omega
   simp only [hm,decide_false,cond_false]
   rw [← hq]
   exact ztd n finK hn _ (by omega) false s hs _ _ _ _ _ _ _ _ _ hnx _ _ _ _ _ _ _ _ _ _
end Go.AM
set_option linter.unusedVariables false
set_option linter.unusedSimpArgs false
namespace Go.AM
end Go.AM
set_option linter.unusedVariables false
set_option linter.unusedSimpArgs false
namespace Go.AM
end Go.AM
set_option linter.unusedVariables false
set_option linter.unusedSimpArgs false
namespace Go.AM
end Go.AM
set_option linter.unusedVariables false
set_option linter.unusedSimpArgs false
namespace Go.AM
end Go.AM
set_option linter.unusedVariables false
set_option linter.unusedSimpArgs false
namespace Go.AM
section
variable {X:Type} (n:Nat) (kr:KRS X)
end
end Go.AM
set_option linter.unusedVariables false
set_option linter.unusedSimpArgs false
namespace Go.AM
theorem ze7 {c:UInt8} {a:List UInt8} (h:c∉a) (t:List UInt8):seg c (a++c::t)=a:=by
 induction a with
 | nil=>show seg c (c::t)=[]; rw [zat,if_pos rfl]
 | cons b a ih =>
  show seg c (b::(a++c::t))=_
  rw [zat,if_neg (fun hh=>h (by simp [hh])),ih (fun hh=>h (by simp [hh]))]
theorem zbl {c:UInt8} {s:List UInt8} (h:c∈s):s=seg c s++c::s.drop ((seg c s).length+1):=by
 induction s with
 | nil=>simp at h
 | cons b s ih =>
  rw [zat]
  by_cases hb:b=c
  · rw [if_pos hb,hb]; rfl
  · rw [if_neg hb]
    have hm:c∈s:=by
     rcases List.mem_cons.1 h with h | h
     · exact absurd h.symm hb
     · exact h
    have:=ih hm
    simp only [List.length_cons,List.drop_succ_cons,List.cons_append]
    rw [← this]
theorem zds (c:UInt8) (s:List UInt8):c∉seg c s:=by
 induction s with
 | nil=>simp [seg]
 | cons b s ih =>
  rw [zat]
  by_cases hb:b=c
  · rw [if_pos hb]; simp
  · rw [if_neg hb]
    intro hm
    rcases List.mem_cons.1 hm with h | h
    · exact hb h.symm
    · exact ih h
theorem zey {c:UInt8} {s a t:List UInt8} {p:Nat} (hs:s.drop p=a++c::t) (h:c∉a):nextP c s p=p+a.length+1∧s.drop (p+a.length+1)=t:=by
 constructor
 · unfold nextP
   rw [hs,ze7 h,if_pos (by simp)]
 · rw [Nat.add_assoc,← List.drop_drop,hs]
   simp
theorem zpw {c:UInt8} {s a:List UInt8} {p:Nat} (hs:s.drop p=a) (h:c∉a):nextP c s p=p+a.length:=by
 unfold nextP
 rw [hs,if_neg h,za9 h]; omega
theorem zpx {s:List UInt8} (h:nameOK s=true):(58:UInt8)∉s:=by
 rw [zit] at h
 simp only [Bool.and_eq_true,List.all_eq_true] at h
 intro hm
 have:=h.1 58 hm
 revert this
 decide
abbrev badM (c a:Int):MetR:=(([],0,[],0,[],0,()),(c,a,()),())
end Go.AM
set_option linter.unusedVariables false
set_option linter.unusedSimpArgs false
namespace Go.AM
theorem zlr (s:List UInt8):((parseR s).2.1.1≠0∧(parseR s).1=(false,0,0,())∧0≤(parseR s).2.1.2.1∧(parseR s).2.1.2.1≤s.length) ∨
 (∃ (neg:Bool) (c:Nat) (e:Int),parseR s=((neg,(c:Int),e,()),(0,0,()),())∧c<two64∧(-9223372036854775808≤e∧e≤9223372036854775807)∧checkR neg c e=0):=by
 unfold parseR
 by_cases h:(lookR s).1=0
 · rw [if_pos h]
   have hD:Digs (aheadD s++behindD s):=zab.2 ⟨zc2 _,zfs s⟩
   generalize aheadD s++behindD s=d at hD
   generalize (-((behindD s).length:Int))=E
   generalize negD s=neg
   by_cases hv:val d=0
   · refine Or.inr ⟨false,0,0,?_,by decide,by omega,?_⟩
     · have:valR neg d E=zeroD:=by unfold valR; rw [if_pos hv]
       rw [this]; rfl
     · have d0:Lib.decDigits 0=[48]:=zgb (by omega)
       unfold checkR
       rw [d0]; rfl
   · obtain ⟨c0,z,h1,h2⟩:=zcn (val d) (by omega)
     rw [zaq hD h2 h1]
     generalize E+(z:Int)=Y
     by_cases hY:Y < -18
     · refine Or.inl ?_
       have:normR neg c0 Y=((false,0,0,()),10,()):=by unfold normR; rw [if_pos hY]
       rw [this]
       exact ⟨by decide,rfl,by decide,by show (0:Int)≤s.length; omega⟩
     · by_cases hf:c0*10 ^ (Y - 18).toNat<two64
       · have e1:normR neg c0 Y=((neg,((c0*10 ^ (Y - 18).toNat:Nat):Int),(if Y≤18 then Y else 18),()),0,()):=by unfold normR; rw [if_neg hY,if_pos hf]
         rw [e1]
         have hE : -18≤(if Y≤18 then Y else 18)∧(if Y≤18 then Y else 18)≤18:=by split<;>omega
         refine Or.inr ⟨neg,c0*10 ^ (Y - 18).toNat,(if Y≤18 then Y else 18),rfl,hf,by omega,?_⟩
         unfold checkR
         rw [if_neg (by omega),zaq (zc0 _) h2 (zc1 _)]
         have e2:(if Y≤18 then Y else 18)+(((Y - 18).toNat:Nat):Int)=Y:=by split<;>omega
         rw [e2,e1,if_pos ⟨rfl,rfl⟩]
       · refine Or.inl ?_
         have:normR neg c0 Y=((false,0,0,()),10,()):=by unfold normR; rw [if_neg hY,if_neg hf]
         rw [this]
         exact ⟨by decide,rfl,by decide,by show (0:Int)≤s.length; omega⟩
 · rw [if_neg h]
   refine Or.inl ⟨h,rfl,?_⟩
   show 0≤(lookR s).2.1∧(lookR s).2.1≤s.length
   have endle:∀ (r:Prop) [Decidable r] (a l:Nat),a≤l→0≤(endR r a l).2.1∧(endR r a l).2.1≤(l:Int):=by
    intro r _ a l hl
    unfold endR
    split
    · show (0:Int)≤0∧(0:Int)≤l; omega
    · split
      · show (0:Int)≤a∧(a:Int)≤l; omega
      · show (0:Int)≤a∧(a:Int)≤l; omega
   unfold lookR lookQ
   split
   · rename_i hp
     exact endle _ _ _ (zvr hp.2)
   · exact endle _ _ _ (znm (znl s))
end Go.AM
