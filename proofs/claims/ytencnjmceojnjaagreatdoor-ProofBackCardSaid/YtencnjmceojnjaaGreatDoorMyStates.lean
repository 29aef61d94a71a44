/- A part of the proof that ProofBack returns true. -/
import Derived.Test.YtencnjmceojnjaaGreatDoorMyTab
import Derived.Test.YtencnjmceojnjaaGreatDoorMyEv4
set_option linter.all false
namespace Go.Ev
open Go.Proofs Go.Proofs.Tryz
set_option maxRecDepth 100000
noncomputable def I:pz:={ wait:=147,load:=279,cas:=292,G6:=219,acq:=215,wrt:=218 }
def xY(f:Func)(p:List Nat):Array Oper:=match iQ f p with | .region _ o _=>o|_=>#[]
abbrev mX(s t:List UInt8):Int:=Extern.BytealgCompare.cmp ⟨s.toArray⟩ ⟨t.toArray⟩
abbrev Fe:Prop:=Fits Tryz.prog E
abbrev Ge:Prop:=eU Tryz.prog E
abbrev Fw(old:Old):Prop:=Fits Tryz.prog (E.wo old)
abbrev Gw(old:Old):Prop:=eU Tryz.prog (E.wo old)
abbrev DS(old:Old):=DoesS Tryz.prog (E.wo old)
abbrev DR(old:Old):=Does Tryz.prog (E.wo old)
abbrev DC(old:Old):=DoesC Tryz.prog (E.wo old)
noncomputable def out:List FuncId:=[4,12,41,85]
noncomputable def u0:Tr AO:=(zO .e (zO (zO (zO (zL (.map [] 0)) .e) .e) .e))
noncomputable def u1:Tr AO:=(zO (zO .e (zO (zO (zL (.map [] 0)) .e) .e)) .e)
noncomputable def u2:Tr AO:=(zO .e (zL (zG [zI 1,zI 1,.str []] 101)))
noncomputable def u3:Tr AO:=(zO .e (zL (zC [zI 1,zI 1,.str []] 101)))
noncomputable def u4:Tr AO:=(zL (zC [.str [112],.sl 12 0 1 (some 1)] 24))
noncomputable def u5:Tr AO:=(zO (zO (zO (zL (zC [.str [113]] 9)) .e) .e) .e)
noncomputable def u6:Tr AO:=(zO (zO (zO (zL (zG [zP 1826 0] 295)) .e) .e) .e)
noncomputable def u7:AO:=(zC [.sl 3 0 2 (some 2),.sl 9 0 1 (some 1)] 46)
noncomputable def u8:Tr AO:=(zO .e (zO .e (zL (zC [.str [113],zI 0] 106))))
noncomputable def u9:Tr AO:=(zL (zC [.int .u64 4294967296,.int .u32 0] 283))
noncomputable def u10:Tr AO:=(zO .e (zL (zG [.str [112],.sl 295 0 1 none] 24)))
noncomputable def u11:Tr AO:=(zO (zL (.map [⟨.int .u16 1,.map 2196,0⟩] 1)) .e)
noncomputable def u12:Tr AO:=(zO (zO (zL (zG [.str [112],.str [113]] 9)) .e) .e)
noncomputable def u13:Tr AO:=(zO (zL (zG [zI 1,zI 0,.aQ,.str []] 348)) .e)
noncomputable def QB:AO:=(zC [zI 1,.str [88],zI 0,zI 0,.str []] 221)
noncomputable def u15:Tr AO:=(zO (zO (zL (zG [zI 1,zI 1,.str []] 101)) .e) .e)
noncomputable def u16:Tr AO:=(zO .e u5)
noncomputable def u17:Tr AO:=(zO (zO (zO .e (zO .e (zL (zC [zP 911 0] 107)))) .e) .e)
noncomputable def u18:Tr AO:=(zO (zO (zO (zL .dead) .e) .e) (zO .e (zL (zG [zI 1] 3))))
noncomputable def u19:Tr AO:=(zO .e (zO (zO .e (zO .e (zO (zL (zG [zI 0] 3)) .e))) .e))
noncomputable def u20:Tr AO:=(zL (zG [zI 1,.str [88],zI 0,zI 0,.str []] 221))
noncomputable def u21:Tr AO:=(zL (zC [.str [113],.sl 251 0 1 none,zI 0,zI 0] 92))
noncomputable def u22:Tr AO:=(zO .e (zO .e (zL (zC [.str [112],.sl 295 0 1 none] 24))))
noncomputable def u23:Tr AO:=(zO (zO .e u6) .e)
noncomputable def u24:Tr AO:=(zO (zO u8 .e) .e)
noncomputable def u25:Tr AO:=(zO .e (zO (zO (zL (zG [.str [112],.sl 295 0 1 none] 24)) .e) .e))
noncomputable def u26:Tr AO:=(zO (zO (zL (.map [] 0)) (zO (zO (zL (zG [.str [88]] 9)) .e) .e)) .e)
noncomputable def u27:Tr AO:=(zO (zO (zO .e (zO .e (zL (zC [.sl 1846 0 1 (some 1)] 277)))) .e) .e)
noncomputable def u28:Tr AO:=(zO (zO u11 .e) .e)
noncomputable def u29:Tr AO:=(zO .e (zO u15 .e))
noncomputable def u30:Tr AO:=(zO .e (zO (zO u4 .e) .e))
noncomputable def u31:Tr AO:=(zO (zO .e (zO .e (zL (zC [.sl 1825 0 1 none,zI 0,zI 0] 297)))) .e)
noncomputable def u32:Tr AO:=(zO .e u23)
noncomputable def u33:Tr AO:=(zL (.map [⟨.str [112],zP 279 0,0⟩,⟨.str [113],zP 286 0,1⟩] 2))
noncomputable def u34:Tr AO:=(zO (zO u20 .e) .e)
noncomputable def u35:Tr AO:=(zO (zO .e (zO .e (zL (.map [⟨.str [112],.sl 1461 0 1 none,0⟩] 1)))) .e)
noncomputable def u36:Tr AO:=(zO (zO u21 .e) .e)
noncomputable def u37:Tr AO:=(zO .e u26)
noncomputable def u38:AO:=(zC [.str [113],.sl 5 0 1 (some 1),.sl 8 0 1 (some 1),zI 0,zI 0] 123)
noncomputable def u39:Tr AO:=(zO (zO (zL (zG [zI 1,zI (-1),.aQ,.sl 1170 0 1 none,.aQ] 197)) .e) .e)
noncomputable def u40:Tr AO:=(zO u35 .e)
noncomputable def u41:Tr AO:=(zO .e (zO (zO .e (zO .e (zO u2 .e))) .e))
noncomputable def u42:Tr AO:=(zO (zO (zO .e (zO .e u15)) .e) .e)
noncomputable def u43:Tr AO:=(zO (zO u33 .e) .e)
noncomputable def u44:Tr AO:=(zO (zO .e (zO .e (zO (zL (zG [zI 1,zI 0,.sl 1446 0 1 none,.str []] 348)) .e))) .e)
noncomputable def u45:Tr AO:=(zO (zO (zO .e (zO .e (zN (zL (zG [.str [88]] 9)) (zC [zI 0,zI 0,zI 0] 83) .e))) .e) .e)
noncomputable def u46:Tr AO:=(zO (zO (zO (zL (zG [.str [113],.sl 258 0 1 none,.sl 271 0 1 none,zI 0,zI 0] 123)) .e) .e) .e)
noncomputable def u47:Tr AO:=(zO (zO (zL (zC [zI 1,.map 280,.map 281,.int .i32 0,.int .u32 0,.aQ,.map 282] 172)) .e) .e)
noncomputable def u48:Tr AO:=(zO (zO (zL (zC [zI 1,.map 287,.map 288,.int .i32 0,.int .u32 0,.aQ,.map 289] 172)) .e) .e)
noncomputable def u49:AO:=(zC [.str [112],.sl 1 0 1 (some 1),zI 0,zI 0,.str [113],.sl 2 0 1 (some 1),zI 0,zI 0] 92)
noncomputable def u50:Tr AO:=(zL (zG [.str [112],.sl 246 0 1 none,zI 0,zI 0,.str [113],.sl 251 0 1 none,zI 0,zI 0] 92))
noncomputable def u51:Tr AO:=(zO u24 (zO (zO (zO (zL (.map [] 0)) .e) .e) .e))
noncomputable def u52:Tr AO:=(zO u48 .e)
noncomputable def u53:Tr AO:=(zO .e (zO u36 (zO .e (zL (zG [zI 1] 3)))))
noncomputable def u54:Tr AO:=(zO (zO (zL (zC [zI 1,.map 280,.map 281,.int .i32 0,.int .u32 0,.sl 2203 0 1 none,.map 282] 172)) .e) .e)
noncomputable def u55:Tr AO:=(zO u19 u18)
noncomputable def u56:Tr AO:=(zO .e u52)
noncomputable def u57:Tr AO:=(zO .e (zO (zL (zG [.sl 263 0 1 none,.sl 1183 0 1 none,zI 1,zI (-1),.sl 1416 0 1 none,.sl 1455 0 1 none] 210)) .e))
noncomputable def u58:Tr AO:=(zO (zO (zO .e (zO .e (zL (zC [zI 1,zI (-1),.sl 1416 0 1 none,.sl 1455 0 1 none,.sl 1833 0 1 (some 1)] 197)))) .e) .e)
noncomputable def u59:Tr AO:=(zO u54 .e)
noncomputable def u60:Tr AO:=(zO .e u58)
noncomputable def u61:Tr AO:=(zO (zO (zO (zL (zC [.sl 253 0 2 none,.sl 273 0 1 none,.sl 285 0 2 none,.map 274,.sl 292 0 1 (some 1),zI 1] 90)) .e) .e) .e)
noncomputable def u62:Tr AO:=(zO u34 (zO .e u4))
noncomputable def u63:Tr AO:=(zO u45 (zO (zO (zO (zL (.map [] 0)) .e) .e) .e))
noncomputable def u64:Tr AO:=(zO .e (zO (zO (zO (zL (zC [.sl 253 0 2 none,.sl 273 0 1 none,.sl 285 0 2 none,.map 274,.sl 292 0 1 (some 1),zI 0] 90)) .e) .e) .e))
noncomputable def u65:Tr AO:=(zO (zO .e (zO (zO (zL (.map [] 0)) .e) .e)) u46)
noncomputable def u66:Tr AO:=(zO u25 (zO (zO (zO .e u10) .e) .e))
noncomputable def u67:Tr AO:=(zO .e (zO (zO (zO u21 u6) .e) (zO .e (zL (zG [zI 1] 3)))))
noncomputable def u68:Tr AO:=(zO u12 (zO .e u50))
noncomputable def u69:Tr AO:=(zO .e u68)
noncomputable def u70:Tr AO:=(zO u60 u5)
noncomputable def u71:Tr AO:=(zO (zO (zO u20 (zO .e (zL (zG [.str [112],zI 0,.str [113],zI 0] 106)))) .e) u15)
noncomputable def u72:Tr AO:=(zO (zO .e (zO (zO (zN .e (.map [] 0) u2) .e) .e)) u46)
noncomputable def u73:Tr AO:=(zO u34 (zO u31 u4))
noncomputable def u74:Tr AO:=(zO u32 (zO (zO (zO (zL (zC [.sl 253 0 2 none,.sl 273 0 1 none,.sl 285 0 2 none,.map 274,.sl 292 0 1 (some 1),zI 2] 90)) .e) .e) .e))
noncomputable def u75:Tr AO:=(zO u30 (zO .e (zO (zO .e u57) .e)))
noncomputable def u76:AO:=(.map [⟨.agg [zI 1,zI 1,.str [],zI 0,zI 0,.str [],zI 0,zI 0,.str [],zI 0,zI 0,.str [],zI 0,zI 0,.str [],zI 0,zI 0,.str [],zI 0,zI 0,.str [],zI 0,zI 0,.str []],.agg [],0⟩] 1)
noncomputable def u77:Tr AO:=(zL u76)
noncomputable def u78:Tr AO:=(zL (.map [⟨.agg [zI 1,zI 1,.str [],zI 0,zI 0,.str [],zI 0,zI 0,.str [],zI 0,zI 0,.str [],zI 0,zI 0,.str [],zI 0,zI 0,.str [],zI 0,zI 0,.str [],zI 0,zI 0,.str []],zP 3501 0,0⟩] 1))
noncomputable def u79:Tr AO:=(zO (zO u77 .e) .e)
noncomputable def u80:Tr AO:=(zO (zO (zL (.map [⟨.agg [zI 1,zI 1,.str [],zI 0,zI 0,.str [],zI 0,zI 0,.str [],zI 0,zI 0,.str [],zI 0,zI 0,.str [],zI 0,zI 0,.str [],zI 0,zI 0,.str [],zI 0,zI 0,.str []],zP 1826 0,0⟩] 1)) .e) .e)
noncomputable def u81:Tr AO:=(zO u64 u53)
noncomputable def u82:Tr AO:=(zO (zO (zL (.map [⟨.agg [zI 1,zI 1,.str [],zI 0,zI 0,.str [],zI 0,zI 0,.str [],zI 0,zI 0,.str [],zI 0,zI 0,.str [],zI 0,zI 0,.str [],zI 0,zI 0,.str [],zI 0,zI 0,.str []],.sl 2211 0 1 none,0⟩] 1)) .e) .e)
noncomputable def u83:Tr AO:=(zO u80 .e)
noncomputable def u84:AO:=(zC [zI 1,.str [112],.sl 7 0 1 (some 1),zI 0,zI 0,.str [],zI 0,zI 0,.str [],zI 0,.aQ,zI 0,.str [],zI 0,zI 0,.str [],zI 0,.aQ,zI 0,.str [],zI 0,.str [],zI 0,zI 0,.str [],zI 0,.aQ,.aQ,zI 0,zI 0] 121)
noncomputable def u85:Tr AO:=(zO (zO .e (zO (zO .e (zO .e (zO (zO .e (zL (zC [.sl 3500 0 1 none,zI 1,zI 1] 297))) .e))) .e)) u68)
noncomputable def u86:Tr AO:=(zL (zG [zI 1,.str [112],.sl 263 0 1 none,zI 0,zI 0,.str [],zI 0,zI 0,.str [],zI 0,.aQ,zI 0,.str [],zI 0,zI 0,.str [],zI 0,.aQ,zI 0,.str [],zI 0,.str [],zI 0,zI 0,.str [],zI 0,.aQ,.aQ,zI 0,zI 0] 121))
noncomputable def u87:Tr AO:=(zO (zO (zO u86 .e) .e) .e)
noncomputable def u88:Tr AO:=(zO u64 (zO .e (zO u36 (zO (zO .e (zO .e (zO (zL (zC [zP 911 0] 107)) .e))) (zL (zG [zI 1] 3))))))
noncomputable def u89:Tr AO:=(zO u71 (zO u47 .e))
noncomputable def u90:Tr AO:=(zO (zO u35 (zO (zO (zO .e (zO .e (zL (zG [zI 1,zI (-1),.sl 1416 0 1 none,.sl 1455 0 1 none,.sl 1833 0 1 (some 1)] 197)))) .e) .e)) u52)
noncomputable def u91:Tr AO:=(zN u65 u38 (zO .e (zO (zO (zO (zL (.map [] 0)) u39) .e) .e)))
noncomputable def u92:Tr AO:=(zO u86 (zO .e (zL (zC [zP 275 0,zI 1,.sl 1177 0 1 none,.map 910,.map 914] 189))))
noncomputable def u93:Tr AO:=(zO u25 (zO (zO (zO .e (zO u82 .e)) .e) .e))
noncomputable def u94:Tr AO:=(zN u55 u7 (zO u40 u52))
noncomputable def u95:Tr AO:=(zO u73 (zO (zO (zO u33 (zO u13 (zL (.map [] 1)))) .e) .e))
noncomputable def u96:Tr AO:=(zO (zO .e (zO (zO (zN .e (zC [.str [112],.sl 12 0 1 (some 1)] 24) (zO .e (zL (zC [.sl 263 0 1 none,.sl 1183 0 1 none,zI 1,zI (-1),.sl 1416 0 1 none,.sl 1455 0 1 none] 210)))) .e) .e)) (zO .e (zO (zO (zO .e (zO .e (zL (zC [.sl 1838 0 1 none] 184)))) u57) .e)))
noncomputable def u97:Tr AO:=(zO (zO u62 (zO (zO (zO u33 (zO u13 (zL (.map [⟨zI 0,.sl 916 0 1 none,0⟩] 1)))) .e) .e)) u51)
noncomputable def u98:Tr AO:=(zO (zO u92 .e) u44)
noncomputable def u99:Tr AO:=(zO u37 u98)
noncomputable def afh:Tr AO:=(zN u72 u38 (zO (zO .e (zO (zO (zO .e u3) .e) .e)) (zO (zO (zO (zN .e u76 (zO .e (zL (zC [zI 0,zI 0] 203)))) u39) .e) (zO (zO (zO .e (zO .e (zL (zC [zI 0] 3)))) .e) .e))))
noncomputable def afg:Tr AO:=(zN u91 QB (zN u75 (zC [.str [112],.sl 12 0 1 (some 1)] 24) (zO .e (zO u12 (zO (zO .e (zO .e (zO (zL (zC [.aQ] 288)) .e))) u50)))))
noncomputable def aff:Tr AO:=(zN (zO (zN (zO (zO (zO .e (zO .e (zO .e (zO (zL (zC [zI 0] 3)) .e)))) (zO (zO (zL (.map [] 0)) .e) .e)) .e) u84 u63) (zN u66 (zC [zI 1,zI 1,.str []] 101) (zO .e (zO (zO (zO (zL (zC [.str [113]] 9)) .e) .e) (zO (zO .e (zO .e (zO (zL (zC [.sl 1177 0 1 none] 184)) .e))) .e))))) (zC [zI 1] 3) (zO u97 (zN u55 u7 (zO u40 (zO u48 (zO (zO .e (zO .e (zO (zL (zC [.sl 1469 0 1 (some 1)] 277)) .e))) .e))))))
noncomputable def v0:Tr AV:=(zL (.agg [.str [112],.sl 12 0 1 (some 1)]))
noncomputable def v1:Tr AV:=(zO (zO (zL (.bool false)) .e) (zL (.bool false)))
noncomputable def v2:Tr AV:=(zN (zL (.map 274)) (.bool false) (zL (zP 275 4)))
noncomputable def v3:Tr AV:=(zL (.agg [.sl 3 0 2 (some 2),.sl 9 0 1 (some 1)]))
noncomputable def v4:Tr AV:=(zN (zN (zL (zI 2)) (zP 275 2) .e) (zP 13 0) (zL (zI 0)))
noncomputable def v5:Tr AV:=(zN (zN (zL (zI 1)) (zP 275 0) .e) (.bool false) (zL (zI 0)))
noncomputable def v6:Tr AV:=(zN (zN (zL (zP 292 1)) (zP 275 0) .e) (zI 1) (zL (zP 286 0)))
noncomputable def v7:Tr AV:=(zN (zN (zL (zI 0)) (.sl 285 0 2 none) .e) (zI 1) (zL (zI 1)))
noncomputable def v8:Tr AV:=(zL (.gI [.sl 903 0 2 none,.agg [zI 0,zI 0,zI 0]]))
noncomputable def v9:Tr AV:=(zN (zN (zL (zP 275 0)) (zI 2) .e) (.bool false) (zL (zP 275 2)))
noncomputable def v10:Tr AV:=(zN (zL (.agg [.sl 253 0 2 none,.sl 273 0 1 none])) (zI 2) .e)
noncomputable def v11:Tr AV:=(zN (zN (zL (zI 0)) (zP 275 0) .e) (.bool false) (zL (.bool false)))
noncomputable def v12:Tr AV:=(zN (zN (zL (zP 275 0)) (zP 275 0) .e) (.bool false) (zL (zP 275 0)))
noncomputable def v13:Tr AV:=(zN (zN (zL (zP 275 0)) (.sl 253 0 2 none) .e) (zI 1) (zL (zP 275 0)))
noncomputable def v14:Tr AV:=(zN (zN (zL (zP 906 1)) (.sl 284 0 1 (some 1)) .e) (zI 1) (zL (zI 1)))
noncomputable def v15:Tr AV:=(zN (zO (zL (zP 911 1)) (zL (.gI []))) (zP 1470 0) (zN (zL (zI 1)) (zI 1) .e))
noncomputable def v16:Tr AV:=(zN (zO (zL (zP 911 1)) (zL (.gI []))) (zP 1847 0) (zN (zL (zI 1)) (zI 1) .e))
noncomputable def v17:Tr AV:=(zN v8 (zP 275 0) .e)
noncomputable def v18:Tr AV:=(zN (zN (zL (.sl 903 0 2 none)) (zP 253 4) .e) (.sl 13 0 1 (some 1)) (zL (zP 275 0)))
noncomputable def v19:Tr AV:=(zN (zN (zL (zP 292 0)) (zP 275 0) .e) (.bool false) (zL (.gI [zP 286 0,zI 0])))
noncomputable def v20:Tr AV:=(zN v8 (.bool false) .e)
noncomputable def v21:Tr AV:=(zN (zN (zL (zI 0)) (.str [113]) .e) (.sl 13 0 1 (some 1)) (zL (.sl 292 0 1 (some 1))))
noncomputable def v22:Tr AV:=(zN (zN (zL (.agg [.str [113],zI 0])) (zP 283 0) .e) (.bool false) (zL (zP 275 4)))
noncomputable def v23:Tr AV:=(zL (.agg [zI 1,zI (-1),.sl 1416 0 1 none,.sl 1455 0 1 none,.sl 1833 0 1 (some 1)]))
noncomputable def v24:Tr AV:=(zO (zL (zI 1)) (zL (.fn 144 [] [zP 1471 0,zP 1472 0,zP 1468 0,zP 1467 0,zP 1470 0])))
noncomputable def v25:Tr AV:=(zO (zL (zI 1)) (zL (.fn 144 [] [zP 1848 0,zP 1849 0,zP 1845 0,zP 1844 0,zP 1847 0])))
noncomputable def v26:Tr AV:=(zN (zN (zL (.bool true)) (zP 275 0) .e) (.agg [.str [112],.sl 12 0 1 (some 1)]) (zL (zP 275 0)))
noncomputable def v27:Tr AV:=(zN v10 (.bool false) (zL (.sl 285 0 2 none)))
noncomputable def v28:Tr AV:=(zL (.agg [.sl 263 0 1 none,.sl 1183 0 1 none,zI 1,zI (-1),.sl 1416 0 1 none,.sl 1455 0 1 none]))
noncomputable def v29:Tr AV:=(zN v20 (.bool false) (zL (.gI [])))
noncomputable def v30:Tr AV:=(zL (.gI [.agg [zI 1,zI (-1),.sl 1416 0 1 none,.sl 1455 0 1 none,.sl 1833 0 1 (some 1)],.bool true]))
noncomputable def v31:Tr AV:=(zN (zN (zL (zI 0)) (zP 275 0) .e) (.agg [.sl 3 0 2 (some 2),.sl 9 0 1 (some 1)]) v0)
noncomputable def v32:Tr AV:=(zN (zN (zL (.agg [zI 0,zI 0,zI 0])) (.agg [.str [113],.sl 251 0 1 none,zI 0,zI 0]) .e) (zI 1) (zL (.sl 13 0 1 (some 1))))
noncomputable def v33:Tr AV:=(zN v18 (.bool false) (zN (zL (zP 275 3)) (zI 0) (zL (zP 275 0))))
noncomputable def v34:Tr AV:=(zN (zN (zN (zL (zP 292 1)) (zP 275 0) .e) (zI 1) (zN (zL (zI 9)) (zP 286 0) .e)) (zP 293 0) v21)
noncomputable def v35:Tr AV:=(zN (zN (zN (zL (.sl 903 0 2 none)) (zP 275 0) .e) (.bool false) (zL (.sl 292 0 1 (some 1)))) (.bool false) (zN (zN (zL (zP 275 0)) (zP 283 0) .e) (zI 1) (zL (.sl 292 0 1 (some 1)))))
noncomputable def v36:Tr AV:=(zN (zN (zN (zL (.bool false)) (zP 275 2) .e) (.agg [zI 0,zI 0,zI 0]) (zL (zP 275 0))) (.bool false) (zN (zN (zL (zI 1)) (.sl 251 0 1 none) .e) (.map 274) (zL (.sl 12 0 1 (some 1)))))
noncomputable def v37:Tr AV:=(zN (zN (zN (zL (zI 2)) (zP 275 0) .e) (.bool false) (zL (zP 275 0))) (.bool false) (zN (zN (zL (.sl 903 0 2 none)) (.str [113]) .e) (.agg [.sl 3 0 2 (some 2),.sl 9 0 1 (some 1)]) (zL (zI 0))))
noncomputable def v38:Tr AV:=(zN (zN (zN (zL (zP 292 0)) (zP 275 0) .e) (.bool false) (zN (zL (zP 911 0)) (.gI [zP 286 0,zI 0]) .e)) (zI 0) v22)
noncomputable def v39:Tr AV:=(zN (zN (zN (zL (zI 2)) (zP 275 0) .e) (.agg [.sl 3 0 2 (some 2),.sl 9 0 1 (some 1)]) (zL (zP 275 4))) (zI 9) (zN (zN (zL (zI 0)) (zP 283 1) .e) (.agg [.sl 253 0 2 none,.sl 273 0 1 none]) (zL (zP 293 1))))
noncomputable def v40:Tr AV:=(zN (zN (zN (zL (zP 903 2)) (.sl 278 0 1 none) .e) (zI 0) (zL (zP 275 0))) (.bool false) (zN (zN (zL (zP 911 0)) (zI 1) .e) (.agg [.sl 253 0 2 none,.sl 273 0 1 none,.aQ,.map 274,.aQ,zI 0]) (zL (.sl 295 0 1 none))))
noncomputable def v41:AF×Option Tmp:=(⟨⟨4,false,none,83⟩,zN (zO (zO .e v3) (zO .e (zL (.sl 13 0 1 (some 1))))) (.bool false) (zO (zO .e v0) .e),[.inRegion (xY f4 [1,0]) ((xY f4 [1,0]).toList.drop 4),.code (iQ f4 [1,1])],[],false⟩,(some 14))
noncomputable def v42:Tr AV:=(zN (zN v12 (zI 0) v11) (zP 226 0) v37)
noncomputable def v43:Tr AV:=(zN (zO v13 v4) (zP 275 0) v39)
noncomputable def v44:AF×Option Tmp:=(⟨⟨41,false,none,114⟩,zN (zN (zO (zO .e (zL (.bool false))) (zO (zL (zP 911 0)) (zL (zP 911 2)))) (zI 9) (zO (zO .e (zL (zP 911 0))) (zO (zL (zP 275 0)) .e))) (zP 911 0) (zO (zN (zO .e (zL (zP 911 0))) (.bool false) (zO (zL (zP 911 0)) (zL (.sl 1177 0 1 none)))) (zO (zO (zL (zP 911 0)) (zL (zP 911 0))) (zO (zL (zI 9)) .e))),[.inRegion (xY f41 [1,1,0]) ((xY f41 [1,1,0]).toList.drop 6),.code (iQ f41 [1,1,1])],[],false⟩,(some 29))
noncomputable def v45:Tr AV:=(zO (zN (zN v5 (.sl 903 0 2 none) v14) (zI 0) (zN v32 (zI 9) v2)) (zO (zN v9 (zP 906 0) (zN (zN (zL (zI 0)) (.gI [zP 286 0,zI 0]) .e) (.agg [.str [112],.sl 12 0 1 (some 1)]) (zL (zP 292 0)))) v36))
noncomputable def v46:Tr AV:=(zO (zO (zN (zN v17 (.bool false) (zL (zI 2))) (zP 904 0) v7) v35) (zN (zN v27 (zI 0) v31) (zP 283 0) v40))
noncomputable def v47:AF×Option Tmp:=(⟨⟨41,false,none,114⟩,zN (zN (zO (zN (zN (zN (zL (.bool false)) (zP 911 0) v30) (zP 1829 0) (zN (zL (zP 275 5)) (zP 911 0) (zL (zP 911 0)))) (.bool true) (zN (zN (zL (zP 911 0)) (.bool false) (zL (zI 1))) (.bool false) (zN (zL (zI 1)) (zP 279 0) .e))) (zN (zN (zN (zL (zI 0)) (zI 0) (zL .aQ)) (zP 911 0) (zN (zL (.map 910)) (zP 275 3) .e)) (zP 279 0) (zN (zN (zL (zP 275 5)) (.bool false) (zL (zP 911 0))) (zP 911 2) (zN v28 (.sl 295 0 1 none) .e)))) (zI 9) (zN (zO (zN (zN (zL (zP 1812 1)) (zP 911 4) (zL (.bool true))) (.bool true) (zN (zL (zP 911 0)) (zP 275 0) .e)) (zN (zN (zL (zP 275 0)) (zI 1) (zL (zP 911 0))) (zP 911 0) (zN (zL (.bool false)) (zP 279 0) .e))) (zI 0) (zN (zN (zN (zL (.gI [.bool true,zI 0])) (.bool true) (zL (.sl 1837 0 1 (some 1)))) (zP 275 0) (zN (zL (.str [112])) (zP 1812 0) .e)) (.bool false) (zN (zN (zL (zI 1)) (.agg [.str [112],.sl 295 0 1 none]) (zL (zI 9))) (.gI []) (zN v28 (.agg [zI 0,zI 0]) .e))))) (zP 911 0) (zO (zN (zN (zN (zN (zL (zP 279 0)) (zP 911 0) v23) (zP 1836 0) (zN (zL (zP 911 0)) (zP 911 0) (zL (.sl 1838 0 1 none)))) (.sl 1838 0 1 none) (zN (zN (zL (zP 911 0)) (.sl 916 0 1 none) (zL (zI 1))) (zP 911 0) (zN (zL (zI 1)) (.gI [.agg [zI 0,zI 0],.bool false]) .e))) (.bool false) (zN (zN (zN (zL (.agg [zI 0,zI 0])) (.sl 916 0 1 none) v23) (zP 911 0) (zN (zL (zP 1812 0)) (.map 274) .e)) (zP 1817 0) (zN (zN (zL (zI 0)) (zP 916 0) (zL (zP 275 0))) (.sl 1177 0 1 none) (zN v30 (.gI [.agg [zI 0,zI 0],.bool false]) .e)))) (zN (zN (zN (zN (zL (.sl 295 0 1 none)) (.gI [zI 0,.sl 916 0 1 none,.bool true]) (zL (.bool true))) (zP 911 0) (zN (zL (zP 911 3)) (zP 275 0) .e)) (zP 1812 0) (zN (zN (zL (zP 275 0)) (zI 1) (zL (zP 911 0))) (zP 911 0) (zN (zL (zP 1461 0)) (zP 1812 1) .e))) (.sl 916 0 1 none) (zO (zN (zN (zL (zP 911 0)) (.bool true) (zL (.sl 1838 0 1 none))) (zI 9) (zN (zL (.sl 1461 0 1 none)) (.str [112]) .e)) (zN (zN (zL (zP 275 0)) (zP 911 0) (zL (.bool false))) (.gI [zI 0,.sl 916 0 1 none,.bool true]) (zN (zL (.agg [.str [112],.sl 295 0 1 none])) (.bool false) .e))))),[.inRegion (xY f41 [1,1,1,0,0,0,1,1,1,1,1]) ((xY f41 [1,1,1,0,0,0,1,1,1,1,1]).toList.drop 3),.inBlock 1,.inLoop (iQ f41 [1,1,1,0,0]),.inBlock 0],[],false⟩,(some 113))
noncomputable def v48:AF×Option Tmp:=(⟨⟨12,false,none,169⟩,zN (zN (zN (zO v38 (zN v29 (zP 911 0) v26)) (zI 1) v42) (.sl 13 0 1 (some 1)) v45) (.agg [.sl 3 0 2 (some 2),.sl 9 0 1 (some 1)]) (zN (zN (zN v34 .pO v33) (zP 14 0) v43) (zI 9) v46),[.inRegion (xY f12 [1,1,1,1,1,1,1,1,1,1,1,0,1,0,0,1,0,0,1,0]) ((xY f12 [1,1,1,1,1,1,1,1,1,1,1,0,1,0,0,1,0,0,1,0]).toList.drop 3),.code (iQ f12 [1,1,1,1,1,1,1,1,1,1,1,0,1,0,0,1,0,0,1,1]),.inBlock 10,.code (iQ f12 [1,1,1,1,1,1,1,1,1,1,1,0,1,0,0,1,1]),.inLoop (iQ f12 [1,1,1,1,1,1,1,1,1,1,1,0,1,0,0]),.inBlock 9,.code (iQ f12 [1,1,1,1,1,1,1,1,1,1,1,1])],[],false⟩,(some 161))
section
set_option maxRecDepth 1000000
set_option maxHeartbeats 0
noncomputable def ZO(a:Nat):OS:=⟨⟨⟨3,false,none,72⟩,zO (zL (zP (OLD+a) 0)) (zL (.bool false)),[.code (iQ f3 [1,0]),.code (iQ f3 [1,1])],[],false⟩,[],⟨.e,0,0⟩⟩
end
section
set_option maxRecDepth 1000000
set_option maxHeartbeats 0
noncomputable def WS(a:Nat):OS:=⟨⟨⟨12,false,none,169⟩,zN (zN (zN (zO (zO (zL (.bool false)) .e) (zO (zL (.bool false)) .e)) (zI 1) v1) (.sl 13 0 1 (some 1)) (zO (zN (zO (zL (.bool false)) .e) (zI 0) (zN (zL (zI 1)) (zI 9) .e)) (zO (zO (zL (.bool false)) .e) (zN (zL (.agg [zI 0,zI 0,zI 0])) (.bool false) .e)))) (.agg [.sl 3 0 2 (some 2),.sl 9 0 1 (some 1)]) (zN (zN (zN (zO (zL (zI 1)) .e) .pO (zN (zL (.sl 13 0 1 (some 1))) (.bool false) .e)) (zP 14 0) (zO (zO (zL (zI 1)) .e) (zN v3 (zI 9) .e))) (zI 9) (zO (zO (zO (zL (.bool false)) .e) (zN (zL (.bool false)) (.bool false) .e)) v1)),[.inRegion (xY f12 [1,0,0,1,1,1,1,0]) ((xY f12 [1,0,0,1,1,1,1,0]).toList.drop 2),.code (iQ f12 [1,0,0,1,1,1,1,1]),.inBlock 0,.code (iQ f12 [1,1])],[],false⟩,
 [v41,(⟨⟨3,false,none,72⟩,zO (zL (zP (OLD+a) 0)) (zL (.bool false)),[.inRegion (xY f3 [1,0]) ((xY f3 [1,0]).toList.drop 1),.code (iQ f3 [1,1])],[],false⟩,(some 12))],
 ⟨zO (zN (zN (zL QB) u49 .e) (zC [zI 1] 3) (zN (zL u38) QB u4)) (zN (zO (zL u84) (zL (zC [zI 1,zI 1,.str []] 101))) (zC [zI 1] 3) (zO .e (zL u7))),226,0⟩⟩
end
section
set_option maxRecDepth 1000000
set_option maxHeartbeats 0
noncomputable def WR(a:Nat):OS:=⟨⟨⟨12,false,none,169⟩,zN (zN (zN (zO (zN v19 (zI 0) (zN (zL (zP 283 0)) (.bool false) (zL (zP 275 4)))) (zO v29 (zN (zL (zP 275 0)) (.agg [.str [112],.sl 12 0 1 (some 1)]) (zL (zP 275 0))))) (zI 1) (zN (zO v12 (zN (zL (zP 275 0)) (.bool false) (zL (.bool false)))) (zP 226 0) (zN (zN (zL (zP 275 0)) (.bool false) (zL (zP 275 0))) (.bool false) (zN (zL (.str [113])) (.agg [.sl 3 0 2 (some 2),.sl 9 0 1 (some 1)]) (zL (zI 0)))))) (.sl 13 0 1 (some 1)) (zO (zN (zO v5 (zN (zL (.sl 284 0 1 (some 1))) (zI 1) (zL (zI 1)))) (zI 0) (zN (zN (zL (.agg [.str [113],.sl 251 0 1 none,zI 0,zI 0])) (zI 1) (zL (.sl 13 0 1 (some 1)))) (zI 9) v2)) (zO (zO v9 (zN (zL (.gI [zP 286 0,zI 0])) (.agg [.str [112],.sl 12 0 1 (some 1)]) (zL (zP 292 0)))) (zN (zN (zL (zP 275 2)) (.agg [zI 0,zI 0,zI 0]) (zL (zP 275 0))) (.bool false) (zN (zL (.sl 251 0 1 none)) (.map 274) (zL (.sl 12 0 1 (some 1)))))))) (.agg [.sl 3 0 2 (some 2),.sl 9 0 1 (some 1)]) (zN (zN (zN (zN v6 (zP 293 0) (zN (zL (.str [113])) (.sl 13 0 1 (some 1)) (zL (.sl 292 0 1 (some 1))))) .pO (zN (zN (zL (zP 253 4)) (.sl 13 0 1 (some 1)) (zL (zP 275 0))) (.bool false) (zN (zL (zP 275 3)) (zI 0) (zL (zP 275 0))))) (zP 14 0) (zN (zO v13 (zN (zL (zP 275 2)) (zP 13 0) (zL (zI 0)))) (zP 275 0) (zN (zN (zL (zP 275 0)) (.agg [.sl 3 0 2 (some 2),.sl 9 0 1 (some 1)]) (zL (zP 275 4))) (zI 9) (zN (zL (zP 283 1)) (.agg [.sl 253 0 2 none,.sl 273 0 1 none]) (zL (zP 293 1)))))) (zI 9) (zO (zO (zO (zN (zL (zP 275 0)) (.bool false) (zL (zI 2))) (zN (zL (.sl 285 0 2 none)) (zI 1) (zL (zI 1)))) (zN (zN (zL (zP 275 0)) (.bool false) (zL (.sl 292 0 1 (some 1)))) (.bool false) (zN (zL (zP 283 0)) (zI 1) (zL (.sl 292 0 1 (some 1)))))) (zN (zO v27 (zN (zL (zP 275 0)) (.agg [.sl 3 0 2 (some 2),.sl 9 0 1 (some 1)]) v0)) (zP 283 0) (zN (zN (zL (.sl 278 0 1 none)) (zI 0) (zL (zP 275 0))) (.bool false) (zN (zL (zI 1)) (.agg [.sl 253 0 2 none,.sl 273 0 1 none,.aQ,.map 274,.aQ,zI 0]) (zL (.sl 295 0 1 none))))))),[.inRegion (xY f12 [1,1,1,1,1,1,1,1,0]) ((xY f12 [1,1,1,1,1,1,1,1,0]).toList.drop 5),.code (iQ f12 [1,1,1,1,1,1,1,1,1])],[],false⟩,
 [v41,(⟨⟨3,false,none,72⟩,zO (zL (zP (OLD+a) 0)) (zL (.bool false)),[.inRegion (xY f3 [1,0]) ((xY f3 [1,0]).toList.drop 1),.code (iQ f3 [1,1])],[],false⟩,(some 12))],
 ⟨zO (zN (zN (zN (zO (zO .e (zO (zO (zL (.map [] 0)) .e) .e)) u87) QB u89) u49 u81) (zC [zI 1] 3) (zN (zN u65 u38 u0) QB (zN (zO u30 .e) (zC [.str [112],.sl 12 0 1 (some 1)] 24) u69))) (zN (zO (zN u1 u84 u0) (zN (zO u25 .e) (zC [zI 1,zI 1,.str []] 101) u16)) (zC [zI 1] 3) (zO (zO (zO u62 (zO u43 .e)) u0) (zN (zO .e u18) u7 u56))),904,0⟩⟩
end
section
set_option maxRecDepth 1000000
set_option maxHeartbeats 0
noncomputable def WQ(a:Nat):OS:=⟨⟨⟨12,false,none,169⟩,zN (zN (zN (zO (zN v19 (zI 0) v22) (zO v29 v26)) (zI 1) v42) (.sl 13 0 1 (some 1)) v45) (.agg [.sl 3 0 2 (some 2),.sl 9 0 1 (some 1)]) (zN (zN (zN (zN v6 (zP 293 0) v21) .pO v33) (zP 14 0) v43) (zI 9) v46),[.inRegion (xY f12 [1,1,1,1,1,1,1,1,1,1,1,0,1,0,0,1,0,0,0]) ((xY f12 [1,1,1,1,1,1,1,1,1,1,1,0,1,0,0,1,0,0,0]).toList.drop 5),.code (iQ f12 [1,1,1,1,1,1,1,1,1,1,1,0,1,0,0,1,0,0,1]),.inBlock 10,.code (iQ f12 [1,1,1,1,1,1,1,1,1,1,1,0,1,0,0,1,1]),.inLoop (iQ f12 [1,1,1,1,1,1,1,1,1,1,1,0,1,0,0]),.inBlock 9,.code (iQ f12 [1,1,1,1,1,1,1,1,1,1,1,1])],[],false⟩,
 [v41,(⟨⟨3,false,none,72⟩,zO (zL (zP (OLD+a) 0)) (zL (.bool false)),[.inRegion (xY f3 [1,0]) ((xY f3 [1,0]).toList.drop 1),.code (iQ f3 [1,1])],[],false⟩,(some 12))],
 ⟨zO (zN (zN (zN u99 QB u89) u49 u81) (zC [zI 1] 3) (zN u91 QB (zN u75 (zC [.str [112],.sl 12 0 1 (some 1)] 24) u69))) (zN (zO (zN u1 u84 u63) (zN u66 (zC [zI 1,zI 1,.str []] 101) u16)) (zC [zI 1] 3) (zO u97 u94)),1462,0⟩⟩
end
section
set_option maxRecDepth 1000000
set_option maxHeartbeats 0
noncomputable def WO(a:Nat):OS:=⟨⟨⟨85,false,none,55⟩,zN (zN (zN (zO (zL (zP 911 0)) (zL (zI 0))) (zP 1468 0) (zN (zL (zI 1)) (.sl 1177 0 1 none) .e)) (.sl 1177 0 1 none) (zN v24 (zP 1471 0) (zN (zL (zI 0)) (.sl 1469 0 1 (some 1)) .e))) (zP 911 0) (zN v15 (zP 1467 0) (zN (zO (zL (.sl 1177 0 1 none)) .e) (zP 1472 0) (zN (zL (.bool true)) (zP 911 0) .e))),[.inRegion (xY f85 [1,1,1,0,1,0,0,1,1,0,0,1,1]) ((xY f85 [1,1,1,0,1,0,0,1,1,0,0,1,1]).toList.drop 1),.inBlock 1,.code (iQ f85 [1,1,1,0,1,0,0,1,1,1]),.inLoop (iQ f85 [1,1,1,0,1,0,0]),.inBlock 0,.code (iQ f85 [1,1,1,1])],[],false⟩,
 [v44,v48,v41,(⟨⟨3,false,none,72⟩,zO (zL (zP (OLD+a) 0)) (zL (.bool false)),[.inRegion (xY f3 [1,0]) ((xY f3 [1,0]).toList.drop 1),.code (iQ f3 [1,1])],[],false⟩,(some 12))],
 ⟨zO (zN (zN (zN (zO (zO (zO .e (zO .e (zO .e (zO u9 .e)))) u26) u98) QB u89) u49 u88) (zC [zI 1] 3) afg) aff,1473,0⟩⟩
end
section
set_option maxRecDepth 1000000
set_option maxHeartbeats 0
noncomputable def WM(a:Nat):OS:=⟨⟨⟨85,false,none,55⟩,zN (zN (zN (zO (zL (zP 911 0)) (zL (zI 0))) (zP 1468 0) (zN (zL (zI 1)) (.sl 1177 0 1 none) (zL (.gI [])))) (.sl 1177 0 1 none) (zN v24 (zP 1471 0) (zN (zL (zI 1)) (.sl 1469 0 1 (some 1)) .e))) (zP 911 0) (zN v15 (zP 1467 0) (zN (zO (zL (.sl 1177 0 1 none)) (zL (zI 1))) (zP 1472 0) (zN (zL (.bool false)) (zP 911 0) .e))),[.inRegion (xY f85 [1,1,1,1,0]) ((xY f85 [1,1,1,1,0]).toList.drop 1),.code (iQ f85 [1,1,1,1,1])],[],false⟩,
 [v44,v48,v41,(⟨⟨3,false,none,72⟩,zO (zL (zP (OLD+a) 0)) (zL (.bool false)),[.inRegion (xY f3 [1,0]) ((xY f3 [1,0]).toList.drop 1),.code (iQ f3 [1,1])],[],false⟩,(some 12))],
 ⟨zO (zN (zN (zN (zO (zO (zO .e (zO .e (zO .e (zO (zL .dead) .e)))) u26) u98) QB u89) u49 u88) (zC [zI 1] 3) afg) aff,1811,0⟩⟩
end
section
set_option maxRecDepth 1000000
set_option maxHeartbeats 0
noncomputable def WL(a:Nat):OS:=⟨⟨⟨85,false,none,55⟩,zN (zN (zN (zO (zL (zP 911 0)) (zL (zI 0))) (zP 1845 0) (zN (zL (zI 1)) (.sl 1838 0 1 none) .e)) (.sl 1838 0 1 none) (zN v25 (zP 1848 0) (zN (zL (zI 0)) (.sl 1846 0 1 (some 1)) .e))) (zP 911 0) (zN v16 (zP 1844 0) (zN (zO (zL (.sl 1838 0 1 none)) .e) (zP 1849 0) (zN (zL (.bool true)) (zP 911 0) .e))),[.inRegion (xY f85 [1,1,1,0,1,0,0,1,1,0,0,1,1]) ((xY f85 [1,1,1,0,1,0,0,1,1,0,0,1,1]).toList.drop 1),.inBlock 1,.code (iQ f85 [1,1,1,0,1,0,0,1,1,1]),.inLoop (iQ f85 [1,1,1,0,1,0,0]),.inBlock 0,.code (iQ f85 [1,1,1,1])],[],false⟩,
 [v47,v48,v41,(⟨⟨3,false,none,72⟩,zO (zL (zP (OLD+a) 0)) (zL (.bool false)),[.inRegion (xY f3 [1,0]) ((xY f3 [1,0]).toList.drop 1),.code (iQ f3 [1,1])],[],false⟩,(some 12))],
 ⟨zO (zN (zN (zN u99 QB (zO u71 (zO u47 u27))) u49 (zO (zO .e u61) u53)) (zC [zI 1] 3) (zN afh QB (zN u96 (zC [.str [112],.sl 12 0 1 (some 1)] 24) (zO u60 u68)))) (zN (zO (zN u1 u84 (zO u45 (zO u80 (zO (zO (zO .e (zO .e u9)) .e) .e)))) (zN (zO u25 (zO (zO (zO u22 u10) .e) u17)) (zC [zI 1,zI 1,.str []] 101) u70)) (zC [zI 1] 3) (zO (zO u95 u51) (zN (zO u19 (zO (zO (zO (zL .dead) .e) .e) (zO (zO (zO .e (zO .e (zL (zC [.aQ] 288)))) .e) (zL (zG [zI 1] 3))))) u7 u90))),1850,0⟩⟩
end
section
set_option maxRecDepth 1000000
set_option maxHeartbeats 0
noncomputable def WJ(a:Nat):OS:=⟨⟨⟨85,false,none,55⟩,zN (zN (zN (zO (zL (zP 911 0)) (zL (zI 0))) (zP 1845 0) (zN (zL (zI 1)) (.sl 1838 0 1 none) (zL (.gI [])))) (.sl 1838 0 1 none) (zN v25 (zP 1848 0) (zN (zL (zI 1)) (.sl 1846 0 1 (some 1)) .e))) (zP 911 0) (zN v16 (zP 1844 0) (zN (zO (zL (.sl 1838 0 1 none)) (zL (zI 1))) (zP 1849 0) (zN (zL (.bool false)) (zP 911 0) .e))),[.inRegion (xY f85 [1,1,1,1,0]) ((xY f85 [1,1,1,1,0]).toList.drop 1),.code (iQ f85 [1,1,1,1,1])],[],false⟩,
 [v47,v48,v41,(⟨⟨3,false,none,72⟩,zO (zL (zP (OLD+a) 0)) (zL (.bool false)),[.inRegion (xY f3 [1,0]) ((xY f3 [1,0]).toList.drop 1),.code (iQ f3 [1,1])],[],false⟩,(some 12))],
 ⟨zO (zN (zN (zN (zO u37 (zO (zO u92 (zO .e (zO (zO (zO (zL (zG [.str [112],.sl 2253 0 1 none] 24)) .e) .e) .e))) u44)) QB (zO u71 (zO u54 u27))) u49 (zO (zO u32 u61) u67)) (zC [zI 1] 3) (zN afh QB (zN u96 (zC [.str [112],.sl 12 0 1 (some 1)] 24) (zO (zO (zO .e u29) u58) u68)))) (zN (zO (zN u1 u84 (zO u45 (zO u80 (zO (zO (zO .e (zO .e (zL .dead))) .e) .e)))) (zN (zO u25 (zO (zO (zO u22 (zO u82 (zL (zG [.str [112],.sl 295 0 1 none] 24)))) .e) u17)) (zC [zI 1,zI 1,.str []] 101) u70)) (zC [zI 1] 3) (zO (zO u95 (zO (zO (zO u8 u29) .e) (zO (zO u11 (zO .e (zO (zO (zO (zL (zG [zI 1,.str [113],.sl 2250 0 1 none,.sl 2255 0 1 none] 235)) .e) .e) .e))) .e))) (zN (zO u19 (zO (zO (zO (zL .dead) .e) .e) (zO (zO (zO .e (zO .e (zL (zC [.sl 2266 0 1 none] 288)))) .e) (zL (zG [zI 1] 3))))) u7 u90))),2268,0⟩⟩
end
section
set_option maxRecDepth 1000000
set_option maxHeartbeats 0
noncomputable def WI(a:Nat):OS:=⟨⟨⟨12,false,none,169⟩,zN (zN (zN (zO v38 (zN (zN v20 (.bool false) (zN (zL (.gI [])) (.gI []) .e)) (zP 911 0) (zN (zN (zL (.bool false)) (zP 275 0) .e) (.agg [.str [112],.sl 12 0 1 (some 1)]) (zL (zP 275 0))))) (zI 1) (zN (zN (zN (zN (zL (zP 275 0)) (zP 275 0) .e) (.bool false) (zN (zL (zP 275 0)) (zP 275 0) .e)) (zI 0) v11) (zP 226 0) v37)) (.sl 13 0 1 (some 1)) (zO (zN (zN (zN (zN (zL (zI 1)) (zP 275 0) .e) (.bool false) (zN (zL (.bool true)) (zI 0) .e)) (.sl 903 0 2 none) v14) (zI 0) (zN v32 (zI 9) (zN (zN (zL (zI 1)) (.map 274) .e) (.bool false) (zL (zP 275 4))))) (zO (zN (zN (zN (zL (zP 275 0)) (zI 2) .e) (.bool false) (zN (zL (.bool false)) (zP 275 2) .e)) (zP 906 0) (zN (zN (zL (zI 1)) (.gI [zP 286 0,zI 0]) .e) (.agg [.str [112],.sl 12 0 1 (some 1)]) (zL (zP 292 0)))) v36))) (.agg [.sl 3 0 2 (some 2),.sl 9 0 1 (some 1)]) (zN (zN (zN v34 .pO (zN v18 (.bool false) (zN (zN (zL (zI 0)) (zP 275 3) .e) (zI 0) (zL (zP 275 0))))) (zP 14 0) (zN (zO (zN (zN (zL (zP 275 0)) (.sl 253 0 2 none) .e) (zI 1) (zN (zL (zI 9)) (zP 275 0) .e)) v4) (zP 275 0) v39)) (zI 9) (zO (zO (zN (zN v17 (.bool false) (zN (zL (.bool false)) (zI 2) .e)) (zP 904 0) v7) v35) (zN (zN (zN v10 (.bool false) (zN (zL (zP 275 0)) (.sl 285 0 2 none) .e)) (zI 1) v31) (zP 283 0) v40))),[.inRegion (xY f12 [1,1,1,1,1,1,1,1,1,1,1,1,1,0]) ((xY f12 [1,1,1,1,1,1,1,1,1,1,1,1,1,0]).toList.drop 2),.code (iQ f12 [1,1,1,1,1,1,1,1,1,1,1,1,1,1])],[],false⟩,
 [v41,(⟨⟨3,false,none,72⟩,zO (zL (zP (OLD+a) 0)) (zL (.bool false)),[.inRegion (xY f3 [1,0]) ((xY f3 [1,0]).toList.drop 1),.code (iQ f3 [1,1])],[],false⟩,(some 12))],
 ⟨zO (zN (zN (zN (zO (zO .e (zO (zO u78 (zO (zO (zL (zG [.str [88]] 9)) .e) .e)) .e)) u98) QB (zO u71 u59)) u49 (zO u74 u67)) (zC [zI 1] 3) (zN (zN u72 u38 (zO .e (zO (zO (zO u77 u39) .e) .e))) QB (zN u75 (zC [.str [112],.sl 12 0 1 (some 1)] 24) u85))) (zN (zO (zN (zO (zO .e u79) .e) u84 (zO u45 u83)) (zN u93 (zC [zI 1,zI 1,.str []] 101) (zO u41 u5))) (zC [zI 1] 3) (zO (zO (zO u73 (zO (zO (zO u33 (zO u13 (zL (.map [] 2)))) .e) .e)) (zO u24 u28)) u94)),3504,0⟩⟩
end
section
set_option maxRecDepth 1000000
set_option maxHeartbeats 0
noncomputable def WH(a:Nat):OS:=⟨⟨⟨4,false,none,83⟩,zN (zN (zO (zO (zL (zP 275 0)) .e) (zN (zL (.bool false)) (.agg [.sl 3 0 2 (some 2),.sl 9 0 1 (some 1)]) .e)) (zP 275 0) (zO (zO (zL (zP 275 0)) (zL (.agg [.str [113],.sl 3506 0 1 (some 1)]))) (zN (zL (.bool false)) (.sl 13 0 1 (some 1)) .e))) (.bool false) (zN (zO (zO (zL (zI 0)) (zL (zP 275 0))) (zN (zL (zI 0)) (.agg [.str [112],.sl 12 0 1 (some 1)]) .e)) (zI 0) (zO (zN (zL (.bool false)) (.gI [zP 275 0,zI 0]) (zL (.gI [.agg [.str [113],.sl 4863 0 1 none,zI 1,.sl 4864 0 1 (some 1)],zI 0]))) (zN (zL (.bool false)) (.gI [zP 275 0,zI 0]) .e))),[.inRegion (xY f4 [1,1,1,0]) ((xY f4 [1,1,1,0]).toList.drop 3),.code (iQ f4 [1,1,1,1])],[],false⟩,
 [(⟨⟨3,false,none,72⟩,zO (zL (zP (OLD+a) 0)) (zL (.bool false)),[.inRegion (xY f3 [1,0]) ((xY f3 [1,0]).toList.drop 1),.code (iQ f3 [1,1])],[],false⟩,(some 12))],
 ⟨zO (zN (zN (zN (zO (zO u42 (zO (zO u78 .e) .e)) u87) QB (zO (zO u34 u15) u59)) u49 (zO u74 (zO .e (zO u23 (zO .e (zL (zG [zI 1] 3))))))) (zC [zI 1] 3) (zN (zN u72 u38 (zO .e (zO u79 .e))) QB (zN .e (zC [.str [112],.sl 12 0 1 (some 1)] 24) u85))) (zN (zO (zN (zO (zO (zO (zO (zO .e (zO .e (zO (zO (zL (zC [.str [112],.sl 4872 0 1 none,zI 0,.aQ] 27)) .e) .e))) .e) .e) u79) .e) u84 (zO (zO u42 .e) u83)) (zN u93 (zC [zI 1,zI 1,.str []] 101) (zO u41 .e))) (zC [zI 1] 3) (zO (zO (zO (zO u34 (zO u31 .e)) (zO u43 (zO (zO .e (zO .e (zO u3 .e))) .e))) (zO .e u28)) (zO (zO .e (zO .e (zO .e (zL (zG [zI 1] 3))))) u56))),4873,0⟩⟩
end
section
set_option maxRecDepth 1000000
set_option maxHeartbeats 0
noncomputable def G7(a:Nat):OS:=⟨⟨⟨3,false,none,72⟩,zO (zN (zL (.bool true)) (zP (OLD+a) 0) .e) (zN (zO .e (zL (.bool true))) (.bool false) .e),[.code (iQ f3 [1,1])],[],false⟩,
 [],
 ⟨.e,5030,0⟩⟩
end
end Go.Ev
