/- Closed facts on the types and functions of the program. -/
import Derived.Test.YtnkfdkhjaklolaaGreatDoorProg
import Derived.Test.YtnkfdkhjaklolaaGreatDoorLibA
namespace Go.Proofs.YtnkfdkhjaklolaaGreatDoor
open Go.Gx Tryz
theorem mixed:prog.follows .mixedOrders=true:=by kernel_rfl
theorem QjB:QkM prog 103=true:=by kernel_rfl
theorem QdV:QkM prog 140=true:=by kernel_rfl
theorem QnQ:QkM prog 181=true:=by kernel_rfl
theorem Xo:QkM prog 30=true:=by kernel_rfl
theorem XS:QkM prog 41=true:=by kernel_rfl
theorem Qih:QkM prog 43=true:=by kernel_rfl
theorem Xy:QkM prog 50=true:=by kernel_rfl
theorem QaX:QkM prog 66=true:=by kernel_rfl
theorem Qw3:QkM prog 91=true:=by kernel_rfl
theorem Qw4:QkM prog 93=true:=by kernel_rfl
theorem Qvs:Xf prog 10:=Xv func10
theorem QkO:Xf prog 100:=Xv func100
theorem Qs1:Xf prog 101:=Xv func101
theorem Qs2:Xf prog 102:=Xv func102
theorem QnT:Xf prog 103:=Xv func103
theorem Qs3:Xf prog 104:=Xv func104
theorem Qs4:Xf prog 105:=Xv func105
theorem QnU:Xf prog 106:=Xv func106
theorem Qs5:Xf prog 107:=Xv func107
theorem Qvt:Xf prog 11:=Xv func11
theorem QkP:Xf prog 111:=Xv func111
theorem Qs7:Xf prog 112:=Xv func112
theorem Qil:Xf prog 113:=Xv func113
theorem QnV:Xf prog 114:=Xv func114
theorem Qbh:Xf prog 115:=Xv func115
theorem QnW:Xf prog 116:=Xv func116
theorem QnX:Xf prog 117:=Xv func117
theorem Qgw:Xf prog 118:=Xv func118
theorem Qc7:Xf prog 119:=Xv func119
theorem Qvu:Xf prog 12:=Xv func12
theorem Qfk:Xf prog 120:=Xv func120
theorem Qfl:Xf prog 121:=Xv func121
theorem Qs8:Xf prog 122:=Xv func122
theorem QnY:Xf prog 123:=Xv func123
theorem Qs9:Xf prog 124:=Xv func124
theorem Qa1:Xf prog 125:=Xv func125
theorem QkQ:Xf prog 127:=Xv func127
theorem QkR:Xf prog 128:=Xv func128
theorem QnZ:Xf prog 129:=Xv func129
theorem Qaz:Xf prog 13:=Xv func13
theorem Qgx:Xf prog 130:=Xv func130
theorem Qta:Xf prog 131:=Xv func131
theorem Qtb:Xf prog 132:=Xv func132
theorem Qc8:Xf prog 133:=Xv func133
theorem Qtc:Xf prog 134:=Xv func134
theorem Qn0:Xf prog 135:=Xv func135
theorem Qn1:Xf prog 136:=Xv func136
theorem Qn2:Xf prog 138:=Xv func138
theorem Qgy:Xf prog 139:=Xv func139
theorem Qc9:Xf prog 14:=Xv func14
theorem Qtd:Xf prog 140:=Xv func140
theorem Qte:Xf prog 141:=Xv func141
theorem Qtf:Xf prog 142:=Xv func142
theorem QkS:Xf prog 143:=Xv func143
theorem Qn3:Xf prog 144:=Xv func144
theorem Qej:Xf prog 145:=Xv func145
theorem QkT:Xf prog 146:=Xv func146
theorem Qn4:Xf prog 147:=Xv func147
theorem Qtg:Xf prog 148:=Xv func148
theorem Qek:Xf prog 149:=Xv func149
theorem Qvv:Xf prog 15:=Xv func15
theorem Qth:Xf prog 150:=Xv func150
theorem Qti:Xf prog 151:=Xv func151
theorem Qtj:Xf prog 152:=Xv func152
theorem Qn5:Xf prog 153:=Xv func153
theorem Qtk:Xf prog 154:=Xv func154
theorem Qn6:Xf prog 155:=Xv func155
theorem Qtl:Xf prog 156:=Xv func156
theorem Qn7:Xf prog 16:=Xv func16
theorem Qtm:Xf prog 160:=Xv func160
theorem Qsa:Xf prog 17:=Xv func17
theorem Qto:Xf prog 172:=Xv func172
theorem QkU:Xf prog 174:=Xv func174
theorem Qtp:Xf prog 175:=Xv func175
theorem QbF:Xf prog 176:=Xv func176
theorem Qtq:Xf prog 177:=Xv func177
theorem Qel:Xf prog 178:=Xv func178
theorem Qim:Xf prog 179:=Xv func179
theorem Qvw:Xf prog 18:=Xv func18
theorem Qtr:Xf prog 180:=Xv func180
theorem Qn8:Xf prog 181:=Xv func181
theorem Qts:Xf prog 183:=Xv func183
theorem Qin:Xf prog 184:=Xv func184
theorem Qio:Xf prog 185:=Xv func185
theorem Qn9:Xf prog 186:=Xv func186
theorem Qtt:Xf prog 187:=Xv func187
theorem Qtu:Xf prog 188:=Xv func188
theorem QlV:Xf prog 19:=Xv func19
theorem Qtv:Xf prog 190:=Xv func190
theorem QkV:Xf prog 191:=Xv func191
theorem Qoa:Xf prog 192:=Xv func192
theorem Qtw:Xf prog 193:=Xv func193
theorem Qip:Xf prog 194:=Xv func194
theorem Qob:Xf prog 195:=Xv func195
theorem Qtx:Xf prog 196:=Xv func196
theorem Qgz:Xf prog 197:=Xv func197
theorem Qoc:Xf prog 198:=Xv func198
theorem Qty:Xf prog 199:=Xv func199
theorem QhS:Xf prog 20:=Xv func20
theorem Qod:Xf prog 200:=Xv func200
theorem Qem:Xf prog 204:=Xv func204
theorem QtA:Xf prog 205:=Xv func205
theorem QkW:Xf prog 209:=Xv func209
theorem QhT:Xf prog 21:=Xv func21
theorem QkX:Xf prog 215:=Xv func215
theorem QaI:Xf prog 22:=Xv func22
theorem QkY:Xf prog 226:=Xv func226
theorem Qoe:Xf prog 227:=Xv func227
theorem Qiq:Xf prog 228:=Xv func228
theorem QtB:Xf prog 229:=Xv func229
theorem Qsb:Xf prog 23:=Xv func23
theorem Qof:Xf prog 230:=Xv func230
theorem QkZ:Xf prog 231:=Xv func231
theorem Qir:Xf prog 232:=Xv func232
theorem Qbi:Xf prog 233:=Xv func233
theorem Qog:Xf prog 234:=Xv func234
theorem Qk0:Xf prog 235:=Xv func235
theorem QtC:Xf prog 236:=Xv func236
theorem QtD:Xf prog 237:=Xv func237
theorem QtE:Xf prog 238:=Xv func238
theorem Qis:Xf prog 239:=Xv func239
theorem Qvx:Xf prog 24:=Xv func24
theorem Qoh:Xf prog 240:=Xv func240
theorem QtF:Xf prog 241:=Xv func241
theorem QtG:Xf prog 242:=Xv func242
theorem QtH:Xf prog 243:=Xv func243
theorem QtI:Xf prog 244:=Xv func244
theorem QtJ:Xf prog 245:=Xv func245
theorem QgA:Xf prog 248:=Xv func248
theorem Qoi:Xf prog 249:=Xv func249
theorem QdX:Xf prog 25:=Xv func25
theorem Qoj:Xf prog 250:=Xv func250
theorem QtK:Xf prog 251:=Xv func251
theorem Qen:Xf prog 252:=Xv func252
theorem QtL:Xf prog 253:=Xv func253
theorem QtM:Xf prog 254:=Xv func254
theorem QtN:Xf prog 256:=Xv func256
theorem Qok:Xf prog 257:=Xv func257
theorem QtO:Xf prog 258:=Xv func258
theorem Qol:Xf prog 27:=Xv func27
theorem QtQ:Xf prog 271:=Xv func271
theorem Qit:Xf prog 275:=Xv func275
theorem Qk1:Xf prog 276:=Xv func276
theorem QtR:Xf prog 277:=Xv func277
theorem QtS:Xf prog 278:=Xv func278
theorem QtT:Xf prog 279:=Xv func279
theorem Qvy:Xf prog 28:=Xv func28
theorem Qom:Xf prog 288:=Xv func288
theorem Qon:Xf prog 289:=Xv func289
theorem Qvz:Xf prog 29:=Xv func29
theorem Qk2:Xf prog 291:=Xv func291
theorem QtU:Xf prog 292:=Xv func292
theorem QvA:Xf prog 30:=Xv func30
theorem Qoo:Xf prog 305:=Xv func305
theorem Qop:Xf prog 306:=Xv func306
theorem Qoq:Xf prog 307:=Xv func307
theorem Qsc:Xf prog 31:=Xv func31
theorem QtW:Xf prog 312:=Xv func312
theorem QjF:Xf prog 32:=Xv func32
theorem Qsd:Xf prog 33:=Xv func33
theorem Qch:Xf prog 34:=Xv func34
theorem QvB:Xf prog 35:=Xv func35
theorem Qse:Xf prog 36:=Xv func36
theorem Qsf:Xf prog 37:=Xv func37
theorem QgB:Xf prog 38:=Xv func38
theorem QvC:Xf prog 39:=Xv func39
theorem Qw5:Xf prog 4:=Xv func4
theorem Qda:Xf prog 40:=Xv func40
theorem QfJ:Xf prog 41:=Xv func41
theorem Qsg:Xf prog 42:=Xv func42
theorem QvD:Xf prog 43:=Xv func43
theorem QjG:Xf prog 44:=Xv func44
theorem QgC:Xf prog 45:=Xv func45
theorem QjH:Xf prog 46:=Xv func46
theorem Qor:Xf prog 47:=Xv func47
theorem Qae:Xf prog 48:=Xv func48
theorem QvE:Xf prog 49:=Xv func49
theorem Qos:Xf prog 5:=Xv func5
theorem QvF:Xf prog 50:=Xv func50
theorem QgD:Xf prog 54:=Xv func54
theorem QvH:Xf prog 55:=Xv func55
theorem Qot:Xf prog 56:=Xv func56
theorem Qou:Xf prog 57:=Xv func57
theorem QvI:Xf prog 58:=Xv func58
theorem QbG:Xf prog 59:=Xv func59
theorem Qw6:Xf prog 6:=Xv func6
theorem Qsh:Xf prog 60:=Xv func60
theorem Zg:Xf prog 61:=Xv func61
theorem Qov:Xf prog 63:=Xv func63
theorem QdY:Xf prog 64:=Xv func64
theorem QlW:Xf prog 65:=Xv func65
theorem QhU:Xf prog 66:=Xv func66
theorem QvJ:Xf prog 67:=Xv func67
theorem Qdb:Xf prog 68:=Xv func68
theorem Qsi:Xf prog 69:=Xv func69
theorem Qw7:Xf prog 7:=Xv func7
theorem QvK:Xf prog 70:=Xv func70
theorem QvL:Xf prog 71:=Xv func71
theorem QhV:Xf prog 72:=Xv func72
theorem QvM:Xf prog 73:=Xv func73
theorem QfK:Xf prog 74:=Xv func74
theorem QgE:Xf prog 75:=Xv func75
theorem QhW:Xf prog 76:=Xv func76
theorem QlX:Xf prog 77:=Xv func77
theorem Qsj:Xf prog 78:=Xv func78
theorem QlY:Xf prog 79:=Xv func79
theorem QdM:Xf prog 8:=Xv func8
theorem Qow:Xf prog 80:=Xv func80
theorem Qsk:Xf prog 81:=Xv func81
theorem Qsl:Xf prog 82:=Xv func82
theorem QvN:Xf prog 83:=Xv func83
theorem Qox:Xf prog 84:=Xv func84
theorem QjI:Xf prog 85:=Xv func85
theorem QeI:Xf prog 86:=Xv func86
theorem QvO:Xf prog 87:=Xv func87
theorem QlZ:Xf prog 88:=Xv func88
theorem QjJ:Xf prog 89:=Xv func89
theorem Qw8:Xf prog 9:=Xv func9
theorem QvP:Xf prog 90:=Xv func90
theorem Qsm:Xf prog 91:=Xv func91
theorem QfL:Xf prog 92:=Xv func92
theorem Qsn:Xf prog 93:=Xv func93
theorem QvQ:Xf prog 94:=Xv func94
theorem QvR:Xf prog 95:=Xv func95
theorem QjK:Xf prog 96:=Xv func96
theorem QvS:Xf prog 97:=Xv func97
theorem Qso:Xf prog 98:=Xv func98
theorem QcU:Xf prog 99:=Xv func99
theorem QiL: ∀a w,(Instr.fieldAt 103 (.pointer (some a)) 0).run prog w= .ok (.pointer (some (a.add 0))) w:=fun _ _=>by kernel_rfl
theorem QiM: ∀a w,(Instr.fieldAt 103 (.pointer (some a)) 1).run prog w= .ok (.pointer (some (a.add 3))) w:=fun _ _=>by kernel_rfl
theorem QgP: ∀a w,(Instr.fieldAt 103 (.pointer (some a)) 2).run prog w= .ok (.pointer (some (a.add 4))) w:=fun _ _=>by kernel_rfl
theorem Qfq: ∀a w,(Instr.fieldAt 181 (.pointer (some a)) 0).run prog w= .ok (.pointer (some (a.add 0))) w:=fun _ _=>by kernel_rfl
theorem Qbj: ∀a w,(Instr.fieldAt 181 (.pointer (some a)) 1).run prog w= .ok (.pointer (some (a.add 2))) w:=fun _ _=>by kernel_rfl
theorem Qo4: ∀a w,(Instr.fieldAt 232 (.pointer (some a)) 0).run prog w= .ok (.pointer (some (a.add 0))) w:=fun _ _=>by kernel_rfl
theorem Qdn: ∀a w,(Instr.fieldAt 232 (.pointer (some a)) 1).run prog w= .ok (.pointer (some (a.add 1))) w:=fun _ _=>by kernel_rfl
theorem QaN: ∀a w,(Instr.fieldAt 30 (.pointer (some a)) 0).run prog w= .ok (.pointer (some (a.add 0))) w:=fun _ _=>by kernel_rfl
theorem Zk: ∀a w,(Instr.fieldAt 30 (.pointer (some a)) 1).run prog w= .ok (.pointer (some (a.add 1))) w:=fun _ _=>by kernel_rfl
theorem Qo5: ∀a w,(Instr.fieldAt 41 (.pointer (some a)) 0).run prog w= .ok (.pointer (some (a.add 0))) w:=fun _ _=>by kernel_rfl
theorem Qo6: ∀a w,(Instr.fieldAt 41 (.pointer (some a)) 1).run prog w= .ok (.pointer (some (a.add 2))) w:=fun _ _=>by kernel_rfl
theorem QsC: ∀a w,(Instr.fieldAt 43 (.pointer (some a)) 0).run prog w= .ok (.pointer (some (a.add 0))) w:=fun _ _=>by kernel_rfl
theorem QsD: ∀a w,(Instr.fieldAt 43 (.pointer (some a)) 1).run prog w= .ok (.pointer (some (a.add 1))) w:=fun _ _=>by kernel_rfl
theorem QsE: ∀a w,(Instr.fieldAt 43 (.pointer (some a)) 2).run prog w= .ok (.pointer (some (a.add 4))) w:=fun _ _=>by kernel_rfl
theorem YQ: ∀a w,(Instr.fieldAt 50 (.pointer (some a)) 0).run prog w= .ok (.pointer (some (a.add 0))) w:=fun _ _=>by kernel_rfl
theorem Qbo: ∀a w,(Instr.fieldAt 50 (.pointer (some a)) 1).run prog w= .ok (.pointer (some (a.add 1))) w:=fun _ _=>by kernel_rfl
theorem Qbp: ∀a w,(Instr.fieldAt 50 (.pointer (some a)) 2).run prog w= .ok (.pointer (some (a.add 3))) w:=fun _ _=>by kernel_rfl
theorem Qbq: ∀a w,(Instr.fieldAt 66 (.pointer (some a)) 0).run prog w= .ok (.pointer (some (a.add 0))) w:=fun _ _=>by kernel_rfl
theorem QbL: ∀a w,(Instr.fieldAt 66 (.pointer (some a)) 1).run prog w= .ok (.pointer (some (a.add 3))) w:=fun _ _=>by kernel_rfl
theorem Qv5: ∀a w,(Instr.fieldAt 91 (.pointer (some a)) 0).run prog w= .ok (.pointer (some (a.add 0))) w:=fun _ _=>by kernel_rfl
theorem Qv6: ∀a w,(Instr.fieldAt 91 (.pointer (some a)) 1).run prog w= .ok (.pointer (some (a.add 1))) w:=fun _ _=>by kernel_rfl
theorem Qv7: ∀a w,(Instr.fieldAt 93 (.pointer (some a)) 0).run prog w= .ok (.pointer (some (a.add 0))) w:=fun _ _=>by kernel_rfl
theorem Qv8: ∀a w,(Instr.fieldAt 98 (.pointer (some a)) 0).run prog w= .ok (.pointer (some (a.add 0))) w:=fun _ _=>by kernel_rfl
theorem Qv9: ∀a w,(Instr.fieldAt 98 (.pointer (some a)) 1).run prog w= .ok (.pointer (some (a.add 1))) w:=fun _ _=>by kernel_rfl
theorem Qj8: ∀a w,(Instr.fieldAt 98 (.pointer (some a)) 2).run prog w= .ok (.pointer (some (a.add 2))) w:=fun _ _=>by kernel_rfl
theorem Qai:(prog.info? 123).map (fun i=>(i.zero,i.size,i.bytes))=some (some (.int .u32 (0)),1,4):=by kernel_rfl
theorem Qd4:(prog.info? 181).map (fun i=>(i.zero,i.size,i.bytes))=some (some (.agg #[.bool false,.slice none 0 0,.int .i64 (0),.int .i64 (0),.int .i64 (0),.int .i64 (0)]),6,64):=by kernel_rfl
theorem QsG:(prog.info? 198).map (fun i=>(i.zero,i.size,i.bytes))=some (some (.slice none 0 0),1,24):=by kernel_rfl
theorem Qwc:(prog.info? 2).map (fun i=>(i.zero,i.size,i.bytes))=some (some (.int .i64 (0)),1,8):=by kernel_rfl
theorem Qne:(prog.info? 25).map (fun i=>(i.zero,i.size,i.bytes))=some (some (.slice none 0 0),1,24):=by kernel_rfl
theorem QxV:(prog.info? 3).map (fun i=>(i.zero,i.size,i.bytes))=some (some (.int .i64 (0)),1,8):=by kernel_rfl
theorem QgT:(prog.info? 30).map (fun i=>(i.zero,i.size,i.bytes))=some (some (.agg #[.bool false,.slice none 0 0]),2,32):=by kernel_rfl
theorem QxN:(prog.info? 4).map (fun i=>(i.zero,i.size,i.bytes))=some (some (.bool false),1,1):=by kernel_rfl
theorem Qrf:(prog.info? 43).map (fun i=>(i.zero,i.size,i.bytes))=some (some (.agg #[.slice none 0 0,.bool false,.slice none 0 0,.slice none 0 0,.bool false,.slice none 0 0,.slice none 0 0]),7,136):=by kernel_rfl
theorem Qfs:(prog.info? 50).map (fun i=>(i.zero,i.size,i.bytes))=some (some (.agg #[.int .i64 (0),.bool false,.slice none 0 0,.slice none 0 0]),4,64):=by kernel_rfl
theorem Qnf:(prog.info? 66).map (fun i=>(i.zero,i.size,i.bytes))=some (some (.agg #[.bool false,.slice none 0 0,.slice none 0 0,.bool false,.slice none 0 0,.slice none 0 0]),6,112):=by kernel_rfl
theorem Qwd:(prog.info? 91).map (fun i=>(i.zero,i.size,i.bytes))=some (some (.agg #[.slice none 0 0,.int .i64 (0)]),2,32):=by kernel_rfl
theorem Qwe:(prog.info? 93).map (fun i=>(i.zero,i.size,i.bytes))=some (some (.agg #[.slice none 0 0,.int .i64 (0)]),2,32):=by kernel_rfl
theorem XV:QhH prog 123=true:=by kernel_rfl
theorem Qhb:QhH prog 136=true:=by kernel_rfl
theorem Qdt:QhH prog 151=true:=by kernel_rfl
theorem ZQ:QhH prog 152=true:=by kernel_rfl
theorem Qwx:QhH prog 198=true:=by kernel_rfl
theorem Qx0:QhH prog 2=true:=by kernel_rfl
theorem QsN:QhH prog 230=true:=by kernel_rfl
theorem QcZ:QhH prog 25=true:=by kernel_rfl
theorem Qam:QhH prog 28=true:=by kernel_rfl
theorem Qax:QhH prog 3=true:=by kernel_rfl
theorem Qc0:QhH prog 4=true:=by kernel_rfl
theorem QdP:QhH prog 48=true:=by kernel_rfl
theorem Qxo:QhH prog 57=true:=by kernel_rfl
theorem Qrz:QhH prog 63=true:=by kernel_rfl
theorem QlI: ∀w,(sizeOf 103).run prog w= .ok 5 w:=fun _=>by kernel_rfl
theorem Xz: ∀w,(sizeOf 123).run prog w= .ok 1 w:=fun _=>by kernel_rfl
theorem Qu4: ∀w,(sizeOf 136).run prog w= .ok 1 w:=fun _=>by kernel_rfl
theorem QhL: ∀w,(sizeOf 140).run prog w= .ok 4 w:=fun _=>by kernel_rfl
theorem QdS: ∀w,(sizeOf 151).run prog w= .ok 1 w:=fun _=>by kernel_rfl
theorem QdT: ∀w,(sizeOf 152).run prog w= .ok 1 w:=fun _=>by kernel_rfl
theorem Qby: ∀w,(sizeOf 181).run prog w= .ok 6 w:=fun _=>by kernel_rfl
theorem QxC: ∀w,(sizeOf 198).run prog w= .ok 1 w:=fun _=>by kernel_rfl
theorem sz2: ∀w,(sizeOf 2).run prog w= .ok 1 w:=fun _=>by kernel_rfl
theorem Qu5: ∀w,(sizeOf 25).run prog w= .ok 1 w:=fun _=>by kernel_rfl
theorem sz3: ∀w,(sizeOf 3).run prog w= .ok 1 w:=fun _=>by kernel_rfl
theorem Xp: ∀w,(sizeOf 30).run prog w= .ok 2 w:=fun _=>by kernel_rfl
theorem sz4: ∀w,(sizeOf 4).run prog w= .ok 1 w:=fun _=>by kernel_rfl
theorem Yn: ∀w,(sizeOf 41).run prog w= .ok 3 w:=fun _=>by kernel_rfl
theorem QnB: ∀w,(sizeOf 43).run prog w= .ok 7 w:=fun _=>by kernel_rfl
theorem XC: ∀w,(sizeOf 50).run prog w= .ok 4 w:=fun _=>by kernel_rfl
theorem QxD: ∀w,(sizeOf 63).run prog w= .ok 1 w:=fun _=>by kernel_rfl
theorem QbV: ∀w,(sizeOf 66).run prog w= .ok 6 w:=fun _=>by kernel_rfl
theorem QxE: ∀w,(sizeOf 91).run prog w= .ok 2 w:=fun _=>by kernel_rfl
theorem QxF: ∀w,(sizeOf 93).run prog w= .ok 2 w:=fun _=>by kernel_rfl
theorem Qyd: ∀w,(sizeOf 98).run prog w= .ok 3 w:=fun _=>by kernel_rfl
theorem Qqu: ∀w,(zeroValue 103).run prog w= .ok (.agg #[.bool false,.slice none 0 0,.slice none 0 0,.int .i64 (0),.bool false]) w:=fun _=>by kernel_rfl
theorem Qjx: ∀w,(zeroValue 123).run prog w= .ok (.int .u32 (0)) w:=fun _=>by kernel_rfl
theorem Qvh: ∀w,(zeroValue 151).run prog w= .ok (.slice none 0 0) w:=fun _=>by kernel_rfl
theorem Qvi: ∀w,(zeroValue 152).run prog w= .ok (.slice none 0 0) w:=fun _=>by kernel_rfl
theorem Qqv: ∀w,(zeroValue 181).run prog w= .ok (.agg #[.bool false,.slice none 0 0,.int .i64 (0),.int .i64 (0),.int .i64 (0),.int .i64 (0)]) w:=fun _=>by kernel_rfl
theorem QwS: ∀w,(zeroValue 25).run prog w= .ok (.slice none 0 0) w:=fun _=>by kernel_rfl
theorem Qvj: ∀w,(zeroValue 3).run prog w= .ok (.int .i64 (0)) w:=fun _=>by kernel_rfl
theorem XE: ∀w,(zeroValue 30).run prog w= .ok (.agg #[.bool false,.slice none 0 0]) w:=fun _=>by kernel_rfl
theorem ZA: ∀w,(zeroValue 41).run prog w= .ok (.agg #[.bool false,.slice none 0 0,.slice none 0 0]) w:=fun _=>by kernel_rfl
theorem QsX: ∀w,(zeroValue 43).run prog w= .ok (.agg #[.slice none 0 0,.bool false,.slice none 0 0,.slice none 0 0,.bool false,.slice none 0 0,.slice none 0 0]) w:=fun _=>by kernel_rfl
theorem Yh: ∀w,(zeroValue 50).run prog w= .ok (.agg #[.int .i64 (0),.bool false,.slice none 0 0,.slice none 0 0]) w:=fun _=>by kernel_rfl
theorem QdC: ∀w,(zeroValue 66).run prog w= .ok (.agg #[.bool false,.slice none 0 0,.slice none 0 0,.bool false,.slice none 0 0,.slice none 0 0]) w:=fun _=>by kernel_rfl
theorem QwT: ∀w,(zeroValue 91).run prog w= .ok (.agg #[.slice none 0 0,.int .i64 (0)]) w:=fun _=>by kernel_rfl
theorem QwU: ∀w,(zeroValue 93).run prog w= .ok (.agg #[.slice none 0 0,.int .i64 (0)]) w:=fun _=>by kernel_rfl
theorem QwV: ∀w,(zeroValue 98).run prog w= .ok (.agg #[.slice none 0 0,.slice none 0 0,.slice none 0 0]) w:=fun _=>by kernel_rfl
end Go.Proofs.YtnkfdkhjaklolaaGreatDoor

namespace Go.Proofs.YtnkfdkhjaklolaaGreatDoor
open Go.Gx Tryz
theorem Qs6:Xf prog 110:=Xv func110
theorem Qtn:Xf prog 164:=Xv func164
theorem Qtz:Xf prog 201:=Xv func201
theorem QtP:Xf prog 259:=Xv func259
theorem QtV:Xf prog 295:=Xv func295
theorem QvG:Xf prog 51:=Xv func51
end Go.Proofs.YtnkfdkhjaklolaaGreatDoor
