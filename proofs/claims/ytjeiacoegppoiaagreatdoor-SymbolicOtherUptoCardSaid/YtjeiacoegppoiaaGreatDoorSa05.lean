/- Parts of the proof, 5: the texts Facts, FactsD, RatQ, Val, NatM, FwI, Knuth, Qz, as far as they are used. -/
import Derived.Test.YtjeiacoegppoiaaGreatDoorSa04
import Derived.Test.YtjeiacoegppoiaaGreatDoorProg
import Derived.KernelRfl
set_option linter.unusedSimpArgs false
set_option linter.unusedVariables false
set_option maxRecDepth 10000
namespace Go.Proofs.YtjeiacoegppoiaaGreatDoor
open Go Rc
theorem follows:Tryz.prog.follows .mixedOrders=true:=by kernel_rfl
theorem fk_{f:Nat}{fn:Func}(h:Tryz.prog.funcs[f]? = some fn)(h1:fn.body.isNone = false:=by kernel_rfl)(h2:(fn.name == "runtime.NumGoroutine") = false:=by kernel_rfl):zar Tryz.prog f:=⟨fn,h,h1,h2⟩
theorem tk_{t n:Nat}{b:Bool}(h1:(Tryz.prog.underlying t).map aggD = some b:=by kernel_rfl)(h2:(Tryz.prog.info? t).map (·.size) = some n:=by kernel_rfl):TyIs Tryz.prog t b n:=⟨h1,h2⟩
theorem zAx:zar Tryz.prog 11:=fk_ Tryz.func11
theorem fn12:zar Tryz.prog 12:=fk_ Tryz.func12
theorem zC9:zar Tryz.prog 13:=fk_ Tryz.func13
theorem zEj:zar Tryz.prog 14:=fk_ Tryz.func14
theorem zC4:zar Tryz.prog 15:=fk_ Tryz.func15
theorem fn16:zar Tryz.prog 16:=fk_ Tryz.func16
theorem fn17:zar Tryz.prog 17:=fk_ Tryz.func17
theorem zEi:zar Tryz.prog 18:=fk_ Tryz.func18
theorem zuH:zar Tryz.prog 19:=fk_ Tryz.func19
theorem fn20:zar Tryz.prog 20:=fk_ Tryz.func20
theorem zr3:zar Tryz.prog 21:=fk_ Tryz.func21
theorem fn22:zar Tryz.prog 22:=fk_ Tryz.func22
theorem zr1:zar Tryz.prog 23:=fk_ Tryz.func23
theorem zwD:zar Tryz.prog 24:=fk_ Tryz.func24
theorem zzi:zar Tryz.prog 29:=fk_ Tryz.func29
theorem zAw:zar Tryz.prog 31:=fk_ Tryz.func31
theorem fn34:zar Tryz.prog 34:=fk_ Tryz.func34
theorem fn35:zar Tryz.prog 35:=fk_ Tryz.func35
theorem fn36:zar Tryz.prog 36:=fk_ Tryz.func36
theorem fn37:zar Tryz.prog 37:=fk_ Tryz.func37
theorem fn38:zar Tryz.prog 38:=fk_ Tryz.func38
theorem zzh:zar Tryz.prog 40:=fk_ Tryz.func40
theorem fn41:zar Tryz.prog 41:=fk_ Tryz.func41
theorem fn43:zar Tryz.prog 43:=fk_ Tryz.func43
theorem zmA:zar Tryz.prog 44:=fk_ Tryz.func44
theorem zCG:zar Tryz.prog 46:=fk_ Tryz.func46
theorem zAv:zar Tryz.prog 47:=fk_ Tryz.func47
theorem zAu:zar Tryz.prog 48:=fk_ Tryz.func48
theorem zzg:zar Tryz.prog 49:=fk_ Tryz.func49
theorem fn50:zar Tryz.prog 50:=fk_ Tryz.func50
theorem fn51:zar Tryz.prog 51:=fk_ Tryz.func51
theorem ziB:zar Tryz.prog 52:=fk_ Tryz.func52
theorem fn53:zar Tryz.prog 53:=fk_ Tryz.func53
theorem fn54:zar Tryz.prog 54:=fk_ Tryz.func54
theorem fn55:zar Tryz.prog 55:=fk_ Tryz.func55
theorem zzf:zar Tryz.prog 56:=fk_ Tryz.func56
theorem fn57:zar Tryz.prog 57:=fk_ Tryz.func57
theorem fn58:zar Tryz.prog 58:=fk_ Tryz.func58
theorem fn59:zar Tryz.prog 59:=fk_ Tryz.func59
theorem fn60:zar Tryz.prog 60:=fk_ Tryz.func60
theorem fn61:zar Tryz.prog 61:=fk_ Tryz.func61
theorem fn62:zar Tryz.prog 62:=fk_ Tryz.func62
theorem zCF:zar Tryz.prog 63:=fk_ Tryz.func63
theorem zqh:zar Tryz.prog 64:=fk_ Tryz.func64
theorem fn65:zar Tryz.prog 65:=fk_ Tryz.func65
theorem zze:zar Tryz.prog 66:=fk_ Tryz.func66
theorem zwC:zar Tryz.prog 67:=fk_ Tryz.func67
theorem zzd:zar Tryz.prog 68:=fk_ Tryz.func68
theorem fn71:zar Tryz.prog 71:=fk_ Tryz.func71
theorem zmz:zar Tryz.prog 72:=fk_ Tryz.func72
theorem zg9:zar Tryz.prog 74:=fk_ Tryz.func74
theorem ztA:zar Tryz.prog 76:=fk_ Tryz.func76
theorem fn79:zar Tryz.prog 79:=fk_ Tryz.func79
theorem fn80:zar Tryz.prog 80:=fk_ Tryz.func80
theorem fn81:zar Tryz.prog 81:=fk_ Tryz.func81
theorem fn82:zar Tryz.prog 82:=fk_ Tryz.func82
theorem fn83:zar Tryz.prog 83:=fk_ Tryz.func83
theorem fn85:zar Tryz.prog 85:=fk_ Tryz.func85
theorem zCE:zar Tryz.prog 86:=fk_ Tryz.func86
theorem zCD:zar Tryz.prog 87:=fk_ Tryz.func87
theorem zCC:zar Tryz.prog 88:=fk_ Tryz.func88
theorem fn89:zar Tryz.prog 89:=fk_ Tryz.func89
theorem zuE:zar Tryz.prog 90:=fk_ Tryz.func90
theorem fn91:zar Tryz.prog 91:=fk_ Tryz.func91
theorem fn92:zar Tryz.prog 92:=fk_ Tryz.func92
theorem zAt:zar Tryz.prog 93:=fk_ Tryz.func93
theorem fn94:zar Tryz.prog 94:=fk_ Tryz.func94
theorem zr0:zar Tryz.prog 95:=fk_ Tryz.func95
theorem fn96:zar Tryz.prog 96:=fk_ Tryz.func96
theorem fn98:zar Tryz.prog 98:=fk_ Tryz.func98
theorem zAs:zar Tryz.prog 99:=fk_ Tryz.func99
theorem zho:zar Tryz.prog 100:=fk_ Tryz.func100
theorem zsa:zar Tryz.prog 101:=fk_ Tryz.func101
theorem zzp:zar Tryz.prog 102:=fk_ Tryz.func102
theorem fn103:zar Tryz.prog 103:=fk_ Tryz.func103
theorem zjk:zar Tryz.prog 104:=fk_ Tryz.func104
theorem fn105:zar Tryz.prog 105:=fk_ Tryz.func105
theorem zuP:zar Tryz.prog 106:=fk_ Tryz.func106
theorem zzo:zar Tryz.prog 107:=fk_ Tryz.func107
theorem zDg:zar Tryz.prog 108:=fk_ Tryz.func108
theorem zDf:zar Tryz.prog 109:=fk_ Tryz.func109
theorem zDe:zar Tryz.prog 110:=fk_ Tryz.func110
theorem fn111:zar Tryz.prog 111:=fk_ Tryz.func111
theorem fn112:zar Tryz.prog 112:=fk_ Tryz.func112
theorem zzn:zar Tryz.prog 113:=fk_ Tryz.func113
theorem zuO:zar Tryz.prog 114:=fk_ Tryz.func114
theorem zzm:zar Tryz.prog 115:=fk_ Tryz.func115
theorem fn116:zar Tryz.prog 116:=fk_ Tryz.func116
theorem fn117:zar Tryz.prog 117:=fk_ Tryz.func117
theorem fn120:zar Tryz.prog 120:=fk_ Tryz.func120
theorem fn121:zar Tryz.prog 121:=fk_ Tryz.func121
theorem zr9:zar Tryz.prog 122:=fk_ Tryz.func122
theorem fn123:zar Tryz.prog 123:=fk_ Tryz.func123
theorem zDd:zar Tryz.prog 124:=fk_ Tryz.func124
theorem zDc:zar Tryz.prog 125:=fk_ Tryz.func125
theorem zDb:zar Tryz.prog 126:=fk_ Tryz.func126
theorem zDa:zar Tryz.prog 127:=fk_ Tryz.func127
theorem fn128:zar Tryz.prog 128:=fk_ Tryz.func128
theorem zuN:zar Tryz.prog 129:=fk_ Tryz.func129
theorem zkG:zar Tryz.prog 130:=fk_ Tryz.func130
theorem fn131:zar Tryz.prog 131:=fk_ Tryz.func131
theorem fn132:zar Tryz.prog 132:=fk_ Tryz.func132
theorem zlZ:zar Tryz.prog 133:=fk_ Tryz.func133
theorem zge:zar Tryz.prog 134:=fk_ Tryz.func134
theorem zC8:zar Tryz.prog 135:=fk_ Tryz.func135
theorem fn136:zar Tryz.prog 136:=fk_ Tryz.func136
theorem zzl:zar Tryz.prog 137:=fk_ Tryz.func137
theorem zC7:zar Tryz.prog 138:=fk_ Tryz.func138
theorem zne:zar Tryz.prog 139:=fk_ Tryz.func139
theorem fn140:zar Tryz.prog 140:=fk_ Tryz.func140
theorem zkF:zar Tryz.prog 141:=fk_ Tryz.func141
theorem zjj:zar Tryz.prog 142:=fk_ Tryz.func142
theorem fn143:zar Tryz.prog 143:=fk_ Tryz.func143
theorem zr8:zar Tryz.prog 144:=fk_ Tryz.func144
theorem zC6:zar Tryz.prog 146:=fk_ Tryz.func146
theorem zC5:zar Tryz.prog 147:=fk_ Tryz.func147
theorem zuM:zar Tryz.prog 148:=fk_ Tryz.func148
theorem fn149:zar Tryz.prog 149:=fk_ Tryz.func149
theorem zC3:zar Tryz.prog 150:=fk_ Tryz.func150
theorem fn151:zar Tryz.prog 151:=fk_ Tryz.func151
theorem fn152:zar Tryz.prog 152:=fk_ Tryz.func152
theorem zkE:zar Tryz.prog 153:=fk_ Tryz.func153
theorem fn154:zar Tryz.prog 154:=fk_ Tryz.func154
theorem fn155:zar Tryz.prog 155:=fk_ Tryz.func155
theorem zC2:zar Tryz.prog 156:=fk_ Tryz.func156
theorem zC1:zar Tryz.prog 157:=fk_ Tryz.func157
theorem fn158:zar Tryz.prog 158:=fk_ Tryz.func158
theorem fn159:zar Tryz.prog 159:=fk_ Tryz.func159
theorem zC0:zar Tryz.prog 160:=fk_ Tryz.func160
theorem fn161:zar Tryz.prog 161:=fk_ Tryz.func161
theorem fn162:zar Tryz.prog 162:=fk_ Tryz.func162
theorem fn163:zar Tryz.prog 163:=fk_ Tryz.func163
theorem fn164:zar Tryz.prog 164:=fk_ Tryz.func164
theorem zpU:zar Tryz.prog 166:=fk_ Tryz.func166
theorem zuL:zar Tryz.prog 167:=fk_ Tryz.func167
theorem fn168:zar Tryz.prog 168:=fk_ Tryz.func168
theorem zCZ:zar Tryz.prog 169:=fk_ Tryz.func169
theorem fn170:zar Tryz.prog 170:=fk_ Tryz.func170
theorem fn171:zar Tryz.prog 171:=fk_ Tryz.func171
theorem zkD:zar Tryz.prog 172:=fk_ Tryz.func172
theorem zkC:zar Tryz.prog 173:=fk_ Tryz.func173
theorem zuK:zar Tryz.prog 174:=fk_ Tryz.func174
theorem zr7:zar Tryz.prog 175:=fk_ Tryz.func175
theorem zCY:zar Tryz.prog 176:=fk_ Tryz.func176
theorem zuJ:zar Tryz.prog 177:=fk_ Tryz.func177
theorem zCX:zar Tryz.prog 178:=fk_ Tryz.func178
theorem fn179:zar Tryz.prog 179:=fk_ Tryz.func179
theorem zr6:zar Tryz.prog 180:=fk_ Tryz.func180
theorem zpT:zar Tryz.prog 181:=fk_ Tryz.func181
theorem zji:zar Tryz.prog 182:=fk_ Tryz.func182
theorem zr5:zar Tryz.prog 183:=fk_ Tryz.func183
theorem fn184:zar Tryz.prog 184:=fk_ Tryz.func184
theorem fn186:zar Tryz.prog 186:=fk_ Tryz.func186
theorem zuI:zar Tryz.prog 187:=fk_ Tryz.func187
theorem fn188:zar Tryz.prog 188:=fk_ Tryz.func188
theorem zCW:zar Tryz.prog 189:=fk_ Tryz.func189
theorem zCV:zar Tryz.prog 190:=fk_ Tryz.func190
theorem zuG:zar Tryz.prog 191:=fk_ Tryz.func191
theorem zCU:zar Tryz.prog 192:=fk_ Tryz.func192
theorem fn193:zar Tryz.prog 193:=fk_ Tryz.func193
theorem fn194:zar Tryz.prog 194:=fk_ Tryz.func194
theorem fn195:zar Tryz.prog 195:=fk_ Tryz.func195
theorem fn196:zar Tryz.prog 196:=fk_ Tryz.func196
theorem zCT:zar Tryz.prog 197:=fk_ Tryz.func197
theorem zhn:zar Tryz.prog 198:=fk_ Tryz.func198
theorem zeY:zar Tryz.prog 199:=fk_ Tryz.func199
theorem zpS:zar Tryz.prog 200:=fk_ Tryz.func200
theorem zpR:zar Tryz.prog 201:=fk_ Tryz.func201
theorem fn202:zar Tryz.prog 202:=fk_ Tryz.func202
theorem zr4:zar Tryz.prog 203:=fk_ Tryz.func203
theorem fn205:zar Tryz.prog 205:=fk_ Tryz.func205
theorem fn206:zar Tryz.prog 206:=fk_ Tryz.func206
theorem fn207:zar Tryz.prog 207:=fk_ Tryz.func207
theorem fn208:zar Tryz.prog 208:=fk_ Tryz.func208
theorem zCS:zar Tryz.prog 209:=fk_ Tryz.func209
theorem znd:zar Tryz.prog 210:=fk_ Tryz.func210
theorem zCR:zar Tryz.prog 211:=fk_ Tryz.func211
theorem zpQ:zar Tryz.prog 212:=fk_ Tryz.func212
theorem zCQ:zar Tryz.prog 213:=fk_ Tryz.func213
theorem zCP:zar Tryz.prog 214:=fk_ Tryz.func214
theorem zr2:zar Tryz.prog 215:=fk_ Tryz.func215
theorem zjh:zar Tryz.prog 216:=fk_ Tryz.func216
theorem fn217:zar Tryz.prog 217:=fk_ Tryz.func217
theorem fn218:zar Tryz.prog 218:=fk_ Tryz.func218
theorem zcN:zar Tryz.prog 219:=fk_ Tryz.func219
theorem fn220:zar Tryz.prog 220:=fk_ Tryz.func220
theorem zCO:zar Tryz.prog 221:=fk_ Tryz.func221
theorem fn222:zar Tryz.prog 222:=fk_ Tryz.func222
theorem zpP:zar Tryz.prog 223:=fk_ Tryz.func223
theorem fn224:zar Tryz.prog 224:=fk_ Tryz.func224
theorem zpO:zar Tryz.prog 225:=fk_ Tryz.func225
theorem zCN:zar Tryz.prog 228:=fk_ Tryz.func228
theorem zzk:zar Tryz.prog 229:=fk_ Tryz.func229
theorem zCM:zar Tryz.prog 230:=fk_ Tryz.func230
theorem zCL:zar Tryz.prog 231:=fk_ Tryz.func231
theorem zpN:zar Tryz.prog 232:=fk_ Tryz.func232
theorem znc:zar Tryz.prog 233:=fk_ Tryz.func233
theorem zjg:zar Tryz.prog 234:=fk_ Tryz.func234
theorem znb:zar Tryz.prog 235:=fk_ Tryz.func235
theorem zuF:zar Tryz.prog 236:=fk_ Tryz.func236
theorem fn237:zar Tryz.prog 237:=fk_ Tryz.func237
theorem fn238:zar Tryz.prog 238:=fk_ Tryz.func238
theorem fn239:zar Tryz.prog 239:=fk_ Tryz.func239
theorem zpM:zar Tryz.prog 240:=fk_ Tryz.func240
theorem fn241:zar Tryz.prog 241:=fk_ Tryz.func241
theorem fn242:zar Tryz.prog 242:=fk_ Tryz.func242
theorem fn243:zar Tryz.prog 243:=fk_ Tryz.func243
theorem fn244:zar Tryz.prog 244:=fk_ Tryz.func244
theorem zCK:zar Tryz.prog 245:=fk_ Tryz.func245
theorem zCJ:zar Tryz.prog 246:=fk_ Tryz.func246
theorem fn247:zar Tryz.prog 247:=fk_ Tryz.func247
theorem fn248:zar Tryz.prog 248:=fk_ Tryz.func248
theorem zzj:zar Tryz.prog 249:=fk_ Tryz.func249
theorem fn250:zar Tryz.prog 250:=fk_ Tryz.func250
theorem fn251:zar Tryz.prog 251:=fk_ Tryz.func251
theorem zCI:zar Tryz.prog 252:=fk_ Tryz.func252
theorem fn254:zar Tryz.prog 254:=fk_ Tryz.func254
theorem fn255:zar Tryz.prog 255:=fk_ Tryz.func255
theorem fn256:zar Tryz.prog 256:=fk_ Tryz.func256
theorem fn258:zar Tryz.prog 258:=fk_ Tryz.func258
theorem fn259:zar Tryz.prog 259:=fk_ Tryz.func259
theorem zCH:zar Tryz.prog 275:=fk_ Tryz.func275
theorem fn276:zar Tryz.prog 276:=fk_ Tryz.func276
theorem fn277:zar Tryz.prog 277:=fk_ Tryz.func277
theorem zCB:zah Tryz.prog 28 0=some (0,1):=by kernel_rfl
theorem zCA:zah Tryz.prog 28 1=some (1,1):=by kernel_rfl
theorem zCz:zah Tryz.prog 28 2=some (2,1):=by kernel_rfl
theorem zCy:zah Tryz.prog 31 0=some (0,1):=by kernel_rfl
theorem zCx:zah Tryz.prog 31 1=some (1,1):=by kernel_rfl
theorem zCw:zah Tryz.prog 31 2=some (2,1):=by kernel_rfl
theorem zCv:zah Tryz.prog 36 0=some (0,1):=by kernel_rfl
theorem zCu:zah Tryz.prog 36 1=some (1,1):=by kernel_rfl
theorem zCt:zah Tryz.prog 36 2=some (2,1):=by kernel_rfl
theorem zCs:zah Tryz.prog 38 0=some (0,1):=by kernel_rfl
theorem zCr:zah Tryz.prog 38 1=some (1,3):=by kernel_rfl
theorem zCq:zah Tryz.prog 40 0=some (0,3):=by kernel_rfl
theorem zCp:zah Tryz.prog 40 1=some (3,3):=by kernel_rfl
theorem zCo:zah Tryz.prog 40 2=some (6,4):=by kernel_rfl
theorem zCn:zah Tryz.prog 43 0=some (0,10):=by kernel_rfl
theorem zCm:zah Tryz.prog 43 1=some (10,1):=by kernel_rfl
theorem zCl:zah Tryz.prog 43 2=some (11,1):=by kernel_rfl
theorem zCk:zah Tryz.prog 76 0=some (0,1):=by kernel_rfl
theorem zCj:zah Tryz.prog 76 1=some (1,1):=by kernel_rfl
theorem zCi:zah Tryz.prog 76 2=some (2,3):=by kernel_rfl
theorem zCh:zah Tryz.prog 79 0=some (0,3):=by kernel_rfl
theorem zCg:zah Tryz.prog 79 1=some (3,3):=by kernel_rfl
theorem zzc:zah Tryz.prog 103 0=some (0,1):=by kernel_rfl
theorem zzb:zah Tryz.prog 103 1=some (1,3):=by kernel_rfl
theorem zza:zah Tryz.prog 105 0=some (0,1):=by kernel_rfl
theorem zy9:zah Tryz.prog 105 1=some (1,1):=by kernel_rfl
theorem zy8:zah Tryz.prog 105 2=some (2,3):=by kernel_rfl
theorem zy7:zah Tryz.prog 105 3=some (5,1):=by kernel_rfl
theorem zy6:zah Tryz.prog 107 0=some (0,1):=by kernel_rfl
theorem zy5:zah Tryz.prog 107 1=some (1,1):=by kernel_rfl
theorem zy4:zah Tryz.prog 107 2=some (2,1):=by kernel_rfl
theorem zy3:zah Tryz.prog 107 3=some (3,1):=by kernel_rfl
theorem zy2:zah Tryz.prog 109 0=some (0,4):=by kernel_rfl
theorem zy1:zah Tryz.prog 109 1=some (4,3):=by kernel_rfl
theorem zy0:zah Tryz.prog 118 0=some (0,4):=by kernel_rfl
theorem zyZ:zah Tryz.prog 118 1=some (4,4):=by kernel_rfl
theorem zyY:zah Tryz.prog 118 2=some (8,3):=by kernel_rfl
theorem zyX:zah Tryz.prog 150 0=some (0,3):=by kernel_rfl
theorem zyW:zah Tryz.prog 150 1=some (3,1):=by kernel_rfl
theorem zyV:zah Tryz.prog 150 2=some (4,1):=by kernel_rfl
theorem zyU:zah Tryz.prog 155 0=some (0,1):=by kernel_rfl
theorem zyT:zah Tryz.prog 155 1=some (1,1):=by kernel_rfl
theorem zyS:zah Tryz.prog 158 0=some (0,1):=by kernel_rfl
theorem zyR:zah Tryz.prog 158 1=some (1,1):=by kernel_rfl
theorem zyQ:zah Tryz.prog 193 0=some (0,1):=by kernel_rfl
theorem zyP:zah Tryz.prog 193 1=some (1,1):=by kernel_rfl
theorem zyO:zah Tryz.prog 198 0=some (0,1):=by kernel_rfl
theorem zyN:zah Tryz.prog 198 1=some (1,1):=by kernel_rfl
theorem zyM:zah Tryz.prog 198 2=some (2,1):=by kernel_rfl
theorem zyL:zah Tryz.prog 224 0=some (0,12):=by kernel_rfl
theorem zyK:zah Tryz.prog 224 1=some (12,1):=by kernel_rfl
theorem zCe:zat Tryz.prog 28 0=some (0,3):=by kernel_rfl
theorem zCd:zat Tryz.prog 28 1=some (1,26):=by kernel_rfl
theorem zCc:zat Tryz.prog 28 2=some (2,26):=by kernel_rfl
theorem zCb:zat Tryz.prog 31 0=some (0,29):=by kernel_rfl
theorem zCa:zat Tryz.prog 31 1=some (1,29):=by kernel_rfl
theorem zB9:zat Tryz.prog 31 2=some (2,26):=by kernel_rfl
theorem zB8:zat Tryz.prog 36 0=some (0,4):=by kernel_rfl
theorem zB7:zat Tryz.prog 36 1=some (1,34):=by kernel_rfl
theorem zB6:zat Tryz.prog 36 2=some (2,34):=by kernel_rfl
theorem zB5:zat Tryz.prog 38 0=some (0,32):=by kernel_rfl
theorem zB4:zat Tryz.prog 38 1=some (1,36):=by kernel_rfl
theorem zB3:zat Tryz.prog 40 0=some (0,28):=by kernel_rfl
theorem zB2:zat Tryz.prog 40 1=some (3,31):=by kernel_rfl
theorem zB1:zat Tryz.prog 40 2=some (6,38):=by kernel_rfl
theorem zB0:zat Tryz.prog 43 0=some (0,40):=by kernel_rfl
theorem zBZ:zat Tryz.prog 43 1=some (10,41):=by kernel_rfl
theorem zBY:zat Tryz.prog 43 2=some (11,23):=by kernel_rfl
theorem zBX:zat Tryz.prog 76 0=some (0,3):=by kernel_rfl
theorem zBW:zat Tryz.prog 76 1=some (1,3):=by kernel_rfl
theorem zBV:zat Tryz.prog 76 2=some (2,36):=by kernel_rfl
theorem zBU:zat Tryz.prog 79 0=some (0,36):=by kernel_rfl
theorem zBT:zat Tryz.prog 79 1=some (3,36):=by kernel_rfl
theorem zyJ:zat Tryz.prog 103 0=some (0,3):=by kernel_rfl
theorem zyI:zat Tryz.prog 103 1=some (1,36):=by kernel_rfl
theorem zyH:zat Tryz.prog 105 0=some (0,3):=by kernel_rfl
theorem zyG:zat Tryz.prog 105 1=some (1,4):=by kernel_rfl
theorem zyF:zat Tryz.prog 105 2=some (2,36):=by kernel_rfl
theorem zyE:zat Tryz.prog 105 3=some (5,46):=by kernel_rfl
theorem zyD:zat Tryz.prog 107 0=some (0,3):=by kernel_rfl
theorem zyC:zat Tryz.prog 107 1=some (1,3):=by kernel_rfl
theorem zyB:zat Tryz.prog 107 2=some (2,3):=by kernel_rfl
theorem zyA:zat Tryz.prog 107 3=some (3,3):=by kernel_rfl
theorem zyz:zat Tryz.prog 109 0=some (0,107):=by kernel_rfl
theorem zyy:zat Tryz.prog 109 1=some (4,36):=by kernel_rfl
theorem zyx:zat Tryz.prog 118 0=some (0,38):=by kernel_rfl
theorem zyw:zat Tryz.prog 118 1=some (4,107):=by kernel_rfl
theorem zyv:zat Tryz.prog 118 2=some (8,36):=by kernel_rfl
theorem zyu:zat Tryz.prog 150 0=some (0,36):=by kernel_rfl
theorem zyt:zat Tryz.prog 150 1=some (3,46):=by kernel_rfl
theorem zys:zat Tryz.prog 150 2=some (4,4):=by kernel_rfl
theorem zyr:zat Tryz.prog 155 0=some (0,4):=by kernel_rfl
theorem zyq:zat Tryz.prog 155 1=some (1,34):=by kernel_rfl
theorem zyp:zat Tryz.prog 158 0=some (0,22):=by kernel_rfl
theorem zyo:zat Tryz.prog 158 1=some (1,3):=by kernel_rfl
theorem zyn:zat Tryz.prog 193 0=some (0,87):=by kernel_rfl
theorem zym:zat Tryz.prog 193 1=some (1,87):=by kernel_rfl
theorem zyl:zat Tryz.prog 198 0=some (0,4):=by kernel_rfl
theorem zyk:zat Tryz.prog 198 1=some (1,34):=by kernel_rfl
theorem zyj:zat Tryz.prog 198 2=some (2,3):=by kernel_rfl
theorem zyi:zat Tryz.prog 224 0=some (0,43):=by kernel_rfl
theorem zyh:zat Tryz.prog 224 1=some (12,222):=by kernel_rfl
theorem in2:∃i:TypeInfo,Tryz.prog.info? 2=some i/\i.zero=some (.int .i64 0)/\i.size=1/\i.bytes=8:=(info_parts (by kernel_rfl))
theorem in3:∃i:TypeInfo,Tryz.prog.info? 3=some i/\i.zero=some (.int .i64 0)/\i.size=1/\i.bytes=8:=(info_parts (by kernel_rfl))
theorem in4:∃i:TypeInfo,Tryz.prog.info? 4=some i/\i.zero=some (.bool false)/\i.size=1/\i.bytes=1:=(info_parts (by kernel_rfl))
theorem in5:∃i:TypeInfo,Tryz.prog.info? 5=some i/\i.zero=some (.int .u8 0)/\i.size=1/\i.bytes=1:=(info_parts (by kernel_rfl))
theorem in9:∃i:TypeInfo,Tryz.prog.info? 9=some i/\i.zero=some (.string ⟨#[]⟩)/\i.size=1/\i.bytes=16:=(info_parts (by kernel_rfl))
theorem in12:∃i:TypeInfo,Tryz.prog.info? 12=some i/\i.zero=some (.int .u64 0)/\i.size=1/\i.bytes=8:=(info_parts (by kernel_rfl))
theorem in21:∃i:TypeInfo,Tryz.prog.info? 21=some i/\i.zero=some (.int .i32 0)/\i.size=1/\i.bytes=4:=(info_parts (by kernel_rfl))
theorem in22:∃i:TypeInfo,Tryz.prog.info? 22=some i/\i.zero=some (.slice none 0 0)/\i.size=1/\i.bytes=24:=(info_parts (by kernel_rfl))
theorem in23:∃i:TypeInfo,Tryz.prog.info? 23=some i/\i.zero=some (.slice none 0 0)/\i.size=1/\i.bytes=24:=(info_parts (by kernel_rfl))
theorem in26:∃i:TypeInfo,Tryz.prog.info? 26=some i/\i.zero=some (.slice none 0 0)/\i.size=1/\i.bytes=24:=(info_parts (by kernel_rfl))
theorem in28:∃i:TypeInfo,Tryz.prog.info? 28=some i/\i.zero=some (.agg #[.int .i64 0,.slice none 0 0,.slice none 0 0])/\i.size=3/\i.bytes=56:=(info_parts (by kernel_rfl))
theorem in29:∃i:TypeInfo,Tryz.prog.info? 29=some i/\i.zero=some (.slice none 0 0)/\i.size=1/\i.bytes=24:=(info_parts (by kernel_rfl))
theorem in31:∃i:TypeInfo,Tryz.prog.info? 31=some i/\i.zero=some (.agg #[.slice none 0 0,.slice none 0 0,.slice none 0 0])/\i.size=3/\i.bytes=72:=(info_parts (by kernel_rfl))
theorem in32:∃i:TypeInfo,Tryz.prog.info? 32=some i/\i.zero=some (.slice none 0 0)/\i.size=1/\i.bytes=24:=(info_parts (by kernel_rfl))
theorem in33:∃i:TypeInfo,Tryz.prog.info? 33=some i/\i.zero=some (.slice none 0 0)/\i.size=1/\i.bytes=24:=(info_parts (by kernel_rfl))
theorem in34:∃i:TypeInfo,Tryz.prog.info? 34=some i/\i.zero=some (.slice none 0 0)/\i.size=1/\i.bytes=24:=(info_parts (by kernel_rfl))
theorem in36:∃i:TypeInfo,Tryz.prog.info? 36=some i/\i.zero=some (.agg #[.bool false,.slice none 0 0,.slice none 0 0])/\i.size=3/\i.bytes=56:=(info_parts (by kernel_rfl))
theorem in38:∃i:TypeInfo,Tryz.prog.info? 38=some i/\i.zero=some (.agg #[.slice none 0 0,.bool false,.slice none 0 0,.slice none 0 0])/\i.size=4/\i.bytes=80:=(info_parts (by kernel_rfl))
theorem in40:∃i:TypeInfo,Tryz.prog.info? 40=some i/\i.zero=some (.agg #[.int .i64 0,.slice none 0 0,.slice none 0 0,.slice none 0 0,.slice none 0 0,.slice none 0 0,.slice none 0 0,.bool false,.slice none 0 0,.slice none 0 0])/\i.size=10/\i.bytes=208:=(info_parts (by kernel_rfl))
theorem in41:∃i:TypeInfo,Tryz.prog.info? 41=some i/\i.zero=some (.slice none 0 0)/\i.size=1/\i.bytes=24:=(info_parts (by kernel_rfl))
theorem in43:∃i:TypeInfo,Tryz.prog.info? 43=some i/\i.zero=some (.agg #[.int .i64 0,.slice none 0 0,.slice none 0 0,.slice none 0 0,.slice none 0 0,.slice none 0 0,.slice none 0 0,.bool false,.slice none 0 0,.slice none 0 0,.slice none 0 0,.slice none 0 0])/\i.size=12/\i.bytes=256:=(info_parts (by kernel_rfl))
theorem in46:∃i:TypeInfo,Tryz.prog.info? 46=some i/\i.zero=some (.slice none 0 0)/\i.size=1/\i.bytes=24:=(info_parts (by kernel_rfl))
theorem in60:∃i:TypeInfo,Tryz.prog.info? 60=some i/\i.zero=some (.int .i64 0)/\i.size=1/\i.bytes=8:=(info_parts (by kernel_rfl))
theorem in76:∃i:TypeInfo,Tryz.prog.info? 76=some i/\i.zero=some (.agg #[.int .i64 0,.int .i64 0,.bool false,.slice none 0 0,.slice none 0 0])/\i.size=5/\i.bytes=72:=(info_parts (by kernel_rfl))
theorem in79:∃i:TypeInfo,Tryz.prog.info? 79=some i/\i.zero=some (.agg #[.bool false,.slice none 0 0,.slice none 0 0,.bool false,.slice none 0 0,.slice none 0 0])/\i.size=6/\i.bytes=112:=(info_parts (by kernel_rfl))
theorem in82:∃i:TypeInfo,Tryz.prog.info? 82=some i/\i.zero=some (.slice none 0 0)/\i.size=1/\i.bytes=24:=(info_parts (by kernel_rfl))
theorem in98:∃i:TypeInfo,Tryz.prog.info? 98=some i/\i.zero=some (.agg #[.string ⟨#[]⟩,.string ⟨#[]⟩,.string ⟨#[]⟩])/\i.size=3/\i.bytes=48:=(info_parts (by kernel_rfl))
theorem zBQ:∃i:TypeInfo,Tryz.prog.info? 103=some i/\i.zero=some (.agg #[.int .i64 0,.bool false,.slice none 0 0,.slice none 0 0])/\i.size=4/\i.bytes=64:=(info_parts (by kernel_rfl))
theorem in105:∃i:TypeInfo,Tryz.prog.info? 105=some i/\i.zero=some (.agg #[.int .i64 0,.bool false,.bool false,.slice none 0 0,.slice none 0 0,.slice none 0 0])/\i.size=6/\i.bytes=96:=(info_parts (by kernel_rfl))
theorem in107:∃i:TypeInfo,Tryz.prog.info? 107=some i/\i.zero=some (.agg #[.int .i64 0,.int .i64 0,.int .i64 0,.int .i64 0])/\i.size=4/\i.bytes=32:=(info_parts (by kernel_rfl))
theorem zuy:∃i:TypeInfo,Tryz.prog.info? 109=some i/\i.zero=some (.agg #[.int .i64 0,.int .i64 0,.int .i64 0,.int .i64 0,.bool false,.slice none 0 0,.slice none 0 0])/\i.size=7/\i.bytes=88:=(info_parts (by kernel_rfl))
theorem in118:∃i:TypeInfo,Tryz.prog.info? 118=some i/\i.zero=some (.agg #[.slice none 0 0,.bool false,.slice none 0 0,.slice none 0 0,.int .i64 0,.int .i64 0,.int .i64 0,.int .i64 0,.bool false,.slice none 0 0,.slice none 0 0])/\i.size=11/\i.bytes=168:=(info_parts (by kernel_rfl))
theorem in150:∃i:TypeInfo,Tryz.prog.info? 150=some i/\i.zero=some (.agg #[.bool false,.slice none 0 0,.slice none 0 0,.slice none 0 0,.bool false])/\i.size=5/\i.bytes=88:=(info_parts (by kernel_rfl))
theorem in155:∃i:TypeInfo,Tryz.prog.info? 155=some i/\i.zero=some (.agg #[.bool false,.slice none 0 0])/\i.size=2/\i.bytes=32:=(info_parts (by kernel_rfl))
theorem in158:∃i:TypeInfo,Tryz.prog.info? 158=some i/\i.zero=some (.agg #[.slice none 0 0,.int .i64 0])/\i.size=2/\i.bytes=32:=(info_parts (by kernel_rfl))
theorem zcL:∃i:TypeInfo,Tryz.prog.info? 182=some i/\i.zero=some (.int .u32 0)/\i.size=1/\i.bytes=4:=(info_parts (by kernel_rfl))
theorem in193:∃i:TypeInfo,Tryz.prog.info? 193=some i/\i.zero=some (.agg #[.nilIface,.nilIface])/\i.size=2/\i.bytes=32:=(info_parts (by kernel_rfl))
theorem in198:∃i:TypeInfo,Tryz.prog.info? 198=some i/\i.zero=some (.agg #[.bool false,.slice none 0 0,.int .i64 0])/\i.size=3/\i.bytes=40:=(info_parts (by kernel_rfl))
theorem in208:∃i:TypeInfo,Tryz.prog.info? 208=some i/\i.zero=some (.int .u64 0)/\i.size=1/\i.bytes=8:=(info_parts (by kernel_rfl))
theorem in209:∃i:TypeInfo,Tryz.prog.info? 209=some i/\i.zero=some (.agg #[.int .i64 0,.int .i64 0,.int .i64 0,.int .i64 0])/\i.size=4/\i.bytes=32:=(info_parts (by kernel_rfl))
theorem in222:∃i:TypeInfo,Tryz.prog.info? 222=some i/\i.zero=some (.slice none 0 0)/\i.size=1/\i.bytes=24:=(info_parts (by kernel_rfl))
theorem in224:∃i:TypeInfo,Tryz.prog.info? 224=some i/\i.zero=some (.agg #[.int .i64 0,.slice none 0 0,.slice none 0 0,.slice none 0 0,.slice none 0 0,.slice none 0 0,.slice none 0 0,.bool false,.slice none 0 0,.slice none 0 0,.slice none 0 0,.slice none 0 0,.slice none 0 0])/\i.size=13/\i.bytes=280:=(info_parts (by kernel_rfl))
theorem in229:∃i:TypeInfo,Tryz.prog.info? 229=some i/\i.zero=some (.int .u64 0)/\i.size=1/\i.bytes=8:=(info_parts (by kernel_rfl))
theorem in249:∃i:TypeInfo,Tryz.prog.info? 249=some i/\i.zero=some (.slice none 0 0)/\i.size=1/\i.bytes=24:=(info_parts (by kernel_rfl))
theorem in264:∃i:TypeInfo,Tryz.prog.info? 264=some i/\i.zero=some (.agg #[.int .u8 0,.int .u8 0,.int .u8 0,.int .u8 0,.int .u8 0,.int .u8 0,.int .u8 0,.int .u8 0,.int .u8 0,.int .u8 0,.int .u8 0,.int .u8 0,.int .u8 0,.int .u8 0,.int .u8 0,.int .u8 0,.int .u8 0,.int .u8 0,.int .u8 0,.int .u8 0,.int .u8 0,.int .u8 0,.int .u8 0,.int .u8 0,.int .u8 0,.int .u8 0,.int .u8 0,.int .u8 0,.int .u8 0,.int .u8 0,.int .u8 0,.int .u8 0])/\i.size=32/\i.bytes=32:=(info_parts (by kernel_rfl))
theorem pl28:zau Tryz.prog 28=some [(0,1),(1,1),(2,1)]:=by kernel_rfl
theorem pl31:zau Tryz.prog 31=some [(0,1),(1,1),(2,1)]:=by kernel_rfl
theorem pl36:zau Tryz.prog 36=some [(0,1),(1,1),(2,1)]:=by kernel_rfl
theorem zEg:zau Tryz.prog 38=some [(0,1),(1,3)]:=by kernel_rfl
theorem pl40:zau Tryz.prog 40=some [(0,3),(3,3),(6,4)]:=by kernel_rfl
theorem pl43:zau Tryz.prog 43=some [(0,10),(10,1),(11,1)]:=by kernel_rfl
theorem pl54:zau Tryz.prog 54=some []:=by kernel_rfl
theorem pl56:zau Tryz.prog 56=some [(0,0)]:=by kernel_rfl
theorem pl76:zau Tryz.prog 76=some [(0,1),(1,1),(2,3)]:=by kernel_rfl
theorem pl79:zau Tryz.prog 79=some [(0,3),(3,3)]:=by kernel_rfl
theorem pl103:zau Tryz.prog 103=some [(0,1),(1,3)]:=by kernel_rfl
theorem pl105:zau Tryz.prog 105=some [(0,1),(1,1),(2,3),(5,1)]:=by kernel_rfl
theorem pl107:zau Tryz.prog 107=some [(0,1),(1,1),(2,1),(3,1)]:=by kernel_rfl
theorem pl109:zau Tryz.prog 109=some [(0,4),(4,3)]:=by kernel_rfl
theorem pl118:zau Tryz.prog 118=some [(0,4),(4,4),(8,3)]:=by kernel_rfl
theorem pl150:zau Tryz.prog 150=some [(0,3),(3,1),(4,1)]:=by kernel_rfl
theorem pl155:zau Tryz.prog 155=some [(0,1),(1,1)]:=by kernel_rfl
theorem pl158:zau Tryz.prog 158=some [(0,1),(1,1)]:=by kernel_rfl
theorem pl193:zau Tryz.prog 193=some [(0,1),(1,1)]:=by kernel_rfl
theorem pl198:zau Tryz.prog 198=some [(0,1),(1,1),(2,1)]:=by kernel_rfl
theorem zBf:zau Tryz.prog 224=some [(0,12),(12,1)]:=by kernel_rfl
theorem tx28:TyZero Tryz.prog 28 [Leaf.val (.int .i64 0),Leaf.val (.slice none 0 0),Leaf.val (.slice none 0 0)]:=⟨.agg #[.int .i64 0,.slice none 0 0,.slice none 0 0],by kernel_rfl,⟨.inl rfl,.inr rfl,.inr rfl,trivial⟩,by decide⟩
theorem tx31:TyZero Tryz.prog 31 [Leaf.val (.slice none 0 0),Leaf.val (.slice none 0 0),Leaf.val (.slice none 0 0)]:=⟨.agg #[.slice none 0 0,.slice none 0 0,.slice none 0 0],by kernel_rfl,⟨.inr rfl,.inr rfl,.inr rfl,trivial⟩,by decide⟩
theorem zAm:TyZero Tryz.prog 38 [Leaf.val (.slice none 0 0),Leaf.val (.bool false),nilL,nilL]:=⟨.agg #[.slice none 0 0,.bool false,.slice none 0 0,.slice none 0 0],by kernel_rfl,⟨.inr rfl,.inl rfl,.inl rfl,.inl rfl,trivial⟩,by decide⟩
theorem tx43:TyZero Tryz.prog 43 [Leaf.val (.int .i64 0),Leaf.val (.slice none 0 0),Leaf.val (.slice none 0 0),Leaf.val (.slice none 0 0),Leaf.val (.slice none 0 0),Leaf.val (.slice none 0 0),Leaf.val (.slice none 0 0),Leaf.val (.bool false),nilL,nilL,Leaf.val (.slice none 0 0),Leaf.val (.slice none 0 0)]:=⟨.agg #[.int .i64 0,.slice none 0 0,.slice none 0 0,.slice none 0 0,.slice none 0 0,.slice none 0 0,.slice none 0 0,.bool false,.slice none 0 0,.slice none 0 0,.slice none 0 0,.slice none 0 0],by kernel_rfl,⟨.inl rfl,.inr rfl,.inr rfl,.inr rfl,.inr rfl,.inr rfl,.inr rfl,.inl rfl,.inl rfl,.inl rfl,.inr rfl,.inr rfl,trivial⟩,by decide⟩
theorem tx224:TyZero Tryz.prog 224 [Leaf.val (.int .i64 0),Leaf.val (.slice none 0 0),Leaf.val (.slice none 0 0),Leaf.val (.slice none 0 0),Leaf.val (.slice none 0 0),Leaf.val (.slice none 0 0),Leaf.val (.slice none 0 0),Leaf.val (.bool false),nilL,nilL,Leaf.val (.slice none 0 0),Leaf.val (.slice none 0 0),Leaf.val (.slice none 0 0)]:=⟨.agg #[.int .i64 0,.slice none 0 0,.slice none 0 0,.slice none 0 0,.slice none 0 0,.slice none 0 0,.slice none 0 0,.bool false,.slice none 0 0,.slice none 0 0,.slice none 0 0,.slice none 0 0,.slice none 0 0],by kernel_rfl,⟨.inl rfl,.inr rfl,.inr rfl,.inr rfl,.inr rfl,.inr rfl,.inr rfl,.inl rfl,.inl rfl,.inl rfl,.inr rfl,.inr rfl,.inr rfl,trivial⟩,by decide⟩
theorem ty2:TyIs Tryz.prog 2 false 1:=tk_
theorem ty3:TyIs Tryz.prog 3 false 1:=tk_
theorem ty4:TyIs Tryz.prog 4 false 1:=tk_
theorem ty5:TyIs Tryz.prog 5 false 1:=tk_
theorem ty9:TyIs Tryz.prog 9 false 1:=tk_
theorem ty12:TyIs Tryz.prog 12 false 1:=tk_
theorem ty21:TyIs Tryz.prog 21 false 1:=tk_
theorem ty22:TyIs Tryz.prog 22 false 1:=tk_
theorem ty23:TyIs Tryz.prog 23 false 1:=tk_
theorem ty26:TyIs Tryz.prog 26 false 1:=tk_
theorem ty28:TyIs Tryz.prog 28 true 3:=tk_
theorem ty29:TyIs Tryz.prog 29 false 1:=tk_
theorem ty31:TyIs Tryz.prog 31 true 3:=tk_
theorem ty32:TyIs Tryz.prog 32 false 1:=tk_
theorem ty33:TyIs Tryz.prog 33 false 1:=tk_
theorem ty34:TyIs Tryz.prog 34 false 1:=tk_
theorem zmx:TyIs Tryz.prog 36 true 3:=tk_
theorem zj4:TyIs Tryz.prog 38 true 4:=tk_
theorem ty40:TyIs Tryz.prog 40 true 10:=tk_
theorem ty41:TyIs Tryz.prog 41 false 1:=tk_
theorem zEe:TyIs Tryz.prog 43 true 12:=tk_
theorem ty46:TyIs Tryz.prog 46 false 1:=tk_
theorem ty54:TyIs Tryz.prog 54 true 0:=tk_
theorem ty60:TyIs Tryz.prog 60 false 1:=tk_
theorem zAl:TyIs Tryz.prog 76 true 5:=tk_
theorem ty79:TyIs Tryz.prog 79 true 6:=tk_
theorem ty82:TyIs Tryz.prog 82 false 1:=tk_
theorem ty87:TyIs Tryz.prog 87 false 1:=tk_
theorem ty98:TyIs Tryz.prog 98 true 3:=tk_
theorem zfw:TyIs Tryz.prog 103 true 4:=tk_
theorem zgC:TyIs Tryz.prog 105 true 6:=tk_
theorem zxi:TyIs Tryz.prog 107 true 4:=tk_
theorem zbi:TyIs Tryz.prog 109 true 7:=tk_
theorem ty118:TyIs Tryz.prog 118 true 11:=tk_
theorem ty150:TyIs Tryz.prog 150 true 5:=tk_
theorem ty155:TyIs Tryz.prog 155 true 2:=tk_
theorem ty158:TyIs Tryz.prog 158 true 2:=tk_
theorem zaw:TyIs Tryz.prog 182 false 1:=tk_
theorem ty193:TyIs Tryz.prog 193 true 2:=tk_
theorem ty198:TyIs Tryz.prog 198 true 3:=tk_
theorem ty208:TyIs Tryz.prog 208 false 1:=tk_
theorem ty209:TyIs Tryz.prog 209 true 4:=tk_
theorem ty222:TyIs Tryz.prog 222 false 1:=tk_
theorem ty224:TyIs Tryz.prog 224 true 13:=tk_
theorem ty229:TyIs Tryz.prog 229 false 1:=tk_
theorem ty249:TyIs Tryz.prog 249 false 1:=tk_
theorem ty264:TyIs Tryz.prog 264 true 32:=tk_
theorem tz2:TyZero Tryz.prog 2 [Leaf.val (.int .i64 0)]:=TyZero.of (.int .i64 0) (by kernel_rfl) rfl (by decide)
theorem tz3:TyZero Tryz.prog 3 [Leaf.val (.int .i64 0)]:=TyZero.of (.int .i64 0) (by kernel_rfl) rfl (by decide)
theorem tz4:TyZero Tryz.prog 4 [Leaf.val (.bool false)]:=TyZero.of (.bool false) (by kernel_rfl) rfl (by decide)
theorem tz5:TyZero Tryz.prog 5 [Leaf.val (.int .u8 0)]:=TyZero.of (.int .u8 0) (by kernel_rfl) rfl (by decide)
theorem tz9:TyZero Tryz.prog 9 [Leaf.val (.string ⟨#[]⟩)]:=TyZero.of (.string ⟨#[]⟩) (by kernel_rfl) rfl (by decide)
theorem tz12:TyZero Tryz.prog 12 [Leaf.val (.int .u64 0)]:=TyZero.of (.int .u64 0) (by kernel_rfl) rfl (by decide)
theorem tz21:TyZero Tryz.prog 21 [Leaf.val (.int .i32 0)]:=TyZero.of (.int .i32 0) (by kernel_rfl) rfl (by decide)
theorem tz22:TyZero Tryz.prog 22 [nilL]:=TyZero.of (.slice none 0 0) (by kernel_rfl) rfl (by decide)
theorem tz23:TyZero Tryz.prog 23 [nilL]:=TyZero.of (.slice none 0 0) (by kernel_rfl) rfl (by decide)
theorem tz26:TyZero Tryz.prog 26 [nilL]:=TyZero.of (.slice none 0 0) (by kernel_rfl) rfl (by decide)
theorem tz28:TyZero Tryz.prog 28 [Leaf.val (.int .i64 0),nilL,nilL]:=TyZero.of (.agg #[.int .i64 0,.slice none 0 0,.slice none 0 0]) (by kernel_rfl) rfl (by decide)
theorem tz29:TyZero Tryz.prog 29 [nilL]:=TyZero.of (.slice none 0 0) (by kernel_rfl) rfl (by decide)
theorem tz31:TyZero Tryz.prog 31 [nilL,nilL,nilL]:=TyZero.of (.agg #[.slice none 0 0,.slice none 0 0,.slice none 0 0]) (by kernel_rfl) rfl (by decide)
theorem tz32:TyZero Tryz.prog 32 [nilL]:=TyZero.of (.slice none 0 0) (by kernel_rfl) rfl (by decide)
theorem tz33:TyZero Tryz.prog 33 [nilL]:=TyZero.of (.slice none 0 0) (by kernel_rfl) rfl (by decide)
theorem tz34:TyZero Tryz.prog 34 [nilL]:=TyZero.of (.slice none 0 0) (by kernel_rfl) rfl (by decide)
theorem zAK:TyZero Tryz.prog 36 [Leaf.val (.bool false),nilL,nilL]:=TyZero.of (.agg #[.bool false,.slice none 0 0,.slice none 0 0]) (by kernel_rfl) rfl (by decide)
theorem zAk:TyZero Tryz.prog 38 [nilL,Leaf.val (.bool false),nilL,nilL]:=TyZero.of (.agg #[.slice none 0 0,.bool false,.slice none 0 0,.slice none 0 0]) (by kernel_rfl) rfl (by decide)
theorem tz40:TyZero Tryz.prog 40 [Leaf.val (.int .i64 0),nilL,nilL,nilL,nilL,nilL,nilL,Leaf.val (.bool false),nilL,nilL]:=TyZero.of (.agg #[.int .i64 0,.slice none 0 0,.slice none 0 0,.slice none 0 0,.slice none 0 0,.slice none 0 0,.slice none 0 0,.bool false,.slice none 0 0,.slice none 0 0]) (by kernel_rfl) rfl (by decide)
theorem tz41:TyZero Tryz.prog 41 [nilL]:=TyZero.of (.slice none 0 0) (by kernel_rfl) rfl (by decide)
theorem tz43:TyZero Tryz.prog 43 [Leaf.val (.int .i64 0),nilL,nilL,nilL,nilL,nilL,nilL,Leaf.val (.bool false),nilL,nilL,nilL,nilL]:=TyZero.of (.agg #[.int .i64 0,.slice none 0 0,.slice none 0 0,.slice none 0 0,.slice none 0 0,.slice none 0 0,.slice none 0 0,.bool false,.slice none 0 0,.slice none 0 0,.slice none 0 0,.slice none 0 0]) (by kernel_rfl) rfl (by decide)
theorem tz46:TyZero Tryz.prog 46 [nilL]:=TyZero.of (.slice none 0 0) (by kernel_rfl) rfl (by decide)
theorem tz54:TyZero Tryz.prog 54 []:=TyZero.of (.agg #[]) (by kernel_rfl) rfl (by decide)
theorem tz56:TyZero Tryz.prog 56 []:=TyZero.of (.agg #[]) (by kernel_rfl) rfl (by decide)
theorem tz60:TyZero Tryz.prog 60 [Leaf.val (.int .i64 0)]:=TyZero.of (.int .i64 0) (by kernel_rfl) rfl (by decide)
theorem zAJ:TyZero Tryz.prog 76 [Leaf.val (.int .i64 0),Leaf.val (.int .i64 0),Leaf.val (.bool false),nilL,nilL]:=TyZero.of (.agg #[.int .i64 0,.int .i64 0,.bool false,.slice none 0 0,.slice none 0 0]) (by kernel_rfl) rfl (by decide)
theorem tz79:TyZero Tryz.prog 79 [Leaf.val (.bool false),nilL,nilL,Leaf.val (.bool false),nilL,nilL]:=TyZero.of (.agg #[.bool false,.slice none 0 0,.slice none 0 0,.bool false,.slice none 0 0,.slice none 0 0]) (by kernel_rfl) rfl (by decide)
theorem tz82:TyZero Tryz.prog 82 [nilL]:=TyZero.of (.slice none 0 0) (by kernel_rfl) rfl (by decide)
theorem tz98:TyZero Tryz.prog 98 [Leaf.val (.string ⟨#[]⟩),Leaf.val (.string ⟨#[]⟩),Leaf.val (.string ⟨#[]⟩)]:=TyZero.of (.agg #[.string ⟨#[]⟩,.string ⟨#[]⟩,.string ⟨#[]⟩]) (by kernel_rfl) rfl (by decide)
theorem zlk:TyZero Tryz.prog 103 [Leaf.val (.int .i64 0),Leaf.val (.bool false),nilL,nilL]:=TyZero.of (.agg #[.int .i64 0,.bool false,.slice none 0 0,.slice none 0 0]) (by kernel_rfl) rfl (by decide)
theorem zlj:TyZero Tryz.prog 105 [Leaf.val (.int .i64 0),Leaf.val (.bool false),Leaf.val (.bool false),nilL,nilL,nilL]:=TyZero.of (.agg #[.int .i64 0,.bool false,.bool false,.slice none 0 0,.slice none 0 0,.slice none 0 0]) (by kernel_rfl) rfl (by decide)
theorem tz107:TyZero Tryz.prog 107 [Leaf.val (.int .i64 0),Leaf.val (.int .i64 0),Leaf.val (.int .i64 0),Leaf.val (.int .i64 0)]:=TyZero.of (.agg #[.int .i64 0,.int .i64 0,.int .i64 0,.int .i64 0]) (by kernel_rfl) rfl (by decide)
theorem zcU:TyZero Tryz.prog 109 [Leaf.val (.int .i64 0),Leaf.val (.int .i64 0),Leaf.val (.int .i64 0),Leaf.val (.int .i64 0),Leaf.val (.bool false),nilL,nilL]:=TyZero.of (.agg #[.int .i64 0,.int .i64 0,.int .i64 0,.int .i64 0,.bool false,.slice none 0 0,.slice none 0 0]) (by kernel_rfl) rfl (by decide)
theorem tz118:TyZero Tryz.prog 118 [nilL,Leaf.val (.bool false),nilL,nilL,Leaf.val (.int .i64 0),Leaf.val (.int .i64 0),Leaf.val (.int .i64 0),Leaf.val (.int .i64 0),Leaf.val (.bool false),nilL,nilL]:=TyZero.of (.agg #[.slice none 0 0,.bool false,.slice none 0 0,.slice none 0 0,.int .i64 0,.int .i64 0,.int .i64 0,.int .i64 0,.bool false,.slice none 0 0,.slice none 0 0]) (by kernel_rfl) rfl (by decide)
theorem tz150:TyZero Tryz.prog 150 [Leaf.val (.bool false),nilL,nilL,nilL,Leaf.val (.bool false)]:=TyZero.of (.agg #[.bool false,.slice none 0 0,.slice none 0 0,.slice none 0 0,.bool false]) (by kernel_rfl) rfl (by decide)
theorem tz155:TyZero Tryz.prog 155 [Leaf.val (.bool false),nilL]:=TyZero.of (.agg #[.bool false,.slice none 0 0]) (by kernel_rfl) rfl (by decide)
theorem tz158:TyZero Tryz.prog 158 [nilL,Leaf.val (.int .i64 0)]:=TyZero.of (.agg #[.slice none 0 0,.int .i64 0]) (by kernel_rfl) rfl (by decide)
theorem zd1:TyZero Tryz.prog 182 [Leaf.val (.int .u32 0)]:=TyZero.of (.int .u32 0) (by kernel_rfl) rfl (by decide)
theorem tz193:TyZero Tryz.prog 193 [Leaf.val .nilIface,Leaf.val .nilIface]:=TyZero.of (.agg #[.nilIface,.nilIface]) (by kernel_rfl) rfl (by decide)
theorem tz198:TyZero Tryz.prog 198 [Leaf.val (.bool false),nilL,Leaf.val (.int .i64 0)]:=TyZero.of (.agg #[.bool false,.slice none 0 0,.int .i64 0]) (by kernel_rfl) rfl (by decide)
theorem tz208:TyZero Tryz.prog 208 [Leaf.val (.int .u64 0)]:=TyZero.of (.int .u64 0) (by kernel_rfl) rfl (by decide)
theorem zAL:TyZero Tryz.prog 209 [Leaf.val (.int .i64 0),Leaf.val (.int .i64 0),Leaf.val (.int .i64 0),Leaf.val (.int .i64 0)]:=TyZero.of (.agg #[.int .i64 0,.int .i64 0,.int .i64 0,.int .i64 0]) (by kernel_rfl) rfl (by decide)
theorem tz222:TyZero Tryz.prog 222 [nilL]:=TyZero.of (.slice none 0 0) (by kernel_rfl) rfl (by decide)
theorem tz224:TyZero Tryz.prog 224 [Leaf.val (.int .i64 0),nilL,nilL,nilL,nilL,nilL,nilL,Leaf.val (.bool false),nilL,nilL,nilL,nilL,nilL]:=TyZero.of (.agg #[.int .i64 0,.slice none 0 0,.slice none 0 0,.slice none 0 0,.slice none 0 0,.slice none 0 0,.slice none 0 0,.bool false,.slice none 0 0,.slice none 0 0,.slice none 0 0,.slice none 0 0,.slice none 0 0]) (by kernel_rfl) rfl (by decide)
theorem tz229:TyZero Tryz.prog 229 [Leaf.val (.int .u64 0)]:=TyZero.of (.int .u64 0) (by kernel_rfl) rfl (by decide)
theorem tz249:TyZero Tryz.prog 249 [nilL]:=TyZero.of (.slice none 0 0) (by kernel_rfl) rfl (by decide)
theorem tz264:TyZero Tryz.prog 264 [Leaf.val (.int .u8 0),Leaf.val (.int .u8 0),Leaf.val (.int .u8 0),Leaf.val (.int .u8 0),Leaf.val (.int .u8 0),Leaf.val (.int .u8 0),Leaf.val (.int .u8 0),Leaf.val (.int .u8 0),Leaf.val (.int .u8 0),Leaf.val (.int .u8 0),Leaf.val (.int .u8 0),Leaf.val (.int .u8 0),Leaf.val (.int .u8 0),Leaf.val (.int .u8 0),Leaf.val (.int .u8 0),Leaf.val (.int .u8 0),Leaf.val (.int .u8 0),Leaf.val (.int .u8 0),Leaf.val (.int .u8 0),Leaf.val (.int .u8 0),Leaf.val (.int .u8 0),Leaf.val (.int .u8 0),Leaf.val (.int .u8 0),Leaf.val (.int .u8 0),Leaf.val (.int .u8 0),Leaf.val (.int .u8 0),Leaf.val (.int .u8 0),Leaf.val (.int .u8 0),Leaf.val (.int .u8 0),Leaf.val (.int .u8 0),Leaf.val (.int .u8 0),Leaf.val (.int .u8 0)]:=TyZero.of (.agg #[.int .u8 0,.int .u8 0,.int .u8 0,.int .u8 0,.int .u8 0,.int .u8 0,.int .u8 0,.int .u8 0,.int .u8 0,.int .u8 0,.int .u8 0,.int .u8 0,.int .u8 0,.int .u8 0,.int .u8 0,.int .u8 0,.int .u8 0,.int .u8 0,.int .u8 0,.int .u8 0,.int .u8 0,.int .u8 0,.int .u8 0,.int .u8 0,.int .u8 0,.int .u8 0,.int .u8 0,.int .u8 0,.int .u8 0,.int .u8 0,.int .u8 0,.int .u8 0]) (by kernel_rfl) rfl (by decide)
theorem un2:Tryz.prog.underlying 2=some (.int .i64):=by kernel_rfl
theorem un3:Tryz.prog.underlying 3=some (.int .i64):=by kernel_rfl
theorem un4:Tryz.prog.underlying 4=some (.bool):=by kernel_rfl
theorem un5:Tryz.prog.underlying 5=some (.int .u8):=by kernel_rfl
theorem un9:Tryz.prog.underlying 9=some (.string):=by kernel_rfl
theorem un12:Tryz.prog.underlying 12=some (.int .u64):=by kernel_rfl
theorem un21:Tryz.prog.underlying 21=some (.int .i32):=by kernel_rfl
theorem zxf:Tryz.prog.underlying 22=some (.slice 5):=by kernel_rfl
theorem znM:Tryz.prog.underlying 23=some (.slice 105):=by kernel_rfl
theorem zAj:Tryz.prog.underlying 26=some (.slice 38):=by kernel_rfl
theorem zAE:Tryz.prog.underlying 29=some (.slice 36):=by kernel_rfl
theorem zlh:Tryz.prog.underlying 32=some (.slice 103):=by kernel_rfl
theorem zdS:Tryz.prog.underlying 33=some (.slice 182):=by kernel_rfl
theorem zce:Tryz.prog.underlying 34=some (.slice 182):=by kernel_rfl
theorem ztI:Tryz.prog.underlying 41=some (.slice 76):=by kernel_rfl
theorem zcE:Tryz.prog.underlying 46=some (.slice 109):=by kernel_rfl
theorem un60:Tryz.prog.underlying 60=some (.int .i64):=by kernel_rfl
theorem un82:Tryz.prog.underlying 82=some (.slice 79):=by kernel_rfl
theorem un98:Tryz.prog.underlying 98=some (.array 3 9):=by kernel_rfl
theorem un182:Tryz.prog.underlying 182=some (.int .u32):=by kernel_rfl
theorem un208:Tryz.prog.underlying 208=some (.int .u64):=by kernel_rfl
theorem zAH:Tryz.prog.underlying 209=some (.array 4 3):=by kernel_rfl
theorem zAG:Tryz.prog.underlying 222=some (.slice 4):=by kernel_rfl
theorem un229:Tryz.prog.underlying 229=some (.int .u64):=by kernel_rfl
theorem zAF:Tryz.prog.underlying 249=some (.slice 3):=by kernel_rfl
theorem un264:Tryz.prog.underlying 264=some (.array 32 5):=by kernel_rfl
theorem zaQ{P:Program}{n k b:Nat}{v:Value}(h:∃i:TypeInfo,P.info? n=some i/\i.zero=some v/\i.size=k/\i.bytes=b)(hk:v.cells.size=k:=by rfl):∃(i:TypeInfo) (z:Value),P.info? n=some i/\i.zero=some z/\i.size=k/\z.cells.size=k/\i.bytes=b:=let ⟨i,h1,h2,h3,h4⟩:=h;⟨i,v,h1,h2,h3,hk,h4⟩
def mtab:MTab:={ fo:=[((43,0),0,10),((43,2),11,1),((40,0),0,3),((38,0),0,1),((103,1),1,3),((103,0),0,1),((76,1),1,1),((28,0),0,1),((105,2),2,3),((36,0),0,1),((28,1),1,1),((155,1),1,1),((36,1),1,1),((43,1),10,1),((155,0),0,1),((107,1),1,1),((36,2),2,1),((76,2),2,3),((38,1),1,3),((31,0),0,1),((31,1),1,1),((107,0),0,1),((107,2),2,1),((76,0),0,1),((109,0),0,4),((107,3),3,1),((109,1),4,3),((105,1),1,1),((31,2),2,1),((118,1),4,4),((105,0),0,1),((28,2),2,1),((105,3),5,1),((224,0),0,12),((198,2),2,1),((40,1),3,3),((198,0),0,1),((198,1),1,1),((158,1),1,1),((224,1),12,1),((118,0),0,4),((150,1),3,1),((118,2),8,3),((158,0),0,1),((40,2),6,4),((150,0),0,3),((150,2),4,1),((193,0),0,1),((193,1),1,1),((79,0),0,3),((79,1),3,3)],ty:=[(36,true,3),(38,true,4),(3,false,1),(182,false,1),(34,false,1),(107,true,4),(43,true,12),(4,false,1),(198,true,3),(103,true,4),(155,true,2),(26,false,1),(32,false,1),(105,true,6),(23,false,1),(76,true,5),(118,true,11),(29,false,1),(40,true,10),(41,false,1),(150,true,5),(28,true,3),(109,true,7),(31,true,3),(46,false,1),(87,false,1),(5,false,1),(222,false,1),(22,false,1),(2,false,1),(9,false,1),(12,false,1),(21,false,1),(33,false,1),(54,true,0),(60,false,1),(79,true,6),(82,false,1),(98,true,3),(158,true,2),(193,true,2),(208,false,1),(209,true,4),(224,true,13),(229,false,1),(249,false,1),(264,true,32)],tz:=[(36,[Leaf.val (.bool false),nilL,nilL]),(38,[nilL,Leaf.val (.bool false),nilL,nilL]),(107,[Leaf.val (.int .i64 0),Leaf.val (.int .i64 0),Leaf.val (.int .i64 0),Leaf.val (.int .i64 0)]),(155,[Leaf.val (.bool false),nilL]),(198,[Leaf.val (.bool false),nilL,Leaf.val (.int .i64 0)]),(109,[Leaf.val (.int .i64 0),Leaf.val (.int .i64 0),Leaf.val (.int .i64 0),Leaf.val (.int .i64 0),Leaf.val (.bool false),nilL,nilL]),(103,[Leaf.val (.int .i64 0),Leaf.val (.bool false),nilL,nilL]),(150,[Leaf.val (.bool false),nilL,nilL,nilL,Leaf.val (.bool false)]),(43,[Leaf.val (.int .i64 0),nilL,nilL,nilL,nilL,nilL,nilL,Leaf.val (.bool false),nilL,nilL,nilL,nilL]),(105,[Leaf.val (.int .i64 0),Leaf.val (.bool false),Leaf.val (.bool false),nilL,nilL,nilL]),(76,[Leaf.val (.int .i64 0),Leaf.val (.int .i64 0),Leaf.val (.bool false),nilL,nilL]),(118,[nilL,Leaf.val (.bool false),nilL,nilL,Leaf.val (.int .i64 0),Leaf.val (.int .i64 0),Leaf.val (.int .i64 0),Leaf.val (.int .i64 0),Leaf.val (.bool false),nilL,nilL]),(31,[nilL,nilL,nilL]),(28,[Leaf.val (.int .i64 0),nilL,nilL]),(40,[Leaf.val (.int .i64 0),nilL,nilL,nilL,nilL,nilL,nilL,Leaf.val (.bool false),nilL,nilL]),(158,[nilL,Leaf.val (.int .i64 0)]),(3,[Leaf.val (.int .i64 0)]),(193,[Leaf.val .nilIface,Leaf.val .nilIface]),(2,[Leaf.val (.int .i64 0)]),(4,[Leaf.val (.bool false)]),(5,[Leaf.val (.int .u8 0)]),(9,[Leaf.val (.string ⟨#[]⟩)]),(12,[Leaf.val (.int .u64 0)]),(21,[Leaf.val (.int .i32 0)]),(22,[nilL]),(23,[nilL]),(26,[nilL]),(29,[nilL]),(32,[nilL]),(33,[nilL]),(34,[nilL]),(41,[nilL]),(46,[nilL]),(60,[Leaf.val (.int .i64 0)]),(79,[Leaf.val (.bool false),nilL,nilL,Leaf.val (.bool false),nilL,nilL]),(82,[nilL]),(98,[Leaf.val (.string ⟨#[]⟩),Leaf.val (.string ⟨#[]⟩),Leaf.val (.string ⟨#[]⟩)]),(182,[Leaf.val (.int .u32 0)]),(208,[Leaf.val (.int .u64 0)]),(209,[Leaf.val (.int .i64 0),Leaf.val (.int .i64 0),Leaf.val (.int .i64 0),Leaf.val (.int .i64 0)]),(222,[nilL]),(224,[Leaf.val (.int .i64 0),nilL,nilL,nilL,nilL,nilL,nilL,Leaf.val (.bool false),nilL,nilL,nilL,nilL,nilL]),(229,[Leaf.val (.int .u64 0)]),(249,[nilL]),(264,[Leaf.val (.int .u8 0),Leaf.val (.int .u8 0),Leaf.val (.int .u8 0),Leaf.val (.int .u8 0),Leaf.val (.int .u8 0),Leaf.val (.int .u8 0),Leaf.val (.int .u8 0),Leaf.val (.int .u8 0),Leaf.val (.int .u8 0),Leaf.val (.int .u8 0),Leaf.val (.int .u8 0),Leaf.val (.int .u8 0),Leaf.val (.int .u8 0),Leaf.val (.int .u8 0),Leaf.val (.int .u8 0),Leaf.val (.int .u8 0),Leaf.val (.int .u8 0),Leaf.val (.int .u8 0),Leaf.val (.int .u8 0),Leaf.val (.int .u8 0),Leaf.val (.int .u8 0),Leaf.val (.int .u8 0),Leaf.val (.int .u8 0),Leaf.val (.int .u8 0),Leaf.val (.int .u8 0),Leaf.val (.int .u8 0),Leaf.val (.int .u8 0),Leaf.val (.int .u8 0),Leaf.val (.int .u8 0),Leaf.val (.int .u8 0),Leaf.val (.int .u8 0),Leaf.val (.int .u8 0)]),(56,[]),(54,[])],pl:=[(36,[(0,1),(1,1),(2,1)]),(38,[(0,1),(1,3)]),(107,[(0,1),(1,1),(2,1),(3,1)]),(109,[(0,4),(4,3)]),(198,[(0,1),(1,1),(2,1)]),(155,[(0,1),(1,1)]),(150,[(0,3),(3,1),(4,1)]),(105,[(0,1),(1,1),(2,3),(5,1)]),(103,[(0,1),(1,3)]),(43,[(0,10),(10,1),(11,1)]),(118,[(0,4),(4,4),(8,3)]),(158,[(0,1),(1,1)]),(40,[(0,3),(3,3),(6,4)]),(76,[(0,1),(1,1),(2,3)]),(193,[(0,1),(1,1)]),(28,[(0,1),(1,1),(2,1)]),(31,[(0,1),(1,1),(2,1)]),(79,[(0,3),(3,3)]),(224,[(0,12),(12,1)]),(56,[(0,0)]),(54,[])],ft:=[((36,2),2,34),((38,1),1,36),((28,0),0,3),((28,1),1,26),((28,2),2,26),((31,0),0,29),((31,1),1,29),((31,2),2,26),((36,0),0,4),((36,1),1,34),((38,0),0,32),((40,0),0,28),((40,1),3,31),((40,2),6,38),((43,0),0,40),((43,1),10,41),((43,2),11,23),((76,0),0,3),((76,1),1,3),((76,2),2,36),((79,0),0,36),((79,1),3,36),((103,0),0,3),((103,1),1,36),((105,0),0,3),((105,1),1,4),((105,2),2,36),((105,3),5,46),((107,0),0,3),((107,1),1,3),((107,2),2,3),((107,3),3,3),((109,0),0,107),((109,1),4,36),((118,0),0,38),((118,1),4,107),((118,2),8,36),((150,0),0,36),((150,1),3,46),((150,2),4,4),((155,0),0,4),((155,1),1,34),((158,0),0,22),((158,1),1,3),((193,0),0,87),((193,1),1,87),((198,0),0,4),((198,1),1,34),((198,2),2,3),((224,0),0,43),((224,1),12,222)],un:=[(34,182),(32,103),(23,105),(46,109),(29,36),(26,38),(41,76),(22,5),(222,4),(33,182),(249,3),(82,79)],ik:=[(182,.u32),(208,.u64),(5,.u8),(3,.i64),(2,.i64),(12,.u64),(21,.i32),(60,.i64),(229,.u64)],inf:=[(109,7,88),(105,6,96),(36,3,56),(103,4,64),(38,4,80),(76,5,72),(4,1,1),(2,1,8),(3,1,8),(5,1,1),(9,1,16),(12,1,8),(21,1,4),(22,1,24),(23,1,24),(26,1,24),(28,3,56),(29,1,24),(31,3,72),(32,1,24),(33,1,24),(34,1,24),(40,10,208),(41,1,24),(43,12,256),(46,1,24),(60,1,8),(79,6,112),(82,1,24),(98,3,48),(107,4,32),(118,11,168),(150,5,88),(155,2,32),(158,2,32),(182,1,4),(193,2,32),(198,3,40),(208,1,8),(209,4,32),(222,1,24),(224,13,280),(229,1,8),(249,1,24),(264,32,32)] }
theorem zxX:mtab.Ok Tryz.prog:=⟨⟨⟨zCn,zCl,zCq,zCs,zzb,zzc,zCj,zCB,zy8,zCv,zCA,zyT,zCu,zCm,zyU,zy5,zCt,zCi,zCr,zCy,zCx,zy6,zy4,zCk,zy2,zy3,zy1,zy9,zCw,zyZ,zza,zCz,zy7,zyL,zyM,zCp,zyO,zyN,zyR,zyK,zy0,zyW,zyY,zyS,zCo,zyX,zyV,zyQ,zyP,zCh,zCg,trivial⟩,⟨zmx,zj4,ty3,zaw,ty34,zxi,zEe,ty4,ty198,zfw,ty155,ty26,ty32,zgC,ty23,zAl,ty118,ty29,ty40,ty41,ty150,ty28,zbi,ty31,ty46,ty87,ty5,ty222,ty22,ty2,ty9,ty12,ty21,ty33,ty54,ty60,ty79,ty82,ty98,ty158,ty193,ty208,ty209,ty224,ty229,ty249,ty264,trivial⟩⟩,⟨zAK,zAk,tz107,tz155,tz198,zcU,zlk,tz150,tz43,zlj,zAJ,tz118,tz31,tz28,tz40,tz158,tz3,tz193,tz2,tz4,tz5,tz9,tz12,tz21,tz22,tz23,tz26,tz29,tz32,tz33,tz34,tz41,tz46,tz60,tz79,tz82,tz98,zd1,tz208,zAL,tz222,tz224,tz229,tz249,tz264,tz56,tz54,trivial⟩,⟨pl36,zEg,pl107,pl109,pl198,pl155,pl150,pl105,pl103,pl43,pl118,pl158,pl40,pl76,pl193,pl28,pl31,pl79,zBf,pl56,pl54,trivial⟩,⟨zB6,zB4,zCe,zCd,zCc,zCb,zCa,zB9,zB8,zB7,zB5,zB3,zB2,zB1,zB0,zBZ,zBY,zBX,zBW,zBV,zBU,zBT,zyJ,zyI,zyH,zyG,zyF,zyE,zyD,zyC,zyB,zyA,zyz,zyy,zyx,zyw,zyv,zyu,zyt,zys,zyr,zyq,zyp,zyo,zyn,zym,zyl,zyk,zyj,zyi,zyh,trivial⟩,⟨zce,zlh,znM,zcE,zAE,zAj,ztI,zxf,zAG,zdS,zAF,un82,trivial⟩,⟨un182,un208,un5,un3,un2,un12,un21,un60,un229,trivial⟩,⟨(zaQ zuy),(zaQ in105),(zaQ in36),(zaQ zBQ),(zaQ in38),(zaQ in76),(zaQ in4),(zaQ in2),(zaQ in3),(zaQ in5),(zaQ in9),(zaQ in12),(zaQ in21),(zaQ in22),(zaQ in23),(zaQ in26),(zaQ in28),(zaQ in29),(zaQ in31),(zaQ in32),(zaQ in33),(zaQ in34),(zaQ in40),(zaQ in41),(zaQ in43),(zaQ in46),(zaQ in60),(zaQ in79),(zaQ in82),(zaQ in98),(zaQ in107),(zaQ in118),(zaQ in150),(zaQ in155),(zaQ in158),(zaQ zcL),(zaQ in193),(zaQ in198),(zaQ in208),(zaQ in209),(zaQ in222),(zaQ in224),(zaQ in229),(zaQ in249),(zaQ in264),trivial⟩⟩
instance tab0:Tab Tryz.prog:=⟨mtab,zxX,follows⟩
end Go.Proofs.YtjeiacoegppoiaaGreatDoor

namespace Rc
def dn(d:Nat):Nat:=if d=0 then 1 else d
theorem zha(d:Nat):0<dn d:=by unfold dn;split <;> omega
theorem zdY(d:Nat):dn d≠0:=Nat.ne_of_gt (zha d)
theorem zc7{d:Nat}(h:d≠0):dn d=d:=by simp[dn,h]
@[simp] theorem zzt:dn 0=1:=rfl
def sgn(neg:Bool)(n:Nat):Int:=if neg then -(n:Int) else n
@[simp] theorem zdF (n:Nat):sgn true n = -(n:Int):=rfl
@[simp] theorem zeK (n:Nat):sgn false n=n:=rfl
@[simp] theorem zcH (neg:Bool) (n:Nat):(sgn neg n).natAbs=n:=by cases neg <;> simp
theorem zqO(a b:Bool)(m n:Nat):sgn (a != b) (m*n)=sgn a m*sgn b n:=by
 cases a <;> cases b <;> simp[Int.neg_mul,Int.mul_neg]
theorem zxv(a:Bool)(m:Nat):sgn (!a) m = - sgn a m:=by cases a <;> simp
theorem zdg(x:Int):sgn (decide (x<0)) x.natAbs=x:=by
 unfold sgn;by_cases h:x<0
 .simp only[h,decide_true,if_true];omega
 .simp only[h,decide_false];simp;omega
def rq(neg:Bool)(n d:Nat):Rat:=mkRat (sgn neg n) (dn d)
def zaR(q:Rat):Bool:=decide (q.num<0)
def zav(q:Rat):Nat:=q.num.natAbs
def zaC(q:Rat):Nat:=if q.den=1 then 0 else q.den
theorem ziF(q:Rat):dn (zaC q)=q.den:=by
 have:=q.den_pos;unfold zaC;by_cases h:q.den=1
 .rw[if_pos h,h];rfl
 .rw[if_neg h];exact zc7 (by omega)
theorem zhy(q:Rat):rq (zaR q) (zav q) (zaC q)=q:=by
 unfold rq zaR zav;rw[ziF,zdg,Rat.mkRat_self]
theorem zmS(neg:Bool)(d:Nat):rq neg 0 d=0:=by unfold rq;cases neg <;> simp
theorem zgH{neg:Bool}{n d:Nat}:rq neg n d=0↔n=0:=by
 unfold rq;rw[Rat.mkRat_eq_zero (zdY d)];cases neg <;> simp
@[simp] theorem zsp:zaR 0=false:=rfl
@[simp] theorem zbm:zav 0=0:=rfl
@[simp] theorem zbn:zaC 0=0:=rfl
theorem zxD(neg:Bool)(n d:Nat):rq neg n (dn d)=rq neg n d:=by unfold rq;rw[zc7 (zdY d)]
theorem zl4(neg:Bool)(n d:Nat):(rq neg n d).den=dn d/Nat.gcd n (dn d):=by
 unfold rq;rw[Rat.den_mkRat,if_neg (zdY d),zcH,Nat.gcd_comm]
theorem zwo(neg:Bool)(n d:Nat):(rq neg n d).num=sgn neg (n/Nat.gcd n (dn d)):=by
 unfold rq;rw[Rat.num_mkRat,if_neg (zdY d),zcH,Nat.gcd_comm (dn d) n];obtain⟨k,hk⟩:=Nat.gcd_dvd_left n (dn d);have hg0:0<Nat.gcd n (dn d):=Nat.gcd_pos_of_pos_right _ (zha d);generalize Nat.gcd n (dn d)=g at *;subst hk;rw[Nat.mul_div_cancel_left _ hg0];cases neg
 .simp only[zeK];rw[Int.natCast_mul,Int.mul_ediv_cancel_left _ (by omega)]
 .simp only[zdF];rw[Int.natCast_mul,<-Int.mul_neg,Int.mul_ediv_cancel_left _ (by omega)]
theorem ziI(neg:Bool)(n d:Nat):zav (rq neg n d)=n/Nat.gcd n (dn d):=by
 unfold zav;rw[zwo,zcH]
theorem zni(neg:Bool)(n d:Nat):zaR (rq neg n d)=(neg&&decide (n≠0)):=by
 unfold zaR;rw[zwo];have hp:n≠0->0<n/Nat.gcd n (dn d):=fun h=>Nat.div_pos (Nat.le_of_dvd (by omega) (Nat.gcd_dvd_left _ _)) (Nat.gcd_pos_of_pos_left _ (by omega));have h0:n=0->n/Nat.gcd n (dn d)=0:=fun h=>by rw[h,Nat.zero_div]
 generalize n/Nat.gcd n (dn d)=k at *;cases neg
 .rw[Bool.false_and];exact decide_eq_false (by rw[zeK];omega)
 .rw[Bool.true_and];by_cases h:n=0
  .rw[h0 h];rw[decide_eq_false (by simp[h]:¬n≠0)];rfl
  .have:=hp h;rw[decide_eq_true (h:n≠0)];exact decide_eq_true (by rw[zdF];omega)
theorem zn5(a b:Bool)(m n d e:Nat)(s:Int)(hs:s=sgn a (m*dn e)+sgn b (n*dn d)) :
  rq (decide (s<0)) s.natAbs (dn d*dn e)=rq a m d+rq b n e:=by
 have h1:rq (decide (s<0)) s.natAbs (dn d*dn e)=mkRat s (dn d*dn e):=by
  unfold rq;rw[zdg,zc7 (Nat.ne_of_gt (Nat.mul_pos (zha d) (zha e)))]
 rw[h1,hs];unfold rq;rw[Rat.mkRat_add_mkRat _ _ (zdY d) (zdY e)];congr 1;cases a <;> cases b <;> simp <;> grind
theorem zg3(a b:Bool)(m n d e:Nat):rq (a != b) (m*n) (dn d*dn e)=rq a m d*rq b n e:=by
 unfold rq;rw[Rat.mkRat_mul_mkRat,zqO,zc7 (Nat.ne_of_gt (Nat.mul_pos (zha d) (zha e)))]
theorem zwa(a:Bool)(m d:Nat):rq (!a) m d = - rq a m d:=by
 unfold rq;rw[zxv,Rat.neg_mkRat]
theorem zur{a b:Int}{d e:Nat}(hd:0<d)(he:0<e):mkRat a d<mkRat b e↔a*e<b*d:=by
 rw[Rat.mkRat_eq_div,Rat.mkRat_eq_div];have hd':(0:Rat)<((d:Int):Rat):=by
  rw[show(0:Rat)=((0:Int):Rat) from rfl];exact Rat.intCast_lt_intCast.2 (by omega)
 have he':(0:Rat)<((e:Int):Rat):=by
  rw[show(0:Rat)=((0:Int):Rat) from rfl];exact Rat.intCast_lt_intCast.2 (by omega)
 have e1:((a:Rat)/(d:Nat))=(a:Rat)/((d:Int):Rat):=rfl;have e2:((b:Rat)/(e:Nat))=(b:Rat)/((e:Int):Rat):=rfl;rw[e1,e2,Rat.div_lt_iff hd'];rw[show(b:Rat)/((e:Int):Rat)*((d:Int):Rat)=((b:Rat)*((d:Int):Rat))/((e:Int):Rat) by grind,Rat.lt_div_iff he',
  ← Rat.intCast_mul,<-Rat.intCast_mul,Rat.intCast_lt_intCast]
theorem zA0(a b:Bool)(m n d e:Nat):rq a m d<rq b n e↔sgn a m*dn e<sgn b n*dn d:=by
 unfold rq;exact zur (zha d) (zha e)
theorem zA2(a b:Bool)(m n d e:Nat):rq a m d=rq b n e↔sgn a m*dn e=sgn b n*dn d:=by
 unfold rq;exact Rat.mkRat_eq_iff (zdY d) (zdY e)
def sg(q:Rat):Int:=if q<0 then -1 else if q=0 then 0 else 1
def zfg(p q:Rat):Int:=if p<q then -1 else if p=q then 0 else 1
theorem zu6(p q:Rat):zfg p q=sg (p-q):=by
 unfold zfg sg;have h1:p<q↔p-q<0:=by grind
 have h2:p=q↔p-q=0:=by grind
 simp only[h1,h2]
def val:List Nat->Nat
 |[]=>0
 |x::xs=>x+4294967296*val xs
def Small(l:List Nat):Prop:=∀x∈l,x<4294967296
def Canon(l:List Nat):Prop:=Small l/\∀h:l≠[],l.getLast h≠0
def zaa(n:Nat):List Nat:=if h:n=0 then[] else n%4294967296::zaa (n/4294967296)
termination_by n
decreasing_by omega
@[simp] theorem zj1:val []=0:=rfl
@[simp] theorem zbA (x:Nat) (xs:List Nat):val (x::xs)=x+4294967296*val xs:=rfl
theorem Small.nil:Small []:=fun _ h=>by simp at h
theorem Small.cons{x:Nat}{l:List Nat}(hx:x<4294967296)(h:Small l):Small (x::l):=by
 intro y hy;rcases zEQ.1 hy with rfl|hy
 .exact hx
 .exact h y hy
theorem Small.head{x:Nat}{l:List Nat}(h:Small (x::l)):x<4294967296:=h x (by simp)
theorem Small.tail{x:Nat}{l:List Nat}(h:Small (x::l)):Small l:=fun y hy=>h y (by simp[hy])
theorem Small.append{a b:List Nat}(ha:Small a)(hb:Small b):Small (a++b):=by
 intro x hx;rcases zEH.1 hx with h|h
 .exact ha x h
 .exact hb x h
theorem Small.take{a:List Nat}(ha:Small a)(n:Nat):Small (a.take n):=fun x hx=>ha x (List.mem_of_mem_take hx)
theorem Small.drop{a:List Nat}(ha:Small a)(n:Nat):Small (a.drop n):=fun x hx=>ha x (List.mem_of_mem_drop hx)
theorem Small.get{a:List Nat}(ha:Small a)(i:Nat)(h:i<a.length):a[i]<4294967296:=ha _ (List.getElem_mem h)
theorem Small.getD{a:List Nat}(ha:Small a)(i:Nat):a.getD i 0<4294967296:=by
 by_cases h:i<a.length
 .simp[List.getD,h];exact ha.get i h
 .simp[List.getD,h]
theorem Small.set{a:List Nat}(ha:Small a)(i x:Nat)(hx:x<4294967296):Small (a.set i x):=by
 intro y hy;rcases List.mem_or_eq_of_mem_set hy with h|h
 .exact ha y h
 .omega
theorem Small.replicate(n:Nat):Small (List.replicate n 0):=by
 intro x hx;have:=(List.mem_replicate.1 hx).2;omega
theorem za5(a b:List Nat):val (a++b)=val a+4294967296^a.length*val b:=by
 induction a with
 |nil=>simp
 |cons x xs ih=>simp only[List.cons_append,zbA,ih,List.length_cons];grind
theorem zaY(n:Nat):val (List.replicate n 0)=0:=by
 induction n with
 |zero=>rfl
 |succ n ih=>simp[List.replicate_succ,ih]
theorem zbk{l:List Nat}(h:Small l):val l<4294967296^l.length:=by
 induction l with
 |nil=>simp
 |cons x xs ih=>
  have hx:=h.head;have:=ih h.tail;simp only[zbA,List.length_cons,zEF];omega
theorem zaF(l:List Nat)(i:Nat)(h:i<l.length):val (l.take (i+1))=val (l.take i)+4294967296^i*l[i]:=by
 rw[List.take_succ_eq_append_getElem h,za5];simp[zED,Nat.min_eq_left (Nat.le_of_lt h)]
theorem zaG(l:List Nat)(i:Nat):val (l.take (i+1))=val (l.take i)+4294967296^i*l.getD i 0:=by
 by_cases h:i<l.length
 .rw[zaF l i h];simp[List.getD,h]
 .simp[List.getD,h,zEV (Nat.le_of_not_lt h),zEV (Nat.le_succ_of_le (Nat.le_of_not_lt h))]
theorem zdc(l:List Nat)(i:Nat):val l=val (l.take i)+4294967296^(min i l.length)*val (l.drop i):=by
 conv=>lhs;rw[<-List.take_append_drop i l]
 rw[za5,zED]
theorem zai:zaa 0=[]:=by unfold zaa;simp
theorem zdn{n:Nat}(h:n≠0):zaa n=n%4294967296::zaa (n/4294967296):=by rw[zaa];simp[h]
theorem zac(n:Nat):val (zaa n)=n:=by
 induction n using Nat.strongRecOn with
 |_ n ih=>
  by_cases h:n=0
  .subst h;simp[zai]
  .rw[zdn h,zbA,ih _ (by omega)];omega
theorem zab(n:Nat):Small (zaa n):=by
 induction n using Nat.strongRecOn with
 |_ n ih=>
  by_cases h:n=0
  .subst h;simp[zai];exact Small.nil
  .rw[zdn h];exact Small.cons (by omega) (ih _ (by omega))
theorem za3{n:Nat}:zaa n=[]↔n=0:=by
 constructor
 .intro h;have:=zac n;rw[h] at this;simp at this;omega
 .rintro rfl;exact zai
theorem zcO(n:Nat):Canon (zaa n):=by
 refine⟨zab n,?_⟩
 induction n using Nat.strongRecOn with
 |_ n ih=>
  intro h;have hn:n≠0:=fun e=>h (za3.2 e);simp only[zdn hn];by_cases h2:n/4294967296=0
  .simp only[h2,zai];simp;omega
  .have h3:zaa (n/4294967296)≠[]:=fun e=>h2 (za3.1 e);rw[List.getLast_cons h3];exact ih _ (by omega) h3
theorem Canon.tail{x:Nat}{l:List Nat}(h:Canon (x::l)):Canon l:=
 ⟨h.1.tail,fun hl=>by have:=h.2 (by simp);rwa [List.getLast_cons hl] at this⟩
theorem zf9{l:List Nat}(h:Canon l):zaa (val l)=l:=by
 induction l with
 |nil=>exact zai
 |cons x xs ih=>
  have hx:=h.1.head;have hne:val (x::xs)≠0:=by
   intro e;simp only[zbA] at e;have h0:val xs=0:=by omega
   have:xs=[]:=by rw[<-ih h.tail,h0,zai]
   subst this;exact h.2 (by simp) (by simp;omega)
  rw[zdn hne];have e1:val (x::xs)%4294967296=x:=by simp only[zbA];omega
  have e2:val (x::xs)/4294967296=val xs:=by simp only[zbA];omega
  rw[e1,e2,ih h.tail]
theorem Canon.eq{l:List Nat}(h:Canon l):l=zaa (val l):=(zf9 h).symm
theorem zag{n k:Nat}:(zaa n).length<=k↔n<4294967296^k:=by
 constructor
 .intro h;have h1:=zbk (zab n);rw[zac] at h1;exact zEv h1 (zEz (by omega) h)
 .intro h
  induction k generalizing n with
  |zero=>simp at h;subst h;simp[zai]
  |succ k ih=>
   by_cases hn:n=0
   .subst hn;simp[zai]
   .rw[zdn hn];simp only[List.length_cons];have:=ih (n:=n/4294967296) (by rw[zEF] at h;omega);omega
theorem ztK{l:List Nat}(n:Nat)(h:∀i (hi:i<l.length),n<=i->l[i]=0):val (l.take n)=val l:=by
 rw[zdc l n];have:val (l.drop n)=0:=by
  have e:l.drop n=List.replicate (l.length-n) 0:=by
   apply List.ext_getElem
   .simp
   .intro i h1 h2;simp at h1;simp;exact h _ _ (by omega)
  rw[e,zaY]
 rw[this];simp
theorem zfa{l:List Nat}(hs:Small l)(n:Nat)(hn:n<=l.length)(h:∀i (hi:i<l.length),n<=i->l[i]=0)
  (hl:∀h0:0<n,l[n-1]≠0):l.take n=zaa (val l):=by
 have hc:Canon (l.take n):=by
  refine⟨hs.take n,fun he=>?_⟩;have h0:0<n:=by
   rcases Nat.eq_zero_or_pos n with h0|h0
   .subst h0;simp at he
   .exact h0
  have h1:=hl h0;rw[List.getLast_eq_getElem];simp only[List.getElem_take,zED];simpa[Nat.min_eq_left hn] using h1
 rw[hc.eq,ztK n h]
def zgz(a b:Nat):Int:=if a<b then -1 else if a=b then 0 else 1
theorem zda{a b:Nat}(h:a<b):zgz a b = -1:=by simp[zgz,h]
theorem zkQ{a b:Nat}(h:b<a):zgz a b=1:=by
 unfold zgz;rw[if_neg (by omega),if_neg (by omega)]
theorem zst{a b:Nat}(h:a=b):zgz a b=0:=by subst h;simp[zgz]
theorem zaz{x y:Nat}(h:x<=y):(zaa x).length<=(zaa y).length:=
 zag.2 (zEN h (zag.1 (zEq _)))
theorem zg8{x y:Nat}(h:(zaa x).length<(zaa y).length):x<y:=by
 rcases Nat.lt_or_ge x y with h1|h1
 .exact h1
 .have:=zaz h1;omega
theorem zam{l:List Nat}(hs:Small l):(zaa (val l)).length<=l.length:=zag.2 (zbk hs)
theorem zd0(l:List Nat)(n:Nat)(h:n<l.length):val l=val (l.take n)+4294967296^n*(l[n]+4294967296*val (l.drop (n+1))):=by
 have h1:=zdc l n;rw[Nat.min_eq_left (Nat.le_of_lt h),zET h,zbA] at h1;exact h1
theorem zwV{a b:List Nat}{n:Nat}(ha:Small a)(hn:n<a.length)(hn':n<b.length)(h:a.drop (n+1)=b.drop (n+1))(hlt:a[n]<b[n]):val a<val b:=by
 rw[zd0 a n hn,zd0 b n hn',h];have h1:=zbk (ha.take n);rw[zED,Nat.min_eq_left (Nat.le_of_lt hn)] at h1;generalize val (b.drop (n+1))=d;have h2:4294967296^n*(a[n]+4294967296*d+1)<=4294967296^n*(b[n]+4294967296*d):=zEU _ (by omega);rw[Nat.mul_add,Nat.mul_one] at h2;omega
theorem zl1{a b:List Nat}{n:Nat}(hn:n<a.length)(hn':n<b.length)(h:a.drop (n+1)=b.drop (n+1))(he:a[n]=b[n]):a.drop n=b.drop n:=by
 rw[zET hn,zET hn',h,he]
theorem zbj(out:List Nat)(k x:Nat)(h:k<out.length):val ((out.set k x).take (k+1))=val (out.take k)+4294967296^k*x:=by
 rw[zaF _ _ (by simpa using h),List.take_set_of_le (zEq k),List.getElem_set_self]
theorem zan(l:List Nat)(k:Nat)(h:l.length<=k):val (l.take k)=val l:=by rw[zEV h]
theorem zb7{l:List Nat}{k:Nat}(h:k<l.length):l.getD k 0=l[k]:=by simp[List.getD,h]
theorem zdL{l:List Nat}{k:Nat}(h:l.length<=k):l.getD k 0=0:=by simp[List.getD,h]
theorem zgr{a b out:List Nat}{k c s:Nat}(hk:k<a.length)(hl:k<out.length)(h:val (out.take k)+c*4294967296^k=val (a.take k)+val (b.take k))(hs:s=c+a[k]+b.getD k 0) :
  val ((out.set k (s%4294967296)).take (k+1))+(s/4294967296)*4294967296^(k+1)=val (a.take (k+1))+val (b.take (k+1)):=by
 rw[zbj out k _ hl,zaF a k hk,zaG b k,zEF];have e:4294967296^k*s=4294967296^k*(s%4294967296)+s/4294967296*(4294967296^k*4294967296):=by
  conv=>lhs;rw[<-Nat.mod_add_div s 4294967296]
  grind
 rw[hs] at e;rw[hs];have e2:4294967296^k*(c+a[k]+b.getD k 0)=c*4294967296^k+4294967296^k*a[k]+4294967296^k*b.getD k 0:=by grind
 omega
theorem znU{a b out:List Nat}{k c x:Nat}(hk:k<a.length)(hl:k<out.length)(ha:Small a)(hb:Small b)(hc:c<=1)
  (h:val (out.take k)+val (b.take k)=val (a.take k)+c*4294967296^k) (hx:x=(18446744073709551616+a[k]-c-b.getD k 0)%18446744073709551616) :
  val ((out.set k (x%4294967296)).take (k+1))+val (b.take (k+1))=val (a.take (k+1))+(x/9223372036854775808)*4294967296^(k+1):=by
 rw[zbj out k _ hl,zaF a k hk,zaG b k,zEF];have h1:=ha.get k hk;have h2:=hb.getD k;generalize a[k]=p at *;generalize b.getD k 0=q at *;have e:x%4294967296+q+c=p+(x/9223372036854775808)*4294967296:=by omega
 have e2:4294967296^k*(x%4294967296+q+c)=4294967296^k*(p+(x/9223372036854775808)*4294967296):=by rw[e]
 have e3:4294967296^k*(x%4294967296+q+c)=4294967296^k*(x%4294967296)+4294967296^k*q+c*4294967296^k:=by grind
 have e4:4294967296^k*(p+(x/9223372036854775808)*4294967296)=4294967296^k*p+(x/9223372036854775808)*(4294967296^k*4294967296):=by grind
 omega
theorem zj0(l:List Nat)(i x:Nat)(h:i<l.length):val (l.set i x)+4294967296^i*l[i]=val l+4294967296^i*x:=by
 rw[zd0 l i h,zd0 (l.set i x) i (by simpa using h)];rw[List.take_set_of_le (zEq i),List.getElem_set_self,List.drop_set_of_lt (by omega)];grind
theorem zup{b out:List Nat}{i k c x:Nat}(hk:k<b.length)(hl:i+k<out.length)(base:Nat)(h:val out+c*4294967296^(i+k)=base+4294967296^i*(x*val (b.take k))) :
  val (out.set (i+k) ((c+(x*b[k]+out[i+k]))%4294967296))+((c+(x*b[k]+out[i+k]))/4294967296)*4294967296^(i+(k+1))=base+4294967296^i*(x*val (b.take (k+1))):=by
 have h1:=zj0 out (i+k) ((c+(x*b[k]+out[i+k]))%4294967296) hl;rw[zaF b k hk,show i+(k+1)=(i+k)+1 from rfl,zEF];generalize hs:c+(x*b[k]+out[i+k])=s at *;have e1:4294967296^(i+k)*s=4294967296^(i+k)*(s%4294967296)+s/4294967296*(4294967296^(i+k)*4294967296):=by
  conv=>lhs;rw[<-Nat.mod_add_div s 4294967296]
  grind
 have e2:4294967296^(i+k)*s=c*4294967296^(i+k)+4294967296^i*(x*(4294967296^k*b[k]))+4294967296^(i+k)*out[i+k]:=by
  rw[<-hs,zEG];grind
 have e3:4294967296^i*(x*(val (b.take k)+4294967296^k*b[k]))=4294967296^i*(x*val (b.take k))+4294967296^i*(x*(4294967296^k*b[k])):=by grind
 omega
theorem zlP{c x y o:Nat}(hc:c<4294967296)(hx:x<4294967296)(hy:y<4294967296)(ho:o<4294967296):c+(x*y+o)<18446744073709551616/\(c+(x*y+o))/4294967296<4294967296/\x*y<=18446744065119617025:=by
 have h1:x*y<=4294967295*4294967295:=Nat.mul_le_mul (by omega) (by omega);omega
end Rc
namespace Rc
def bl(n:Nat):Nat:=if n=0 then 0 else Nat.log2 n+1
theorem ziQ(n:Nat):n<2^bl n:=by
 unfold bl;split
 .rename_i h;subst h;simp
 .exact Nat.lt_log2_self
theorem znq{n:Nat}(h:n≠0):2^(bl n-1)<=n:=by
 unfold bl;rw[if_neg h];simpa using Nat.log2_self_le h
theorem ziP{n k:Nat}(h1:n<2^k)(h2:0<k->2^(k-1)<=n):bl n=k:=by
 by_cases h0:n=0
 .subst h0;rcases Nat.eq_zero_or_pos k with hk|hk
  .subst hk;rfl
  .have:=h2 hk;have:=Nat.pow_pos (n:=k-1) (show 0<2 from by omega);omega
 .have hk:0<k:=by
   rcases Nat.eq_zero_or_pos k with hk|hk
   .subst hk;simp at h1;omega
   .exact hk
  unfold bl;rw[if_neg h0,(Nat.log2_eq_iff h0).2 ⟨h2 hk,by rw[show k-1+1=k from by omega];exact h1⟩];omega
theorem zsR:bl 0=0:=rfl
theorem zmh{n:Nat}(h:n≠0):0<bl n:=by unfold bl;rw[if_neg h];omega
theorem zjQ{n k:Nat}(h:2^k<=n):bl n=bl (n/2^k)+k:=by
 have hp:0<2^k:=Nat.pow_pos (by omega);have hq:n/2^k≠0:=Nat.ne_of_gt (Nat.div_pos h hp);apply ziP
 .have:=ziQ (n/2^k);rw[zEG]
  rwa [Nat.div_lt_iff_lt_mul hp] at this
 .intro _;have:=znq hq;have h3:=zmh hq;rw[show bl (n/2^k)+k-1=(bl (n/2^k)-1)+k from by omega,zEG]
  rwa [Nat.le_div_iff_mul_le hp] at this
theorem zaE{n k:Nat}(h:n<2^k):bl n<=k:=by
 rcases Nat.lt_or_ge k (bl n) with h1|h1
 .exfalso;have h0:n≠0:=by intro e;subst e;simp[bl] at h1
  have:=znq h0;have h2:2^k<=2^(bl n-1):=zEz (by omega) (by omega);omega
 .exact h1
theorem zp9{lo hi k:Nat}(h:lo<2^k)(hh:hi≠0):bl (lo+2^k*hi)=k+bl hi:=by
 have hp:0<2^k:=Nat.pow_pos (by omega);have e:(lo+2^k*hi)/2^k=hi:=by
  rw[Nat.add_mul_div_left _ _ hp,Nat.div_eq_of_lt h,Nat.zero_add]
 have h1:2^k<=lo+2^k*hi:=by
  have:2^k*1<=2^k*hi:=zEU _ (by omega);omega
 rw[zjQ h1,e,Nat.add_comm]
theorem zc4(k:Nat):4294967296^k=2^(32*k):=by rw[Nat.pow_mul]
theorem zhM{l:List Nat}(hc:Canon l)(h:0<l.length):bl (val l)=32*(l.length-1)+bl (l[l.length-1]'(by omega)):=by
 have h1:=zd0 l (l.length-1) (by omega);have h2:l.drop (l.length-1+1)=[]:=List.drop_of_length_le (by omega);rw[h2] at h1;simp only[zj1,Nat.mul_zero,Nat.add_zero] at h1;have h3:=zbk (hc.1.take (l.length-1));rw[zED,Nat.min_eq_left (by omega),zc4] at h3;rw[h1,zc4];refine zp9 h3 ?_;have:=hc.2 (by intro e;rw[e] at h;simp at h)
 rwa [List.getLast_eq_getElem] at this
theorem zrO{a out:List Nat}{i k:Nat}(hi:i<a.length)(hl:i+1<out.length)(h:val (out.take (i+1))=val (a.take i)*2^k)(x:Nat)(hx:x=a[i]*2^k) :
  val (((out.set i (out[i]+x%4294967296)).set (i+1) (x/4294967296)).take (i+1+1))=val (a.take (i+1))*2^k:=by
 rw[zbj _ (i+1) _ (by simpa using hl)];rw[zbj out i _ (by omega)];rw[zaF out i (by omega)] at h;rw[zaF a i hi,Nat.add_mul,<-h,zEF];have e:4294967296^i*x=4294967296^i*(x%4294967296)+4294967296^i*4294967296*(x/4294967296):=by
  conv=>lhs;rw[<-Nat.mod_add_div x 4294967296]
  grind
 have e2:4294967296^i*a[i]*2^k=4294967296^i*x:=by rw[hx];grind
 have e3:4294967296^i*(out[i]+x%4294967296)=4294967296^i*out[i]+4294967296^i*(x%4294967296):=by grind
 omega
theorem zbV(l:List Nat)(hs:Small l)(i:Nat):val l/4294967296^i=val (l.drop i):=by
 have hp:0<4294967296^i:=Nat.pow_pos (by omega);by_cases hi:i<=l.length
 .have h1:=zdc l i;have h2:=zbk (hs.take i);rw[zED,Nat.min_eq_left hi] at h2;rw[Nat.min_eq_left hi] at h1;rw[h1,Nat.add_mul_div_left _ _ hp,Nat.div_eq_of_lt h2,Nat.zero_add]
 .have h1:=zbk hs;have h2:4294967296^l.length<=4294967296^i:=zEz (by omega) (by omega);rw[List.drop_of_length_le (by omega),Nat.div_eq_of_lt (by omega)];rfl
theorem zj9{a out:List Nat}{i s:Nat}(ha:Small a)(hi:i<a.length)(hl:i<out.length)(hs:s<32)(h:val (out.take i)=val a/2^s%4294967296^i)(x:Nat)(hx:x=a[i]+4294967296*a.getD (i+1) 0) :
  val ((out.set i (x/2^s%4294967296)).take (i+1))=val a/2^s%4294967296^(i+1):=by
 rw[zbj out i _ hl,h,zEF,Nat.mod_mul,Nat.div_div_eq_div_mul,zER (2^s),<-Nat.div_div_eq_div_mul,zbV a ha i];congr 2;rw[zET hi,zbA];have e:val (a.drop (i+1))=a.getD (i+1) 0+4294967296*val (a.drop (i+2)):=by
  by_cases h2:i+1<a.length
  .rw[zET h2,zbA,zb7 h2]
  .rw[List.drop_of_length_le (by omega),List.drop_of_length_le (by omega),zdL (by omega)];rfl
 rw[e,hx];have e2:(4294967296:Nat)=2^s*2^(32-s):=by rw[<-zEG,show s+(32-s)=32 from by omega]
 have e3:a[i]+4294967296*(a.getD (i+1) 0+4294967296*val (a.drop (i+2)))=(a[i]+4294967296*a.getD (i+1) 0)+2^s*(4294967296*(2^(32-s)*val (a.drop (i+2)))):=by
  have:4294967296*(4294967296*val (a.drop (i+2)))=2^s*(4294967296*(2^(32-s)*val (a.drop (i+2)))):=by
   conv=>lhs;lhs;rw[e2]
   grind
  grind
 rw[e3,Nat.add_mul_div_left _ _ (Nat.pow_pos (by omega)),Nat.add_mul_mod_self_left]
theorem zpk{a out:List Nat}{n d r:Nat}(hn:0<n)(hna:n<=a.length)(hnl:n<=out.length)(h:val (a.drop n)=val (out.drop n)*d+r)(t:Nat)(ht:t=r*4294967296+a[n-1]'(by omega)) :
  val (a.drop (n-1))=val ((out.set (n-1) (t/d)).drop (n-1))*d+t%d:=by
 rw[zET (show n-1<a.length from by omega),zET (show n-1<(out.set (n-1) (t/d)).length from by simp;omega)];rw[List.getElem_set_self,List.drop_set_of_lt (by omega),show n-1+1=n from by omega];simp only[zbA];rw[h];have:=Nat.div_add_mod t d;grind
end Rc
namespace Rc
def zg5(n x:Nat):List Nat:=(List.range n).map fun i=>x/4294967296^i%4294967296
theorem zcg(n x:Nat):(zg5 n x).length=n:=by simp[zg5]
theorem zmX{l:List Nat}(hs:Small l):l=zg5 l.length (val l):=by
 apply List.ext_getElem
 .simp[zg5]
 .intro i h1 h2;simp only[zg5,List.getElem_map,List.getElem_range];rw[zbV l hs i,zET h1,zbA];have:=hs.get i h1;omega
theorem zkk{l:List Nat}{n x:Nat}(hs:Small l)(hl:l.length=n)(hv:val l=x):l=zg5 n x:=by subst hl;subst hv;exact zmX hs
theorem zd2(n x:Nat):Small (zg5 n x):=by
 intro y hy;simp only[zg5,List.mem_map] at hy;obtain⟨i,_,rfl⟩:=hy;omega
theorem zfM{n x:Nat}(h:x<4294967296^n):val (zg5 n x)=x:=by
 have e:zg5 n x=zaa x++List.replicate (n-(zaa x).length) 0:=by
  refine(zkk ((zab x).append (Small.replicate _)) ?_ ?_).symm
  .have:=zag.2 h;simp;omega
  .rw[za5,zaY,zac];simp
 rw[e,za5,zaY,zac];simp
theorem zx6{o d k:Nat}(hk:k<32)(ho:o<2^k):(d*2^k%4294967296)%2^k=0/\d*2^k%4294967296+o<4294967296:=by
 have e:(4294967296:Nat)=2^(32-k)*2^k:=by rw[<-zEG,show 32-k+k=32 from by omega]
 have h1:d*2^k%4294967296=(d%2^(32-k))*2^k:=by rw[e,Nat.mul_mod_mul_right]
 have hp:0<2^(32-k):=Nat.pow_pos (by omega);have h2:d%2^(32-k)<2^(32-k):=Nat.mod_lt _ hp;rw[h1];refine⟨Nat.mul_mod_left _ _,?_⟩;rw[e];generalize 2^(32-k)=m at *;generalize 2^k=p at *;have:(d%m+1)*p<=m*p:=zEx _ h2;rw[Nat.add_mul,Nat.one_mul] at this;omega
theorem zpG{d k:Nat}(hk:k<32)(hd:d<4294967296):d*2^k<18446744073709551616/\d*2^k/4294967296<2^k/\(2:Nat)^k<=2147483648:=by
 have h1:(2:Nat)^k<=2^31:=zEz (by omega) (by omega);have hp:0<(2:Nat)^k:=Nat.pow_pos (by omega);have h2:d*2^k<=4294967295*2^k:=zEx _ (by omega);refine⟨by omega,?_,by omega⟩;rw[Nat.div_lt_iff_lt_mul (by omega)];omega
theorem zel(x k:Nat):x/4294967296^(k/32)/2^(k%32)=x/2^k:=by
 rw[zc4,Nat.div_div_eq_div_mul,<-zEG,Nat.div_add_mod]
end Rc
namespace Rc
open Go
theorem zob{a b:Nat}(i:Nat)(ha:a%2^i=0)(hb:b<2^i):a ||| b=a+b:=by
 have h:a=(a/2^i) <<< i:=by
  rw[Nat.shiftLeft_eq];have:=Nat.div_add_mod a (2^i);rw[ha,Nat.add_zero] at this;rw[zER];exact this.symm
 rw[h,<-Nat.shiftLeft_add_eq_or_of_lt hb]
theorem zbN(w n:Nat)(h:n<2^w):(BitVec.ofInt w (n:Int)).toNat=n:=by
 rw[show(BitVec.ofInt w (n:Int))=BitVec.ofNat w n from by
  apply BitVec.eq_of_toNat_eq;rw[BitVec.toNat_ofInt,BitVec.toNat_ofNat];have:((n:Int)%((2^w:Nat):Int))=((n%2^w:Nat):Int):=by rw[Int.natCast_emod]
  rw[this];rfl]
 rw[BitVec.toNat_ofNat,Nat.mod_eq_of_lt h]
theorem zcj{n:Nat}(h:n<18446744073709551616):IntKind.u64.wrap (n:Int)=n:=zdB (by omega)
theorem zbU{n:Nat}(h:n<4294967296):IntKind.u32.wrap (n:Int)=n:=zxe (by omega)
theorem or64{a b:Nat}(i:Nat)(ha:a%2^i=0)(hb:b<2^i)(h:a+b<18446744073709551616) :
  IntKind.u64.wrap ((BitVec.ofInt IntKind.u64.bits (a:Int) ||| BitVec.ofInt IntKind.u64.bits (b:Int)).toNat)=((a+b:Nat):Int):=by
 rw[BitVec.toNat_or,zbN _ a (by simp only[IntKind.bits];omega),zbN _ b (by simp only[IntKind.bits];omega),zob i ha hb];exact zcj h
theorem zru{a b:Nat}(i:Nat)(ha:a%2^i=0)(hb:b<2^i)(h:a+b<18446744073709551616) :
  IntKind.u64.wrap ((BitVec.ofInt IntKind.u64.bits (b:Int) ||| BitVec.ofInt IntKind.u64.bits (a:Int)).toNat)=((b+a:Nat):Int):=by
 rw[BitVec.toNat_or,zbN _ a (by simp only[IntKind.bits];omega),zbN _ b (by simp only[IntKind.bits];omega),Nat.or_comm,zob i ha hb,Nat.add_comm b a];exact zcj h
theorem or32'{a b:Nat}(i:Nat)(ha:a%2^i=0)(hb:b<2^i)(h:a+b<4294967296) :
  IntKind.u32.wrap ((BitVec.ofInt IntKind.u32.bits (b:Int) ||| BitVec.ofInt IntKind.u32.bits (a:Int)).toNat)=((b+a:Nat):Int):=by
 rw[BitVec.toNat_or,zbN _ a (by simp only[IntKind.bits];omega),zbN _ b (by simp only[IntKind.bits];omega),Nat.or_comm,zob i ha hb,Nat.add_comm b a];exact zbU h
theorem zka{c:Int}(x c':Nat)(hc:min c.toNat IntKind.u64.bits=c')(h:x*2^c'<18446744073709551616):IntKind.u64.wrap ((x:Int)*2^(min c.toNat IntKind.u64.bits))=((x*2^c':Nat):Int):=by
 rw[hc,show((x:Int)*2^c')=((x*2^c':Nat):Int) from by rw[Int.natCast_mul,Int.natCast_pow];rfl];exact zcj h
theorem zd7{c:Nat}(h:c<=64):min ((c:Int)).toNat IntKind.u64.bits=c:=by simp only[IntKind.bits];omega
theorem wu8{x r:Int}(h:x%256=r):IntKind.u8.wrap x=r:=by
 subst h;simp[IntKind.wrap,IntKind.bits,IntKind.signed]
theorem zfN(a b:Nat):((a:Int)).tdiv (b:Int)=((a/b:Nat):Int):=by rw[Int.tdiv_eq_ediv_of_nonneg (by omega)];rfl
theorem zei(a b:Nat):((a:Int)).tmod (b:Int)=((a%b:Nat):Int):=by rw[Int.tmod_eq_emod_of_nonneg (by omega)];rfl
theorem getElem?_bytes(s:ByteArray)(j:Nat):s[j]?=s.data.toList[j]?:=by
 by_cases h:j<s.size
 .rw[getElem?_pos s j h];have h':j<s.data.toList.length:=by simpa using h
  rw[zEm h'];rfl
 .rw[getElem?_neg s j h,List.getElem?_eq_none (by simpa using h)]
theorem zhD{s:ByteArray}(hs:s.data.toList=(List.range 256).map fun i=>UInt8.ofNat (bl i)){x:Nat}(hx:x<256):s[x]?=some (UInt8.ofNat (bl x)):=by
 rw[getElem?_bytes,hs];simp[hx]
theorem zhC{x:Nat}(hx:x<256):((UInt8.ofNat (bl x)).toNat:Int)=(bl x:Int):=by
 have:=zaE (n:=x) (k:=8) hx;rw[UInt8.toNat_ofNat_of_lt' (by simp[UInt8.size];omega)]
end Rc
namespace Rc
open Go Go.RowKit
set_option maxRecDepth 10000
def est(top s2 v1 v2:Nat):Nat:=
 if top<4294967296 then min ((top*4294967296+s2)/(v1*4294967296+v2)) 4294967295
 else max (min ((top*4294967296+s2)/(v1*4294967296+v2)) 4294967295) ((top-4294967296)/v1)
theorem zDl{A r s2 b:Nat}(h:r*4294967296+s2<b):(A+r)*4294967296+s2<A*4294967296+b:=by
 rw[Nat.add_mul,Nat.add_assoc];exact Nat.add_lt_add_left h _
theorem zDk{a W T p:Nat}(h:a+W<=T)(hp:p<=W):a+p<=T:=zEw (Nat.add_le_add_left hp _) h
theorem zsf{top s2 v1 v2 q r:Nat}(h1:0<v1)(hq:q<4294967296)(h:q*v2<=r*4294967296+s2)(ht:q*v1+r=top):q<=est top s2 v1 v2:=by
 have hW:q<=(top*4294967296+s2)/(v1*4294967296+v2):=by
  rw[Nat.le_div_iff_mul_le (by omega)];subst ht;have:q*(v1*4294967296+v2)=q*v1*4294967296+q*v2:=by grind
  rw[this];omega
 have hm:q<=min ((top*4294967296+s2)/(v1*4294967296+v2)) 4294967295:=Nat.le_min.2 ⟨hW,by omega⟩;unfold est;split
 .exact hm
 .exact zEw hm (Nat.le_max_left _ _)
theorem zl0{top s2 v1 v2 q r:Nat}(h1:0<v1)(hr:4294967296<=r)(ht:q*v1+r=top):q<=est top s2 v1 v2:=by
 have hm:q<=(top-4294967296)/v1:=by
  rw[Nat.le_div_iff_mul_le h1];omega
 unfold est;rw[if_neg (by omega)];exact zEw hm (Nat.le_max_right _ _)
theorem zwF{top s2 v1 v2 q r:Nat}(h1:0<v1)(hr:r<4294967296)(ht:q*v1+r=top)(h:4294967296<=q\/r*4294967296+s2<q*v2):est top s2 v1 v2<q:=by
 have hm:min ((top*4294967296+s2)/(v1*4294967296+v2)) 4294967295<q:=by
  rcases h with h|h
  .exact zEN (Nat.min_le_right _ _) (zEv (Nat.lt_succ_self 4294967295) h)
  .refine zEN (Nat.min_le_left _ _) ?_;rw[Nat.div_lt_iff_lt_mul (by omega)];subst ht;have:q*(v1*4294967296+v2)=q*v1*4294967296+q*v2:=by grind
   rw[this];exact zDl h
 unfold est;split
 .exact hm
 .refine Nat.max_lt.2 ⟨hm,?_⟩;rw[Nat.div_lt_iff_lt_mul h1];omega
theorem zDj{top s2 v1 v2:Nat}(h1:0<v1)(h2:s2<4294967296):est top s2 v1 v2<=top/v1:=by
 have hm:min ((top*4294967296+s2)/(v1*4294967296+v2)) 4294967295<=top/v1:=by
  refine zEw (Nat.min_le_left _ _) ?_;rw[Nat.le_div_iff_mul_le h1];have hd:=Nat.div_mul_le_self (top*4294967296+s2) (v1*4294967296+v2);generalize (top*4294967296+s2)/(v1*4294967296+v2)=q at *;have:q*(v1*4294967296+v2)=q*v1*4294967296+q*v2:=by grind
  rw[this] at hd;omega
 unfold est;split
 .exact hm
 .exact Nat.max_le.2 ⟨hm,Nat.div_le_div_right (by omega)⟩
theorem zpV{top s2 v1 v2 lo lov e S V:Nat}(he:0<e)(hv1:2147483648<=v1)(hv1':v1<4294967296)(hv2:v2<4294967296)(hs2:s2<4294967296)(hlo:lo<e)(hlov:lov<e)
  (hS:S=lo+e*(top*4294967296+s2)) (hV:V=lov+e*(v1*4294967296+v2)) (hSV:S<V*4294967296) :
  S/V<=est top s2 v1 v2/\est top s2 v1 v2<=S/V+1:=by
 have hVpos:0<V:=by
  rw[hV];have:0<e*(v1*4294967296+v2):=Nat.mul_pos he (by omega);omega
 have hqB:S/V<4294967296:=by rw[Nat.div_lt_iff_lt_mul hVpos,zER];exact hSV
 have htop:top<(v1+1)*4294967296:=by
  have h1:e*(top*4294967296)<e*((v1*4294967296+v2+1)*4294967296):=by
   have h2:e*(top*4294967296)<=S:=by rw[hS,Nat.mul_add];omega
   have h3:V<=e*(v1*4294967296+v2+1):=by rw[hV,Nat.mul_add e _ 1,Nat.mul_one];omega
   have h4:V*4294967296<=e*(v1*4294967296+v2+1)*4294967296:=zEx _ h3;rw[Nat.mul_assoc] at h4;omega
  have:=Nat.lt_of_mul_lt_mul_left h1;omega
 constructor
 .have hd:=Nat.div_mul_le_self S V;have hm:S/V<=min ((top*4294967296+s2)/(v1*4294967296+v2)) 4294967295:=by
   refine Nat.le_min.2 ⟨?_,by omega⟩;rw[Nat.le_div_iff_mul_le (by omega)];have h1:e*(S/V*(v1*4294967296+v2))<e*(top*4294967296+s2+1):=by
    have h2:S/V*(e*(v1*4294967296+v2))<=S/V*V:=zEU _ (by rw[hV];omega);have h3:e*(S/V*(v1*4294967296+v2))=S/V*(e*(v1*4294967296+v2)):=by grind
    rw[Nat.mul_add e _ 1,Nat.mul_one,h3];omega
   have:=Nat.lt_of_mul_lt_mul_left h1;omega
  unfold est;split
  .exact hm
  .exact zEw hm (Nat.le_max_left _ _)
 ·
  have hqW:∀q,q<=est top s2 v1 v2->q<=4294967296/\q*(v1*4294967296+v2)<=top*4294967296+s2\/q<=4294967295/\q*(v1*4294967296+v2)<=top*4294967296+s2:=by
   intro q hq;have hleft:q<=min ((top*4294967296+s2)/(v1*4294967296+v2)) 4294967295->q<=4294967295/\q*(v1*4294967296+v2)<=top*4294967296+s2:=by
    intro h;obtain⟨h1,h2⟩:=Nat.le_min.1 h;exact⟨h2,(Nat.le_div_iff_mul_le (by omega)).1 h1⟩
   unfold est at hq;split at hq
   .exact .inr (hleft hq)
   .by_cases hc:q<=min ((top*4294967296+s2)/(v1*4294967296+v2)) 4294967295
    .exact .inr (hleft hc)
    .have h2:q<=(top-4294967296)/v1:=by
      rcases Nat.le_total (min ((top*4294967296+s2)/(v1*4294967296+v2)) 4294967295) ((top-4294967296)/v1) with h|h
      .rwa [Nat.max_eq_right h] at hq
      .rw[Nat.max_eq_left h] at hq;exact absurd hq hc
     have h3:q*v1<=top-4294967296:=(Nat.le_div_iff_mul_le (by omega)).1 h2;have h4:q<=4294967296:=by
      apply Classical.byContradiction;intro hn;have:4294967297*v1<=q*v1:=zEx _ (by omega);omega
     refine .inl ⟨h4,?_⟩;have h5:q*v2<=4294967296*4294967295:=Nat.mul_le_mul h4 (by omega);have:q*(v1*4294967296+v2)=q*v1*4294967296+q*v2:=by grind
     rw[this];omega
  have hq:=hqW _ (zEq _);generalize est top s2 v1 v2=q at *;have hq':q<=4294967296/\q*(v1*4294967296+v2)<=top*4294967296+s2:=by rcases hq with h|h <;> exact⟨by omega,h.2⟩
  obtain⟨hqB',hqW'⟩:=hq';rcases Nat.eq_zero_or_pos q with h0|h0
  .rw[h0];exact zEs _
  .have:q-1<=S/V:=by
    rw[Nat.le_div_iff_mul_le hVpos];obtain⟨p,rfl⟩:∃p,q=p+1:=⟨q-1,by omega⟩;simp only[Nat.add_sub_cancel];have h3:V<=e*(v1*4294967296+v2+1):=by rw[hV,Nat.mul_add e _ 1,Nat.mul_one];omega
    have h4:p*V<=p*(e*(v1*4294967296+v2+1)):=zEU _ h3;have h5:p*(e*(v1*4294967296+v2+1))=e*(p*(v1*4294967296+v2)+p):=by grind
    have h6:p*(v1*4294967296+v2)+p<=top*4294967296+s2:=by
     rw[Nat.add_mul,Nat.one_mul] at hqW';have hW:p<=v1*4294967296+v2:=by omega
     exact zDk hqW' hW
    have h7:=zEU e h6;rw[hS];omega
   generalize S/V=z at *;omega
theorem get_part{pre s post:List Nat}{j i:Nat}(hj:j=pre.length+i)(h:i<s.length):((pre++s++post).map zbh)[j]?=some (zbh s[i]):=by
 subst hj;rw[List.getElem?_map,zEu (by simp;omega),List.getElem?_append_right (by omega)];simp[h]
theorem zek{pre s post:List Nat}{j i x:Nat}(hj:j=pre.length+i)(h:i<s.length):splice ((pre++s++post).map zbh) j [zbh x]=(pre++s.set i x++post).map zbh:=by
 subst hj;rw[zaL (by simp;omega),List.set_append_left _ _ (by simp;omega),List.set_append_right _ _ (by omega)];simp
theorem zub{s0 s v:List Nat}{i c b q:Nat}(hi:i<s.length)(hi0:i<s0.length)(hv:i<v.length)(h:val (s.take i)+q*val (v.take i)=val (s0.take i)+(c+b)*4294967296^i)
  (hsi:s.drop i=s0.drop i) (x b' t:Nat) (ht:t=c+q*v[i]) (hx:x+t%4294967296+b=s[i]+4294967296*b') :
  val ((s.set i x).take (i+1))+q*val (v.take (i+1))=val (s0.take (i+1))+(t/4294967296+b')*4294967296^(i+1):=by
 rw[zbj _ _ _ hi,zaF v i hv,zaF s0 i hi0];have he:s0[i]=s[i]:=by
  have:=congrArg (fun l=>l[0]?) hsi;simp only[List.getElem?_drop,Nat.add_zero] at this;rw[zEm hi,zEm hi0] at this;simpa using this.symm
 rw[he,zEF];have hd:=Nat.div_add_mod t 4294967296;generalize t/4294967296=T at *;generalize t%4294967296=m at *;generalize 4294967296^i=p at *;generalize val (s.take i)=A at *;generalize val (v.take i)=Bv at *;generalize val (s0.take i)=C at *;have e1:p*x+p*m+p*b=p*s[i]+p*(4294967296*b'):=by rw[<-Nat.mul_add,<-Nat.mul_add,<-Nat.mul_add,hx]
 have e2:p*(4294967296*T)+p*m=p*c+p*(q*v[i]):=by rw[<-Nat.mul_add,hd,ht,Nat.mul_add]
 grind
theorem zn8{s0 s:List Nat}{i x:Nat}(h:s.drop i=s0.drop i):(s.set i x).drop (i+1)=s0.drop (i+1):=by
 rw[List.drop_set_of_lt (by omega)];have:=congrArg (List.drop 1) h;simpa[List.drop_drop,Nat.add_comm] using this
theorem zfG{s0 s:List Nat}{i:Nat}(h:s.drop i=s0.drop i)(hi:i<s.length)(hi0:i<s0.length):s[i]=s0[i]:=by
 have:=congrArg (fun l=>l[0]?) h;simp only[List.getElem?_drop,Nat.add_zero] at this;rw[zEm hi,zEm hi0] at this;simpa using this
theorem zlm{s l b:Nat}(hs:s<4294967296)(hl:l+b<=4294967296) :
  let x:=(s+(18446744073709551616-(l+b)))%18446744073709551616
  x%4294967296+l+b=s+4294967296*(x/9223372036854775808)/\x/9223372036854775808<=1:=by
 intro x;by_cases h:l+b<=s
 .have:x=s-(l+b):=by show _%_=_;omega
  rw[this];omega
 .have:x=s+(18446744073709551616-(l+b)):=Nat.mod_eq_of_lt (by omega);rw[this];omega
theorem zrk{s0 s v:List Nat}{n c b q x b':Nat}(hl:s.length=n+1)(hl0:s0.length=n+1)(hvl:v.length=n)(h:val (s.take n)+q*val (v.take n)=val (s0.take n)+(c+b)*4294967296^n)
  (hd:s.drop n=s0.drop n) (hx:x+c+b=s[n]+4294967296*b'):val (s.set n x)+q*val v=val s0+b'*4294967296^(n+1):=by
 have e1:=zbj s n x (by omega);rw[zan _ _ (by simp;omega)] at e1;have e2:=zaF s0 n (by omega);rw[zan _ _ (by omega)] at e2;rw[zan v _ (by omega)] at h;have e3:=zfG hd (by omega) (by omega);rw[e1,e2,zEF];rw[e3] at hx;generalize 4294967296^n=p at *;have e4:p*x+p*c+p*b=p*s0[n]+p*(4294967296*b'):=by rw[<-Nat.mul_add,<-Nat.mul_add,<-Nat.mul_add,hx]
 grind
theorem zud{a S V q:Nat}(hq:q=S/V\/q=S/V+1)(hV:0<V)(h:a+q*V=S):q=S/V/\a=S%V:=by
 have h1:q<=S/V:=by rw[Nat.le_div_iff_mul_le hV];omega
 have h2:q=S/V:=by rcases hq with h|h <;> omega
 have h3:=Nat.div_add_mod S V;rw[zER] at h3;rw[<-h2] at h3;exact⟨h2,by omega⟩
theorem zuc{a S V q M:Nat}(hq:q=S/V\/q=S/V+1)(hV:0<V)(ha:a<M)(h:a+q*V=S+M):q=S/V+1/\a+V=M+S%V:=by
 have h3:=Nat.div_add_mod S V;rw[zER] at h3;have h4:=Nat.mod_lt S hV;rcases hq with h'|h'
 .rw[h'] at h;generalize S/V*V=z at *;omega
 .refine⟨h',?_⟩;rw[h',Nat.add_mul,Nat.one_mul] at h;generalize S/V*V=z at *;omega
theorem zue{s3 s2 v:List Nat}{n c V R:Nat}(hs3:Small s3)(hl:s3.length=n+1)(hl2:s2.length=n+1)(hvl:v.length=n)(h:val (s3.take n)+c*4294967296^n=val (s2.take n)+val (v.take n))(hd:s3.drop n=s2.drop n)
  (hV:val v=V) (hR:R<4294967296^(n+1)) (ht:val s2+V=4294967296^(n+1)+R):val (s3.set n ((s3[n]+c)%4294967296))=R:=by
 have e1:=zbj s3 n ((s3[n]+c)%4294967296) (by omega);rw[zan _ _ (by simp;omega)] at e1;have e2:=zaF s2 n (by omega);rw[zan _ _ (by omega)] at e2;rw[zan v _ (by omega),hV] at h;have e3:=zfG hd (by omega) (by omega);have hlt:=zbk (hs3.set n ((s3[n]+c)%4294967296) (Nat.mod_lt _ (by decide)));have hlen:(s3.set n ((s3[n]+c)%4294967296)).length=n+1:=by simp[hl]
 rw[hlen] at hlt;have hdm:=Nat.div_add_mod (s3[n]+c) 4294967296;rw[e1] at hlt ⊢;rw[e2,<-e3] at ht;generalize hm:(s3[n]+c)%4294967296=m at *;generalize hz:(s3[n]+c)/4294967296=z at *;rw[zEF] at hlt hR ht;generalize 4294967296^n=p at *;generalize val (s3.take n)=A at *;generalize val (s2.take n)=C at *;have e4:p*(4294967296*z)+p*m=p*s3[n]+p*c:=by rw[<-Nat.mul_add,<-Nat.mul_add,hdm]
 have e5:A+p*m+p*4294967296*z=p*4294967296+R:=by grind
 have hz1:z=1:=by
  rcases Nat.lt_or_ge z 1 with h1|h1
  .have:z=0:=by omega
   subst this;omega
  .rcases Nat.lt_or_ge 1 z with h2|h2
   .have:=zEU (p*4294967296) h2;omega
   .omega
 subst hz1;omega
theorem zuo{b:List Nat}(hc:Canon b)(hn:0<b.length):0<b[b.length-1]'(by omega)/\32-bl (b[b.length-1]'(by omega))<32/\(zaa (val b*2^(32-bl (b[b.length-1]'(by omega))))).length=b.length ∧
  2147483648<=(zaa (val b*2^(32-bl (b[b.length-1]'(by omega))))).getD (b.length-1) 0:=by
 have htop:b[b.length-1]'(by omega)≠0:=by
  have h:=hc.2 (by intro e;rw[e] at hn;simp at hn)
  rwa [List.getLast_eq_getElem] at h
 have hs:=hc.1.get (b.length-1) (by omega);have h1:=zmh htop;have h2:bl (b[b.length-1]'(by omega))<=32:=zaE hs;have hb:=zhM hc hn;generalize b[b.length-1]'(by omega)=t at *;have hv0:val b≠0:=by intro e;rw[e,zsR] at hb;omega
 have g1:=ziQ (val b);have g2:=znq hv0;have hbl:bl (val b*2^(32-bl t))=32*b.length:=by
  apply ziP
  .have:32*b.length=bl (val b)+(32-bl t):=by omega
   rw[this,zEG];exact Nat.mul_lt_mul_of_pos_right g1 (Nat.pow_pos (by decide))
  .intro _;have:32*b.length-1=(bl (val b)-1)+(32-bl t):=by omega
   rw[this,zEG];exact zEx _ g2
 have hlt:=ziQ (val b*2^(32-bl t));have hV0:val b*2^(32-bl t)≠0:=Nat.mul_ne_zero hv0 (Nat.ne_of_gt (Nat.pow_pos (by decide)));have hle:=znq hV0;rw[hbl] at hlt hle;generalize val b*2^(32-bl t)=V at *;have hl1:(zaa V).length<=b.length:=zag.2 (by rw[zc4];exact hlt);have hl2:¬(zaa V).length<=b.length-1:=by
  rw[zag,zc4];have:=zEz (n:=2) (by decide) (show 32*(b.length-1)<=32*b.length-1 by omega);omega
 have hl:(zaa V).length=b.length:=by omega
 refine⟨by omega,by omega,hl,?_⟩;have hb2:=zhM (zcO V) (by omega);rw[zac,hbl] at hb2;rw[zb7 (by omega)];have e:(zaa V)[(zaa V).length-1]'(by omega)=(zaa V)[b.length-1]'(by omega):=by congr 1;omega
 rw[e] at hb2;have h32:bl ((zaa V)[b.length-1]'(by omega))=32:=by omega
 have:=znq (n:=(zaa V)[b.length-1]'(by omega)) (by intro e0;rw[e0] at h32;simp[zsR] at h32);rw[h32] at this;simpa using this
theorem zuU{us:List Nat}{k n:Nat}(hk:0<k)(h:k+n<=us.length):∃pre s post,us=pre++s++post/\pre.length=k-1/\s.length=n+1:=
 ⟨us.take (k-1),(us.drop (k-1)).take (n+1),(us.drop (k-1)).drop (n+1),by rw[zEP,List.take_append_drop,List.take_append_drop],by simp;omega,by simp;omega⟩
theorem zDw{pre s post:List Nat}{n V:Nat}(hs:Small (pre++s++post))(hl:s.length=n+1)(hV:V<4294967296^n)(h:val ((pre++s++post).drop (pre.length+1))<V):Small s/\Small pre/\Small post/\val post=0/\val s<V*4294967296:=by
 have h1:Small s:=fun x hx=>hs x (by simp[hx]);refine⟨h1,fun x hx=>hs x (by simp[hx]),fun x hx=>hs x (by simp[hx]),?_⟩
 match s,hl with
 |d::t,hl=>
  have hd:(pre++(d::t)++post).drop (pre.length+1)=t++post:=by
   rw[zEP,<-List.drop_drop,List.drop_left];rfl
  rw[hd,za5] at h;have ht:t.length=n:=by simpa using hl
  rw[ht] at h;have hp:val post=0:=by
   rcases Nat.eq_zero_or_pos (val post) with h0|h0
   .exact h0
   .have:=zEU (4294967296^n) h0;omega
  refine⟨hp,?_⟩;have hd:=h1.head;rw[hp] at h;simp only[val];omega
theorem zzu{pre s post out:List Nat}{n V A k:Nat}(hk:pre.length=k)(hko:k<out.length)(hp:val post=0)(hV0:0<V)(hV:V<4294967296^n)
  (h:val (pre++s++post)+V*(4294967296^(k+1)*val (out.drop (k+1)))=A) :
  val (pre++zg5 (n+1) (val s%V)++post)+V*(4294967296^k*val ((out.set k (val s/V)).drop k))=A/\val ((pre++zg5 (n+1) (val s%V)++post).drop k)<V:=by
 have hm:=Nat.mod_lt (val s) hV0;have hpl:val (zg5 (n+1) (val s%V))=val s%V:=zfM (Nat.lt_trans hm (zEv hV (zEz (by decide) (by omega))));constructor
 .rw[zET (show k<(out.set k (val s/V)).length by simpa using hko),List.getElem_set_self,List.drop_set_of_lt (by omega)];simp only[val];rw[za5,za5,hp,hpl,hk];rw[za5,za5,hp,hk] at h;have:=Nat.div_add_mod (val s) V;generalize val s/V=q at *;generalize val s%V=r at *;rw[<-h,<-this,zEF];simp only[Nat.mul_zero,Nat.add_zero];generalize 4294967296^k=p at *;grind
 .subst hk;rw[zEP,List.drop_left,za5,hp,hpl];simpa using hm
theorem zDx{x va vb sh o:Nat}(h:x+vb*2^sh*o=va*2^sh)(hx:x<vb*2^sh):o=va/vb/\x/2^sh=va%vb:=by
 have hp:0<2^sh:=Nat.pow_pos (by decide);have hvb:0<vb:=by
  rcases Nat.eq_zero_or_pos vb with h0|h0
  .subst h0;simp at hx
  .exact h0
 have hdv:2^sh ∣ x:=by
  have h1:2^sh ∣ va*2^sh:=Nat.dvd_mul_left _ _;rw[<-h] at h1;exact(Nat.dvd_add_left ⟨vb*o,by grind⟩).1 h1
 obtain⟨y,rfl⟩:=hdv;have hy:y+vb*o=va:=by
  have:2^sh*(y+vb*o)=2^sh*va:=by grind
  exact Nat.eq_of_mul_eq_mul_left hp this
 have hyb:y<vb:=by
  rw[zER] at hx;exact Nat.lt_of_mul_lt_mul_right hx
 rw[Nat.mul_div_cancel_left _ hp,<-hy];refine⟨?_,?_⟩
 .rw[Nat.add_comm,Nat.mul_add_div hvb,Nat.div_eq_of_lt hyb,Nat.add_zero]
 .rw[Nat.add_comm,Nat.mul_add_mod,Nat.mod_eq_of_lt hyb]
theorem zuT{a:List Nat}{n sh V A L:Nat}(hs:Small a)(hL:L=a.length+1)(hA:A=val a*2^sh)(hsh:sh<32)(hn:n<=a.length)(hV:4294967296^(n-1)*2^sh<=V)(hn0:0<n) :
  A<4294967296^L/\val ((zg5 L A).drop (a.length-n+1))<V:=by
 have hlt:=zbk hs;have hsh2:2^sh<4294967296:=zEv (zES (by decide) hsh) (by decide);have hp:0<2^sh:=Nat.pow_pos (by decide);have hA1:A<4294967296^a.length*2^sh:=by subst hA;exact Nat.mul_lt_mul_of_pos_right hlt hp
 have hAL:A<4294967296^L:=by
  subst hL;rw[zEF];exact zEv hA1 (zEU _ (by omega))
 refine⟨hAL,?_⟩;rw[<-zbV _ (zd2 _ _),zfM hAL];refine zEv ?_ hV;rw[Nat.div_lt_iff_lt_mul (Nat.pow_pos (by decide))];refine zEv hA1 (Nat.le_of_eq ?_);have:a.length=(n-1)+(a.length-n+1):=by omega
 conv=>lhs;rw[this,zEG]
 grind
theorem ziD{s v:List Nat}(hs:Small s)(hv:Small v)(hsl:s.length=v.length+1)(hn:2<=v.length)(htop:2147483648<=v.getD (v.length-1) 0)(hlt:val s<val v*4294967296) :
  val s/val v<=est (s.getD v.length 0*4294967296+s.getD (v.length-1) 0) (s.getD (v.length-2) 0) (v.getD (v.length-1) 0) (v.getD (v.length-2) 0) ∧
  est (s.getD v.length 0*4294967296+s.getD (v.length-1) 0) (s.getD (v.length-2) 0) (v.getD (v.length-1) 0) (v.getD (v.length-2) 0)<=val s/val v+1:=by
 obtain⟨n,hn2⟩:∃n,v.length=n+2:=⟨v.length-2,by omega⟩;have e1:=zaG s n;have e2:=zaG s (n+1);have e3:=zaG s (n+2);have g1:=zaG v n;have g2:=zaG v (n+1);rw[zan s (n+2+1) (by omega)] at e3;rw[zan v (n+1+1) (by omega)] at g2;rw[hn2] at htop ⊢;simp only[Nat.add_sub_cancel,show n+2-1=n+1 from rfl] at htop ⊢;have l1:=zbk (hs.take n);have l2:=zbk (hv.take n);rw[zED,Nat.min_eq_left (by omega)] at l1 l2;refine zpV (lo:=val (s.take n)) (lov:=val (v.take n)) (e:=4294967296^n) (Nat.pow_pos (by decide)) htop (hv.getD _) (hv.getD _) (hs.getD _) l1 l2 ?_ ?_ hlt
 .rw[e3,e2,e1,zEF,zEF];grind
 .rw[g2,g1,zEF];grind
theorem zxQ{b:List Nat}(hc:Canon b)(hn:0<b.length):∃sh,32-bl (b[b.length-1]'(by omega))=sh/\sh<32/\(zaa (val b*2^sh)).length=b.length/\2147483648<=(zaa (val b*2^sh)).getD (b.length-1) 0:=
 let ⟨_,h2,h3,h4⟩:=zuo hc hn
 ⟨_,rfl,h2,h3,h4⟩
end Rc
namespace Rc
open Go
structure Zr where
 neg:Bool
 m:List Nat
 hm:Small m
def Zr.z(x:Zr):Int:=sgn x.neg (val x.m)
@[reducible] def zV(x:Zr):V:=V.agg [Leaf.val (.bool x.neg),zaf x.m]
@[reducible] def zOf(z:Int):Zr:=⟨decide (z<0),zaa z.natAbs,zab _⟩
theorem zja(z:Int):(zOf z).z=z:=by
 show sgn (decide (z<0)) (val (zaa z.natAbs))=z;rw[zac];exact zdg z
structure Qr where
 neg:Bool
 n:List Nat
 d:List Nat
 hn:Small n
 hd:Small d
def Qr.q(x:Qr):Rat:=rq x.neg (val x.n) (val x.d)
@[reducible] def qV(x:Qr):V:=V.agg [Leaf.val (.bool x.neg),zaf x.n,zaf x.d]
@[reducible] def qOf(q:Rat):Qr:=⟨zaR q,zaa (zav q),zaa (zaC q),zab _,zab _⟩
theorem zaj(q:Rat):(qOf q).q=q:=by
 show rq (zaR q) (val (zaa (zav q))) (val (zaa (zaC q)))=q;rw[zac,zac];exact zhy q
@[reducible] def qZero:Qr:=⟨false,[],[],Small.nil,Small.nil⟩
theorem zdW:qZero.q=0:=by
 show rq false 0 0=0;exact zmS _ _
theorem zcf:qV qZero=qV (qOf 0):=by
 show V.agg _=V.agg [Leaf.val (.bool (zaR 0)),zaf (zaa (zav 0)),zaf (zaa (zaC 0))];rw[zsp,zbm,zbn,zai]
class Bn (n:Nat) (k:outParam Nat):Prop where
 le:(zaa n).length<=k
theorem Bn.use{n k k':Nat}[h:Bn n k](hk:k<=k'):(zaa n).length<=k':=zEw h.le hk
theorem Bn.lt{n k:Nat}(h:Bn n k):n<4294967296^k:=zag.1 h.le
theorem Bn.of{n k:Nat}(h:n<4294967296^k):Bn n k:=⟨zag.2 h⟩
theorem Bn.val{l:List Nat}{k:Nat}(hs:Small l)(h:l.length<=k):Bn (val l) k:=⟨zEw (zam hs) h⟩
theorem Bn.of_lt{n k:Nat}(h:n<18446744073709551616)(hk:2<=k):(zaa n).length<=k:=zEw (zag (k:=2).2 h) hk
theorem zgO{a b i j:Nat}(ha:a<4294967296^i)(hb:b<4294967296^j):a*b<4294967296^(i+j):=by
 rw[zEG];rcases Nat.eq_zero_or_pos b with h|h
 .subst h;exact Nat.mul_pos (Nat.pow_pos (by decide)) (Nat.pow_pos (by decide))
 .exact zEv (Nat.mul_lt_mul_of_pos_right ha h) (zEU _ (Nat.le_of_lt hb))
theorem zqa{a b i j:Nat}(ha:a<4294967296^i)(hb:b<4294967296^j):a+b<4294967296^(i+j+1):=by
 have h1:4294967296^i<=4294967296^(i+j):=zEz (by decide) (by omega);have h2:4294967296^j<=4294967296^(i+j):=zEz (by decide) (by omega);rw[zEF];omega
instance Bn.mul{a b i j:Nat}[ha:Bn a i][hb:Bn b j]:Bn (a*b) (i+j):=Bn.of (zgO ha.lt hb.lt)
instance Bn.add{a b i j:Nat}[ha:Bn a i][hb:Bn b j]:Bn (a+b) (i+j+1):=Bn.of (zqa ha.lt hb.lt)
instance Bn.dn{a i:Nat}[ha:Bn a i]:Bn (dn a) (i+1):=by
 refine Bn.of ?_;have:=ha.lt;unfold Rc.dn;split
 .exact Nat.one_lt_pow (by omega) (by decide)
 .rw[zEF];omega
theorem Bn.mono{a b i:Nat}(h:a<=b)(hb:Bn b i):Bn a i:=Bn.of (zEN h hb.lt)
instance Bn.div{a b i:Nat}[ha:Bn a i]:Bn (a/b) i:=Bn.mono (Nat.div_le_self _ _) ha
instance Bn.sub{a b i:Nat}[ha:Bn a i]:Bn (a-b) i:=Bn.mono (Nat.sub_le _ _) ha
instance Bn.mod{a b i:Nat}[ha:Bn a i]:Bn (a%b) i:=Bn.mono (Nat.mod_le _ _) ha
class Bz (z:Int) (k:outParam Nat):Prop where
 le:(zaa z.natAbs).length<=k
theorem Bz.use{z:Int}{k k':Nat}[h:Bz z k](hk:k<=k'):(zaa z.natAbs).length<=k':=zEw h.le hk
theorem Bz.bn{z:Int}{k:Nat}(h:Bz z k):Bn z.natAbs k:=⟨h.le⟩
instance Bz.sgn{b:Bool}{n i:Nat}[h:Bn n i]:Bz (Rc.sgn b n) i:=⟨by rw[zcH];exact h.le⟩
instance Bz.nat{n i:Nat}[h:Bn n i]:Bz (n:Int) i:=⟨by simpa using h.le⟩
instance Bz.mul{a b:Int}{i j:Nat}[ha:Bz a i][hb:Bz b j]:Bz (a*b) (i+j):=
 ⟨by rw[Int.natAbs_mul];exact(@Bn.mul _ _ _ _ ha.bn hb.bn).le⟩
instance Bz.add{a b:Int}{i j:Nat}[ha:Bz a i][hb:Bz b j]:Bz (a+b) (i+j+1):=
 ⟨(Bn.mono (by omega) (@Bn.add _ _ _ _ ha.bn hb.bn)).le⟩
instance Bz.sub{a b:Int}{i j:Nat}[ha:Bz a i][hb:Bz b j]:Bz (a-b) (i+j+1):=
 ⟨(Bn.mono (by omega) (@Bn.add _ _ _ _ ha.bn hb.bn)).le⟩
instance Bz.neg{a:Int}{i:Nat}[ha:Bz a i]:Bz (-a) i:=⟨by rw[Int.natAbs_neg];exact ha.le⟩
structure Fit(k:Nat)(x:Qr):Prop where
 n:x.n.length<=k
 d:x.d.length<=k
theorem Fit.mono{k k':Nat}{x:Qr}(h:Fit k x)(hk:k<=k'):Fit k' x:=⟨zEw h.n hk,zEw h.d hk⟩
class Br (r:Rat) (k:outParam Nat):Prop where
 fit:Fit k (qOf r)
theorem Br.use{r:Rat}{k k':Nat}[h:Br r k](hk:k<=k'):Fit k' (qOf r):=h.fit.mono hk
theorem zf3{k:Nat}:Fit k qZero:=⟨zEs _,zEs _⟩
theorem Br.num{r:Rat}{k:Nat}(h:Br r k):zav r<4294967296^k:=zag.1 h.fit.n
theorem Br.den{r:Rat}{k:Nat}(h:Br r k):r.den<=4294967296^k:=by
 have h1:zaC r<4294967296^k:=zag.1 h.fit.d;rw[<-ziF];have h2:0<4294967296^k:=Nat.pow_pos (by decide);unfold dn;split <;> omega
theorem Br.of{r:Rat}{k:Nat}(h1:r.num.natAbs<4294967296^k)(h2:r.den<4294967296^k):Br r k:=
 ⟨zag.2 h1,zag.2 (by unfold zaC;split <;> omega)⟩
theorem Br.rq{b:Bool}{n d k:Nat}(h1:n<4294967296^k)(h2:d<4294967296^k):Br (rq b n d) k:=by
 refine⟨zag.2 ?_,zag.2 ?_⟩
 .rw[ziI];exact zEN (Nat.div_le_self _ _) h1
 .have h3:(Rc.rq b n d).den<=dn d:=by rw[zl4];exact Nat.div_le_self _ _
  unfold zaC;split
  .omega
  .rename_i h4;unfold dn at h3;have:=(Rc.rq b n d).den_pos;split at h3 <;> omega
theorem Br.q{x:Qr}{k:Nat}(h:Fit k x):Br x.q k:=
 Br.rq (zEv (zbk x.hn) (zEz (by decide) h.n)) (zEv (zbk x.hd) (zEz (by decide) h.d))
theorem Br.rqn{b:Bool}{n d i j:Nat}(h1:n<4294967296^i)(h2:d<=4294967296^j)(hj:j<i):Br (Rc.rq b n d) i:=
 Br.rq h1 (zEN h2 (zES (by decide) hj))
theorem zlA(q:Rat):Rc.rq (zaR q) (zav q) q.den=q:=by rw[<-ziF,zxD,zhy]
instance Br.mul{r s:Rat}{i j:Nat}[hr:Br r i][hs:Br s j]:Br (r*s) (i+j+1):=by
 rw[<-zlA r,<-zlA s,<-zg3,zc7 (Nat.ne_of_gt r.den_pos),zc7 (Nat.ne_of_gt s.den_pos)];refine Br.rqn (j:=i+j) (Nat.lt_trans (zgO hr.num hs.num) (zES (by decide) (by omega))) ?_ (by omega);rw[zEG];exact Nat.mul_le_mul hr.den hs.den
instance Br.add{r s:Rat}{i j:Nat}[hr:Br r i][hs:Br s j]:Br (r+s) (i+j+1):=by
 rw[<-zlA r,<-zlA s,<-zn5 _ _ _ _ _ _ _ rfl,zc7 (Nat.ne_of_gt r.den_pos),zc7 (Nat.ne_of_gt s.den_pos)];refine Br.rqn (j:=i+j) ?_ ?_ (by omega)
 .have h1:zav r*s.den<4294967296^(i+j)\/zav r*s.den=0:=by
   rcases Nat.eq_zero_or_pos (zav r) with h|h
   .exact .inr (by rw[h,Nat.zero_mul])
   .left;rw[zEG];exact zEv (Nat.mul_lt_mul_of_pos_right hr.num s.den_pos) (zEU _ hs.den)
  have h2:zav s*r.den<4294967296^(i+j)\/zav s*r.den=0:=by
   rcases Nat.eq_zero_or_pos (zav s) with h|h
   .exact .inr (by rw[h,Nat.zero_mul])
   .left;rw[zEG,zER (4294967296^i)];exact zEv (Nat.mul_lt_mul_of_pos_right hs.num r.den_pos) (zEU _ hr.den)
  have h0:0<4294967296^(i+j):=Nat.pow_pos (by decide);have h3:∀(a b:Bool) (m n:Nat),(sgn a m+sgn b n).natAbs<=m+n:=by
   intro a b m n;cases a <;> cases b <;> simp <;> omega
  have h4:=h3 (zaR r) (zaR s) (zav r*s.den) (zav s*r.den);refine zEN h4 ?_;rw[zEF];omega
 .rw[zEG];exact Nat.mul_le_mul hr.den hs.den
theorem zoJ(r:Rat):zav (-r)=zav r:=by unfold zav;rw[show(-r).num = -r.num from rfl,Int.natAbs_neg]
theorem zoN(r:Rat):zaC (-r)=zaC r:=rfl
instance Br.neg{r:Rat}{i:Nat}[hr:Br r i]:Br (-r) i:=⟨⟨by show(zaa (zav (-r))).length<=i;rw[zoJ];exact hr.fit.n,by show(zaa (zaC (-r))).length<=i;rw[zoN];exact hr.fit.d⟩⟩
instance Br.sub{r s:Rat}{i j:Nat}[hr:Br r i][hs:Br s j]:Br (r-s) (i+j+1):=by
 rw[Rat.sub_eq_add_neg];exact Br.add
theorem Br.mono{r:Rat}{i j:Nat}(h:Br r i)(hij:i<=j):Br r j:=⟨h.fit.mono hij⟩
def mn(r s:Rat):Rat:=if r<=s then r else s
def mx(r s:Rat):Rat:=if s<=r then r else s
instance Br.mn{r s:Rat}{i j:Nat}[hr:Br r i][hs:Br s j]:Br (mn r s) (i+j):=by
 unfold Rc.mn;split
 .exact hr.mono (by omega)
 .exact hs.mono (by omega)
instance Br.mx{r s:Rat}{i j:Nat}[hr:Br r i][hs:Br s j]:Br (mx r s) (i+j):=by
 unfold Rc.mx;split
 .exact hr.mono (by omega)
 .exact hs.mono (by omega)
instance Br.zero:Br 0 0:=⟨⟨by show(zaa (zav 0)).length<=0;rw[zbm,zai];exact zEq _,by show(zaa (zaC 0)).length<=0;rw[zbn,zai];exact zEq _⟩⟩
instance Br.inv{r:Rat}{i:Nat}[hr:Br r i]:Br r⁻¹ (i+1):=by
 by_cases h:r=0
 .subst h;rw[Rat.inv_zero];exact Br.zero.mono (zEs _)
 .have hn:r.num≠0:=fun e=>h (Rat.num_eq_zero.1 e);refine Br.of ?_ ?_
  .rw[Rat.num_inv,Int.natAbs_mul];have h1:r.num.sign.natAbs<=1:=by rw[Int.natAbs_sign];split <;> omega
   have h2:=hr.den;have h3:r.num.sign.natAbs*(r.den:Int).natAbs<=1*r.den:=Nat.mul_le_mul h1 (by simp);have h0:0<4294967296^i:=Nat.pow_pos (by decide);rw[zEF];generalize r.num.sign.natAbs*(r.den:Int).natAbs=a at *;omega
  .rw[Rat.den_inv,if_neg hn];have:=hr.num;unfold zav at this;rw[zEF];omega
instance Br.div{r s:Rat}{i j:Nat}[hr:Br r i][hs:Br s j]:Br (r/s) (i+(j+1)+1):=by
 rw[Rat.div_def];exact Br.mul
def sgz(z:Int):Int:=if z<0 then -1 else if z=0 then 0 else 1
def zoK(a b:Int):Int:=if a<b then -1 else if a=b then 0 else 1
theorem zjv(b:Bool)(n d:Nat):rq b n d<0↔sgn b n<0:=by
 have h:=zA0 b false n 0 d 0;rw[zmS] at h;rw[h];simp[dn]
theorem zxw(b:Bool)(n d:Nat):sg (rq b n d)=sgz (sgn b n):=by
 unfold sg sgz;have h1:=zjv b n d;have h2:rq b n d=0↔sgn b n=0:=by rw[zgH];cases b <;> simp
 simp only[h1,h2]
theorem zzA(a b:Bool)(m n d e:Nat):zfg (rq a m d) (rq b n e)=zoK (sgn a m*dn e) (sgn b n*dn d):=by
 unfold zfg zoK;simp only[zA0,zA2]
theorem zsq{p q:Rat}:zfg p q<=0↔p<=q:=by
 unfold zfg;split
 .rename_i h;exact⟨fun _=>Rat.le_of_lt h,fun _=>by decide⟩
 .split
  .rename_i h;subst h;exact⟨fun _=>Rat.le_refl,fun _=>by decide⟩
  .rename_i h1 h2;exact⟨fun h=>absurd h (by decide),fun h=>by grind⟩
theorem zkO{p q:Rat}:0<=zfg p q↔q<=p:=by
 unfold zfg;split
 .rename_i h;exact⟨fun h=>absurd h (by decide),fun h'=>by grind⟩
 .rename_i h;exact⟨fun _=>by grind,fun _=>by split <;> decide⟩
theorem zdu{p q:Rat}:0<zfg p q↔q<p:=by
 unfold zfg;split
 .rename_i h;exact⟨fun h=>absurd h (by decide),fun h'=>by grind⟩
 .split
  .rename_i h;exact⟨fun h=>absurd h (by decide),fun h'=>by grind⟩
  .rename_i h1 h2;exact⟨fun _=>by grind,fun _=>by decide⟩
theorem zfI{p q:Rat}:zfg p q<0↔p<q:=by
 unfold zfg;split
 .rename_i h;exact⟨fun _=>h,fun _=>by decide⟩
 .rename_i h;exact⟨fun h'=>by split at h' <;> simp at h',fun h'=>absurd h' h⟩
theorem zkb{p:Rat}:sg p<0↔p<0:=by
 unfold sg;split
 .rename_i h;exact⟨fun _=>h,fun _=>by decide⟩
 .rename_i h;exact⟨fun h'=>by split at h' <;> simp at h',fun h'=>absurd h' h⟩
end Rc
