/- Parts of the proof, 5: the texts Facts, FactsD, RatQ, Val, NatM, FwI, Knuth, Qz, as far as they are used. -/
import Derived.Test.YtjeiacoegppoiaaGreatDoorSc04
import Derived.Test.YtjeiacoegppoiaaGreatDoorProg
import Derived.KernelRfl
set_option linter.unusedSimpArgs false
set_option linter.unusedVariables false
set_option maxRecDepth 10000
namespace Go.Proofs.YtjeiacoegppoiaaGreatDoor
open Go Rc
theorem follows:Tryz.prog.follows .mixedOrders=true:=by kernel_rfl
theorem fk_{f:Nat}{fn:Func}(h:Tryz.prog.funcs[f]? = some fn)(h1:fn.body.isNone = false:=by kernel_rfl)(h2:(fn.name == "runtime.NumGoroutine") = false:=by kernel_rfl):zaq Tryz.prog f:=⟨fn,h,h1,h2⟩
theorem tk_{t n:Nat}{b:Bool}(h1:(Tryz.prog.underlying t).map aggD = some b:=by kernel_rfl)(h2:(Tryz.prog.info? t).map (·.size) = some n:=by kernel_rfl):TyIs Tryz.prog t b n:=⟨h1,h2⟩
theorem fn11:zaq Tryz.prog 11:=fk_ Tryz.func11
theorem fn12:zaq Tryz.prog 12:=fk_ Tryz.func12
theorem fn14:zaq Tryz.prog 14:=fk_ Tryz.func14
theorem fn15:zaq Tryz.prog 15:=fk_ Tryz.func15
theorem fn16:zaq Tryz.prog 16:=fk_ Tryz.func16
theorem fn18:zaq Tryz.prog 18:=fk_ Tryz.func18
theorem zAA:zaq Tryz.prog 19:=fk_ Tryz.func19
theorem fn20:zaq Tryz.prog 20:=fk_ Tryz.func20
theorem zzj:zaq Tryz.prog 21:=fk_ Tryz.func21
theorem fn22:zaq Tryz.prog 22:=fk_ Tryz.func22
theorem zqu:zaq Tryz.prog 23:=fk_ Tryz.func23
theorem zwN:zaq Tryz.prog 24:=fk_ Tryz.func24
theorem zuR:zaq Tryz.prog 29:=fk_ Tryz.func29
theorem zAz:zaq Tryz.prog 31:=fk_ Tryz.func31
theorem fn35:zaq Tryz.prog 35:=fk_ Tryz.func35
theorem fn36:zaq Tryz.prog 36:=fk_ Tryz.func36
theorem fn37:zaq Tryz.prog 37:=fk_ Tryz.func37
theorem fn38:zaq Tryz.prog 38:=fk_ Tryz.func38
theorem fn39:zaq Tryz.prog 39:=fk_ Tryz.func39
theorem zwM:zaq Tryz.prog 40:=fk_ Tryz.func40
theorem fn41:zaq Tryz.prog 41:=fk_ Tryz.func41
theorem fn42:zaq Tryz.prog 42:=fk_ Tryz.func42
theorem fn43:zaq Tryz.prog 43:=fk_ Tryz.func43
theorem zmm:zaq Tryz.prog 44:=fk_ Tryz.func44
theorem zCJ:zaq Tryz.prog 46:=fk_ Tryz.func46
theorem zCI:zaq Tryz.prog 47:=fk_ Tryz.func47
theorem zEm:zaq Tryz.prog 48:=fk_ Tryz.func48
theorem zAy:zaq Tryz.prog 49:=fk_ Tryz.func49
theorem fn50:zaq Tryz.prog 50:=fk_ Tryz.func50
theorem fn51:zaq Tryz.prog 51:=fk_ Tryz.func51
theorem zjp:zaq Tryz.prog 52:=fk_ Tryz.func52
theorem fn53:zaq Tryz.prog 53:=fk_ Tryz.func53
theorem fn54:zaq Tryz.prog 54:=fk_ Tryz.func54
theorem fn55:zaq Tryz.prog 55:=fk_ Tryz.func55
theorem zwL:zaq Tryz.prog 56:=fk_ Tryz.func56
theorem fn57:zaq Tryz.prog 57:=fk_ Tryz.func57
theorem fn58:zaq Tryz.prog 58:=fk_ Tryz.func58
theorem fn59:zaq Tryz.prog 59:=fk_ Tryz.func59
theorem fn60:zaq Tryz.prog 60:=fk_ Tryz.func60
theorem fn61:zaq Tryz.prog 61:=fk_ Tryz.func61
theorem fn62:zaq Tryz.prog 62:=fk_ Tryz.func62
theorem zCH:zaq Tryz.prog 63:=fk_ Tryz.func63
theorem zpY:zaq Tryz.prog 64:=fk_ Tryz.func64
theorem fn65:zaq Tryz.prog 65:=fk_ Tryz.func65
theorem zzg:zaq Tryz.prog 66:=fk_ Tryz.func66
theorem zwK:zaq Tryz.prog 67:=fk_ Tryz.func67
theorem zzf:zaq Tryz.prog 68:=fk_ Tryz.func68
theorem fn71:zaq Tryz.prog 71:=fk_ Tryz.func71
theorem zmW:zaq Tryz.prog 72:=fk_ Tryz.func72
theorem zg4:zaq Tryz.prog 74:=fk_ Tryz.func74
theorem zsk:zaq Tryz.prog 76:=fk_ Tryz.func76
theorem fn79:zaq Tryz.prog 79:=fk_ Tryz.func79
theorem fn80:zaq Tryz.prog 80:=fk_ Tryz.func80
theorem fn81:zaq Tryz.prog 81:=fk_ Tryz.func81
theorem fn82:zaq Tryz.prog 82:=fk_ Tryz.func82
theorem fn83:zaq Tryz.prog 83:=fk_ Tryz.func83
theorem fn85:zaq Tryz.prog 85:=fk_ Tryz.func85
theorem zCG:zaq Tryz.prog 86:=fk_ Tryz.func86
theorem zCF:zaq Tryz.prog 87:=fk_ Tryz.func87
theorem zCE:zaq Tryz.prog 88:=fk_ Tryz.func88
theorem fn89:zaq Tryz.prog 89:=fk_ Tryz.func89
theorem zuQ:zaq Tryz.prog 90:=fk_ Tryz.func90
theorem fn91:zaq Tryz.prog 91:=fk_ Tryz.func91
theorem fn92:zaq Tryz.prog 92:=fk_ Tryz.func92
theorem zAx:zaq Tryz.prog 93:=fk_ Tryz.func93
theorem fn94:zaq Tryz.prog 94:=fk_ Tryz.func94
theorem zsj:zaq Tryz.prog 95:=fk_ Tryz.func95
theorem fn96:zaq Tryz.prog 96:=fk_ Tryz.func96
theorem fn97:zaq Tryz.prog 97:=fk_ Tryz.func97
theorem fn98:zaq Tryz.prog 98:=fk_ Tryz.func98
theorem zAw:zaq Tryz.prog 99:=fk_ Tryz.func99
theorem zhD:zaq Tryz.prog 100:=fk_ Tryz.func100
theorem zss:zaq Tryz.prog 101:=fk_ Tryz.func101
theorem zDj:zaq Tryz.prog 102:=fk_ Tryz.func102
theorem fn103:zaq Tryz.prog 103:=fk_ Tryz.func103
theorem znt:zaq Tryz.prog 104:=fk_ Tryz.func104
theorem fn105:zaq Tryz.prog 105:=fk_ Tryz.func105
theorem zu1:zaq Tryz.prog 106:=fk_ Tryz.func106
theorem zzn:zaq Tryz.prog 107:=fk_ Tryz.func107
theorem zDi:zaq Tryz.prog 108:=fk_ Tryz.func108
theorem zDh:zaq Tryz.prog 109:=fk_ Tryz.func109
theorem zDg:zaq Tryz.prog 110:=fk_ Tryz.func110
theorem fn111:zaq Tryz.prog 111:=fk_ Tryz.func111
theorem fn112:zaq Tryz.prog 112:=fk_ Tryz.func112
theorem zzm:zaq Tryz.prog 113:=fk_ Tryz.func113
theorem zu0:zaq Tryz.prog 114:=fk_ Tryz.func114
theorem zzl:zaq Tryz.prog 115:=fk_ Tryz.func115
theorem fn116:zaq Tryz.prog 116:=fk_ Tryz.func116
theorem fn117:zaq Tryz.prog 117:=fk_ Tryz.func117
theorem fn120:zaq Tryz.prog 120:=fk_ Tryz.func120
theorem fn121:zaq Tryz.prog 121:=fk_ Tryz.func121
theorem zsr:zaq Tryz.prog 122:=fk_ Tryz.func122
theorem fn123:zaq Tryz.prog 123:=fk_ Tryz.func123
theorem zDf:zaq Tryz.prog 124:=fk_ Tryz.func124
theorem zDe:zaq Tryz.prog 125:=fk_ Tryz.func125
theorem zDd:zaq Tryz.prog 126:=fk_ Tryz.func126
theorem zDc:zaq Tryz.prog 127:=fk_ Tryz.func127
theorem fn128:zaq Tryz.prog 128:=fk_ Tryz.func128
theorem zuZ:zaq Tryz.prog 129:=fk_ Tryz.func129
theorem zkE:zaq Tryz.prog 130:=fk_ Tryz.func130
theorem fn131:zaq Tryz.prog 131:=fk_ Tryz.func131
theorem fn132:zaq Tryz.prog 132:=fk_ Tryz.func132
theorem zmn:zaq Tryz.prog 133:=fk_ Tryz.func133
theorem zgv:zaq Tryz.prog 134:=fk_ Tryz.func134
theorem zDb:zaq Tryz.prog 135:=fk_ Tryz.func135
theorem fn136:zaq Tryz.prog 136:=fk_ Tryz.func136
theorem zzk:zaq Tryz.prog 137:=fk_ Tryz.func137
theorem zDa:zaq Tryz.prog 138:=fk_ Tryz.func138
theorem zns:zaq Tryz.prog 139:=fk_ Tryz.func139
theorem fn140:zaq Tryz.prog 140:=fk_ Tryz.func140
theorem zkD:zaq Tryz.prog 141:=fk_ Tryz.func141
theorem zjt:zaq Tryz.prog 142:=fk_ Tryz.func142
theorem fn143:zaq Tryz.prog 143:=fk_ Tryz.func143
theorem zsq:zaq Tryz.prog 144:=fk_ Tryz.func144
theorem zC9:zaq Tryz.prog 146:=fk_ Tryz.func146
theorem zC8:zaq Tryz.prog 147:=fk_ Tryz.func147
theorem zuY:zaq Tryz.prog 148:=fk_ Tryz.func148
theorem fn149:zaq Tryz.prog 149:=fk_ Tryz.func149
theorem zC7:zaq Tryz.prog 150:=fk_ Tryz.func150
theorem fn151:zaq Tryz.prog 151:=fk_ Tryz.func151
theorem fn152:zaq Tryz.prog 152:=fk_ Tryz.func152
theorem zkC:zaq Tryz.prog 153:=fk_ Tryz.func153
theorem fn154:zaq Tryz.prog 154:=fk_ Tryz.func154
theorem fn155:zaq Tryz.prog 155:=fk_ Tryz.func155
theorem zC6:zaq Tryz.prog 156:=fk_ Tryz.func156
theorem zC5:zaq Tryz.prog 157:=fk_ Tryz.func157
theorem fn158:zaq Tryz.prog 158:=fk_ Tryz.func158
theorem fn159:zaq Tryz.prog 159:=fk_ Tryz.func159
theorem zC4:zaq Tryz.prog 160:=fk_ Tryz.func160
theorem fn161:zaq Tryz.prog 161:=fk_ Tryz.func161
theorem fn162:zaq Tryz.prog 162:=fk_ Tryz.func162
theorem fn163:zaq Tryz.prog 163:=fk_ Tryz.func163
theorem fn164:zaq Tryz.prog 164:=fk_ Tryz.func164
theorem zC3:zaq Tryz.prog 165:=fk_ Tryz.func165
theorem zp7:zaq Tryz.prog 166:=fk_ Tryz.func166
theorem zuX:zaq Tryz.prog 167:=fk_ Tryz.func167
theorem fn168:zaq Tryz.prog 168:=fk_ Tryz.func168
theorem zC2:zaq Tryz.prog 169:=fk_ Tryz.func169
theorem fn170:zaq Tryz.prog 170:=fk_ Tryz.func170
theorem fn171:zaq Tryz.prog 171:=fk_ Tryz.func171
theorem zkB:zaq Tryz.prog 172:=fk_ Tryz.func172
theorem zkA:zaq Tryz.prog 173:=fk_ Tryz.func173
theorem zuW:zaq Tryz.prog 174:=fk_ Tryz.func174
theorem zsp:zaq Tryz.prog 175:=fk_ Tryz.func175
theorem zC1:zaq Tryz.prog 176:=fk_ Tryz.func176
theorem zuV:zaq Tryz.prog 177:=fk_ Tryz.func177
theorem zC0:zaq Tryz.prog 178:=fk_ Tryz.func178
theorem fn179:zaq Tryz.prog 179:=fk_ Tryz.func179
theorem zso:zaq Tryz.prog 180:=fk_ Tryz.func180
theorem zp6:zaq Tryz.prog 181:=fk_ Tryz.func181
theorem zjs:zaq Tryz.prog 182:=fk_ Tryz.func182
theorem zsn:zaq Tryz.prog 183:=fk_ Tryz.func183
theorem fn184:zaq Tryz.prog 184:=fk_ Tryz.func184
theorem fn186:zaq Tryz.prog 186:=fk_ Tryz.func186
theorem zuU:zaq Tryz.prog 187:=fk_ Tryz.func187
theorem fn188:zaq Tryz.prog 188:=fk_ Tryz.func188
theorem zCZ:zaq Tryz.prog 189:=fk_ Tryz.func189
theorem zCY:zaq Tryz.prog 190:=fk_ Tryz.func190
theorem zuT:zaq Tryz.prog 191:=fk_ Tryz.func191
theorem zCX:zaq Tryz.prog 192:=fk_ Tryz.func192
theorem fn193:zaq Tryz.prog 193:=fk_ Tryz.func193
theorem fn194:zaq Tryz.prog 194:=fk_ Tryz.func194
theorem fn195:zaq Tryz.prog 195:=fk_ Tryz.func195
theorem fn196:zaq Tryz.prog 196:=fk_ Tryz.func196
theorem zCW:zaq Tryz.prog 197:=fk_ Tryz.func197
theorem zhC:zaq Tryz.prog 198:=fk_ Tryz.func198
theorem ze4:zaq Tryz.prog 199:=fk_ Tryz.func199
theorem zp5:zaq Tryz.prog 200:=fk_ Tryz.func200
theorem zp4:zaq Tryz.prog 201:=fk_ Tryz.func201
theorem fn202:zaq Tryz.prog 202:=fk_ Tryz.func202
theorem zsm:zaq Tryz.prog 203:=fk_ Tryz.func203
theorem fn205:zaq Tryz.prog 205:=fk_ Tryz.func205
theorem fn206:zaq Tryz.prog 206:=fk_ Tryz.func206
theorem fn207:zaq Tryz.prog 207:=fk_ Tryz.func207
theorem fn208:zaq Tryz.prog 208:=fk_ Tryz.func208
theorem zCV:zaq Tryz.prog 209:=fk_ Tryz.func209
theorem znr:zaq Tryz.prog 210:=fk_ Tryz.func210
theorem zCU:zaq Tryz.prog 211:=fk_ Tryz.func211
theorem zp3:zaq Tryz.prog 212:=fk_ Tryz.func212
theorem zCT:zaq Tryz.prog 213:=fk_ Tryz.func213
theorem zCS:zaq Tryz.prog 214:=fk_ Tryz.func214
theorem zsl:zaq Tryz.prog 215:=fk_ Tryz.func215
theorem zjr:zaq Tryz.prog 216:=fk_ Tryz.func216
theorem fn217:zaq Tryz.prog 217:=fk_ Tryz.func217
theorem fn218:zaq Tryz.prog 218:=fk_ Tryz.func218
theorem zcR:zaq Tryz.prog 219:=fk_ Tryz.func219
theorem fn220:zaq Tryz.prog 220:=fk_ Tryz.func220
theorem zCR:zaq Tryz.prog 221:=fk_ Tryz.func221
theorem fn222:zaq Tryz.prog 222:=fk_ Tryz.func222
theorem zp2:zaq Tryz.prog 223:=fk_ Tryz.func223
theorem fn224:zaq Tryz.prog 224:=fk_ Tryz.func224
theorem zp1:zaq Tryz.prog 225:=fk_ Tryz.func225
theorem zCQ:zaq Tryz.prog 228:=fk_ Tryz.func228
theorem zzi:zaq Tryz.prog 229:=fk_ Tryz.func229
theorem zCP:zaq Tryz.prog 230:=fk_ Tryz.func230
theorem zCO:zaq Tryz.prog 231:=fk_ Tryz.func231
theorem zp0:zaq Tryz.prog 232:=fk_ Tryz.func232
theorem znq:zaq Tryz.prog 233:=fk_ Tryz.func233
theorem zjq:zaq Tryz.prog 234:=fk_ Tryz.func234
theorem znp:zaq Tryz.prog 235:=fk_ Tryz.func235
theorem zuS:zaq Tryz.prog 236:=fk_ Tryz.func236
theorem fn237:zaq Tryz.prog 237:=fk_ Tryz.func237
theorem fn238:zaq Tryz.prog 238:=fk_ Tryz.func238
theorem fn239:zaq Tryz.prog 239:=fk_ Tryz.func239
theorem zpZ:zaq Tryz.prog 240:=fk_ Tryz.func240
theorem fn241:zaq Tryz.prog 241:=fk_ Tryz.func241
theorem fn242:zaq Tryz.prog 242:=fk_ Tryz.func242
theorem fn243:zaq Tryz.prog 243:=fk_ Tryz.func243
theorem fn244:zaq Tryz.prog 244:=fk_ Tryz.func244
theorem zCN:zaq Tryz.prog 245:=fk_ Tryz.func245
theorem zCM:zaq Tryz.prog 246:=fk_ Tryz.func246
theorem fn247:zaq Tryz.prog 247:=fk_ Tryz.func247
theorem fn248:zaq Tryz.prog 248:=fk_ Tryz.func248
theorem zzh:zaq Tryz.prog 249:=fk_ Tryz.func249
theorem fn250:zaq Tryz.prog 250:=fk_ Tryz.func250
theorem fn251:zaq Tryz.prog 251:=fk_ Tryz.func251
theorem zCL:zaq Tryz.prog 252:=fk_ Tryz.func252
theorem fn254:zaq Tryz.prog 254:=fk_ Tryz.func254
theorem fn255:zaq Tryz.prog 255:=fk_ Tryz.func255
theorem fn256:zaq Tryz.prog 256:=fk_ Tryz.func256
theorem fn258:zaq Tryz.prog 258:=fk_ Tryz.func258
theorem fn259:zaq Tryz.prog 259:=fk_ Tryz.func259
theorem zCK:zaq Tryz.prog 276:=fk_ Tryz.func276
theorem zCD:zai Tryz.prog 28 0=some (0,1):=by kernel_rfl
theorem zCC:zai Tryz.prog 28 1=some (1,1):=by kernel_rfl
theorem zCB:zai Tryz.prog 28 2=some (2,1):=by kernel_rfl
theorem zCA:zai Tryz.prog 31 0=some (0,1):=by kernel_rfl
theorem zCz:zai Tryz.prog 31 1=some (1,1):=by kernel_rfl
theorem zCy:zai Tryz.prog 31 2=some (2,1):=by kernel_rfl
theorem zCx:zai Tryz.prog 36 0=some (0,1):=by kernel_rfl
theorem zCw:zai Tryz.prog 36 1=some (1,1):=by kernel_rfl
theorem zCv:zai Tryz.prog 36 2=some (2,1):=by kernel_rfl
theorem zCu:zai Tryz.prog 38 0=some (0,1):=by kernel_rfl
theorem zCt:zai Tryz.prog 38 1=some (1,3):=by kernel_rfl
theorem zCs:zai Tryz.prog 40 0=some (0,3):=by kernel_rfl
theorem zCr:zai Tryz.prog 40 1=some (3,3):=by kernel_rfl
theorem zCq:zai Tryz.prog 40 2=some (6,4):=by kernel_rfl
theorem zCp:zai Tryz.prog 43 0=some (0,10):=by kernel_rfl
theorem zCo:zai Tryz.prog 43 1=some (10,1):=by kernel_rfl
theorem zCn:zai Tryz.prog 43 2=some (11,1):=by kernel_rfl
theorem zCm:zai Tryz.prog 76 0=some (0,1):=by kernel_rfl
theorem zCl:zai Tryz.prog 76 1=some (1,1):=by kernel_rfl
theorem zCk:zai Tryz.prog 76 2=some (2,3):=by kernel_rfl
theorem zCj:zai Tryz.prog 79 0=some (0,3):=by kernel_rfl
theorem zCi:zai Tryz.prog 79 1=some (3,3):=by kernel_rfl
theorem zze:zai Tryz.prog 103 0=some (0,1):=by kernel_rfl
theorem zzd:zai Tryz.prog 103 1=some (1,3):=by kernel_rfl
theorem zzc:zai Tryz.prog 105 0=some (0,1):=by kernel_rfl
theorem zzb:zai Tryz.prog 105 1=some (1,1):=by kernel_rfl
theorem zza:zai Tryz.prog 105 2=some (2,3):=by kernel_rfl
theorem zy9:zai Tryz.prog 105 3=some (5,1):=by kernel_rfl
theorem zy8:zai Tryz.prog 107 0=some (0,1):=by kernel_rfl
theorem zy7:zai Tryz.prog 107 1=some (1,1):=by kernel_rfl
theorem zy6:zai Tryz.prog 107 2=some (2,1):=by kernel_rfl
theorem zy5:zai Tryz.prog 107 3=some (3,1):=by kernel_rfl
theorem zy4:zai Tryz.prog 109 0=some (0,4):=by kernel_rfl
theorem zy3:zai Tryz.prog 109 1=some (4,3):=by kernel_rfl
theorem zy2:zai Tryz.prog 118 0=some (0,4):=by kernel_rfl
theorem zy1:zai Tryz.prog 118 1=some (4,4):=by kernel_rfl
theorem zy0:zai Tryz.prog 118 2=some (8,3):=by kernel_rfl
theorem zyZ:zai Tryz.prog 150 0=some (0,3):=by kernel_rfl
theorem zyY:zai Tryz.prog 150 1=some (3,1):=by kernel_rfl
theorem zyX:zai Tryz.prog 150 2=some (4,1):=by kernel_rfl
theorem zyW:zai Tryz.prog 155 0=some (0,1):=by kernel_rfl
theorem zyV:zai Tryz.prog 155 1=some (1,1):=by kernel_rfl
theorem zyU:zai Tryz.prog 158 0=some (0,1):=by kernel_rfl
theorem zyT:zai Tryz.prog 158 1=some (1,1):=by kernel_rfl
theorem zyS:zai Tryz.prog 193 0=some (0,1):=by kernel_rfl
theorem zyR:zai Tryz.prog 193 1=some (1,1):=by kernel_rfl
theorem zyQ:zai Tryz.prog 198 0=some (0,1):=by kernel_rfl
theorem zyP:zai Tryz.prog 198 1=some (1,1):=by kernel_rfl
theorem zyO:zai Tryz.prog 198 2=some (2,1):=by kernel_rfl
theorem zyN:zai Tryz.prog 224 0=some (0,12):=by kernel_rfl
theorem zyM:zai Tryz.prog 224 1=some (12,1):=by kernel_rfl
theorem zCf:zas Tryz.prog 28 0=some (0,3):=by kernel_rfl
theorem zCe:zas Tryz.prog 28 1=some (1,26):=by kernel_rfl
theorem zCd:zas Tryz.prog 28 2=some (2,26):=by kernel_rfl
theorem zCc:zas Tryz.prog 31 0=some (0,29):=by kernel_rfl
theorem zCb:zas Tryz.prog 31 1=some (1,29):=by kernel_rfl
theorem zCa:zas Tryz.prog 31 2=some (2,26):=by kernel_rfl
theorem zB9:zas Tryz.prog 36 0=some (0,4):=by kernel_rfl
theorem zB8:zas Tryz.prog 36 1=some (1,34):=by kernel_rfl
theorem zB7:zas Tryz.prog 36 2=some (2,34):=by kernel_rfl
theorem zB6:zas Tryz.prog 38 0=some (0,32):=by kernel_rfl
theorem zB5:zas Tryz.prog 38 1=some (1,36):=by kernel_rfl
theorem zB4:zas Tryz.prog 40 0=some (0,28):=by kernel_rfl
theorem zB3:zas Tryz.prog 40 1=some (3,31):=by kernel_rfl
theorem zB2:zas Tryz.prog 40 2=some (6,38):=by kernel_rfl
theorem zB1:zas Tryz.prog 43 0=some (0,40):=by kernel_rfl
theorem zB0:zas Tryz.prog 43 1=some (10,41):=by kernel_rfl
theorem zBZ:zas Tryz.prog 43 2=some (11,23):=by kernel_rfl
theorem zBY:zas Tryz.prog 76 0=some (0,3):=by kernel_rfl
theorem zBX:zas Tryz.prog 76 1=some (1,3):=by kernel_rfl
theorem zBW:zas Tryz.prog 76 2=some (2,36):=by kernel_rfl
theorem zBV:zas Tryz.prog 79 0=some (0,36):=by kernel_rfl
theorem zBU:zas Tryz.prog 79 1=some (3,36):=by kernel_rfl
theorem zyL:zas Tryz.prog 103 0=some (0,3):=by kernel_rfl
theorem zyK:zas Tryz.prog 103 1=some (1,36):=by kernel_rfl
theorem zyJ:zas Tryz.prog 105 0=some (0,3):=by kernel_rfl
theorem zyI:zas Tryz.prog 105 1=some (1,4):=by kernel_rfl
theorem zyH:zas Tryz.prog 105 2=some (2,36):=by kernel_rfl
theorem zyG:zas Tryz.prog 105 3=some (5,46):=by kernel_rfl
theorem zyF:zas Tryz.prog 107 0=some (0,3):=by kernel_rfl
theorem zyE:zas Tryz.prog 107 1=some (1,3):=by kernel_rfl
theorem zyD:zas Tryz.prog 107 2=some (2,3):=by kernel_rfl
theorem zyC:zas Tryz.prog 107 3=some (3,3):=by kernel_rfl
theorem zyB:zas Tryz.prog 109 0=some (0,107):=by kernel_rfl
theorem zyA:zas Tryz.prog 109 1=some (4,36):=by kernel_rfl
theorem zyz:zas Tryz.prog 118 0=some (0,38):=by kernel_rfl
theorem zyy:zas Tryz.prog 118 1=some (4,107):=by kernel_rfl
theorem zyx:zas Tryz.prog 118 2=some (8,36):=by kernel_rfl
theorem zyw:zas Tryz.prog 150 0=some (0,36):=by kernel_rfl
theorem zyv:zas Tryz.prog 150 1=some (3,46):=by kernel_rfl
theorem zyu:zas Tryz.prog 150 2=some (4,4):=by kernel_rfl
theorem zyt:zas Tryz.prog 155 0=some (0,4):=by kernel_rfl
theorem zys:zas Tryz.prog 155 1=some (1,34):=by kernel_rfl
theorem zyr:zas Tryz.prog 158 0=some (0,22):=by kernel_rfl
theorem zyq:zas Tryz.prog 158 1=some (1,3):=by kernel_rfl
theorem zyp:zas Tryz.prog 193 0=some (0,87):=by kernel_rfl
theorem zyo:zas Tryz.prog 193 1=some (1,87):=by kernel_rfl
theorem zyn:zas Tryz.prog 198 0=some (0,4):=by kernel_rfl
theorem zym:zas Tryz.prog 198 1=some (1,34):=by kernel_rfl
theorem zyl:zas Tryz.prog 198 2=some (2,3):=by kernel_rfl
theorem zyk:zas Tryz.prog 224 0=some (0,43):=by kernel_rfl
theorem zyj:zas Tryz.prog 224 1=some (12,222):=by kernel_rfl
theorem in2:∃i:TypeInfo,Tryz.prog.info? 2=some i/\i.zero=some (.int .i64 0)/\i.size=1/\i.bytes=8:=(info_parts (by kernel_rfl))
theorem in3:∃i:TypeInfo,Tryz.prog.info? 3=some i/\i.zero=some (.int .i64 0)/\i.size=1/\i.bytes=8:=(info_parts (by kernel_rfl))
theorem in4:∃i:TypeInfo,Tryz.prog.info? 4=some i/\i.zero=some (.bool false)/\i.size=1/\i.bytes=1:=(info_parts (by kernel_rfl))
theorem in5:∃i:TypeInfo,Tryz.prog.info? 5=some i/\i.zero=some (.int .u8 0)/\i.size=1/\i.bytes=1:=(info_parts (by kernel_rfl))
theorem in9:∃i:TypeInfo,Tryz.prog.info? 9=some i/\i.zero=some (.string ⟨#[]⟩)/\i.size=1/\i.bytes=16:=(info_parts (by kernel_rfl))
theorem in12:∃i:TypeInfo,Tryz.prog.info? 12=some i/\i.zero=some (.int .u64 0)/\i.size=1/\i.bytes=8:=(info_parts (by kernel_rfl))
theorem in21:∃i:TypeInfo,Tryz.prog.info? 21=some i/\i.zero=some (.int .i32 0)/\i.size=1/\i.bytes=4:=(info_parts (by kernel_rfl))
theorem in22:∃i:TypeInfo,Tryz.prog.info? 22=some i/\i.zero=some (.slice none 0 0)/\i.size=1/\i.bytes=24:=(info_parts (by kernel_rfl))
theorem in23:∃i:TypeInfo,Tryz.prog.info? 23=some i/\i.zero=some (.slice none 0 0)/\i.size=1/\i.bytes=24:=(info_parts (by kernel_rfl))
theorem in26:∃i:TypeInfo,Tryz.prog.info? 26=some i/\i.zero=some (.slice none 0 0)/\i.size=1/\i.bytes=24:=(info_parts (by kernel_rfl))
theorem in28:∃i:TypeInfo,Tryz.prog.info? 28=some i/\i.zero=some (.agg #[.int .i64 0,.slice none 0 0,.slice none 0 0])/\i.size=3/\i.bytes=56:=(info_parts (by kernel_rfl))
theorem in29:∃i:TypeInfo,Tryz.prog.info? 29=some i/\i.zero=some (.slice none 0 0)/\i.size=1/\i.bytes=24:=(info_parts (by kernel_rfl))
theorem in31:∃i:TypeInfo,Tryz.prog.info? 31=some i/\i.zero=some (.agg #[.slice none 0 0,.slice none 0 0,.slice none 0 0])/\i.size=3/\i.bytes=72:=(info_parts (by kernel_rfl))
theorem in32:∃i:TypeInfo,Tryz.prog.info? 32=some i/\i.zero=some (.slice none 0 0)/\i.size=1/\i.bytes=24:=(info_parts (by kernel_rfl))
theorem in33:∃i:TypeInfo,Tryz.prog.info? 33=some i/\i.zero=some (.slice none 0 0)/\i.size=1/\i.bytes=24:=(info_parts (by kernel_rfl))
theorem in34:∃i:TypeInfo,Tryz.prog.info? 34=some i/\i.zero=some (.slice none 0 0)/\i.size=1/\i.bytes=24:=(info_parts (by kernel_rfl))
theorem in36:∃i:TypeInfo,Tryz.prog.info? 36=some i/\i.zero=some (.agg #[.bool false,.slice none 0 0,.slice none 0 0])/\i.size=3/\i.bytes=56:=(info_parts (by kernel_rfl))
theorem in38:∃i:TypeInfo,Tryz.prog.info? 38=some i/\i.zero=some (.agg #[.slice none 0 0,.bool false,.slice none 0 0,.slice none 0 0])/\i.size=4/\i.bytes=80:=(info_parts (by kernel_rfl))
theorem in40:∃i:TypeInfo,Tryz.prog.info? 40=some i/\i.zero=some (.agg #[.int .i64 0,.slice none 0 0,.slice none 0 0,.slice none 0 0,.slice none 0 0,.slice none 0 0,.slice none 0 0,.bool false,.slice none 0 0,.slice none 0 0])/\i.size=10/\i.bytes=208:=(info_parts (by kernel_rfl))
theorem in41:∃i:TypeInfo,Tryz.prog.info? 41=some i/\i.zero=some (.slice none 0 0)/\i.size=1/\i.bytes=24:=(info_parts (by kernel_rfl))
theorem in43:∃i:TypeInfo,Tryz.prog.info? 43=some i/\i.zero=some (.agg #[.int .i64 0,.slice none 0 0,.slice none 0 0,.slice none 0 0,.slice none 0 0,.slice none 0 0,.slice none 0 0,.bool false,.slice none 0 0,.slice none 0 0,.slice none 0 0,.slice none 0 0])/\i.size=12/\i.bytes=256:=(info_parts (by kernel_rfl))
theorem in46:∃i:TypeInfo,Tryz.prog.info? 46=some i/\i.zero=some (.slice none 0 0)/\i.size=1/\i.bytes=24:=(info_parts (by kernel_rfl))
theorem in60:∃i:TypeInfo,Tryz.prog.info? 60=some i/\i.zero=some (.int .i64 0)/\i.size=1/\i.bytes=8:=(info_parts (by kernel_rfl))
theorem in76:∃i:TypeInfo,Tryz.prog.info? 76=some i/\i.zero=some (.agg #[.int .i64 0,.int .i64 0,.bool false,.slice none 0 0,.slice none 0 0])/\i.size=5/\i.bytes=72:=(info_parts (by kernel_rfl))
theorem in79:∃i:TypeInfo,Tryz.prog.info? 79=some i/\i.zero=some (.agg #[.bool false,.slice none 0 0,.slice none 0 0,.bool false,.slice none 0 0,.slice none 0 0])/\i.size=6/\i.bytes=112:=(info_parts (by kernel_rfl))
theorem in82:∃i:TypeInfo,Tryz.prog.info? 82=some i/\i.zero=some (.slice none 0 0)/\i.size=1/\i.bytes=24:=(info_parts (by kernel_rfl))
theorem in98:∃i:TypeInfo,Tryz.prog.info? 98=some i/\i.zero=some (.agg #[.string ⟨#[]⟩,.string ⟨#[]⟩,.string ⟨#[]⟩])/\i.size=3/\i.bytes=48:=(info_parts (by kernel_rfl))
theorem zBR:∃i:TypeInfo,Tryz.prog.info? 103=some i/\i.zero=some (.agg #[.int .i64 0,.bool false,.slice none 0 0,.slice none 0 0])/\i.size=4/\i.bytes=64:=(info_parts (by kernel_rfl))
theorem in105:∃i:TypeInfo,Tryz.prog.info? 105=some i/\i.zero=some (.agg #[.int .i64 0,.bool false,.bool false,.slice none 0 0,.slice none 0 0,.slice none 0 0])/\i.size=6/\i.bytes=96:=(info_parts (by kernel_rfl))
theorem in107:∃i:TypeInfo,Tryz.prog.info? 107=some i/\i.zero=some (.agg #[.int .i64 0,.int .i64 0,.int .i64 0,.int .i64 0])/\i.size=4/\i.bytes=32:=(info_parts (by kernel_rfl))
theorem zuK:∃i:TypeInfo,Tryz.prog.info? 109=some i/\i.zero=some (.agg #[.int .i64 0,.int .i64 0,.int .i64 0,.int .i64 0,.bool false,.slice none 0 0,.slice none 0 0])/\i.size=7/\i.bytes=88:=(info_parts (by kernel_rfl))
theorem in118:∃i:TypeInfo,Tryz.prog.info? 118=some i/\i.zero=some (.agg #[.slice none 0 0,.bool false,.slice none 0 0,.slice none 0 0,.int .i64 0,.int .i64 0,.int .i64 0,.int .i64 0,.bool false,.slice none 0 0,.slice none 0 0])/\i.size=11/\i.bytes=168:=(info_parts (by kernel_rfl))
theorem in150:∃i:TypeInfo,Tryz.prog.info? 150=some i/\i.zero=some (.agg #[.bool false,.slice none 0 0,.slice none 0 0,.slice none 0 0,.bool false])/\i.size=5/\i.bytes=88:=(info_parts (by kernel_rfl))
theorem in155:∃i:TypeInfo,Tryz.prog.info? 155=some i/\i.zero=some (.agg #[.bool false,.slice none 0 0])/\i.size=2/\i.bytes=32:=(info_parts (by kernel_rfl))
theorem in158:∃i:TypeInfo,Tryz.prog.info? 158=some i/\i.zero=some (.agg #[.slice none 0 0,.int .i64 0])/\i.size=2/\i.bytes=32:=(info_parts (by kernel_rfl))
theorem zcP:∃i:TypeInfo,Tryz.prog.info? 182=some i/\i.zero=some (.int .u32 0)/\i.size=1/\i.bytes=4:=(info_parts (by kernel_rfl))
theorem in193:∃i:TypeInfo,Tryz.prog.info? 193=some i/\i.zero=some (.agg #[.nilIface,.nilIface])/\i.size=2/\i.bytes=32:=(info_parts (by kernel_rfl))
theorem in198:∃i:TypeInfo,Tryz.prog.info? 198=some i/\i.zero=some (.agg #[.bool false,.slice none 0 0,.int .i64 0])/\i.size=3/\i.bytes=40:=(info_parts (by kernel_rfl))
theorem in208:∃i:TypeInfo,Tryz.prog.info? 208=some i/\i.zero=some (.int .u64 0)/\i.size=1/\i.bytes=8:=(info_parts (by kernel_rfl))
theorem in209:∃i:TypeInfo,Tryz.prog.info? 209=some i/\i.zero=some (.agg #[.int .i64 0,.int .i64 0,.int .i64 0,.int .i64 0])/\i.size=4/\i.bytes=32:=(info_parts (by kernel_rfl))
theorem in222:∃i:TypeInfo,Tryz.prog.info? 222=some i/\i.zero=some (.slice none 0 0)/\i.size=1/\i.bytes=24:=(info_parts (by kernel_rfl))
theorem in224:∃i:TypeInfo,Tryz.prog.info? 224=some i/\i.zero=some (.agg #[.int .i64 0,.slice none 0 0,.slice none 0 0,.slice none 0 0,.slice none 0 0,.slice none 0 0,.slice none 0 0,.bool false,.slice none 0 0,.slice none 0 0,.slice none 0 0,.slice none 0 0,.slice none 0 0])/\i.size=13/\i.bytes=280:=(info_parts (by kernel_rfl))
theorem in229:∃i:TypeInfo,Tryz.prog.info? 229=some i/\i.zero=some (.int .u64 0)/\i.size=1/\i.bytes=8:=(info_parts (by kernel_rfl))
theorem in249:∃i:TypeInfo,Tryz.prog.info? 249=some i/\i.zero=some (.slice none 0 0)/\i.size=1/\i.bytes=24:=(info_parts (by kernel_rfl))
theorem in264:∃i:TypeInfo,Tryz.prog.info? 264=some i/\i.zero=some (.agg #[.int .u8 0,.int .u8 0,.int .u8 0,.int .u8 0,.int .u8 0,.int .u8 0,.int .u8 0,.int .u8 0,.int .u8 0,.int .u8 0,.int .u8 0,.int .u8 0,.int .u8 0,.int .u8 0,.int .u8 0,.int .u8 0,.int .u8 0,.int .u8 0,.int .u8 0,.int .u8 0,.int .u8 0,.int .u8 0,.int .u8 0,.int .u8 0,.int .u8 0,.int .u8 0,.int .u8 0,.int .u8 0,.int .u8 0,.int .u8 0,.int .u8 0,.int .u8 0])/\i.size=32/\i.bytes=32:=(info_parts (by kernel_rfl))
theorem pl28:zat Tryz.prog 28=some [(0,1),(1,1),(2,1)]:=by kernel_rfl
theorem pl31:zat Tryz.prog 31=some [(0,1),(1,1),(2,1)]:=by kernel_rfl
theorem pl36:zat Tryz.prog 36=some [(0,1),(1,1),(2,1)]:=by kernel_rfl
theorem zEk:zat Tryz.prog 38=some [(0,1),(1,3)]:=by kernel_rfl
theorem pl40:zat Tryz.prog 40=some [(0,3),(3,3),(6,4)]:=by kernel_rfl
theorem pl43:zat Tryz.prog 43=some [(0,10),(10,1),(11,1)]:=by kernel_rfl
theorem pl54:zat Tryz.prog 54=some []:=by kernel_rfl
theorem pl56:zat Tryz.prog 56=some [(0,0)]:=by kernel_rfl
theorem pl76:zat Tryz.prog 76=some [(0,1),(1,1),(2,3)]:=by kernel_rfl
theorem pl79:zat Tryz.prog 79=some [(0,3),(3,3)]:=by kernel_rfl
theorem pl103:zat Tryz.prog 103=some [(0,1),(1,3)]:=by kernel_rfl
theorem pl105:zat Tryz.prog 105=some [(0,1),(1,1),(2,3),(5,1)]:=by kernel_rfl
theorem pl107:zat Tryz.prog 107=some [(0,1),(1,1),(2,1),(3,1)]:=by kernel_rfl
theorem pl109:zat Tryz.prog 109=some [(0,4),(4,3)]:=by kernel_rfl
theorem pl118:zat Tryz.prog 118=some [(0,4),(4,4),(8,3)]:=by kernel_rfl
theorem pl150:zat Tryz.prog 150=some [(0,3),(3,1),(4,1)]:=by kernel_rfl
theorem pl155:zat Tryz.prog 155=some [(0,1),(1,1)]:=by kernel_rfl
theorem pl158:zat Tryz.prog 158=some [(0,1),(1,1)]:=by kernel_rfl
theorem pl193:zat Tryz.prog 193=some [(0,1),(1,1)]:=by kernel_rfl
theorem pl198:zat Tryz.prog 198=some [(0,1),(1,1),(2,1)]:=by kernel_rfl
theorem zBj:zat Tryz.prog 224=some [(0,12),(12,1)]:=by kernel_rfl
theorem tx28:TyZero Tryz.prog 28 [Leaf.val (.int .i64 0),Leaf.val (.slice none 0 0),Leaf.val (.slice none 0 0)]:=⟨.agg #[.int .i64 0,.slice none 0 0,.slice none 0 0],by kernel_rfl,⟨.inl rfl,.inr rfl,.inr rfl,trivial⟩,by decide⟩
theorem tx31:TyZero Tryz.prog 31 [Leaf.val (.slice none 0 0),Leaf.val (.slice none 0 0),Leaf.val (.slice none 0 0)]:=⟨.agg #[.slice none 0 0,.slice none 0 0,.slice none 0 0],by kernel_rfl,⟨.inr rfl,.inr rfl,.inr rfl,trivial⟩,by decide⟩
theorem zAr:TyZero Tryz.prog 38 [Leaf.val (.slice none 0 0),Leaf.val (.bool false),nilL,nilL]:=⟨.agg #[.slice none 0 0,.bool false,.slice none 0 0,.slice none 0 0],by kernel_rfl,⟨.inr rfl,.inl rfl,.inl rfl,.inl rfl,trivial⟩,by decide⟩
theorem tx43:TyZero Tryz.prog 43 [Leaf.val (.int .i64 0),Leaf.val (.slice none 0 0),Leaf.val (.slice none 0 0),Leaf.val (.slice none 0 0),Leaf.val (.slice none 0 0),Leaf.val (.slice none 0 0),Leaf.val (.slice none 0 0),Leaf.val (.bool false),nilL,nilL,Leaf.val (.slice none 0 0),Leaf.val (.slice none 0 0)]:=⟨.agg #[.int .i64 0,.slice none 0 0,.slice none 0 0,.slice none 0 0,.slice none 0 0,.slice none 0 0,.slice none 0 0,.bool false,.slice none 0 0,.slice none 0 0,.slice none 0 0,.slice none 0 0],by kernel_rfl,⟨.inl rfl,.inr rfl,.inr rfl,.inr rfl,.inr rfl,.inr rfl,.inr rfl,.inl rfl,.inl rfl,.inl rfl,.inr rfl,.inr rfl,trivial⟩,by decide⟩
theorem tx224:TyZero Tryz.prog 224 [Leaf.val (.int .i64 0),Leaf.val (.slice none 0 0),Leaf.val (.slice none 0 0),Leaf.val (.slice none 0 0),Leaf.val (.slice none 0 0),Leaf.val (.slice none 0 0),Leaf.val (.slice none 0 0),Leaf.val (.bool false),nilL,nilL,Leaf.val (.slice none 0 0),Leaf.val (.slice none 0 0),Leaf.val (.slice none 0 0)]:=⟨.agg #[.int .i64 0,.slice none 0 0,.slice none 0 0,.slice none 0 0,.slice none 0 0,.slice none 0 0,.slice none 0 0,.bool false,.slice none 0 0,.slice none 0 0,.slice none 0 0,.slice none 0 0,.slice none 0 0],by kernel_rfl,⟨.inl rfl,.inr rfl,.inr rfl,.inr rfl,.inr rfl,.inr rfl,.inr rfl,.inl rfl,.inl rfl,.inl rfl,.inr rfl,.inr rfl,.inr rfl,trivial⟩,by decide⟩
theorem ty2:TyIs Tryz.prog 2 false 1:=tk_
theorem ty3:TyIs Tryz.prog 3 false 1:=tk_
theorem ty4:TyIs Tryz.prog 4 false 1:=tk_
theorem ty5:TyIs Tryz.prog 5 false 1:=tk_
theorem ty9:TyIs Tryz.prog 9 false 1:=tk_
theorem ty12:TyIs Tryz.prog 12 false 1:=tk_
theorem ty21:TyIs Tryz.prog 21 false 1:=tk_
theorem ty22:TyIs Tryz.prog 22 false 1:=tk_
theorem ty23:TyIs Tryz.prog 23 false 1:=tk_
theorem ty26:TyIs Tryz.prog 26 false 1:=tk_
theorem ty28:TyIs Tryz.prog 28 true 3:=tk_
theorem ty29:TyIs Tryz.prog 29 false 1:=tk_
theorem ty31:TyIs Tryz.prog 31 true 3:=tk_
theorem ty32:TyIs Tryz.prog 32 false 1:=tk_
theorem ty33:TyIs Tryz.prog 33 false 1:=tk_
theorem ty34:TyIs Tryz.prog 34 false 1:=tk_
theorem zmV:TyIs Tryz.prog 36 true 3:=tk_
theorem zjz:TyIs Tryz.prog 38 true 4:=tk_
theorem ty40:TyIs Tryz.prog 40 true 10:=tk_
theorem ty41:TyIs Tryz.prog 41 false 1:=tk_
theorem zEi:TyIs Tryz.prog 43 true 12:=tk_
theorem ty46:TyIs Tryz.prog 46 false 1:=tk_
theorem ty54:TyIs Tryz.prog 54 true 0:=tk_
theorem ty60:TyIs Tryz.prog 60 false 1:=tk_
theorem zAq:TyIs Tryz.prog 76 true 5:=tk_
theorem ty79:TyIs Tryz.prog 79 true 6:=tk_
theorem ty82:TyIs Tryz.prog 82 false 1:=tk_
theorem ty87:TyIs Tryz.prog 87 false 1:=tk_
theorem ty98:TyIs Tryz.prog 98 true 3:=tk_
theorem zfI:TyIs Tryz.prog 103 true 4:=tk_
theorem zhw:TyIs Tryz.prog 105 true 6:=tk_
theorem zxn:TyIs Tryz.prog 107 true 4:=tk_
theorem zbh:TyIs Tryz.prog 109 true 7:=tk_
theorem ty118:TyIs Tryz.prog 118 true 11:=tk_
theorem ty150:TyIs Tryz.prog 150 true 5:=tk_
theorem ty155:TyIs Tryz.prog 155 true 2:=tk_
theorem ty158:TyIs Tryz.prog 158 true 2:=tk_
theorem zau:TyIs Tryz.prog 182 false 1:=tk_
theorem ty193:TyIs Tryz.prog 193 true 2:=tk_
theorem ty198:TyIs Tryz.prog 198 true 3:=tk_
theorem ty208:TyIs Tryz.prog 208 false 1:=tk_
theorem ty209:TyIs Tryz.prog 209 true 4:=tk_
theorem ty222:TyIs Tryz.prog 222 false 1:=tk_
theorem ty224:TyIs Tryz.prog 224 true 13:=tk_
theorem ty229:TyIs Tryz.prog 229 false 1:=tk_
theorem ty249:TyIs Tryz.prog 249 false 1:=tk_
theorem ty264:TyIs Tryz.prog 264 true 32:=tk_
theorem tz2:TyZero Tryz.prog 2 [Leaf.val (.int .i64 0)]:=TyZero.of (.int .i64 0) (by kernel_rfl) rfl (by decide)
theorem tz3:TyZero Tryz.prog 3 [Leaf.val (.int .i64 0)]:=TyZero.of (.int .i64 0) (by kernel_rfl) rfl (by decide)
theorem tz4:TyZero Tryz.prog 4 [Leaf.val (.bool false)]:=TyZero.of (.bool false) (by kernel_rfl) rfl (by decide)
theorem tz5:TyZero Tryz.prog 5 [Leaf.val (.int .u8 0)]:=TyZero.of (.int .u8 0) (by kernel_rfl) rfl (by decide)
theorem tz9:TyZero Tryz.prog 9 [Leaf.val (.string ⟨#[]⟩)]:=TyZero.of (.string ⟨#[]⟩) (by kernel_rfl) rfl (by decide)
theorem tz12:TyZero Tryz.prog 12 [Leaf.val (.int .u64 0)]:=TyZero.of (.int .u64 0) (by kernel_rfl) rfl (by decide)
theorem tz21:TyZero Tryz.prog 21 [Leaf.val (.int .i32 0)]:=TyZero.of (.int .i32 0) (by kernel_rfl) rfl (by decide)
theorem tz22:TyZero Tryz.prog 22 [nilL]:=TyZero.of (.slice none 0 0) (by kernel_rfl) rfl (by decide)
theorem tz23:TyZero Tryz.prog 23 [nilL]:=TyZero.of (.slice none 0 0) (by kernel_rfl) rfl (by decide)
theorem tz26:TyZero Tryz.prog 26 [nilL]:=TyZero.of (.slice none 0 0) (by kernel_rfl) rfl (by decide)
theorem tz28:TyZero Tryz.prog 28 [Leaf.val (.int .i64 0),nilL,nilL]:=TyZero.of (.agg #[.int .i64 0,.slice none 0 0,.slice none 0 0]) (by kernel_rfl) rfl (by decide)
theorem tz29:TyZero Tryz.prog 29 [nilL]:=TyZero.of (.slice none 0 0) (by kernel_rfl) rfl (by decide)
theorem tz31:TyZero Tryz.prog 31 [nilL,nilL,nilL]:=TyZero.of (.agg #[.slice none 0 0,.slice none 0 0,.slice none 0 0]) (by kernel_rfl) rfl (by decide)
theorem tz32:TyZero Tryz.prog 32 [nilL]:=TyZero.of (.slice none 0 0) (by kernel_rfl) rfl (by decide)
theorem tz33:TyZero Tryz.prog 33 [nilL]:=TyZero.of (.slice none 0 0) (by kernel_rfl) rfl (by decide)
theorem tz34:TyZero Tryz.prog 34 [nilL]:=TyZero.of (.slice none 0 0) (by kernel_rfl) rfl (by decide)
theorem zAQ:TyZero Tryz.prog 36 [Leaf.val (.bool false),nilL,nilL]:=TyZero.of (.agg #[.bool false,.slice none 0 0,.slice none 0 0]) (by kernel_rfl) rfl (by decide)
theorem zAp:TyZero Tryz.prog 38 [nilL,Leaf.val (.bool false),nilL,nilL]:=TyZero.of (.agg #[.slice none 0 0,.bool false,.slice none 0 0,.slice none 0 0]) (by kernel_rfl) rfl (by decide)
theorem tz40:TyZero Tryz.prog 40 [Leaf.val (.int .i64 0),nilL,nilL,nilL,nilL,nilL,nilL,Leaf.val (.bool false),nilL,nilL]:=TyZero.of (.agg #[.int .i64 0,.slice none 0 0,.slice none 0 0,.slice none 0 0,.slice none 0 0,.slice none 0 0,.slice none 0 0,.bool false,.slice none 0 0,.slice none 0 0]) (by kernel_rfl) rfl (by decide)
theorem tz41:TyZero Tryz.prog 41 [nilL]:=TyZero.of (.slice none 0 0) (by kernel_rfl) rfl (by decide)
theorem tz43:TyZero Tryz.prog 43 [Leaf.val (.int .i64 0),nilL,nilL,nilL,nilL,nilL,nilL,Leaf.val (.bool false),nilL,nilL,nilL,nilL]:=TyZero.of (.agg #[.int .i64 0,.slice none 0 0,.slice none 0 0,.slice none 0 0,.slice none 0 0,.slice none 0 0,.slice none 0 0,.bool false,.slice none 0 0,.slice none 0 0,.slice none 0 0,.slice none 0 0]) (by kernel_rfl) rfl (by decide)
theorem tz46:TyZero Tryz.prog 46 [nilL]:=TyZero.of (.slice none 0 0) (by kernel_rfl) rfl (by decide)
theorem tz54:TyZero Tryz.prog 54 []:=TyZero.of (.agg #[]) (by kernel_rfl) rfl (by decide)
theorem tz56:TyZero Tryz.prog 56 []:=TyZero.of (.agg #[]) (by kernel_rfl) rfl (by decide)
theorem tz60:TyZero Tryz.prog 60 [Leaf.val (.int .i64 0)]:=TyZero.of (.int .i64 0) (by kernel_rfl) rfl (by decide)
theorem zAP:TyZero Tryz.prog 76 [Leaf.val (.int .i64 0),Leaf.val (.int .i64 0),Leaf.val (.bool false),nilL,nilL]:=TyZero.of (.agg #[.int .i64 0,.int .i64 0,.bool false,.slice none 0 0,.slice none 0 0]) (by kernel_rfl) rfl (by decide)
theorem tz79:TyZero Tryz.prog 79 [Leaf.val (.bool false),nilL,nilL,Leaf.val (.bool false),nilL,nilL]:=TyZero.of (.agg #[.bool false,.slice none 0 0,.slice none 0 0,.bool false,.slice none 0 0,.slice none 0 0]) (by kernel_rfl) rfl (by decide)
theorem tz82:TyZero Tryz.prog 82 [nilL]:=TyZero.of (.slice none 0 0) (by kernel_rfl) rfl (by decide)
theorem tz98:TyZero Tryz.prog 98 [Leaf.val (.string ⟨#[]⟩),Leaf.val (.string ⟨#[]⟩),Leaf.val (.string ⟨#[]⟩)]:=TyZero.of (.agg #[.string ⟨#[]⟩,.string ⟨#[]⟩,.string ⟨#[]⟩]) (by kernel_rfl) rfl (by decide)
theorem zlq:TyZero Tryz.prog 103 [Leaf.val (.int .i64 0),Leaf.val (.bool false),nilL,nilL]:=TyZero.of (.agg #[.int .i64 0,.bool false,.slice none 0 0,.slice none 0 0]) (by kernel_rfl) rfl (by decide)
theorem zlp:TyZero Tryz.prog 105 [Leaf.val (.int .i64 0),Leaf.val (.bool false),Leaf.val (.bool false),nilL,nilL,nilL]:=TyZero.of (.agg #[.int .i64 0,.bool false,.bool false,.slice none 0 0,.slice none 0 0,.slice none 0 0]) (by kernel_rfl) rfl (by decide)
theorem tz107:TyZero Tryz.prog 107 [Leaf.val (.int .i64 0),Leaf.val (.int .i64 0),Leaf.val (.int .i64 0),Leaf.val (.int .i64 0)]:=TyZero.of (.agg #[.int .i64 0,.int .i64 0,.int .i64 0,.int .i64 0]) (by kernel_rfl) rfl (by decide)
theorem zcZ:TyZero Tryz.prog 109 [Leaf.val (.int .i64 0),Leaf.val (.int .i64 0),Leaf.val (.int .i64 0),Leaf.val (.int .i64 0),Leaf.val (.bool false),nilL,nilL]:=TyZero.of (.agg #[.int .i64 0,.int .i64 0,.int .i64 0,.int .i64 0,.bool false,.slice none 0 0,.slice none 0 0]) (by kernel_rfl) rfl (by decide)
theorem tz118:TyZero Tryz.prog 118 [nilL,Leaf.val (.bool false),nilL,nilL,Leaf.val (.int .i64 0),Leaf.val (.int .i64 0),Leaf.val (.int .i64 0),Leaf.val (.int .i64 0),Leaf.val (.bool false),nilL,nilL]:=TyZero.of (.agg #[.slice none 0 0,.bool false,.slice none 0 0,.slice none 0 0,.int .i64 0,.int .i64 0,.int .i64 0,.int .i64 0,.bool false,.slice none 0 0,.slice none 0 0]) (by kernel_rfl) rfl (by decide)
theorem tz150:TyZero Tryz.prog 150 [Leaf.val (.bool false),nilL,nilL,nilL,Leaf.val (.bool false)]:=TyZero.of (.agg #[.bool false,.slice none 0 0,.slice none 0 0,.slice none 0 0,.bool false]) (by kernel_rfl) rfl (by decide)
theorem tz155:TyZero Tryz.prog 155 [Leaf.val (.bool false),nilL]:=TyZero.of (.agg #[.bool false,.slice none 0 0]) (by kernel_rfl) rfl (by decide)
theorem tz158:TyZero Tryz.prog 158 [nilL,Leaf.val (.int .i64 0)]:=TyZero.of (.agg #[.slice none 0 0,.int .i64 0]) (by kernel_rfl) rfl (by decide)
theorem zd9:TyZero Tryz.prog 182 [Leaf.val (.int .u32 0)]:=TyZero.of (.int .u32 0) (by kernel_rfl) rfl (by decide)
theorem tz193:TyZero Tryz.prog 193 [Leaf.val .nilIface,Leaf.val .nilIface]:=TyZero.of (.agg #[.nilIface,.nilIface]) (by kernel_rfl) rfl (by decide)
theorem tz198:TyZero Tryz.prog 198 [Leaf.val (.bool false),nilL,Leaf.val (.int .i64 0)]:=TyZero.of (.agg #[.bool false,.slice none 0 0,.int .i64 0]) (by kernel_rfl) rfl (by decide)
theorem tz208:TyZero Tryz.prog 208 [Leaf.val (.int .u64 0)]:=TyZero.of (.int .u64 0) (by kernel_rfl) rfl (by decide)
theorem zAR:TyZero Tryz.prog 209 [Leaf.val (.int .i64 0),Leaf.val (.int .i64 0),Leaf.val (.int .i64 0),Leaf.val (.int .i64 0)]:=TyZero.of (.agg #[.int .i64 0,.int .i64 0,.int .i64 0,.int .i64 0]) (by kernel_rfl) rfl (by decide)
theorem tz222:TyZero Tryz.prog 222 [nilL]:=TyZero.of (.slice none 0 0) (by kernel_rfl) rfl (by decide)
theorem tz224:TyZero Tryz.prog 224 [Leaf.val (.int .i64 0),nilL,nilL,nilL,nilL,nilL,nilL,Leaf.val (.bool false),nilL,nilL,nilL,nilL,nilL]:=TyZero.of (.agg #[.int .i64 0,.slice none 0 0,.slice none 0 0,.slice none 0 0,.slice none 0 0,.slice none 0 0,.slice none 0 0,.bool false,.slice none 0 0,.slice none 0 0,.slice none 0 0,.slice none 0 0,.slice none 0 0]) (by kernel_rfl) rfl (by decide)
theorem tz229:TyZero Tryz.prog 229 [Leaf.val (.int .u64 0)]:=TyZero.of (.int .u64 0) (by kernel_rfl) rfl (by decide)
theorem tz249:TyZero Tryz.prog 249 [nilL]:=TyZero.of (.slice none 0 0) (by kernel_rfl) rfl (by decide)
theorem tz264:TyZero Tryz.prog 264 [Leaf.val (.int .u8 0),Leaf.val (.int .u8 0),Leaf.val (.int .u8 0),Leaf.val (.int .u8 0),Leaf.val (.int .u8 0),Leaf.val (.int .u8 0),Leaf.val (.int .u8 0),Leaf.val (.int .u8 0),Leaf.val (.int .u8 0),Leaf.val (.int .u8 0),Leaf.val (.int .u8 0),Leaf.val (.int .u8 0),Leaf.val (.int .u8 0),Leaf.val (.int .u8 0),Leaf.val (.int .u8 0),Leaf.val (.int .u8 0),Leaf.val (.int .u8 0),Leaf.val (.int .u8 0),Leaf.val (.int .u8 0),Leaf.val (.int .u8 0),Leaf.val (.int .u8 0),Leaf.val (.int .u8 0),Leaf.val (.int .u8 0),Leaf.val (.int .u8 0),Leaf.val (.int .u8 0),Leaf.val (.int .u8 0),Leaf.val (.int .u8 0),Leaf.val (.int .u8 0),Leaf.val (.int .u8 0),Leaf.val (.int .u8 0),Leaf.val (.int .u8 0),Leaf.val (.int .u8 0)]:=TyZero.of (.agg #[.int .u8 0,.int .u8 0,.int .u8 0,.int .u8 0,.int .u8 0,.int .u8 0,.int .u8 0,.int .u8 0,.int .u8 0,.int .u8 0,.int .u8 0,.int .u8 0,.int .u8 0,.int .u8 0,.int .u8 0,.int .u8 0,.int .u8 0,.int .u8 0,.int .u8 0,.int .u8 0,.int .u8 0,.int .u8 0,.int .u8 0,.int .u8 0,.int .u8 0,.int .u8 0,.int .u8 0,.int .u8 0,.int .u8 0,.int .u8 0,.int .u8 0,.int .u8 0]) (by kernel_rfl) rfl (by decide)
theorem un2:Tryz.prog.underlying 2=some (.int .i64):=by kernel_rfl
theorem un3:Tryz.prog.underlying 3=some (.int .i64):=by kernel_rfl
theorem un4:Tryz.prog.underlying 4=some (.bool):=by kernel_rfl
theorem un5:Tryz.prog.underlying 5=some (.int .u8):=by kernel_rfl
theorem un9:Tryz.prog.underlying 9=some (.string):=by kernel_rfl
theorem un12:Tryz.prog.underlying 12=some (.int .u64):=by kernel_rfl
theorem un21:Tryz.prog.underlying 21=some (.int .i32):=by kernel_rfl
theorem zxl:Tryz.prog.underlying 22=some (.slice 5):=by kernel_rfl
theorem zpv:Tryz.prog.underlying 23=some (.slice 105):=by kernel_rfl
theorem zAo:Tryz.prog.underlying 26=some (.slice 38):=by kernel_rfl
theorem zAJ:Tryz.prog.underlying 29=some (.slice 36):=by kernel_rfl
theorem zln:Tryz.prog.underlying 32=some (.slice 103):=by kernel_rfl
theorem zd1:Tryz.prog.underlying 33=some (.slice 182):=by kernel_rfl
theorem zck:Tryz.prog.underlying 34=some (.slice 182):=by kernel_rfl
theorem zt0:Tryz.prog.underlying 41=some (.slice 76):=by kernel_rfl
theorem zcJ:Tryz.prog.underlying 46=some (.slice 109):=by kernel_rfl
theorem un60:Tryz.prog.underlying 60=some (.int .i64):=by kernel_rfl
theorem un82:Tryz.prog.underlying 82=some (.slice 79):=by kernel_rfl
theorem un182:Tryz.prog.underlying 182=some (.int .u32):=by kernel_rfl
theorem un208:Tryz.prog.underlying 208=some (.int .u64):=by kernel_rfl
theorem zAM:Tryz.prog.underlying 209=some (.array 4 3):=by kernel_rfl
theorem zAL:Tryz.prog.underlying 222=some (.slice 4):=by kernel_rfl
theorem un229:Tryz.prog.underlying 229=some (.int .u64):=by kernel_rfl
theorem zAK:Tryz.prog.underlying 249=some (.slice 3):=by kernel_rfl
theorem un264:Tryz.prog.underlying 264=some (.array 32 5):=by kernel_rfl
theorem zaP{P:Program}{n k b:Nat}{v:Value}(h:∃i:TypeInfo,P.info? n=some i/\i.zero=some v/\i.size=k/\i.bytes=b)(hk:v.cells.size=k:=by rfl):∃(i:TypeInfo) (z:Value),P.info? n=some i/\i.zero=some z/\i.size=k/\z.cells.size=k/\i.bytes=b:=let ⟨i,h1,h2,h3,h4⟩:=h;⟨i,v,h1,h2,h3,hk,h4⟩
def mtab:MTab:={ fo:=[((43,0),0,10),((43,2),11,1),((40,0),0,3),((38,0),0,1),((103,1),1,3),((103,0),0,1),((76,1),1,1),((28,0),0,1),((105,2),2,3),((36,0),0,1),((28,1),1,1),((155,1),1,1),((36,1),1,1),((43,1),10,1),((155,0),0,1),((107,1),1,1),((36,2),2,1),((76,2),2,3),((38,1),1,3),((31,0),0,1),((31,1),1,1),((107,0),0,1),((107,2),2,1),((76,0),0,1),((109,0),0,4),((107,3),3,1),((109,1),4,3),((105,1),1,1),((31,2),2,1),((118,1),4,4),((105,0),0,1),((28,2),2,1),((105,3),5,1),((224,0),0,12),((198,2),2,1),((40,1),3,3),((198,0),0,1),((198,1),1,1),((158,1),1,1),((224,1),12,1),((118,0),0,4),((150,1),3,1),((118,2),8,3),((158,0),0,1),((40,2),6,4),((150,0),0,3),((150,2),4,1),((193,0),0,1),((193,1),1,1),((79,0),0,3),((79,1),3,3)],ty:=[(36,true,3),(38,true,4),(3,false,1),(182,false,1),(34,false,1),(107,true,4),(43,true,12),(4,false,1),(198,true,3),(103,true,4),(155,true,2),(26,false,1),(32,false,1),(105,true,6),(23,false,1),(76,true,5),(118,true,11),(29,false,1),(40,true,10),(41,false,1),(150,true,5),(28,true,3),(109,true,7),(31,true,3),(46,false,1),(87,false,1),(5,false,1),(222,false,1),(22,false,1),(2,false,1),(9,false,1),(12,false,1),(21,false,1),(33,false,1),(54,true,0),(60,false,1),(79,true,6),(82,false,1),(98,true,3),(158,true,2),(193,true,2),(208,false,1),(209,true,4),(224,true,13),(229,false,1),(249,false,1),(264,true,32)],tz:=[(36,[Leaf.val (.bool false),nilL,nilL]),(38,[nilL,Leaf.val (.bool false),nilL,nilL]),(107,[Leaf.val (.int .i64 0),Leaf.val (.int .i64 0),Leaf.val (.int .i64 0),Leaf.val (.int .i64 0)]),(155,[Leaf.val (.bool false),nilL]),(198,[Leaf.val (.bool false),nilL,Leaf.val (.int .i64 0)]),(109,[Leaf.val (.int .i64 0),Leaf.val (.int .i64 0),Leaf.val (.int .i64 0),Leaf.val (.int .i64 0),Leaf.val (.bool false),nilL,nilL]),(103,[Leaf.val (.int .i64 0),Leaf.val (.bool false),nilL,nilL]),(150,[Leaf.val (.bool false),nilL,nilL,nilL,Leaf.val (.bool false)]),(43,[Leaf.val (.int .i64 0),nilL,nilL,nilL,nilL,nilL,nilL,Leaf.val (.bool false),nilL,nilL,nilL,nilL]),(105,[Leaf.val (.int .i64 0),Leaf.val (.bool false),Leaf.val (.bool false),nilL,nilL,nilL]),(76,[Leaf.val (.int .i64 0),Leaf.val (.int .i64 0),Leaf.val (.bool false),nilL,nilL]),(118,[nilL,Leaf.val (.bool false),nilL,nilL,Leaf.val (.int .i64 0),Leaf.val (.int .i64 0),Leaf.val (.int .i64 0),Leaf.val (.int .i64 0),Leaf.val (.bool false),nilL,nilL]),(31,[nilL,nilL,nilL]),(28,[Leaf.val (.int .i64 0),nilL,nilL]),(40,[Leaf.val (.int .i64 0),nilL,nilL,nilL,nilL,nilL,nilL,Leaf.val (.bool false),nilL,nilL]),(158,[nilL,Leaf.val (.int .i64 0)]),(3,[Leaf.val (.int .i64 0)]),(193,[Leaf.val .nilIface,Leaf.val .nilIface]),(2,[Leaf.val (.int .i64 0)]),(4,[Leaf.val (.bool false)]),(5,[Leaf.val (.int .u8 0)]),(9,[Leaf.val (.string ⟨#[]⟩)]),(12,[Leaf.val (.int .u64 0)]),(21,[Leaf.val (.int .i32 0)]),(22,[nilL]),(23,[nilL]),(26,[nilL]),(29,[nilL]),(32,[nilL]),(33,[nilL]),(34,[nilL]),(41,[nilL]),(46,[nilL]),(60,[Leaf.val (.int .i64 0)]),(79,[Leaf.val (.bool false),nilL,nilL,Leaf.val (.bool false),nilL,nilL]),(82,[nilL]),(98,[Leaf.val (.string ⟨#[]⟩),Leaf.val (.string ⟨#[]⟩),Leaf.val (.string ⟨#[]⟩)]),(182,[Leaf.val (.int .u32 0)]),(208,[Leaf.val (.int .u64 0)]),(209,[Leaf.val (.int .i64 0),Leaf.val (.int .i64 0),Leaf.val (.int .i64 0),Leaf.val (.int .i64 0)]),(222,[nilL]),(224,[Leaf.val (.int .i64 0),nilL,nilL,nilL,nilL,nilL,nilL,Leaf.val (.bool false),nilL,nilL,nilL,nilL,nilL]),(229,[Leaf.val (.int .u64 0)]),(249,[nilL]),(264,[Leaf.val (.int .u8 0),Leaf.val (.int .u8 0),Leaf.val (.int .u8 0),Leaf.val (.int .u8 0),Leaf.val (.int .u8 0),Leaf.val (.int .u8 0),Leaf.val (.int .u8 0),Leaf.val (.int .u8 0),Leaf.val (.int .u8 0),Leaf.val (.int .u8 0),Leaf.val (.int .u8 0),Leaf.val (.int .u8 0),Leaf.val (.int .u8 0),Leaf.val (.int .u8 0),Leaf.val (.int .u8 0),Leaf.val (.int .u8 0),Leaf.val (.int .u8 0),Leaf.val (.int .u8 0),Leaf.val (.int .u8 0),Leaf.val (.int .u8 0),Leaf.val (.int .u8 0),Leaf.val (.int .u8 0),Leaf.val (.int .u8 0),Leaf.val (.int .u8 0),Leaf.val (.int .u8 0),Leaf.val (.int .u8 0),Leaf.val (.int .u8 0),Leaf.val (.int .u8 0),Leaf.val (.int .u8 0),Leaf.val (.int .u8 0),Leaf.val (.int .u8 0),Leaf.val (.int .u8 0)]),(56,[]),(54,[])],pl:=[(36,[(0,1),(1,1),(2,1)]),(38,[(0,1),(1,3)]),(107,[(0,1),(1,1),(2,1),(3,1)]),(109,[(0,4),(4,3)]),(198,[(0,1),(1,1),(2,1)]),(155,[(0,1),(1,1)]),(150,[(0,3),(3,1),(4,1)]),(105,[(0,1),(1,1),(2,3),(5,1)]),(103,[(0,1),(1,3)]),(43,[(0,10),(10,1),(11,1)]),(118,[(0,4),(4,4),(8,3)]),(158,[(0,1),(1,1)]),(40,[(0,3),(3,3),(6,4)]),(76,[(0,1),(1,1),(2,3)]),(193,[(0,1),(1,1)]),(28,[(0,1),(1,1),(2,1)]),(31,[(0,1),(1,1),(2,1)]),(79,[(0,3),(3,3)]),(224,[(0,12),(12,1)]),(56,[(0,0)]),(54,[])],ft:=[((36,2),2,34),((38,1),1,36),((28,0),0,3),((28,1),1,26),((28,2),2,26),((31,0),0,29),((31,1),1,29),((31,2),2,26),((36,0),0,4),((36,1),1,34),((38,0),0,32),((40,0),0,28),((40,1),3,31),((40,2),6,38),((43,0),0,40),((43,1),10,41),((43,2),11,23),((76,0),0,3),((76,1),1,3),((76,2),2,36),((79,0),0,36),((79,1),3,36),((103,0),0,3),((103,1),1,36),((105,0),0,3),((105,1),1,4),((105,2),2,36),((105,3),5,46),((107,0),0,3),((107,1),1,3),((107,2),2,3),((107,3),3,3),((109,0),0,107),((109,1),4,36),((118,0),0,38),((118,1),4,107),((118,2),8,36),((150,0),0,36),((150,1),3,46),((150,2),4,4),((155,0),0,4),((155,1),1,34),((158,0),0,22),((158,1),1,3),((193,0),0,87),((193,1),1,87),((198,0),0,4),((198,1),1,34),((198,2),2,3),((224,0),0,43),((224,1),12,222)],un:=[(34,182),(32,103),(23,105),(46,109),(29,36),(26,38),(41,76),(22,5),(222,4),(33,182),(249,3),(82,79)],ik:=[(182,.u32),(208,.u64),(5,.u8),(3,.i64),(2,.i64),(12,.u64),(21,.i32),(60,.i64),(229,.u64)],inf:=[(109,7,88),(105,6,96),(36,3,56),(103,4,64),(38,4,80),(76,5,72),(4,1,1),(2,1,8),(3,1,8),(5,1,1),(9,1,16),(12,1,8),(21,1,4),(22,1,24),(23,1,24),(26,1,24),(28,3,56),(29,1,24),(31,3,72),(32,1,24),(33,1,24),(34,1,24),(40,10,208),(41,1,24),(43,12,256),(46,1,24),(60,1,8),(79,6,112),(82,1,24),(98,3,48),(107,4,32),(118,11,168),(150,5,88),(155,2,32),(158,2,32),(182,1,4),(193,2,32),(198,3,40),(208,1,8),(209,4,32),(222,1,24),(224,13,280),(229,1,8),(249,1,24),(264,32,32)] }
theorem zxX:mtab.Ok Tryz.prog:=⟨⟨⟨zCp,zCn,zCs,zCu,zzd,zze,zCl,zCD,zza,zCx,zCC,zyV,zCw,zCo,zyW,zy7,zCv,zCk,zCt,zCA,zCz,zy8,zy6,zCm,zy4,zy5,zy3,zzb,zCy,zy1,zzc,zCB,zy9,zyN,zyO,zCr,zyQ,zyP,zyT,zyM,zy2,zyY,zy0,zyU,zCq,zyZ,zyX,zyS,zyR,zCj,zCi,trivial⟩,⟨zmV,zjz,ty3,zau,ty34,zxn,zEi,ty4,ty198,zfI,ty155,ty26,ty32,zhw,ty23,zAq,ty118,ty29,ty40,ty41,ty150,ty28,zbh,ty31,ty46,ty87,ty5,ty222,ty22,ty2,ty9,ty12,ty21,ty33,ty54,ty60,ty79,ty82,ty98,ty158,ty193,ty208,ty209,ty224,ty229,ty249,ty264,trivial⟩⟩,⟨zAQ,zAp,tz107,tz155,tz198,zcZ,zlq,tz150,tz43,zlp,zAP,tz118,tz31,tz28,tz40,tz158,tz3,tz193,tz2,tz4,tz5,tz9,tz12,tz21,tz22,tz23,tz26,tz29,tz32,tz33,tz34,tz41,tz46,tz60,tz79,tz82,tz98,zd9,tz208,zAR,tz222,tz224,tz229,tz249,tz264,tz56,tz54,trivial⟩,⟨pl36,zEk,pl107,pl109,pl198,pl155,pl150,pl105,pl103,pl43,pl118,pl158,pl40,pl76,pl193,pl28,pl31,pl79,zBj,pl56,pl54,trivial⟩,⟨zB7,zB5,zCf,zCe,zCd,zCc,zCb,zCa,zB9,zB8,zB6,zB4,zB3,zB2,zB1,zB0,zBZ,zBY,zBX,zBW,zBV,zBU,zyL,zyK,zyJ,zyI,zyH,zyG,zyF,zyE,zyD,zyC,zyB,zyA,zyz,zyy,zyx,zyw,zyv,zyu,zyt,zys,zyr,zyq,zyp,zyo,zyn,zym,zyl,zyk,zyj,trivial⟩,⟨zck,zln,zpv,zcJ,zAJ,zAo,zt0,zxl,zAL,zd1,zAK,un82,trivial⟩,⟨un182,un208,un5,un3,un2,un12,un21,un60,un229,trivial⟩,⟨(zaP zuK),(zaP in105),(zaP in36),(zaP zBR),(zaP in38),(zaP in76),(zaP in4),(zaP in2),(zaP in3),(zaP in5),(zaP in9),(zaP in12),(zaP in21),(zaP in22),(zaP in23),(zaP in26),(zaP in28),(zaP in29),(zaP in31),(zaP in32),(zaP in33),(zaP in34),(zaP in40),(zaP in41),(zaP in43),(zaP in46),(zaP in60),(zaP in79),(zaP in82),(zaP in98),(zaP in107),(zaP in118),(zaP in150),(zaP in155),(zaP in158),(zaP zcP),(zaP in193),(zaP in198),(zaP in208),(zaP in209),(zaP in222),(zaP in224),(zaP in229),(zaP in249),(zaP in264),trivial⟩⟩
instance tab0:Tab Tryz.prog:=⟨mtab,zxX,follows⟩
end Go.Proofs.YtjeiacoegppoiaaGreatDoor

namespace Rc
def dn(d:Nat):Nat:=if d=0 then 1 else d
theorem zhm(d:Nat):0<dn d:=by unfold dn;split <;> omega
theorem zdI(d:Nat):dn d≠0:=Nat.ne_of_gt (zhm d)
theorem zc1{d:Nat}(h:d≠0):dn d=d:=by simp[dn,h]
@[simp] theorem znv:dn 0=1:=rfl
def sgn(neg:Bool)(n:Nat):Int:=if neg then -(n:Int) else n
@[simp] theorem zdO (n:Nat):sgn true n = -(n:Int):=rfl
@[simp] theorem zec (n:Nat):sgn false n=n:=rfl
@[simp] theorem zcN (neg:Bool) (n:Nat):(sgn neg n).natAbs=n:=by cases neg <;> simp
theorem zqY(a b:Bool)(m n:Nat):sgn (a != b) (m*n)=sgn a m*sgn b n:=by
 cases a <;> cases b <;> simp[Int.neg_mul,Int.mul_neg]
theorem zxy(a:Bool)(m:Nat):sgn (!a) m = - sgn a m:=by cases a <;> simp
theorem zdn(x:Int):sgn (decide (x<0)) x.natAbs=x:=by
 unfold sgn;by_cases h:x<0
 .simp only[h,decide_true,if_true];omega
 .simp only[h,decide_false];simp;omega
def rq(neg:Bool)(n d:Nat):Rat:=mkRat (sgn neg n) (dn d)
def zaQ(q:Rat):Bool:=decide (q.num<0)
def zaw(q:Rat):Nat:=q.num.natAbs
def zaE(q:Rat):Nat:=if q.den=1 then 0 else q.den
theorem ziR(q:Rat):dn (zaE q)=q.den:=by
 have:=q.den_pos;unfold zaE;by_cases h:q.den=1
 .rw[if_pos h,h];rfl
 .rw[if_neg h];exact zc1 (by omega)
theorem zhM(q:Rat):rq (zaQ q) (zaw q) (zaE q)=q:=by
 unfold rq zaQ zaw;rw[ziR,zdn,Rat.mkRat_self]
theorem znb(neg:Bool)(d:Nat):rq neg 0 d=0:=by unfold rq;cases neg <;> simp
theorem zfh{neg:Bool}{n d:Nat}:rq neg n d=0↔n=0:=by
 unfold rq;rw[Rat.mkRat_eq_zero (zdI d)];cases neg <;> simp
@[simp] theorem zsJ:zaQ 0=false:=rfl
@[simp] theorem zbp:zaw 0=0:=rfl
@[simp] theorem zbq:zaE 0=0:=rfl
theorem zxJ(neg:Bool)(n d:Nat):rq neg n (dn d)=rq neg n d:=by unfold rq;rw[zc1 (zdI d)]
theorem zmt(neg:Bool)(n d:Nat):(rq neg n d).den=dn d/Nat.gcd n (dn d):=by
 unfold rq;rw[Rat.den_mkRat,if_neg (zdI d),zcN,Nat.gcd_comm]
theorem zwv(neg:Bool)(n d:Nat):(rq neg n d).num=sgn neg (n/Nat.gcd n (dn d)):=by
 unfold rq;rw[Rat.num_mkRat,if_neg (zdI d),zcN,Nat.gcd_comm (dn d) n];obtain⟨k,hk⟩:=Nat.gcd_dvd_left n (dn d);have hg0:0<Nat.gcd n (dn d):=Nat.gcd_pos_of_pos_right _ (zhm d);generalize Nat.gcd n (dn d)=g at *;subst hk;rw[Nat.mul_div_cancel_left _ hg0];cases neg
 .simp only[zec];rw[Int.natCast_mul,Int.mul_ediv_cancel_left _ (by omega)]
 .simp only[zdO];rw[Int.natCast_mul,<-Int.mul_neg,Int.mul_ediv_cancel_left _ (by omega)]
theorem ziU(neg:Bool)(n d:Nat):zaw (rq neg n d)=n/Nat.gcd n (dn d):=by
 unfold zaw;rw[zwv,zcN]
theorem zny(neg:Bool)(n d:Nat):zaQ (rq neg n d)=(neg&&decide (n≠0)):=by
 unfold zaQ;rw[zwv];have hp:n≠0->0<n/Nat.gcd n (dn d):=fun h=>Nat.div_pos (Nat.le_of_dvd (by omega) (Nat.gcd_dvd_left _ _)) (Nat.gcd_pos_of_pos_left _ (by omega));have h0:n=0->n/Nat.gcd n (dn d)=0:=fun h=>by rw[h,Nat.zero_div]
 generalize n/Nat.gcd n (dn d)=k at *;cases neg
 .rw[Bool.false_and];exact decide_eq_false (by rw[zec];omega)
 .rw[Bool.true_and];by_cases h:n=0
  .rw[h0 h];rw[decide_eq_false (by simp[h]:¬n≠0)];rfl
  .have:=hp h;rw[decide_eq_true (h:n≠0)];exact decide_eq_true (by rw[zdO];omega)
theorem zog(a b:Bool)(m n d e:Nat)(s:Int)(hs:s=sgn a (m*dn e)+sgn b (n*dn d)) :
  rq (decide (s<0)) s.natAbs (dn d*dn e)=rq a m d+rq b n e:=by
 have h1:rq (decide (s<0)) s.natAbs (dn d*dn e)=mkRat s (dn d*dn e):=by
  unfold rq;rw[zdn,zc1 (Nat.ne_of_gt (Nat.mul_pos (zhm d) (zhm e)))]
 rw[h1,hs];unfold rq;rw[Rat.mkRat_add_mkRat _ _ (zdI d) (zdI e)];congr 1;cases a <;> cases b <;> simp <;> grind
theorem zga(a b:Bool)(m n d e:Nat):rq (a != b) (m*n) (dn d*dn e)=rq a m d*rq b n e:=by
 unfold rq;rw[Rat.mkRat_mul_mkRat,zqY,zc1 (Nat.ne_of_gt (Nat.mul_pos (zhm d) (zhm e)))]
theorem zrm(a:Bool)(m d:Nat):rq (!a) m d = - rq a m d:=by
 unfold rq;rw[zxy,Rat.neg_mkRat]
theorem zuC{a b:Int}{d e:Nat}(hd:0<d)(he:0<e):mkRat a d<mkRat b e↔a*e<b*d:=by
 rw[Rat.mkRat_eq_div,Rat.mkRat_eq_div];have hd':(0:Rat)<((d:Int):Rat):=by
  rw[show(0:Rat)=((0:Int):Rat) from rfl];exact Rat.intCast_lt_intCast.2 (by omega)
 have he':(0:Rat)<((e:Int):Rat):=by
  rw[show(0:Rat)=((0:Int):Rat) from rfl];exact Rat.intCast_lt_intCast.2 (by omega)
 have e1:((a:Rat)/(d:Nat))=(a:Rat)/((d:Int):Rat):=rfl;have e2:((b:Rat)/(e:Nat))=(b:Rat)/((e:Int):Rat):=rfl;rw[e1,e2,Rat.div_lt_iff hd'];rw[show(b:Rat)/((e:Int):Rat)*((d:Int):Rat)=((b:Rat)*((d:Int):Rat))/((e:Int):Rat) by grind,Rat.lt_div_iff he',
  ← Rat.intCast_mul,<-Rat.intCast_mul,Rat.intCast_lt_intCast]
theorem zA5(a b:Bool)(m n d e:Nat):rq a m d<rq b n e↔sgn a m*dn e<sgn b n*dn d:=by
 unfold rq;exact zuC (zhm d) (zhm e)
theorem zA6(a b:Bool)(m n d e:Nat):rq a m d=rq b n e↔sgn a m*dn e=sgn b n*dn d:=by
 unfold rq;exact Rat.mkRat_eq_iff (zdI d) (zdI e)
def sg(q:Rat):Int:=if q<0 then -1 else if q=0 then 0 else 1
def zft(p q:Rat):Int:=if p<q then -1 else if p=q then 0 else 1
theorem zvg(p q:Rat):zft p q=sg (p-q):=by
 unfold zft sg;have h1:p<q↔p-q<0:=by grind
 have h2:p=q↔p-q=0:=by grind
 simp only[h1,h2]
def val:List Nat->Nat
 |[]=>0
 |x::xs=>x+4294967296*val xs
def Small(l:List Nat):Prop:=∀x∈l,x<4294967296
def Canon(l:List Nat):Prop:=Small l/\∀h:l≠[],l.getLast h≠0
def zaa(n:Nat):List Nat:=if h:n=0 then[] else n%4294967296::zaa (n/4294967296)
termination_by n
decreasing_by omega
@[simp] theorem zj4:val []=0:=rfl
@[simp] theorem zbG (x:Nat) (xs:List Nat):val (x::xs)=x+4294967296*val xs:=rfl
theorem Small.nil:Small []:=fun _ h=>by simp at h
theorem Small.cons{x:Nat}{l:List Nat}(hx:x<4294967296)(h:Small l):Small (x::l):=by
 intro y hy;rcases zET.1 hy with rfl|hy
 .exact hx
 .exact h y hy
theorem Small.head{x:Nat}{l:List Nat}(h:Small (x::l)):x<4294967296:=h x (by simp)
theorem Small.tail{x:Nat}{l:List Nat}(h:Small (x::l)):Small l:=fun y hy=>h y (by simp[hy])
theorem Small.append{a b:List Nat}(ha:Small a)(hb:Small b):Small (a++b):=by
 intro x hx;rcases zEK.1 hx with h|h
 .exact ha x h
 .exact hb x h
theorem Small.take{a:List Nat}(ha:Small a)(n:Nat):Small (a.take n):=fun x hx=>ha x (List.mem_of_mem_take hx)
theorem Small.drop{a:List Nat}(ha:Small a)(n:Nat):Small (a.drop n):=fun x hx=>ha x (List.mem_of_mem_drop hx)
theorem Small.get{a:List Nat}(ha:Small a)(i:Nat)(h:i<a.length):a[i]<4294967296:=ha _ (List.getElem_mem h)
theorem Small.getD{a:List Nat}(ha:Small a)(i:Nat):a.getD i 0<4294967296:=by
 by_cases h:i<a.length
 .simp[List.getD,h];exact ha.get i h
 .simp[List.getD,h]
theorem Small.set{a:List Nat}(ha:Small a)(i x:Nat)(hx:x<4294967296):Small (a.set i x):=by
 intro y hy;rcases List.mem_or_eq_of_mem_set hy with h|h
 .exact ha y h
 .omega
theorem Small.replicate(n:Nat):Small (List.replicate n 0):=by
 intro x hx;have:=(List.mem_replicate.1 hx).2;omega
theorem za4(a b:List Nat):val (a++b)=val a+4294967296^a.length*val b:=by
 induction a with
 |nil=>simp
 |cons x xs ih=>simp only[List.cons_append,zbG,ih,List.length_cons];grind
theorem zaX(n:Nat):val (List.replicate n 0)=0:=by
 induction n with
 |zero=>rfl
 |succ n ih=>simp[List.replicate_succ,ih]
theorem zbs{l:List Nat}(h:Small l):val l<4294967296^l.length:=by
 induction l with
 |nil=>simp
 |cons x xs ih=>
  have hx:=h.head;have:=ih h.tail;simp only[zbG,List.length_cons,zEI];omega
theorem zaF(l:List Nat)(i:Nat)(h:i<l.length):val (l.take (i+1))=val (l.take i)+4294967296^i*l[i]:=by
 rw[List.take_succ_eq_append_getElem h,za4];simp[zEG,Nat.min_eq_left (Nat.le_of_lt h)]
theorem zaG(l:List Nat)(i:Nat):val (l.take (i+1))=val (l.take i)+4294967296^i*l.getD i 0:=by
 by_cases h:i<l.length
 .rw[zaF l i h];simp[List.getD,h]
 .simp[List.getD,h,zEY (Nat.le_of_not_lt h),zEY (Nat.le_succ_of_le (Nat.le_of_not_lt h))]
theorem zdg(l:List Nat)(i:Nat):val l=val (l.take i)+4294967296^(min i l.length)*val (l.drop i):=by
 conv=>lhs;rw[<-List.take_append_drop i l]
 rw[za4,zEG]
theorem zah:zaa 0=[]:=by unfold zaa;simp
theorem zdv{n:Nat}(h:n≠0):zaa n=n%4294967296::zaa (n/4294967296):=by rw[zaa];simp[h]
theorem zac(n:Nat):val (zaa n)=n:=by
 induction n using Nat.strongRecOn with
 |_ n ih=>
  by_cases h:n=0
  .subst h;simp[zah]
  .rw[zdv h,zbG,ih _ (by omega)];omega
theorem zab(n:Nat):Small (zaa n):=by
 induction n using Nat.strongRecOn with
 |_ n ih=>
  by_cases h:n=0
  .subst h;simp[zah];exact Small.nil
  .rw[zdv h];exact Small.cons (by omega) (ih _ (by omega))
theorem za2{n:Nat}:zaa n=[]↔n=0:=by
 constructor
 .intro h;have:=zac n;rw[h] at this;simp at this;omega
 .rintro rfl;exact zah
theorem zcS(n:Nat):Canon (zaa n):=by
 refine⟨zab n,?_⟩
 induction n using Nat.strongRecOn with
 |_ n ih=>
  intro h;have hn:n≠0:=fun e=>h (za2.2 e);simp only[zdv hn];by_cases h2:n/4294967296=0
  .simp only[h2,zah];simp;omega
  .have h3:zaa (n/4294967296)≠[]:=fun e=>h2 (za2.1 e);rw[List.getLast_cons h3];exact ih _ (by omega) h3
theorem Canon.tail{x:Nat}{l:List Nat}(h:Canon (x::l)):Canon l:=
 ⟨h.1.tail,fun hl=>by have:=h.2 (by simp);rwa [List.getLast_cons hl] at this⟩
theorem zgo{l:List Nat}(h:Canon l):zaa (val l)=l:=by
 induction l with
 |nil=>exact zah
 |cons x xs ih=>
  have hx:=h.1.head;have hne:val (x::xs)≠0:=by
   intro e;simp only[zbG] at e;have h0:val xs=0:=by omega
   have:xs=[]:=by rw[<-ih h.tail,h0,zah]
   subst this;exact h.2 (by simp) (by simp;omega)
  rw[zdv hne];have e1:val (x::xs)%4294967296=x:=by simp only[zbG];omega
  have e2:val (x::xs)/4294967296=val xs:=by simp only[zbG];omega
  rw[e1,e2,ih h.tail]
theorem Canon.eq{l:List Nat}(h:Canon l):l=zaa (val l):=(zgo h).symm
theorem zag{n k:Nat}:(zaa n).length<=k↔n<4294967296^k:=by
 constructor
 .intro h;have h1:=zbs (zab n);rw[zac] at h1;exact zEy h1 (zEC (by omega) h)
 .intro h
  induction k generalizing n with
  |zero=>simp at h;subst h;simp[zah]
  |succ k ih=>
   by_cases hn:n=0
   .subst hn;simp[zah]
   .rw[zdv hn];simp only[List.length_cons];have:=ih (n:=n/4294967296) (by rw[zEI] at h;omega);omega
theorem zt2{l:List Nat}(n:Nat)(h:∀i (hi:i<l.length),n<=i->l[i]=0):val (l.take n)=val l:=by
 rw[zdg l n];have:val (l.drop n)=0:=by
  have e:l.drop n=List.replicate (l.length-n) 0:=by
   apply List.ext_getElem
   .simp
   .intro i h1 h2;simp at h1;simp;exact h _ _ (by omega)
  rw[e,zaX]
 rw[this];simp
theorem zfm{l:List Nat}(hs:Small l)(n:Nat)(hn:n<=l.length)(h:∀i (hi:i<l.length),n<=i->l[i]=0)
  (hl:∀h0:0<n,l[n-1]≠0):l.take n=zaa (val l):=by
 have hc:Canon (l.take n):=by
  refine⟨hs.take n,fun he=>?_⟩;have h0:0<n:=by
   rcases Nat.eq_zero_or_pos n with h0|h0
   .subst h0;simp at he
   .exact h0
  have h1:=hl h0;rw[List.getLast_eq_getElem];simp only[List.getElem_take,zEG];simpa[Nat.min_eq_left hn] using h1
 rw[hc.eq,zt2 n h]
def zgM(a b:Nat):Int:=if a<b then -1 else if a=b then 0 else 1
theorem zdc{a b:Nat}(h:a<b):zgM a b = -1:=by simp[zgM,h]
theorem zkP{a b:Nat}(h:b<a):zgM a b=1:=by
 unfold zgM;rw[if_neg (by omega),if_neg (by omega)]
theorem zsN{a b:Nat}(h:a=b):zgM a b=0:=by subst h;simp[zgM]
theorem zaC{x y:Nat}(h:x<=y):(zaa x).length<=(zaa y).length:=
 zag.2 (zEQ h (zag.1 (zEt _)))
theorem zhl{x y:Nat}(h:(zaa x).length<(zaa y).length):x<y:=by
 rcases Nat.lt_or_ge x y with h1|h1
 .exact h1
 .have:=zaC h1;omega
theorem zam{l:List Nat}(hs:Small l):(zaa (val l)).length<=l.length:=zag.2 (zbs hs)
theorem zd8(l:List Nat)(n:Nat)(h:n<l.length):val l=val (l.take n)+4294967296^n*(l[n]+4294967296*val (l.drop (n+1))):=by
 have h1:=zdg l n;rw[Nat.min_eq_left (Nat.le_of_lt h),zEW h,zbG] at h1;exact h1
theorem zw3{a b:List Nat}{n:Nat}(ha:Small a)(hn:n<a.length)(hn':n<b.length)(h:a.drop (n+1)=b.drop (n+1))(hlt:a[n]<b[n]):val a<val b:=by
 rw[zd8 a n hn,zd8 b n hn',h];have h1:=zbs (ha.take n);rw[zEG,Nat.min_eq_left (Nat.le_of_lt hn)] at h1;generalize val (b.drop (n+1))=d;have h2:4294967296^n*(a[n]+4294967296*d+1)<=4294967296^n*(b[n]+4294967296*d):=zEX _ (by omega);rw[Nat.mul_add,Nat.mul_one] at h2;omega
theorem zmp{a b:List Nat}{n:Nat}(hn:n<a.length)(hn':n<b.length)(h:a.drop (n+1)=b.drop (n+1))(he:a[n]=b[n]):a.drop n=b.drop n:=by
 rw[zEW hn,zEW hn',h,he]
theorem zbk(out:List Nat)(k x:Nat)(h:k<out.length):val ((out.set k x).take (k+1))=val (out.take k)+4294967296^k*x:=by
 rw[zaF _ _ (by simpa using h),List.take_set_of_le (zEt k),List.getElem_set_self]
theorem zan(l:List Nat)(k:Nat)(h:l.length<=k):val (l.take k)=val l:=by rw[zEY h]
theorem zcb{l:List Nat}{k:Nat}(h:k<l.length):l.getD k 0=l[k]:=by simp[List.getD,h]
theorem zdV{l:List Nat}{k:Nat}(h:l.length<=k):l.getD k 0=0:=by simp[List.getD,h]
theorem zgH{a b out:List Nat}{k c s:Nat}(hk:k<a.length)(hl:k<out.length)(h:val (out.take k)+c*4294967296^k=val (a.take k)+val (b.take k))(hs:s=c+a[k]+b.getD k 0) :
  val ((out.set k (s%4294967296)).take (k+1))+(s/4294967296)*4294967296^(k+1)=val (a.take (k+1))+val (b.take (k+1)):=by
 rw[zbk out k _ hl,zaF a k hk,zaG b k,zEI];have e:4294967296^k*s=4294967296^k*(s%4294967296)+s/4294967296*(4294967296^k*4294967296):=by
  conv=>lhs;rw[<-Nat.mod_add_div s 4294967296]
  grind
 rw[hs] at e;rw[hs];have e2:4294967296^k*(c+a[k]+b.getD k 0)=c*4294967296^k+4294967296^k*a[k]+4294967296^k*b.getD k 0:=by grind
 omega
theorem zn4{a b out:List Nat}{k c x:Nat}(hk:k<a.length)(hl:k<out.length)(ha:Small a)(hb:Small b)(hc:c<=1)
  (h:val (out.take k)+val (b.take k)=val (a.take k)+c*4294967296^k) (hx:x=(18446744073709551616+a[k]-c-b.getD k 0)%18446744073709551616) :
  val ((out.set k (x%4294967296)).take (k+1))+val (b.take (k+1))=val (a.take (k+1))+(x/9223372036854775808)*4294967296^(k+1):=by
 rw[zbk out k _ hl,zaF a k hk,zaG b k,zEI];have h1:=ha.get k hk;have h2:=hb.getD k;generalize a[k]=p at *;generalize b.getD k 0=q at *;have e:x%4294967296+q+c=p+(x/9223372036854775808)*4294967296:=by omega
 have e2:4294967296^k*(x%4294967296+q+c)=4294967296^k*(p+(x/9223372036854775808)*4294967296):=by rw[e]
 have e3:4294967296^k*(x%4294967296+q+c)=4294967296^k*(x%4294967296)+4294967296^k*q+c*4294967296^k:=by grind
 have e4:4294967296^k*(p+(x/9223372036854775808)*4294967296)=4294967296^k*p+(x/9223372036854775808)*(4294967296^k*4294967296):=by grind
 omega
theorem zj3(l:List Nat)(i x:Nat)(h:i<l.length):val (l.set i x)+4294967296^i*l[i]=val l+4294967296^i*x:=by
 rw[zd8 l i h,zd8 (l.set i x) i (by simpa using h)];rw[List.take_set_of_le (zEt i),List.getElem_set_self,List.drop_set_of_lt (by omega)];grind
theorem zuA{b out:List Nat}{i k c x:Nat}(hk:k<b.length)(hl:i+k<out.length)(base:Nat)(h:val out+c*4294967296^(i+k)=base+4294967296^i*(x*val (b.take k))) :
  val (out.set (i+k) ((c+(x*b[k]+out[i+k]))%4294967296))+((c+(x*b[k]+out[i+k]))/4294967296)*4294967296^(i+(k+1))=base+4294967296^i*(x*val (b.take (k+1))):=by
 have h1:=zj3 out (i+k) ((c+(x*b[k]+out[i+k]))%4294967296) hl;rw[zaF b k hk,show i+(k+1)=(i+k)+1 from rfl,zEI];generalize hs:c+(x*b[k]+out[i+k])=s at *;have e1:4294967296^(i+k)*s=4294967296^(i+k)*(s%4294967296)+s/4294967296*(4294967296^(i+k)*4294967296):=by
  conv=>lhs;rw[<-Nat.mod_add_div s 4294967296]
  grind
 have e2:4294967296^(i+k)*s=c*4294967296^(i+k)+4294967296^i*(x*(4294967296^k*b[k]))+4294967296^(i+k)*out[i+k]:=by
  rw[<-hs,zEJ];grind
 have e3:4294967296^i*(x*(val (b.take k)+4294967296^k*b[k]))=4294967296^i*(x*val (b.take k))+4294967296^i*(x*(4294967296^k*b[k])):=by grind
 omega
theorem zl9{c x y o:Nat}(hc:c<4294967296)(hx:x<4294967296)(hy:y<4294967296)(ho:o<4294967296):c+(x*y+o)<18446744073709551616/\(c+(x*y+o))/4294967296<4294967296/\x*y<=18446744065119617025:=by
 have h1:x*y<=4294967295*4294967295:=Nat.mul_le_mul (by omega) (by omega);omega
end Rc
namespace Rc
def bl(n:Nat):Nat:=if n=0 then 0 else Nat.log2 n+1
theorem zhF(n:Nat):n<2^bl n:=by
 unfold bl;split
 .rename_i h;subst h;simp
 .exact Nat.lt_log2_self
theorem zmG{n:Nat}(h:n≠0):2^(bl n-1)<=n:=by
 unfold bl;rw[if_neg h];simpa using Nat.log2_self_le h
theorem zi1{n k:Nat}(h1:n<2^k)(h2:0<k->2^(k-1)<=n):bl n=k:=by
 by_cases h0:n=0
 .subst h0;rcases Nat.eq_zero_or_pos k with hk|hk
  .subst hk;rfl
  .have:=h2 hk;have:=Nat.pow_pos (n:=k-1) (show 0<2 from by omega);omega
 .have hk:0<k:=by
   rcases Nat.eq_zero_or_pos k with hk|hk
   .subst hk;simp at h1;omega
   .exact hk
  unfold bl;rw[if_neg h0,(Nat.log2_eq_iff h0).2 ⟨h2 hk,by rw[show k-1+1=k from by omega];exact h1⟩];omega
theorem ztd:bl 0=0:=rfl
theorem zmF{n:Nat}(h:n≠0):0<bl n:=by unfold bl;rw[if_neg h];omega
theorem zjV{n k:Nat}(h:2^k<=n):bl n=bl (n/2^k)+k:=by
 have hp:0<2^k:=Nat.pow_pos (by omega);have hq:n/2^k≠0:=Nat.ne_of_gt (Nat.div_pos h hp);apply zi1
 .have:=zhF (n/2^k);rw[zEJ]
  rwa [Nat.div_lt_iff_lt_mul hp] at this
 .intro _;have:=zmG hq;have h3:=zmF hq;rw[show bl (n/2^k)+k-1=(bl (n/2^k)-1)+k from by omega,zEJ]
  rwa [Nat.le_div_iff_mul_le hp] at this
theorem zaA{n k:Nat}(h:n<2^k):bl n<=k:=by
 rcases Nat.lt_or_ge k (bl n) with h1|h1
 .exfalso;have h0:n≠0:=by intro e;subst e;simp[bl] at h1
  have:=zmG h0;have h2:2^k<=2^(bl n-1):=zEC (by omega) (by omega);omega
 .exact h1
theorem zql{lo hi k:Nat}(h:lo<2^k)(hh:hi≠0):bl (lo+2^k*hi)=k+bl hi:=by
 have hp:0<2^k:=Nat.pow_pos (by omega);have e:(lo+2^k*hi)/2^k=hi:=by
  rw[Nat.add_mul_div_left _ _ hp,Nat.div_eq_of_lt h,Nat.zero_add]
 have h1:2^k<=lo+2^k*hi:=by
  have:2^k*1<=2^k*hi:=zEX _ (by omega);omega
 rw[zjV h1,e,Nat.add_comm]
theorem zdh(k:Nat):4294967296^k=2^(32*k):=by rw[Nat.pow_mul]
theorem zh2{l:List Nat}(hc:Canon l)(h:0<l.length):bl (val l)=32*(l.length-1)+bl (l[l.length-1]'(by omega)):=by
 have h1:=zd8 l (l.length-1) (by omega);have h2:l.drop (l.length-1+1)=[]:=List.drop_of_length_le (by omega);rw[h2] at h1;simp only[zj4,Nat.mul_zero,Nat.add_zero] at h1;have h3:=zbs (hc.1.take (l.length-1));rw[zEG,Nat.min_eq_left (by omega),zdh] at h3;rw[h1,zdh];refine zql h3 ?_;have:=hc.2 (by intro e;rw[e] at h;simp at h)
 rwa [List.getLast_eq_getElem] at this
theorem zr5{a out:List Nat}{i k:Nat}(hi:i<a.length)(hl:i+1<out.length)(h:val (out.take (i+1))=val (a.take i)*2^k)(x:Nat)(hx:x=a[i]*2^k) :
  val (((out.set i (out[i]+x%4294967296)).set (i+1) (x/4294967296)).take (i+1+1))=val (a.take (i+1))*2^k:=by
 rw[zbk _ (i+1) _ (by simpa using hl)];rw[zbk out i _ (by omega)];rw[zaF out i (by omega)] at h;rw[zaF a i hi,Nat.add_mul,<-h,zEI];have e:4294967296^i*x=4294967296^i*(x%4294967296)+4294967296^i*4294967296*(x/4294967296):=by
  conv=>lhs;rw[<-Nat.mod_add_div x 4294967296]
  grind
 have e2:4294967296^i*a[i]*2^k=4294967296^i*x:=by rw[hx];grind
 have e3:4294967296^i*(out[i]+x%4294967296)=4294967296^i*out[i]+4294967296^i*(x%4294967296):=by grind
 omega
theorem zb1(l:List Nat)(hs:Small l)(i:Nat):val l/4294967296^i=val (l.drop i):=by
 have hp:0<4294967296^i:=Nat.pow_pos (by omega);by_cases hi:i<=l.length
 .have h1:=zdg l i;have h2:=zbs (hs.take i);rw[zEG,Nat.min_eq_left hi] at h2;rw[Nat.min_eq_left hi] at h1;rw[h1,Nat.add_mul_div_left _ _ hp,Nat.div_eq_of_lt h2,Nat.zero_add]
 .have h1:=zbs hs;have h2:4294967296^l.length<=4294967296^i:=zEC (by omega) (by omega);rw[List.drop_of_length_le (by omega),Nat.div_eq_of_lt (by omega)];rfl
theorem zj9{a out:List Nat}{i s:Nat}(ha:Small a)(hi:i<a.length)(hl:i<out.length)(hs:s<32)(h:val (out.take i)=val a/2^s%4294967296^i)(x:Nat)(hx:x=a[i]+4294967296*a.getD (i+1) 0) :
  val ((out.set i (x/2^s%4294967296)).take (i+1))=val a/2^s%4294967296^(i+1):=by
 rw[zbk out i _ hl,h,zEI,Nat.mod_mul,Nat.div_div_eq_div_mul,zEU (2^s),<-Nat.div_div_eq_div_mul,zb1 a ha i];congr 2;rw[zEW hi,zbG];have e:val (a.drop (i+1))=a.getD (i+1) 0+4294967296*val (a.drop (i+2)):=by
  by_cases h2:i+1<a.length
  .rw[zEW h2,zbG,zcb h2]
  .rw[List.drop_of_length_le (by omega),List.drop_of_length_le (by omega),zdV (by omega)];rfl
 rw[e,hx];have e2:(4294967296:Nat)=2^s*2^(32-s):=by rw[<-zEJ,show s+(32-s)=32 from by omega]
 have e3:a[i]+4294967296*(a.getD (i+1) 0+4294967296*val (a.drop (i+2)))=(a[i]+4294967296*a.getD (i+1) 0)+2^s*(4294967296*(2^(32-s)*val (a.drop (i+2)))):=by
  have:4294967296*(4294967296*val (a.drop (i+2)))=2^s*(4294967296*(2^(32-s)*val (a.drop (i+2)))):=by
   conv=>lhs;lhs;rw[e2]
   grind
  grind
 rw[e3,Nat.add_mul_div_left _ _ (Nat.pow_pos (by omega)),Nat.add_mul_mod_self_left]
theorem zpA{a out:List Nat}{n d r:Nat}(hn:0<n)(hna:n<=a.length)(hnl:n<=out.length)(h:val (a.drop n)=val (out.drop n)*d+r)(t:Nat)(ht:t=r*4294967296+a[n-1]'(by omega)) :
  val (a.drop (n-1))=val ((out.set (n-1) (t/d)).drop (n-1))*d+t%d:=by
 rw[zEW (show n-1<a.length from by omega),zEW (show n-1<(out.set (n-1) (t/d)).length from by simp;omega)];rw[List.getElem_set_self,List.drop_set_of_lt (by omega),show n-1+1=n from by omega];simp only[zbG];rw[h];have:=Nat.div_add_mod t d;grind
end Rc
namespace Rc
def zhh(n x:Nat):List Nat:=(List.range n).map fun i=>x/4294967296^i%4294967296
theorem zcm(n x:Nat):(zhh n x).length=n:=by simp[zhh]
theorem znf{l:List Nat}(hs:Small l):l=zhh l.length (val l):=by
 apply List.ext_getElem
 .simp[zhh]
 .intro i h1 h2;simp only[zhh,List.getElem_map,List.getElem_range];rw[zb1 l hs i,zEW h1,zbG];have:=hs.get i h1;omega
theorem zkk{l:List Nat}{n x:Nat}(hs:Small l)(hl:l.length=n)(hv:val l=x):l=zhh n x:=by subst hl;subst hv;exact znf hs
theorem zea(n x:Nat):Small (zhh n x):=by
 intro y hy;simp only[zhh,List.mem_map] at hy;obtain⟨i,_,rfl⟩:=hy;omega
theorem zf2{n x:Nat}(h:x<4294967296^n):val (zhh n x)=x:=by
 have e:zhh n x=zaa x++List.replicate (n-(zaa x).length) 0:=by
  refine(zkk ((zab x).append (Small.replicate _)) ?_ ?_).symm
  .have:=zag.2 h;simp;omega
  .rw[za4,zaX,zac];simp
 rw[e,za4,zaX,zac];simp
theorem zx8{o d k:Nat}(hk:k<32)(ho:o<2^k):(d*2^k%4294967296)%2^k=0/\d*2^k%4294967296+o<4294967296:=by
 have e:(4294967296:Nat)=2^(32-k)*2^k:=by rw[<-zEJ,show 32-k+k=32 from by omega]
 have h1:d*2^k%4294967296=(d%2^(32-k))*2^k:=by rw[e,Nat.mul_mod_mul_right]
 have hp:0<2^(32-k):=Nat.pow_pos (by omega);have h2:d%2^(32-k)<2^(32-k):=Nat.mod_lt _ hp;rw[h1];refine⟨Nat.mul_mod_left _ _,?_⟩;rw[e];generalize 2^(32-k)=m at *;generalize 2^k=p at *;have:(d%m+1)*p<=m*p:=zEA _ h2;rw[Nat.add_mul,Nat.one_mul] at this;omega
theorem zpU{d k:Nat}(hk:k<32)(hd:d<4294967296):d*2^k<18446744073709551616/\d*2^k/4294967296<2^k/\(2:Nat)^k<=2147483648:=by
 have h1:(2:Nat)^k<=2^31:=zEC (by omega) (by omega);have hp:0<(2:Nat)^k:=Nat.pow_pos (by omega);have h2:d*2^k<=4294967295*2^k:=zEA _ (by omega);refine⟨by omega,?_,by omega⟩;rw[Nat.div_lt_iff_lt_mul (by omega)];omega
theorem zet(x k:Nat):x/4294967296^(k/32)/2^(k%32)=x/2^k:=by
 rw[zdh,Nat.div_div_eq_div_mul,<-zEJ,Nat.div_add_mod]
end Rc
namespace Rc
open Go
theorem zom{a b:Nat}(i:Nat)(ha:a%2^i=0)(hb:b<2^i):a ||| b=a+b:=by
 have h:a=(a/2^i) <<< i:=by
  rw[Nat.shiftLeft_eq];have:=Nat.div_add_mod a (2^i);rw[ha,Nat.add_zero] at this;rw[zEU];exact this.symm
 rw[h,<-Nat.shiftLeft_add_eq_or_of_lt hb]
theorem zbT(w n:Nat)(h:n<2^w):(BitVec.ofInt w (n:Int)).toNat=n:=by
 rw[show(BitVec.ofInt w (n:Int))=BitVec.ofNat w n from by
  apply BitVec.eq_of_toNat_eq;rw[BitVec.toNat_ofInt,BitVec.toNat_ofNat];have:((n:Int)%((2^w:Nat):Int))=((n%2^w:Nat):Int):=by rw[Int.natCast_emod]
  rw[this];rfl]
 rw[BitVec.toNat_ofNat,Nat.mod_eq_of_lt h]
theorem zco{n:Nat}(h:n<18446744073709551616):IntKind.u64.wrap (n:Int)=n:=zdG (by omega)
theorem zb0{n:Nat}(h:n<4294967296):IntKind.u32.wrap (n:Int)=n:=zxh (by omega)
theorem or64{a b:Nat}(i:Nat)(ha:a%2^i=0)(hb:b<2^i)(h:a+b<18446744073709551616) :
  IntKind.u64.wrap ((BitVec.ofInt IntKind.u64.bits (a:Int) ||| BitVec.ofInt IntKind.u64.bits (b:Int)).toNat)=((a+b:Nat):Int):=by
 rw[BitVec.toNat_or,zbT _ a (by simp only[IntKind.bits];omega),zbT _ b (by simp only[IntKind.bits];omega),zom i ha hb];exact zco h
theorem zrK{a b:Nat}(i:Nat)(ha:a%2^i=0)(hb:b<2^i)(h:a+b<18446744073709551616) :
  IntKind.u64.wrap ((BitVec.ofInt IntKind.u64.bits (b:Int) ||| BitVec.ofInt IntKind.u64.bits (a:Int)).toNat)=((b+a:Nat):Int):=by
 rw[BitVec.toNat_or,zbT _ a (by simp only[IntKind.bits];omega),zbT _ b (by simp only[IntKind.bits];omega),Nat.or_comm,zom i ha hb,Nat.add_comm b a];exact zco h
theorem or32'{a b:Nat}(i:Nat)(ha:a%2^i=0)(hb:b<2^i)(h:a+b<4294967296) :
  IntKind.u32.wrap ((BitVec.ofInt IntKind.u32.bits (b:Int) ||| BitVec.ofInt IntKind.u32.bits (a:Int)).toNat)=((b+a:Nat):Int):=by
 rw[BitVec.toNat_or,zbT _ a (by simp only[IntKind.bits];omega),zbT _ b (by simp only[IntKind.bits];omega),Nat.or_comm,zom i ha hb,Nat.add_comm b a];exact zb0 h
theorem zka{c:Int}(x c':Nat)(hc:min c.toNat IntKind.u64.bits=c')(h:x*2^c'<18446744073709551616):IntKind.u64.wrap ((x:Int)*2^(min c.toNat IntKind.u64.bits))=((x*2^c':Nat):Int):=by
 rw[hc,show((x:Int)*2^c')=((x*2^c':Nat):Int) from by rw[Int.natCast_mul,Int.natCast_pow];rfl];exact zco h
theorem zeh{c:Nat}(h:c<=64):min ((c:Int)).toNat IntKind.u64.bits=c:=by simp only[IntKind.bits];omega
theorem wu8{x r:Int}(h:x%256=r):IntKind.u8.wrap x=r:=by
 subst h;simp[IntKind.wrap,IntKind.bits,IntKind.signed]
theorem zf3(a b:Nat):((a:Int)).tdiv (b:Int)=((a/b:Nat):Int):=by rw[Int.tdiv_eq_ediv_of_nonneg (by omega)];rfl
theorem zd2(a b:Nat):((a:Int)).tmod (b:Int)=((a%b:Nat):Int):=by rw[Int.tmod_eq_emod_of_nonneg (by omega)];rfl
theorem getElem?_bytes(s:ByteArray)(j:Nat):s[j]?=s.data.toList[j]?:=by
 by_cases h:j<s.size
 .rw[getElem?_pos s j h];have h':j<s.data.toList.length:=by simpa using h
  rw[zEp h'];rfl
 .rw[getElem?_neg s j h,List.getElem?_eq_none (by simpa using h)]
theorem zhS{s:ByteArray}(hs:s.data.toList=(List.range 256).map fun i=>UInt8.ofNat (bl i)){x:Nat}(hx:x<256):s[x]?=some (UInt8.ofNat (bl x)):=by
 rw[getElem?_bytes,hs];simp[hx]
theorem zhR{x:Nat}(hx:x<256):((UInt8.ofNat (bl x)).toNat:Int)=(bl x:Int):=by
 have:=zaA (n:=x) (k:=8) hx;rw[UInt8.toNat_ofNat_of_lt' (by simp[UInt8.size];omega)]
end Rc
namespace Rc
open Go Go.RowKit
set_option maxRecDepth 10000
def est(top s2 v1 v2:Nat):Nat:=
 if top<4294967296 then min ((top*4294967296+s2)/(v1*4294967296+v2)) 4294967295
 else max (min ((top*4294967296+s2)/(v1*4294967296+v2)) 4294967295) ((top-4294967296)/v1)
theorem zDo{A r s2 b:Nat}(h:r*4294967296+s2<b):(A+r)*4294967296+s2<A*4294967296+b:=by
 rw[Nat.add_mul,Nat.add_assoc];exact Nat.add_lt_add_left h _
theorem zDn{a W T p:Nat}(h:a+W<=T)(hp:p<=W):a+p<=T:=zEz (Nat.add_le_add_left hp _) h
theorem zsv{top s2 v1 v2 q r:Nat}(h1:0<v1)(hq:q<4294967296)(h:q*v2<=r*4294967296+s2)(ht:q*v1+r=top):q<=est top s2 v1 v2:=by
 have hW:q<=(top*4294967296+s2)/(v1*4294967296+v2):=by
  rw[Nat.le_div_iff_mul_le (by omega)];subst ht;have:q*(v1*4294967296+v2)=q*v1*4294967296+q*v2:=by grind
  rw[this];omega
 have hm:q<=min ((top*4294967296+s2)/(v1*4294967296+v2)) 4294967295:=Nat.le_min.2 ⟨hW,by omega⟩;unfold est;split
 .exact hm
 .exact zEz hm (Nat.le_max_left _ _)
theorem zmo{top s2 v1 v2 q r:Nat}(h1:0<v1)(hr:4294967296<=r)(ht:q*v1+r=top):q<=est top s2 v1 v2:=by
 have hm:q<=(top-4294967296)/v1:=by
  rw[Nat.le_div_iff_mul_le h1];omega
 unfold est;rw[if_neg (by omega)];exact zEz hm (Nat.le_max_right _ _)
theorem zwP{top s2 v1 v2 q r:Nat}(h1:0<v1)(hr:r<4294967296)(ht:q*v1+r=top)(h:4294967296<=q\/r*4294967296+s2<q*v2):est top s2 v1 v2<q:=by
 have hm:min ((top*4294967296+s2)/(v1*4294967296+v2)) 4294967295<q:=by
  rcases h with h|h
  .exact zEQ (Nat.min_le_right _ _) (zEy (Nat.lt_succ_self 4294967295) h)
  .refine zEQ (Nat.min_le_left _ _) ?_;rw[Nat.div_lt_iff_lt_mul (by omega)];subst ht;have:q*(v1*4294967296+v2)=q*v1*4294967296+q*v2:=by grind
   rw[this];exact zDo h
 unfold est;split
 .exact hm
 .refine Nat.max_lt.2 ⟨hm,?_⟩;rw[Nat.div_lt_iff_lt_mul h1];omega
theorem zDm{top s2 v1 v2:Nat}(h1:0<v1)(h2:s2<4294967296):est top s2 v1 v2<=top/v1:=by
 have hm:min ((top*4294967296+s2)/(v1*4294967296+v2)) 4294967295<=top/v1:=by
  refine zEz (Nat.min_le_left _ _) ?_;rw[Nat.le_div_iff_mul_le h1];have hd:=Nat.div_mul_le_self (top*4294967296+s2) (v1*4294967296+v2);generalize (top*4294967296+s2)/(v1*4294967296+v2)=q at *;have:q*(v1*4294967296+v2)=q*v1*4294967296+q*v2:=by grind
  rw[this] at hd;omega
 unfold est;split
 .exact hm
 .exact Nat.max_le.2 ⟨hm,Nat.div_le_div_right (by omega)⟩
theorem zp8{top s2 v1 v2 lo lov e S V:Nat}(he:0<e)(hv1:2147483648<=v1)(hv1':v1<4294967296)(hv2:v2<4294967296)(hs2:s2<4294967296)(hlo:lo<e)(hlov:lov<e)
  (hS:S=lo+e*(top*4294967296+s2)) (hV:V=lov+e*(v1*4294967296+v2)) (hSV:S<V*4294967296) :
  S/V<=est top s2 v1 v2/\est top s2 v1 v2<=S/V+1:=by
 have hVpos:0<V:=by
  rw[hV];have:0<e*(v1*4294967296+v2):=Nat.mul_pos he (by omega);omega
 have hqB:S/V<4294967296:=by rw[Nat.div_lt_iff_lt_mul hVpos,zEU];exact hSV
 have htop:top<(v1+1)*4294967296:=by
  have h1:e*(top*4294967296)<e*((v1*4294967296+v2+1)*4294967296):=by
   have h2:e*(top*4294967296)<=S:=by rw[hS,Nat.mul_add];omega
   have h3:V<=e*(v1*4294967296+v2+1):=by rw[hV,Nat.mul_add e _ 1,Nat.mul_one];omega
   have h4:V*4294967296<=e*(v1*4294967296+v2+1)*4294967296:=zEA _ h3;rw[Nat.mul_assoc] at h4;omega
  have:=Nat.lt_of_mul_lt_mul_left h1;omega
 constructor
 .have hd:=Nat.div_mul_le_self S V;have hm:S/V<=min ((top*4294967296+s2)/(v1*4294967296+v2)) 4294967295:=by
   refine Nat.le_min.2 ⟨?_,by omega⟩;rw[Nat.le_div_iff_mul_le (by omega)];have h1:e*(S/V*(v1*4294967296+v2))<e*(top*4294967296+s2+1):=by
    have h2:S/V*(e*(v1*4294967296+v2))<=S/V*V:=zEX _ (by rw[hV];omega);have h3:e*(S/V*(v1*4294967296+v2))=S/V*(e*(v1*4294967296+v2)):=by grind
    rw[Nat.mul_add e _ 1,Nat.mul_one,h3];omega
   have:=Nat.lt_of_mul_lt_mul_left h1;omega
  unfold est;split
  .exact hm
  .exact zEz hm (Nat.le_max_left _ _)
 ·
  have hqW:∀q,q<=est top s2 v1 v2->q<=4294967296/\q*(v1*4294967296+v2)<=top*4294967296+s2\/q<=4294967295/\q*(v1*4294967296+v2)<=top*4294967296+s2:=by
   intro q hq;have hleft:q<=min ((top*4294967296+s2)/(v1*4294967296+v2)) 4294967295->q<=4294967295/\q*(v1*4294967296+v2)<=top*4294967296+s2:=by
    intro h;obtain⟨h1,h2⟩:=Nat.le_min.1 h;exact⟨h2,(Nat.le_div_iff_mul_le (by omega)).1 h1⟩
   unfold est at hq;split at hq
   .exact .inr (hleft hq)
   .by_cases hc:q<=min ((top*4294967296+s2)/(v1*4294967296+v2)) 4294967295
    .exact .inr (hleft hc)
    .have h2:q<=(top-4294967296)/v1:=by
      rcases Nat.le_total (min ((top*4294967296+s2)/(v1*4294967296+v2)) 4294967295) ((top-4294967296)/v1) with h|h
      .rwa [Nat.max_eq_right h] at hq
      .rw[Nat.max_eq_left h] at hq;exact absurd hq hc
     have h3:q*v1<=top-4294967296:=(Nat.le_div_iff_mul_le (by omega)).1 h2;have h4:q<=4294967296:=by
      apply Classical.byContradiction;intro hn;have:4294967297*v1<=q*v1:=zEA _ (by omega);omega
     refine .inl ⟨h4,?_⟩;have h5:q*v2<=4294967296*4294967295:=Nat.mul_le_mul h4 (by omega);have:q*(v1*4294967296+v2)=q*v1*4294967296+q*v2:=by grind
     rw[this];omega
  have hq:=hqW _ (zEt _);generalize est top s2 v1 v2=q at *;have hq':q<=4294967296/\q*(v1*4294967296+v2)<=top*4294967296+s2:=by rcases hq with h|h <;> exact⟨by omega,h.2⟩
  obtain⟨hqB',hqW'⟩:=hq';rcases Nat.eq_zero_or_pos q with h0|h0
  .rw[h0];exact zEv _
  .have:q-1<=S/V:=by
    rw[Nat.le_div_iff_mul_le hVpos];obtain⟨p,rfl⟩:∃p,q=p+1:=⟨q-1,by omega⟩;simp only[Nat.add_sub_cancel];have h3:V<=e*(v1*4294967296+v2+1):=by rw[hV,Nat.mul_add e _ 1,Nat.mul_one];omega
    have h4:p*V<=p*(e*(v1*4294967296+v2+1)):=zEX _ h3;have h5:p*(e*(v1*4294967296+v2+1))=e*(p*(v1*4294967296+v2)+p):=by grind
    have h6:p*(v1*4294967296+v2)+p<=top*4294967296+s2:=by
     rw[Nat.add_mul,Nat.one_mul] at hqW';have hW:p<=v1*4294967296+v2:=by omega
     exact zDn hqW' hW
    have h7:=zEX e h6;rw[hS];omega
   generalize S/V=z at *;omega
theorem get_part{pre s post:List Nat}{j i:Nat}(hj:j=pre.length+i)(h:i<s.length):((pre++s++post).map zbf)[j]?=some (zbf s[i]):=by
 subst hj;rw[List.getElem?_map,zEx (by simp;omega),List.getElem?_append_right (by omega)];simp[h]
theorem zes{pre s post:List Nat}{j i x:Nat}(hj:j=pre.length+i)(h:i<s.length):splice ((pre++s++post).map zbf) j [zbf x]=(pre++s.set i x++post).map zbf:=by
 subst hj;rw[zaJ (by simp;omega),List.set_append_left _ _ (by simp;omega),List.set_append_right _ _ (by omega)];simp
theorem zuq{s0 s v:List Nat}{i c b q:Nat}(hi:i<s.length)(hi0:i<s0.length)(hv:i<v.length)(h:val (s.take i)+q*val (v.take i)=val (s0.take i)+(c+b)*4294967296^i)
  (hsi:s.drop i=s0.drop i) (x b' t:Nat) (ht:t=c+q*v[i]) (hx:x+t%4294967296+b=s[i]+4294967296*b') :
  val ((s.set i x).take (i+1))+q*val (v.take (i+1))=val (s0.take (i+1))+(t/4294967296+b')*4294967296^(i+1):=by
 rw[zbk _ _ _ hi,zaF v i hv,zaF s0 i hi0];have he:s0[i]=s[i]:=by
  have:=congrArg (fun l=>l[0]?) hsi;simp only[List.getElem?_drop,Nat.add_zero] at this;rw[zEp hi,zEp hi0] at this;simpa using this.symm
 rw[he,zEI];have hd:=Nat.div_add_mod t 4294967296;generalize t/4294967296=T at *;generalize t%4294967296=m at *;generalize 4294967296^i=p at *;generalize val (s.take i)=A at *;generalize val (v.take i)=Bv at *;generalize val (s0.take i)=C at *;have e1:p*x+p*m+p*b=p*s[i]+p*(4294967296*b'):=by rw[<-Nat.mul_add,<-Nat.mul_add,<-Nat.mul_add,hx]
 have e2:p*(4294967296*T)+p*m=p*c+p*(q*v[i]):=by rw[<-Nat.mul_add,hd,ht,Nat.mul_add]
 grind
theorem zoj{s0 s:List Nat}{i x:Nat}(h:s.drop i=s0.drop i):(s.set i x).drop (i+1)=s0.drop (i+1):=by
 rw[List.drop_set_of_lt (by omega)];have:=congrArg (List.drop 1) h;simpa[List.drop_drop,Nat.add_comm] using this
theorem zfS{s0 s:List Nat}{i:Nat}(h:s.drop i=s0.drop i)(hi:i<s.length)(hi0:i<s0.length):s[i]=s0[i]:=by
 have:=congrArg (fun l=>l[0]?) h;simp only[List.getElem?_drop,Nat.add_zero] at this;rw[zEp hi,zEp hi0] at this;simpa using this
theorem zlt{s l b:Nat}(hs:s<4294967296)(hl:l+b<=4294967296) :
  let x:=(s+(18446744073709551616-(l+b)))%18446744073709551616
  x%4294967296+l+b=s+4294967296*(x/9223372036854775808)/\x/9223372036854775808<=1:=by
 intro x;by_cases h:l+b<=s
 .have:x=s-(l+b):=by show _%_=_;omega
  rw[this];omega
 .have:x=s+(18446744073709551616-(l+b)):=Nat.mod_eq_of_lt (by omega);rw[this];omega
theorem zrz{s0 s v:List Nat}{n c b q x b':Nat}(hl:s.length=n+1)(hl0:s0.length=n+1)(hvl:v.length=n)(h:val (s.take n)+q*val (v.take n)=val (s0.take n)+(c+b)*4294967296^n)
  (hd:s.drop n=s0.drop n) (hx:x+c+b=s[n]+4294967296*b'):val (s.set n x)+q*val v=val s0+b'*4294967296^(n+1):=by
 have e1:=zbk s n x (by omega);rw[zan _ _ (by simp;omega)] at e1;have e2:=zaF s0 n (by omega);rw[zan _ _ (by omega)] at e2;rw[zan v _ (by omega)] at h;have e3:=zfS hd (by omega) (by omega);rw[e1,e2,zEI];rw[e3] at hx;generalize 4294967296^n=p at *;have e4:p*x+p*c+p*b=p*s0[n]+p*(4294967296*b'):=by rw[<-Nat.mul_add,<-Nat.mul_add,<-Nat.mul_add,hx]
 grind
theorem zus{a S V q:Nat}(hq:q=S/V\/q=S/V+1)(hV:0<V)(h:a+q*V=S):q=S/V/\a=S%V:=by
 have h1:q<=S/V:=by rw[Nat.le_div_iff_mul_le hV];omega
 have h2:q=S/V:=by rcases hq with h|h <;> omega
 have h3:=Nat.div_add_mod S V;rw[zEU] at h3;rw[<-h2] at h3;exact⟨h2,by omega⟩
theorem zur{a S V q M:Nat}(hq:q=S/V\/q=S/V+1)(hV:0<V)(ha:a<M)(h:a+q*V=S+M):q=S/V+1/\a+V=M+S%V:=by
 have h3:=Nat.div_add_mod S V;rw[zEU] at h3;have h4:=Nat.mod_lt S hV;rcases hq with h'|h'
 .rw[h'] at h;generalize S/V*V=z at *;omega
 .refine⟨h',?_⟩;rw[h',Nat.add_mul,Nat.one_mul] at h;generalize S/V*V=z at *;omega
theorem zut{s3 s2 v:List Nat}{n c V R:Nat}(hs3:Small s3)(hl:s3.length=n+1)(hl2:s2.length=n+1)(hvl:v.length=n)(h:val (s3.take n)+c*4294967296^n=val (s2.take n)+val (v.take n))(hd:s3.drop n=s2.drop n)
  (hV:val v=V) (hR:R<4294967296^(n+1)) (ht:val s2+V=4294967296^(n+1)+R):val (s3.set n ((s3[n]+c)%4294967296))=R:=by
 have e1:=zbk s3 n ((s3[n]+c)%4294967296) (by omega);rw[zan _ _ (by simp;omega)] at e1;have e2:=zaF s2 n (by omega);rw[zan _ _ (by omega)] at e2;rw[zan v _ (by omega),hV] at h;have e3:=zfS hd (by omega) (by omega);have hlt:=zbs (hs3.set n ((s3[n]+c)%4294967296) (Nat.mod_lt _ (by decide)));have hlen:(s3.set n ((s3[n]+c)%4294967296)).length=n+1:=by simp[hl]
 rw[hlen] at hlt;have hdm:=Nat.div_add_mod (s3[n]+c) 4294967296;rw[e1] at hlt ⊢;rw[e2,<-e3] at ht;generalize hm:(s3[n]+c)%4294967296=m at *;generalize hz:(s3[n]+c)/4294967296=z at *;rw[zEI] at hlt hR ht;generalize 4294967296^n=p at *;generalize val (s3.take n)=A at *;generalize val (s2.take n)=C at *;have e4:p*(4294967296*z)+p*m=p*s3[n]+p*c:=by rw[<-Nat.mul_add,<-Nat.mul_add,hdm]
 have e5:A+p*m+p*4294967296*z=p*4294967296+R:=by grind
 have hz1:z=1:=by
  rcases Nat.lt_or_ge z 1 with h1|h1
  .have:z=0:=by omega
   subst this;omega
  .rcases Nat.lt_or_ge 1 z with h2|h2
   .have:=zEX (p*4294967296) h2;omega
   .omega
 subst hz1;omega
theorem zuz{b:List Nat}(hc:Canon b)(hn:0<b.length):0<b[b.length-1]'(by omega)/\32-bl (b[b.length-1]'(by omega))<32/\(zaa (val b*2^(32-bl (b[b.length-1]'(by omega))))).length=b.length ∧
  2147483648<=(zaa (val b*2^(32-bl (b[b.length-1]'(by omega))))).getD (b.length-1) 0:=by
 have htop:b[b.length-1]'(by omega)≠0:=by
  have h:=hc.2 (by intro e;rw[e] at hn;simp at hn)
  rwa [List.getLast_eq_getElem] at h
 have hs:=hc.1.get (b.length-1) (by omega);have h1:=zmF htop;have h2:bl (b[b.length-1]'(by omega))<=32:=zaA hs;have hb:=zh2 hc hn;generalize b[b.length-1]'(by omega)=t at *;have hv0:val b≠0:=by intro e;rw[e,ztd] at hb;omega
 have g1:=zhF (val b);have g2:=zmG hv0;have hbl:bl (val b*2^(32-bl t))=32*b.length:=by
  apply zi1
  .have:32*b.length=bl (val b)+(32-bl t):=by omega
   rw[this,zEJ];exact Nat.mul_lt_mul_of_pos_right g1 (Nat.pow_pos (by decide))
  .intro _;have:32*b.length-1=(bl (val b)-1)+(32-bl t):=by omega
   rw[this,zEJ];exact zEA _ g2
 have hlt:=zhF (val b*2^(32-bl t));have hV0:val b*2^(32-bl t)≠0:=Nat.mul_ne_zero hv0 (Nat.ne_of_gt (Nat.pow_pos (by decide)));have hle:=zmG hV0;rw[hbl] at hlt hle;generalize val b*2^(32-bl t)=V at *;have hl1:(zaa V).length<=b.length:=zag.2 (by rw[zdh];exact hlt);have hl2:¬(zaa V).length<=b.length-1:=by
  rw[zag,zdh];have:=zEC (n:=2) (by decide) (show 32*(b.length-1)<=32*b.length-1 by omega);omega
 have hl:(zaa V).length=b.length:=by omega
 refine⟨by omega,by omega,hl,?_⟩;have hb2:=zh2 (zcS V) (by omega);rw[zac,hbl] at hb2;rw[zcb (by omega)];have e:(zaa V)[(zaa V).length-1]'(by omega)=(zaa V)[b.length-1]'(by omega):=by congr 1;omega
 rw[e] at hb2;have h32:bl ((zaa V)[b.length-1]'(by omega))=32:=by omega
 have:=zmG (n:=(zaa V)[b.length-1]'(by omega)) (by intro e0;rw[e0] at h32;simp[ztd] at h32);rw[h32] at this;simpa using this
theorem zu5{us:List Nat}{k n:Nat}(hk:0<k)(h:k+n<=us.length):∃pre s post,us=pre++s++post/\pre.length=k-1/\s.length=n+1:=
 ⟨us.take (k-1),(us.drop (k-1)).take (n+1),(us.drop (k-1)).drop (n+1),by rw[zES,List.take_append_drop,List.take_append_drop],by simp;omega,by simp;omega⟩
theorem zDy{pre s post:List Nat}{n V:Nat}(hs:Small (pre++s++post))(hl:s.length=n+1)(hV:V<4294967296^n)(h:val ((pre++s++post).drop (pre.length+1))<V):Small s/\Small pre/\Small post/\val post=0/\val s<V*4294967296:=by
 have h1:Small s:=fun x hx=>hs x (by simp[hx]);refine⟨h1,fun x hx=>hs x (by simp[hx]),fun x hx=>hs x (by simp[hx]),?_⟩
 match s,hl with
 |d::t,hl=>
  have hd:(pre++(d::t)++post).drop (pre.length+1)=t++post:=by
   rw[zES,<-List.drop_drop,List.drop_left];rfl
  rw[hd,za4] at h;have ht:t.length=n:=by simpa using hl
  rw[ht] at h;have hp:val post=0:=by
   rcases Nat.eq_zero_or_pos (val post) with h0|h0
   .exact h0
   .have:=zEX (4294967296^n) h0;omega
  refine⟨hp,?_⟩;have hd:=h1.head;rw[hp] at h;simp only[val];omega
theorem zzs{pre s post out:List Nat}{n V A k:Nat}(hk:pre.length=k)(hko:k<out.length)(hp:val post=0)(hV0:0<V)(hV:V<4294967296^n)
  (h:val (pre++s++post)+V*(4294967296^(k+1)*val (out.drop (k+1)))=A) :
  val (pre++zhh (n+1) (val s%V)++post)+V*(4294967296^k*val ((out.set k (val s/V)).drop k))=A/\val ((pre++zhh (n+1) (val s%V)++post).drop k)<V:=by
 have hm:=Nat.mod_lt (val s) hV0;have hpl:val (zhh (n+1) (val s%V))=val s%V:=zf2 (Nat.lt_trans hm (zEy hV (zEC (by decide) (by omega))));constructor
 .rw[zEW (show k<(out.set k (val s/V)).length by simpa using hko),List.getElem_set_self,List.drop_set_of_lt (by omega)];simp only[val];rw[za4,za4,hp,hpl,hk];rw[za4,za4,hp,hk] at h;have:=Nat.div_add_mod (val s) V;generalize val s/V=q at *;generalize val s%V=r at *;rw[<-h,<-this,zEI];simp only[Nat.mul_zero,Nat.add_zero];generalize 4294967296^k=p at *;grind
 .subst hk;rw[zES,List.drop_left,za4,hp,hpl];simpa using hm
theorem zDz{x va vb sh o:Nat}(h:x+vb*2^sh*o=va*2^sh)(hx:x<vb*2^sh):o=va/vb/\x/2^sh=va%vb:=by
 have hp:0<2^sh:=Nat.pow_pos (by decide);have hvb:0<vb:=by
  rcases Nat.eq_zero_or_pos vb with h0|h0
  .subst h0;simp at hx
  .exact h0
 have hdv:2^sh ∣ x:=by
  have h1:2^sh ∣ va*2^sh:=Nat.dvd_mul_left _ _;rw[<-h] at h1;exact(Nat.dvd_add_left ⟨vb*o,by grind⟩).1 h1
 obtain⟨y,rfl⟩:=hdv;have hy:y+vb*o=va:=by
  have:2^sh*(y+vb*o)=2^sh*va:=by grind
  exact Nat.eq_of_mul_eq_mul_left hp this
 have hyb:y<vb:=by
  rw[zEU] at hx;exact Nat.lt_of_mul_lt_mul_right hx
 rw[Nat.mul_div_cancel_left _ hp,<-hy];refine⟨?_,?_⟩
 .rw[Nat.add_comm,Nat.mul_add_div hvb,Nat.div_eq_of_lt hyb,Nat.add_zero]
 .rw[Nat.add_comm,Nat.mul_add_mod,Nat.mod_eq_of_lt hyb]
theorem zu4{a:List Nat}{n sh V A L:Nat}(hs:Small a)(hL:L=a.length+1)(hA:A=val a*2^sh)(hsh:sh<32)(hn:n<=a.length)(hV:4294967296^(n-1)*2^sh<=V)(hn0:0<n) :
  A<4294967296^L/\val ((zhh L A).drop (a.length-n+1))<V:=by
 have hlt:=zbs hs;have hsh2:2^sh<4294967296:=zEy (zEV (by decide) hsh) (by decide);have hp:0<2^sh:=Nat.pow_pos (by decide);have hA1:A<4294967296^a.length*2^sh:=by subst hA;exact Nat.mul_lt_mul_of_pos_right hlt hp
 have hAL:A<4294967296^L:=by
  subst hL;rw[zEI];exact zEy hA1 (zEX _ (by omega))
 refine⟨hAL,?_⟩;rw[<-zb1 _ (zea _ _),zf2 hAL];refine zEy ?_ hV;rw[Nat.div_lt_iff_lt_mul (Nat.pow_pos (by decide))];refine zEy hA1 (Nat.le_of_eq ?_);have:a.length=(n-1)+(a.length-n+1):=by omega
 conv=>lhs;rw[this,zEJ]
 grind
theorem ziP{s v:List Nat}(hs:Small s)(hv:Small v)(hsl:s.length=v.length+1)(hn:2<=v.length)(htop:2147483648<=v.getD (v.length-1) 0)(hlt:val s<val v*4294967296) :
  val s/val v<=est (s.getD v.length 0*4294967296+s.getD (v.length-1) 0) (s.getD (v.length-2) 0) (v.getD (v.length-1) 0) (v.getD (v.length-2) 0) ∧
  est (s.getD v.length 0*4294967296+s.getD (v.length-1) 0) (s.getD (v.length-2) 0) (v.getD (v.length-1) 0) (v.getD (v.length-2) 0)<=val s/val v+1:=by
 obtain⟨n,hn2⟩:∃n,v.length=n+2:=⟨v.length-2,by omega⟩;have e1:=zaG s n;have e2:=zaG s (n+1);have e3:=zaG s (n+2);have g1:=zaG v n;have g2:=zaG v (n+1);rw[zan s (n+2+1) (by omega)] at e3;rw[zan v (n+1+1) (by omega)] at g2;rw[hn2] at htop ⊢;simp only[Nat.add_sub_cancel,show n+2-1=n+1 from rfl] at htop ⊢;have l1:=zbs (hs.take n);have l2:=zbs (hv.take n);rw[zEG,Nat.min_eq_left (by omega)] at l1 l2;refine zp8 (lo:=val (s.take n)) (lov:=val (v.take n)) (e:=4294967296^n) (Nat.pow_pos (by decide)) htop (hv.getD _) (hv.getD _) (hs.getD _) l1 l2 ?_ ?_ hlt
 .rw[e3,e2,e1,zEI,zEI];grind
 .rw[g2,g1,zEI];grind
theorem zxT{b:List Nat}(hc:Canon b)(hn:0<b.length):∃sh,32-bl (b[b.length-1]'(by omega))=sh/\sh<32/\(zaa (val b*2^sh)).length=b.length/\2147483648<=(zaa (val b*2^sh)).getD (b.length-1) 0:=
 let ⟨_,h2,h3,h4⟩:=zuz hc hn
 ⟨_,rfl,h2,h3,h4⟩
end Rc
namespace Rc
open Go
structure Zr where
 neg:Bool
 m:List Nat
 hm:Small m
def Zr.z(x:Zr):Int:=sgn x.neg (val x.m)
@[reducible] def zV(x:Zr):V:=V.agg [Leaf.val (.bool x.neg),zaf x.m]
@[reducible] def zOf(z:Int):Zr:=⟨decide (z<0),zaa z.natAbs,zab _⟩
theorem zjj(z:Int):(zOf z).z=z:=by
 show sgn (decide (z<0)) (val (zaa z.natAbs))=z;rw[zac];exact zdn z
structure Qr where
 neg:Bool
 n:List Nat
 d:List Nat
 hn:Small n
 hd:Small d
def Qr.q(x:Qr):Rat:=rq x.neg (val x.n) (val x.d)
@[reducible] def qV(x:Qr):V:=V.agg [Leaf.val (.bool x.neg),zaf x.n,zaf x.d]
@[reducible] def qOf(q:Rat):Qr:=⟨zaQ q,zaa (zaw q),zaa (zaE q),zab _,zab _⟩
theorem zaj(q:Rat):(qOf q).q=q:=by
 show rq (zaQ q) (val (zaa (zaw q))) (val (zaa (zaE q)))=q;rw[zac,zac];exact zhM q
@[reducible] def qZero:Qr:=⟨false,[],[],Small.nil,Small.nil⟩
theorem zcs:qZero.q=0:=by
 show rq false 0 0=0;exact znb _ _
theorem zc8:qV qZero=qV (qOf 0):=by
 show V.agg _=V.agg [Leaf.val (.bool (zaQ 0)),zaf (zaa (zaw 0)),zaf (zaa (zaE 0))];rw[zsJ,zbp,zbq,zah]
class Bn (n:Nat) (k:outParam Nat):Prop where
 le:(zaa n).length<=k
theorem Bn.use{n k k':Nat}[h:Bn n k](hk:k<=k'):(zaa n).length<=k':=zEz h.le hk
theorem Bn.lt{n k:Nat}(h:Bn n k):n<4294967296^k:=zag.1 h.le
theorem Bn.of{n k:Nat}(h:n<4294967296^k):Bn n k:=⟨zag.2 h⟩
theorem Bn.val{l:List Nat}{k:Nat}(hs:Small l)(h:l.length<=k):Bn (val l) k:=⟨zEz (zam hs) h⟩
theorem Bn.of_lt{n k:Nat}(h:n<18446744073709551616)(hk:2<=k):(zaa n).length<=k:=zEz (zag (k:=2).2 h) hk
theorem zg0{a b i j:Nat}(ha:a<4294967296^i)(hb:b<4294967296^j):a*b<4294967296^(i+j):=by
 rw[zEJ];rcases Nat.eq_zero_or_pos b with h|h
 .subst h;exact Nat.mul_pos (Nat.pow_pos (by decide)) (Nat.pow_pos (by decide))
 .exact zEy (Nat.mul_lt_mul_of_pos_right ha h) (zEX _ (Nat.le_of_lt hb))
theorem zqm{a b i j:Nat}(ha:a<4294967296^i)(hb:b<4294967296^j):a+b<4294967296^(i+j+1):=by
 have h1:4294967296^i<=4294967296^(i+j):=zEC (by decide) (by omega);have h2:4294967296^j<=4294967296^(i+j):=zEC (by decide) (by omega);rw[zEI];omega
instance Bn.mul{a b i j:Nat}[ha:Bn a i][hb:Bn b j]:Bn (a*b) (i+j):=Bn.of (zg0 ha.lt hb.lt)
instance Bn.add{a b i j:Nat}[ha:Bn a i][hb:Bn b j]:Bn (a+b) (i+j+1):=Bn.of (zqm ha.lt hb.lt)
instance Bn.dn{a i:Nat}[ha:Bn a i]:Bn (dn a) (i+1):=by
 refine Bn.of ?_;have:=ha.lt;unfold Rc.dn;split
 .exact Nat.one_lt_pow (by omega) (by decide)
 .rw[zEI];omega
theorem Bn.mono{a b i:Nat}(h:a<=b)(hb:Bn b i):Bn a i:=Bn.of (zEQ h hb.lt)
instance Bn.div{a b i:Nat}[ha:Bn a i]:Bn (a/b) i:=Bn.mono (Nat.div_le_self _ _) ha
instance Bn.sub{a b i:Nat}[ha:Bn a i]:Bn (a-b) i:=Bn.mono (Nat.sub_le _ _) ha
instance Bn.mod{a b i:Nat}[ha:Bn a i]:Bn (a%b) i:=Bn.mono (Nat.mod_le _ _) ha
class Bz (z:Int) (k:outParam Nat):Prop where
 le:(zaa z.natAbs).length<=k
theorem Bz.use{z:Int}{k k':Nat}[h:Bz z k](hk:k<=k'):(zaa z.natAbs).length<=k':=zEz h.le hk
theorem Bz.bn{z:Int}{k:Nat}(h:Bz z k):Bn z.natAbs k:=⟨h.le⟩
instance Bz.sgn{b:Bool}{n i:Nat}[h:Bn n i]:Bz (Rc.sgn b n) i:=⟨by rw[zcN];exact h.le⟩
instance Bz.nat{n i:Nat}[h:Bn n i]:Bz (n:Int) i:=⟨by simpa using h.le⟩
instance Bz.mul{a b:Int}{i j:Nat}[ha:Bz a i][hb:Bz b j]:Bz (a*b) (i+j):=
 ⟨by rw[Int.natAbs_mul];exact(@Bn.mul _ _ _ _ ha.bn hb.bn).le⟩
instance Bz.add{a b:Int}{i j:Nat}[ha:Bz a i][hb:Bz b j]:Bz (a+b) (i+j+1):=
 ⟨(Bn.mono (by omega) (@Bn.add _ _ _ _ ha.bn hb.bn)).le⟩
instance Bz.sub{a b:Int}{i j:Nat}[ha:Bz a i][hb:Bz b j]:Bz (a-b) (i+j+1):=
 ⟨(Bn.mono (by omega) (@Bn.add _ _ _ _ ha.bn hb.bn)).le⟩
instance Bz.neg{a:Int}{i:Nat}[ha:Bz a i]:Bz (-a) i:=⟨by rw[Int.natAbs_neg];exact ha.le⟩
structure Fit(k:Nat)(x:Qr):Prop where
 n:x.n.length<=k
 d:x.d.length<=k
theorem Fit.mono{k k':Nat}{x:Qr}(h:Fit k x)(hk:k<=k'):Fit k' x:=⟨zEz h.n hk,zEz h.d hk⟩
class Br (r:Rat) (k:outParam Nat):Prop where
 fit:Fit k (qOf r)
theorem Br.use{r:Rat}{k k':Nat}[h:Br r k](hk:k<=k'):Fit k' (qOf r):=h.fit.mono hk
theorem zgh{k:Nat}:Fit k qZero:=⟨zEv _,zEv _⟩
theorem Br.num{r:Rat}{k:Nat}(h:Br r k):zaw r<4294967296^k:=zag.1 h.fit.n
theorem Br.den{r:Rat}{k:Nat}(h:Br r k):r.den<=4294967296^k:=by
 have h1:zaE r<4294967296^k:=zag.1 h.fit.d;rw[<-ziR];have h2:0<4294967296^k:=Nat.pow_pos (by decide);unfold dn;split <;> omega
theorem Br.of{r:Rat}{k:Nat}(h1:r.num.natAbs<4294967296^k)(h2:r.den<4294967296^k):Br r k:=
 ⟨zag.2 h1,zag.2 (by unfold zaE;split <;> omega)⟩
theorem Br.rq{b:Bool}{n d k:Nat}(h1:n<4294967296^k)(h2:d<4294967296^k):Br (rq b n d) k:=by
 refine⟨zag.2 ?_,zag.2 ?_⟩
 .rw[ziU];exact zEQ (Nat.div_le_self _ _) h1
 .have h3:(Rc.rq b n d).den<=dn d:=by rw[zmt];exact Nat.div_le_self _ _
  unfold zaE;split
  .omega
  .rename_i h4;unfold dn at h3;have:=(Rc.rq b n d).den_pos;split at h3 <;> omega
theorem Br.q{x:Qr}{k:Nat}(h:Fit k x):Br x.q k:=
 Br.rq (zEy (zbs x.hn) (zEC (by decide) h.n)) (zEy (zbs x.hd) (zEC (by decide) h.d))
theorem Br.rqn{b:Bool}{n d i j:Nat}(h1:n<4294967296^i)(h2:d<=4294967296^j)(hj:j<i):Br (Rc.rq b n d) i:=
 Br.rq h1 (zEQ h2 (zEV (by decide) hj))
theorem zkd(q:Rat):Rc.rq (zaQ q) (zaw q) q.den=q:=by rw[<-ziR,zxJ,zhM]
instance Br.mul{r s:Rat}{i j:Nat}[hr:Br r i][hs:Br s j]:Br (r*s) (i+j+1):=by
 rw[<-zkd r,<-zkd s,<-zga,zc1 (Nat.ne_of_gt r.den_pos),zc1 (Nat.ne_of_gt s.den_pos)];refine Br.rqn (j:=i+j) (Nat.lt_trans (zg0 hr.num hs.num) (zEV (by decide) (by omega))) ?_ (by omega);rw[zEJ];exact Nat.mul_le_mul hr.den hs.den
instance Br.add{r s:Rat}{i j:Nat}[hr:Br r i][hs:Br s j]:Br (r+s) (i+j+1):=by
 rw[<-zkd r,<-zkd s,<-zog _ _ _ _ _ _ _ rfl,zc1 (Nat.ne_of_gt r.den_pos),zc1 (Nat.ne_of_gt s.den_pos)];refine Br.rqn (j:=i+j) ?_ ?_ (by omega)
 .have h1:zaw r*s.den<4294967296^(i+j)\/zaw r*s.den=0:=by
   rcases Nat.eq_zero_or_pos (zaw r) with h|h
   .exact .inr (by rw[h,Nat.zero_mul])
   .left;rw[zEJ];exact zEy (Nat.mul_lt_mul_of_pos_right hr.num s.den_pos) (zEX _ hs.den)
  have h2:zaw s*r.den<4294967296^(i+j)\/zaw s*r.den=0:=by
   rcases Nat.eq_zero_or_pos (zaw s) with h|h
   .exact .inr (by rw[h,Nat.zero_mul])
   .left;rw[zEJ,zEU (4294967296^i)];exact zEy (Nat.mul_lt_mul_of_pos_right hs.num r.den_pos) (zEX _ hr.den)
  have h0:0<4294967296^(i+j):=Nat.pow_pos (by decide);have h3:∀(a b:Bool) (m n:Nat),(sgn a m+sgn b n).natAbs<=m+n:=by
   intro a b m n;cases a <;> cases b <;> simp <;> omega
  have h4:=h3 (zaQ r) (zaQ s) (zaw r*s.den) (zaw s*r.den);refine zEQ h4 ?_;rw[zEI];omega
 .rw[zEJ];exact Nat.mul_le_mul hr.den hs.den
theorem zkL(r:Rat):zaw (-r)=zaw r:=by unfold zaw;rw[show(-r).num = -r.num from rfl,Int.natAbs_neg]
theorem zkQ(r:Rat):zaE (-r)=zaE r:=rfl
instance Br.neg{r:Rat}{i:Nat}[hr:Br r i]:Br (-r) i:=⟨⟨by show(zaa (zaw (-r))).length<=i;rw[zkL];exact hr.fit.n,by show(zaa (zaE (-r))).length<=i;rw[zkQ];exact hr.fit.d⟩⟩
instance Br.sub{r s:Rat}{i j:Nat}[hr:Br r i][hs:Br s j]:Br (r-s) (i+j+1):=by
 rw[Rat.sub_eq_add_neg];exact Br.add
theorem Br.mono{r:Rat}{i j:Nat}(h:Br r i)(hij:i<=j):Br r j:=⟨h.fit.mono hij⟩
def mn(r s:Rat):Rat:=if r<=s then r else s
def mx(r s:Rat):Rat:=if s<=r then r else s
instance Br.mn{r s:Rat}{i j:Nat}[hr:Br r i][hs:Br s j]:Br (mn r s) (i+j):=by
 unfold Rc.mn;split
 .exact hr.mono (by omega)
 .exact hs.mono (by omega)
instance Br.mx{r s:Rat}{i j:Nat}[hr:Br r i][hs:Br s j]:Br (mx r s) (i+j):=by
 unfold Rc.mx;split
 .exact hr.mono (by omega)
 .exact hs.mono (by omega)
instance Br.zero:Br 0 0:=⟨⟨by show(zaa (zaw 0)).length<=0;rw[zbp,zah];exact zEt _,by show(zaa (zaE 0)).length<=0;rw[zbq,zah];exact zEt _⟩⟩
instance Br.inv{r:Rat}{i:Nat}[hr:Br r i]:Br r⁻¹ (i+1):=by
 by_cases h:r=0
 .subst h;rw[Rat.inv_zero];exact Br.zero.mono (zEv _)
 .have hn:r.num≠0:=fun e=>h (Rat.num_eq_zero.1 e);refine Br.of ?_ ?_
  .rw[Rat.num_inv,Int.natAbs_mul];have h1:r.num.sign.natAbs<=1:=by rw[Int.natAbs_sign];split <;> omega
   have h2:=hr.den;have h3:r.num.sign.natAbs*(r.den:Int).natAbs<=1*r.den:=Nat.mul_le_mul h1 (by simp);have h0:0<4294967296^i:=Nat.pow_pos (by decide);rw[zEI];generalize r.num.sign.natAbs*(r.den:Int).natAbs=a at *;omega
  .rw[Rat.den_inv,if_neg hn];have:=hr.num;unfold zaw at this;rw[zEI];omega
instance Br.div{r s:Rat}{i j:Nat}[hr:Br r i][hs:Br s j]:Br (r/s) (i+(j+1)+1):=by
 rw[Rat.div_def];exact Br.mul
def sgz(z:Int):Int:=if z<0 then -1 else if z=0 then 0 else 1
def zoZ(a b:Int):Int:=if a<b then -1 else if a=b then 0 else 1
theorem zgU(b:Bool)(n d:Nat):rq b n d<0↔sgn b n<0:=by
 have h:=zA5 b false n 0 d 0;rw[znb] at h;rw[h];simp[dn]
theorem zxz(b:Bool)(n d:Nat):sg (rq b n d)=sgz (sgn b n):=by
 unfold sg sgz;have h1:=zgU b n d;have h2:rq b n d=0↔sgn b n=0:=by rw[zfh];cases b <;> simp
 simp only[h1,h2]
theorem zzA(a b:Bool)(m n d e:Nat):zft (rq a m d) (rq b n e)=zoZ (sgn a m*dn e) (sgn b n*dn d):=by
 unfold zft zoZ;simp only[zA5,zA6]
theorem zsK{p q:Rat}:zft p q<=0↔p<=q:=by
 unfold zft;split
 .rename_i h;exact⟨fun _=>Rat.le_of_lt h,fun _=>by decide⟩
 .split
  .rename_i h;subst h;exact⟨fun _=>Rat.le_refl,fun _=>by decide⟩
  .rename_i h1 h2;exact⟨fun h=>absurd h (by decide),fun h=>by grind⟩
theorem zg6{p q:Rat}:0<=zft p q↔q<=p:=by
 unfold zft;split
 .rename_i h;exact⟨fun h=>absurd h (by decide),fun h'=>by grind⟩
 .rename_i h;exact⟨fun _=>by grind,fun _=>by split <;> decide⟩
theorem zdB{p q:Rat}:0<zft p q↔q<p:=by
 unfold zft;split
 .rename_i h;exact⟨fun h=>absurd h (by decide),fun h'=>by grind⟩
 .split
  .rename_i h;exact⟨fun h=>absurd h (by decide),fun h'=>by grind⟩
  .rename_i h1 h2;exact⟨fun _=>by grind,fun _=>by decide⟩
theorem zfV{p q:Rat}:zft p q<0↔p<q:=by
 unfold zft;split
 .rename_i h;exact⟨fun _=>h,fun _=>by decide⟩
 .rename_i h;exact⟨fun h'=>by split at h' <;> simp at h',fun h'=>absurd h' h⟩
theorem zkb{p:Rat}:sg p<0↔p<0:=by
 unfold sg;split
 .rename_i h;exact⟨fun _=>h,fun _=>by decide⟩
 .rename_i h;exact⟨fun h'=>by split at h' <;> simp at h',fun h'=>absurd h' h⟩
end Rc
