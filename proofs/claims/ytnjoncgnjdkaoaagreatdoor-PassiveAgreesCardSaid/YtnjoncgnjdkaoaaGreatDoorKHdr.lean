/-
  Names for the functions of this seat, and facts on its types (printed by hdr.py).
-/
import Derived.Test.YtnjoncgnjdkaoaaGreatDoorChecked
import Derived.KernelRfl
import Derived.Test.YtnjoncgnjdkaoaaGreatDoorKAlg37
set_option linter.unusedVariables false
set_option linter.unusedSimpArgs false
namespace Go.Proofs.YtnjoncgnjdkaoaaGreatDoor
open Go Go.AL
noncomputable abbrev P:Program:=Tryz.prog
theorem ay:P.follows .mixedOrders=true:=by kernel_rfl
abbrev F.oM:Nat:=4
theorem fn.oM:P.funcs[F.oM]? = some Tryz.f4:=Tryz.func4
abbrev F.jg:Nat:=5
theorem fn.jg:P.funcs[F.jg]? = some Tryz.f5:=Tryz.func5
abbrev F.uq:Nat:=6
theorem fn.uq:P.funcs[F.uq]? = some Tryz.f6:=Tryz.func6
abbrev F.yB:Nat:=8
theorem fn.yB:P.funcs[F.yB]? = some Tryz.f8:=Tryz.func8
abbrev F.Aj:Nat:=10
theorem fn.Aj:P.funcs[F.Aj]? = some Tryz.f10:=Tryz.func10
abbrev F.o7:Nat:=11
theorem fn.o7:P.funcs[F.o7]? = some Tryz.f11:=Tryz.func11
abbrev F.Bv:Nat:=12
theorem fn.Bv:P.funcs[F.Bv]? = some Tryz.f12:=Tryz.func12
abbrev F.Ak:Nat:=13
theorem fn.Ak:P.funcs[F.Ak]? = some Tryz.f13:=Tryz.func13
abbrev F.Am:Nat:=14
theorem fn.Am:P.funcs[F.Am]? = some Tryz.f14:=Tryz.func14
abbrev F.qA:Nat:=15
theorem fn.qA:P.funcs[F.qA]? = some Tryz.f15:=Tryz.func15
abbrev F.yC:Nat:=16
theorem fn.yC:P.funcs[F.yC]? = some Tryz.f16:=Tryz.func16
abbrev F.uw:Nat:=17
theorem fn.uw:P.funcs[F.uw]? = some Tryz.f17:=Tryz.func17
abbrev F.CS:Nat:=18
theorem fn.CS:P.funcs[F.CS]? = some Tryz.f18:=Tryz.func18
abbrev F.rW:Nat:=24
theorem fn.rW:P.funcs[F.rW]? = some Tryz.f24:=Tryz.func24
abbrev F.lT:Nat:=27
theorem fn.lT:P.funcs[F.lT]? = some Tryz.f27:=Tryz.func27
abbrev F.tX:Nat:=29
theorem fn.tX:P.funcs[F.tX]? = some Tryz.f29:=Tryz.func29
abbrev F.CU:Nat:=30
theorem fn.CU:P.funcs[F.CU]? = some Tryz.f30:=Tryz.func30
abbrev F.qN:Nat:=31
theorem fn.qN:P.funcs[F.qN]? = some Tryz.f31:=Tryz.func31
abbrev F.mP:Nat:=32
theorem fn.mP:P.funcs[F.mP]? = some Tryz.f32:=Tryz.func32
abbrev F.iJ:Nat:=33
theorem fn.iJ:P.funcs[F.iJ]? = some Tryz.f33:=Tryz.func33
abbrev F.y8:Nat:=34
theorem fn.y8:P.funcs[F.y8]? = some Tryz.f34:=Tryz.func34
abbrev F.xR:Nat:=35
theorem fn.xR:P.funcs[F.xR]? = some Tryz.f35:=Tryz.func35
abbrev F.ES:Nat:=36
theorem fn.ES:P.funcs[F.ES]? = some Tryz.f36:=Tryz.func36
abbrev F.CV:Nat:=37
theorem fn.CV:P.funcs[F.CV]? = some Tryz.f37:=Tryz.func37
abbrev F.y9:Nat:=38
theorem fn.y9:P.funcs[F.y9]? = some Tryz.f38:=Tryz.func38
abbrev F.xh:Nat:=39
theorem fn.xh:P.funcs[F.xh]? = some Tryz.f39:=Tryz.func39
abbrev F.xU:Nat:=40
theorem fn.xU:P.funcs[F.xU]? = some Tryz.f40:=Tryz.func40
abbrev F.CW:Nat:=41
theorem fn.CW:P.funcs[F.CW]? = some Tryz.f41:=Tryz.func41
abbrev F.mQ:Nat:=42
theorem fn.mQ:P.funcs[F.mQ]? = some Tryz.f42:=Tryz.func42
abbrev F.lI:Nat:=43
theorem fn.lI:P.funcs[F.lI]? = some Tryz.f43:=Tryz.func43
abbrev F.nY:Nat:=44
theorem fn.nY:P.funcs[F.nY]? = some Tryz.f44:=Tryz.func44
abbrev F.mV:Nat:=45
theorem fn.mV:P.funcs[F.mV]? = some Tryz.f45:=Tryz.func45
abbrev F.iG:Nat:=46
theorem fn.iG:P.funcs[F.iG]? = some Tryz.f46:=Tryz.func46
abbrev F.kW:Nat:=47
theorem fn.kW:P.funcs[F.kW]? = some Tryz.f47:=Tryz.func47
abbrev F.rX:Nat:=48
theorem fn.rX:P.funcs[F.rX]? = some Tryz.f48:=Tryz.func48
abbrev F.Ap:Nat:=49
theorem fn.Ap:P.funcs[F.Ap]? = some Tryz.f49:=Tryz.func49
abbrev F.Aq:Nat:=51
theorem fn.Aq:P.funcs[F.Aq]? = some Tryz.f51:=Tryz.func51
abbrev F.Ar:Nat:=52
theorem fn.Ar:P.funcs[F.Ar]? = some Tryz.f52:=Tryz.func52
abbrev F.CX:Nat:=54
theorem fn.CX:P.funcs[F.CX]? = some Tryz.f54:=Tryz.func54
abbrev F.xk:Nat:=61
theorem fn.xk:P.funcs[F.xk]? = some Tryz.f61:=Tryz.func61
abbrev F.ET:Nat:=62
theorem fn.ET:P.funcs[F.ET]? = some Tryz.f62:=Tryz.func62
abbrev F.jP:Nat:=63
theorem fn.jP:P.funcs[F.jP]? = some Tryz.f63:=Tryz.func63
abbrev F.qc:Nat:=64
theorem fn.qc:P.funcs[F.qc]? = some Tryz.f64:=Tryz.func64
abbrev F.qf:Nat:=65
theorem fn.qf:P.funcs[F.qf]? = some Tryz.f65:=Tryz.func65
abbrev F.yD:Nat:=66
theorem fn.yD:P.funcs[F.yD]? = some Tryz.f66:=Tryz.func66
abbrev F.zh:Nat:=67
theorem fn.zh:P.funcs[F.zh]? = some Tryz.f67:=Tryz.func67
abbrev F.EU:Nat:=68
theorem fn.EU:P.funcs[F.EU]? = some Tryz.f68:=Tryz.func68
abbrev F.Aw:Nat:=69
theorem fn.Aw:P.funcs[F.Aw]? = some Tryz.f69:=Tryz.func69
abbrev F.yE:Nat:=70
theorem fn.yE:P.funcs[F.yE]? = some Tryz.f70:=Tryz.func70
abbrev F.CY:Nat:=71
theorem fn.CY:P.funcs[F.CY]? = some Tryz.f71:=Tryz.func71
abbrev F.xq:Nat:=72
theorem fn.xq:P.funcs[F.xq]? = some Tryz.f72:=Tryz.func72
abbrev F.CZ:Nat:=73
theorem fn.CZ:P.funcs[F.CZ]? = some Tryz.f73:=Tryz.func73
abbrev F.jT:Nat:=74
theorem fn.jT:P.funcs[F.jT]? = some Tryz.f74:=Tryz.func74
abbrev F.iw:Nat:=75
theorem fn.iw:P.funcs[F.iw]? = some Tryz.f75:=Tryz.func75
abbrev F.jI:Nat:=76
theorem fn.jI:P.funcs[F.jI]? = some Tryz.f76:=Tryz.func76
abbrev F.xW:Nat:=77
theorem fn.xW:P.funcs[F.xW]? = some Tryz.f77:=Tryz.func77
abbrev F.C9:Nat:=78
theorem fn.C9:P.funcs[F.C9]? = some Tryz.f78:=Tryz.func78
abbrev F.xu:Nat:=79
theorem fn.xu:P.funcs[F.xu]? = some Tryz.f79:=Tryz.func79
abbrev F.yF:Nat:=80
theorem fn.yF:P.funcs[F.yF]? = some Tryz.f80:=Tryz.func80
abbrev F.Bz:Nat:=81
theorem fn.Bz:P.funcs[F.Bz]? = some Tryz.f81:=Tryz.func81
abbrev F.Dc:Nat:=82
theorem fn.Dc:P.funcs[F.Dc]? = some Tryz.f82:=Tryz.func82
abbrev F.Df:Nat:=83
theorem fn.Df:P.funcs[F.Df]? = some Tryz.f83:=Tryz.func83
abbrev F.xw:Nat:=84
theorem fn.xw:P.funcs[F.xw]? = some Tryz.f84:=Tryz.func84
abbrev F.vF:Nat:=85
theorem fn.vF:P.funcs[F.vF]? = some Tryz.f85:=Tryz.func85
abbrev F.fG:Nat:=86
theorem fn.fG:P.funcs[F.fG]? = some Tryz.f86:=Tryz.func86
abbrev F.jh:Nat:=87
theorem fn.jh:P.funcs[F.jh]? = some Tryz.f87:=Tryz.func87
abbrev F.kS:Nat:=88
theorem fn.kS:P.funcs[F.kS]? = some Tryz.f88:=Tryz.func88
abbrev F.lJ:Nat:=89
theorem fn.lJ:P.funcs[F.lJ]? = some Tryz.f89:=Tryz.func89
abbrev F.lU:Nat:=90
theorem fn.lU:P.funcs[F.lU]? = some Tryz.f90:=Tryz.func90
abbrev F.fA:Nat:=91
theorem fn.fA:P.funcs[F.fA]? = some Tryz.f91:=Tryz.func91
abbrev F.tY:Nat:=92
theorem fn.tY:P.funcs[F.tY]? = some Tryz.f92:=Tryz.func92
abbrev F.gX:Nat:=93
theorem fn.gX:P.funcs[F.gX]? = some Tryz.f93:=Tryz.func93
abbrev F.uy:Nat:=94
theorem fn.uy:P.funcs[F.uy]? = some Tryz.f94:=Tryz.func94
abbrev F.vG:Nat:=95
theorem fn.vG:P.funcs[F.vG]? = some Tryz.f95:=Tryz.func95
abbrev F.vH:Nat:=96
theorem fn.vH:P.funcs[F.vH]? = some Tryz.f96:=Tryz.func96
abbrev F.vI:Nat:=97
theorem fn.vI:P.funcs[F.vI]? = some Tryz.f97:=Tryz.func97
abbrev F.vJ:Nat:=98
theorem fn.vJ:P.funcs[F.vJ]? = some Tryz.f98:=Tryz.func98
abbrev F.Ho:Nat:=99
theorem fn.Ho:P.funcs[F.Ho]? = some Tryz.f99:=Tryz.func99
abbrev F.xA:Nat:=100
theorem fn.xA:P.funcs[F.xA]? = some Tryz.f100:=Tryz.func100
abbrev F.Az:Nat:=101
theorem fn.Az:P.funcs[F.Az]? = some Tryz.f101:=Tryz.func101
abbrev F.zk:Nat:=102
theorem fn.zk:P.funcs[F.zk]? = some Tryz.f102:=Tryz.func102
abbrev F.Dh:Nat:=106
theorem fn.Dh:P.funcs[F.Dh]? = some Tryz.f106:=Tryz.func106
abbrev F.zn:Nat:=107
theorem fn.zn:P.funcs[F.zn]? = some Tryz.f107:=Tryz.func107
abbrev F.BA:Nat:=110
theorem fn.BA:P.funcs[F.BA]? = some Tryz.f110:=Tryz.func110
abbrev F.AA:Nat:=114
theorem fn.AA:P.funcs[F.AA]? = some Tryz.f114:=Tryz.func114
abbrev F.Di:Nat:=115
theorem fn.Di:P.funcs[F.Di]? = some Tryz.f115:=Tryz.func115
abbrev F.Dj:Nat:=116
theorem fn.Dj:P.funcs[F.Dj]? = some Tryz.f116:=Tryz.func116
abbrev F.AB:Nat:=117
theorem fn.AB:P.funcs[F.AB]? = some Tryz.f117:=Tryz.func117
abbrev F.qQ:Nat:=118
theorem fn.qQ:P.funcs[F.qQ]? = some Tryz.f118:=Tryz.func118
abbrev F.mW:Nat:=119
theorem fn.mW:P.funcs[F.mW]? = some Tryz.f119:=Tryz.func119
abbrev F.ji:Nat:=120
theorem fn.ji:P.funcs[F.ji]? = some Tryz.f120:=Tryz.func120
abbrev F.EW:Nat:=121
theorem fn.EW:P.funcs[F.EW]? = some Tryz.f121:=Tryz.func121
abbrev F.qE:Nat:=122
theorem fn.qE:P.funcs[F.qE]? = some Tryz.f122:=Tryz.func122
abbrev F.Hq:Nat:=123
theorem fn.Hq:P.funcs[F.Hq]? = some Tryz.f123:=Tryz.func123
abbrev F.qF:Nat:=124
theorem fn.qF:P.funcs[F.qF]? = some Tryz.f124:=Tryz.func124
abbrev F.qG:Nat:=125
theorem fn.qG:P.funcs[F.qG]? = some Tryz.f125:=Tryz.func125
abbrev F.uQ:Nat:=126
theorem fn.uQ:P.funcs[F.uQ]? = some Tryz.f126:=Tryz.func126
abbrev F.qH:Nat:=127
theorem fn.qH:P.funcs[F.qH]? = some Tryz.f127:=Tryz.func127
abbrev F.mX:Nat:=128
theorem fn.mX:P.funcs[F.mX]? = some Tryz.f128:=Tryz.func128
abbrev F.jU:Nat:=129
theorem fn.jU:P.funcs[F.jU]? = some Tryz.f129:=Tryz.func129
abbrev F.Hr:Nat:=130
theorem fn.Hr:P.funcs[F.Hr]? = some Tryz.f130:=Tryz.func130
abbrev F.vK:Nat:=131
theorem fn.vK:P.funcs[F.vK]? = some Tryz.f131:=Tryz.func131
abbrev F.yG:Nat:=132
theorem fn.yG:P.funcs[F.yG]? = some Tryz.f132:=Tryz.func132
abbrev F.vM:Nat:=133
theorem fn.vM:P.funcs[F.vM]? = some Tryz.f133:=Tryz.func133
abbrev F.wQ:Nat:=134
theorem fn.wQ:P.funcs[F.wQ]? = some Tryz.f134:=Tryz.func134
abbrev F.kK:Nat:=135
theorem fn.kK:P.funcs[F.kK]? = some Tryz.f135:=Tryz.func135
abbrev F.qg:Nat:=136
theorem fn.qg:P.funcs[F.qg]? = some Tryz.f136:=Tryz.func136
abbrev F.jk:Nat:=137
theorem fn.jk:P.funcs[F.jk]? = some Tryz.f137:=Tryz.func137
abbrev F.qh:Nat:=138
theorem fn.qh:P.funcs[F.qh]? = some Tryz.f138:=Tryz.func138
abbrev F.xB:Nat:=139
theorem fn.xB:P.funcs[F.xB]? = some Tryz.f139:=Tryz.func139
abbrev F.EX:Nat:=140
theorem fn.EX:P.funcs[F.EX]? = some Tryz.f140:=Tryz.func140
abbrev F.mY:Nat:=141
theorem fn.mY:P.funcs[F.mY]? = some Tryz.f141:=Tryz.func141
abbrev F.mZ:Nat:=142
theorem fn.mZ:P.funcs[F.mZ]? = some Tryz.f142:=Tryz.func142
abbrev F.ny:Nat:=143
theorem fn.ny:P.funcs[F.ny]? = some Tryz.f143:=Tryz.func143
abbrev F.fU:Nat:=144
theorem fn.fU:P.funcs[F.fU]? = some Tryz.f144:=Tryz.func144
abbrev F.oN:Nat:=145
theorem fn.oN:P.funcs[F.oN]? = some Tryz.f145:=Tryz.func145
abbrev F.Dk:Nat:=146
theorem fn.Dk:P.funcs[F.Dk]? = some Tryz.f146:=Tryz.func146
abbrev F.cmp_Compare_int:Nat:=147
theorem fn.cmp_Compare_int:P.funcs[F.cmp_Compare_int]? = some Tryz.f147:=Tryz.func147
abbrev F.kE:Nat:=148
theorem fn.kE:P.funcs[F.kE]? = some Tryz.f148:=Tryz.func148
abbrev F.vN:Nat:=149
theorem fn.vN:P.funcs[F.vN]? = some Tryz.f149:=Tryz.func149
abbrev F.iV:Nat:=150
theorem fn.iV:P.funcs[F.iV]? = some Tryz.f150:=Tryz.func150
abbrev F.nD:Nat:=151
theorem fn.nD:P.funcs[F.nD]? = some Tryz.f151:=Tryz.func151
abbrev F.rY:Nat:=152
theorem fn.rY:P.funcs[F.rY]? = some Tryz.f152:=Tryz.func152
abbrev F.qR:Nat:=153
theorem fn.qR:P.funcs[F.qR]? = some Tryz.f153:=Tryz.func153
abbrev F.xC:Nat:=154
theorem fn.xC:P.funcs[F.xC]? = some Tryz.f154:=Tryz.func154
abbrev F.xE:Nat:=155
theorem fn.xE:P.funcs[F.xE]? = some Tryz.f155:=Tryz.func155
abbrev F.nG:Nat:=156
theorem fn.nG:P.funcs[F.nG]? = some Tryz.f156:=Tryz.func156
abbrev F.dM:Nat:=157
theorem fn.dM:P.funcs[F.dM]? = some Tryz.f157:=Tryz.func157
abbrev F.dF:Nat:=158
theorem fn.dF:P.funcs[F.dF]? = some Tryz.f158:=Tryz.func158
abbrev F.jD:Nat:=159
theorem fn.jD:P.funcs[F.jD]? = some Tryz.f159:=Tryz.func159
abbrev F.o8:Nat:=160
theorem fn.o8:P.funcs[F.o8]? = some Tryz.f160:=Tryz.func160
abbrev F.rZ:Nat:=161
theorem fn.rZ:P.funcs[F.rZ]? = some Tryz.f161:=Tryz.func161
abbrev F.yH:Nat:=162
theorem fn.yH:P.funcs[F.yH]? = some Tryz.f162:=Tryz.func162
abbrev F.AO:Nat:=163
theorem fn.AO:P.funcs[F.AO]? = some Tryz.f163:=Tryz.func163
abbrev F.Dl:Nat:=164
theorem fn.Dl:P.funcs[F.Dl]? = some Tryz.f164:=Tryz.func164
abbrev F.AP:Nat:=165
theorem fn.AP:P.funcs[F.AP]? = some Tryz.f165:=Tryz.func165
abbrev F.yI:Nat:=166
theorem fn.yI:P.funcs[F.yI]? = some Tryz.f166:=Tryz.func166
abbrev F.AQ:Nat:=168
theorem fn.AQ:P.funcs[F.AQ]? = some Tryz.f168:=Tryz.func168
abbrev F.AU:Nat:=169
theorem fn.AU:P.funcs[F.AU]? = some Tryz.f169:=Tryz.func169
abbrev F.nH:Nat:=173
theorem fn.nH:P.funcs[F.nH]? = some Tryz.f173:=Tryz.func173
abbrev F.qI:Nat:=174
theorem fn.qI:P.funcs[F.qI]? = some Tryz.f174:=Tryz.func174
abbrev F.nI:Nat:=175
theorem fn.nI:P.funcs[F.nI]? = some Tryz.f175:=Tryz.func175
abbrev F.nJ:Nat:=176
theorem fn.nJ:P.funcs[F.nJ]? = some Tryz.f176:=Tryz.func176
abbrev F.ql:Nat:=177
theorem fn.ql:P.funcs[F.ql]? = some Tryz.f177:=Tryz.func177
abbrev F.qU:Nat:=178
theorem fn.qU:P.funcs[F.qU]? = some Tryz.f178:=Tryz.func178
abbrev F.Dn:Nat:=179
theorem fn.Dn:P.funcs[F.Dn]? = some Tryz.f179:=Tryz.func179
abbrev F.iW:Nat:=180
theorem fn.iW:P.funcs[F.iW]? = some Tryz.f180:=Tryz.func180
abbrev F.Dp:Nat:=181
theorem fn.Dp:P.funcs[F.Dp]? = some Tryz.f181:=Tryz.func181
abbrev F.vO:Nat:=182
theorem fn.vO:P.funcs[F.vO]? = some Tryz.f182:=Tryz.func182
abbrev F.kT:Nat:=183
theorem fn.kT:P.funcs[F.kT]? = some Tryz.f183:=Tryz.func183
abbrev F.nK:Nat:=184
theorem fn.nK:P.funcs[F.nK]? = some Tryz.f184:=Tryz.func184
abbrev F.lV:Nat:=185
theorem fn.lV:P.funcs[F.lV]? = some Tryz.f185:=Tryz.func185
abbrev F.oO:Nat:=186
theorem fn.oO:P.funcs[F.oO]? = some Tryz.f186:=Tryz.func186
abbrev F.nM:Nat:=187
theorem fn.nM:P.funcs[F.nM]? = some Tryz.f187:=Tryz.func187
abbrev F.nN:Nat:=188
theorem fn.nN:P.funcs[F.nN]? = some Tryz.f188:=Tryz.func188
abbrev F.cmp_isNaN_int:Nat:=189
theorem fn.cmp_isNaN_int:P.funcs[F.cmp_isNaN_int]? = some Tryz.f189:=Tryz.func189
abbrev F.uz:Nat:=190
theorem fn.uz:P.funcs[F.uz]? = some Tryz.f190:=Tryz.func190
abbrev F.gu:Nat:=193
theorem fn.gu:P.funcs[F.gu]? = some Tryz.f193:=Tryz.func193
abbrev F.qm:Nat:=194
theorem fn.qm:P.funcs[F.qm]? = some Tryz.f194:=Tryz.func194
abbrev F.vP:Nat:=195
theorem fn.vP:P.funcs[F.vP]? = some Tryz.f195:=Tryz.func195
abbrev F.gq:Nat:=196
theorem fn.gq:P.funcs[F.gq]? = some Tryz.f196:=Tryz.func196
abbrev F.kN:Nat:=197
theorem fn.kN:P.funcs[F.kN]? = some Tryz.f197:=Tryz.func197
abbrev F.vS:Nat:=198
theorem fn.vS:P.funcs[F.vS]? = some Tryz.f198:=Tryz.func198
abbrev F.xF:Nat:=199
theorem fn.xF:P.funcs[F.xF]? = some Tryz.f199:=Tryz.func199
abbrev F.gy:Nat:=203
theorem fn.gy:P.funcs[F.gy]? = some Tryz.f203:=Tryz.func203
abbrev F.vT:Nat:=204
theorem fn.vT:P.funcs[F.vT]? = some Tryz.f204:=Tryz.func204
abbrev F.Dq:Nat:=205
theorem fn.Dq:P.funcs[F.Dq]? = some Tryz.f205:=Tryz.func205
abbrev F.AV:Nat:=207
theorem fn.AV:P.funcs[F.AV]? = some Tryz.f207:=Tryz.func207
abbrev F.Dt:Nat:=208
theorem fn.Dt:P.funcs[F.Dt]? = some Tryz.f208:=Tryz.func208
abbrev F.Du:Nat:=209
theorem fn.Du:P.funcs[F.Du]? = some Tryz.f209:=Tryz.func209
abbrev F.xG:Nat:=210
theorem fn.xG:P.funcs[F.xG]? = some Tryz.f210:=Tryz.func210
abbrev F.AX:Nat:=212
theorem fn.AX:P.funcs[F.AX]? = some Tryz.f212:=Tryz.func212
abbrev F.oP:Nat:=214
theorem fn.oP:P.funcs[F.oP]? = some Tryz.f214:=Tryz.func214
abbrev F.jQ:Nat:=215
theorem fn.jQ:P.funcs[F.jQ]? = some Tryz.f215:=Tryz.func215
abbrev F.iy:Nat:=217
theorem fn.iy:P.funcs[F.iy]? = some Tryz.f217:=Tryz.func217
abbrev F.qo:Nat:=218
theorem fn.qo:P.funcs[F.qo]? = some Tryz.f218:=Tryz.func218
abbrev F.dS:Nat:=223
theorem fn.dS:P.funcs[F.dS]? = some Tryz.f223:=Tryz.func223
abbrev F.su:Nat:=226
theorem fn.su:P.funcs[F.su]? = some Tryz.f226:=Tryz.func226
abbrev F.dD:Nat:=227
theorem fn.dD:P.funcs[F.dD]? = some Tryz.f227:=Tryz.func227
abbrev F.dN:Nat:=228
theorem fn.dN:P.funcs[F.dN]? = some Tryz.f228:=Tryz.func228
abbrev F.Dv:Nat:=229
theorem fn.Dv:P.funcs[F.Dv]? = some Tryz.f229:=Tryz.func229
abbrev F.uD:Nat:=232
theorem fn.uD:P.funcs[F.uD]? = some Tryz.f232:=Tryz.func232
abbrev F.jV:Nat:=233
theorem fn.jV:P.funcs[F.jV]? = some Tryz.f233:=Tryz.func233
abbrev F.jW:Nat:=234
theorem fn.jW:P.funcs[F.jW]? = some Tryz.f234:=Tryz.func234
abbrev F.rD:Nat:=235
theorem fn.rD:P.funcs[F.rD]? = some Tryz.f235:=Tryz.func235
abbrev F.jX:Nat:=237
theorem fn.jX:P.funcs[F.jX]? = some Tryz.f237:=Tryz.func237
abbrev F.jY:Nat:=238
theorem fn.jY:P.funcs[F.jY]? = some Tryz.f238:=Tryz.func238
abbrev F.vU:Nat:=239
theorem fn.vU:P.funcs[F.vU]? = some Tryz.f239:=Tryz.func239
abbrev F.zo:Nat:=240
theorem fn.zo:P.funcs[F.zo]? = some Tryz.f240:=Tryz.func240
abbrev F.rE:Nat:=241
theorem fn.rE:P.funcs[F.rE]? = some Tryz.f241:=Tryz.func241
abbrev F.tq:Nat:=243
theorem fn.tq:P.funcs[F.tq]? = some Tryz.f243:=Tryz.func243
abbrev F.iY:Nat:=288
theorem fn.iY:P.funcs[F.iY]? = some Tryz.f288:=Tryz.func288
abbrev T.i64:Nat:=2
theorem ce.i64:jr P 2:=⟨by kernel_rfl,by kernel_rfl⟩
theorem it.i64:JY P 2 .i64:=⟨by kernel_rfl⟩
theorem z.i64:eU P 2 [.d (.sc (.int .i64 0))]:=⟨by kernel_rfl⟩
theorem sz.i64:(P.info? 2).map (·.size)=some 1:=by kernel_rfl
abbrev T.int:Nat:=3
theorem ce.int:jr P 3:=⟨by kernel_rfl,by kernel_rfl⟩
theorem it.int:JY P 3 .i64:=⟨by kernel_rfl⟩
theorem z.int:eU P 3 [.d (.sc (.int .i64 0))]:=⟨by kernel_rfl⟩
theorem sz.int:(P.info? 3).map (·.size)=some 1:=by kernel_rfl
abbrev T.bool:Nat:=4
theorem ce.bool:jr P 4:=⟨by kernel_rfl,by kernel_rfl⟩
theorem bt.bool:KU P 4:=⟨by kernel_rfl⟩
theorem z.bool:eU P 4 [.d (.sc (.bool false))]:=⟨by kernel_rfl⟩
theorem sz.bool:(P.info? 4).map (·.size)=some 1:=by kernel_rfl
abbrev T.u8:Nat:=5
theorem ce.u8:jr P 5:=⟨by kernel_rfl,by kernel_rfl⟩
theorem it.u8:JY P 5 .u8:=⟨by kernel_rfl⟩
theorem z.u8:eU P 5 [.d (.sc (.int .u8 0))]:=⟨by kernel_rfl⟩
theorem sz.u8:(P.info? 5).map (·.size)=some 1:=by kernel_rfl
abbrev T.ints:Nat:=22
theorem sl.ints:bD P 22 3 1 8:=⟨by kernel_rfl,by kernel_rfl,by decide⟩
theorem ce.ints:jr P 22:=⟨by kernel_rfl,by kernel_rfl⟩
theorem z.ints:eU P 22 [.mt]:=⟨by kernel_rfl⟩
theorem sz.ints:(P.info? 22).map (·.size)=some 1:=by kernel_rfl
abbrev T.Ze:Nat:=24
theorem ag.Ze:xK P 24 5:=⟨by kernel_rfl,by kernel_rfl⟩
theorem cc.Ze:jv P 24:=by unfold jv;kernel_rfl
theorem fd.aP1:dG P 24 0 0:=⟨by kernel_rfl⟩
theorem fd.Wl:dG P 24 1 1:=⟨by kernel_rfl⟩
theorem fd.aP2:dG P 24 2 2:=⟨by kernel_rfl⟩
theorem fd.Wn:dG P 24 3 3:=⟨by kernel_rfl⟩
theorem fd.aP3:dG P 24 4 4:=⟨by kernel_rfl⟩
theorem z.Ze:eU P 24 [.d (.sc (.int .i64 0)),.d (.sc (.int .i64 0)),.d (.sc (.bool false)),.d (.sc (.bool false)),.mt]:=⟨by kernel_rfl⟩
theorem pl.Ze:kP P 24 [(0,1),(1,1),(2,1),(3,1),(4,1)]:=⟨by kernel_rfl⟩
theorem sz.Ze:(P.info? 24).map (·.size)=some 5:=by kernel_rfl
abbrev T.Ring:Nat:=27
theorem ag.Ring:xK P 27 2:=⟨by kernel_rfl,by kernel_rfl⟩
theorem cc.Ring:jv P 27:=by unfold jv;kernel_rfl
theorem fd.nZ:dG P 27 0 0:=⟨by kernel_rfl⟩
theorem fd.LZ:dG P 27 1 1:=⟨by kernel_rfl⟩
theorem z.Ring:eU P 27 [.d (.sc (.int .i64 0)),.mt]:=⟨by kernel_rfl⟩
theorem pl.Ring:kP P 27 [(0,1),(1,1)]:=⟨by kernel_rfl⟩
theorem sz.Ring:(P.info? 27).map (·.size)=some 2:=by kernel_rfl
abbrev T.aU:Nat:=28
theorem sl.aU:bD P 28 60 8 128:=⟨by kernel_rfl,by kernel_rfl,by decide⟩
theorem ce.aU:jr P 28:=⟨by kernel_rfl,by kernel_rfl⟩
theorem z.aU:eU P 28 [.mt]:=⟨by kernel_rfl⟩
theorem sz.aU:(P.info? 28).map (·.size)=some 1:=by kernel_rfl
abbrev T.dH:Nat:=29
theorem sl.dH:bD P 29 65 11 152:=⟨by kernel_rfl,by kernel_rfl,by decide⟩
theorem ce.dH:jr P 29:=⟨by kernel_rfl,by kernel_rfl⟩
theorem z.dH:eU P 29 [.mt]:=⟨by kernel_rfl⟩
theorem sz.dH:(P.info? 29).map (·.size)=some 1:=by kernel_rfl
abbrev T.Auto:Nat:=31
theorem ag.Auto:xK P 31 7:=⟨by kernel_rfl,by kernel_rfl⟩
theorem cc.Auto:jv P 31:=by unfold jv;kernel_rfl
theorem fd.iZ:dG P 31 0 0:=⟨by kernel_rfl⟩
theorem fd.qp:dG P 31 1 2:=⟨by kernel_rfl⟩
theorem fd.mF:dG P 31 2 3:=⟨by kernel_rfl⟩
theorem fd.vV:dG P 31 3 4:=⟨by kernel_rfl⟩
theorem fd.wR:dG P 31 4 5:=⟨by kernel_rfl⟩
theorem fd.jJ:dG P 31 5 6:=⟨by kernel_rfl⟩
theorem z.Auto:eU P 31 [.d (.sc (.int .i64 0)),.mt,.d (.sc (.int .i64 0)),.d (.sc (.int .i64 0)),.mt,.mt,.mt]:=⟨by kernel_rfl⟩
theorem pl.Auto:kP P 31 [(0,2),(2,1),(3,1),(4,1),(5,1),(6,1)]:=⟨by kernel_rfl⟩
theorem sz.Auto:(P.info? 31).map (·.size)=some 7:=by kernel_rfl
abbrev T.bQ:Nat:=36
theorem sl.bQ:bD P 36 45 3 56:=⟨by kernel_rfl,by kernel_rfl,by decide⟩
theorem ce.bQ:jr P 36:=⟨by kernel_rfl,by kernel_rfl⟩
theorem z.bQ:eU P 36 [.mt]:=⟨by kernel_rfl⟩
theorem sz.bQ:(P.info? 36).map (·.size)=some 1:=by kernel_rfl
abbrev T.aH:Nat:=43
theorem sl.aH:bD P 43 132 1 4:=⟨by kernel_rfl,by kernel_rfl,by decide⟩
theorem ce.aH:jr P 43:=⟨by kernel_rfl,by kernel_rfl⟩
theorem z.aH:eU P 43 [.mt]:=⟨by kernel_rfl⟩
theorem sz.aH:(P.info? 43).map (·.size)=some 1:=by kernel_rfl
abbrev T.Rat:Nat:=45
theorem ag.Rat:xK P 45 3:=⟨by kernel_rfl,by kernel_rfl⟩
theorem cc.Rat:jv P 45:=by unfold jv;kernel_rfl
theorem fd.tZ:dG P 45 0 0:=⟨by kernel_rfl⟩
theorem fd.sQ:dG P 45 1 1:=⟨by kernel_rfl⟩
theorem fd.oD:dG P 45 2 2:=⟨by kernel_rfl⟩
theorem z.Rat:eU P 45 [.d (.sc (.bool false)),.mt,.mt]:=⟨by kernel_rfl⟩
theorem pl.Rat:kP P 45 [(0,1),(1,1),(2,1)]:=⟨by kernel_rfl⟩
theorem sz.Rat:(P.info? 45).map (·.size)=some 3:=by kernel_rfl
abbrev T.fQ:Nat:=48
theorem sl.fQ:bD P 48 22 1 24:=⟨by kernel_rfl,by kernel_rfl,by decide⟩
theorem ce.fQ:jr P 48:=⟨by kernel_rfl,by kernel_rfl⟩
theorem z.fQ:eU P 48 [.mt]:=⟨by kernel_rfl⟩
theorem sz.fQ:(P.info? 48).map (·.size)=some 1:=by kernel_rfl
abbrev T.Tape:Nat:=56
theorem ag.Tape:xK P 56 2:=⟨by kernel_rfl,by kernel_rfl⟩
theorem cc.Tape:jv P 56:=by unfold jv;kernel_rfl
theorem fd.Wp:dG P 56 0 0:=⟨by kernel_rfl⟩
theorem fd.L6:dG P 56 1 1:=⟨by kernel_rfl⟩
theorem z.Tape:eU P 56 [.mt,.d (.sc (.int .i64 0))]:=⟨by kernel_rfl⟩
theorem pl.Tape:kP P 56 [(0,1),(1,1)]:=⟨by kernel_rfl⟩
theorem sz.Tape:(P.info? 56).map (·.size)=some 2:=by kernel_rfl
abbrev T.u64:Nat:=57
theorem ce.u64:jr P 57:=⟨by kernel_rfl,by kernel_rfl⟩
theorem it.u64:JY P 57 .u64:=⟨by kernel_rfl⟩
theorem z.u64:eU P 57 [.d (.sc (.int .u64 0))]:=⟨by kernel_rfl⟩
theorem sz.u64:(P.info? 57).map (·.size)=some 1:=by kernel_rfl
abbrev T.iC:Nat:=58
theorem sl.iC:bD P 58 233 6 80:=⟨by kernel_rfl,by kernel_rfl,by decide⟩
theorem ce.iC:jr P 58:=⟨by kernel_rfl,by kernel_rfl⟩
theorem z.iC:eU P 58 [.mt]:=⟨by kernel_rfl⟩
theorem sz.iC:(P.info? 58).map (·.size)=some 1:=by kernel_rfl
abbrev T.aA:Nat:=60
theorem ag.aA:xK P 60 8:=⟨by kernel_rfl,by kernel_rfl⟩
theorem cc.aA:jv P 60:=by unfold jv;kernel_rfl
theorem fd.gK:dG P 60 0 0:=⟨by kernel_rfl⟩
theorem fd.BB:dG P 60 1 3:=⟨by kernel_rfl⟩
theorem fd.zA:dG P 60 2 4:=⟨by kernel_rfl⟩
theorem fd.BD:dG P 60 3 5:=⟨by kernel_rfl⟩
theorem fd.BF:dG P 60 4 6:=⟨by kernel_rfl⟩
theorem fd.zB:dG P 60 5 7:=⟨by kernel_rfl⟩
theorem z.aA:eU P 60 [.d (.sc (.bool false)),.mt,.mt,.d (.sc (.int .i64 0)),.d (.sc (.bool false)),.d (.sc (.int .u64 0)),.mt,.mt]:=⟨by kernel_rfl⟩
theorem pl.aA:kP P 60 [(0,3),(3,1),(4,1),(5,1),(6,1),(7,1)]:=⟨by kernel_rfl⟩
theorem sz.aA:(P.info? 60).map (·.size)=some 8:=by kernel_rfl
abbrev T.pO:Nat:=65
theorem ag.pO:xK P 65 11:=⟨by kernel_rfl,by kernel_rfl⟩
theorem cc.pO:jv P 65:=by unfold jv;kernel_rfl
theorem fd.zC:dG P 65 0 0:=⟨by kernel_rfl⟩
theorem fd.AY:dG P 65 1 1:=⟨by kernel_rfl⟩
theorem fd.zD:dG P 65 2 2:=⟨by kernel_rfl⟩
theorem fd.uS:dG P 65 3 3:=⟨by kernel_rfl⟩
theorem z.pO:eU P 65 [.d (.sc (.int .i64 0)),.d (.sc (.int .i64 0)),.d (.sc (.int .i64 0)),.d (.sc (.bool false)),.mt,.mt,.d (.sc (.int .i64 0)),.d (.sc (.bool false)),.d (.sc (.int .u64 0)),.mt,.mt]:=⟨by kernel_rfl⟩
theorem pl.pO:kP P 65 [(0,1),(1,1),(2,1),(3,8)]:=⟨by kernel_rfl⟩
theorem sz.pO:(P.info? 65).map (·.size)=some 11:=by kernel_rfl
abbrev T.fK:Nat:=67
theorem sl.fK:bD P 67 36 1 24:=⟨by kernel_rfl,by kernel_rfl,by decide⟩
theorem ce.fK:jr P 67:=⟨by kernel_rfl,by kernel_rfl⟩
theorem z.fK:eU P 67 [.mt]:=⟨by kernel_rfl⟩
theorem sz.fK:(P.info? 67).map (·.size)=some 1:=by kernel_rfl
abbrev T.sample:Nat:=77
theorem ag.sample:xK P 77 4:=⟨by kernel_rfl,by kernel_rfl⟩
theorem cc.sample:jv P 77:=by unfold jv;kernel_rfl
theorem fd.Ht:dG P 77 2 2:=⟨by kernel_rfl⟩
theorem fd.L8:dG P 77 3 3:=⟨by kernel_rfl⟩
theorem z.sample:eU P 77 [.d (.sc (.int .i64 0)),.d (.sc (.int .i64 0)),.mt,.mt]:=⟨by kernel_rfl⟩
theorem pl.sample:kP P 77 [(0,1),(1,1),(2,1),(3,1)]:=⟨by kernel_rfl⟩
theorem sz.sample:(P.info? 77).map (·.size)=some 4:=by kernel_rfl
abbrev T.vX:Nat:=82
theorem ag.vX:xK P 82 3:=⟨by kernel_rfl,by kernel_rfl⟩
theorem cc.vX:jv P 82:=by unfold jv;kernel_rfl
theorem fd.BG:dG P 82 0 0:=⟨by kernel_rfl⟩
theorem fd.L9:dG P 82 1 1:=⟨by kernel_rfl⟩
theorem fd.Md:dG P 82 2 2:=⟨by kernel_rfl⟩
theorem z.vX:eU P 82 [.mt,.mt,.mt]:=⟨by kernel_rfl⟩
theorem pl.vX:kP P 82 [(0,1),(1,1),(2,1)]:=⟨by kernel_rfl⟩
theorem sz.vX:(P.info? 82).map (·.size)=some 3:=by kernel_rfl
abbrev T.mG:Nat:=126
theorem sl.mG:bD P 126 67 1 24:=⟨by kernel_rfl,by kernel_rfl,by decide⟩
theorem ce.mG:jr P 126:=⟨by kernel_rfl,by kernel_rfl⟩
theorem z.mG:eU P 126 [.mt]:=⟨by kernel_rfl⟩
theorem sz.mG:(P.info? 126).map (·.size)=some 1:=by kernel_rfl
abbrev T.Machine:Nat:=128
theorem ag.Machine:xK P 128 3:=⟨by kernel_rfl,by kernel_rfl⟩
theorem cc.Machine:jv P 128:=by unfold jv;kernel_rfl
theorem fd.wS:dG P 128 0 0:=⟨by kernel_rfl⟩
theorem fd.BH:dG P 128 1 1:=⟨by kernel_rfl⟩
theorem fd.uT:dG P 128 2 2:=⟨by kernel_rfl⟩
theorem z.Machine:eU P 128 [.mt,.mt,.mt]:=⟨by kernel_rfl⟩
theorem pl.Machine:kP P 128 [(0,1),(1,1),(2,1)]:=⟨by kernel_rfl⟩
theorem sz.Machine:(P.info? 128).map (·.size)=some 3:=by kernel_rfl
abbrev T.u32:Nat:=132
theorem ce.u32:jr P 132:=⟨by kernel_rfl,by kernel_rfl⟩
theorem it.u32:JY P 132 .u32:=⟨by kernel_rfl⟩
theorem z.u32:eU P 132 [.d (.sc (.int .u32 0))]:=⟨by kernel_rfl⟩
theorem sz.u32:(P.info? 132).map (·.size)=some 1:=by kernel_rfl
abbrev T.uint:Nat:=133
theorem ce.uint:jr P 133:=⟨by kernel_rfl,by kernel_rfl⟩
theorem it.uint:JY P 133 .u64:=⟨by kernel_rfl⟩
theorem z.uint:eU P 133 [.d (.sc (.int .u64 0))]:=⟨by kernel_rfl⟩
theorem sz.uint:(P.info? 133).map (·.size)=some 1:=by kernel_rfl
abbrev T.limbs:Nat:=145
theorem sl.limbs:bD P 145 132 1 4:=⟨by kernel_rfl,by kernel_rfl,by decide⟩
theorem ce.limbs:jr P 145:=⟨by kernel_rfl,by kernel_rfl⟩
theorem z.limbs:eU P 145 [.mt]:=⟨by kernel_rfl⟩
theorem sz.limbs:(P.info? 145).map (·.size)=some 1:=by kernel_rfl
abbrev T.fraction:Nat:=149
theorem ag.fraction:xK P 149 3:=⟨by kernel_rfl,by kernel_rfl⟩
theorem cc.fraction:jv P 149:=by unfold jv;kernel_rfl
theorem fd.jK:dG P 149 0 0:=⟨by kernel_rfl⟩
theorem fd.lK:dG P 149 1 1:=⟨by kernel_rfl⟩
theorem fd.oh:dG P 149 2 2:=⟨by kernel_rfl⟩
theorem z.fraction:eU P 149 [.d (.sc (.bool false)),.mt,.mt]:=⟨by kernel_rfl⟩
theorem pl.fraction:kP P 149 [(0,1),(1,1),(2,1)]:=⟨by kernel_rfl⟩
theorem sz.fraction:(P.info? 149).map (·.size)=some 3:=by kernel_rfl
abbrev T.sU:Nat:=171
theorem sl.sU:bD P 171 31 7 120:=⟨by kernel_rfl,by kernel_rfl,by decide⟩
theorem ce.sU:jr P 171:=⟨by kernel_rfl,by kernel_rfl⟩
theorem z.sU:eU P 171 [.mt]:=⟨by kernel_rfl⟩
theorem sz.sU:(P.info? 171).map (·.size)=some 1:=by kernel_rfl
abbrev T.Space:Nat:=177
theorem ag.Space:xK P 177 3:=⟨by kernel_rfl,by kernel_rfl⟩
theorem cc.Space:jv P 177:=by unfold jv;kernel_rfl
theorem fd.KF:dG P 177 0 0:=⟨by kernel_rfl⟩
theorem fd.QZ:dG P 177 1 1:=⟨by kernel_rfl⟩
theorem fd.KG:dG P 177 2 2:=⟨by kernel_rfl⟩
theorem z.Space:eU P 177 [.mt,.mt,.mt]:=⟨by kernel_rfl⟩
theorem pl.Space:kP P 177 [(0,1),(1,1),(2,1)]:=⟨by kernel_rfl⟩
theorem sz.Space:(P.info? 177).map (·.size)=some 3:=by kernel_rfl
abbrev T.Row:Nat:=180
theorem ag.Row:xK P 180 2:=⟨by kernel_rfl,by kernel_rfl⟩
theorem cc.Row:jv P 180:=by unfold jv;kernel_rfl
theorem fd.aK1:dG P 180 0 0:=⟨by kernel_rfl⟩
theorem fd.ah1:dG P 180 1 1:=⟨by kernel_rfl⟩
theorem z.Row:eU P 180 [.mt,.mt]:=⟨by kernel_rfl⟩
theorem pl.Row:kP P 180 [(0,1),(1,1)]:=⟨by kernel_rfl⟩
theorem sz.Row:(P.info? 180).map (·.size)=some 2:=by kernel_rfl
abbrev T.Rows:Nat:=205
theorem sl.Rows:bD P 205 180 2 48:=⟨by kernel_rfl,by kernel_rfl,by decide⟩
theorem ce.Rows:jr P 205:=⟨by kernel_rfl,by kernel_rfl⟩
theorem z.Rows:eU P 205 [.mt]:=⟨by kernel_rfl⟩
theorem sz.Rows:(P.info? 205).map (·.size)=some 1:=by kernel_rfl
abbrev T.algebra:Nat:=221
theorem ag.algebra:xK P 221 9:=⟨by kernel_rfl,by kernel_rfl⟩
theorem cc.algebra:jv P 221:=by unfold jv;kernel_rfl
theorem fd.O6:dG P 221 0 0:=⟨by kernel_rfl⟩
theorem fc.O6:Cf P 221 0 0:=⟨by kernel_rfl⟩
theorem fd.O7:dG P 221 1 1:=⟨by kernel_rfl⟩
theorem fc.O7:Cf P 221 1 1:=⟨by kernel_rfl⟩
theorem fd.O8:dG P 221 3 3:=⟨by kernel_rfl⟩
theorem fc.O8:Cf P 221 3 3:=⟨by kernel_rfl⟩
theorem fd.O9:dG P 221 4 4:=⟨by kernel_rfl⟩
theorem fc.O9:Cf P 221 4 4:=⟨by kernel_rfl⟩
theorem z.algebra:eU P 221 [.d (.sc .nilFunc),.d (.sc .nilFunc),.d (.sc .nilFunc),.d (.sc .nilFunc),.d (.sc .nilFunc),.d (.sc .nilFunc),.d (.sc .nilFunc),.d (.sc .nilFunc),.d (.sc .nilFunc)]:=⟨by kernel_rfl⟩
theorem pl.algebra:kP P 221 [(0,1),(1,1),(2,1),(3,1),(4,1),(5,1),(6,1),(7,1),(8,1)]:=⟨by kernel_rfl⟩
theorem sz.algebra:(P.info? 221).map (·.size)=some 9:=by kernel_rfl
abbrev T.rows:Nat:=113
theorem sl.rows:bD P 113 115 2 48:=⟨by kernel_rfl,by kernel_rfl,by decide⟩
theorem ce.rows:jr P 113:=⟨by kernel_rfl,by kernel_rfl⟩
theorem z.rows:eU P 113 [.mt]:=⟨by kernel_rfl⟩
theorem sz.rows:(P.info? 113).map (·.size)=some 1:=by kernel_rfl
abbrev T.row:Nat:=115
theorem ag.row:xK P 115 2:=⟨by kernel_rfl,by kernel_rfl⟩
theorem cc.row:jv P 115:=by unfold jv;kernel_rfl
theorem z.row:eU P 115 [.mt,.mt]:=⟨by kernel_rfl⟩
theorem pl.row:kP P 115 [(0,1),(1,1)]:=⟨by kernel_rfl⟩
theorem sz.row:(P.info? 115).map (·.size)=some 2:=by kernel_rfl
abbrev T.Zf:Nat:=66
theorem ce.Zf:jr P 66:=⟨by kernel_rfl,by kernel_rfl⟩
theorem z.Zf:eU P 66 [.d (.sc .nilFunc)]:=⟨by kernel_rfl⟩
theorem sz.Zf:(P.info? 66).map (·.size)=some 1:=by kernel_rfl
abbrev T.KH:Nat:=66
theorem ce.KH:jr P 66:=ce.Zf
theorem z.KH:eU P 66 [.d (.sc .nilFunc)]:=z.Zf
theorem sz.KH:(P.info? 66).map (·.size)=some 1:=sz.Zf
abbrev T.zF:Nat:=174
theorem sl.zF:bD P 174 66 1 8:=⟨by kernel_rfl,by kernel_rfl,by decide⟩
theorem ce.zF:jr P 174:=⟨by kernel_rfl,by kernel_rfl⟩
theorem z.zF:eU P 174 [.mt]:=⟨by kernel_rfl⟩
theorem sz.zF:(P.info? 174).map (·.size)=some 1:=by kernel_rfl
abbrev T.Eg:Nat:=175
theorem ce.Eg:jr P 175:=⟨by kernel_rfl,by kernel_rfl⟩
theorem cc.Eg:jv P 175:=by unfold jv;kernel_rfl
theorem z.Eg:eU P 175 [.d (.sc (.pointer none))]:=⟨by kernel_rfl⟩
theorem sz.Eg:(P.info? 175).map (·.size)=some 1:=by kernel_rfl
theorem st.str:P.underlying 9=some .string:=by kernel_rfl
