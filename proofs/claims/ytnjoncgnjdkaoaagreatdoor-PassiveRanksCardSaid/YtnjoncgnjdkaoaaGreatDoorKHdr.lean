/-
  Names for the functions of this seat, and facts on its types (printed by hdr.py).
-/
import Derived.Test.YtnjoncgnjdkaoaaGreatDoorChecked
import Derived.KernelRfl
import Derived.Test.YtnjoncgnjdkaoaaGreatDoorKAlg37
set_option linter.unusedVariables false
set_option linter.unusedSimpArgs false
namespace Go.Proofs.YtnjoncgnjdkaoaaGreatDoor
open Go Go.AL
noncomputable abbrev P:Program:=Tryz.prog
theorem au:P.follows .mixedOrders=true:=by kernel_rfl
abbrev F.oI:Nat:=3
theorem fn.oI:P.funcs[F.oI]? = some Tryz.f3:=Tryz.func3
abbrev F.jA:Nat:=5
theorem fn.jA:P.funcs[F.jA]? = some Tryz.f5:=Tryz.func5
abbrev F.sU:Nat:=6
theorem fn.sU:P.funcs[F.sU]? = some Tryz.f6:=Tryz.func6
abbrev F.tN:Nat:=7
theorem fn.tN:P.funcs[F.tN]? = some Tryz.f7:=Tryz.func7
abbrev F.xR:Nat:=8
theorem fn.xR:P.funcs[F.xR]? = some Tryz.f8:=Tryz.func8
abbrev F.oJ:Nat:=9
theorem fn.oJ:P.funcs[F.oJ]? = some Tryz.f9:=Tryz.func9
abbrev F.zQ:Nat:=10
theorem fn.zQ:P.funcs[F.zQ]? = some Tryz.f10:=Tryz.func10
abbrev F.AY:Nat:=12
theorem fn.AY:P.funcs[F.AY]? = some Tryz.f12:=Tryz.func12
abbrev F.zU:Nat:=13
theorem fn.zU:P.funcs[F.zU]? = some Tryz.f13:=Tryz.func13
abbrev F.zV:Nat:=14
theorem fn.zV:P.funcs[F.zV]? = some Tryz.f14:=Tryz.func14
abbrev F.o7:Nat:=15
theorem fn.o7:P.funcs[F.o7]? = some Tryz.f15:=Tryz.func15
abbrev F.xU:Nat:=16
theorem fn.xU:P.funcs[F.xU]? = some Tryz.f16:=Tryz.func16
abbrev F.sV:Nat:=17
theorem fn.sV:P.funcs[F.sV]? = some Tryz.f17:=Tryz.func17
abbrev F.Cf:Nat:=18
theorem fn.Cf:P.funcs[F.Cf]? = some Tryz.f18:=Tryz.func18
abbrev F.zW:Nat:=19
theorem fn.zW:P.funcs[F.zW]? = some Tryz.f19:=Tryz.func19
abbrev F.uh:Nat:=20
theorem fn.uh:P.funcs[F.uh]? = some Tryz.f20:=Tryz.func20
abbrev F.vS:Nat:=21
theorem fn.vS:P.funcs[F.vS]? = some Tryz.f21:=Tryz.func21
abbrev F.EK:Nat:=22
theorem fn.EK:P.funcs[F.EK]? = some Tryz.f22:=Tryz.func22
abbrev F.xW:Nat:=23
theorem fn.xW:P.funcs[F.xW]? = some Tryz.f23:=Tryz.func23
abbrev F.qR:Nat:=24
theorem fn.qR:P.funcs[F.qR]? = some Tryz.f24:=Tryz.func24
abbrev F.sW:Nat:=25
theorem fn.sW:P.funcs[F.sW]? = some Tryz.f25:=Tryz.func25
abbrev F.l7:Nat:=26
theorem fn.l7:P.funcs[F.l7]? = some Tryz.f26:=Tryz.func26
abbrev F.lF:Nat:=27
theorem fn.lF:P.funcs[F.lF]? = some Tryz.f27:=Tryz.func27
abbrev F.kP:Nat:=28
theorem fn.kP:P.funcs[F.kP]? = some Tryz.f28:=Tryz.func28
abbrev F.rZ:Nat:=29
theorem fn.rZ:P.funcs[F.rZ]? = some Tryz.f29:=Tryz.func29
abbrev F.pR:Nat:=31
theorem fn.pR:P.funcs[F.pR]? = some Tryz.f31:=Tryz.func31
abbrev F.l9:Nat:=32
theorem fn.l9:P.funcs[F.l9]? = some Tryz.f32:=Tryz.func32
abbrev F.iy:Nat:=33
theorem fn.iy:P.funcs[F.iy]? = some Tryz.f33:=Tryz.func33
abbrev F.yQ:Nat:=34
theorem fn.yQ:P.funcs[F.yQ]? = some Tryz.f34:=Tryz.func34
abbrev F.xg:Nat:=35
theorem fn.xg:P.funcs[F.xg]? = some Tryz.f35:=Tryz.func35
abbrev F.EL:Nat:=36
theorem fn.EL:P.funcs[F.EL]? = some Tryz.f36:=Tryz.func36
abbrev F.Ci:Nat:=37
theorem fn.Ci:P.funcs[F.Ci]? = some Tryz.f37:=Tryz.func37
abbrev F.yR:Nat:=38
theorem fn.yR:P.funcs[F.yR]? = some Tryz.f38:=Tryz.func38
abbrev F.wE:Nat:=39
theorem fn.wE:P.funcs[F.wE]? = some Tryz.f39:=Tryz.func39
abbrev F.xh:Nat:=40
theorem fn.xh:P.funcs[F.xh]? = some Tryz.f40:=Tryz.func40
abbrev F.Cj:Nat:=41
theorem fn.Cj:P.funcs[F.Cj]? = some Tryz.f41:=Tryz.func41
abbrev F.mg:Nat:=42
theorem fn.mg:P.funcs[F.mg]? = some Tryz.f42:=Tryz.func42
abbrev F.lg:Nat:=43
theorem fn.lg:P.funcs[F.lg]? = some Tryz.f43:=Tryz.func43
abbrev F.nD:Nat:=44
theorem fn.nD:P.funcs[F.nD]? = some Tryz.f44:=Tryz.func44
abbrev F.mr:Nat:=45
theorem fn.mr:P.funcs[F.mr]? = some Tryz.f45:=Tryz.func45
abbrev F.iw:Nat:=46
theorem fn.iw:P.funcs[F.iw]? = some Tryz.f46:=Tryz.func46
abbrev F.kU:Nat:=47
theorem fn.kU:P.funcs[F.kU]? = some Tryz.f47:=Tryz.func47
abbrev F.qU:Nat:=48
theorem fn.qU:P.funcs[F.qU]? = some Tryz.f48:=Tryz.func48
abbrev F.zX:Nat:=49
theorem fn.zX:P.funcs[F.zX]? = some Tryz.f49:=Tryz.func49
abbrev F.zY:Nat:=51
theorem fn.zY:P.funcs[F.zY]? = some Tryz.f51:=Tryz.func51
abbrev F.zZ:Nat:=52
theorem fn.zZ:P.funcs[F.zZ]? = some Tryz.f52:=Tryz.func52
abbrev F.qy:Nat:=53
theorem fn.qy:P.funcs[F.qy]? = some Tryz.f53:=Tryz.func53
abbrev F.Cm:Nat:=54
theorem fn.Cm:P.funcs[F.Cm]? = some Tryz.f54:=Tryz.func54
abbrev F.wF:Nat:=55
theorem fn.wF:P.funcs[F.wF]? = some Tryz.f55:=Tryz.func55
abbrev F.wG:Nat:=56
theorem fn.wG:P.funcs[F.wG]? = some Tryz.f56:=Tryz.func56
abbrev F.EM:Nat:=57
theorem fn.EM:P.funcs[F.EM]? = some Tryz.f57:=Tryz.func57
abbrev F.Aa:Nat:=58
theorem fn.Aa:P.funcs[F.Aa]? = some Tryz.f58:=Tryz.func58
abbrev F.xX:Nat:=59
theorem fn.xX:P.funcs[F.xX]? = some Tryz.f59:=Tryz.func59
abbrev F.CB:Nat:=60
theorem fn.CB:P.funcs[F.CB]? = some Tryz.f60:=Tryz.func60
abbrev F.wH:Nat:=61
theorem fn.wH:P.funcs[F.wH]? = some Tryz.f61:=Tryz.func61
abbrev F.EN:Nat:=62
theorem fn.EN:P.funcs[F.EN]? = some Tryz.f62:=Tryz.func62
abbrev F.jB:Nat:=63
theorem fn.jB:P.funcs[F.jB]? = some Tryz.f63:=Tryz.func63
abbrev F.oK:Nat:=64
theorem fn.oK:P.funcs[F.oK]? = some Tryz.f64:=Tryz.func64
abbrev F.oL:Nat:=65
theorem fn.oL:P.funcs[F.oL]? = some Tryz.f65:=Tryz.func65
abbrev F.xY:Nat:=66
theorem fn.xY:P.funcs[F.xY]? = some Tryz.f66:=Tryz.func66
abbrev F.yS:Nat:=67
theorem fn.yS:P.funcs[F.yS]? = some Tryz.f67:=Tryz.func67
abbrev F.AZ:Nat:=68
theorem fn.AZ:P.funcs[F.AZ]? = some Tryz.f68:=Tryz.func68
abbrev F.wI:Nat:=72
theorem fn.wI:P.funcs[F.wI]? = some Tryz.f72:=Tryz.func72
abbrev F.CG:Nat:=73
theorem fn.CG:P.funcs[F.CG]? = some Tryz.f73:=Tryz.func73
abbrev F.jF:Nat:=74
theorem fn.jF:P.funcs[F.jF]? = some Tryz.f74:=Tryz.func74
abbrev F.mD:Nat:=75
theorem fn.mD:P.funcs[F.mD]? = some Tryz.f75:=Tryz.func75
abbrev F.jq:Nat:=76
theorem fn.jq:P.funcs[F.jq]? = some Tryz.f76:=Tryz.func76
abbrev F.xk:Nat:=77
theorem fn.xk:P.funcs[F.xk]? = some Tryz.f77:=Tryz.func77
abbrev F.CJ:Nat:=78
theorem fn.CJ:P.funcs[F.CJ]? = some Tryz.f78:=Tryz.func78
abbrev F.wJ:Nat:=79
theorem fn.wJ:P.funcs[F.wJ]? = some Tryz.f79:=Tryz.func79
abbrev F.xZ:Nat:=80
theorem fn.xZ:P.funcs[F.xZ]? = some Tryz.f80:=Tryz.func80
abbrev F.A7:Nat:=81
theorem fn.A7:P.funcs[F.A7]? = some Tryz.f81:=Tryz.func81
abbrev F.CO:Nat:=82
theorem fn.CO:P.funcs[F.CO]? = some Tryz.f82:=Tryz.func82
abbrev F.CP:Nat:=83
theorem fn.CP:P.funcs[F.CP]? = some Tryz.f83:=Tryz.func83
abbrev F.wK:Nat:=84
theorem fn.wK:P.funcs[F.wK]? = some Tryz.f84:=Tryz.func84
abbrev F.uK:Nat:=85
theorem fn.uK:P.funcs[F.uK]? = some Tryz.f85:=Tryz.func85
abbrev F.fF:Nat:=86
theorem fn.fF:P.funcs[F.fF]? = some Tryz.f86:=Tryz.func86
abbrev F.iZ:Nat:=87
theorem fn.iZ:P.funcs[F.iZ]? = some Tryz.f87:=Tryz.func87
abbrev F.kQ:Nat:=88
theorem fn.kQ:P.funcs[F.kQ]? = some Tryz.f88:=Tryz.func88
abbrev F.lm:Nat:=89
theorem fn.lm:P.funcs[F.lm]? = some Tryz.f89:=Tryz.func89
abbrev F.lG:Nat:=90
theorem fn.lG:P.funcs[F.lG]? = some Tryz.f90:=Tryz.func90
abbrev F.eX:Nat:=91
theorem fn.eX:P.funcs[F.eX]? = some Tryz.f91:=Tryz.func91
abbrev F.su:Nat:=92
theorem fn.su:P.funcs[F.su]? = some Tryz.f92:=Tryz.func92
abbrev F.gJ:Nat:=93
theorem fn.gJ:P.funcs[F.gJ]? = some Tryz.f93:=Tryz.func93
abbrev F.sZ:Nat:=94
theorem fn.sZ:P.funcs[F.sZ]? = some Tryz.f94:=Tryz.func94
abbrev F.uM:Nat:=95
theorem fn.uM:P.funcs[F.uM]? = some Tryz.f95:=Tryz.func95
abbrev F.uN:Nat:=96
theorem fn.uN:P.funcs[F.uN]? = some Tryz.f96:=Tryz.func96
abbrev F.uO:Nat:=97
theorem fn.uO:P.funcs[F.uO]? = some Tryz.f97:=Tryz.func97
abbrev F.uP:Nat:=98
theorem fn.uP:P.funcs[F.uP]? = some Tryz.f98:=Tryz.func98
abbrev F.G6:Nat:=99
theorem fn.G6:P.funcs[F.G6]? = some Tryz.f99:=Tryz.func99
abbrev F.wL:Nat:=100
theorem fn.wL:P.funcs[F.wL]? = some Tryz.f100:=Tryz.func100
abbrev F.Ac:Nat:=101
theorem fn.Ac:P.funcs[F.Ac]? = some Tryz.f101:=Tryz.func101
abbrev F.yT:Nat:=102
theorem fn.yT:P.funcs[F.yT]? = some Tryz.f102:=Tryz.func102
abbrev F.wM:Nat:=103
theorem fn.wM:P.funcs[F.wM]? = some Tryz.f103:=Tryz.func103
abbrev F.CQ:Nat:=104
theorem fn.CQ:P.funcs[F.CQ]? = some Tryz.f104:=Tryz.func104
abbrev F.CS:Nat:=105
theorem fn.CS:P.funcs[F.CS]? = some Tryz.f105:=Tryz.func105
abbrev F.CU:Nat:=106
theorem fn.CU:P.funcs[F.CU]? = some Tryz.f106:=Tryz.func106
abbrev F.yU:Nat:=107
theorem fn.yU:P.funcs[F.yU]? = some Tryz.f107:=Tryz.func107
abbrev F.CV:Nat:=108
theorem fn.CV:P.funcs[F.CV]? = some Tryz.f108:=Tryz.func108
abbrev F.wO:Nat:=109
theorem fn.wO:P.funcs[F.wO]? = some Tryz.f109:=Tryz.func109
abbrev F.A8:Nat:=110
theorem fn.A8:P.funcs[F.A8]? = some Tryz.f110:=Tryz.func110
abbrev F.CW:Nat:=111
theorem fn.CW:P.funcs[F.CW]? = some Tryz.f111:=Tryz.func111
abbrev F.Ba:Nat:=112
theorem fn.Ba:P.funcs[F.Ba]? = some Tryz.f112:=Tryz.func112
abbrev F.CX:Nat:=113
theorem fn.CX:P.funcs[F.CX]? = some Tryz.f113:=Tryz.func113
abbrev F.Ad:Nat:=114
theorem fn.Ad:P.funcs[F.Ad]? = some Tryz.f114:=Tryz.func114
abbrev F.CY:Nat:=115
theorem fn.CY:P.funcs[F.CY]? = some Tryz.f115:=Tryz.func115
abbrev F.CZ:Nat:=116
theorem fn.CZ:P.funcs[F.CZ]? = some Tryz.f116:=Tryz.func116
abbrev F.Ae:Nat:=117
theorem fn.Ae:P.funcs[F.Ae]? = some Tryz.f117:=Tryz.func117
abbrev F.pU:Nat:=118
theorem fn.pU:P.funcs[F.pU]? = some Tryz.f118:=Tryz.func118
abbrev F.mF:Nat:=119
theorem fn.mF:P.funcs[F.mF]? = some Tryz.f119:=Tryz.func119
abbrev F.ja:Nat:=120
theorem fn.ja:P.funcs[F.ja]? = some Tryz.f120:=Tryz.func120
abbrev F.EO:Nat:=121
theorem fn.EO:P.funcs[F.EO]? = some Tryz.f121:=Tryz.func121
abbrev F.Af:Nat:=126
theorem fn.Af:P.funcs[F.Af]? = some Tryz.f126:=Tryz.func126
abbrev F.uQ:Nat:=133
theorem fn.uQ:P.funcs[F.uQ]? = some Tryz.f133:=Tryz.func133
abbrev F.vT:Nat:=134
theorem fn.vT:P.funcs[F.vT]? = some Tryz.f134:=Tryz.func134
abbrev F.jV:Nat:=135
theorem fn.jV:P.funcs[F.jV]? = some Tryz.f135:=Tryz.func135
abbrev F.oM:Nat:=136
theorem fn.oM:P.funcs[F.oM]? = some Tryz.f136:=Tryz.func136
abbrev F.jb:Nat:=137
theorem fn.jb:P.funcs[F.jb]? = some Tryz.f137:=Tryz.func137
abbrev F.oN:Nat:=138
theorem fn.oN:P.funcs[F.oN]? = some Tryz.f138:=Tryz.func138
abbrev F.wP:Nat:=139
theorem fn.wP:P.funcs[F.wP]? = some Tryz.f139:=Tryz.func139
abbrev F.EP:Nat:=140
theorem fn.EP:P.funcs[F.EP]? = some Tryz.f140:=Tryz.func140
abbrev F.mG:Nat:=141
theorem fn.mG:P.funcs[F.mG]? = some Tryz.f141:=Tryz.func141
abbrev F.mJ:Nat:=142
theorem fn.mJ:P.funcs[F.mJ]? = some Tryz.f142:=Tryz.func142
abbrev F.mM:Nat:=143
theorem fn.mM:P.funcs[F.mM]? = some Tryz.f143:=Tryz.func143
abbrev F.fU:Nat:=144
theorem fn.fU:P.funcs[F.fU]? = some Tryz.f144:=Tryz.func144
abbrev F.nO:Nat:=145
theorem fn.nO:P.funcs[F.nO]? = some Tryz.f145:=Tryz.func145
abbrev F.C9:Nat:=146
theorem fn.C9:P.funcs[F.C9]? = some Tryz.f146:=Tryz.func146
abbrev F.cmp_Compare_int:Nat:=147
theorem fn.cmp_Compare_int:P.funcs[F.cmp_Compare_int]? = some Tryz.f147:=Tryz.func147
abbrev F.jO:Nat:=148
theorem fn.jO:P.funcs[F.jO]? = some Tryz.f148:=Tryz.func148
abbrev F.uS:Nat:=149
theorem fn.uS:P.funcs[F.uS]? = some Tryz.f149:=Tryz.func149
abbrev F.iM:Nat:=150
theorem fn.iM:P.funcs[F.iM]? = some Tryz.f150:=Tryz.func150
abbrev F.mO:Nat:=151
theorem fn.mO:P.funcs[F.mO]? = some Tryz.f151:=Tryz.func151
abbrev F.qV:Nat:=152
theorem fn.qV:P.funcs[F.qV]? = some Tryz.f152:=Tryz.func152
abbrev F.pV:Nat:=153
theorem fn.pV:P.funcs[F.pV]? = some Tryz.f153:=Tryz.func153
abbrev F.wQ:Nat:=154
theorem fn.wQ:P.funcs[F.wQ]? = some Tryz.f154:=Tryz.func154
abbrev F.wR:Nat:=155
theorem fn.wR:P.funcs[F.wR]? = some Tryz.f155:=Tryz.func155
abbrev F.mP:Nat:=156
theorem fn.mP:P.funcs[F.mP]? = some Tryz.f156:=Tryz.func156
abbrev F.dH:Nat:=157
theorem fn.dH:P.funcs[F.dH]? = some Tryz.f157:=Tryz.func157
abbrev F.cO:Nat:=158
theorem fn.cO:P.funcs[F.cO]? = some Tryz.f158:=Tryz.func158
abbrev F.jh:Nat:=159
theorem fn.jh:P.funcs[F.jh]? = some Tryz.f159:=Tryz.func159
abbrev F.oh:Nat:=160
theorem fn.oh:P.funcs[F.oh]? = some Tryz.f160:=Tryz.func160
abbrev F.qW:Nat:=161
theorem fn.qW:P.funcs[F.qW]? = some Tryz.f161:=Tryz.func161
abbrev F.x8:Nat:=162
theorem fn.x8:P.funcs[F.x8]? = some Tryz.f162:=Tryz.func162
abbrev F.Ag:Nat:=163
theorem fn.Ag:P.funcs[F.Ag]? = some Tryz.f163:=Tryz.func163
abbrev F.Dc:Nat:=164
theorem fn.Dc:P.funcs[F.Dc]? = some Tryz.f164:=Tryz.func164
abbrev F.Ah:Nat:=165
theorem fn.Ah:P.funcs[F.Ah]? = some Tryz.f165:=Tryz.func165
abbrev F.x9:Nat:=166
theorem fn.x9:P.funcs[F.x9]? = some Tryz.f166:=Tryz.func166
abbrev F.Bc:Nat:=167
theorem fn.Bc:P.funcs[F.Bc]? = some Tryz.f167:=Tryz.func167
abbrev F.Ai:Nat:=168
theorem fn.Ai:P.funcs[F.Ai]? = some Tryz.f168:=Tryz.func168
abbrev F.Aj:Nat:=169
theorem fn.Aj:P.funcs[F.Aj]? = some Tryz.f169:=Tryz.func169
abbrev F.mQ:Nat:=173
theorem fn.mQ:P.funcs[F.mQ]? = some Tryz.f173:=Tryz.func173
abbrev F.sD:Nat:=174
theorem fn.sD:P.funcs[F.sD]? = some Tryz.f174:=Tryz.func174
abbrev F.qA:Nat:=175
theorem fn.qA:P.funcs[F.qA]? = some Tryz.f175:=Tryz.func175
abbrev F.oO:Nat:=177
theorem fn.oO:P.funcs[F.oO]? = some Tryz.f177:=Tryz.func177
abbrev F.iO:Nat:=180
theorem fn.iO:P.funcs[F.iO]? = some Tryz.f180:=Tryz.func180
abbrev F.Df:Nat:=181
theorem fn.Df:P.funcs[F.Df]? = some Tryz.f181:=Tryz.func181
abbrev F.uT:Nat:=182
theorem fn.uT:P.funcs[F.uT]? = some Tryz.f182:=Tryz.func182
abbrev F.kR:Nat:=183
theorem fn.kR:P.funcs[F.kR]? = some Tryz.f183:=Tryz.func183
abbrev F.mV:Nat:=184
theorem fn.mV:P.funcs[F.mV]? = some Tryz.f184:=Tryz.func184
abbrev F.lH:Nat:=185
theorem fn.lH:P.funcs[F.lH]? = some Tryz.f185:=Tryz.func185
abbrev F.nR:Nat:=186
theorem fn.nR:P.funcs[F.nR]? = some Tryz.f186:=Tryz.func186
abbrev F.mW:Nat:=187
theorem fn.mW:P.funcs[F.mW]? = some Tryz.f187:=Tryz.func187
abbrev F.mX:Nat:=188
theorem fn.mX:P.funcs[F.mX]? = some Tryz.f188:=Tryz.func188
abbrev F.cmp_isNaN_int:Nat:=189
theorem fn.cmp_isNaN_int:P.funcs[F.cmp_isNaN_int]? = some Tryz.f189:=Tryz.func189
abbrev F.tq:Nat:=190
theorem fn.tq:P.funcs[F.tq]? = some Tryz.f190:=Tryz.func190
abbrev F.fZ:Nat:=193
theorem fn.fZ:P.funcs[F.fZ]? = some Tryz.f193:=Tryz.func193
abbrev F.oP:Nat:=194
theorem fn.oP:P.funcs[F.oP]? = some Tryz.f194:=Tryz.func194
abbrev F.uU:Nat:=195
theorem fn.uU:P.funcs[F.uU]? = some Tryz.f195:=Tryz.func195
abbrev F.fV:Nat:=196
theorem fn.fV:P.funcs[F.fV]? = some Tryz.f196:=Tryz.func196
abbrev F.kD:Nat:=197
theorem fn.kD:P.funcs[F.kD]? = some Tryz.f197:=Tryz.func197
abbrev F.uV:Nat:=198
theorem fn.uV:P.funcs[F.uV]? = some Tryz.f198:=Tryz.func198
abbrev F.wS:Nat:=199
theorem fn.wS:P.funcs[F.wS]? = some Tryz.f199:=Tryz.func199
abbrev F.gm:Nat:=203
theorem fn.gm:P.funcs[F.gm]? = some Tryz.f203:=Tryz.func203
abbrev F.uX:Nat:=204
theorem fn.uX:P.funcs[F.uX]? = some Tryz.f204:=Tryz.func204
abbrev F.Dh:Nat:=205
theorem fn.Dh:P.funcs[F.Dh]? = some Tryz.f205:=Tryz.func205
abbrev F.Ak:Nat:=207
theorem fn.Ak:P.funcs[F.Ak]? = some Tryz.f207:=Tryz.func207
abbrev F.Di:Nat:=208
theorem fn.Di:P.funcs[F.Di]? = some Tryz.f208:=Tryz.func208
abbrev F.Dj:Nat:=209
theorem fn.Dj:P.funcs[F.Dj]? = some Tryz.f209:=Tryz.func209
abbrev F.wU:Nat:=210
theorem fn.wU:P.funcs[F.wU]? = some Tryz.f210:=Tryz.func210
abbrev F.Am:Nat:=212
theorem fn.Am:P.funcs[F.Am]? = some Tryz.f212:=Tryz.func212
abbrev F.nS:Nat:=214
theorem fn.nS:P.funcs[F.nS]? = some Tryz.f214:=Tryz.func214
abbrev F.jC:Nat:=215
theorem fn.jC:P.funcs[F.jC]? = some Tryz.f215:=Tryz.func215
abbrev F.gY:Nat:=217
theorem fn.gY:P.funcs[F.gY]? = some Tryz.f217:=Tryz.func217
abbrev F.oQ:Nat:=218
theorem fn.oQ:P.funcs[F.oQ]? = some Tryz.f218:=Tryz.func218
abbrev F.dP:Nat:=223
theorem fn.dP:P.funcs[F.dP]? = some Tryz.f223:=Tryz.func223
abbrev F.qX:Nat:=226
theorem fn.qX:P.funcs[F.qX]? = some Tryz.f226:=Tryz.func226
abbrev F.cu:Nat:=227
theorem fn.cu:P.funcs[F.cu]? = some Tryz.f227:=Tryz.func227
abbrev F.dM:Nat:=228
theorem fn.dM:P.funcs[F.dM]? = some Tryz.f228:=Tryz.func228
abbrev F.Dk:Nat:=229
theorem fn.Dk:P.funcs[F.Dk]? = some Tryz.f229:=Tryz.func229
abbrev F.tu:Nat:=232
theorem fn.tu:P.funcs[F.tu]? = some Tryz.f232:=Tryz.func232
abbrev F.jG:Nat:=233
theorem fn.jG:P.funcs[F.jG]? = some Tryz.f233:=Tryz.func233
abbrev F.jH:Nat:=234
theorem fn.jH:P.funcs[F.jH]? = some Tryz.f234:=Tryz.func234
abbrev F.qB:Nat:=235
theorem fn.qB:P.funcs[F.qB]? = some Tryz.f235:=Tryz.func235
abbrev F.jI:Nat:=237
theorem fn.jI:P.funcs[F.jI]? = some Tryz.f237:=Tryz.func237
abbrev F.jJ:Nat:=238
theorem fn.jJ:P.funcs[F.jJ]? = some Tryz.f238:=Tryz.func238
abbrev F.uY:Nat:=239
theorem fn.uY:P.funcs[F.uY]? = some Tryz.f239:=Tryz.func239
abbrev F.yV:Nat:=240
theorem fn.yV:P.funcs[F.yV]? = some Tryz.f240:=Tryz.func240
abbrev F.qC:Nat:=241
theorem fn.qC:P.funcs[F.qC]? = some Tryz.f241:=Tryz.func241
abbrev F.rM:Nat:=243
theorem fn.rM:P.funcs[F.rM]? = some Tryz.f243:=Tryz.func243
abbrev F.iP:Nat:=288
theorem fn.iP:P.funcs[F.iP]? = some Tryz.f288:=Tryz.func288
abbrev T.i64:Nat:=2
theorem ce.i64:kS P 2:=⟨by kernel_rfl,by kernel_rfl⟩
theorem it.i64:JP P 2 .i64:=⟨by kernel_rfl⟩
theorem z.i64:fO P 2 [.d (.sc (.int .i64 0))]:=⟨by kernel_rfl⟩
theorem sz.i64:(P.info? 2).map (·.size)=some 1:=by kernel_rfl
abbrev T.int:Nat:=3
theorem ce.int:kS P 3:=⟨by kernel_rfl,by kernel_rfl⟩
theorem it.int:JP P 3 .i64:=⟨by kernel_rfl⟩
theorem z.int:fO P 3 [.d (.sc (.int .i64 0))]:=⟨by kernel_rfl⟩
theorem sz.int:(P.info? 3).map (·.size)=some 1:=by kernel_rfl
abbrev T.bool:Nat:=4
theorem ce.bool:kS P 4:=⟨by kernel_rfl,by kernel_rfl⟩
theorem bt.bool:Kz P 4:=⟨by kernel_rfl⟩
theorem z.bool:fO P 4 [.d (.sc (.bool false))]:=⟨by kernel_rfl⟩
theorem sz.bool:(P.info? 4).map (·.size)=some 1:=by kernel_rfl
abbrev T.u8:Nat:=5
theorem ce.u8:kS P 5:=⟨by kernel_rfl,by kernel_rfl⟩
theorem it.u8:JP P 5 .u8:=⟨by kernel_rfl⟩
theorem z.u8:fO P 5 [.d (.sc (.int .u8 0))]:=⟨by kernel_rfl⟩
theorem sz.u8:(P.info? 5).map (·.size)=some 1:=by kernel_rfl
abbrev T.ints:Nat:=22
theorem sl.ints:bn P 22 3 1 8:=⟨by kernel_rfl,by kernel_rfl,by decide⟩
theorem ce.ints:kS P 22:=⟨by kernel_rfl,by kernel_rfl⟩
theorem z.ints:fO P 22 [.mt]:=⟨by kernel_rfl⟩
theorem sz.ints:(P.info? 22).map (·.size)=some 1:=by kernel_rfl
abbrev T.Y2:Nat:=24
theorem ag.Y2:yD P 24 5:=⟨by kernel_rfl,by kernel_rfl⟩
theorem cc.Y2:lI P 24:=by unfold lI;kernel_rfl
theorem fd.aL4:dO P 24 0 0:=⟨by kernel_rfl⟩
theorem fd.VX:dO P 24 1 1:=⟨by kernel_rfl⟩
theorem fd.aL5:dO P 24 2 2:=⟨by kernel_rfl⟩
theorem fd.VY:dO P 24 3 3:=⟨by kernel_rfl⟩
theorem fd.aL6:dO P 24 4 4:=⟨by kernel_rfl⟩
theorem z.Y2:fO P 24 [.d (.sc (.int .i64 0)),.d (.sc (.int .i64 0)),.d (.sc (.bool false)),.d (.sc (.bool false)),.mt]:=⟨by kernel_rfl⟩
theorem pl.Y2:nM P 24 [(0,1),(1,1),(2,1),(3,1),(4,1)]:=⟨by kernel_rfl⟩
theorem sz.Y2:(P.info? 24).map (·.size)=some 5:=by kernel_rfl
abbrev T.Ring:Nat:=27
theorem ag.Ring:yD P 27 2:=⟨by kernel_rfl,by kernel_rfl⟩
theorem cc.Ring:lI P 27:=by unfold lI;kernel_rfl
theorem fd.nG:dO P 27 0 0:=⟨by kernel_rfl⟩
theorem fd.Ls:dO P 27 1 1:=⟨by kernel_rfl⟩
theorem z.Ring:fO P 27 [.d (.sc (.int .i64 0)),.mt]:=⟨by kernel_rfl⟩
theorem pl.Ring:nM P 27 [(0,1),(1,1)]:=⟨by kernel_rfl⟩
theorem sz.Ring:(P.info? 27).map (·.size)=some 2:=by kernel_rfl
abbrev T.aT:Nat:=28
theorem sl.aT:bn P 28 60 8 128:=⟨by kernel_rfl,by kernel_rfl,by decide⟩
theorem ce.aT:kS P 28:=⟨by kernel_rfl,by kernel_rfl⟩
theorem z.aT:fO P 28 [.mt]:=⟨by kernel_rfl⟩
theorem sz.aT:(P.info? 28).map (·.size)=some 1:=by kernel_rfl
abbrev T.dm:Nat:=29
theorem sl.dm:bn P 29 65 11 152:=⟨by kernel_rfl,by kernel_rfl,by decide⟩
theorem ce.dm:kS P 29:=⟨by kernel_rfl,by kernel_rfl⟩
theorem z.dm:fO P 29 [.mt]:=⟨by kernel_rfl⟩
theorem sz.dm:(P.info? 29).map (·.size)=some 1:=by kernel_rfl
abbrev T.Auto:Nat:=31
theorem ag.Auto:yD P 31 7:=⟨by kernel_rfl,by kernel_rfl⟩
theorem cc.Auto:lI P 31:=by unfold lI;kernel_rfl
theorem fd.jc:dO P 31 0 0:=⟨by kernel_rfl⟩
theorem fd.rO:dO P 31 1 2:=⟨by kernel_rfl⟩
theorem fd.jW:dO P 31 2 3:=⟨by kernel_rfl⟩
theorem fd.uZ:dO P 31 3 4:=⟨by kernel_rfl⟩
theorem fd.xJ:dO P 31 4 5:=⟨by kernel_rfl⟩
theorem fd.iI:dO P 31 5 6:=⟨by kernel_rfl⟩
theorem z.Auto:fO P 31 [.d (.sc (.int .i64 0)),.mt,.d (.sc (.int .i64 0)),.d (.sc (.int .i64 0)),.mt,.mt,.mt]:=⟨by kernel_rfl⟩
theorem pl.Auto:nM P 31 [(0,2),(2,1),(3,1),(4,1),(5,1),(6,1)]:=⟨by kernel_rfl⟩
theorem sz.Auto:(P.info? 31).map (·.size)=some 7:=by kernel_rfl
abbrev T.bT:Nat:=36
theorem sl.bT:bn P 36 45 3 56:=⟨by kernel_rfl,by kernel_rfl,by decide⟩
theorem ce.bT:kS P 36:=⟨by kernel_rfl,by kernel_rfl⟩
theorem z.bT:fO P 36 [.mt]:=⟨by kernel_rfl⟩
theorem sz.bT:(P.info? 36).map (·.size)=some 1:=by kernel_rfl
abbrev T.aF:Nat:=43
theorem sl.aF:bn P 43 132 1 4:=⟨by kernel_rfl,by kernel_rfl,by decide⟩
theorem ce.aF:kS P 43:=⟨by kernel_rfl,by kernel_rfl⟩
theorem z.aF:fO P 43 [.mt]:=⟨by kernel_rfl⟩
theorem sz.aF:(P.info? 43).map (·.size)=some 1:=by kernel_rfl
abbrev T.Rat:Nat:=45
theorem ag.Rat:yD P 45 3:=⟨by kernel_rfl,by kernel_rfl⟩
theorem cc.Rat:lI P 45:=by unfold lI;kernel_rfl
theorem fd.qE:dO P 45 0 0:=⟨by kernel_rfl⟩
theorem fd.pW:dO P 45 1 1:=⟨by kernel_rfl⟩
theorem fd.nK:dO P 45 2 2:=⟨by kernel_rfl⟩
theorem z.Rat:fO P 45 [.d (.sc (.bool false)),.mt,.mt]:=⟨by kernel_rfl⟩
theorem pl.Rat:nM P 45 [(0,1),(1,1),(2,1)]:=⟨by kernel_rfl⟩
theorem sz.Rat:(P.info? 45).map (·.size)=some 3:=by kernel_rfl
abbrev T.dX:Nat:=48
theorem sl.dX:bn P 48 22 1 24:=⟨by kernel_rfl,by kernel_rfl,by decide⟩
theorem ce.dX:kS P 48:=⟨by kernel_rfl,by kernel_rfl⟩
theorem z.dX:fO P 48 [.mt]:=⟨by kernel_rfl⟩
theorem sz.dX:(P.info? 48).map (·.size)=some 1:=by kernel_rfl
abbrev T.Tape:Nat:=56
theorem ag.Tape:yD P 56 2:=⟨by kernel_rfl,by kernel_rfl⟩
theorem cc.Tape:lI P 56:=by unfold lI;kernel_rfl
theorem fd.VZ:dO P 56 0 0:=⟨by kernel_rfl⟩
theorem fd.Lu:dO P 56 1 1:=⟨by kernel_rfl⟩
theorem z.Tape:fO P 56 [.mt,.d (.sc (.int .i64 0))]:=⟨by kernel_rfl⟩
theorem pl.Tape:nM P 56 [(0,1),(1,1)]:=⟨by kernel_rfl⟩
theorem sz.Tape:(P.info? 56).map (·.size)=some 2:=by kernel_rfl
abbrev T.u64:Nat:=57
theorem ce.u64:kS P 57:=⟨by kernel_rfl,by kernel_rfl⟩
theorem it.u64:JP P 57 .u64:=⟨by kernel_rfl⟩
theorem z.u64:fO P 57 [.d (.sc (.int .u64 0))]:=⟨by kernel_rfl⟩
theorem sz.u64:(P.info? 57).map (·.size)=some 1:=by kernel_rfl
abbrev T.gZ:Nat:=58
theorem sl.gZ:bn P 58 233 6 80:=⟨by kernel_rfl,by kernel_rfl,by decide⟩
theorem ce.gZ:kS P 58:=⟨by kernel_rfl,by kernel_rfl⟩
theorem z.gZ:fO P 58 [.mt]:=⟨by kernel_rfl⟩
theorem sz.gZ:(P.info? 58).map (·.size)=some 1:=by kernel_rfl
abbrev T.ak:Nat:=60
theorem ag.ak:yD P 60 8:=⟨by kernel_rfl,by kernel_rfl⟩
theorem cc.ak:lI P 60:=by unfold lI;kernel_rfl
theorem fd.gK:dO P 60 0 0:=⟨by kernel_rfl⟩
theorem fd.Bd:dO P 60 1 3:=⟨by kernel_rfl⟩
theorem fd.yX:dO P 60 2 4:=⟨by kernel_rfl⟩
theorem fd.Be:dO P 60 3 5:=⟨by kernel_rfl⟩
theorem fd.Bf:dO P 60 4 6:=⟨by kernel_rfl⟩
theorem fd.yY:dO P 60 5 7:=⟨by kernel_rfl⟩
theorem z.ak:fO P 60 [.d (.sc (.bool false)),.mt,.mt,.d (.sc (.int .i64 0)),.d (.sc (.bool false)),.d (.sc (.int .u64 0)),.mt,.mt]:=⟨by kernel_rfl⟩
theorem pl.ak:nM P 60 [(0,3),(3,1),(4,1),(5,1),(6,1),(7,1)]:=⟨by kernel_rfl⟩
theorem sz.ak:(P.info? 60).map (·.size)=some 8:=by kernel_rfl
abbrev T.ny:Nat:=65
theorem ag.ny:yD P 65 11:=⟨by kernel_rfl,by kernel_rfl⟩
theorem cc.ny:lI P 65:=by unfold lI;kernel_rfl
theorem fd.xM:dO P 65 0 0:=⟨by kernel_rfl⟩
theorem fd.yZ:dO P 65 1 1:=⟨by kernel_rfl⟩
theorem fd.xq:dO P 65 2 2:=⟨by kernel_rfl⟩
theorem fd.sF:dO P 65 3 3:=⟨by kernel_rfl⟩
theorem z.ny:fO P 65 [.d (.sc (.int .i64 0)),.d (.sc (.int .i64 0)),.d (.sc (.int .i64 0)),.d (.sc (.bool false)),.mt,.mt,.d (.sc (.int .i64 0)),.d (.sc (.bool false)),.d (.sc (.int .u64 0)),.mt,.mt]:=⟨by kernel_rfl⟩
theorem pl.ny:nM P 65 [(0,1),(1,1),(2,1),(3,8)]:=⟨by kernel_rfl⟩
theorem sz.ny:(P.info? 65).map (·.size)=some 11:=by kernel_rfl
abbrev T.gB:Nat:=67
theorem sl.gB:bn P 67 36 1 24:=⟨by kernel_rfl,by kernel_rfl,by decide⟩
theorem ce.gB:kS P 67:=⟨by kernel_rfl,by kernel_rfl⟩
theorem z.gB:fO P 67 [.mt]:=⟨by kernel_rfl⟩
theorem sz.gB:(P.info? 67).map (·.size)=some 1:=by kernel_rfl
abbrev T.sample:Nat:=77
theorem ag.sample:yD P 77 4:=⟨by kernel_rfl,by kernel_rfl⟩
theorem cc.sample:lI P 77:=by unfold lI;kernel_rfl
theorem fd.G7:dO P 77 2 2:=⟨by kernel_rfl⟩
theorem fd.LC:dO P 77 3 3:=⟨by kernel_rfl⟩
theorem z.sample:fO P 77 [.d (.sc (.int .i64 0)),.d (.sc (.int .i64 0)),.mt,.mt]:=⟨by kernel_rfl⟩
theorem pl.sample:nM P 77 [(0,1),(1,1),(2,1),(3,1)]:=⟨by kernel_rfl⟩
theorem sz.sample:(P.info? 77).map (·.size)=some 4:=by kernel_rfl
abbrev T.rP:Nat:=82
theorem ag.rP:yD P 82 3:=⟨by kernel_rfl,by kernel_rfl⟩
theorem cc.rP:lI P 82:=by unfold lI;kernel_rfl
theorem fd.y5:dO P 82 0 0:=⟨by kernel_rfl⟩
theorem fd.LD:dO P 82 1 1:=⟨by kernel_rfl⟩
theorem fd.LG:dO P 82 2 2:=⟨by kernel_rfl⟩
theorem z.rP:fO P 82 [.mt,.mt,.mt]:=⟨by kernel_rfl⟩
theorem pl.rP:nM P 82 [(0,1),(1,1),(2,1)]:=⟨by kernel_rfl⟩
theorem sz.rP:(P.info? 82).map (·.size)=some 3:=by kernel_rfl
abbrev T.u32:Nat:=132
theorem ce.u32:kS P 132:=⟨by kernel_rfl,by kernel_rfl⟩
theorem it.u32:JP P 132 .u32:=⟨by kernel_rfl⟩
theorem z.u32:fO P 132 [.d (.sc (.int .u32 0))]:=⟨by kernel_rfl⟩
theorem sz.u32:(P.info? 132).map (·.size)=some 1:=by kernel_rfl
abbrev T.uint:Nat:=133
theorem ce.uint:kS P 133:=⟨by kernel_rfl,by kernel_rfl⟩
theorem it.uint:JP P 133 .u64:=⟨by kernel_rfl⟩
theorem z.uint:fO P 133 [.d (.sc (.int .u64 0))]:=⟨by kernel_rfl⟩
theorem sz.uint:(P.info? 133).map (·.size)=some 1:=by kernel_rfl
abbrev T.limbs:Nat:=145
theorem sl.limbs:bn P 145 132 1 4:=⟨by kernel_rfl,by kernel_rfl,by decide⟩
theorem ce.limbs:kS P 145:=⟨by kernel_rfl,by kernel_rfl⟩
theorem z.limbs:fO P 145 [.mt]:=⟨by kernel_rfl⟩
theorem sz.limbs:(P.info? 145).map (·.size)=some 1:=by kernel_rfl
abbrev T.fraction:Nat:=149
theorem ag.fraction:yD P 149 3:=⟨by kernel_rfl,by kernel_rfl⟩
theorem cc.fraction:lI P 149:=by unfold lI;kernel_rfl
theorem fd.jr:dO P 149 0 0:=⟨by kernel_rfl⟩
theorem fd.lq:dO P 149 1 1:=⟨by kernel_rfl⟩
theorem fd.nH:dO P 149 2 2:=⟨by kernel_rfl⟩
theorem z.fraction:fO P 149 [.d (.sc (.bool false)),.mt,.mt]:=⟨by kernel_rfl⟩
theorem pl.fraction:nM P 149 [(0,1),(1,1),(2,1)]:=⟨by kernel_rfl⟩
theorem sz.fraction:(P.info? 149).map (·.size)=some 3:=by kernel_rfl
abbrev T.Rows:Nat:=205
theorem sl.Rows:bn P 205 180 2 48:=⟨by kernel_rfl,by kernel_rfl,by decide⟩
theorem ce.Rows:kS P 205:=⟨by kernel_rfl,by kernel_rfl⟩
theorem z.Rows:fO P 205 [.mt]:=⟨by kernel_rfl⟩
theorem sz.Rows:(P.info? 205).map (·.size)=some 1:=by kernel_rfl
abbrev T.algebra:Nat:=221
theorem ag.algebra:yD P 221 9:=⟨by kernel_rfl,by kernel_rfl⟩
theorem cc.algebra:lI P 221:=by unfold lI;kernel_rfl
theorem fd.OY:dO P 221 0 0:=⟨by kernel_rfl⟩
theorem fc.OY:BN P 221 0 0:=⟨by kernel_rfl⟩
theorem fd.OZ:dO P 221 1 1:=⟨by kernel_rfl⟩
theorem fc.OZ:BN P 221 1 1:=⟨by kernel_rfl⟩
theorem fd.O0:dO P 221 3 3:=⟨by kernel_rfl⟩
theorem fc.O0:BN P 221 3 3:=⟨by kernel_rfl⟩
theorem fd.O1:dO P 221 4 4:=⟨by kernel_rfl⟩
theorem fc.O1:BN P 221 4 4:=⟨by kernel_rfl⟩
theorem z.algebra:fO P 221 [.d (.sc .nilFunc),.d (.sc .nilFunc),.d (.sc .nilFunc),.d (.sc .nilFunc),.d (.sc .nilFunc),.d (.sc .nilFunc),.d (.sc .nilFunc),.d (.sc .nilFunc),.d (.sc .nilFunc)]:=⟨by kernel_rfl⟩
theorem pl.algebra:nM P 221 [(0,1),(1,1),(2,1),(3,1),(4,1),(5,1),(6,1),(7,1),(8,1)]:=⟨by kernel_rfl⟩
theorem sz.algebra:(P.info? 221).map (·.size)=some 9:=by kernel_rfl
abbrev T.rows:Nat:=113
theorem sl.rows:bn P 113 115 2 48:=⟨by kernel_rfl,by kernel_rfl,by decide⟩
theorem ce.rows:kS P 113:=⟨by kernel_rfl,by kernel_rfl⟩
theorem z.rows:fO P 113 [.mt]:=⟨by kernel_rfl⟩
theorem sz.rows:(P.info? 113).map (·.size)=some 1:=by kernel_rfl
abbrev T.row:Nat:=115
theorem ag.row:yD P 115 2:=⟨by kernel_rfl,by kernel_rfl⟩
theorem cc.row:lI P 115:=by unfold lI;kernel_rfl
theorem fd.LH:dO P 115 0 0:=⟨by kernel_rfl⟩
theorem fd.ag4:dO P 115 1 1:=⟨by kernel_rfl⟩
theorem z.row:fO P 115 [.mt,.mt]:=⟨by kernel_rfl⟩
theorem pl.row:nM P 115 [(0,1),(1,1)]:=⟨by kernel_rfl⟩
theorem sz.row:(P.info? 115).map (·.size)=some 2:=by kernel_rfl
theorem st.str:P.underlying 9=some .string:=by kernel_rfl
