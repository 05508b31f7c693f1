/-
  Names for the functions of this seat, and facts on its types (printed by hdr.py).
-/
import Derived.Test.YtanlenlmihoiiaaGreatDoorChecked
import Derived.KernelRfl
import Derived.Test.YtanlenlmihoiiaaGreatDoorKAlg37
set_option linter.unusedVariables false
set_option linter.unusedSimpArgs false
namespace Go.Proofs.YtanlenlmihoiiaaGreatDoor
open Go Go.AL
noncomputable abbrev P:Program:=Tryz.prog
theorem ak:P.follows .mixedOrders=true:=by kernel_rfl
abbrev F.ja:Nat:=3
theorem fn.ja:P.funcs[F.ja]? = some Tryz.f3:=Tryz.func3
abbrev F.vJ:Nat:=6
theorem fn.vJ:P.funcs[F.vJ]? = some Tryz.f6:=Tryz.func6
abbrev F.sQ:Nat:=7
theorem fn.sQ:P.funcs[F.sQ]? = some Tryz.f7:=Tryz.func7
abbrev F.wC:Nat:=8
theorem fn.wC:P.funcs[F.wC]? = some Tryz.f8:=Tryz.func8
abbrev F.sU:Nat:=9
theorem fn.sU:P.funcs[F.sU]? = some Tryz.f9:=Tryz.func9
abbrev F.wE:Nat:=10
theorem fn.wE:P.funcs[F.wE]? = some Tryz.f10:=Tryz.func10
abbrev F.mW:Nat:=11
theorem fn.mW:P.funcs[F.mW]? = some Tryz.f11:=Tryz.func11
abbrev F.x8:Nat:=12
theorem fn.x8:P.funcs[F.x8]? = some Tryz.f12:=Tryz.func12
abbrev F.vK:Nat:=13
theorem fn.vK:P.funcs[F.vK]? = some Tryz.f13:=Tryz.func13
abbrev F.uT:Nat:=14
theorem fn.uT:P.funcs[F.uT]? = some Tryz.f14:=Tryz.func14
abbrev F.Ep:Nat:=15
theorem fn.Ep:P.funcs[F.Ep]? = some Tryz.f15:=Tryz.func15
abbrev F.zF:Nat:=18
theorem fn.zF:P.funcs[F.zF]? = some Tryz.f18:=Tryz.func18
abbrev F.AZ:Nat:=20
theorem fn.AZ:P.funcs[F.AZ]? = some Tryz.f20:=Tryz.func20
abbrev F.kM:Nat:=22
theorem fn.kM:P.funcs[F.kM]? = some Tryz.f22:=Tryz.func22
abbrev F.vk:Nat:=23
theorem fn.vk:P.funcs[F.vk]? = some Tryz.f23:=Tryz.func23
abbrev F.BL:Nat:=24
theorem fn.BL:P.funcs[F.BL]? = some Tryz.f24:=Tryz.func24
abbrev F.sV:Nat:=25
theorem fn.sV:P.funcs[F.sV]? = some Tryz.f25:=Tryz.func25
abbrev F.ND:Nat:=26
theorem fn.ND:P.funcs[F.ND]? = some Tryz.f26:=Tryz.func26
abbrev F.x9:Nat:=27
theorem fn.x9:P.funcs[F.x9]? = some Tryz.f27:=Tryz.func27
abbrev F.BM:Nat:=28
theorem fn.BM:P.funcs[F.BM]? = some Tryz.f28:=Tryz.func28
abbrev F.rV:Nat:=29
theorem fn.rV:P.funcs[F.rV]? = some Tryz.f29:=Tryz.func29
abbrev F.Es:Nat:=30
theorem fn.Es:P.funcs[F.Es]? = some Tryz.f30:=Tryz.func30
abbrev F.oM:Nat:=31
theorem fn.oM:P.funcs[F.oM]? = some Tryz.f31:=Tryz.func31
abbrev F.qh:Nat:=32
theorem fn.qh:P.funcs[F.qh]? = some Tryz.f32:=Tryz.func32
abbrev F.wF:Nat:=33
theorem fn.wF:P.funcs[F.wF]? = some Tryz.f33:=Tryz.func33
abbrev F.kN:Nat:=34
theorem fn.kN:P.funcs[F.kN]? = some Tryz.f34:=Tryz.func34
abbrev F.yc:Nat:=35
theorem fn.yc:P.funcs[F.yc]? = some Tryz.f35:=Tryz.func35
abbrev F.ql:Nat:=36
theorem fn.ql:P.funcs[F.ql]? = some Tryz.f36:=Tryz.func36
abbrev F.xN:Nat:=37
theorem fn.xN:P.funcs[F.xN]? = some Tryz.f37:=Tryz.func37
abbrev F.zG:Nat:=38
theorem fn.zG:P.funcs[F.zG]? = some Tryz.f38:=Tryz.func38
abbrev F.zH:Nat:=39
theorem fn.zH:P.funcs[F.zH]? = some Tryz.f39:=Tryz.func39
abbrev F.Et:Nat:=40
theorem fn.Et:P.funcs[F.Et]? = some Tryz.f40:=Tryz.func40
abbrev F.oq:Nat:=41
theorem fn.oq:P.funcs[F.oq]? = some Tryz.f41:=Tryz.func41
abbrev F.Jp:Nat:=42
theorem fn.Jp:P.funcs[F.Jp]? = some Tryz.f42:=Tryz.func42
abbrev F.uU:Nat:=43
theorem fn.uU:P.funcs[F.uU]? = some Tryz.f43:=Tryz.func43
abbrev F.wG:Nat:=44
theorem fn.wG:P.funcs[F.wG]? = some Tryz.f44:=Tryz.func44
abbrev F.sW:Nat:=45
theorem fn.sW:P.funcs[F.sW]? = some Tryz.f45:=Tryz.func45
abbrev F.FW:Nat:=46
theorem fn.FW:P.funcs[F.FW]? = some Tryz.f46:=Tryz.func46
abbrev F.kQ:Nat:=47
theorem fn.kQ:P.funcs[F.kQ]? = some Tryz.f47:=Tryz.func47
abbrev F.Eu:Nat:=48
theorem fn.Eu:P.funcs[F.Eu]? = some Tryz.f48:=Tryz.func48
abbrev F.NE:Nat:=49
theorem fn.NE:P.funcs[F.NE]? = some Tryz.f49:=Tryz.func49
abbrev F.A7:Nat:=50
theorem fn.A7:P.funcs[F.A7]? = some Tryz.f50:=Tryz.func50
abbrev F.Ew:Nat:=51
theorem fn.Ew:P.funcs[F.Ew]? = some Tryz.f51:=Tryz.func51
abbrev F.wH:Nat:=52
theorem fn.wH:P.funcs[F.wH]? = some Tryz.f52:=Tryz.func52
abbrev F.BN:Nat:=53
theorem fn.BN:P.funcs[F.BN]? = some Tryz.f53:=Tryz.func53
abbrev F.BO:Nat:=54
theorem fn.BO:P.funcs[F.BO]? = some Tryz.f54:=Tryz.func54
abbrev F.sZ:Nat:=55
theorem fn.sZ:P.funcs[F.sZ]? = some Tryz.f55:=Tryz.func55
abbrev F.BP:Nat:=56
theorem fn.BP:P.funcs[F.BP]? = some Tryz.f56:=Tryz.func56
abbrev F.yg:Nat:=58
theorem fn.yg:P.funcs[F.yg]? = some Tryz.f58:=Tryz.func58
abbrev F.GH:Nat:=59
theorem fn.GH:P.funcs[F.GH]? = some Tryz.f59:=Tryz.func59
abbrev F.Ey:Nat:=63
theorem fn.Ey:P.funcs[F.Ey]? = some Tryz.f63:=Tryz.func63
abbrev F.tq:Nat:=67
theorem fn.tq:P.funcs[F.tq]? = some Tryz.f67:=Tryz.func67
abbrev F.oN:Nat:=68
theorem fn.oN:P.funcs[F.oN]? = some Tryz.f68:=Tryz.func68
abbrev F.qM:Nat:=69
theorem fn.qM:P.funcs[F.qM]? = some Tryz.f69:=Tryz.func69
abbrev F.Jq:Nat:=70
theorem fn.Jq:P.funcs[F.Jq]? = some Tryz.f70:=Tryz.func70
abbrev F.uV:Nat:=71
theorem fn.uV:P.funcs[F.uV]? = some Tryz.f71:=Tryz.func71
abbrev F.qN:Nat:=72
theorem fn.qN:P.funcs[F.qN]? = some Tryz.f72:=Tryz.func72
abbrev F.qQ:Nat:=73
theorem fn.qQ:P.funcs[F.qQ]? = some Tryz.f73:=Tryz.func73
abbrev F.BQ:Nat:=74
theorem fn.BQ:P.funcs[F.BQ]? = some Tryz.f74:=Tryz.func74
abbrev F.qR:Nat:=75
theorem fn.qR:P.funcs[F.qR]? = some Tryz.f75:=Tryz.func75
abbrev F.nG:Nat:=76
theorem fn.nG:P.funcs[F.nG]? = some Tryz.f76:=Tryz.func76
abbrev F.lV:Nat:=77
theorem fn.lV:P.funcs[F.lV]? = some Tryz.f77:=Tryz.func77
abbrev F.zJ:Nat:=78
theorem fn.zJ:P.funcs[F.zJ]? = some Tryz.f78:=Tryz.func78
abbrev F.jc:Nat:=79
theorem fn.jc:P.funcs[F.jc]? = some Tryz.f79:=Tryz.func79
abbrev F.BR:Nat:=80
theorem fn.BR:P.funcs[F.BR]? = some Tryz.f80:=Tryz.func80
abbrev F.BU:Nat:=81
theorem fn.BU:P.funcs[F.BU]? = some Tryz.f81:=Tryz.func81
abbrev F.qm:Nat:=82
theorem fn.qm:P.funcs[F.qm]? = some Tryz.f82:=Tryz.func82
abbrev F.gy:Nat:=83
theorem fn.gy:P.funcs[F.gy]? = some Tryz.f83:=Tryz.func83
abbrev F.rq:Nat:=84
theorem fn.rq:P.funcs[F.rq]? = some Tryz.f84:=Tryz.func84
abbrev F.Ez:Nat:=85
theorem fn.Ez:P.funcs[F.Ez]? = some Tryz.f85:=Tryz.func85
abbrev F.zK:Nat:=86
theorem fn.zK:P.funcs[F.zK]? = some Tryz.f86:=Tryz.func86
abbrev F.ou:Nat:=87
theorem fn.ou:P.funcs[F.ou]? = some Tryz.f87:=Tryz.func87
abbrev F.qp:Nat:=88
theorem fn.qp:P.funcs[F.qp]? = some Tryz.f88:=Tryz.func88
abbrev F.qx:Nat:=89
theorem fn.qx:P.funcs[F.qx]? = some Tryz.f89:=Tryz.func89
abbrev F.EC:Nat:=90
theorem fn.EC:P.funcs[F.EC]? = some Tryz.f90:=Tryz.func90
abbrev F.zL:Nat:=91
theorem fn.zL:P.funcs[F.zL]? = some Tryz.f91:=Tryz.func91
abbrev F.ED:Nat:=92
theorem fn.ED:P.funcs[F.ED]? = some Tryz.f92:=Tryz.func92
abbrev F.yh:Nat:=93
theorem fn.yh:P.funcs[F.yh]? = some Tryz.f93:=Tryz.func93
abbrev F.GI:Nat:=94
theorem fn.GI:P.funcs[F.GI]? = some Tryz.f94:=Tryz.func94
abbrev F.yj:Nat:=95
theorem fn.yj:P.funcs[F.yj]? = some Tryz.f95:=Tryz.func95
abbrev F.lW:Nat:=96
theorem fn.lW:P.funcs[F.lW]? = some Tryz.f96:=Tryz.func96
abbrev F.mD:Nat:=97
theorem fn.mD:P.funcs[F.mD]? = some Tryz.f97:=Tryz.func97
abbrev F.nH:Nat:=98
theorem fn.nH:P.funcs[F.nH]? = some Tryz.f98:=Tryz.func98
abbrev F.dS:Nat:=99
theorem fn.dS:P.funcs[F.dS]? = some Tryz.f99:=Tryz.func99
abbrev F.dH:Nat:=100
theorem fn.dH:P.funcs[F.dH]? = some Tryz.f100:=Tryz.func100
abbrev F.yu:Nat:=101
theorem fn.yu:P.funcs[F.yu]? = some Tryz.f101:=Tryz.func101
abbrev F.yw:Nat:=102
theorem fn.yw:P.funcs[F.yw]? = some Tryz.f102:=Tryz.func102
abbrev F.jM:Nat:=103
theorem fn.jM:P.funcs[F.jM]? = some Tryz.f103:=Tryz.func103
abbrev F.o5:Nat:=104
theorem fn.o5:P.funcs[F.o5]? = some Tryz.f104:=Tryz.func104
abbrev F.tu:Nat:=105
theorem fn.tu:P.funcs[F.tu]? = some Tryz.f105:=Tryz.func105
abbrev F.wI:Nat:=106
theorem fn.wI:P.funcs[F.wI]? = some Tryz.f106:=Tryz.func106
abbrev F.wJ:Nat:=107
theorem fn.wJ:P.funcs[F.wJ]? = some Tryz.f107:=Tryz.func107
abbrev F.EF:Nat:=108
theorem fn.EF:P.funcs[F.EF]? = some Tryz.f108:=Tryz.func108
abbrev F.BV:Nat:=109
theorem fn.BV:P.funcs[F.BV]? = some Tryz.f109:=Tryz.func109
abbrev F.EG:Nat:=110
theorem fn.EG:P.funcs[F.EG]? = some Tryz.f110:=Tryz.func110
abbrev F.tC:Nat:=111
theorem fn.tC:P.funcs[F.tC]? = some Tryz.f111:=Tryz.func111
abbrev F.EH:Nat:=112
theorem fn.EH:P.funcs[F.EH]? = some Tryz.f112:=Tryz.func112
abbrev F.Du:Nat:=113
theorem fn.Du:P.funcs[F.Du]? = some Tryz.f113:=Tryz.func113
abbrev F.EI:Nat:=114
theorem fn.EI:P.funcs[F.EI]? = some Tryz.f114:=Tryz.func114
abbrev F.A8:Nat:=115
theorem fn.A8:P.funcs[F.A8]? = some Tryz.f115:=Tryz.func115
abbrev F.Ba:Nat:=116
theorem fn.Ba:P.funcs[F.Ba]? = some Tryz.f116:=Tryz.func116
abbrev F.EJ:Nat:=117
theorem fn.EJ:P.funcs[F.EJ]? = some Tryz.f117:=Tryz.func117
abbrev F.yO:Nat:=118
theorem fn.yO:P.funcs[F.yO]? = some Tryz.f118:=Tryz.func118
abbrev F.BX:Nat:=119
theorem fn.BX:P.funcs[F.BX]? = some Tryz.f119:=Tryz.func119
abbrev F.BZ:Nat:=120
theorem fn.BZ:P.funcs[F.BZ]? = some Tryz.f120:=Tryz.func120
abbrev F.EK:Nat:=121
theorem fn.EK:P.funcs[F.EK]? = some Tryz.f121:=Tryz.func121
abbrev F.EL:Nat:=122
theorem fn.EL:P.funcs[F.EL]? = some Tryz.f122:=Tryz.func122
abbrev F.EM:Nat:=123
theorem fn.EM:P.funcs[F.EM]? = some Tryz.f123:=Tryz.func123
abbrev F.Cb:Nat:=124
theorem fn.Cb:P.funcs[F.Cb]? = some Tryz.f124:=Tryz.func124
abbrev F.Bc:Nat:=125
theorem fn.Bc:P.funcs[F.Bc]? = some Tryz.f125:=Tryz.func125
abbrev F.yx:Nat:=126
theorem fn.yx:P.funcs[F.yx]? = some Tryz.f126:=Tryz.func126
abbrev F.GK:Nat:=129
theorem fn.GK:P.funcs[F.GK]? = some Tryz.f129:=Tryz.func129
abbrev F.oO:Nat:=130
theorem fn.oO:P.funcs[F.oO]? = some Tryz.f130:=Tryz.func130
abbrev F.wK:Nat:=135
theorem fn.wK:P.funcs[F.wK]? = some Tryz.f135:=Tryz.func135
abbrev F.jo:Nat:=136
theorem fn.jo:P.funcs[F.jo]? = some Tryz.f136:=Tryz.func136
abbrev F.nI:Nat:=137
theorem fn.nI:P.funcs[F.nI]? = some Tryz.f137:=Tryz.func137
abbrev F.tH:Nat:=138
theorem fn.tH:P.funcs[F.tH]? = some Tryz.f138:=Tryz.func138
abbrev F.ru:Nat:=139
theorem fn.ru:P.funcs[F.ru]? = some Tryz.f139:=Tryz.func139
abbrev F.uH:Nat:=140
theorem fn.uH:P.funcs[F.uH]? = some Tryz.f140:=Tryz.func140
abbrev F.Cc:Nat:=141
theorem fn.Cc:P.funcs[F.Cc]? = some Tryz.f141:=Tryz.func141
abbrev F.Ce:Nat:=142
theorem fn.Ce:P.funcs[F.Ce]? = some Tryz.f142:=Tryz.func142
abbrev F.wL:Nat:=143
theorem fn.wL:P.funcs[F.wL]? = some Tryz.f143:=Tryz.func143
abbrev F.Jr:Nat:=144
theorem fn.Jr:P.funcs[F.Jr]? = some Tryz.f144:=Tryz.func144
abbrev F.yA:Nat:=145
theorem fn.yA:P.funcs[F.yA]? = some Tryz.f145:=Tryz.func145
abbrev F.Cf:Nat:=146
theorem fn.Cf:P.funcs[F.Cf]? = some Tryz.f146:=Tryz.func146
abbrev F.kz:Nat:=147
theorem fn.kz:P.funcs[F.kz]? = some Tryz.f147:=Tryz.func147
abbrev F.qy:Nat:=148
theorem fn.qy:P.funcs[F.qy]? = some Tryz.f148:=Tryz.func148
abbrev F.qA:Nat:=149
theorem fn.qA:P.funcs[F.qA]? = some Tryz.f149:=Tryz.func149
abbrev F.iK:Nat:=150
theorem fn.iK:P.funcs[F.iK]? = some Tryz.f150:=Tryz.func150
abbrev F.jC:Nat:=151
theorem fn.jC:P.funcs[F.jC]? = some Tryz.f151:=Tryz.func151
abbrev F.lC:Nat:=152
theorem fn.lC:P.funcs[F.lC]? = some Tryz.f152:=Tryz.func152
abbrev F.nJ:Nat:=153
theorem fn.nJ:P.funcs[F.nJ]? = some Tryz.f153:=Tryz.func153
abbrev F.Bd:Nat:=154
theorem fn.Bd:P.funcs[F.Bd]? = some Tryz.f154:=Tryz.func154
abbrev F.Dv:Nat:=155
theorem fn.Dv:P.funcs[F.Dv]? = some Tryz.f155:=Tryz.func155
abbrev F.Dw:Nat:=156
theorem fn.Dw:P.funcs[F.Dw]? = some Tryz.f156:=Tryz.func156
abbrev F.nM:Nat:=157
theorem fn.nM:P.funcs[F.nM]? = some Tryz.f157:=Tryz.func157
abbrev F.gJ:Nat:=158
theorem fn.gJ:P.funcs[F.gJ]? = some Tryz.f158:=Tryz.func158
abbrev F.qB:Nat:=159
theorem fn.qB:P.funcs[F.qB]? = some Tryz.f159:=Tryz.func159
abbrev F.qC:Nat:=160
theorem fn.qC:P.funcs[F.qC]? = some Tryz.f160:=Tryz.func160
abbrev F.jD:Nat:=161
theorem fn.jD:P.funcs[F.jD]? = some Tryz.f161:=Tryz.func161
abbrev F.oP:Nat:=162
theorem fn.oP:P.funcs[F.oP]? = some Tryz.f162:=Tryz.func162
abbrev F.gZ:Nat:=163
theorem fn.gZ:P.funcs[F.gZ]? = some Tryz.f163:=Tryz.func163
abbrev F.EN:Nat:=164
theorem fn.EN:P.funcs[F.EN]? = some Tryz.f164:=Tryz.func164
abbrev F.cmp_Compare_int:Nat:=165
theorem fn.cmp_Compare_int:P.funcs[F.cmp_Compare_int]? = some Tryz.f165:=Tryz.func165
abbrev F.wM:Nat:=166
theorem fn.wM:P.funcs[F.wM]? = some Tryz.f166:=Tryz.func166
abbrev F.yB:Nat:=167
theorem fn.yB:P.funcs[F.yB]? = some Tryz.f167:=Tryz.func167
abbrev F.ig:Nat:=171
theorem fn.ig:P.funcs[F.ig]? = some Tryz.f171:=Tryz.func171
abbrev F.wO:Nat:=172
theorem fn.wO:P.funcs[F.wO]? = some Tryz.f172:=Tryz.func172
abbrev F.EO:Nat:=173
theorem fn.EO:P.funcs[F.EO]? = some Tryz.f173:=Tryz.func173
abbrev F.yC:Nat:=174
theorem fn.yC:P.funcs[F.yC]? = some Tryz.f174:=Tryz.func174
abbrev F.wP:Nat:=175
theorem fn.wP:P.funcs[F.wP]? = some Tryz.f175:=Tryz.func175
abbrev F.Ci:Nat:=176
theorem fn.Ci:P.funcs[F.Ci]? = some Tryz.f176:=Tryz.func176
abbrev F.Dx:Nat:=177
theorem fn.Dx:P.funcs[F.Dx]? = some Tryz.f177:=Tryz.func177
abbrev F.vw:Nat:=178
theorem fn.vw:P.funcs[F.vw]? = some Tryz.f178:=Tryz.func178
abbrev F.EP:Nat:=179
theorem fn.EP:P.funcs[F.EP]? = some Tryz.f179:=Tryz.func179
abbrev F.zN:Nat:=180
theorem fn.zN:P.funcs[F.zN]? = some Tryz.f180:=Tryz.func180
abbrev F.yD:Nat:=181
theorem fn.yD:P.funcs[F.yD]? = some Tryz.f181:=Tryz.func181
abbrev F.EQ:Nat:=182
theorem fn.EQ:P.funcs[F.EQ]? = some Tryz.f182:=Tryz.func182
abbrev F.Cj:Nat:=183
theorem fn.Cj:P.funcs[F.Cj]? = some Tryz.f183:=Tryz.func183
abbrev F.Cm:Nat:=184
theorem fn.Cm:P.funcs[F.Cm]? = some Tryz.f184:=Tryz.func184
abbrev F.ER:Nat:=189
theorem fn.ER:P.funcs[F.ER]? = some Tryz.f189:=Tryz.func189
abbrev F.uX:Nat:=190
theorem fn.uX:P.funcs[F.uX]? = some Tryz.f190:=Tryz.func190
abbrev F.qE:Nat:=193
theorem fn.qE:P.funcs[F.qE]? = some Tryz.f193:=Tryz.func193
abbrev F.wQ:Nat:=194
theorem fn.wQ:P.funcs[F.wQ]? = some Tryz.f194:=Tryz.func194
abbrev F.gY:Nat:=195
theorem fn.gY:P.funcs[F.gY]? = some Tryz.f195:=Tryz.func195
abbrev F.kZ:Nat:=196
theorem fn.kZ:P.funcs[F.kZ]? = some Tryz.f196:=Tryz.func196
abbrev F.zO:Nat:=197
theorem fn.zO:P.funcs[F.zO]? = some Tryz.f197:=Tryz.func197
abbrev F.kC:Nat:=198
theorem fn.kC:P.funcs[F.kC]? = some Tryz.f198:=Tryz.func198
abbrev F.oQ:Nat:=199
theorem fn.oQ:P.funcs[F.oQ]? = some Tryz.f199:=Tryz.func199
abbrev F.nN:Nat:=200
theorem fn.nN:P.funcs[F.nN]? = some Tryz.f200:=Tryz.func200
abbrev F.nO:Nat:=201
theorem fn.nO:P.funcs[F.nO]? = some Tryz.f201:=Tryz.func201
abbrev F.yP:Nat:=202
theorem fn.yP:P.funcs[F.yP]? = some Tryz.f202:=Tryz.func202
abbrev F.yQ:Nat:=203
theorem fn.yQ:P.funcs[F.yQ]? = some Tryz.f203:=Tryz.func203
abbrev F.GL:Nat:=204
theorem fn.GL:P.funcs[F.GL]? = some Tryz.f204:=Tryz.func204
abbrev F.Be:Nat:=205
theorem fn.Be:P.funcs[F.Be]? = some Tryz.f205:=Tryz.func205
abbrev F.yE:Nat:=206
theorem fn.yE:P.funcs[F.yE]? = some Tryz.f206:=Tryz.func206
abbrev F.yR:Nat:=207
theorem fn.yR:P.funcs[F.yR]? = some Tryz.f207:=Tryz.func207
abbrev F.nR:Nat:=208
theorem fn.nR:P.funcs[F.nR]? = some Tryz.f208:=Tryz.func208
abbrev F.mF:Nat:=209
theorem fn.mF:P.funcs[F.mF]? = some Tryz.f209:=Tryz.func209
abbrev F.oU:Nat:=210
theorem fn.oU:P.funcs[F.oU]? = some Tryz.f210:=Tryz.func210
abbrev F.nS:Nat:=211
theorem fn.nS:P.funcs[F.nS]? = some Tryz.f211:=Tryz.func211
abbrev F.eU:Nat:=212
theorem fn.eU:P.funcs[F.eU]? = some Tryz.f212:=Tryz.func212
abbrev F.cmp_isNaN_int:Nat:=214
theorem fn.cmp_isNaN_int:P.funcs[F.cmp_isNaN_int]? = some Tryz.f214:=Tryz.func214
abbrev F.qF:Nat:=215
theorem fn.qF:P.funcs[F.qF]? = some Tryz.f215:=Tryz.func215
abbrev F.tJ:Nat:=221
theorem fn.tJ:P.funcs[F.tJ]? = some Tryz.f221:=Tryz.func221
abbrev F.dG:Nat:=222
theorem fn.dG:P.funcs[F.dG]? = some Tryz.f222:=Tryz.func222
abbrev F.eF:Nat:=223
theorem fn.eF:P.funcs[F.eF]? = some Tryz.f223:=Tryz.func223
abbrev F.yF:Nat:=224
theorem fn.yF:P.funcs[F.yF]? = some Tryz.f224:=Tryz.func224
abbrev F.zQ:Nat:=225
theorem fn.zQ:P.funcs[F.zQ]? = some Tryz.f225:=Tryz.func225
abbrev F.Dy:Nat:=226
theorem fn.Dy:P.funcs[F.Dy]? = some Tryz.f226:=Tryz.func226
abbrev F.ES:Nat:=227
theorem fn.ES:P.funcs[F.ES]? = some Tryz.f227:=Tryz.func227
abbrev F.Dz:Nat:=228
theorem fn.Dz:P.funcs[F.Dz]? = some Tryz.f228:=Tryz.func228
abbrev F.DC:Nat:=229
theorem fn.DC:P.funcs[F.DC]? = some Tryz.f229:=Tryz.func229
abbrev F.CB:Nat:=233
theorem fn.CB:P.funcs[F.CB]? = some Tryz.f233:=Tryz.func233
abbrev F.iQ:Nat:=235
theorem fn.iQ:P.funcs[F.iQ]? = some Tryz.f235:=Tryz.func235
abbrev F.kW:Nat:=236
theorem fn.kW:P.funcs[F.kW]? = some Tryz.f236:=Tryz.func236
abbrev F.ET:Nat:=237
theorem fn.ET:P.funcs[F.ET]? = some Tryz.f237:=Tryz.func237
abbrev F.EU:Nat:=238
theorem fn.EU:P.funcs[F.EU]? = some Tryz.f238:=Tryz.func238
abbrev F.jX:Nat:=239
theorem fn.jX:P.funcs[F.jX]? = some Tryz.f239:=Tryz.func239
abbrev F.kD:Nat:=241
theorem fn.kD:P.funcs[F.kD]? = some Tryz.f241:=Tryz.func241
abbrev F.kE:Nat:=242
theorem fn.kE:P.funcs[F.kE]? = some Tryz.f242:=Tryz.func242
abbrev F.rW:Nat:=243
theorem fn.rW:P.funcs[F.rW]? = some Tryz.f243:=Tryz.func243
abbrev F.kF:Nat:=245
theorem fn.kF:P.funcs[F.kF]? = some Tryz.f245:=Tryz.func245
abbrev F.rX:Nat:=246
theorem fn.rX:P.funcs[F.rX]? = some Tryz.f246:=Tryz.func246
abbrev F.wR:Nat:=247
theorem fn.wR:P.funcs[F.wR]? = some Tryz.f247:=Tryz.func247
abbrev F.Bf:Nat:=248
theorem fn.Bf:P.funcs[F.Bf]? = some Tryz.f248:=Tryz.func248
abbrev F.rY:Nat:=249
theorem fn.rY:P.funcs[F.rY]? = some Tryz.f249:=Tryz.func249
abbrev F.uq:Nat:=251
theorem fn.uq:P.funcs[F.uq]? = some Tryz.f251:=Tryz.func251
abbrev F.jq:Nat:=296
theorem fn.jq:P.funcs[F.jq]? = some Tryz.f296:=Tryz.func296
abbrev F.uY:Nat:=297
theorem fn.uY:P.funcs[F.uY]? = some Tryz.f297:=Tryz.func297
abbrev T.i64:Nat:=2
theorem ce.i64:ji P 2:=⟨by kernel_rfl,by kernel_rfl⟩
theorem it.i64:N7 P 2 .i64:=⟨by kernel_rfl⟩
theorem z.i64:fE P 2 [.d (.sc (.int .i64 0))]:=⟨by kernel_rfl⟩
theorem sz.i64:(P.info? 2).map (·.size)=some 1:=by kernel_rfl
abbrev T.int:Nat:=3
theorem ce.int:ji P 3:=⟨by kernel_rfl,by kernel_rfl⟩
theorem it.int:N7 P 3 .i64:=⟨by kernel_rfl⟩
theorem z.int:fE P 3 [.d (.sc (.int .i64 0))]:=⟨by kernel_rfl⟩
theorem sz.int:(P.info? 3).map (·.size)=some 1:=by kernel_rfl
abbrev T.bool:Nat:=4
theorem ce.bool:ji P 4:=⟨by kernel_rfl,by kernel_rfl⟩
theorem bt.bool:N8 P 4:=⟨by kernel_rfl⟩
theorem z.bool:fE P 4 [.d (.sc (.bool false))]:=⟨by kernel_rfl⟩
theorem sz.bool:(P.info? 4).map (·.size)=some 1:=by kernel_rfl
abbrev T.u8:Nat:=5
theorem ce.u8:ji P 5:=⟨by kernel_rfl,by kernel_rfl⟩
theorem it.u8:N7 P 5 .u8:=⟨by kernel_rfl⟩
theorem z.u8:fE P 5 [.d (.sc (.int .u8 0))]:=⟨by kernel_rfl⟩
theorem sz.u8:(P.info? 5).map (·.size)=some 1:=by kernel_rfl
abbrev T.ints:Nat:=22
theorem sl.ints:bJ P 22 3 1 8:=⟨by kernel_rfl,by kernel_rfl,by decide⟩
theorem ce.ints:ji P 22:=⟨by kernel_rfl,by kernel_rfl⟩
theorem z.ints:fE P 22 [.mt]:=⟨by kernel_rfl⟩
theorem sz.ints:(P.info? 22).map (·.size)=some 1:=by kernel_rfl
abbrev T.Model:Nat:=24
theorem ag.Model:zf P 24 5:=⟨by kernel_rfl,by kernel_rfl⟩
theorem cc.Model:kL P 24:=by unfold kL;kernel_rfl
theorem fd.aN8:dY P 24 0 0:=⟨by kernel_rfl⟩
theorem fd.aN9:dY P 24 1 1:=⟨by kernel_rfl⟩
theorem fd.aO0:dY P 24 2 2:=⟨by kernel_rfl⟩
theorem fd.Js:dY P 24 3 3:=⟨by kernel_rfl⟩
theorem fd.ab2:dY P 24 4 4:=⟨by kernel_rfl⟩
theorem z.Model:fE P 24 [.d (.sc (.int .i64 0)),.mt,.mt,.mt,.d (.sc (.bool false))]:=⟨by kernel_rfl⟩
theorem pl.Model:mZ P 24 [(0,1),(1,1),(2,1),(3,1),(4,1)]:=⟨by kernel_rfl⟩
theorem sz.Model:(P.info? 24).map (·.size)=some 5:=by kernel_rfl
abbrev T.Ring:Nat:=26
theorem ag.Ring:zf P 26 2:=⟨by kernel_rfl,by kernel_rfl⟩
theorem cc.Ring:kL P 26:=by unfold kL;kernel_rfl
theorem fd.lD:dY P 26 0 0:=⟨by kernel_rfl⟩
theorem fd.EW:dY P 26 1 1:=⟨by kernel_rfl⟩
theorem z.Ring:fE P 26 [.d (.sc (.int .i64 0)),.mt]:=⟨by kernel_rfl⟩
theorem pl.Ring:mZ P 26 [(0,1),(1,1)]:=⟨by kernel_rfl⟩
theorem sz.Ring:(P.info? 26).map (·.size)=some 2:=by kernel_rfl
abbrev T.aW:Nat:=27
theorem sl.aW:bJ P 27 51 8 128:=⟨by kernel_rfl,by kernel_rfl,by decide⟩
theorem ce.aW:ji P 27:=⟨by kernel_rfl,by kernel_rfl⟩
theorem z.aW:fE P 27 [.mt]:=⟨by kernel_rfl⟩
theorem sz.aW:(P.info? 27).map (·.size)=some 1:=by kernel_rfl
abbrev T.dm:Nat:=28
theorem sl.dm:bJ P 28 101 11 152:=⟨by kernel_rfl,by kernel_rfl,by decide⟩
theorem ce.dm:ji P 28:=⟨by kernel_rfl,by kernel_rfl⟩
theorem z.dm:fE P 28 [.mt]:=⟨by kernel_rfl⟩
theorem sz.dm:(P.info? 28).map (·.size)=some 1:=by kernel_rfl
abbrev T.Auto:Nat:=30
theorem ag.Auto:zf P 30 7:=⟨by kernel_rfl,by kernel_rfl⟩
theorem cc.Auto:kL P 30:=by unfold kL;kernel_rfl
theorem fd.jE:dY P 30 0 0:=⟨by kernel_rfl⟩
theorem fd.lX:dY P 30 1 2:=⟨by kernel_rfl⟩
theorem fd.oz:dY P 30 2 3:=⟨by kernel_rfl⟩
theorem fd.qW:dY P 30 3 4:=⟨by kernel_rfl⟩
theorem fd.uw:dY P 30 4 5:=⟨by kernel_rfl⟩
theorem fd.gK:dY P 30 5 6:=⟨by kernel_rfl⟩
theorem z.Auto:fE P 30 [.d (.sc (.int .i64 0)),.mt,.d (.sc (.int .i64 0)),.d (.sc (.int .i64 0)),.mt,.mt,.mt]:=⟨by kernel_rfl⟩
theorem pl.Auto:mZ P 30 [(0,2),(2,1),(3,1),(4,1),(5,1),(6,1)]:=⟨by kernel_rfl⟩
theorem sz.Auto:(P.info? 30).map (·.size)=some 7:=by kernel_rfl
abbrev T.gB:Nat:=32
theorem sl.gB:bJ P 32 22 1 24:=⟨by kernel_rfl,by kernel_rfl,by decide⟩
theorem ce.gB:ji P 32:=⟨by kernel_rfl,by kernel_rfl⟩
theorem z.gB:fE P 32 [.mt]:=⟨by kernel_rfl⟩
theorem sz.gB:(P.info? 32).map (·.size)=some 1:=by kernel_rfl
abbrev T.aH:Nat:=45
theorem sl.aH:bJ P 45 175 1 4:=⟨by kernel_rfl,by kernel_rfl,by decide⟩
theorem ce.aH:ji P 45:=⟨by kernel_rfl,by kernel_rfl⟩
theorem z.aH:fE P 45 [.mt]:=⟨by kernel_rfl⟩
theorem sz.aH:(P.info? 45).map (·.size)=some 1:=by kernel_rfl
abbrev T.Rat:Nat:=47
theorem ag.Rat:zf P 47 3:=⟨by kernel_rfl,by kernel_rfl⟩
theorem cc.Rat:kL P 47:=by unfold kL;kernel_rfl
theorem fd.uh:dY P 47 0 0:=⟨by kernel_rfl⟩
theorem fd.rZ:dY P 47 1 1:=⟨by kernel_rfl⟩
theorem fd.o6:dY P 47 2 2:=⟨by kernel_rfl⟩
theorem z.Rat:fE P 47 [.d (.sc (.bool false)),.mt,.mt]:=⟨by kernel_rfl⟩
theorem pl.Rat:mZ P 47 [(0,1),(1,1),(2,1)]:=⟨by kernel_rfl⟩
theorem sz.Rat:(P.info? 47).map (·.size)=some 3:=by kernel_rfl
abbrev T.u64:Nat:=48
theorem ce.u64:ji P 48:=⟨by kernel_rfl,by kernel_rfl⟩
theorem it.u64:N7 P 48 .u64:=⟨by kernel_rfl⟩
theorem z.u64:fE P 48 [.d (.sc (.int .u64 0))]:=⟨by kernel_rfl⟩
theorem sz.u64:(P.info? 48).map (·.size)=some 1:=by kernel_rfl
abbrev T.iR:Nat:=49
theorem sl.iR:bJ P 49 179 6 80:=⟨by kernel_rfl,by kernel_rfl,by decide⟩
theorem ce.iR:ji P 49:=⟨by kernel_rfl,by kernel_rfl⟩
theorem z.iR:fE P 49 [.mt]:=⟨by kernel_rfl⟩
theorem sz.iR:(P.info? 49).map (·.size)=some 1:=by kernel_rfl
abbrev T.aC:Nat:=51
theorem ag.aC:zf P 51 8:=⟨by kernel_rfl,by kernel_rfl⟩
theorem cc.aC:kL P 51:=by unfold kL;kernel_rfl
theorem fd.iC:dY P 51 0 0:=⟨by kernel_rfl⟩
theorem fd.DF:dY P 51 1 3:=⟨by kernel_rfl⟩
theorem fd.Bg:dY P 51 2 4:=⟨by kernel_rfl⟩
theorem fd.DI:dY P 51 3 5:=⟨by kernel_rfl⟩
theorem fd.DJ:dY P 51 4 6:=⟨by kernel_rfl⟩
theorem fd.Bh:dY P 51 5 7:=⟨by kernel_rfl⟩
theorem z.aC:fE P 51 [.d (.sc (.bool false)),.mt,.mt,.d (.sc (.int .i64 0)),.d (.sc (.bool false)),.d (.sc (.int .u64 0)),.mt,.mt]:=⟨by kernel_rfl⟩
theorem pl.aC:mZ P 51 [(0,3),(3,1),(4,1),(5,1),(6,1),(7,1)]:=⟨by kernel_rfl⟩
theorem sz.aC:(P.info? 51).map (·.size)=some 8:=by kernel_rfl
abbrev T.xC:Nat:=62
theorem sl.xC:bJ P 62 96 3 72:=⟨by kernel_rfl,by kernel_rfl,by decide⟩
theorem ce.xC:ji P 62:=⟨by kernel_rfl,by kernel_rfl⟩
theorem z.xC:fE P 62 [.mt]:=⟨by kernel_rfl⟩
theorem sz.xC:(P.info? 62).map (·.size)=some 1:=by kernel_rfl
abbrev T.bg:Nat:=67
theorem sl.bg:bJ P 67 47 3 56:=⟨by kernel_rfl,by kernel_rfl,by decide⟩
theorem ce.bg:ji P 67:=⟨by kernel_rfl,by kernel_rfl⟩
theorem z.bg:fE P 67 [.mt]:=⟨by kernel_rfl⟩
theorem sz.bg:(P.info? 67).map (·.size)=some 1:=by kernel_rfl
abbrev T.jF:Nat:=68
theorem sl.jF:bJ P 68 74 1 24:=⟨by kernel_rfl,by kernel_rfl,by decide⟩
theorem ce.jF:ji P 68:=⟨by kernel_rfl,by kernel_rfl⟩
theorem z.jF:fE P 68 [.mt]:=⟨by kernel_rfl⟩
theorem sz.jF:(P.info? 68).map (·.size)=some 1:=by kernel_rfl
abbrev T.Machine:Nat:=70
theorem ag.Machine:zf P 70 3:=⟨by kernel_rfl,by kernel_rfl⟩
theorem cc.Machine:kL P 70:=by unfold kL;kernel_rfl
theorem fd.Aa:dY P 70 0 0:=⟨by kernel_rfl⟩
theorem fd.GN:dY P 70 1 1:=⟨by kernel_rfl⟩
theorem fd.o7:dY P 70 2 2:=⟨by kernel_rfl⟩
theorem z.Machine:fE P 70 [.mt,.mt,.mt]:=⟨by kernel_rfl⟩
theorem pl.Machine:mZ P 70 [(0,1),(1,1),(2,1)]:=⟨by kernel_rfl⟩
theorem sz.Machine:(P.info? 70).map (·.size)=some 3:=by kernel_rfl
abbrev T.dw:Nat:=74
theorem sl.dw:bJ P 74 67 1 24:=⟨by kernel_rfl,by kernel_rfl,by decide⟩
theorem ce.dw:ji P 74:=⟨by kernel_rfl,by kernel_rfl⟩
theorem z.dw:fE P 74 [.mt]:=⟨by kernel_rfl⟩
theorem sz.dw:(P.info? 74).map (·.size)=some 1:=by kernel_rfl
abbrev T.Space:Nat:=80
theorem ag.Space:zf P 80 3:=⟨by kernel_rfl,by kernel_rfl⟩
theorem cc.Space:kL P 80:=by unfold kL;kernel_rfl
theorem fd.NF:dY P 80 0 0:=⟨by kernel_rfl⟩
theorem fd.Uz:dY P 80 1 1:=⟨by kernel_rfl⟩
theorem fd.NG:dY P 80 2 2:=⟨by kernel_rfl⟩
theorem z.Space:fE P 80 [.mt,.mt,.mt]:=⟨by kernel_rfl⟩
theorem pl.Space:mZ P 80 [(0,1),(1,1),(2,1)]:=⟨by kernel_rfl⟩
theorem sz.Space:(P.info? 80).map (·.size)=some 3:=by kernel_rfl
abbrev T.Row:Nat:=83
theorem ag.Row:zf P 83 2:=⟨by kernel_rfl,by kernel_rfl⟩
theorem cc.Row:kL P 83:=by unfold kL;kernel_rfl
theorem fd.ab3:dY P 83 0 0:=⟨by kernel_rfl⟩
theorem fd.Me:dY P 83 1 1:=⟨by kernel_rfl⟩
theorem z.Row:fE P 83 [.mt,.mt]:=⟨by kernel_rfl⟩
theorem pl.Row:mZ P 83 [(0,1),(1,1)]:=⟨by kernel_rfl⟩
theorem sz.Row:(P.info? 83).map (·.size)=some 2:=by kernel_rfl
abbrev T.Rows:Nat:=84
theorem sl.Rows:bJ P 84 83 2 48:=⟨by kernel_rfl,by kernel_rfl,by decide⟩
theorem ce.Rows:ji P 84:=⟨by kernel_rfl,by kernel_rfl⟩
theorem z.Rows:fE P 84 [.mt]:=⟨by kernel_rfl⟩
theorem sz.Rows:(P.info? 84).map (·.size)=some 1:=by kernel_rfl
abbrev T.EX:Nat:=96
theorem ag.EX:zf P 96 3:=⟨by kernel_rfl,by kernel_rfl⟩
theorem cc.EX:kL P 96:=by unfold kL;kernel_rfl
theorem fd.YM:dY P 96 0 0:=⟨by kernel_rfl⟩
theorem fd.bb8:dY P 96 1 2:=⟨by kernel_rfl⟩
theorem z.EX:fE P 96 [.mt,.mt,.mt]:=⟨by kernel_rfl⟩
theorem pl.EX:mZ P 96 [(0,2),(2,1)]:=⟨by kernel_rfl⟩
theorem sz.EX:(P.info? 96).map (·.size)=some 3:=by kernel_rfl
abbrev T.mX:Nat:=101
theorem ag.mX:zf P 101 11:=⟨by kernel_rfl,by kernel_rfl⟩
theorem cc.mX:kL P 101:=by unfold kL;kernel_rfl
theorem fd.Ib:dY P 101 0 0:=⟨by kernel_rfl⟩
theorem fd.DK:dY P 101 1 1:=⟨by kernel_rfl⟩
theorem fd.Fh:dY P 101 2 2:=⟨by kernel_rfl⟩
theorem fd.rC:dY P 101 3 3:=⟨by kernel_rfl⟩
theorem z.mX:fE P 101 [.d (.sc (.int .i64 0)),.d (.sc (.int .i64 0)),.d (.sc (.int .i64 0)),.d (.sc (.bool false)),.mt,.mt,.d (.sc (.int .i64 0)),.d (.sc (.bool false)),.d (.sc (.int .u64 0)),.mt,.mt]:=⟨by kernel_rfl⟩
theorem pl.mX:mZ P 101 [(0,1),(1,1),(2,1),(3,8)]:=⟨by kernel_rfl⟩
theorem sz.mX:(P.info? 101).map (·.size)=some 11:=by kernel_rfl
abbrev T.uI:Nat:=130
theorem sl.uI:bJ P 130 30 7 120:=⟨by kernel_rfl,by kernel_rfl,by decide⟩
theorem ce.uI:ji P 130:=⟨by kernel_rfl,by kernel_rfl⟩
theorem z.uI:fE P 130 [.mt]:=⟨by kernel_rfl⟩
theorem sz.uI:(P.info? 130).map (·.size)=some 1:=by kernel_rfl
abbrev T.limbs:Nat:=147
theorem sl.limbs:bJ P 147 175 1 4:=⟨by kernel_rfl,by kernel_rfl,by decide⟩
theorem ce.limbs:ji P 147:=⟨by kernel_rfl,by kernel_rfl⟩
theorem z.limbs:fE P 147 [.mt]:=⟨by kernel_rfl⟩
theorem sz.limbs:(P.info? 147).map (·.size)=some 1:=by kernel_rfl
abbrev T.fraction:Nat:=151
theorem ag.fraction:zf P 151 3:=⟨by kernel_rfl,by kernel_rfl⟩
theorem cc.fraction:kL P 151:=by unfold kL;kernel_rfl
theorem fd.jR:dY P 151 0 0:=⟨by kernel_rfl⟩
theorem fd.lY:dY P 151 1 1:=⟨by kernel_rfl⟩
theorem fd.oC:dY P 151 2 2:=⟨by kernel_rfl⟩
theorem z.fraction:fE P 151 [.d (.sc (.bool false)),.mt,.mt]:=⟨by kernel_rfl⟩
theorem pl.fraction:mZ P 151 [(0,1),(1,1),(2,1)]:=⟨by kernel_rfl⟩
theorem sz.fraction:(P.info? 151).map (·.size)=some 3:=by kernel_rfl
abbrev T.u32:Nat:=175
theorem ce.u32:ji P 175:=⟨by kernel_rfl,by kernel_rfl⟩
theorem it.u32:N7 P 175 .u32:=⟨by kernel_rfl⟩
theorem z.u32:fE P 175 [.d (.sc (.int .u32 0))]:=⟨by kernel_rfl⟩
theorem sz.u32:(P.info? 175).map (·.size)=some 1:=by kernel_rfl
abbrev T.uint:Nat:=197
theorem ce.uint:ji P 197:=⟨by kernel_rfl,by kernel_rfl⟩
theorem it.uint:N7 P 197 .u64:=⟨by kernel_rfl⟩
theorem z.uint:fE P 197 [.d (.sc (.int .u64 0))]:=⟨by kernel_rfl⟩
theorem sz.uint:(P.info? 197).map (·.size)=some 1:=by kernel_rfl
abbrev T.algebra:Nat:=211
theorem ag.algebra:zf P 211 9:=⟨by kernel_rfl,by kernel_rfl⟩
theorem cc.algebra:kL P 211:=by unfold kL;kernel_rfl
theorem fd.RF:dY P 211 0 0:=⟨by kernel_rfl⟩
theorem fc.RF:FH P 211 0 0:=⟨by kernel_rfl⟩
theorem fd.RG:dY P 211 1 1:=⟨by kernel_rfl⟩
theorem fc.RG:FH P 211 1 1:=⟨by kernel_rfl⟩
theorem fd.RH:dY P 211 3 3:=⟨by kernel_rfl⟩
theorem fc.RH:FH P 211 3 3:=⟨by kernel_rfl⟩
theorem z.algebra:fE P 211 [.d (.sc .nilFunc),.d (.sc .nilFunc),.d (.sc .nilFunc),.d (.sc .nilFunc),.d (.sc .nilFunc),.d (.sc .nilFunc),.d (.sc .nilFunc),.d (.sc .nilFunc),.d (.sc .nilFunc)]:=⟨by kernel_rfl⟩
theorem pl.algebra:mZ P 211 [(0,1),(1,1),(2,1),(3,1),(4,1),(5,1),(6,1),(7,1),(8,1)]:=⟨by kernel_rfl⟩
theorem sz.algebra:(P.info? 211).map (·.size)=some 9:=by kernel_rfl
abbrev T.rows:Nat:=163
theorem sl.rows:bJ P 163 167 2 48:=⟨by kernel_rfl,by kernel_rfl,by decide⟩
theorem ce.rows:ji P 163:=⟨by kernel_rfl,by kernel_rfl⟩
theorem z.rows:fE P 163 [.mt]:=⟨by kernel_rfl⟩
theorem sz.rows:(P.info? 163).map (·.size)=some 1:=by kernel_rfl
abbrev T.row:Nat:=167
theorem ag.row:zf P 167 2:=⟨by kernel_rfl,by kernel_rfl⟩
theorem cc.row:kL P 167:=by unfold kL;kernel_rfl
theorem fd.Bj:dY P 167 0 0:=⟨by kernel_rfl⟩
theorem fd.Jt:dY P 167 1 1:=⟨by kernel_rfl⟩
theorem z.row:fE P 167 [.mt,.mt]:=⟨by kernel_rfl⟩
theorem pl.row:mZ P 167 [(0,1),(1,1)]:=⟨by kernel_rfl⟩
theorem sz.row:(P.info? 167).map (·.size)=some 2:=by kernel_rfl
abbrev T.aj6:Nat:=64
theorem ce.aj6:ji P 64:=⟨by kernel_rfl,by kernel_rfl⟩
theorem z.aj6:fE P 64 [.d (.sc .nilFunc)]:=⟨by kernel_rfl⟩
theorem sz.aj6:(P.info? 64).map (·.size)=some 1:=by kernel_rfl
abbrev T.aj7:Nat:=73
theorem ce.aj7:ji P 73:=⟨by kernel_rfl,by kernel_rfl⟩
theorem z.aj7:fE P 73 [.d (.sc .nilFunc)]:=⟨by kernel_rfl⟩
theorem sz.aj7:(P.info? 73).map (·.size)=some 1:=by kernel_rfl
abbrev T.EY:Nat:=64
theorem ce.EY:ji P 64:=ce.aj6
theorem z.EY:fE P 64 [.d (.sc .nilFunc)]:=z.aj6
theorem sz.EY:(P.info? 64).map (·.size)=some 1:=sz.aj6
abbrev T.NH:Nat:=73
theorem ce.NH:ji P 73:=ce.aj7
theorem z.NH:fE P 73 [.d (.sc .nilFunc)]:=z.aj7
theorem sz.NH:(P.info? 73).map (·.size)=some 1:=sz.aj7
abbrev T.Bl:Nat:=133
theorem sl.Bl:bJ P 133 73 1 8:=⟨by kernel_rfl,by kernel_rfl,by decide⟩
theorem ce.Bl:ji P 133:=⟨by kernel_rfl,by kernel_rfl⟩
theorem z.Bl:fE P 133 [.mt]:=⟨by kernel_rfl⟩
theorem sz.Bl:(P.info? 133).map (·.size)=some 1:=by kernel_rfl
abbrev T.vz:Nat:=63
theorem ce.vz:ji P 63:=⟨by kernel_rfl,by kernel_rfl⟩
theorem cc.vz:kL P 63:=by unfold kL;kernel_rfl
theorem z.vz:fE P 63 [.d (.sc (.pointer none))]:=⟨by kernel_rfl⟩
theorem sz.vz:(P.info? 63).map (·.size)=some 1:=by kernel_rfl
theorem st.str:P.underlying 9=some .string:=by kernel_rfl
