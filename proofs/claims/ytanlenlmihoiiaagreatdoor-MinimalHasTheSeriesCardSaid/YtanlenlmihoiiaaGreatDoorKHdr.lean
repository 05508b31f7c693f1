/-
  Names for the functions of this seat, and facts on its types (printed by hdr.py).
-/
import Derived.Test.YtanlenlmihoiiaaGreatDoorChecked
import Derived.KernelRfl
import Derived.Test.YtanlenlmihoiiaaGreatDoorKAlg37
set_option linter.unusedVariables false
set_option linter.unusedSimpArgs false
namespace Go.Proofs.YtanlenlmihoiiaaGreatDoor
open Go Go.AL
noncomputable abbrev P:Program:=Tryz.prog
theorem ak:P.follows .mixedOrders=true:=by kernel_rfl
abbrev F.jO:Nat:=4
theorem fn.jO:P.funcs[F.jO]? = some Tryz.f4:=Tryz.func4
abbrev F.vC:Nat:=6
theorem fn.vC:P.funcs[F.vC]? = some Tryz.f6:=Tryz.func6
abbrev F.jL:Nat:=11
theorem fn.jL:P.funcs[F.jL]? = some Tryz.f11:=Tryz.func11
abbrev F.vF:Nat:=13
theorem fn.vF:P.funcs[F.vF]? = some Tryz.f13:=Tryz.func13
abbrev F.DF:Nat:=15
theorem fn.DF:P.funcs[F.DF]? = some Tryz.f15:=Tryz.func15
abbrev F.qW:Nat:=16
theorem fn.qW:P.funcs[F.qW]? = some Tryz.f16:=Tryz.func16
abbrev F.DI:Nat:=17
theorem fn.DI:P.funcs[F.DI]? = some Tryz.f17:=Tryz.func17
abbrev F.yQ:Nat:=18
theorem fn.yQ:P.funcs[F.yQ]? = some Tryz.f18:=Tryz.func18
abbrev F.Az:Nat:=19
theorem fn.Az:P.funcs[F.Az]? = some Tryz.f19:=Tryz.func19
abbrev F.xe:Nat:=20
theorem fn.xe:P.funcs[F.xe]? = some Tryz.f20:=Tryz.func20
abbrev F.kT:Nat:=22
theorem fn.kT:P.funcs[F.kT]? = some Tryz.f22:=Tryz.func22
abbrev F.uT:Nat:=23
theorem fn.uT:P.funcs[F.uT]? = some Tryz.f23:=Tryz.func23
abbrev F.AA:Nat:=24
theorem fn.AA:P.funcs[F.AA]? = some Tryz.f24:=Tryz.func24
abbrev F.sG:Nat:=25
theorem fn.sG:P.funcs[F.sG]? = some Tryz.f25:=Tryz.func25
abbrev F.DJ:Nat:=26
theorem fn.DJ:P.funcs[F.DJ]? = some Tryz.f26:=Tryz.func26
abbrev F.AB:Nat:=28
theorem fn.AB:P.funcs[F.AB]? = some Tryz.f28:=Tryz.func28
abbrev F.DK:Nat:=30
theorem fn.DK:P.funcs[F.DK]? = some Tryz.f30:=Tryz.func30
abbrev F.iT:Nat:=31
theorem fn.iT:P.funcs[F.iT]? = some Tryz.f31:=Tryz.func31
abbrev F.qh:Nat:=32
theorem fn.qh:P.funcs[F.qh]? = some Tryz.f32:=Tryz.func32
abbrev F.vY:Nat:=33
theorem fn.vY:P.funcs[F.vY]? = some Tryz.f33:=Tryz.func33
abbrev F.nK:Nat:=34
theorem fn.nK:P.funcs[F.nK]? = some Tryz.f34:=Tryz.func34
abbrev F.xH:Nat:=35
theorem fn.xH:P.funcs[F.xH]? = some Tryz.f35:=Tryz.func35
abbrev F.Gi:Nat:=37
theorem fn.Gi:P.funcs[F.Gi]? = some Tryz.f37:=Tryz.func37
abbrev F.DL:Nat:=40
theorem fn.DL:P.funcs[F.DL]? = some Tryz.f40:=Tryz.func40
abbrev F.oC:Nat:=41
theorem fn.oC:P.funcs[F.oC]? = some Tryz.f41:=Tryz.func41
abbrev F.Jf:Nat:=42
theorem fn.Jf:P.funcs[F.Jf]? = some Tryz.f42:=Tryz.func42
abbrev F.uI:Nat:=43
theorem fn.uI:P.funcs[F.uI]? = some Tryz.f43:=Tryz.func43
abbrev F.vZ:Nat:=44
theorem fn.vZ:P.funcs[F.vZ]? = some Tryz.f44:=Tryz.func44
abbrev F.sH:Nat:=45
theorem fn.sH:P.funcs[F.sH]? = some Tryz.f45:=Tryz.func45
abbrev F.Jg:Nat:=46
theorem fn.Jg:P.funcs[F.Jg]? = some Tryz.f46:=Tryz.func46
abbrev F.rM:Nat:=48
theorem fn.rM:P.funcs[F.rM]? = some Tryz.f48:=Tryz.func48
abbrev F.MX:Nat:=49
theorem fn.MX:P.funcs[F.MX]? = some Tryz.f49:=Tryz.func49
abbrev F.DN:Nat:=51
theorem fn.DN:P.funcs[F.DN]? = some Tryz.f51:=Tryz.func51
abbrev F.wo:Nat:=52
theorem fn.wo:P.funcs[F.wo]? = some Tryz.f52:=Tryz.func52
abbrev F.AO:Nat:=53
theorem fn.AO:P.funcs[F.AO]? = some Tryz.f53:=Tryz.func53
abbrev F.AP:Nat:=54
theorem fn.AP:P.funcs[F.AP]? = some Tryz.f54:=Tryz.func54
abbrev F.sJ:Nat:=55
theorem fn.sJ:P.funcs[F.sJ]? = some Tryz.f55:=Tryz.func55
abbrev F.AQ:Nat:=56
theorem fn.AQ:P.funcs[F.AQ]? = some Tryz.f56:=Tryz.func56
abbrev F.yR:Nat:=57
theorem fn.yR:P.funcs[F.yR]? = some Tryz.f57:=Tryz.func57
abbrev F.xI:Nat:=58
theorem fn.xI:P.funcs[F.xI]? = some Tryz.f58:=Tryz.func58
abbrev F.Gj:Nat:=59
theorem fn.Gj:P.funcs[F.Gj]? = some Tryz.f59:=Tryz.func59
abbrev F.AU:Nat:=60
theorem fn.AU:P.funcs[F.AU]? = some Tryz.f60:=Tryz.func60
abbrev F.DR:Nat:=61
theorem fn.DR:P.funcs[F.DR]? = some Tryz.f61:=Tryz.func61
abbrev F.sK:Nat:=62
theorem fn.sK:P.funcs[F.sK]? = some Tryz.f62:=Tryz.func62
abbrev F.DT:Nat:=63
theorem fn.DT:P.funcs[F.DT]? = some Tryz.f63:=Tryz.func63
abbrev F.sN:Nat:=67
theorem fn.sN:P.funcs[F.sN]? = some Tryz.f67:=Tryz.func67
abbrev F.oP:Nat:=68
theorem fn.oP:P.funcs[F.oP]? = some Tryz.f68:=Tryz.func68
abbrev F.qI:Nat:=69
theorem fn.qI:P.funcs[F.qI]? = some Tryz.f69:=Tryz.func69
abbrev F.Jh:Nat:=70
theorem fn.Jh:P.funcs[F.Jh]? = some Tryz.f70:=Tryz.func70
abbrev F.uJ:Nat:=71
theorem fn.uJ:P.funcs[F.uJ]? = some Tryz.f71:=Tryz.func71
abbrev F.qJ:Nat:=72
theorem fn.qJ:P.funcs[F.qJ]? = some Tryz.f72:=Tryz.func72
abbrev F.qK:Nat:=73
theorem fn.qK:P.funcs[F.qK]? = some Tryz.f73:=Tryz.func73
abbrev F.AV:Nat:=74
theorem fn.AV:P.funcs[F.AV]? = some Tryz.f74:=Tryz.func74
abbrev F.qL:Nat:=75
theorem fn.qL:P.funcs[F.qL]? = some Tryz.f75:=Tryz.func75
abbrev F.nM:Nat:=76
theorem fn.nM:P.funcs[F.nM]? = some Tryz.f76:=Tryz.func76
abbrev F.lZ:Nat:=77
theorem fn.lZ:P.funcs[F.lZ]? = some Tryz.f77:=Tryz.func77
abbrev F.yS:Nat:=78
theorem fn.yS:P.funcs[F.yS]? = some Tryz.f78:=Tryz.func78
abbrev F.iZ:Nat:=79
theorem fn.iZ:P.funcs[F.iZ]? = some Tryz.f79:=Tryz.func79
abbrev F.AX:Nat:=80
theorem fn.AX:P.funcs[F.AX]? = some Tryz.f80:=Tryz.func80
abbrev F.AY:Nat:=81
theorem fn.AY:P.funcs[F.AY]? = some Tryz.f81:=Tryz.func81
abbrev F.ql:Nat:=82
theorem fn.ql:P.funcs[F.ql]? = some Tryz.f82:=Tryz.func82
abbrev F.ji:Nat:=83
theorem fn.ji:P.funcs[F.ji]? = some Tryz.f83:=Tryz.func83
abbrev F.qX:Nat:=84
theorem fn.qX:P.funcs[F.qX]? = some Tryz.f84:=Tryz.func84
abbrev F.DU:Nat:=85
theorem fn.DU:P.funcs[F.DU]? = some Tryz.f85:=Tryz.func85
abbrev F.yT:Nat:=86
theorem fn.yT:P.funcs[F.yT]? = some Tryz.f86:=Tryz.func86
abbrev F.oD:Nat:=87
theorem fn.oD:P.funcs[F.oD]? = some Tryz.f87:=Tryz.func87
abbrev F.qm:Nat:=88
theorem fn.qm:P.funcs[F.qm]? = some Tryz.f88:=Tryz.func88
abbrev F.qo:Nat:=89
theorem fn.qo:P.funcs[F.qo]? = some Tryz.f89:=Tryz.func89
abbrev F.DV:Nat:=90
theorem fn.DV:P.funcs[F.DV]? = some Tryz.f90:=Tryz.func90
abbrev F.DW:Nat:=92
theorem fn.DW:P.funcs[F.DW]? = some Tryz.f92:=Tryz.func92
abbrev F.xJ:Nat:=93
theorem fn.xJ:P.funcs[F.xJ]? = some Tryz.f93:=Tryz.func93
abbrev F.Gl:Nat:=94
theorem fn.Gl:P.funcs[F.Gl]? = some Tryz.f94:=Tryz.func94
abbrev F.xK:Nat:=95
theorem fn.xK:P.funcs[F.xK]? = some Tryz.f95:=Tryz.func95
abbrev F.l7:Nat:=96
theorem fn.l7:P.funcs[F.l7]? = some Tryz.f96:=Tryz.func96
abbrev F.mO:Nat:=97
theorem fn.mO:P.funcs[F.mO]? = some Tryz.f97:=Tryz.func97
abbrev F.nN:Nat:=98
theorem fn.nN:P.funcs[F.nN]? = some Tryz.f98:=Tryz.func98
abbrev F.dR:Nat:=99
theorem fn.dR:P.funcs[F.dR]? = some Tryz.f99:=Tryz.func99
abbrev F.dJ:Nat:=100
theorem fn.dJ:P.funcs[F.dJ]? = some Tryz.f100:=Tryz.func100
abbrev F.xM:Nat:=101
theorem fn.xM:P.funcs[F.xM]? = some Tryz.f101:=Tryz.func101
abbrev F.xN:Nat:=102
theorem fn.xN:P.funcs[F.xN]? = some Tryz.f102:=Tryz.func102
abbrev F.jP:Nat:=103
theorem fn.jP:P.funcs[F.jP]? = some Tryz.f103:=Tryz.func103
abbrev F.o7:Nat:=104
theorem fn.o7:P.funcs[F.o7]? = some Tryz.f104:=Tryz.func104
abbrev F.sO:Nat:=105
theorem fn.sO:P.funcs[F.sO]? = some Tryz.f105:=Tryz.func105
abbrev F.wu:Nat:=106
theorem fn.wu:P.funcs[F.wu]? = some Tryz.f106:=Tryz.func106
abbrev F.wz:Nat:=107
theorem fn.wz:P.funcs[F.wz]? = some Tryz.f107:=Tryz.func107
abbrev F.DX:Nat:=108
theorem fn.DX:P.funcs[F.DX]? = some Tryz.f108:=Tryz.func108
abbrev F.yU:Nat:=111
theorem fn.yU:P.funcs[F.yU]? = some Tryz.f111:=Tryz.func111
abbrev F.DY:Nat:=112
theorem fn.DY:P.funcs[F.DY]? = some Tryz.f112:=Tryz.func112
abbrev F.Gm:Nat:=113
theorem fn.Gm:P.funcs[F.Gm]? = some Tryz.f113:=Tryz.func113
abbrev F.DZ:Nat:=114
theorem fn.DZ:P.funcs[F.DZ]? = some Tryz.f114:=Tryz.func114
abbrev F.zU:Nat:=115
theorem fn.zU:P.funcs[F.zU]? = some Tryz.f115:=Tryz.func115
abbrev F.zV:Nat:=116
theorem fn.zV:P.funcs[F.zV]? = some Tryz.f116:=Tryz.func116
abbrev F.D5:Nat:=117
theorem fn.D5:P.funcs[F.D5]? = some Tryz.f117:=Tryz.func117
abbrev F.yh:Nat:=118
theorem fn.yh:P.funcs[F.yh]? = some Tryz.f118:=Tryz.func118
abbrev F.AZ:Nat:=119
theorem fn.AZ:P.funcs[F.AZ]? = some Tryz.f119:=Tryz.func119
abbrev F.A7:Nat:=120
theorem fn.A7:P.funcs[F.A7]? = some Tryz.f120:=Tryz.func120
abbrev F.D6:Nat:=121
theorem fn.D6:P.funcs[F.D6]? = some Tryz.f121:=Tryz.func121
abbrev F.D7:Nat:=122
theorem fn.D7:P.funcs[F.D7]? = some Tryz.f122:=Tryz.func122
abbrev F.D8:Nat:=123
theorem fn.D8:P.funcs[F.D8]? = some Tryz.f123:=Tryz.func123
abbrev F.A8:Nat:=124
theorem fn.A8:P.funcs[F.A8]? = some Tryz.f124:=Tryz.func124
abbrev F.zW:Nat:=125
theorem fn.zW:P.funcs[F.zW]? = some Tryz.f125:=Tryz.func125
abbrev F.xO:Nat:=126
theorem fn.xO:P.funcs[F.xO]? = some Tryz.f126:=Tryz.func126
abbrev F.Ba:Nat:=127
theorem fn.Ba:P.funcs[F.Ba]? = some Tryz.f127:=Tryz.func127
abbrev F.Gn:Nat:=129
theorem fn.Gn:P.funcs[F.Gn]? = some Tryz.f129:=Tryz.func129
abbrev F.oQ:Nat:=130
theorem fn.oQ:P.funcs[F.oQ]? = some Tryz.f130:=Tryz.func130
abbrev F.wB:Nat:=135
theorem fn.wB:P.funcs[F.wB]? = some Tryz.f135:=Tryz.func135
abbrev F.jo:Nat:=136
theorem fn.jo:P.funcs[F.jo]? = some Tryz.f136:=Tryz.func136
abbrev F.nO:Nat:=137
theorem fn.nO:P.funcs[F.nO]? = some Tryz.f137:=Tryz.func137
abbrev F.sQ:Nat:=138
theorem fn.sQ:P.funcs[F.sQ]? = some Tryz.f138:=Tryz.func138
abbrev F.qY:Nat:=139
theorem fn.qY:P.funcs[F.qY]? = some Tryz.f139:=Tryz.func139
abbrev F.uq:Nat:=140
theorem fn.uq:P.funcs[F.uq]? = some Tryz.f140:=Tryz.func140
abbrev F.Bc:Nat:=141
theorem fn.Bc:P.funcs[F.Bc]? = some Tryz.f141:=Tryz.func141
abbrev F.Bd:Nat:=142
theorem fn.Bd:P.funcs[F.Bd]? = some Tryz.f142:=Tryz.func142
abbrev F.wC:Nat:=143
theorem fn.wC:P.funcs[F.wC]? = some Tryz.f143:=Tryz.func143
abbrev F.Ji:Nat:=144
theorem fn.Ji:P.funcs[F.Ji]? = some Tryz.f144:=Tryz.func144
abbrev F.xP:Nat:=145
theorem fn.xP:P.funcs[F.xP]? = some Tryz.f145:=Tryz.func145
abbrev F.Be:Nat:=146
theorem fn.Be:P.funcs[F.Be]? = some Tryz.f146:=Tryz.func146
abbrev F.kE:Nat:=147
theorem fn.kE:P.funcs[F.kE]? = some Tryz.f147:=Tryz.func147
abbrev F.qp:Nat:=148
theorem fn.qp:P.funcs[F.qp]? = some Tryz.f148:=Tryz.func148
abbrev F.qw:Nat:=149
theorem fn.qw:P.funcs[F.qw]? = some Tryz.f149:=Tryz.func149
abbrev F.iK:Nat:=150
theorem fn.iK:P.funcs[F.iK]? = some Tryz.f150:=Tryz.func150
abbrev F.jE:Nat:=151
theorem fn.jE:P.funcs[F.jE]? = some Tryz.f151:=Tryz.func151
abbrev F.lN:Nat:=152
theorem fn.lN:P.funcs[F.lN]? = some Tryz.f152:=Tryz.func152
abbrev F.nR:Nat:=153
theorem fn.nR:P.funcs[F.nR]? = some Tryz.f153:=Tryz.func153
abbrev F.zX:Nat:=154
theorem fn.zX:P.funcs[F.zX]? = some Tryz.f154:=Tryz.func154
abbrev F.BU:Nat:=155
theorem fn.BU:P.funcs[F.BU]? = some Tryz.f155:=Tryz.func155
abbrev F.BV:Nat:=156
theorem fn.BV:P.funcs[F.BV]? = some Tryz.f156:=Tryz.func156
abbrev F.nS:Nat:=157
theorem fn.nS:P.funcs[F.nS]? = some Tryz.f157:=Tryz.func157
abbrev F.gJ:Nat:=158
theorem fn.gJ:P.funcs[F.gJ]? = some Tryz.f158:=Tryz.func158
abbrev F.qx:Nat:=159
theorem fn.qx:P.funcs[F.qx]? = some Tryz.f159:=Tryz.func159
abbrev F.qy:Nat:=160
theorem fn.qy:P.funcs[F.qy]? = some Tryz.f160:=Tryz.func160
abbrev F.jF:Nat:=161
theorem fn.jF:P.funcs[F.jF]? = some Tryz.f161:=Tryz.func161
abbrev F.oU:Nat:=162
theorem fn.oU:P.funcs[F.oU]? = some Tryz.f162:=Tryz.func162
abbrev F.gY:Nat:=163
theorem fn.gY:P.funcs[F.gY]? = some Tryz.f163:=Tryz.func163
abbrev F.D9:Nat:=164
theorem fn.D9:P.funcs[F.D9]? = some Tryz.f164:=Tryz.func164
abbrev F.cmp_Compare_int:Nat:=165
theorem fn.cmp_Compare_int:P.funcs[F.cmp_Compare_int]? = some Tryz.f165:=Tryz.func165
abbrev F.wE:Nat:=166
theorem fn.wE:P.funcs[F.wE]? = some Tryz.f166:=Tryz.func166
abbrev F.xQ:Nat:=167
theorem fn.xQ:P.funcs[F.xQ]? = some Tryz.f167:=Tryz.func167
abbrev F.gZ:Nat:=171
theorem fn.gZ:P.funcs[F.gZ]? = some Tryz.f171:=Tryz.func171
abbrev F.wF:Nat:=172
theorem fn.wF:P.funcs[F.wF]? = some Tryz.f172:=Tryz.func172
abbrev F.Ea:Nat:=173
theorem fn.Ea:P.funcs[F.Ea]? = some Tryz.f173:=Tryz.func173
abbrev F.xR:Nat:=174
theorem fn.xR:P.funcs[F.xR]? = some Tryz.f174:=Tryz.func174
abbrev F.wG:Nat:=175
theorem fn.wG:P.funcs[F.wG]? = some Tryz.f175:=Tryz.func175
abbrev F.BX:Nat:=177
theorem fn.BX:P.funcs[F.BX]? = some Tryz.f177:=Tryz.func177
abbrev F.Eb:Nat:=178
theorem fn.Eb:P.funcs[F.Eb]? = some Tryz.f178:=Tryz.func178
abbrev F.Ec:Nat:=179
theorem fn.Ec:P.funcs[F.Ec]? = some Tryz.f179:=Tryz.func179
abbrev F.yV:Nat:=180
theorem fn.yV:P.funcs[F.yV]? = some Tryz.f180:=Tryz.func180
abbrev F.xU:Nat:=181
theorem fn.xU:P.funcs[F.xU]? = some Tryz.f181:=Tryz.func181
abbrev F.Ed:Nat:=182
theorem fn.Ed:P.funcs[F.Ed]? = some Tryz.f182:=Tryz.func182
abbrev F.Bf:Nat:=183
theorem fn.Bf:P.funcs[F.Bf]? = some Tryz.f183:=Tryz.func183
abbrev F.Bg:Nat:=184
theorem fn.Bg:P.funcs[F.Bg]? = some Tryz.f184:=Tryz.func184
abbrev F.Ee:Nat:=189
theorem fn.Ee:P.funcs[F.Ee]? = some Tryz.f189:=Tryz.func189
abbrev F.uK:Nat:=190
theorem fn.uK:P.funcs[F.uK]? = some Tryz.f190:=Tryz.func190
abbrev F.qA:Nat:=193
theorem fn.qA:P.funcs[F.qA]? = some Tryz.f193:=Tryz.func193
abbrev F.wH:Nat:=194
theorem fn.wH:P.funcs[F.wH]? = some Tryz.f194:=Tryz.func194
abbrev F.gX:Nat:=195
theorem fn.gX:P.funcs[F.gX]? = some Tryz.f195:=Tryz.func195
abbrev F.lq:Nat:=196
theorem fn.lq:P.funcs[F.lq]? = some Tryz.f196:=Tryz.func196
abbrev F.yX:Nat:=197
theorem fn.yX:P.funcs[F.yX]? = some Tryz.f197:=Tryz.func197
abbrev F.kF:Nat:=198
theorem fn.kF:P.funcs[F.kF]? = some Tryz.f198:=Tryz.func198
abbrev F.oV:Nat:=199
theorem fn.oV:P.funcs[F.oV]? = some Tryz.f199:=Tryz.func199
abbrev F.nT:Nat:=200
theorem fn.nT:P.funcs[F.nT]? = some Tryz.f200:=Tryz.func200
abbrev F.nX:Nat:=201
theorem fn.nX:P.funcs[F.nX]? = some Tryz.f201:=Tryz.func201
abbrev F.yj:Nat:=202
theorem fn.yj:P.funcs[F.yj]? = some Tryz.f202:=Tryz.func202
abbrev F.yu:Nat:=203
theorem fn.yu:P.funcs[F.yu]? = some Tryz.f203:=Tryz.func203
abbrev F.Gp:Nat:=204
theorem fn.Gp:P.funcs[F.Gp]? = some Tryz.f204:=Tryz.func204
abbrev F.zY:Nat:=205
theorem fn.zY:P.funcs[F.zY]? = some Tryz.f205:=Tryz.func205
abbrev F.xW:Nat:=206
theorem fn.xW:P.funcs[F.xW]? = some Tryz.f206:=Tryz.func206
abbrev F.yw:Nat:=207
theorem fn.yw:P.funcs[F.yw]? = some Tryz.f207:=Tryz.func207
abbrev F.nY:Nat:=208
theorem fn.nY:P.funcs[F.nY]? = some Tryz.f208:=Tryz.func208
abbrev F.mP:Nat:=209
theorem fn.mP:P.funcs[F.mP]? = some Tryz.f209:=Tryz.func209
abbrev F.oW:Nat:=210
theorem fn.oW:P.funcs[F.oW]? = some Tryz.f210:=Tryz.func210
abbrev F.nZ:Nat:=211
theorem fn.nZ:P.funcs[F.nZ]? = some Tryz.f211:=Tryz.func211
abbrev F.eH:Nat:=212
theorem fn.eH:P.funcs[F.eH]? = some Tryz.f212:=Tryz.func212
abbrev F.cmp_isNaN_int:Nat:=214
theorem fn.cmp_isNaN_int:P.funcs[F.cmp_isNaN_int]? = some Tryz.f214:=Tryz.func214
abbrev F.qB:Nat:=215
theorem fn.qB:P.funcs[F.qB]? = some Tryz.f215:=Tryz.func215
abbrev F.sU:Nat:=221
theorem fn.sU:P.funcs[F.sU]? = some Tryz.f221:=Tryz.func221
abbrev F.dH:Nat:=222
theorem fn.dH:P.funcs[F.dH]? = some Tryz.f222:=Tryz.func222
abbrev F.dY:Nat:=223
theorem fn.dY:P.funcs[F.dY]? = some Tryz.f223:=Tryz.func223
abbrev F.xX:Nat:=224
theorem fn.xX:P.funcs[F.xX]? = some Tryz.f224:=Tryz.func224
abbrev F.yY:Nat:=225
theorem fn.yY:P.funcs[F.yY]? = some Tryz.f225:=Tryz.func225
abbrev F.BZ:Nat:=226
theorem fn.BZ:P.funcs[F.BZ]? = some Tryz.f226:=Tryz.func226
abbrev F.Ef:Nat:=227
theorem fn.Ef:P.funcs[F.Ef]? = some Tryz.f227:=Tryz.func227
abbrev F.Cb:Nat:=228
theorem fn.Cb:P.funcs[F.Cb]? = some Tryz.f228:=Tryz.func228
abbrev F.Cc:Nat:=229
theorem fn.Cc:P.funcs[F.Cc]? = some Tryz.f229:=Tryz.func229
abbrev F.Bh:Nat:=233
theorem fn.Bh:P.funcs[F.Bh]? = some Tryz.f233:=Tryz.func233
abbrev F.iP:Nat:=235
theorem fn.iP:P.funcs[F.iP]? = some Tryz.f235:=Tryz.func235
abbrev F.kY:Nat:=236
theorem fn.kY:P.funcs[F.kY]? = some Tryz.f236:=Tryz.func236
abbrev F.Eg:Nat:=237
theorem fn.Eg:P.funcs[F.Eg]? = some Tryz.f237:=Tryz.func237
abbrev F.Eh:Nat:=238
theorem fn.Eh:P.funcs[F.Eh]? = some Tryz.f238:=Tryz.func238
abbrev F.jZ:Nat:=239
theorem fn.jZ:P.funcs[F.jZ]? = some Tryz.f239:=Tryz.func239
abbrev F.kG:Nat:=241
theorem fn.kG:P.funcs[F.kG]? = some Tryz.f241:=Tryz.func241
abbrev F.kH:Nat:=242
theorem fn.kH:P.funcs[F.kH]? = some Tryz.f242:=Tryz.func242
abbrev F.rO:Nat:=243
theorem fn.rO:P.funcs[F.rO]? = some Tryz.f243:=Tryz.func243
abbrev F.kJ:Nat:=245
theorem fn.kJ:P.funcs[F.kJ]? = some Tryz.f245:=Tryz.func245
abbrev F.rP:Nat:=246
theorem fn.rP:P.funcs[F.rP]? = some Tryz.f246:=Tryz.func246
abbrev F.wI:Nat:=247
theorem fn.wI:P.funcs[F.wI]? = some Tryz.f247:=Tryz.func247
abbrev F.zZ:Nat:=248
theorem fn.zZ:P.funcs[F.zZ]? = some Tryz.f248:=Tryz.func248
abbrev F.rQ:Nat:=249
theorem fn.rQ:P.funcs[F.rQ]? = some Tryz.f249:=Tryz.func249
abbrev F.uh:Nat:=251
theorem fn.uh:P.funcs[F.uh]? = some Tryz.f251:=Tryz.func251
abbrev F.jq:Nat:=296
theorem fn.jq:P.funcs[F.jq]? = some Tryz.f296:=Tryz.func296
abbrev F.uM:Nat:=297
theorem fn.uM:P.funcs[F.uM]? = some Tryz.f297:=Tryz.func297
abbrev T.i64:Nat:=2
theorem ce.i64:jh P 2:=⟨by kernel_rfl,by kernel_rfl⟩
theorem it.i64:Nz P 2 .i64:=⟨by kernel_rfl⟩
theorem z.i64:fA P 2 [.d (.sc (.int .i64 0))]:=⟨by kernel_rfl⟩
theorem sz.i64:(P.info? 2).map (·.size)=some 1:=by kernel_rfl
abbrev T.int:Nat:=3
theorem ce.int:jh P 3:=⟨by kernel_rfl,by kernel_rfl⟩
theorem it.int:Nz P 3 .i64:=⟨by kernel_rfl⟩
theorem z.int:fA P 3 [.d (.sc (.int .i64 0))]:=⟨by kernel_rfl⟩
theorem sz.int:(P.info? 3).map (·.size)=some 1:=by kernel_rfl
abbrev T.bool:Nat:=4
theorem ce.bool:jh P 4:=⟨by kernel_rfl,by kernel_rfl⟩
theorem bt.bool:NC P 4:=⟨by kernel_rfl⟩
theorem z.bool:fA P 4 [.d (.sc (.bool false))]:=⟨by kernel_rfl⟩
theorem sz.bool:(P.info? 4).map (·.size)=some 1:=by kernel_rfl
abbrev T.u8:Nat:=5
theorem ce.u8:jh P 5:=⟨by kernel_rfl,by kernel_rfl⟩
theorem it.u8:Nz P 5 .u8:=⟨by kernel_rfl⟩
theorem z.u8:fA P 5 [.d (.sc (.int .u8 0))]:=⟨by kernel_rfl⟩
theorem sz.u8:(P.info? 5).map (·.size)=some 1:=by kernel_rfl
abbrev T.ints:Nat:=22
theorem sl.ints:bH P 22 3 1 8:=⟨by kernel_rfl,by kernel_rfl,by decide⟩
theorem ce.ints:jh P 22:=⟨by kernel_rfl,by kernel_rfl⟩
theorem z.ints:fA P 22 [.mt]:=⟨by kernel_rfl⟩
theorem sz.ints:(P.info? 22).map (·.size)=some 1:=by kernel_rfl
abbrev T.Model:Nat:=24
theorem ag.Model:yK P 24 5:=⟨by kernel_rfl,by kernel_rfl⟩
theorem cc.Model:kR P 24:=by unfold kR;kernel_rfl
theorem fd.aN2:dX P 24 0 0:=⟨by kernel_rfl⟩
theorem fd.aN3:dX P 24 1 1:=⟨by kernel_rfl⟩
theorem fd.aN4:dX P 24 2 2:=⟨by kernel_rfl⟩
theorem fd.Jj:dX P 24 3 3:=⟨by kernel_rfl⟩
theorem fd.ZM:dX P 24 4 4:=⟨by kernel_rfl⟩
theorem z.Model:fA P 24 [.d (.sc (.int .i64 0)),.mt,.mt,.mt,.d (.sc (.bool false))]:=⟨by kernel_rfl⟩
theorem pl.Model:nH P 24 [(0,1),(1,1),(2,1),(3,1),(4,1)]:=⟨by kernel_rfl⟩
theorem sz.Model:(P.info? 24).map (·.size)=some 5:=by kernel_rfl
abbrev T.Ring:Nat:=26
theorem ag.Ring:yK P 26 2:=⟨by kernel_rfl,by kernel_rfl⟩
theorem cc.Ring:kR P 26:=by unfold kR;kernel_rfl
theorem fd.kK:dX P 26 0 0:=⟨by kernel_rfl⟩
theorem fd.Ei:dX P 26 1 1:=⟨by kernel_rfl⟩
theorem z.Ring:fA P 26 [.d (.sc (.int .i64 0)),.mt]:=⟨by kernel_rfl⟩
theorem pl.Ring:nH P 26 [(0,1),(1,1)]:=⟨by kernel_rfl⟩
theorem sz.Ring:(P.info? 26).map (·.size)=some 2:=by kernel_rfl
abbrev T.aS:Nat:=27
theorem sl.aS:bH P 27 51 8 128:=⟨by kernel_rfl,by kernel_rfl,by decide⟩
theorem ce.aS:jh P 27:=⟨by kernel_rfl,by kernel_rfl⟩
theorem z.aS:fA P 27 [.mt]:=⟨by kernel_rfl⟩
theorem sz.aS:(P.info? 27).map (·.size)=some 1:=by kernel_rfl
abbrev T.bZ:Nat:=28
theorem sl.bZ:bH P 28 101 11 152:=⟨by kernel_rfl,by kernel_rfl,by decide⟩
theorem ce.bZ:jh P 28:=⟨by kernel_rfl,by kernel_rfl⟩
theorem z.bZ:fA P 28 [.mt]:=⟨by kernel_rfl⟩
theorem sz.bZ:(P.info? 28).map (·.size)=some 1:=by kernel_rfl
abbrev T.Auto:Nat:=30
theorem ag.Auto:yK P 30 7:=⟨by kernel_rfl,by kernel_rfl⟩
theorem cc.Auto:kR P 30:=by unfold kR;kernel_rfl
theorem fd.gu:dX P 30 0 0:=⟨by kernel_rfl⟩
theorem fd.kZ:dX P 30 1 2:=⟨by kernel_rfl⟩
theorem fd.jf:dX P 30 2 3:=⟨by kernel_rfl⟩
theorem fd.mg:dX P 30 3 4:=⟨by kernel_rfl⟩
theorem fd.o8:dX P 30 4 5:=⟨by kernel_rfl⟩
theorem fd.fM:dX P 30 5 6:=⟨by kernel_rfl⟩
theorem z.Auto:fA P 30 [.d (.sc (.int .i64 0)),.mt,.d (.sc (.int .i64 0)),.d (.sc (.int .i64 0)),.mt,.mt,.mt]:=⟨by kernel_rfl⟩
theorem pl.Auto:nH P 30 [(0,2),(2,1),(3,1),(4,1),(5,1),(6,1)]:=⟨by kernel_rfl⟩
theorem sz.Auto:(P.info? 30).map (·.size)=some 7:=by kernel_rfl
abbrev T.tK:Nat:=32
theorem sl.tK:bH P 32 22 1 24:=⟨by kernel_rfl,by kernel_rfl,by decide⟩
theorem ce.tK:jh P 32:=⟨by kernel_rfl,by kernel_rfl⟩
theorem z.tK:fA P 32 [.mt]:=⟨by kernel_rfl⟩
theorem sz.tK:(P.info? 32).map (·.size)=some 1:=by kernel_rfl
abbrev T.aI:Nat:=45
theorem sl.aI:bH P 45 175 1 4:=⟨by kernel_rfl,by kernel_rfl,by decide⟩
theorem ce.aI:jh P 45:=⟨by kernel_rfl,by kernel_rfl⟩
theorem z.aI:fA P 45 [.mt]:=⟨by kernel_rfl⟩
theorem sz.aI:(P.info? 45).map (·.size)=some 1:=by kernel_rfl
abbrev T.Rat:Nat:=47
theorem ag.Rat:yK P 47 3:=⟨by kernel_rfl,by kernel_rfl⟩
theorem cc.Rat:kR P 47:=by unfold kR;kernel_rfl
theorem fd.tN:dX P 47 0 0:=⟨by kernel_rfl⟩
theorem fd.rU:dX P 47 1 1:=⟨by kernel_rfl⟩
theorem fd.o9:dX P 47 2 2:=⟨by kernel_rfl⟩
theorem z.Rat:fA P 47 [.d (.sc (.bool false)),.mt,.mt]:=⟨by kernel_rfl⟩
theorem pl.Rat:nH P 47 [(0,1),(1,1),(2,1)]:=⟨by kernel_rfl⟩
theorem sz.Rat:(P.info? 47).map (·.size)=some 3:=by kernel_rfl
abbrev T.u64:Nat:=48
theorem ce.u64:jh P 48:=⟨by kernel_rfl,by kernel_rfl⟩
theorem it.u64:Nz P 48 .u64:=⟨by kernel_rfl⟩
theorem z.u64:fA P 48 [.d (.sc (.int .u64 0))]:=⟨by kernel_rfl⟩
theorem sz.u64:(P.info? 48).map (·.size)=some 1:=by kernel_rfl
abbrev T.iQ:Nat:=49
theorem sl.iQ:bH P 49 179 6 80:=⟨by kernel_rfl,by kernel_rfl,by decide⟩
theorem ce.iQ:jh P 49:=⟨by kernel_rfl,by kernel_rfl⟩
theorem z.iQ:fA P 49 [.mt]:=⟨by kernel_rfl⟩
theorem sz.iQ:(P.info? 49).map (·.size)=some 1:=by kernel_rfl
abbrev T.ay:Nat:=51
theorem ag.ay:yK P 51 8:=⟨by kernel_rfl,by kernel_rfl⟩
theorem cc.ay:kR P 51:=by unfold kR;kernel_rfl
theorem fd.gG:dX P 51 0 0:=⟨by kernel_rfl⟩
theorem fd.Ce:dX P 51 1 3:=⟨by kernel_rfl⟩
theorem fd.Aa:dX P 51 2 4:=⟨by kernel_rfl⟩
theorem fd.Cf:dX P 51 3 5:=⟨by kernel_rfl⟩
theorem fd.Ci:dX P 51 4 6:=⟨by kernel_rfl⟩
theorem fd.Ac:dX P 51 5 7:=⟨by kernel_rfl⟩
theorem z.ay:fA P 51 [.d (.sc (.bool false)),.mt,.mt,.d (.sc (.int .i64 0)),.d (.sc (.bool false)),.d (.sc (.int .u64 0)),.mt,.mt]:=⟨by kernel_rfl⟩
theorem pl.ay:nH P 51 [(0,3),(3,1),(4,1),(5,1),(6,1),(7,1)]:=⟨by kernel_rfl⟩
theorem sz.ay:(P.info? 51).map (·.size)=some 8:=by kernel_rfl
abbrev T.yJ:Nat:=62
theorem sl.yJ:bH P 62 96 3 72:=⟨by kernel_rfl,by kernel_rfl,by decide⟩
theorem ce.yJ:jh P 62:=⟨by kernel_rfl,by kernel_rfl⟩
theorem z.yJ:fA P 62 [.mt]:=⟨by kernel_rfl⟩
theorem sz.yJ:(P.info? 62).map (·.size)=some 1:=by kernel_rfl
abbrev T.bF:Nat:=67
theorem sl.bF:bH P 67 47 3 56:=⟨by kernel_rfl,by kernel_rfl,by decide⟩
theorem ce.bF:jh P 67:=⟨by kernel_rfl,by kernel_rfl⟩
theorem z.bF:fA P 67 [.mt]:=⟨by kernel_rfl⟩
theorem sz.bF:(P.info? 67).map (·.size)=some 1:=by kernel_rfl
abbrev T.fZ:Nat:=68
theorem sl.fZ:bH P 68 74 1 24:=⟨by kernel_rfl,by kernel_rfl,by decide⟩
theorem ce.fZ:jh P 68:=⟨by kernel_rfl,by kernel_rfl⟩
theorem z.fZ:fA P 68 [.mt]:=⟨by kernel_rfl⟩
theorem sz.fZ:(P.info? 68).map (·.size)=some 1:=by kernel_rfl
abbrev T.Machine:Nat:=70
theorem ag.Machine:yK P 70 3:=⟨by kernel_rfl,by kernel_rfl⟩
theorem cc.Machine:kR P 70:=by unfold kR;kernel_rfl
theorem fd.sV:dX P 70 0 0:=⟨by kernel_rfl⟩
theorem fd.xg:dX P 70 1 1:=⟨by kernel_rfl⟩
theorem fd.jI:dX P 70 2 2:=⟨by kernel_rfl⟩
theorem z.Machine:fA P 70 [.mt,.mt,.mt]:=⟨by kernel_rfl⟩
theorem pl.Machine:nH P 70 [(0,1),(1,1),(2,1)]:=⟨by kernel_rfl⟩
theorem sz.Machine:(P.info? 70).map (·.size)=some 3:=by kernel_rfl
abbrev T.dm:Nat:=74
theorem sl.dm:bH P 74 67 1 24:=⟨by kernel_rfl,by kernel_rfl,by decide⟩
theorem ce.dm:jh P 74:=⟨by kernel_rfl,by kernel_rfl⟩
theorem z.dm:fA P 74 [.mt]:=⟨by kernel_rfl⟩
theorem sz.dm:(P.info? 74).map (·.size)=some 1:=by kernel_rfl
abbrev T.Space:Nat:=80
theorem ag.Space:yK P 80 3:=⟨by kernel_rfl,by kernel_rfl⟩
theorem cc.Space:kR P 80:=by unfold kR;kernel_rfl
theorem fd.MZ:dX P 80 0 0:=⟨by kernel_rfl⟩
theorem fd.TF:dX P 80 1 1:=⟨by kernel_rfl⟩
theorem fd.Na:dX P 80 2 2:=⟨by kernel_rfl⟩
theorem z.Space:fA P 80 [.mt,.mt,.mt]:=⟨by kernel_rfl⟩
theorem pl.Space:nH P 80 [(0,1),(1,1),(2,1)]:=⟨by kernel_rfl⟩
theorem sz.Space:(P.info? 80).map (·.size)=some 3:=by kernel_rfl
abbrev T.Row:Nat:=83
theorem ag.Row:yK P 83 2:=⟨by kernel_rfl,by kernel_rfl⟩
theorem cc.Row:kR P 83:=by unfold kR;kernel_rfl
theorem fd.bm7:dX P 83 0 0:=⟨by kernel_rfl⟩
theorem fd.QJ:dX P 83 1 1:=⟨by kernel_rfl⟩
theorem z.Row:fA P 83 [.mt,.mt]:=⟨by kernel_rfl⟩
theorem pl.Row:nH P 83 [(0,1),(1,1)]:=⟨by kernel_rfl⟩
theorem sz.Row:(P.info? 83).map (·.size)=some 2:=by kernel_rfl
abbrev T.Rows:Nat:=84
theorem sl.Rows:bH P 84 83 2 48:=⟨by kernel_rfl,by kernel_rfl,by decide⟩
theorem ce.Rows:jh P 84:=⟨by kernel_rfl,by kernel_rfl⟩
theorem z.Rows:fA P 84 [.mt]:=⟨by kernel_rfl⟩
theorem sz.Rows:(P.info? 84).map (·.size)=some 1:=by kernel_rfl
abbrev T.G7:Nat:=96
theorem ag.G7:yK P 96 3:=⟨by kernel_rfl,by kernel_rfl⟩
theorem cc.G7:kR P 96:=by unfold kR;kernel_rfl
theorem fd.av3:dX P 96 0 0:=⟨by kernel_rfl⟩
theorem fd.ba9:dX P 96 1 2:=⟨by kernel_rfl⟩
theorem z.G7:fA P 96 [.mt,.mt,.mt]:=⟨by kernel_rfl⟩
theorem pl.G7:nH P 96 [(0,2),(2,1)]:=⟨by kernel_rfl⟩
theorem sz.G7:(P.info? 96).map (·.size)=some 3:=by kernel_rfl
abbrev T.mQ:Nat:=101
theorem ag.mQ:yK P 101 11:=⟨by kernel_rfl,by kernel_rfl⟩
theorem cc.mQ:kR P 101:=by unfold kR;kernel_rfl
theorem fd.Ff:dX P 101 0 0:=⟨by kernel_rfl⟩
theorem fd.Bj:dX P 101 1 1:=⟨by kernel_rfl⟩
theorem fd.Cj:dX P 101 2 2:=⟨by kernel_rfl⟩
theorem fd.qG:dX P 101 3 3:=⟨by kernel_rfl⟩
theorem z.mQ:fA P 101 [.d (.sc (.int .i64 0)),.d (.sc (.int .i64 0)),.d (.sc (.int .i64 0)),.d (.sc (.bool false)),.mt,.mt,.d (.sc (.int .i64 0)),.d (.sc (.bool false)),.d (.sc (.int .u64 0)),.mt,.mt]:=⟨by kernel_rfl⟩
theorem pl.mQ:nH P 101 [(0,1),(1,1),(2,1),(3,8)]:=⟨by kernel_rfl⟩
theorem sz.mQ:(P.info? 101).map (·.size)=some 11:=by kernel_rfl
abbrev T.tV:Nat:=130
theorem sl.tV:bH P 130 30 7 120:=⟨by kernel_rfl,by kernel_rfl,by decide⟩
theorem ce.tV:jh P 130:=⟨by kernel_rfl,by kernel_rfl⟩
theorem z.tV:fA P 130 [.mt]:=⟨by kernel_rfl⟩
theorem sz.tV:(P.info? 130).map (·.size)=some 1:=by kernel_rfl
abbrev T.limbs:Nat:=147
theorem sl.limbs:bH P 147 175 1 4:=⟨by kernel_rfl,by kernel_rfl,by decide⟩
theorem ce.limbs:jh P 147:=⟨by kernel_rfl,by kernel_rfl⟩
theorem z.limbs:fA P 147 [.mt]:=⟨by kernel_rfl⟩
theorem sz.limbs:(P.info? 147).map (·.size)=some 1:=by kernel_rfl
abbrev T.fraction:Nat:=151
theorem ag.fraction:yK P 151 3:=⟨by kernel_rfl,by kernel_rfl⟩
theorem cc.fraction:kR P 151:=by unfold kR;kernel_rfl
theorem fd.jT:dX P 151 0 0:=⟨by kernel_rfl⟩
theorem fd.mr:dX P 151 1 1:=⟨by kernel_rfl⟩
theorem fd.oG:dX P 151 2 2:=⟨by kernel_rfl⟩
theorem z.fraction:fA P 151 [.d (.sc (.bool false)),.mt,.mt]:=⟨by kernel_rfl⟩
theorem pl.fraction:nH P 151 [(0,1),(1,1),(2,1)]:=⟨by kernel_rfl⟩
theorem sz.fraction:(P.info? 151).map (·.size)=some 3:=by kernel_rfl
abbrev T.u32:Nat:=175
theorem ce.u32:jh P 175:=⟨by kernel_rfl,by kernel_rfl⟩
theorem it.u32:Nz P 175 .u32:=⟨by kernel_rfl⟩
theorem z.u32:fA P 175 [.d (.sc (.int .u32 0))]:=⟨by kernel_rfl⟩
theorem sz.u32:(P.info? 175).map (·.size)=some 1:=by kernel_rfl
abbrev T.uint:Nat:=197
theorem ce.uint:jh P 197:=⟨by kernel_rfl,by kernel_rfl⟩
theorem it.uint:Nz P 197 .u64:=⟨by kernel_rfl⟩
theorem z.uint:fA P 197 [.d (.sc (.int .u64 0))]:=⟨by kernel_rfl⟩
theorem sz.uint:(P.info? 197).map (·.size)=some 1:=by kernel_rfl
abbrev T.algebra:Nat:=211
theorem ag.algebra:yK P 211 9:=⟨by kernel_rfl,by kernel_rfl⟩
theorem cc.algebra:kR P 211:=by unfold kR;kernel_rfl
theorem fd.QK:dX P 211 0 0:=⟨by kernel_rfl⟩
theorem fc.QK:EU P 211 0 0:=⟨by kernel_rfl⟩
theorem fd.QL:dX P 211 1 1:=⟨by kernel_rfl⟩
theorem fc.QL:EU P 211 1 1:=⟨by kernel_rfl⟩
theorem fd.QM:dX P 211 3 3:=⟨by kernel_rfl⟩
theorem fc.QM:EU P 211 3 3:=⟨by kernel_rfl⟩
theorem z.algebra:fA P 211 [.d (.sc .nilFunc),.d (.sc .nilFunc),.d (.sc .nilFunc),.d (.sc .nilFunc),.d (.sc .nilFunc),.d (.sc .nilFunc),.d (.sc .nilFunc),.d (.sc .nilFunc),.d (.sc .nilFunc)]:=⟨by kernel_rfl⟩
theorem pl.algebra:nH P 211 [(0,1),(1,1),(2,1),(3,1),(4,1),(5,1),(6,1),(7,1),(8,1)]:=⟨by kernel_rfl⟩
theorem sz.algebra:(P.info? 211).map (·.size)=some 9:=by kernel_rfl
abbrev T.rows:Nat:=163
theorem sl.rows:bH P 163 167 2 48:=⟨by kernel_rfl,by kernel_rfl,by decide⟩
theorem ce.rows:jh P 163:=⟨by kernel_rfl,by kernel_rfl⟩
theorem z.rows:fA P 163 [.mt]:=⟨by kernel_rfl⟩
theorem sz.rows:(P.info? 163).map (·.size)=some 1:=by kernel_rfl
abbrev T.row:Nat:=167
theorem ag.row:yK P 167 2:=⟨by kernel_rfl,by kernel_rfl⟩
theorem cc.row:kR P 167:=by unfold kR;kernel_rfl
theorem fd.Oh:dX P 167 0 0:=⟨by kernel_rfl⟩
theorem fd.av4:dX P 167 1 1:=⟨by kernel_rfl⟩
theorem z.row:fA P 167 [.mt,.mt]:=⟨by kernel_rfl⟩
theorem pl.row:nH P 167 [(0,1),(1,1)]:=⟨by kernel_rfl⟩
theorem sz.row:(P.info? 167).map (·.size)=some 2:=by kernel_rfl
abbrev T.ag4:Nat:=64
theorem ce.ag4:jh P 64:=⟨by kernel_rfl,by kernel_rfl⟩
theorem z.ag4:fA P 64 [.d (.sc .nilFunc)]:=⟨by kernel_rfl⟩
theorem sz.ag4:(P.info? 64).map (·.size)=some 1:=by kernel_rfl
abbrev T.ag5:Nat:=73
theorem ce.ag5:jh P 73:=⟨by kernel_rfl,by kernel_rfl⟩
theorem z.ag5:fA P 73 [.d (.sc .nilFunc)]:=⟨by kernel_rfl⟩
theorem sz.ag5:(P.info? 73).map (·.size)=some 1:=by kernel_rfl
abbrev T.Ej:Nat:=64
theorem ce.Ej:jh P 64:=ce.ag4
theorem z.Ej:fA P 64 [.d (.sc .nilFunc)]:=z.ag4
theorem sz.Ej:(P.info? 64).map (·.size)=some 1:=sz.ag4
abbrev T.Nb:Nat:=73
theorem ce.Nb:jh P 73:=ce.ag5
theorem z.Nb:fA P 73 [.d (.sc .nilFunc)]:=z.ag5
theorem sz.Nb:(P.info? 73).map (·.size)=some 1:=sz.ag5
abbrev T.Ad:Nat:=133
theorem sl.Ad:bH P 133 73 1 8:=⟨by kernel_rfl,by kernel_rfl,by decide⟩
theorem ce.Ad:jh P 133:=⟨by kernel_rfl,by kernel_rfl⟩
theorem z.Ad:fA P 133 [.mt]:=⟨by kernel_rfl⟩
theorem sz.Ad:(P.info? 133).map (·.size)=some 1:=by kernel_rfl
abbrev T.uU:Nat:=63
theorem ce.uU:jh P 63:=⟨by kernel_rfl,by kernel_rfl⟩
theorem cc.uU:kR P 63:=by unfold kR;kernel_rfl
theorem z.uU:fA P 63 [.d (.sc (.pointer none))]:=⟨by kernel_rfl⟩
theorem sz.uU:(P.info? 63).map (·.size)=some 1:=by kernel_rfl
theorem st.str:P.underlying 9=some .string:=by kernel_rfl
