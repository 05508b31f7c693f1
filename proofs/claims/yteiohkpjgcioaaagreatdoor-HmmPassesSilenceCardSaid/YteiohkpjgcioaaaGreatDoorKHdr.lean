/-
  Names for the functions of this seat, and facts on its types (printed by hdr.py).
-/
import Derived.Test.YteiohkpjgcioaaaGreatDoorChecked
import Derived.KernelRfl
import Derived.Test.YteiohkpjgcioaaaGreatDoorKAlg37
set_option linter.unusedVariables false
set_option linter.unusedSimpArgs false
namespace Go.Proofs.YteiohkpjgcioaaaGreatDoor
open Go Go.AL
noncomputable abbrev P:Program:=Tryz.prog
theorem aj:P.follows .mixedOrders=true:=by kernel_rfl
abbrev F.fZ:Nat:=3
theorem fn.fZ:P.funcs[F.fZ]? = some Tryz.f3:=Tryz.func3
abbrev F.kM:Nat:=5
theorem fn.kM:P.funcs[F.kM]? = some Tryz.f5:=Tryz.func5
abbrev F.qW:Nat:=6
theorem fn.qW:P.funcs[F.qW]? = some Tryz.f6:=Tryz.func6
abbrev F.jU:Nat:=7
theorem fn.jU:P.funcs[F.jU]? = some Tryz.f7:=Tryz.func7
abbrev F.lu:Nat:=8
theorem fn.lu:P.funcs[F.lu]? = some Tryz.f8:=Tryz.func8
abbrev F.jV:Nat:=9
theorem fn.jV:P.funcs[F.jV]? = some Tryz.f9:=Tryz.func9
abbrev F.je:Nat:=10
theorem fn.je:P.funcs[F.je]? = some Tryz.f10:=Tryz.func10
abbrev F.pJ:Nat:=11
theorem fn.pJ:P.funcs[F.pJ]? = some Tryz.f11:=Tryz.func11
abbrev F.qw:Nat:=12
theorem fn.qw:P.funcs[F.qw]? = some Tryz.f12:=Tryz.func12
abbrev F.pK:Nat:=13
theorem fn.pK:P.funcs[F.pK]? = some Tryz.f13:=Tryz.func13
abbrev F.tK:Nat:=14
theorem fn.tK:P.funcs[F.tK]? = some Tryz.f14:=Tryz.func14
abbrev F.jw:Nat:=15
theorem fn.jw:P.funcs[F.jw]? = some Tryz.f15:=Tryz.func15
abbrev F.rW:Nat:=17
theorem fn.rW:P.funcs[F.rW]? = some Tryz.f17:=Tryz.func17
abbrev F.zY:Nat:=18
theorem fn.zY:P.funcs[F.zY]? = some Tryz.f18:=Tryz.func18
abbrev F.BX:Nat:=19
theorem fn.BX:P.funcs[F.BX]? = some Tryz.f19:=Tryz.func19
abbrev F.pO:Nat:=20
theorem fn.pO:P.funcs[F.pO]? = some Tryz.f20:=Tryz.func20
abbrev F.rX:Nat:=21
theorem fn.rX:P.funcs[F.rX]? = some Tryz.f21:=Tryz.func21
abbrev F.wZ:Nat:=22
theorem fn.wZ:P.funcs[F.wZ]? = some Tryz.f22:=Tryz.func22
abbrev F.Dx:Nat:=23
theorem fn.Dx:P.funcs[F.Dx]? = some Tryz.f23:=Tryz.func23
abbrev F.vK:Nat:=24
theorem fn.vK:P.funcs[F.vK]? = some Tryz.f24:=Tryz.func24
abbrev F.pV:Nat:=25
theorem fn.pV:P.funcs[F.pV]? = some Tryz.f25:=Tryz.func25
abbrev F.lH:Nat:=26
theorem fn.lH:P.funcs[F.lH]? = some Tryz.f26:=Tryz.func26
abbrev F.rY:Nat:=27
theorem fn.rY:P.funcs[F.rY]? = some Tryz.f27:=Tryz.func27
abbrev F.xC:Nat:=28
theorem fn.xC:P.funcs[F.xC]? = some Tryz.f28:=Tryz.func28
abbrev F.F7:Nat:=29
theorem fn.F7:P.funcs[F.F7]? = some Tryz.f29:=Tryz.func29
abbrev F.zo:Nat:=30
theorem fn.zo:P.funcs[F.zo]? = some Tryz.f30:=Tryz.func30
abbrev F.mP:Nat:=31
theorem fn.mP:P.funcs[F.mP]? = some Tryz.f31:=Tryz.func31
abbrev F.kN:Nat:=32
theorem fn.kN:P.funcs[F.kN]? = some Tryz.f32:=Tryz.func32
abbrev F.vM:Nat:=33
theorem fn.vM:P.funcs[F.vM]? = some Tryz.f33:=Tryz.func33
abbrev F.AY:Nat:=34
theorem fn.AY:P.funcs[F.AY]? = some Tryz.f34:=Tryz.func34
abbrev F.jb:Nat:=35
theorem fn.jb:P.funcs[F.jb]? = some Tryz.f35:=Tryz.func35
abbrev F.qX:Nat:=36
theorem fn.qX:P.funcs[F.qX]? = some Tryz.f36:=Tryz.func36
abbrev F.mQ:Nat:=37
theorem fn.mQ:P.funcs[F.mQ]? = some Tryz.f37:=Tryz.func37
abbrev F.oM:Nat:=38
theorem fn.oM:P.funcs[F.oM]? = some Tryz.f38:=Tryz.func38
abbrev F.lI:Nat:=39
theorem fn.lI:P.funcs[F.lI]? = some Tryz.f39:=Tryz.func39
abbrev F.lV:Nat:=40
theorem fn.lV:P.funcs[F.lV]? = some Tryz.f40:=Tryz.func40
abbrev F.qY:Nat:=41
theorem fn.qY:P.funcs[F.qY]? = some Tryz.f41:=Tryz.func41
abbrev F.uJ:Nat:=42
theorem fn.uJ:P.funcs[F.uJ]? = some Tryz.f42:=Tryz.func42
abbrev F.BZ:Nat:=43
theorem fn.BZ:P.funcs[F.BZ]? = some Tryz.f43:=Tryz.func43
abbrev F.vN:Nat:=44
theorem fn.vN:P.funcs[F.vN]? = some Tryz.f44:=Tryz.func44
abbrev F.F8:Nat:=45
theorem fn.F8:P.funcs[F.F8]? = some Tryz.f45:=Tryz.func45
abbrev F.Cb:Nat:=46
theorem fn.Cb:P.funcs[F.Cb]? = some Tryz.f46:=Tryz.func46
abbrev F.yS:Nat:=47
theorem fn.yS:P.funcs[F.yS]? = some Tryz.f47:=Tryz.func47
abbrev F.F9:Nat:=48
theorem fn.F9:P.funcs[F.F9]? = some Tryz.f48:=Tryz.func48
abbrev F.xE:Nat:=49
theorem fn.xE:P.funcs[F.xE]? = some Tryz.f49:=Tryz.func49
abbrev F.Gf:Nat:=50
theorem fn.Gf:P.funcs[F.Gf]? = some Tryz.f50:=Tryz.func50
abbrev F.zZ:Nat:=51
theorem fn.zZ:P.funcs[F.zZ]? = some Tryz.f51:=Tryz.func51
abbrev F.yh:Nat:=52
theorem fn.yh:P.funcs[F.yh]? = some Tryz.f52:=Tryz.func52
abbrev F.Gg:Nat:=53
theorem fn.Gg:P.funcs[F.Gg]? = some Tryz.f53:=Tryz.func53
abbrev F.Dy:Nat:=54
theorem fn.Dy:P.funcs[F.Dy]? = some Tryz.f54:=Tryz.func54
abbrev F.Aa:Nat:=55
theorem fn.Aa:P.funcs[F.Aa]? = some Tryz.f55:=Tryz.func55
abbrev F.xF:Nat:=56
theorem fn.xF:P.funcs[F.xF]? = some Tryz.f56:=Tryz.func56
abbrev F.yj:Nat:=57
theorem fn.yj:P.funcs[F.yj]? = some Tryz.f57:=Tryz.func57
abbrev F.lC:Nat:=58
theorem fn.lC:P.funcs[F.lC]? = some Tryz.f58:=Tryz.func58
abbrev F.ul:Nat:=59
theorem fn.ul:P.funcs[F.ul]? = some Tryz.f59:=Tryz.func59
abbrev F.oN:Nat:=60
theorem fn.oN:P.funcs[F.oN]? = some Tryz.f60:=Tryz.func60
abbrev F.Dz:Nat:=61
theorem fn.Dz:P.funcs[F.Dz]? = some Tryz.f61:=Tryz.func61
abbrev F.Jg:Nat:=62
theorem fn.Jg:P.funcs[F.Jg]? = some Tryz.f62:=Tryz.func62
abbrev F.Jh:Nat:=63
theorem fn.Jh:P.funcs[F.Jh]? = some Tryz.f63:=Tryz.func63
abbrev F.nS:Nat:=64
theorem fn.nS:P.funcs[F.nS]? = some Tryz.f64:=Tryz.func64
abbrev F.jF:Nat:=65
theorem fn.jF:P.funcs[F.jF]? = some Tryz.f65:=Tryz.func65
abbrev F.mV:Nat:=66
theorem fn.mV:P.funcs[F.mV]? = some Tryz.f66:=Tryz.func66
abbrev F.l9:Nat:=67
theorem fn.l9:P.funcs[F.l9]? = some Tryz.f67:=Tryz.func67
abbrev F.um:Nat:=68
theorem fn.um:P.funcs[F.um]? = some Tryz.f68:=Tryz.func68
abbrev F.vO:Nat:=69
theorem fn.vO:P.funcs[F.vO]? = some Tryz.f69:=Tryz.func69
abbrev F.vP:Nat:=70
theorem fn.vP:P.funcs[F.vP]? = some Tryz.f70:=Tryz.func70
abbrev F.vS:Nat:=71
theorem fn.vS:P.funcs[F.vS]? = some Tryz.f71:=Tryz.func71
abbrev F.AZ:Nat:=72
theorem fn.AZ:P.funcs[F.AZ]? = some Tryz.f72:=Tryz.func72
abbrev F.DC:Nat:=73
theorem fn.DC:P.funcs[F.DC]? = some Tryz.f73:=Tryz.func73
abbrev F.DF:Nat:=74
theorem fn.DF:P.funcs[F.DF]? = some Tryz.f74:=Tryz.func74
abbrev F.DI:Nat:=75
theorem fn.DI:P.funcs[F.DI]? = some Tryz.f75:=Tryz.func75
abbrev F.DJ:Nat:=76
theorem fn.DJ:P.funcs[F.DJ]? = some Tryz.f76:=Tryz.func76
abbrev F.A7:Nat:=77
theorem fn.A7:P.funcs[F.A7]? = some Tryz.f77:=Tryz.func77
abbrev F.lJ:Nat:=78
theorem fn.lJ:P.funcs[F.lJ]? = some Tryz.f78:=Tryz.func78
abbrev F.iw:Nat:=79
theorem fn.iw:P.funcs[F.iw]? = some Tryz.f79:=Tryz.func79
abbrev F.jG:Nat:=80
theorem fn.jG:P.funcs[F.jG]? = some Tryz.f80:=Tryz.func80
abbrev F.xG:Nat:=81
theorem fn.xG:P.funcs[F.xG]? = some Tryz.f81:=Tryz.func81
abbrev F.qB:Nat:=82
theorem fn.qB:P.funcs[F.qB]? = some Tryz.f82:=Tryz.func82
abbrev F.pW:Nat:=83
theorem fn.pW:P.funcs[F.pW]? = some Tryz.f83:=Tryz.func83
abbrev F.cmp_Less_int:Nat:=84
theorem fn.cmp_Less_int:P.funcs[F.cmp_Less_int]? = some Tryz.f84:=Tryz.func84
abbrev F.rZ:Nat:=85
theorem fn.rZ:P.funcs[F.rZ]? = some Tryz.f85:=Tryz.func85
abbrev F.oO:Nat:=86
theorem fn.oO:P.funcs[F.oO]? = some Tryz.f86:=Tryz.func86
abbrev F.fB:Nat:=87
theorem fn.fB:P.funcs[F.fB]? = some Tryz.f87:=Tryz.func87
abbrev F.mW:Nat:=88
theorem fn.mW:P.funcs[F.mW]? = some Tryz.f88:=Tryz.func88
abbrev F.Gh:Nat:=89
theorem fn.Gh:P.funcs[F.Gh]? = some Tryz.f89:=Tryz.func89
abbrev F.qZ:Nat:=90
theorem fn.qZ:P.funcs[F.qZ]? = some Tryz.f90:=Tryz.func90
abbrev F.xH:Nat:=91
theorem fn.xH:P.funcs[F.xH]? = some Tryz.f91:=Tryz.func91
abbrev F.vT:Nat:=92
theorem fn.vT:P.funcs[F.vT]? = some Tryz.f92:=Tryz.func92
abbrev F.jy:Nat:=93
theorem fn.jy:P.funcs[F.jy]? = some Tryz.f93:=Tryz.func93
abbrev F.xI:Nat:=94
theorem fn.xI:P.funcs[F.xI]? = some Tryz.f94:=Tryz.func94
abbrev F.A8:Nat:=95
theorem fn.A8:P.funcs[F.A8]? = some Tryz.f95:=Tryz.func95
abbrev F.Ji:Nat:=96
theorem fn.Ji:P.funcs[F.Ji]? = some Tryz.f96:=Tryz.func96
abbrev F.Ba:Nat:=99
theorem fn.Ba:P.funcs[F.Ba]? = some Tryz.f99:=Tryz.func99
abbrev F.Gi:Nat:=100
theorem fn.Gi:P.funcs[F.Gi]? = some Tryz.f100:=Tryz.func100
abbrev F.Bc:Nat:=101
theorem fn.Bc:P.funcs[F.Bc]? = some Tryz.f101:=Tryz.func101
abbrev F.DK:Nat:=102
theorem fn.DK:P.funcs[F.DK]? = some Tryz.f102:=Tryz.func102
abbrev F.xJ:Nat:=103
theorem fn.xJ:P.funcs[F.xJ]? = some Tryz.f103:=Tryz.func103
abbrev F.xK:Nat:=104
theorem fn.xK:P.funcs[F.xK]? = some Tryz.f104:=Tryz.func104
abbrev F.vU:Nat:=105
theorem fn.vU:P.funcs[F.vU]? = some Tryz.f105:=Tryz.func105
abbrev F.uN:Nat:=106
theorem fn.uN:P.funcs[F.uN]? = some Tryz.f106:=Tryz.func106
abbrev F.DL:Nat:=107
theorem fn.DL:P.funcs[F.DL]? = some Tryz.f107:=Tryz.func107
abbrev F.xM:Nat:=108
theorem fn.xM:P.funcs[F.xM]? = some Tryz.f108:=Tryz.func108
abbrev F.yT:Nat:=109
theorem fn.yT:P.funcs[F.yT]? = some Tryz.f109:=Tryz.func109
abbrev F.Cc:Nat:=110
theorem fn.Cc:P.funcs[F.Cc]? = some Tryz.f110:=Tryz.func110
abbrev F.DN:Nat:=111
theorem fn.DN:P.funcs[F.DN]? = some Tryz.f111:=Tryz.func111
abbrev F.DR:Nat:=112
theorem fn.DR:P.funcs[F.DR]? = some Tryz.f112:=Tryz.func112
abbrev F.uO:Nat:=113
theorem fn.uO:P.funcs[F.uO]? = some Tryz.f113:=Tryz.func113
abbrev F.DT:Nat:=114
theorem fn.DT:P.funcs[F.DT]? = some Tryz.f114:=Tryz.func114
abbrev F.uP:Nat:=115
theorem fn.uP:P.funcs[F.uP]? = some Tryz.f115:=Tryz.func115
abbrev F.zA:Nat:=116
theorem fn.zA:P.funcs[F.zA]? = some Tryz.f116:=Tryz.func116
abbrev F.lW:Nat:=117
theorem fn.lW:P.funcs[F.lW]? = some Tryz.f117:=Tryz.func117
abbrev F.kz:Nat:=118
theorem fn.kz:P.funcs[F.kz]? = some Tryz.f118:=Tryz.func118
abbrev F.jA:Nat:=119
theorem fn.jA:P.funcs[F.jA]? = some Tryz.f119:=Tryz.func119
abbrev F.mX:Nat:=120
theorem fn.mX:P.funcs[F.mX]? = some Tryz.f120:=Tryz.func120
abbrev F.mY:Nat:=121
theorem fn.mY:P.funcs[F.mY]? = some Tryz.f121:=Tryz.func121
abbrev F.gm:Nat:=122
theorem fn.gm:P.funcs[F.gm]? = some Tryz.f122:=Tryz.func122
abbrev F.pX:Nat:=123
theorem fn.pX:P.funcs[F.pX]? = some Tryz.f123:=Tryz.func123
abbrev F.pY:Nat:=124
theorem fn.pY:P.funcs[F.pY]? = some Tryz.f124:=Tryz.func124
abbrev F.oC:Nat:=125
theorem fn.oC:P.funcs[F.oC]? = some Tryz.f125:=Tryz.func125
abbrev F.vV:Nat:=126
theorem fn.vV:P.funcs[F.vV]? = some Tryz.f126:=Tryz.func126
abbrev F.jh:Nat:=127
theorem fn.jh:P.funcs[F.jh]? = some Tryz.f127:=Tryz.func127
abbrev F.mZ:Nat:=128
theorem fn.mZ:P.funcs[F.mZ]? = some Tryz.f128:=Tryz.func128
abbrev F.sD:Nat:=129
theorem fn.sD:P.funcs[F.sD]? = some Tryz.f129:=Tryz.func129
abbrev F.qH:Nat:=130
theorem fn.qH:P.funcs[F.qH]? = some Tryz.f130:=Tryz.func130
abbrev F.mg:Nat:=131
theorem fn.mg:P.funcs[F.mg]? = some Tryz.f131:=Tryz.func131
abbrev F.ny:Nat:=132
theorem fn.ny:P.funcs[F.ny]? = some Tryz.f132:=Tryz.func132
abbrev F.iQ:Nat:=133
theorem fn.iQ:P.funcs[F.iQ]? = some Tryz.f133:=Tryz.func133
abbrev F.bK:Nat:=134
theorem fn.bK:P.funcs[F.bK]? = some Tryz.f134:=Tryz.func134
abbrev F.jH:Nat:=135
theorem fn.jH:P.funcs[F.jH]? = some Tryz.f135:=Tryz.func135
abbrev F.oP:Nat:=136
theorem fn.oP:P.funcs[F.oP]? = some Tryz.f136:=Tryz.func136
abbrev F.sF:Nat:=137
theorem fn.sF:P.funcs[F.sF]? = some Tryz.f137:=Tryz.func137
abbrev F.Bd:Nat:=138
theorem fn.Bd:P.funcs[F.Bd]? = some Tryz.f138:=Tryz.func138
abbrev F.Be:Nat:=139
theorem fn.Be:P.funcs[F.Be]? = some Tryz.f139:=Tryz.func139
abbrev F.DU:Nat:=140
theorem fn.DU:P.funcs[F.DU]? = some Tryz.f140:=Tryz.func140
abbrev F.Ac:Nat:=141
theorem fn.Ac:P.funcs[F.Ac]? = some Tryz.f141:=Tryz.func141
abbrev F.Ad:Nat:=142
theorem fn.Ad:P.funcs[F.Ad]? = some Tryz.f142:=Tryz.func142
abbrev F.Bf:Nat:=143
theorem fn.Bf:P.funcs[F.Bf]? = some Tryz.f143:=Tryz.func143
abbrev F.DV:Nat:=144
theorem fn.DV:P.funcs[F.DV]? = some Tryz.f144:=Tryz.func144
abbrev F.iD:Nat:=148
theorem fn.iD:P.funcs[F.iD]? = some Tryz.f148:=Tryz.func148
abbrev F.uo:Nat:=156
theorem fn.uo:P.funcs[F.uo]? = some Tryz.f156:=Tryz.func156
abbrev F.uq:Nat:=157
theorem fn.uq:P.funcs[F.uq]? = some Tryz.f157:=Tryz.func157
abbrev F.ji:Nat:=158
theorem fn.ji:P.funcs[F.ji]? = some Tryz.f158:=Tryz.func158
abbrev F.lD:Nat:=159
theorem fn.lD:P.funcs[F.lD]? = some Tryz.f159:=Tryz.func159
abbrev F.cmp_isNaN_int:Nat:=160
theorem fn.cmp_isNaN_int:P.funcs[F.cmp_isNaN_int]? = some Tryz.f160:=Tryz.func160
abbrev F.kP:Nat:=161
theorem fn.kP:P.funcs[F.kP]? = some Tryz.f161:=Tryz.func161
abbrev F.vX:Nat:=163
theorem fn.vX:P.funcs[F.vX]? = some Tryz.f163:=Tryz.func163
abbrev F.Jj:Nat:=164
theorem fn.Jj:P.funcs[F.Jj]? = some Tryz.f164:=Tryz.func164
abbrev F.xN:Nat:=165
theorem fn.xN:P.funcs[F.xN]? = some Tryz.f165:=Tryz.func165
abbrev F.Bg:Nat:=166
theorem fn.Bg:P.funcs[F.Bg]? = some Tryz.f166:=Tryz.func166
abbrev F.tN:Nat:=167
theorem fn.tN:P.funcs[F.tN]? = some Tryz.f167:=Tryz.func167
abbrev F.rf:Nat:=168
theorem fn.rf:P.funcs[F.rf]? = some Tryz.f168:=Tryz.func168
abbrev F.Bh:Nat:=169
theorem fn.Bh:P.funcs[F.Bh]? = some Tryz.f169:=Tryz.func169
abbrev F.xO:Nat:=170
theorem fn.xO:P.funcs[F.xO]? = some Tryz.f170:=Tryz.func170
abbrev F.vY:Nat:=173
theorem fn.vY:P.funcs[F.vY]? = some Tryz.f173:=Tryz.func173
abbrev F.jO:Nat:=176
theorem fn.jO:P.funcs[F.jO]? = some Tryz.f176:=Tryz.func176
abbrev F.jc:Nat:=177
theorem fn.jc:P.funcs[F.jc]? = some Tryz.f177:=Tryz.func177
abbrev F.qc:Nat:=178
theorem fn.qc:P.funcs[F.qc]? = some Tryz.f178:=Tryz.func178
abbrev F.lF:Nat:=179
theorem fn.lF:P.funcs[F.lF]? = some Tryz.f179:=Tryz.func179
abbrev F.gq:Nat:=180
theorem fn.gq:P.funcs[F.gq]? = some Tryz.f180:=Tryz.func180
abbrev F.rq:Nat:=181
theorem fn.rq:P.funcs[F.rq]? = some Tryz.f181:=Tryz.func181
abbrev F.kT:Nat:=182
theorem fn.kT:P.funcs[F.kT]? = some Tryz.f182:=Tryz.func182
abbrev F.nD:Nat:=183
theorem fn.nD:P.funcs[F.nD]? = some Tryz.f183:=Tryz.func183
abbrev F.mr:Nat:=184
theorem fn.mr:P.funcs[F.mr]? = some Tryz.f184:=Tryz.func184
abbrev F.oD:Nat:=185
theorem fn.oD:P.funcs[F.oD]? = some Tryz.f185:=Tryz.func185
abbrev F.nG:Nat:=186
theorem fn.nG:P.funcs[F.nG]? = some Tryz.f186:=Tryz.func186
abbrev F.nH:Nat:=187
theorem fn.nH:P.funcs[F.nH]? = some Tryz.f187:=Tryz.func187
abbrev F.uw:Nat:=188
theorem fn.uw:P.funcs[F.uw]? = some Tryz.f188:=Tryz.func188
abbrev F.gQ:Nat:=191
theorem fn.gQ:P.funcs[F.gQ]? = some Tryz.f191:=Tryz.func191
abbrev F.qf:Nat:=192
theorem fn.qf:P.funcs[F.qf]? = some Tryz.f192:=Tryz.func192
abbrev F.vZ:Nat:=193
theorem fn.vZ:P.funcs[F.vZ]? = some Tryz.f193:=Tryz.func193
abbrev F.gK:Nat:=194
theorem fn.gK:P.funcs[F.gK]? = some Tryz.f194:=Tryz.func194
abbrev F.kX:Nat:=195
theorem fn.kX:P.funcs[F.kX]? = some Tryz.f195:=Tryz.func195
abbrev F.jW:Nat:=196
theorem fn.jW:P.funcs[F.jW]? = some Tryz.f196:=Tryz.func196
abbrev F.DW:Nat:=197
theorem fn.DW:P.funcs[F.DW]? = some Tryz.f197:=Tryz.func197
abbrev F.cmp_Compare_int:Nat:=198
theorem fn.cmp_Compare_int:P.funcs[F.cmp_Compare_int]? = some Tryz.f198:=Tryz.func198
abbrev F.wo:Nat:=199
theorem fn.wo:P.funcs[F.wo]? = some Tryz.f199:=Tryz.func199
abbrev F.Bj:Nat:=200
theorem fn.Bj:P.funcs[F.Bj]? = some Tryz.f200:=Tryz.func200
abbrev F.yU:Nat:=201
theorem fn.yU:P.funcs[F.yU]? = some Tryz.f201:=Tryz.func201
abbrev F.DX:Nat:=202
theorem fn.DX:P.funcs[F.DX]? = some Tryz.f202:=Tryz.func202
abbrev F.oG:Nat:=208
theorem fn.oG:P.funcs[F.oG]? = some Tryz.f208:=Tryz.func208
abbrev F.yV:Nat:=211
theorem fn.yV:P.funcs[F.yV]? = some Tryz.f211:=Tryz.func211
abbrev F.Bl:Nat:=212
theorem fn.Bl:P.funcs[F.Bl]? = some Tryz.f212:=Tryz.func212
abbrev F.qg:Nat:=213
theorem fn.qg:P.funcs[F.qg]? = some Tryz.f213:=Tryz.func213
abbrev F.sG:Nat:=218
theorem fn.sG:P.funcs[F.sG]? = some Tryz.f218:=Tryz.func218
abbrev F.jI:Nat:=219
theorem fn.jI:P.funcs[F.jI]? = some Tryz.f219:=Tryz.func219
abbrev F.nJ:Nat:=220
theorem fn.nJ:P.funcs[F.nJ]? = some Tryz.f220:=Tryz.func220
abbrev F.jX:Nat:=221
theorem fn.jX:P.funcs[F.jX]? = some Tryz.f221:=Tryz.func221
abbrev F.iL:Nat:=223
theorem fn.iL:P.funcs[F.iL]? = some Tryz.f223:=Tryz.func223
abbrev F.iE:Nat:=224
theorem fn.iE:P.funcs[F.iE]? = some Tryz.f224:=Tryz.func224
abbrev F.fJ:Nat:=225
theorem fn.fJ:P.funcs[F.fJ]? = some Tryz.f225:=Tryz.func225
abbrev F.sH:Nat:=227
theorem fn.sH:P.funcs[F.sH]? = some Tryz.f227:=Tryz.func227
abbrev F.cO:Nat:=228
theorem fn.cO:P.funcs[F.cO]? = some Tryz.f228:=Tryz.func228
abbrev F.dH:Nat:=229
theorem fn.dH:P.funcs[F.dH]? = some Tryz.f229:=Tryz.func229
abbrev F.nT:Nat:=230
theorem fn.nT:P.funcs[F.nT]? = some Tryz.f230:=Tryz.func230
abbrev F.Bo:Nat:=231
theorem fn.Bo:P.funcs[F.Bo]? = some Tryz.f231:=Tryz.func231
abbrev F.DY:Nat:=233
theorem fn.DY:P.funcs[F.DY]? = some Tryz.f233:=Tryz.func233
abbrev F.DZ:Nat:=234
theorem fn.DZ:P.funcs[F.DZ]? = some Tryz.f234:=Tryz.func234
abbrev F.kC:Nat:=235
theorem fn.kC:P.funcs[F.kC]? = some Tryz.f235:=Tryz.func235
abbrev F.kD:Nat:=236
theorem fn.kD:P.funcs[F.kD]? = some Tryz.f236:=Tryz.func236
abbrev F.ru:Nat:=237
theorem fn.ru:P.funcs[F.ru]? = some Tryz.f237:=Tryz.func237
abbrev F.kE:Nat:=239
theorem fn.kE:P.funcs[F.kE]? = some Tryz.f239:=Tryz.func239
abbrev F.kF:Nat:=240
theorem fn.kF:P.funcs[F.kF]? = some Tryz.f240:=Tryz.func240
abbrev F.wu:Nat:=241
theorem fn.wu:P.funcs[F.wu]? = some Tryz.f241:=Tryz.func241
abbrev F.Ae:Nat:=242
theorem fn.Ae:P.funcs[F.Ae]? = some Tryz.f242:=Tryz.func242
abbrev F.rC:Nat:=243
theorem fn.rC:P.funcs[F.rC]? = some Tryz.f243:=Tryz.func243
abbrev F.tq:Nat:=245
theorem fn.tq:P.funcs[F.tq]? = some Tryz.f245:=Tryz.func245
abbrev F.jB:Nat:=289
theorem fn.jB:P.funcs[F.jB]? = some Tryz.f289:=Tryz.func289
abbrev F.jY:Nat:=290
theorem fn.jY:P.funcs[F.jY]? = some Tryz.f290:=Tryz.func290
abbrev F.jk:Nat:=291
theorem fn.jk:P.funcs[F.jk]? = some Tryz.f291:=Tryz.func291
abbrev F.D5:Nat:=292
theorem fn.D5:P.funcs[F.D5]? = some Tryz.f292:=Tryz.func292
abbrev F.jl:Nat:=326
theorem fn.jl:P.funcs[F.jl]? = some Tryz.f326:=Tryz.func326
abbrev T.i64:Nat:=2
theorem ce.i64:lQ P 2:=⟨by kernel_rfl,by kernel_rfl⟩
theorem it.i64:LW P 2 .i64:=⟨by kernel_rfl⟩
theorem z.i64:gU P 2 [.d (.sc (.int .i64 0))]:=⟨by kernel_rfl⟩
theorem sz.i64:(P.info? 2).map (·.size)=some 1:=by kernel_rfl
abbrev T.int:Nat:=3
theorem ce.int:lQ P 3:=⟨by kernel_rfl,by kernel_rfl⟩
theorem it.int:LW P 3 .i64:=⟨by kernel_rfl⟩
theorem z.int:gU P 3 [.d (.sc (.int .i64 0))]:=⟨by kernel_rfl⟩
theorem sz.int:(P.info? 3).map (·.size)=some 1:=by kernel_rfl
abbrev T.bool:Nat:=4
theorem ce.bool:lQ P 4:=⟨by kernel_rfl,by kernel_rfl⟩
theorem bt.bool:MW P 4:=⟨by kernel_rfl⟩
theorem z.bool:gU P 4 [.d (.sc (.bool false))]:=⟨by kernel_rfl⟩
theorem sz.bool:(P.info? 4).map (·.size)=some 1:=by kernel_rfl
abbrev T.u8:Nat:=5
theorem ce.u8:lQ P 5:=⟨by kernel_rfl,by kernel_rfl⟩
theorem it.u8:LW P 5 .u8:=⟨by kernel_rfl⟩
theorem z.u8:gU P 5 [.d (.sc (.int .u8 0))]:=⟨by kernel_rfl⟩
theorem sz.u8:(P.info? 5).map (·.size)=some 1:=by kernel_rfl
abbrev T.ints:Nat:=22
theorem sl.ints:bI P 22 3 1 8:=⟨by kernel_rfl,by kernel_rfl,by decide⟩
theorem ce.ints:lQ P 22:=⟨by kernel_rfl,by kernel_rfl⟩
theorem z.ints:gU P 22 [.mt]:=⟨by kernel_rfl⟩
theorem sz.ints:(P.info? 22).map (·.size)=some 1:=by kernel_rfl
abbrev T.Chain:Nat:=24
theorem ag.Chain:BF P 24 3:=⟨by kernel_rfl,by kernel_rfl⟩
theorem cc.Chain:pF P 24:=by unfold pF;kernel_rfl
theorem fd.aD2:dL P 24 0 0:=⟨by kernel_rfl⟩
theorem fd.aD3:dL P 24 1 1:=⟨by kernel_rfl⟩
theorem fd.aD4:dL P 24 2 2:=⟨by kernel_rfl⟩
theorem z.Chain:gU P 24 [.d (.sc (.int .i64 0)),.d (.sc (.int .i64 0)),.mt]:=⟨by kernel_rfl⟩
theorem pl.Chain:qF P 24 [(0,1),(1,1),(2,1)]:=⟨by kernel_rfl⟩
theorem sz.Chain:(P.info? 24).map (·.size)=some 3:=by kernel_rfl
abbrev T.aC:Nat:=25
theorem sl.aC:bI P 25 128 1 4:=⟨by kernel_rfl,by kernel_rfl,by decide⟩
theorem ce.aC:lQ P 25:=⟨by kernel_rfl,by kernel_rfl⟩
theorem z.aC:gU P 25 [.mt]:=⟨by kernel_rfl⟩
theorem sz.aC:(P.info? 25).map (·.size)=some 1:=by kernel_rfl
abbrev T.Rat:Nat:=27
theorem ag.Rat:BF P 27 3:=⟨by kernel_rfl,by kernel_rfl⟩
theorem cc.Rat:pF P 27:=by unfold pF;kernel_rfl
theorem fd.tV:dL P 27 0 0:=⟨by kernel_rfl⟩
theorem fd.sO:dL P 27 1 1:=⟨by kernel_rfl⟩
theorem fd.nZ:dL P 27 2 2:=⟨by kernel_rfl⟩
theorem z.Rat:gU P 27 [.d (.sc (.bool false)),.mt,.mt]:=⟨by kernel_rfl⟩
theorem pl.Rat:qF P 27 [(0,1),(1,1),(2,1)]:=⟨by kernel_rfl⟩
theorem sz.Rat:(P.info? 27).map (·.size)=some 3:=by kernel_rfl
abbrev T.aQ:Nat:=28
theorem sl.aQ:bI P 28 27 3 56:=⟨by kernel_rfl,by kernel_rfl,by decide⟩
theorem ce.aQ:lQ P 28:=⟨by kernel_rfl,by kernel_rfl⟩
theorem z.aQ:gU P 28 [.mt]:=⟨by kernel_rfl⟩
theorem sz.aQ:(P.info? 28).map (·.size)=some 1:=by kernel_rfl
abbrev T.aW:Nat:=29
theorem sl.aW:bI P 29 28 1 24:=⟨by kernel_rfl,by kernel_rfl,by decide⟩
theorem ce.aW:lQ P 29:=⟨by kernel_rfl,by kernel_rfl⟩
theorem z.aW:gU P 29 [.mt]:=⟨by kernel_rfl⟩
theorem sz.aW:(P.info? 29).map (·.size)=some 1:=by kernel_rfl
abbrev T.bools:Nat:=30
theorem sl.bools:bI P 30 4 1 1:=⟨by kernel_rfl,by kernel_rfl,by decide⟩
theorem ce.bools:lQ P 30:=⟨by kernel_rfl,by kernel_rfl⟩
theorem z.bools:gU P 30 [.mt]:=⟨by kernel_rfl⟩
theorem sz.bools:(P.info? 30).map (·.size)=some 1:=by kernel_rfl
abbrev T.aU:Nat:=32
theorem ag.aU:BF P 32 11:=⟨by kernel_rfl,by kernel_rfl⟩
theorem cc.aU:pF P 32:=by unfold pF;kernel_rfl
theorem fd.jL:dL P 32 0 0:=⟨by kernel_rfl⟩
theorem fd.bQ:dL P 32 1 1:=⟨by kernel_rfl⟩
theorem fd.gZ:dL P 32 2 2:=⟨by kernel_rfl⟩
theorem fd.fO:dL P 32 3 5:=⟨by kernel_rfl⟩
theorem fd.fD:dL P 32 4 6:=⟨by kernel_rfl⟩
theorem fd.jf:dL P 32 5 7:=⟨by kernel_rfl⟩
theorem fd.dS:dL P 32 6 8:=⟨by kernel_rfl⟩
theorem fd.bZ:dL P 32 7 9:=⟨by kernel_rfl⟩
theorem fd.fF:dL P 32 8 10:=⟨by kernel_rfl⟩
theorem z.aU:gU P 32 [.d (.sc (.int .i64 0)),.d (.sc (.int .i64 0)),.d (.sc (.bool false)),.mt,.mt,.mt,.mt,.mt,.mt,.mt,.mt]:=⟨by kernel_rfl⟩
theorem pl.aU:qF P 32 [(0,1),(1,1),(2,3),(5,1),(6,1),(7,1),(8,1),(9,1),(10,1)]:=⟨by kernel_rfl⟩
theorem sz.aU:(P.info? 32).map (·.size)=some 11:=by kernel_rfl
abbrev T.Ring:Nat:=36
theorem ag.Ring:BF P 36 2:=⟨by kernel_rfl,by kernel_rfl⟩
theorem cc.Ring:pF P 36:=by unfold pF;kernel_rfl
theorem fd.nX:dL P 36 0 0:=⟨by kernel_rfl⟩
theorem fd.J5:dL P 36 1 1:=⟨by kernel_rfl⟩
theorem z.Ring:gU P 36 [.d (.sc (.int .i64 0)),.mt]:=⟨by kernel_rfl⟩
theorem pl.Ring:qF P 36 [(0,1),(1,1)]:=⟨by kernel_rfl⟩
theorem sz.Ring:(P.info? 36).map (·.size)=some 2:=by kernel_rfl
abbrev T.aS:Nat:=37
theorem sl.aS:bI P 37 47 8 128:=⟨by kernel_rfl,by kernel_rfl,by decide⟩
theorem ce.aS:lQ P 37:=⟨by kernel_rfl,by kernel_rfl⟩
theorem z.aS:gU P 37 [.mt]:=⟨by kernel_rfl⟩
theorem sz.aS:(P.info? 37).map (·.size)=some 1:=by kernel_rfl
abbrev T.cZ:Nat:=38
theorem sl.cZ:bI P 38 67 11 152:=⟨by kernel_rfl,by kernel_rfl,by decide⟩
theorem ce.cZ:lQ P 38:=⟨by kernel_rfl,by kernel_rfl⟩
theorem z.cZ:gU P 38 [.mt]:=⟨by kernel_rfl⟩
theorem sz.cZ:(P.info? 38).map (·.size)=some 1:=by kernel_rfl
abbrev T.Auto:Nat:=40
theorem ag.Auto:BF P 40 7:=⟨by kernel_rfl,by kernel_rfl⟩
theorem cc.Auto:pF P 40:=by unfold pF;kernel_rfl
theorem fd.kU:dL P 40 0 0:=⟨by kernel_rfl⟩
theorem fd.D6:dL P 40 1 2:=⟨by kernel_rfl⟩
theorem fd.rD:dL P 40 2 3:=⟨by kernel_rfl⟩
theorem fd.xe:dL P 40 3 4:=⟨by kernel_rfl⟩
theorem fd.xg:dL P 40 4 5:=⟨by kernel_rfl⟩
theorem fd.lX:dL P 40 5 6:=⟨by kernel_rfl⟩
theorem z.Auto:gU P 40 [.d (.sc (.int .i64 0)),.mt,.d (.sc (.int .i64 0)),.d (.sc (.int .i64 0)),.mt,.mt,.mt]:=⟨by kernel_rfl⟩
theorem pl.Auto:qF P 40 [(0,2),(2,1),(3,1),(4,1),(5,1),(6,1)]:=⟨by kernel_rfl⟩
theorem sz.Auto:(P.info? 40).map (·.size)=some 7:=by kernel_rfl
abbrev T.u64:Nat:=44
theorem ce.u64:lQ P 44:=⟨by kernel_rfl,by kernel_rfl⟩
theorem it.u64:LW P 44 .u64:=⟨by kernel_rfl⟩
theorem z.u64:gU P 44 [.d (.sc (.int .u64 0))]:=⟨by kernel_rfl⟩
theorem sz.u64:(P.info? 44).map (·.size)=some 1:=by kernel_rfl
abbrev T.iM:Nat:=45
theorem sl.iM:bI P 45 169 6 80:=⟨by kernel_rfl,by kernel_rfl,by decide⟩
theorem ce.iM:lQ P 45:=⟨by kernel_rfl,by kernel_rfl⟩
theorem z.iM:gU P 45 [.mt]:=⟨by kernel_rfl⟩
theorem sz.iM:(P.info? 45).map (·.size)=some 1:=by kernel_rfl
abbrev T.aA:Nat:=47
theorem ag.aA:BF P 47 8:=⟨by kernel_rfl,by kernel_rfl⟩
theorem cc.aA:pF P 47:=by unfold pF;kernel_rfl
theorem fd.iP:dL P 47 0 0:=⟨by kernel_rfl⟩
theorem fd.Ce:dL P 47 1 3:=⟨by kernel_rfl⟩
theorem fd.Af:dL P 47 2 4:=⟨by kernel_rfl⟩
theorem fd.Cf:dL P 47 3 5:=⟨by kernel_rfl⟩
theorem fd.Ci:dL P 47 4 6:=⟨by kernel_rfl⟩
theorem fd.Ag:dL P 47 5 7:=⟨by kernel_rfl⟩
theorem z.aA:gU P 47 [.d (.sc (.bool false)),.mt,.mt,.d (.sc (.int .i64 0)),.d (.sc (.bool false)),.d (.sc (.int .u64 0)),.mt,.mt]:=⟨by kernel_rfl⟩
theorem pl.aA:qF P 47 [(0,3),(3,1),(4,1),(5,1),(6,1),(7,1)]:=⟨by kernel_rfl⟩
theorem sz.aA:(P.info? 47).map (·.size)=some 8:=by kernel_rfl
abbrev T.mD:Nat:=67
theorem ag.mD:BF P 67 11:=⟨by kernel_rfl,by kernel_rfl⟩
theorem cc.mD:pF P 67:=by unfold pF;kernel_rfl
theorem fd.LC:dL P 67 0 0:=⟨by kernel_rfl⟩
theorem fd.Fb:dL P 67 1 1:=⟨by kernel_rfl⟩
theorem fd.Ht:dL P 67 2 2:=⟨by kernel_rfl⟩
theorem fd.wz:dL P 67 3 3:=⟨by kernel_rfl⟩
theorem z.mD:gU P 67 [.d (.sc (.int .i64 0)),.d (.sc (.int .i64 0)),.d (.sc (.int .i64 0)),.d (.sc (.bool false)),.mt,.mt,.d (.sc (.int .i64 0)),.d (.sc (.bool false)),.d (.sc (.int .u64 0)),.mt,.mt]:=⟨by kernel_rfl⟩
theorem pl.mD:qF P 67 [(0,1),(1,1),(2,1),(3,8)]:=⟨by kernel_rfl⟩
theorem sz.mD:(P.info? 67).map (·.size)=some 11:=by kernel_rfl
abbrev T.Tape:Nat:=94
theorem ag.Tape:BF P 94 2:=⟨by kernel_rfl,by kernel_rfl⟩
theorem cc.Tape:pF P 94:=by unfold pF;kernel_rfl
theorem fd.an8:dL P 94 0 0:=⟨by kernel_rfl⟩
theorem fd.Sj:dL P 94 1 1:=⟨by kernel_rfl⟩
theorem z.Tape:gU P 94 [.mt,.d (.sc (.int .i64 0))]:=⟨by kernel_rfl⟩
theorem pl.Tape:qF P 94 [(0,1),(1,1)]:=⟨by kernel_rfl⟩
theorem sz.Tape:(P.info? 94).map (·.size)=some 2:=by kernel_rfl
abbrev T.limbs:Nat:=97
theorem sl.limbs:bI P 97 128 1 4:=⟨by kernel_rfl,by kernel_rfl,by decide⟩
theorem ce.limbs:lQ P 97:=⟨by kernel_rfl,by kernel_rfl⟩
theorem z.limbs:gU P 97 [.mt]:=⟨by kernel_rfl⟩
theorem sz.limbs:(P.info? 97).map (·.size)=some 1:=by kernel_rfl
abbrev T.fraction:Nat:=99
theorem ag.fraction:BF P 99 3:=⟨by kernel_rfl,by kernel_rfl⟩
theorem cc.fraction:pF P 99:=by unfold pF;kernel_rfl
theorem fd.lY:dL P 99 0 0:=⟨by kernel_rfl⟩
theorem fd.rE:dL P 99 1 1:=⟨by kernel_rfl⟩
theorem fd.rF:dL P 99 2 2:=⟨by kernel_rfl⟩
theorem z.fraction:gU P 99 [.d (.sc (.bool false)),.mt,.mt]:=⟨by kernel_rfl⟩
theorem pl.fraction:qF P 99 [(0,1),(1,1),(2,1)]:=⟨by kernel_rfl⟩
theorem sz.fraction:(P.info? 99).map (·.size)=some 3:=by kernel_rfl
abbrev T.uint:Nat:=113
theorem ce.uint:lQ P 113:=⟨by kernel_rfl,by kernel_rfl⟩
theorem it.uint:LW P 113 .u64:=⟨by kernel_rfl⟩
theorem z.uint:gU P 113 [.d (.sc (.int .u64 0))]:=⟨by kernel_rfl⟩
theorem sz.uint:(P.info? 113).map (·.size)=some 1:=by kernel_rfl
abbrev T.u32:Nat:=128
theorem ce.u32:lQ P 128:=⟨by kernel_rfl,by kernel_rfl⟩
theorem it.u32:LW P 128 .u32:=⟨by kernel_rfl⟩
theorem z.u32:gU P 128 [.d (.sc (.int .u32 0))]:=⟨by kernel_rfl⟩
theorem sz.u32:(P.info? 128).map (·.size)=some 1:=by kernel_rfl
abbrev T.algebra:Nat:=181
theorem ag.algebra:BF P 181 9:=⟨by kernel_rfl,by kernel_rfl⟩
theorem cc.algebra:pF P 181:=by unfold pF;kernel_rfl
theorem fd.Qo:dL P 181 0 0:=⟨by kernel_rfl⟩
theorem fc.Qo:Dc P 181 0 0:=⟨by kernel_rfl⟩
theorem fd.Qp:dL P 181 1 1:=⟨by kernel_rfl⟩
theorem fc.Qp:Dc P 181 1 1:=⟨by kernel_rfl⟩
theorem fd.Qq:dL P 181 3 3:=⟨by kernel_rfl⟩
theorem fc.Qq:Dc P 181 3 3:=⟨by kernel_rfl⟩
theorem fd.Qr:dL P 181 4 4:=⟨by kernel_rfl⟩
theorem fc.Qr:Dc P 181 4 4:=⟨by kernel_rfl⟩
theorem z.algebra:gU P 181 [.d (.sc .nilFunc),.d (.sc .nilFunc),.d (.sc .nilFunc),.d (.sc .nilFunc),.d (.sc .nilFunc),.d (.sc .nilFunc),.d (.sc .nilFunc),.d (.sc .nilFunc),.d (.sc .nilFunc)]:=⟨by kernel_rfl⟩
theorem pl.algebra:qF P 181 [(0,1),(1,1),(2,1),(3,1),(4,1),(5,1),(6,1),(7,1),(8,1)]:=⟨by kernel_rfl⟩
theorem sz.algebra:(P.info? 181).map (·.size)=some 9:=by kernel_rfl
abbrev T.yu:Nat:=110
theorem ce.yu:lQ P 110:=⟨by kernel_rfl,by kernel_rfl⟩
theorem z.yu:gU P 110 [.d (.sc .nilFunc)]:=⟨by kernel_rfl⟩
theorem sz.yu:(P.info? 110).map (·.size)=some 1:=by kernel_rfl
theorem st.str:P.underlying 9=some .string:=by kernel_rfl
