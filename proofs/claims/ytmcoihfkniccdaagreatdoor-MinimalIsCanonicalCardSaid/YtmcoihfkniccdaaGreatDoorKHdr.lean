/-
  Names for the functions of this seat, and facts on its types (printed by hdr.py).
-/
import Derived.Test.YtmcoihfkniccdaaGreatDoorChecked
import Derived.KernelRfl
import Derived.Test.YtmcoihfkniccdaaGreatDoorKAlg25
import Derived.Test.YtmcoihfkniccdaaGreatDoorKAlg37
set_option linter.unusedVariables false
set_option linter.unusedSimpArgs false
namespace Go.Proofs.YtmcoihfkniccdaaGreatDoor
open Go Go.AL
noncomputable abbrev P:Program:=Tryz.prog
theorem order_free:P.follows .mixedOrders=true:=by kernel_rfl
abbrev F.law24_MinimalIsCanonical:Nat:=3
theorem fn.law24_MinimalIsCanonical:P.funcs[F.law24_MinimalIsCanonical]? = some Tryz.f3:=Tryz.func3
abbrev F.law24_plain:Nat:=5
theorem fn.law24_plain:P.funcs[F.law24_plain]? = some Tryz.f5:=Tryz.func5
abbrev F.minimal_Minimal:Nat:=6
theorem fn.minimal_Minimal:P.funcs[F.minimal_Minimal]? = some Tryz.f6:=Tryz.func6
abbrev F.ref23_Equal:Nat:=7
theorem fn.ref23_Equal:P.funcs[F.ref23_Equal]? = some Tryz.f7:=Tryz.func7
abbrev F.law24_q:Nat:=8
theorem fn.law24_q:P.funcs[F.law24_q]? = some Tryz.f8:=Tryz.func8
abbrev F.weightedmade_Mod:Nat:=9
theorem fn.weightedmade_Mod:P.funcs[F.weightedmade_Mod]? = some Tryz.f9:=Tryz.func9
abbrev F.weightedmade_Weight:Nat:=10
theorem fn.weightedmade_Weight:P.funcs[F.weightedmade_Weight]? = some Tryz.f10:=Tryz.func10
abbrev F.law24_ring:Nat:=11
theorem fn.law24_ring:P.funcs[F.law24_ring]? = some Tryz.f11:=Tryz.func11
abbrev F.law24_awake:Nat:=12
theorem fn.law24_awake:P.funcs[F.law24_awake]? = some Tryz.f12:=Tryz.func12
abbrev F.ref06_Same:Nat:=13
theorem fn.ref06_Same:P.funcs[F.ref06_Same]? = some Tryz.f13:=Tryz.func13
abbrev F.weightedmade_Model_Auto:Nat:=20
theorem fn.weightedmade_Model_Auto:P.funcs[F.weightedmade_Model_Auto]? = some Tryz.f20:=Tryz.func20
abbrev F.equal_Check:Nat:=21
theorem fn.equal_Check:P.funcs[F.equal_Check]? = some Tryz.f21:=Tryz.func21
abbrev F.rows_Of:Nat:=22
theorem fn.rows_Of:P.funcs[F.rows_Of]? = some Tryz.f22:=Tryz.func22
abbrev F.minimal_prefixes:Nat:=23
theorem fn.minimal_prefixes:P.funcs[F.minimal_prefixes]? = some Tryz.f23:=Tryz.func23
abbrev F.rational_Make:Nat:=24
theorem fn.rational_Make:P.funcs[F.rational_Make]? = some Tryz.f24:=Tryz.func24
abbrev F.span_Dot:Nat:=25
theorem fn.span_Dot:P.funcs[F.span_Dot]? = some Tryz.f25:=Tryz.func25
abbrev F.span_Space_Find:Nat:=26
theorem fn.span_Space_Find:P.funcs[F.span_Space_Find]? = some Tryz.f26:=Tryz.func26
abbrev F.rows_Machine_Step:Nat:=27
theorem fn.rows_Machine_Step:P.funcs[F.rows_Machine_Step]? = some Tryz.f27:=Tryz.func27
abbrev F.automaton_Tidy:Nat:=28
theorem fn.automaton_Tidy:P.funcs[F.automaton_Tidy]? = some Tryz.f28:=Tryz.func28
abbrev F.automaton_Normal:Nat:=29
theorem fn.automaton_Normal:P.funcs[F.automaton_Normal]? = some Tryz.f29:=Tryz.func29
abbrev F.ref23_check:Nat:=30
theorem fn.ref23_check:P.funcs[F.ref23_check]? = some Tryz.f30:=Tryz.func30
abbrev F.ref23_zero:Nat:=31
theorem fn.ref23_zero:P.funcs[F.ref23_zero]? = some Tryz.f31:=Tryz.func31
abbrev F.ref23_difference:Nat:=32
theorem fn.ref23_difference:P.funcs[F.ref23_difference]? = some Tryz.f32:=Tryz.func32
abbrev F.ref01_Of:Nat:=33
theorem fn.ref01_Of:P.funcs[F.ref01_Of]? = some Tryz.f33:=Tryz.func33
abbrev F.weightedmade_Number:Nat:=34
theorem fn.weightedmade_Number:P.funcs[F.weightedmade_Number]? = some Tryz.f34:=Tryz.func34
abbrev F.ref03_Zero:Nat:=35
theorem fn.ref03_Zero:P.funcs[F.ref03_Zero]? = some Tryz.f35:=Tryz.func35
abbrev F.ref01_Same:Nat:=40
theorem fn.ref01_Same:P.funcs[F.ref01_Same]? = some Tryz.f40:=Tryz.func40
abbrev F.ref03_Same:Nat:=41
theorem fn.ref03_Same:P.funcs[F.ref03_Same]? = some Tryz.f41:=Tryz.func41
abbrev F.ref03_SameList:Nat:=42
theorem fn.ref03_SameList:P.funcs[F.ref03_SameList]? = some Tryz.f42:=Tryz.func42
abbrev F.ref06_order:Nat:=43
theorem fn.ref06_order:P.funcs[F.ref06_order]? = some Tryz.f43:=Tryz.func43
abbrev F.ref03_Equal:Nat:=44
theorem fn.ref03_Equal:P.funcs[F.ref03_Equal]? = some Tryz.f44:=Tryz.func44
abbrev F.rows_Machine_Turned:Nat:=49
theorem fn.rows_Machine_Turned:P.funcs[F.rows_Machine_Turned]? = some Tryz.f49:=Tryz.func49
abbrev F.rows_Machine_Views:Nat:=50
theorem fn.rows_Machine_Views:P.funcs[F.rows_Machine_Views]? = some Tryz.f50:=Tryz.func50
abbrev F.span_Space_Add:Nat:=51
theorem fn.span_Space_Add:P.funcs[F.span_Space_Add]? = some Tryz.f51:=Tryz.func51
abbrev F.ref05_Join:Nat:=57
theorem fn.ref05_Join:P.funcs[F.ref05_Join]? = some Tryz.f57:=Tryz.func57
abbrev F.ref06_Form:Nat:=60
theorem fn.ref06_Form:P.funcs[F.ref06_Form]? = some Tryz.f60:=Tryz.func60
abbrev F.weightedmade_end:Nat:=62
theorem fn.weightedmade_end:P.funcs[F.weightedmade_end]? = some Tryz.f62:=Tryz.func62
abbrev F.equal_Check_1:Nat:=63
theorem fn.equal_Check_1:P.funcs[F.equal_Check_1]? = some Tryz.f63:=Tryz.func63
abbrev F.equal_is:Nat:=64
theorem fn.equal_is:P.funcs[F.equal_is]? = some Tryz.f64:=Tryz.func64
abbrev F.automaton_Valid:Nat:=65
theorem fn.automaton_Valid:P.funcs[F.automaton_Valid]? = some Tryz.f65:=Tryz.func65
abbrev F.equal_Check_2:Nat:=66
theorem fn.equal_Check_2:P.funcs[F.equal_Check_2]? = some Tryz.f66:=Tryz.func66
abbrev F.equal_Check_3:Nat:=67
theorem fn.equal_Check_3:P.funcs[F.equal_Check_3]? = some Tryz.f67:=Tryz.func67
abbrev F.weigh_Ready:Nat:=68
theorem fn.weigh_Ready:P.funcs[F.weigh_Ready]? = some Tryz.f68:=Tryz.func68
abbrev F.equal_Check_4:Nat:=69
theorem fn.equal_Check_4:P.funcs[F.equal_Check_4]? = some Tryz.f69:=Tryz.func69
abbrev F.rows_numbers:Nat:=70
theorem fn.rows_numbers:P.funcs[F.rows_numbers]? = some Tryz.f70:=Tryz.func70
abbrev F.rows_Machine_Explore:Nat:=71
theorem fn.rows_Machine_Explore:P.funcs[F.rows_Machine_Explore]? = some Tryz.f71:=Tryz.func71
abbrev F.minimal_prefixes_1:Nat:=72
theorem fn.minimal_prefixes_1:P.funcs[F.minimal_prefixes_1]? = some Tryz.f72:=Tryz.func72
abbrev F.rational_whole:Nat:=73
theorem fn.rational_whole:P.funcs[F.rational_whole]? = some Tryz.f73:=Tryz.func73
abbrev F.rational_fraction_rat:Nat:=74
theorem fn.rational_fraction_rat:P.funcs[F.rational_fraction_rat]? = some Tryz.f74:=Tryz.func74
abbrev F.rational_Sign:Nat:=75
theorem fn.rational_Sign:P.funcs[F.rational_Sign]? = some Tryz.f75:=Tryz.func75
abbrev F.rational_Add:Nat:=76
theorem fn.rational_Add:P.funcs[F.rational_Add]? = some Tryz.f76:=Tryz.func76
abbrev F.rational_Mul:Nat:=77
theorem fn.rational_Mul:P.funcs[F.rational_Mul]? = some Tryz.f77:=Tryz.func77
abbrev F.span_Space_reduce:Nat:=78
theorem fn.span_Space_reduce:P.funcs[F.span_Space_reduce]? = some Tryz.f78:=Tryz.func78
abbrev F.span_first:Nat:=79
theorem fn.span_first:P.funcs[F.span_first]? = some Tryz.f79:=Tryz.func79
abbrev F.slices_Clone_Arc_Arc:Nat:=80
theorem fn.slices_Clone_Arc_Arc:P.funcs[F.slices_Clone_Arc_Arc]? = some Tryz.f80:=Tryz.func80
abbrev F.slices_SortStableFunc_Arc_Arc:Nat:=81
theorem fn.slices_SortStableFunc_Arc_Arc:P.funcs[F.slices_SortStableFunc_Arc_Arc]? = some Tryz.f81:=Tryz.func81
abbrev F.automaton_order:Nat:=82
theorem fn.automaton_order:P.funcs[F.automaton_order]? = some Tryz.f82:=Tryz.func82
abbrev F.semiring_Plus:Nat:=83
theorem fn.semiring_Plus:P.funcs[F.semiring_Plus]? = some Tryz.f83:=Tryz.func83
abbrev F.semiring_Zero:Nat:=84
theorem fn.semiring_Zero:P.funcs[F.semiring_Zero]? = some Tryz.f84:=Tryz.func84
abbrev F.slices_DeleteFunc_Arc_Arc:Nat:=85
theorem fn.slices_DeleteFunc_Arc_Arc:P.funcs[F.slices_DeleteFunc_Arc_Arc]? = some Tryz.f85:=Tryz.func85
abbrev F.automaton_Tidy_1:Nat:=86
theorem fn.automaton_Tidy_1:P.funcs[F.automaton_Tidy_1]? = some Tryz.f86:=Tryz.func86
abbrev F.automaton_IsZero:Nat:=87
theorem fn.automaton_IsZero:P.funcs[F.automaton_IsZero]? = some Tryz.f87:=Tryz.func87
abbrev F.automaton_ring:Nat:=88
theorem fn.automaton_ring:P.funcs[F.automaton_ring]? = some Tryz.f88:=Tryz.func88
abbrev F.automaton_Copy:Nat:=89
theorem fn.automaton_Copy:P.funcs[F.automaton_Copy]? = some Tryz.f89:=Tryz.func89
abbrev F.ref06_Valid:Nat:=90
theorem fn.ref06_Valid:P.funcs[F.ref06_Valid]? = some Tryz.f90:=Tryz.func90
abbrev F.ref08_Plain:Nat:=91
theorem fn.ref08_Plain:P.funcs[F.ref08_Plain]? = some Tryz.f91:=Tryz.func91
abbrev F.ref23_space:Nat:=92
theorem fn.ref23_space:P.funcs[F.ref23_space]? = some Tryz.f92:=Tryz.func92
abbrev F.ref01_Sign:Nat:=93
theorem fn.ref01_Sign:P.funcs[F.ref01_Sign]? = some Tryz.f93:=Tryz.func93
abbrev F.ref22_Dot:Nat:=94
theorem fn.ref22_Dot:P.funcs[F.ref22_Dot]? = some Tryz.f94:=Tryz.func94
abbrev F.ref23_forward:Nat:=95
theorem fn.ref23_forward:P.funcs[F.ref23_forward]? = some Tryz.f95:=Tryz.func95
abbrev F.ref23_Numbers:Nat:=96
theorem fn.ref23_Numbers:P.funcs[F.ref23_Numbers]? = some Tryz.f96:=Tryz.func96
abbrev F.ref15_Scale:Nat:=97
theorem fn.ref15_Scale:P.funcs[F.ref15_Scale]? = some Tryz.f97:=Tryz.func97
abbrev F.ref01_Make:Nat:=98
theorem fn.ref01_Make:P.funcs[F.ref01_Make]? = some Tryz.f98:=Tryz.func98
abbrev F.ref03_Valid:Nat:=99
theorem fn.ref03_Valid:P.funcs[F.ref03_Valid]? = some Tryz.f99:=Tryz.func99
abbrev F.ref01_Take:Nat:=102
theorem fn.ref01_Take:P.funcs[F.ref01_Take]? = some Tryz.f102:=Tryz.func102
abbrev F.ref02_Take:Nat:=103
theorem fn.ref02_Take:P.funcs[F.ref02_Take]? = some Tryz.f103:=Tryz.func103
abbrev F.ref01_same:Nat:=105
theorem fn.ref01_same:P.funcs[F.ref01_same]? = some Tryz.f105:=Tryz.func105
abbrev F.ref05_Compare:Nat:=106
theorem fn.ref05_Compare:P.funcs[F.ref05_Compare]? = some Tryz.f106:=Tryz.func106
abbrev F.ref02_Same:Nat:=107
theorem fn.ref02_Same:P.funcs[F.ref02_Same]? = some Tryz.f107:=Tryz.func107
abbrev F.slices_Clone_ints_int:Nat:=108
theorem fn.slices_Clone_ints_int:P.funcs[F.slices_Clone_ints_int]? = some Tryz.f108:=Tryz.func108
abbrev F.rows_Machine_Basis:Nat:=110
theorem fn.rows_Machine_Basis:P.funcs[F.rows_Machine_Basis]? = some Tryz.f110:=Tryz.func110
abbrev F.rows_Machine_Views_1:Nat:=111
theorem fn.rows_Machine_Views_1:P.funcs[F.rows_Machine_Views_1]? = some Tryz.f111:=Tryz.func111
abbrev F.rational_Neg:Nat:=112
theorem fn.rational_Neg:P.funcs[F.rational_Neg]? = some Tryz.f112:=Tryz.func112
abbrev F.ref01_Neg:Nat:=122
theorem fn.ref01_Neg:P.funcs[F.ref01_Neg]? = some Tryz.f122:=Tryz.func122
abbrev F.ref06_ring:Nat:=123
theorem fn.ref06_ring:P.funcs[F.ref06_ring]? = some Tryz.f123:=Tryz.func123
abbrev F.ref06_take:Nat:=124
theorem fn.ref06_take:P.funcs[F.ref06_take]? = some Tryz.f124:=Tryz.func124
abbrev F.ref06_Arcs:Nat:=125
theorem fn.ref06_Arcs:P.funcs[F.ref06_Arcs]? = some Tryz.f125:=Tryz.func125
abbrev F.ref03_One:Nat:=126
theorem fn.ref03_One:P.funcs[F.ref03_One]? = some Tryz.f126:=Tryz.func126
abbrev F.semiring_Valid:Nat:=127
theorem fn.semiring_Valid:P.funcs[F.semiring_Valid]? = some Tryz.f127:=Tryz.func127
abbrev F.slices_ContainsFunc_Arc_Arc:Nat:=128
theorem fn.slices_ContainsFunc_Arc_Arc:P.funcs[F.slices_ContainsFunc_Arc_Arc]? = some Tryz.f128:=Tryz.func128
abbrev F.automaton_Valid_1:Nat:=129
theorem fn.automaton_Valid_1:P.funcs[F.automaton_Valid_1]? = some Tryz.f129:=Tryz.func129
abbrev F.automaton_inside:Nat:=130
theorem fn.automaton_inside:P.funcs[F.automaton_inside]? = some Tryz.f130:=Tryz.func130
abbrev F.automaton_weights:Nat:=131
theorem fn.automaton_weights:P.funcs[F.automaton_weights]? = some Tryz.f131:=Tryz.func131
abbrev F.weigh_Ready_1:Nat:=132
theorem fn.weigh_Ready_1:P.funcs[F.weigh_Ready_1]? = some Tryz.f132:=Tryz.func132
abbrev F.words_Valid:Nat:=133
theorem fn.words_Valid:P.funcs[F.words_Valid]? = some Tryz.f133:=Tryz.func133
abbrev F.rational_limbs_clean:Nat:=134
theorem fn.rational_limbs_clean:P.funcs[F.rational_limbs_clean]? = some Tryz.f134:=Tryz.func134
abbrev F.slices_Clone_rational_limbs_uint32:Nat:=135
theorem fn.slices_Clone_rational_limbs_uint32:P.funcs[F.slices_Clone_rational_limbs_uint32]? = some Tryz.f135:=Tryz.func135
abbrev F.rational_limbs_gcd:Nat:=136
theorem fn.rational_limbs_gcd:P.funcs[F.rational_limbs_gcd]? = some Tryz.f136:=Tryz.func136
abbrev F.rational_limbs_cmp:Nat:=137
theorem fn.rational_limbs_cmp:P.funcs[F.rational_limbs_cmp]? = some Tryz.f137:=Tryz.func137
abbrev F.rational_one:Nat:=138
theorem fn.rational_one:P.funcs[F.rational_one]? = some Tryz.f138:=Tryz.func138
abbrev F.rational_limbs_over:Nat:=139
theorem fn.rational_limbs_over:P.funcs[F.rational_limbs_over]? = some Tryz.f139:=Tryz.func139
abbrev F.rational_of:Nat:=140
theorem fn.rational_of:P.funcs[F.rational_of]? = some Tryz.f140:=Tryz.func140
abbrev F.rational_fraction_plus:Nat:=141
theorem fn.rational_fraction_plus:P.funcs[F.rational_fraction_plus]? = some Tryz.f141:=Tryz.func141
abbrev F.rational_limbs_times:Nat:=142
theorem fn.rational_limbs_times:P.funcs[F.rational_limbs_times]? = some Tryz.f142:=Tryz.func142
abbrev F.rational_Div:Nat:=143
theorem fn.rational_Div:P.funcs[F.rational_Div]? = some Tryz.f143:=Tryz.func143
abbrev F.rational_Sub:Nat:=144
theorem fn.rational_Sub:P.funcs[F.rational_Sub]? = some Tryz.f144:=Tryz.func144
abbrev F.slices_stableCmpFunc_Arc:Nat:=145
theorem fn.slices_stableCmpFunc_Arc:P.funcs[F.slices_stableCmpFunc_Arc]? = some Tryz.f145:=Tryz.func145
abbrev F.cmp_Or_int:Nat:=146
theorem fn.cmp_Or_int:P.funcs[F.cmp_Or_int]? = some Tryz.f146:=Tryz.func146
abbrev F.cmp_Compare_int:Nat:=147
theorem fn.cmp_Compare_int:P.funcs[F.cmp_Compare_int]? = some Tryz.f147:=Tryz.func147
abbrev F.semiring_value:Nat:=148
theorem fn.semiring_value:P.funcs[F.semiring_value]? = some Tryz.f148:=Tryz.func148
abbrev F.semiring_kind:Nat:=149
theorem fn.semiring_kind:P.funcs[F.semiring_kind]? = some Tryz.f149:=Tryz.func149
abbrev F.slices_IndexFunc_Arc_Arc:Nat:=153
theorem fn.slices_IndexFunc_Arc_Arc:P.funcs[F.slices_IndexFunc_Arc_Arc]? = some Tryz.f153:=Tryz.func153
abbrev F.semiring_Equal:Nat:=154
theorem fn.semiring_Equal:P.funcs[F.semiring_Equal]? = some Tryz.f154:=Tryz.func154
abbrev F.ref05_Alphabet:Nat:=155
theorem fn.ref05_Alphabet:P.funcs[F.ref05_Alphabet]? = some Tryz.f155:=Tryz.func155
abbrev F.ref06_In:Nat:=156
theorem fn.ref06_In:P.funcs[F.ref06_In]? = some Tryz.f156:=Tryz.func156
abbrev F.ref06_Weights:Nat:=157
theorem fn.ref06_Weights:P.funcs[F.ref06_Weights]? = some Tryz.f157:=Tryz.func157
abbrev F.ref03_Check:Nat:=158
theorem fn.ref03_Check:P.funcs[F.ref03_Check]? = some Tryz.f158:=Tryz.func158
abbrev F.ref23_reduced:Nat:=159
theorem fn.ref23_reduced:P.funcs[F.ref23_reduced]? = some Tryz.f159:=Tryz.func159
abbrev F.ref23_lead:Nat:=160
theorem fn.ref23_lead:P.funcs[F.ref23_lead]? = some Tryz.f160:=Tryz.func160
abbrev F.ref01_Add:Nat:=161
theorem fn.ref01_Add:P.funcs[F.ref01_Add]? = some Tryz.f161:=Tryz.func161
abbrev F.ref01_Mul:Nat:=162
theorem fn.ref01_Mul:P.funcs[F.ref01_Mul]? = some Tryz.f162:=Tryz.func162
abbrev F.ref03_Times:Nat:=163
theorem fn.ref03_Times:P.funcs[F.ref03_Times]? = some Tryz.f163:=Tryz.func163
abbrev F.ref01_over:Nat:=164
theorem fn.ref01_over:P.funcs[F.ref01_over]? = some Tryz.f164:=Tryz.func164
abbrev F.ref01_natural:Nat:=165
theorem fn.ref01_natural:P.funcs[F.ref01_natural]? = some Tryz.f165:=Tryz.func165
abbrev F.ref01_absolute:Nat:=166
theorem fn.ref01_absolute:P.funcs[F.ref01_absolute]? = some Tryz.f166:=Tryz.func166
abbrev F.ref01_Valid:Nat:=169
theorem fn.ref01_Valid:P.funcs[F.ref01_Valid]? = some Tryz.f169:=Tryz.func169
abbrev F.ref02_Valid:Nat:=170
theorem fn.ref02_Valid:P.funcs[F.ref02_Valid]? = some Tryz.f170:=Tryz.func170
abbrev F.rows_Machine_Basis_1:Nat:=171
theorem fn.rows_Machine_Basis_1:P.funcs[F.rows_Machine_Basis_1]? = some Tryz.f171:=Tryz.func171
abbrev F.rational_fraction_negative:Nat:=172
theorem fn.rational_fraction_negative:P.funcs[F.rational_fraction_negative]? = some Tryz.f172:=Tryz.func172
abbrev F.ref03_Plus:Nat:=175
theorem fn.ref03_Plus:P.funcs[F.ref03_Plus]? = some Tryz.f175:=Tryz.func175
abbrev F.ref01_Quo:Nat:=177
theorem fn.ref01_Quo:P.funcs[F.ref01_Quo]? = some Tryz.f177:=Tryz.func177
abbrev F.ref03_Take:Nat:=179
theorem fn.ref03_Take:P.funcs[F.ref03_Take]? = some Tryz.f179:=Tryz.func179
abbrev F.ref03_IsZero:Nat:=180
theorem fn.ref03_IsZero:P.funcs[F.ref03_IsZero]? = some Tryz.f180:=Tryz.func180
abbrev F.semiring_single:Nat:=181
theorem fn.semiring_single:P.funcs[F.semiring_single]? = some Tryz.f181:=Tryz.func181
abbrev F.automaton_inside_1:Nat:=184
theorem fn.automaton_inside_1:P.funcs[F.automaton_inside_1]? = some Tryz.f184:=Tryz.func184
abbrev F.semiring_Check:Nat:=185
theorem fn.semiring_Check:P.funcs[F.semiring_Check]? = some Tryz.f185:=Tryz.func185
abbrev F.slices_ContainsFunc_Weight_Weight:Nat:=186
theorem fn.slices_ContainsFunc_Weight_Weight:P.funcs[F.slices_ContainsFunc_Weight_Weight]? = some Tryz.f186:=Tryz.func186
abbrev F.automaton_weights_1:Nat:=187
theorem fn.automaton_weights_1:P.funcs[F.automaton_weights_1]? = some Tryz.f187:=Tryz.func187
abbrev F.rational_limbs_at:Nat:=188
theorem fn.rational_limbs_at:P.funcs[F.rational_limbs_at]? = some Tryz.f188:=Tryz.func188
abbrev F.rational_limbs_small:Nat:=189
theorem fn.rational_limbs_small:P.funcs[F.rational_limbs_small]? = some Tryz.f189:=Tryz.func189
abbrev F.rational_limbs_length:Nat:=190
theorem fn.rational_limbs_length:P.funcs[F.rational_limbs_length]? = some Tryz.f190:=Tryz.func190
abbrev F.rational_limbs_left:Nat:=191
theorem fn.rational_limbs_left:P.funcs[F.rational_limbs_left]? = some Tryz.f191:=Tryz.func191
abbrev F.rational_limbs_minus:Nat:=192
theorem fn.rational_limbs_minus:P.funcs[F.rational_limbs_minus]? = some Tryz.f192:=Tryz.func192
abbrev F.rational_limbs_right:Nat:=193
theorem fn.rational_limbs_right:P.funcs[F.rational_limbs_right]? = some Tryz.f193:=Tryz.func193
abbrev F.rational_Valid:Nat:=194
theorem fn.rational_Valid:P.funcs[F.rational_Valid]? = some Tryz.f194:=Tryz.func194
abbrev F.rational_limbs_plus:Nat:=195
theorem fn.rational_limbs_plus:P.funcs[F.rational_limbs_plus]? = some Tryz.f195:=Tryz.func195
abbrev F.slices_insertionSortCmpFunc_Arc:Nat:=196
theorem fn.slices_insertionSortCmpFunc_Arc:P.funcs[F.slices_insertionSortCmpFunc_Arc]? = some Tryz.f196:=Tryz.func196
abbrev F.cmp_isNaN_int:Nat:=198
theorem fn.cmp_isNaN_int:P.funcs[F.cmp_isNaN_int]? = some Tryz.f198:=Tryz.func198
abbrev F.semiring_rationals:Nat:=199
theorem fn.semiring_rationals:P.funcs[F.semiring_rationals]? = some Tryz.f199:=Tryz.func199
abbrev F.semiring_sameRat:Nat:=205
theorem fn.semiring_sameRat:P.funcs[F.semiring_sameRat]? = some Tryz.f205:=Tryz.func205
abbrev F.slices_EqualFunc_Monomial_Monomial_Monomial_Monomial:Nat:=206
theorem fn.slices_EqualFunc_Monomial_Monomial_Monomial_Monomial:P.funcs[F.slices_EqualFunc_Monomial_Monomial_Monomial_Monomial]? = some Tryz.f206:=Tryz.func206
abbrev F.slices_EqualFunc_Weight_Weight_Weight_Weight:Nat:=207
theorem fn.slices_EqualFunc_Weight_Weight_Weight_Weight:P.funcs[F.slices_EqualFunc_Weight_Weight_Weight_Weight]? = some Tryz.f207:=Tryz.func207
abbrev F.ref03_simple:Nat:=208
theorem fn.ref03_simple:P.funcs[F.ref03_simple]? = some Tryz.f208:=Tryz.func208
abbrev F.ref01_Sub:Nat:=209
theorem fn.ref01_Sub:P.funcs[F.ref01_Sub]? = some Tryz.f209:=Tryz.func209
abbrev F.ref01_Div:Nat:=210
theorem fn.ref01_Div:P.funcs[F.ref01_Div]? = some Tryz.f210:=Tryz.func210
abbrev F.ref01_times:Nat:=211
theorem fn.ref01_times:P.funcs[F.ref01_times]? = some Tryz.f211:=Tryz.func211
abbrev F.ref01_den:Nat:=212
theorem fn.ref01_den:P.funcs[F.ref01_den]? = some Tryz.f212:=Tryz.func212
abbrev F.ref01_plus:Nat:=213
theorem fn.ref01_plus:P.funcs[F.ref01_plus]? = some Tryz.f213:=Tryz.func213
abbrev F.ref01_compare:Nat:=214
theorem fn.ref01_compare:P.funcs[F.ref01_compare]? = some Tryz.f214:=Tryz.func214
abbrev F.ref01_minus:Nat:=215
theorem fn.ref01_minus:P.funcs[F.ref01_minus]? = some Tryz.f215:=Tryz.func215
abbrev F.ref01_divisor:Nat:=216
theorem fn.ref01_divisor:P.funcs[F.ref01_divisor]? = some Tryz.f216:=Tryz.func216
abbrev F.ref01_divide:Nat:=217
theorem fn.ref01_divide:P.funcs[F.ref01_divide]? = some Tryz.f217:=Tryz.func217
abbrev F.ref01_one:Nat:=218
theorem fn.ref01_one:P.funcs[F.ref01_one]? = some Tryz.f218:=Tryz.func218
abbrev F.ref01_trim:Nat:=219
theorem fn.ref01_trim:P.funcs[F.ref01_trim]? = some Tryz.f219:=Tryz.func219
abbrev F.slices_IndexFunc_Weight_Weight:Nat:=225
theorem fn.slices_IndexFunc_Weight_Weight:P.funcs[F.slices_IndexFunc_Weight_Weight]? = some Tryz.f225:=Tryz.func225
abbrev F.math_bits_LeadingZeros32:Nat:=226
theorem fn.math_bits_LeadingZeros32:P.funcs[F.math_bits_LeadingZeros32]? = some Tryz.f226:=Tryz.func226
abbrev F.rational_proper:Nat:=227
theorem fn.rational_proper:P.funcs[F.rational_proper]? = some Tryz.f227:=Tryz.func227
abbrev F.semiring_rationals_1:Nat:=229
theorem fn.semiring_rationals_1:P.funcs[F.semiring_rationals_1]? = some Tryz.f229:=Tryz.func229
abbrev F.semiring_rationals_2:Nat:=230
theorem fn.semiring_rationals_2:P.funcs[F.semiring_rationals_2]? = some Tryz.f230:=Tryz.func230
abbrev F.semiring_rationals_3:Nat:=231
theorem fn.semiring_rationals_3:P.funcs[F.semiring_rationals_3]? = some Tryz.f231:=Tryz.func231
abbrev F.semiring_rationals_4:Nat:=233
theorem fn.semiring_rationals_4:P.funcs[F.semiring_rationals_4]? = some Tryz.f233:=Tryz.func233
abbrev F.semiring_rationals_5:Nat:=234
theorem fn.semiring_rationals_5:P.funcs[F.semiring_rationals_5]? = some Tryz.f234:=Tryz.func234
abbrev F.semiring_quotient:Nat:=235
theorem fn.semiring_quotient:P.funcs[F.semiring_quotient]? = some Tryz.f235:=Tryz.func235
abbrev F.semiring_never:Nat:=236
theorem fn.semiring_never:P.funcs[F.semiring_never]? = some Tryz.f236:=Tryz.func236
abbrev F.semiring_rationals_6:Nat:=237
theorem fn.semiring_rationals_6:P.funcs[F.semiring_rationals_6]? = some Tryz.f237:=Tryz.func237
abbrev F.semiring_readNumber:Nat:=239
theorem fn.semiring_readNumber:P.funcs[F.semiring_readNumber]? = some Tryz.f239:=Tryz.func239
abbrev F.slices_Equal_uint32s_uint32:Nat:=284
theorem fn.slices_Equal_uint32s_uint32:P.funcs[F.slices_Equal_uint32s_uint32]? = some Tryz.f284:=Tryz.func284
abbrev F.ref01_limb:Nat:=285
theorem fn.ref01_limb:P.funcs[F.ref01_limb]? = some Tryz.f285:=Tryz.func285
abbrev F.ref01_sign:Nat:=286
theorem fn.ref01_sign:P.funcs[F.ref01_sign]? = some Tryz.f286:=Tryz.func286
abbrev F.math_bits_Len32:Nat:=288
theorem fn.math_bits_Len32:P.funcs[F.math_bits_Len32]? = some Tryz.f288:=Tryz.func288
abbrev T.i64:Nat:=2
theorem ce.i64:CellT P 2:=⟨by kernel_rfl,by kernel_rfl⟩
theorem it.i64:IntT P 2 .i64:=⟨by kernel_rfl⟩
theorem z.i64:ZeroT P 2 [.d (.sc (.int .i64 0))]:=⟨by kernel_rfl⟩
theorem sz.i64:(P.info? 2).map (·.size)=some 1:=by kernel_rfl
abbrev T.int:Nat:=3
theorem ce.int:CellT P 3:=⟨by kernel_rfl,by kernel_rfl⟩
theorem it.int:IntT P 3 .i64:=⟨by kernel_rfl⟩
theorem z.int:ZeroT P 3 [.d (.sc (.int .i64 0))]:=⟨by kernel_rfl⟩
theorem sz.int:(P.info? 3).map (·.size)=some 1:=by kernel_rfl
abbrev T.bool:Nat:=4
theorem ce.bool:CellT P 4:=⟨by kernel_rfl,by kernel_rfl⟩
theorem bt.bool:BoolT P 4:=⟨by kernel_rfl⟩
theorem z.bool:ZeroT P 4 [.d (.sc (.bool false))]:=⟨by kernel_rfl⟩
theorem sz.bool:(P.info? 4).map (·.size)=some 1:=by kernel_rfl
abbrev T.u8:Nat:=5
theorem ce.u8:CellT P 5:=⟨by kernel_rfl,by kernel_rfl⟩
theorem it.u8:IntT P 5 .u8:=⟨by kernel_rfl⟩
theorem z.u8:ZeroT P 5 [.d (.sc (.int .u8 0))]:=⟨by kernel_rfl⟩
theorem sz.u8:(P.info? 5).map (·.size)=some 1:=by kernel_rfl
abbrev T.ints:Nat:=22
theorem sl.ints:SliceT P 22 3 1 8:=⟨by kernel_rfl,by kernel_rfl,by decide⟩
theorem ce.ints:CellT P 22:=⟨by kernel_rfl,by kernel_rfl⟩
theorem z.ints:ZeroT P 22 [.mt]:=⟨by kernel_rfl⟩
theorem sz.ints:(P.info? 22).map (·.size)=some 1:=by kernel_rfl
abbrev T.Model:Nat:=24
theorem ag.Model:AggT P 24 5:=⟨by kernel_rfl,by kernel_rfl⟩
theorem cc.Model:ConcT P 24:=by unfold ConcT;kernel_rfl
theorem fd.Model_0:FieldT P 24 0 0:=⟨by kernel_rfl⟩
theorem fd.Model_1:FieldT P 24 1 1:=⟨by kernel_rfl⟩
theorem fd.Model_2:FieldT P 24 2 2:=⟨by kernel_rfl⟩
theorem fd.Model_3:FieldT P 24 3 3:=⟨by kernel_rfl⟩
theorem fd.Model_4:FieldT P 24 4 4:=⟨by kernel_rfl⟩
theorem z.Model:ZeroT P 24 [.d (.sc (.int .i64 0)),.mt,.mt,.mt,.d (.sc (.bool false))]:=⟨by kernel_rfl⟩
theorem pl.Model:PlacesT P 24 [(0,1),(1,1),(2,1),(3,1),(4,1)]:=⟨by kernel_rfl⟩
theorem sz.Model:(P.info? 24).map (·.size)=some 5:=by kernel_rfl
abbrev T.Ring:Nat:=26
theorem ag.Ring:AggT P 26 2:=⟨by kernel_rfl,by kernel_rfl⟩
theorem cc.Ring:ConcT P 26:=by unfold ConcT;kernel_rfl
theorem fd.Ring_0:FieldT P 26 0 0:=⟨by kernel_rfl⟩
theorem fd.Ring_1:FieldT P 26 1 1:=⟨by kernel_rfl⟩
theorem z.Ring:ZeroT P 26 [.d (.sc (.int .i64 0)),.mt]:=⟨by kernel_rfl⟩
theorem pl.Ring:PlacesT P 26 [(0,1),(1,1)]:=⟨by kernel_rfl⟩
theorem sz.Ring:(P.info? 26).map (·.size)=some 2:=by kernel_rfl
abbrev T.Weights:Nat:=27
theorem sl.Weights:SliceT P 27 43 8 128:=⟨by kernel_rfl,by kernel_rfl,by decide⟩
theorem ce.Weights:CellT P 27:=⟨by kernel_rfl,by kernel_rfl⟩
theorem z.Weights:ZeroT P 27 [.mt]:=⟨by kernel_rfl⟩
theorem sz.Weights:(P.info? 27).map (·.size)=some 1:=by kernel_rfl
abbrev T.Arcs:Nat:=28
theorem sl.Arcs:SliceT P 28 49 11 152:=⟨by kernel_rfl,by kernel_rfl,by decide⟩
theorem ce.Arcs:CellT P 28:=⟨by kernel_rfl,by kernel_rfl⟩
theorem z.Arcs:ZeroT P 28 [.mt]:=⟨by kernel_rfl⟩
theorem sz.Arcs:(P.info? 28).map (·.size)=some 1:=by kernel_rfl
abbrev T.Auto:Nat:=30
theorem ag.Auto:AggT P 30 7:=⟨by kernel_rfl,by kernel_rfl⟩
theorem cc.Auto:ConcT P 30:=by unfold ConcT;kernel_rfl
theorem fd.Auto_0:FieldT P 30 0 0:=⟨by kernel_rfl⟩
theorem fd.Auto_1:FieldT P 30 1 2:=⟨by kernel_rfl⟩
theorem fd.Auto_2:FieldT P 30 2 3:=⟨by kernel_rfl⟩
theorem fd.Auto_3:FieldT P 30 3 4:=⟨by kernel_rfl⟩
theorem fd.Auto_4:FieldT P 30 4 5:=⟨by kernel_rfl⟩
theorem fd.Auto_5:FieldT P 30 5 6:=⟨by kernel_rfl⟩
theorem z.Auto:ZeroT P 30 [.d (.sc (.int .i64 0)),.mt,.d (.sc (.int .i64 0)),.d (.sc (.int .i64 0)),.mt,.mt,.mt]:=⟨by kernel_rfl⟩
theorem pl.Auto:PlacesT P 30 [(0,2),(2,1),(3,1),(4,1),(5,1),(6,1)]:=⟨by kernel_rfl⟩
theorem sz.Auto:(P.info? 30).map (·.size)=some 7:=by kernel_rfl
abbrev T.u32s:Nat:=37
theorem sl.u32s:SliceT P 37 180 1 4:=⟨by kernel_rfl,by kernel_rfl,by decide⟩
theorem ce.u32s:CellT P 37:=⟨by kernel_rfl,by kernel_rfl⟩
theorem z.u32s:ZeroT P 37 [.mt]:=⟨by kernel_rfl⟩
theorem sz.u32s:(P.info? 37).map (·.size)=some 1:=by kernel_rfl
abbrev T.Rat:Nat:=39
theorem ag.Rat:AggT P 39 3:=⟨by kernel_rfl,by kernel_rfl⟩
theorem cc.Rat:ConcT P 39:=by unfold ConcT;kernel_rfl
theorem fd.Rat_0:FieldT P 39 0 0:=⟨by kernel_rfl⟩
theorem fd.Rat_1:FieldT P 39 1 1:=⟨by kernel_rfl⟩
theorem fd.Rat_2:FieldT P 39 2 2:=⟨by kernel_rfl⟩
theorem z.Rat:ZeroT P 39 [.d (.sc (.bool false)),.mt,.mt]:=⟨by kernel_rfl⟩
theorem pl.Rat:PlacesT P 39 [(0,1),(1,1),(2,1)]:=⟨by kernel_rfl⟩
theorem sz.Rat:(P.info? 39).map (·.size)=some 3:=by kernel_rfl
abbrev T.u64:Nat:=40
theorem ce.u64:CellT P 40:=⟨by kernel_rfl,by kernel_rfl⟩
theorem it.u64:IntT P 40 .u64:=⟨by kernel_rfl⟩
theorem z.u64:ZeroT P 40 [.d (.sc (.int .u64 0))]:=⟨by kernel_rfl⟩
theorem sz.u64:(P.info? 40).map (·.size)=some 1:=by kernel_rfl
abbrev T.Monomials:Nat:=41
theorem sl.Monomials:SliceT P 41 159 6 80:=⟨by kernel_rfl,by kernel_rfl,by decide⟩
theorem ce.Monomials:CellT P 41:=⟨by kernel_rfl,by kernel_rfl⟩
theorem z.Monomials:ZeroT P 41 [.mt]:=⟨by kernel_rfl⟩
theorem sz.Monomials:(P.info? 41).map (·.size)=some 1:=by kernel_rfl
abbrev T.Weight:Nat:=43
theorem ag.Weight:AggT P 43 8:=⟨by kernel_rfl,by kernel_rfl⟩
theorem cc.Weight:ConcT P 43:=by unfold ConcT;kernel_rfl
theorem fd.Weight_0:FieldT P 43 0 0:=⟨by kernel_rfl⟩
theorem fd.Weight_1:FieldT P 43 1 3:=⟨by kernel_rfl⟩
theorem fd.Weight_2:FieldT P 43 2 4:=⟨by kernel_rfl⟩
theorem fd.Weight_3:FieldT P 43 3 5:=⟨by kernel_rfl⟩
theorem fd.Weight_4:FieldT P 43 4 6:=⟨by kernel_rfl⟩
theorem fd.Weight_5:FieldT P 43 5 7:=⟨by kernel_rfl⟩
theorem z.Weight:ZeroT P 43 [.d (.sc (.bool false)),.mt,.mt,.d (.sc (.int .i64 0)),.d (.sc (.bool false)),.d (.sc (.int .u64 0)),.mt,.mt]:=⟨by kernel_rfl⟩
theorem pl.Weight:PlacesT P 43 [(0,3),(3,1),(4,1),(5,1),(6,1),(7,1)]:=⟨by kernel_rfl⟩
theorem sz.Weight:(P.info? 43).map (·.size)=some 8:=by kernel_rfl
abbrev T.Arc:Nat:=49
theorem ag.Arc:AggT P 49 11:=⟨by kernel_rfl,by kernel_rfl⟩
theorem cc.Arc:ConcT P 49:=by unfold ConcT;kernel_rfl
theorem fd.Arc_0:FieldT P 49 0 0:=⟨by kernel_rfl⟩
theorem fd.Arc_1:FieldT P 49 1 1:=⟨by kernel_rfl⟩
theorem fd.Arc_2:FieldT P 49 2 2:=⟨by kernel_rfl⟩
theorem fd.Arc_3:FieldT P 49 3 3:=⟨by kernel_rfl⟩
theorem z.Arc:ZeroT P 49 [.d (.sc (.int .i64 0)),.d (.sc (.int .i64 0)),.d (.sc (.int .i64 0)),.d (.sc (.bool false)),.mt,.mt,.d (.sc (.int .i64 0)),.d (.sc (.bool false)),.d (.sc (.int .u64 0)),.mt,.mt]:=⟨by kernel_rfl⟩
theorem pl.Arc:PlacesT P 49 [(0,1),(1,1),(2,1),(3,8)]:=⟨by kernel_rfl⟩
theorem sz.Arc:(P.info? 49).map (·.size)=some 11:=by kernel_rfl
abbrev T.intss:Nat:=53
theorem sl.intss:SliceT P 53 22 1 24:=⟨by kernel_rfl,by kernel_rfl,by decide⟩
theorem ce.intss:CellT P 53:=⟨by kernel_rfl,by kernel_rfl⟩
theorem z.intss:ZeroT P 53 [.mt]:=⟨by kernel_rfl⟩
theorem sz.intss:(P.info? 53).map (·.size)=some 1:=by kernel_rfl
abbrev T.Rats:Nat:=60
theorem sl.Rats:SliceT P 60 39 3 56:=⟨by kernel_rfl,by kernel_rfl,by decide⟩
theorem ce.Rats:CellT P 60:=⟨by kernel_rfl,by kernel_rfl⟩
theorem z.Rats:ZeroT P 60 [.mt]:=⟨by kernel_rfl⟩
theorem sz.Rats:(P.info? 60).map (·.size)=some 1:=by kernel_rfl
abbrev T.Ratsss:Nat:=61
theorem sl.Ratsss:SliceT P 61 99 1 24:=⟨by kernel_rfl,by kernel_rfl,by decide⟩
theorem ce.Ratsss:CellT P 61:=⟨by kernel_rfl,by kernel_rfl⟩
theorem z.Ratsss:ZeroT P 61 [.mt]:=⟨by kernel_rfl⟩
theorem sz.Ratsss:(P.info? 61).map (·.size)=some 1:=by kernel_rfl
abbrev T.Machine:Nat:=63
theorem ag.Machine:AggT P 63 3:=⟨by kernel_rfl,by kernel_rfl⟩
theorem cc.Machine:ConcT P 63:=by unfold ConcT;kernel_rfl
theorem fd.Machine_0:FieldT P 63 0 0:=⟨by kernel_rfl⟩
theorem fd.Machine_1:FieldT P 63 1 1:=⟨by kernel_rfl⟩
theorem fd.Machine_2:FieldT P 63 2 2:=⟨by kernel_rfl⟩
theorem z.Machine:ZeroT P 63 [.mt,.mt,.mt]:=⟨by kernel_rfl⟩
theorem pl.Machine:PlacesT P 63 [(0,1),(1,1),(2,1)]:=⟨by kernel_rfl⟩
theorem sz.Machine:(P.info? 63).map (·.size)=some 3:=by kernel_rfl
abbrev T.prexs:Nat:=65
theorem sl.prexs:SliceT P 65 75 3 72:=⟨by kernel_rfl,by kernel_rfl,by decide⟩
theorem ce.prexs:CellT P 65:=⟨by kernel_rfl,by kernel_rfl⟩
theorem z.prexs:ZeroT P 65 [.mt]:=⟨by kernel_rfl⟩
theorem sz.prexs:(P.info? 65).map (·.size)=some 1:=by kernel_rfl
abbrev T.Row:Nat:=73
theorem ag.Row:AggT P 73 2:=⟨by kernel_rfl,by kernel_rfl⟩
theorem cc.Row:ConcT P 73:=by unfold ConcT;kernel_rfl
theorem fd.Row_0:FieldT P 73 0 0:=⟨by kernel_rfl⟩
theorem fd.Row_1:FieldT P 73 1 1:=⟨by kernel_rfl⟩
theorem z.Row:ZeroT P 73 [.mt,.mt]:=⟨by kernel_rfl⟩
theorem pl.Row:PlacesT P 73 [(0,1),(1,1)]:=⟨by kernel_rfl⟩
theorem sz.Row:(P.info? 73).map (·.size)=some 2:=by kernel_rfl
abbrev T.prex:Nat:=75
theorem ag.prex:AggT P 75 3:=⟨by kernel_rfl,by kernel_rfl⟩
theorem cc.prex:ConcT P 75:=by unfold ConcT;kernel_rfl
theorem fd.prex_0:FieldT P 75 0 0:=⟨by kernel_rfl⟩
theorem fd.prex_1:FieldT P 75 1 2:=⟨by kernel_rfl⟩
theorem z.prex:ZeroT P 75 [.mt,.mt,.mt]:=⟨by kernel_rfl⟩
theorem pl.prex:PlacesT P 75 [(0,2),(2,1)]:=⟨by kernel_rfl⟩
theorem sz.prex:(P.info? 75).map (·.size)=some 3:=by kernel_rfl
abbrev T.Ratss:Nat:=99
theorem sl.Ratss:SliceT P 99 60 1 24:=⟨by kernel_rfl,by kernel_rfl,by decide⟩
theorem ce.Ratss:CellT P 99:=⟨by kernel_rfl,by kernel_rfl⟩
theorem z.Ratss:ZeroT P 99 [.mt]:=⟨by kernel_rfl⟩
theorem sz.Ratss:(P.info? 99).map (·.size)=some 1:=by kernel_rfl
abbrev T.Space:Nat:=105
theorem ag.Space:AggT P 105 3:=⟨by kernel_rfl,by kernel_rfl⟩
theorem cc.Space:ConcT P 105:=by unfold ConcT;kernel_rfl
theorem fd.Space_0:FieldT P 105 0 0:=⟨by kernel_rfl⟩
theorem fd.Space_1:FieldT P 105 1 1:=⟨by kernel_rfl⟩
theorem fd.Space_2:FieldT P 105 2 2:=⟨by kernel_rfl⟩
theorem z.Space:ZeroT P 105 [.mt,.mt,.mt]:=⟨by kernel_rfl⟩
theorem pl.Space:PlacesT P 105 [(0,1),(1,1),(2,1)]:=⟨by kernel_rfl⟩
theorem sz.Space:(P.info? 105).map (·.size)=some 3:=by kernel_rfl
abbrev T.Rows:Nat:=107
theorem sl.Rows:SliceT P 107 73 2 48:=⟨by kernel_rfl,by kernel_rfl,by decide⟩
theorem ce.Rows:CellT P 107:=⟨by kernel_rfl,by kernel_rfl⟩
theorem z.Rows:ZeroT P 107 [.mt]:=⟨by kernel_rfl⟩
theorem sz.Rows:(P.info? 107).map (·.size)=some 1:=by kernel_rfl
abbrev T.Autos:Nat:=122
theorem sl.Autos:SliceT P 122 30 7 120:=⟨by kernel_rfl,by kernel_rfl,by decide⟩
theorem ce.Autos:CellT P 122:=⟨by kernel_rfl,by kernel_rfl⟩
theorem z.Autos:ZeroT P 122 [.mt]:=⟨by kernel_rfl⟩
theorem sz.Autos:(P.info? 122).map (·.size)=some 1:=by kernel_rfl
abbrev T.limbs:Nat:=130
theorem sl.limbs:SliceT P 130 180 1 4:=⟨by kernel_rfl,by kernel_rfl,by decide⟩
theorem ce.limbs:CellT P 130:=⟨by kernel_rfl,by kernel_rfl⟩
theorem z.limbs:ZeroT P 130 [.mt]:=⟨by kernel_rfl⟩
theorem sz.limbs:(P.info? 130).map (·.size)=some 1:=by kernel_rfl
abbrev T.fraction:Nat:=134
theorem ag.fraction:AggT P 134 3:=⟨by kernel_rfl,by kernel_rfl⟩
theorem cc.fraction:ConcT P 134:=by unfold ConcT;kernel_rfl
theorem fd.fraction_0:FieldT P 134 0 0:=⟨by kernel_rfl⟩
theorem fd.fraction_1:FieldT P 134 1 1:=⟨by kernel_rfl⟩
theorem fd.fraction_2:FieldT P 134 2 2:=⟨by kernel_rfl⟩
theorem z.fraction:ZeroT P 134 [.d (.sc (.bool false)),.mt,.mt]:=⟨by kernel_rfl⟩
theorem pl.fraction:PlacesT P 134 [(0,1),(1,1),(2,1)]:=⟨by kernel_rfl⟩
theorem sz.fraction:(P.info? 134).map (·.size)=some 3:=by kernel_rfl
abbrev T.u32:Nat:=180
theorem ce.u32:CellT P 180:=⟨by kernel_rfl,by kernel_rfl⟩
theorem it.u32:IntT P 180 .u32:=⟨by kernel_rfl⟩
theorem z.u32:ZeroT P 180 [.d (.sc (.int .u32 0))]:=⟨by kernel_rfl⟩
theorem sz.u32:(P.info? 180).map (·.size)=some 1:=by kernel_rfl
abbrev T.uint:Nat:=181
theorem ce.uint:CellT P 181:=⟨by kernel_rfl,by kernel_rfl⟩
theorem it.uint:IntT P 181 .u64:=⟨by kernel_rfl⟩
theorem z.uint:ZeroT P 181 [.d (.sc (.int .u64 0))]:=⟨by kernel_rfl⟩
theorem sz.uint:(P.info? 181).map (·.size)=some 1:=by kernel_rfl
abbrev T.algebra:Nat:=200
theorem ag.algebra:AggT P 200 9:=⟨by kernel_rfl,by kernel_rfl⟩
theorem cc.algebra:ConcT P 200:=by unfold ConcT;kernel_rfl
theorem fd.algebra_0:FieldT P 200 0 0:=⟨by kernel_rfl⟩
theorem fc.algebra_0:FieldC P 200 0 0:=⟨by kernel_rfl⟩
theorem fd.algebra_1:FieldT P 200 1 1:=⟨by kernel_rfl⟩
theorem fc.algebra_1:FieldC P 200 1 1:=⟨by kernel_rfl⟩
theorem fd.algebra_3:FieldT P 200 3 3:=⟨by kernel_rfl⟩
theorem fc.algebra_3:FieldC P 200 3 3:=⟨by kernel_rfl⟩
theorem z.algebra:ZeroT P 200 [.d (.sc .nilFunc),.d (.sc .nilFunc),.d (.sc .nilFunc),.d (.sc .nilFunc),.d (.sc .nilFunc),.d (.sc .nilFunc),.d (.sc .nilFunc),.d (.sc .nilFunc),.d (.sc .nilFunc)]:=⟨by kernel_rfl⟩
theorem pl.algebra:PlacesT P 200 [(0,1),(1,1),(2,1),(3,1),(4,1),(5,1),(6,1),(7,1),(8,1)]:=⟨by kernel_rfl⟩
theorem sz.algebra:(P.info? 200).map (·.size)=some 9:=by kernel_rfl
abbrev T.rows:Nat:=170
theorem sl.rows:SliceT P 170 174 2 48:=⟨by kernel_rfl,by kernel_rfl,by decide⟩
theorem ce.rows:CellT P 170:=⟨by kernel_rfl,by kernel_rfl⟩
theorem z.rows:ZeroT P 170 [.mt]:=⟨by kernel_rfl⟩
theorem sz.rows:(P.info? 170).map (·.size)=some 1:=by kernel_rfl
abbrev T.row:Nat:=174
theorem ag.row:AggT P 174 2:=⟨by kernel_rfl,by kernel_rfl⟩
theorem cc.row:ConcT P 174:=by unfold ConcT;kernel_rfl
theorem z.row:ZeroT P 174 [.mt,.mt]:=⟨by kernel_rfl⟩
theorem pl.row:PlacesT P 174 [(0,1),(1,1)]:=⟨by kernel_rfl⟩
theorem sz.row:(P.info? 174).map (·.size)=some 2:=by kernel_rfl
abbrev T.fn67:Nat:=67
theorem ce.fn67:CellT P 67:=⟨by kernel_rfl,by kernel_rfl⟩
theorem z.fn67:ZeroT P 67 [.d (.sc .nilFunc)]:=⟨by kernel_rfl⟩
theorem sz.fn67:(P.info? 67).map (·.size)=some 1:=by kernel_rfl
abbrev T.fn98:Nat:=98
theorem ce.fn98:CellT P 98:=⟨by kernel_rfl,by kernel_rfl⟩
theorem z.fn98:ZeroT P 98 [.d (.sc .nilFunc)]:=⟨by kernel_rfl⟩
theorem sz.fn98:(P.info? 98).map (·.size)=some 1:=by kernel_rfl
abbrev T.fnView:Nat:=67
theorem ce.fnView:CellT P 67:=ce.fn67
theorem z.fnView:ZeroT P 67 [.d (.sc .nilFunc)]:=z.fn67
theorem sz.fnView:(P.info? 67).map (·.size)=some 1:=sz.fn67
abbrev T.fnCheck:Nat:=98
theorem ce.fnCheck:CellT P 98:=ce.fn98
theorem z.fnCheck:ZeroT P 98 [.d (.sc .nilFunc)]:=z.fn98
theorem sz.fnCheck:(P.info? 98).map (·.size)=some 1:=sz.fn98
abbrev T.fnsCheck:Nat:=126
theorem sl.fnsCheck:SliceT P 126 98 1 8:=⟨by kernel_rfl,by kernel_rfl,by decide⟩
theorem ce.fnsCheck:CellT P 126:=⟨by kernel_rfl,by kernel_rfl⟩
theorem z.fnsCheck:ZeroT P 126 [.mt]:=⟨by kernel_rfl⟩
theorem sz.fnsCheck:(P.info? 126).map (·.size)=some 1:=by kernel_rfl
abbrev T.pSpace:Nat:=66
theorem ce.pSpace:CellT P 66:=⟨by kernel_rfl,by kernel_rfl⟩
theorem cc.pSpace:ConcT P 66:=by unfold ConcT;kernel_rfl
theorem z.pSpace:ZeroT P 66 [.d (.sc (.pointer none))]:=⟨by kernel_rfl⟩
theorem sz.pSpace:(P.info? 66).map (·.size)=some 1:=by kernel_rfl
theorem st.str:P.underlying 9=some .string:=by kernel_rfl
end Go.Proofs.YtmcoihfkniccdaaGreatDoor
