/-
  Names for the functions of this seat, and facts on its types (printed by hdr.py).
-/
import Derived.Test.YtfbblpngcmjooaaGreatDoorChecked
import Derived.KernelRfl
import Derived.Test.YtfbblpngcmjooaaGreatDoorKAlg25
import Derived.Test.YtfbblpngcmjooaaGreatDoorKAlg37
set_option linter.unusedVariables false
set_option linter.unusedSimpArgs false
namespace Go.Proofs.YtfbblpngcmjooaaGreatDoor
open Go Go.AL
noncomputable abbrev P:Program:=Tryz.prog
theorem order_free:P.follows .mixedOrders=true:=by kernel_rfl
abbrev F.law24_MinimalBlockIsRegular:Nat:=4
theorem fn.law24_MinimalBlockIsRegular:P.funcs[F.law24_MinimalBlockIsRegular]? = some Tryz.f4:=Tryz.func4
abbrev F.law24_plain:Nat:=5
theorem fn.law24_plain:P.funcs[F.law24_plain]? = some Tryz.f5:=Tryz.func5
abbrev F.minimal_Prefixes:Nat:=6
theorem fn.minimal_Prefixes:P.funcs[F.minimal_Prefixes]? = some Tryz.f6:=Tryz.func6
abbrev F.minimal_Suffixes:Nat:=7
theorem fn.minimal_Suffixes:P.funcs[F.minimal_Suffixes]? = some Tryz.f7:=Tryz.func7
abbrev F.ref05_Compare:Nat:=9
theorem fn.ref05_Compare:P.funcs[F.ref05_Compare]? = some Tryz.f9:=Tryz.func9
abbrev F.law24_awake:Nat:=11
theorem fn.law24_awake:P.funcs[F.law24_awake]? = some Tryz.f11:=Tryz.func11
abbrev F.ref08_Weight:Nat:=12
theorem fn.ref08_Weight:P.funcs[F.ref08_Weight]? = some Tryz.f12:=Tryz.func12
abbrev F.ref05_Join:Nat:=13
theorem fn.ref05_Join:P.funcs[F.ref05_Join]? = some Tryz.f13:=Tryz.func13
abbrev F.ref22_Valid:Nat:=14
theorem fn.ref22_Valid:P.funcs[F.ref22_Valid]? = some Tryz.f14:=Tryz.func14
abbrev F.weightedmade_Model_Auto:Nat:=15
theorem fn.weightedmade_Model_Auto:P.funcs[F.weightedmade_Model_Auto]? = some Tryz.f15:=Tryz.func15
abbrev F.law24_ring:Nat:=16
theorem fn.law24_ring:P.funcs[F.law24_ring]? = some Tryz.f16:=Tryz.func16
abbrev F.equal_Check:Nat:=17
theorem fn.equal_Check:P.funcs[F.equal_Check]? = some Tryz.f17:=Tryz.func17
abbrev F.minimal_prefixes:Nat:=18
theorem fn.minimal_prefixes:P.funcs[F.minimal_prefixes]? = some Tryz.f18:=Tryz.func18
abbrev F.rows_Of:Nat:=19
theorem fn.rows_Of:P.funcs[F.rows_Of]? = some Tryz.f19:=Tryz.func19
abbrev F.minimal_words:Nat:=20
theorem fn.minimal_words:P.funcs[F.minimal_words]? = some Tryz.f20:=Tryz.func20
abbrev F.rows_Machine_Turned:Nat:=21
theorem fn.rows_Machine_Turned:P.funcs[F.rows_Machine_Turned]? = some Tryz.f21:=Tryz.func21
abbrev F.rows_Machine_Views:Nat:=22
theorem fn.rows_Machine_Views:P.funcs[F.rows_Machine_Views]? = some Tryz.f22:=Tryz.func22
abbrev F.span_Space_Add:Nat:=23
theorem fn.span_Space_Add:P.funcs[F.span_Space_Add]? = some Tryz.f23:=Tryz.func23
abbrev F.rows_Machine_Step:Nat:=24
theorem fn.rows_Machine_Step:P.funcs[F.rows_Machine_Step]? = some Tryz.f24:=Tryz.func24
abbrev F.law24_q:Nat:=31
theorem fn.law24_q:P.funcs[F.law24_q]? = some Tryz.f31:=Tryz.func31
abbrev F.minimal_Minimal:Nat:=32
theorem fn.minimal_Minimal:P.funcs[F.minimal_Minimal]? = some Tryz.f32:=Tryz.func32
abbrev F.ref01_Same:Nat:=33
theorem fn.ref01_Same:P.funcs[F.ref01_Same]? = some Tryz.f33:=Tryz.func33
abbrev F.ref01_Of:Nat:=34
theorem fn.ref01_Of:P.funcs[F.ref01_Of]? = some Tryz.f34:=Tryz.func34
abbrev F.ref08_Forward:Nat:=35
theorem fn.ref08_Forward:P.funcs[F.ref08_Forward]? = some Tryz.f35:=Tryz.func35
abbrev F.ref08_Dot:Nat:=36
theorem fn.ref08_Dot:P.funcs[F.ref08_Dot]? = some Tryz.f36:=Tryz.func36
abbrev F.ref22_sized:Nat:=37
theorem fn.ref22_sized:P.funcs[F.ref22_sized]? = some Tryz.f37:=Tryz.func37
abbrev F.ref22_rows:Nat:=38
theorem fn.ref22_rows:P.funcs[F.ref22_rows]? = some Tryz.f38:=Tryz.func38
abbrev F.weightedmade_Mod:Nat:=39
theorem fn.weightedmade_Mod:P.funcs[F.weightedmade_Mod]? = some Tryz.f39:=Tryz.func39
abbrev F.weightedmade_end:Nat:=40
theorem fn.weightedmade_end:P.funcs[F.weightedmade_end]? = some Tryz.f40:=Tryz.func40
abbrev F.weightedmade_Weight:Nat:=41
theorem fn.weightedmade_Weight:P.funcs[F.weightedmade_Weight]? = some Tryz.f41:=Tryz.func41
abbrev F.equal_Check_1:Nat:=42
theorem fn.equal_Check_1:P.funcs[F.equal_Check_1]? = some Tryz.f42:=Tryz.func42
abbrev F.equal_is:Nat:=43
theorem fn.equal_is:P.funcs[F.equal_is]? = some Tryz.f43:=Tryz.func43
abbrev F.automaton_Valid:Nat:=44
theorem fn.automaton_Valid:P.funcs[F.automaton_Valid]? = some Tryz.f44:=Tryz.func44
abbrev F.equal_Check_2:Nat:=45
theorem fn.equal_Check_2:P.funcs[F.equal_Check_2]? = some Tryz.f45:=Tryz.func45
abbrev F.equal_Check_3:Nat:=46
theorem fn.equal_Check_3:P.funcs[F.equal_Check_3]? = some Tryz.f46:=Tryz.func46
abbrev F.weigh_Ready:Nat:=47
theorem fn.weigh_Ready:P.funcs[F.weigh_Ready]? = some Tryz.f47:=Tryz.func47
abbrev F.equal_Check_4:Nat:=48
theorem fn.equal_Check_4:P.funcs[F.equal_Check_4]? = some Tryz.f48:=Tryz.func48
abbrev F.rows_Machine_Explore:Nat:=49
theorem fn.rows_Machine_Explore:P.funcs[F.rows_Machine_Explore]? = some Tryz.f49:=Tryz.func49
abbrev F.minimal_prefixes_1:Nat:=50
theorem fn.minimal_prefixes_1:P.funcs[F.minimal_prefixes_1]? = some Tryz.f50:=Tryz.func50
abbrev F.rows_numbers:Nat:=51
theorem fn.rows_numbers:P.funcs[F.rows_numbers]? = some Tryz.f51:=Tryz.func51
abbrev F.automaton_Tidy:Nat:=52
theorem fn.automaton_Tidy:P.funcs[F.automaton_Tidy]? = some Tryz.f52:=Tryz.func52
abbrev F.slices_Clone_ints_int:Nat:=53
theorem fn.slices_Clone_ints_int:P.funcs[F.slices_Clone_ints_int]? = some Tryz.f53:=Tryz.func53
abbrev F.rows_Machine_Basis:Nat:=54
theorem fn.rows_Machine_Basis:P.funcs[F.rows_Machine_Basis]? = some Tryz.f54:=Tryz.func54
abbrev F.rows_Machine_Views_1:Nat:=55
theorem fn.rows_Machine_Views_1:P.funcs[F.rows_Machine_Views_1]? = some Tryz.f55:=Tryz.func55
abbrev F.span_Dot:Nat:=56
theorem fn.span_Dot:P.funcs[F.span_Dot]? = some Tryz.f56:=Tryz.func56
abbrev F.span_Space_reduce:Nat:=57
theorem fn.span_Space_reduce:P.funcs[F.span_Space_reduce]? = some Tryz.f57:=Tryz.func57
abbrev F.span_first:Nat:=58
theorem fn.span_first:P.funcs[F.span_first]? = some Tryz.f58:=Tryz.func58
abbrev F.rational_Make:Nat:=59
theorem fn.rational_Make:P.funcs[F.rational_Make]? = some Tryz.f59:=Tryz.func59
abbrev F.rational_Neg:Nat:=60
theorem fn.rational_Neg:P.funcs[F.rational_Neg]? = some Tryz.f60:=Tryz.func60
abbrev F.rational_Sign:Nat:=61
theorem fn.rational_Sign:P.funcs[F.rational_Sign]? = some Tryz.f61:=Tryz.func61
abbrev F.rational_Add:Nat:=62
theorem fn.rational_Add:P.funcs[F.rational_Add]? = some Tryz.f62:=Tryz.func62
abbrev F.rational_Mul:Nat:=63
theorem fn.rational_Mul:P.funcs[F.rational_Mul]? = some Tryz.f63:=Tryz.func63
abbrev F.ref06_Valid:Nat:=64
theorem fn.ref06_Valid:P.funcs[F.ref06_Valid]? = some Tryz.f64:=Tryz.func64
abbrev F.ref08_Plain:Nat:=65
theorem fn.ref08_Plain:P.funcs[F.ref08_Plain]? = some Tryz.f65:=Tryz.func65
abbrev F.ref06_Form:Nat:=67
theorem fn.ref06_Form:P.funcs[F.ref06_Form]? = some Tryz.f67:=Tryz.func67
abbrev F.ref22_reduce:Nat:=71
theorem fn.ref22_reduce:P.funcs[F.ref22_reduce]? = some Tryz.f71:=Tryz.func71
abbrev F.ref22_lead:Nat:=72
theorem fn.ref22_lead:P.funcs[F.ref22_lead]? = some Tryz.f72:=Tryz.func72
abbrev F.span_Space_Find:Nat:=73
theorem fn.span_Space_Find:P.funcs[F.span_Space_Find]? = some Tryz.f73:=Tryz.func73
abbrev F.automaton_Normal:Nat:=74
theorem fn.automaton_Normal:P.funcs[F.automaton_Normal]? = some Tryz.f74:=Tryz.func74
abbrev F.ref01_same:Nat:=75
theorem fn.ref01_same:P.funcs[F.ref01_same]? = some Tryz.f75:=Tryz.func75
abbrev F.ref01_Make:Nat:=76
theorem fn.ref01_Make:P.funcs[F.ref01_Make]? = some Tryz.f76:=Tryz.func76
abbrev F.ref08_check:Nat:=77
theorem fn.ref08_check:P.funcs[F.ref08_check]? = some Tryz.f77:=Tryz.func77
abbrev F.ref08_step:Nat:=78
theorem fn.ref08_step:P.funcs[F.ref08_step]? = some Tryz.f78:=Tryz.func78
abbrev F.ref03_Zero:Nat:=79
theorem fn.ref03_Zero:P.funcs[F.ref03_Zero]? = some Tryz.f79:=Tryz.func79
abbrev F.ref03_Plus:Nat:=80
theorem fn.ref03_Plus:P.funcs[F.ref03_Plus]? = some Tryz.f80:=Tryz.func80
abbrev F.ref03_Times:Nat:=81
theorem fn.ref03_Times:P.funcs[F.ref03_Times]? = some Tryz.f81:=Tryz.func81
abbrev F.ref03_One:Nat:=82
theorem fn.ref03_One:P.funcs[F.ref03_One]? = some Tryz.f82:=Tryz.func82
abbrev F.weightedmade_Number:Nat:=83
theorem fn.weightedmade_Number:P.funcs[F.weightedmade_Number]? = some Tryz.f83:=Tryz.func83
abbrev F.semiring_Valid:Nat:=88
theorem fn.semiring_Valid:P.funcs[F.semiring_Valid]? = some Tryz.f88:=Tryz.func88
abbrev F.slices_ContainsFunc_Arc_Arc:Nat:=89
theorem fn.slices_ContainsFunc_Arc_Arc:P.funcs[F.slices_ContainsFunc_Arc_Arc]? = some Tryz.f89:=Tryz.func89
abbrev F.automaton_Valid_1:Nat:=90
theorem fn.automaton_Valid_1:P.funcs[F.automaton_Valid_1]? = some Tryz.f90:=Tryz.func90
abbrev F.automaton_inside:Nat:=91
theorem fn.automaton_inside:P.funcs[F.automaton_inside]? = some Tryz.f91:=Tryz.func91
abbrev F.automaton_weights:Nat:=92
theorem fn.automaton_weights:P.funcs[F.automaton_weights]? = some Tryz.f92:=Tryz.func92
abbrev F.weigh_Ready_1:Nat:=93
theorem fn.weigh_Ready_1:P.funcs[F.weigh_Ready_1]? = some Tryz.f93:=Tryz.func93
abbrev F.words_Valid:Nat:=94
theorem fn.words_Valid:P.funcs[F.words_Valid]? = some Tryz.f94:=Tryz.func94
abbrev F.slices_Clone_Arc_Arc:Nat:=95
theorem fn.slices_Clone_Arc_Arc:P.funcs[F.slices_Clone_Arc_Arc]? = some Tryz.f95:=Tryz.func95
abbrev F.slices_SortStableFunc_Arc_Arc:Nat:=96
theorem fn.slices_SortStableFunc_Arc_Arc:P.funcs[F.slices_SortStableFunc_Arc_Arc]? = some Tryz.f96:=Tryz.func96
abbrev F.automaton_order:Nat:=97
theorem fn.automaton_order:P.funcs[F.automaton_order]? = some Tryz.f97:=Tryz.func97
abbrev F.semiring_Plus:Nat:=98
theorem fn.semiring_Plus:P.funcs[F.semiring_Plus]? = some Tryz.f98:=Tryz.func98
abbrev F.semiring_Zero:Nat:=99
theorem fn.semiring_Zero:P.funcs[F.semiring_Zero]? = some Tryz.f99:=Tryz.func99
abbrev F.slices_DeleteFunc_Arc_Arc:Nat:=100
theorem fn.slices_DeleteFunc_Arc_Arc:P.funcs[F.slices_DeleteFunc_Arc_Arc]? = some Tryz.f100:=Tryz.func100
abbrev F.automaton_Tidy_1:Nat:=101
theorem fn.automaton_Tidy_1:P.funcs[F.automaton_Tidy_1]? = some Tryz.f101:=Tryz.func101
abbrev F.automaton_IsZero:Nat:=102
theorem fn.automaton_IsZero:P.funcs[F.automaton_IsZero]? = some Tryz.f102:=Tryz.func102
abbrev F.rows_Machine_Basis_1:Nat:=103
theorem fn.rows_Machine_Basis_1:P.funcs[F.rows_Machine_Basis_1]? = some Tryz.f103:=Tryz.func103
abbrev F.rational_Div:Nat:=104
theorem fn.rational_Div:P.funcs[F.rational_Div]? = some Tryz.f104:=Tryz.func104
abbrev F.rational_Sub:Nat:=105
theorem fn.rational_Sub:P.funcs[F.rational_Sub]? = some Tryz.f105:=Tryz.func105
abbrev F.rational_whole:Nat:=106
theorem fn.rational_whole:P.funcs[F.rational_whole]? = some Tryz.f106:=Tryz.func106
abbrev F.rational_fraction_rat:Nat:=107
theorem fn.rational_fraction_rat:P.funcs[F.rational_fraction_rat]? = some Tryz.f107:=Tryz.func107
abbrev F.rational_of:Nat:=108
theorem fn.rational_of:P.funcs[F.rational_of]? = some Tryz.f108:=Tryz.func108
abbrev F.rational_fraction_negative:Nat:=109
theorem fn.rational_fraction_negative:P.funcs[F.rational_fraction_negative]? = some Tryz.f109:=Tryz.func109
abbrev F.rational_fraction_plus:Nat:=110
theorem fn.rational_fraction_plus:P.funcs[F.rational_fraction_plus]? = some Tryz.f110:=Tryz.func110
abbrev F.rational_limbs_times:Nat:=111
theorem fn.rational_limbs_times:P.funcs[F.rational_limbs_times]? = some Tryz.f111:=Tryz.func111
abbrev F.ref03_Valid:Nat:=112
theorem fn.ref03_Valid:P.funcs[F.ref03_Valid]? = some Tryz.f112:=Tryz.func112
abbrev F.ref05_Alphabet:Nat:=113
theorem fn.ref05_Alphabet:P.funcs[F.ref05_Alphabet]? = some Tryz.f113:=Tryz.func113
abbrev F.ref06_In:Nat:=114
theorem fn.ref06_In:P.funcs[F.ref06_In]? = some Tryz.f114:=Tryz.func114
abbrev F.ref06_Weights:Nat:=115
theorem fn.ref06_Weights:P.funcs[F.ref06_Weights]? = some Tryz.f115:=Tryz.func115
abbrev F.ref03_Check:Nat:=116
theorem fn.ref03_Check:P.funcs[F.ref03_Check]? = some Tryz.f116:=Tryz.func116
abbrev F.ref06_Arcs:Nat:=117
theorem fn.ref06_Arcs:P.funcs[F.ref06_Arcs]? = some Tryz.f117:=Tryz.func117
abbrev F.ref06_ring:Nat:=120
theorem fn.ref06_ring:P.funcs[F.ref06_ring]? = some Tryz.f120:=Tryz.func120
abbrev F.ref06_take:Nat:=121
theorem fn.ref06_take:P.funcs[F.ref06_take]? = some Tryz.f121:=Tryz.func121
abbrev F.ref01_Add:Nat:=124
theorem fn.ref01_Add:P.funcs[F.ref01_Add]? = some Tryz.f124:=Tryz.func124
abbrev F.ref01_Mul:Nat:=125
theorem fn.ref01_Mul:P.funcs[F.ref01_Mul]? = some Tryz.f125:=Tryz.func125
abbrev F.ref22_take:Nat:=126
theorem fn.ref22_take:P.funcs[F.ref22_take]? = some Tryz.f126:=Tryz.func126
abbrev F.ref01_Quo:Nat:=127
theorem fn.ref01_Quo:P.funcs[F.ref01_Quo]? = some Tryz.f127:=Tryz.func127
abbrev F.ref22_less:Nat:=128
theorem fn.ref22_less:P.funcs[F.ref22_less]? = some Tryz.f128:=Tryz.func128
abbrev F.ref01_Sign:Nat:=129
theorem fn.ref01_Sign:P.funcs[F.ref01_Sign]? = some Tryz.f129:=Tryz.func129
abbrev F.automaton_ring:Nat:=130
theorem fn.automaton_ring:P.funcs[F.automaton_ring]? = some Tryz.f130:=Tryz.func130
abbrev F.automaton_Copy:Nat:=131
theorem fn.automaton_Copy:P.funcs[F.automaton_Copy]? = some Tryz.f131:=Tryz.func131
abbrev F.ref01_over:Nat:=132
theorem fn.ref01_over:P.funcs[F.ref01_over]? = some Tryz.f132:=Tryz.func132
abbrev F.ref01_natural:Nat:=133
theorem fn.ref01_natural:P.funcs[F.ref01_natural]? = some Tryz.f133:=Tryz.func133
abbrev F.ref01_absolute:Nat:=134
theorem fn.ref01_absolute:P.funcs[F.ref01_absolute]? = some Tryz.f134:=Tryz.func134
abbrev F.ref05_Valid:Nat:=135
theorem fn.ref05_Valid:P.funcs[F.ref05_Valid]? = some Tryz.f135:=Tryz.func135
abbrev F.ref03_Zeros:Nat:=136
theorem fn.ref03_Zeros:P.funcs[F.ref03_Zeros]? = some Tryz.f136:=Tryz.func136
abbrev F.ref03_Take:Nat:=138
theorem fn.ref03_Take:P.funcs[F.ref03_Take]? = some Tryz.f138:=Tryz.func138
abbrev F.ref01_Take:Nat:=142
theorem fn.ref01_Take:P.funcs[F.ref01_Take]? = some Tryz.f142:=Tryz.func142
abbrev F.ref02_Take:Nat:=143
theorem fn.ref02_Take:P.funcs[F.ref02_Take]? = some Tryz.f143:=Tryz.func143
abbrev F.semiring_single:Nat:=144
theorem fn.semiring_single:P.funcs[F.semiring_single]? = some Tryz.f144:=Tryz.func144
abbrev F.slices_IndexFunc_Arc_Arc:Nat:=147
theorem fn.slices_IndexFunc_Arc_Arc:P.funcs[F.slices_IndexFunc_Arc_Arc]? = some Tryz.f147:=Tryz.func147
abbrev F.automaton_inside_1:Nat:=148
theorem fn.automaton_inside_1:P.funcs[F.automaton_inside_1]? = some Tryz.f148:=Tryz.func148
abbrev F.semiring_Check:Nat:=149
theorem fn.semiring_Check:P.funcs[F.semiring_Check]? = some Tryz.f149:=Tryz.func149
abbrev F.slices_ContainsFunc_Weight_Weight:Nat:=150
theorem fn.slices_ContainsFunc_Weight_Weight:P.funcs[F.slices_ContainsFunc_Weight_Weight]? = some Tryz.f150:=Tryz.func150
abbrev F.automaton_weights_1:Nat:=151
theorem fn.automaton_weights_1:P.funcs[F.automaton_weights_1]? = some Tryz.f151:=Tryz.func151
abbrev F.slices_stableCmpFunc_Arc:Nat:=152
theorem fn.slices_stableCmpFunc_Arc:P.funcs[F.slices_stableCmpFunc_Arc]? = some Tryz.f152:=Tryz.func152
abbrev F.cmp_Or_int:Nat:=153
theorem fn.cmp_Or_int:P.funcs[F.cmp_Or_int]? = some Tryz.f153:=Tryz.func153
abbrev F.cmp_Compare_int:Nat:=154
theorem fn.cmp_Compare_int:P.funcs[F.cmp_Compare_int]? = some Tryz.f154:=Tryz.func154
abbrev F.semiring_value:Nat:=155
theorem fn.semiring_value:P.funcs[F.semiring_value]? = some Tryz.f155:=Tryz.func155
abbrev F.semiring_kind:Nat:=156
theorem fn.semiring_kind:P.funcs[F.semiring_kind]? = some Tryz.f156:=Tryz.func156
abbrev F.semiring_Equal:Nat:=160
theorem fn.semiring_Equal:P.funcs[F.semiring_Equal]? = some Tryz.f160:=Tryz.func160
abbrev F.rational_limbs_clean:Nat:=161
theorem fn.rational_limbs_clean:P.funcs[F.rational_limbs_clean]? = some Tryz.f161:=Tryz.func161
abbrev F.slices_Clone_rational_limbs_uint32:Nat:=162
theorem fn.slices_Clone_rational_limbs_uint32:P.funcs[F.slices_Clone_rational_limbs_uint32]? = some Tryz.f162:=Tryz.func162
abbrev F.rational_limbs_gcd:Nat:=163
theorem fn.rational_limbs_gcd:P.funcs[F.rational_limbs_gcd]? = some Tryz.f163:=Tryz.func163
abbrev F.rational_limbs_cmp:Nat:=164
theorem fn.rational_limbs_cmp:P.funcs[F.rational_limbs_cmp]? = some Tryz.f164:=Tryz.func164
abbrev F.rational_one:Nat:=165
theorem fn.rational_one:P.funcs[F.rational_one]? = some Tryz.f165:=Tryz.func165
abbrev F.rational_limbs_over:Nat:=166
theorem fn.rational_limbs_over:P.funcs[F.rational_limbs_over]? = some Tryz.f166:=Tryz.func166
abbrev F.rational_Valid:Nat:=167
theorem fn.rational_Valid:P.funcs[F.rational_Valid]? = some Tryz.f167:=Tryz.func167
abbrev F.rational_limbs_plus:Nat:=168
theorem fn.rational_limbs_plus:P.funcs[F.rational_limbs_plus]? = some Tryz.f168:=Tryz.func168
abbrev F.rational_limbs_minus:Nat:=169
theorem fn.rational_limbs_minus:P.funcs[F.rational_limbs_minus]? = some Tryz.f169:=Tryz.func169
abbrev F.rational_limbs_at:Nat:=170
theorem fn.rational_limbs_at:P.funcs[F.rational_limbs_at]? = some Tryz.f170:=Tryz.func170
abbrev F.ref03_simple:Nat:=171
theorem fn.ref03_simple:P.funcs[F.ref03_simple]? = some Tryz.f171:=Tryz.func171
abbrev F.ref03_Equal:Nat:=172
theorem fn.ref03_Equal:P.funcs[F.ref03_Equal]? = some Tryz.f172:=Tryz.func172
abbrev F.ref06_order:Nat:=173
theorem fn.ref06_order:P.funcs[F.ref06_order]? = some Tryz.f173:=Tryz.func173
abbrev F.ref03_IsZero:Nat:=174
theorem fn.ref03_IsZero:P.funcs[F.ref03_IsZero]? = some Tryz.f174:=Tryz.func174
abbrev F.ref01_Sub:Nat:=175
theorem fn.ref01_Sub:P.funcs[F.ref01_Sub]? = some Tryz.f175:=Tryz.func175
abbrev F.ref01_times:Nat:=177
theorem fn.ref01_times:P.funcs[F.ref01_times]? = some Tryz.f177:=Tryz.func177
abbrev F.ref01_den:Nat:=178
theorem fn.ref01_den:P.funcs[F.ref01_den]? = some Tryz.f178:=Tryz.func178
abbrev F.ref01_plus:Nat:=179
theorem fn.ref01_plus:P.funcs[F.ref01_plus]? = some Tryz.f179:=Tryz.func179
abbrev F.ref01_compare:Nat:=180
theorem fn.ref01_compare:P.funcs[F.ref01_compare]? = some Tryz.f180:=Tryz.func180
abbrev F.ref01_minus:Nat:=181
theorem fn.ref01_minus:P.funcs[F.ref01_minus]? = some Tryz.f181:=Tryz.func181
abbrev F.ref01_divisor:Nat:=182
theorem fn.ref01_divisor:P.funcs[F.ref01_divisor]? = some Tryz.f182:=Tryz.func182
abbrev F.ref01_divide:Nat:=183
theorem fn.ref01_divide:P.funcs[F.ref01_divide]? = some Tryz.f183:=Tryz.func183
abbrev F.ref01_one:Nat:=184
theorem fn.ref01_one:P.funcs[F.ref01_one]? = some Tryz.f184:=Tryz.func184
abbrev F.ref01_trim:Nat:=185
theorem fn.ref01_trim:P.funcs[F.ref01_trim]? = some Tryz.f185:=Tryz.func185
abbrev F.ref01_Valid:Nat:=189
theorem fn.ref01_Valid:P.funcs[F.ref01_Valid]? = some Tryz.f189:=Tryz.func189
abbrev F.ref02_Valid:Nat:=190
theorem fn.ref02_Valid:P.funcs[F.ref02_Valid]? = some Tryz.f190:=Tryz.func190
abbrev F.slices_IndexFunc_Weight_Weight:Nat:=192
theorem fn.slices_IndexFunc_Weight_Weight:P.funcs[F.slices_IndexFunc_Weight_Weight]? = some Tryz.f192:=Tryz.func192
abbrev F.slices_insertionSortCmpFunc_Arc:Nat:=193
theorem fn.slices_insertionSortCmpFunc_Arc:P.funcs[F.slices_insertionSortCmpFunc_Arc]? = some Tryz.f193:=Tryz.func193
abbrev F.cmp_isNaN_int:Nat:=195
theorem fn.cmp_isNaN_int:P.funcs[F.cmp_isNaN_int]? = some Tryz.f195:=Tryz.func195
abbrev F.semiring_rationals:Nat:=196
theorem fn.semiring_rationals:P.funcs[F.semiring_rationals]? = some Tryz.f196:=Tryz.func196
abbrev F.semiring_sameRat:Nat:=202
theorem fn.semiring_sameRat:P.funcs[F.semiring_sameRat]? = some Tryz.f202:=Tryz.func202
abbrev F.slices_EqualFunc_Monomial_Monomial_Monomial_Monomial:Nat:=203
theorem fn.slices_EqualFunc_Monomial_Monomial_Monomial_Monomial:P.funcs[F.slices_EqualFunc_Monomial_Monomial_Monomial_Monomial]? = some Tryz.f203:=Tryz.func203
abbrev F.slices_EqualFunc_Weight_Weight_Weight_Weight:Nat:=204
theorem fn.slices_EqualFunc_Weight_Weight_Weight_Weight:P.funcs[F.slices_EqualFunc_Weight_Weight_Weight_Weight]? = some Tryz.f204:=Tryz.func204
abbrev F.rational_limbs_small:Nat:=205
theorem fn.rational_limbs_small:P.funcs[F.rational_limbs_small]? = some Tryz.f205:=Tryz.func205
abbrev F.rational_limbs_length:Nat:=206
theorem fn.rational_limbs_length:P.funcs[F.rational_limbs_length]? = some Tryz.f206:=Tryz.func206
abbrev F.rational_limbs_left:Nat:=207
theorem fn.rational_limbs_left:P.funcs[F.rational_limbs_left]? = some Tryz.f207:=Tryz.func207
abbrev F.rational_limbs_right:Nat:=208
theorem fn.rational_limbs_right:P.funcs[F.rational_limbs_right]? = some Tryz.f208:=Tryz.func208
abbrev F.rational_proper:Nat:=209
theorem fn.rational_proper:P.funcs[F.rational_proper]? = some Tryz.f209:=Tryz.func209
abbrev F.ref02_Same:Nat:=210
theorem fn.ref02_Same:P.funcs[F.ref02_Same]? = some Tryz.f210:=Tryz.func210
abbrev F.ref01_Neg:Nat:=211
theorem fn.ref01_Neg:P.funcs[F.ref01_Neg]? = some Tryz.f211:=Tryz.func211
abbrev F.ref01_limb:Nat:=212
theorem fn.ref01_limb:P.funcs[F.ref01_limb]? = some Tryz.f212:=Tryz.func212
abbrev F.ref01_sign:Nat:=213
theorem fn.ref01_sign:P.funcs[F.ref01_sign]? = some Tryz.f213:=Tryz.func213
abbrev F.semiring_rationals_1:Nat:=215
theorem fn.semiring_rationals_1:P.funcs[F.semiring_rationals_1]? = some Tryz.f215:=Tryz.func215
abbrev F.semiring_rationals_2:Nat:=216
theorem fn.semiring_rationals_2:P.funcs[F.semiring_rationals_2]? = some Tryz.f216:=Tryz.func216
abbrev F.semiring_rationals_3:Nat:=217
theorem fn.semiring_rationals_3:P.funcs[F.semiring_rationals_3]? = some Tryz.f217:=Tryz.func217
abbrev F.semiring_rationals_4:Nat:=219
theorem fn.semiring_rationals_4:P.funcs[F.semiring_rationals_4]? = some Tryz.f219:=Tryz.func219
abbrev F.semiring_rationals_5:Nat:=220
theorem fn.semiring_rationals_5:P.funcs[F.semiring_rationals_5]? = some Tryz.f220:=Tryz.func220
abbrev F.semiring_quotient:Nat:=221
theorem fn.semiring_quotient:P.funcs[F.semiring_quotient]? = some Tryz.f221:=Tryz.func221
abbrev F.semiring_never:Nat:=222
theorem fn.semiring_never:P.funcs[F.semiring_never]? = some Tryz.f222:=Tryz.func222
abbrev F.semiring_rationals_6:Nat:=223
theorem fn.semiring_rationals_6:P.funcs[F.semiring_rationals_6]? = some Tryz.f223:=Tryz.func223
abbrev F.semiring_readNumber:Nat:=225
theorem fn.semiring_readNumber:P.funcs[F.semiring_readNumber]? = some Tryz.f225:=Tryz.func225
abbrev F.slices_Equal_uint32s_uint32:Nat:=270
theorem fn.slices_Equal_uint32s_uint32:P.funcs[F.slices_Equal_uint32s_uint32]? = some Tryz.f270:=Tryz.func270
abbrev F.math_bits_LeadingZeros32:Nat:=271
theorem fn.math_bits_LeadingZeros32:P.funcs[F.math_bits_LeadingZeros32]? = some Tryz.f271:=Tryz.func271
abbrev F.math_bits_Len32:Nat:=304
theorem fn.math_bits_Len32:P.funcs[F.math_bits_Len32]? = some Tryz.f304:=Tryz.func304
abbrev T.i64:Nat:=2
theorem ce.i64:CellT P 2:=⟨by kernel_rfl,by kernel_rfl⟩
theorem it.i64:IntT P 2 .i64:=⟨by kernel_rfl⟩
theorem z.i64:ZeroT P 2 [.d (.sc (.int .i64 0))]:=⟨by kernel_rfl⟩
theorem sz.i64:(P.info? 2).map (·.size)=some 1:=by kernel_rfl
abbrev T.int:Nat:=3
theorem ce.int:CellT P 3:=⟨by kernel_rfl,by kernel_rfl⟩
theorem it.int:IntT P 3 .i64:=⟨by kernel_rfl⟩
theorem z.int:ZeroT P 3 [.d (.sc (.int .i64 0))]:=⟨by kernel_rfl⟩
theorem sz.int:(P.info? 3).map (·.size)=some 1:=by kernel_rfl
abbrev T.bool:Nat:=4
theorem ce.bool:CellT P 4:=⟨by kernel_rfl,by kernel_rfl⟩
theorem bt.bool:BoolT P 4:=⟨by kernel_rfl⟩
theorem z.bool:ZeroT P 4 [.d (.sc (.bool false))]:=⟨by kernel_rfl⟩
theorem sz.bool:(P.info? 4).map (·.size)=some 1:=by kernel_rfl
abbrev T.u8:Nat:=5
theorem ce.u8:CellT P 5:=⟨by kernel_rfl,by kernel_rfl⟩
theorem it.u8:IntT P 5 .u8:=⟨by kernel_rfl⟩
theorem z.u8:ZeroT P 5 [.d (.sc (.int .u8 0))]:=⟨by kernel_rfl⟩
theorem sz.u8:(P.info? 5).map (·.size)=some 1:=by kernel_rfl
abbrev T.ints:Nat:=22
theorem sl.ints:SliceT P 22 3 1 8:=⟨by kernel_rfl,by kernel_rfl,by decide⟩
theorem ce.ints:CellT P 22:=⟨by kernel_rfl,by kernel_rfl⟩
theorem z.ints:ZeroT P 22 [.mt]:=⟨by kernel_rfl⟩
theorem sz.ints:(P.info? 22).map (·.size)=some 1:=by kernel_rfl
abbrev T.Model:Nat:=24
theorem ag.Model:AggT P 24 5:=⟨by kernel_rfl,by kernel_rfl⟩
theorem cc.Model:ConcT P 24:=by unfold ConcT;kernel_rfl
theorem fd.Model_0:FieldT P 24 0 0:=⟨by kernel_rfl⟩
theorem fd.Model_1:FieldT P 24 1 1:=⟨by kernel_rfl⟩
theorem fd.Model_2:FieldT P 24 2 2:=⟨by kernel_rfl⟩
theorem fd.Model_3:FieldT P 24 3 3:=⟨by kernel_rfl⟩
theorem fd.Model_4:FieldT P 24 4 4:=⟨by kernel_rfl⟩
theorem z.Model:ZeroT P 24 [.d (.sc (.int .i64 0)),.mt,.mt,.mt,.d (.sc (.bool false))]:=⟨by kernel_rfl⟩
theorem pl.Model:PlacesT P 24 [(0,1),(1,1),(2,1),(3,1),(4,1)]:=⟨by kernel_rfl⟩
theorem sz.Model:(P.info? 24).map (·.size)=some 5:=by kernel_rfl
abbrev T.Ring:Nat:=26
theorem ag.Ring:AggT P 26 2:=⟨by kernel_rfl,by kernel_rfl⟩
theorem cc.Ring:ConcT P 26:=by unfold ConcT;kernel_rfl
theorem fd.Ring_0:FieldT P 26 0 0:=⟨by kernel_rfl⟩
theorem fd.Ring_1:FieldT P 26 1 1:=⟨by kernel_rfl⟩
theorem z.Ring:ZeroT P 26 [.d (.sc (.int .i64 0)),.mt]:=⟨by kernel_rfl⟩
theorem pl.Ring:PlacesT P 26 [(0,1),(1,1)]:=⟨by kernel_rfl⟩
theorem sz.Ring:(P.info? 26).map (·.size)=some 2:=by kernel_rfl
abbrev T.Weights:Nat:=27
theorem sl.Weights:SliceT P 27 50 8 128:=⟨by kernel_rfl,by kernel_rfl,by decide⟩
theorem ce.Weights:CellT P 27:=⟨by kernel_rfl,by kernel_rfl⟩
theorem z.Weights:ZeroT P 27 [.mt]:=⟨by kernel_rfl⟩
theorem sz.Weights:(P.info? 27).map (·.size)=some 1:=by kernel_rfl
abbrev T.Arcs:Nat:=28
theorem sl.Arcs:SliceT P 28 87 11 152:=⟨by kernel_rfl,by kernel_rfl,by decide⟩
theorem ce.Arcs:CellT P 28:=⟨by kernel_rfl,by kernel_rfl⟩
theorem z.Arcs:ZeroT P 28 [.mt]:=⟨by kernel_rfl⟩
theorem sz.Arcs:(P.info? 28).map (·.size)=some 1:=by kernel_rfl
abbrev T.Auto:Nat:=30
theorem ag.Auto:AggT P 30 7:=⟨by kernel_rfl,by kernel_rfl⟩
theorem cc.Auto:ConcT P 30:=by unfold ConcT;kernel_rfl
theorem fd.Auto_0:FieldT P 30 0 0:=⟨by kernel_rfl⟩
theorem fd.Auto_1:FieldT P 30 1 2:=⟨by kernel_rfl⟩
theorem fd.Auto_2:FieldT P 30 2 3:=⟨by kernel_rfl⟩
theorem fd.Auto_3:FieldT P 30 3 4:=⟨by kernel_rfl⟩
theorem fd.Auto_4:FieldT P 30 4 5:=⟨by kernel_rfl⟩
theorem fd.Auto_5:FieldT P 30 5 6:=⟨by kernel_rfl⟩
theorem z.Auto:ZeroT P 30 [.d (.sc (.int .i64 0)),.mt,.d (.sc (.int .i64 0)),.d (.sc (.int .i64 0)),.mt,.mt,.mt]:=⟨by kernel_rfl⟩
theorem pl.Auto:PlacesT P 30 [(0,2),(2,1),(3,1),(4,1),(5,1),(6,1)]:=⟨by kernel_rfl⟩
theorem sz.Auto:(P.info? 30).map (·.size)=some 7:=by kernel_rfl
abbrev T.intss:Nat:=32
theorem sl.intss:SliceT P 32 22 1 24:=⟨by kernel_rfl,by kernel_rfl,by decide⟩
theorem ce.intss:CellT P 32:=⟨by kernel_rfl,by kernel_rfl⟩
theorem z.intss:ZeroT P 32 [.mt]:=⟨by kernel_rfl⟩
theorem sz.intss:(P.info? 32).map (·.size)=some 1:=by kernel_rfl
abbrev T.Ratss:Nat:=42
theorem sl.Ratss:SliceT P 42 43 1 24:=⟨by kernel_rfl,by kernel_rfl,by decide⟩
theorem ce.Ratss:CellT P 42:=⟨by kernel_rfl,by kernel_rfl⟩
theorem z.Ratss:ZeroT P 42 [.mt]:=⟨by kernel_rfl⟩
theorem sz.Ratss:(P.info? 42).map (·.size)=some 1:=by kernel_rfl
abbrev T.Rats:Nat:=43
theorem sl.Rats:SliceT P 43 46 3 56:=⟨by kernel_rfl,by kernel_rfl,by decide⟩
theorem ce.Rats:CellT P 43:=⟨by kernel_rfl,by kernel_rfl⟩
theorem z.Rats:ZeroT P 43 [.mt]:=⟨by kernel_rfl⟩
theorem sz.Rats:(P.info? 43).map (·.size)=some 1:=by kernel_rfl
abbrev T.u32s:Nat:=44
theorem sl.u32s:SliceT P 44 170 1 4:=⟨by kernel_rfl,by kernel_rfl,by decide⟩
theorem ce.u32s:CellT P 44:=⟨by kernel_rfl,by kernel_rfl⟩
theorem z.u32s:ZeroT P 44 [.mt]:=⟨by kernel_rfl⟩
theorem sz.u32s:(P.info? 44).map (·.size)=some 1:=by kernel_rfl
abbrev T.Rat:Nat:=46
theorem ag.Rat:AggT P 46 3:=⟨by kernel_rfl,by kernel_rfl⟩
theorem cc.Rat:ConcT P 46:=by unfold ConcT;kernel_rfl
theorem fd.Rat_0:FieldT P 46 0 0:=⟨by kernel_rfl⟩
theorem fd.Rat_1:FieldT P 46 1 1:=⟨by kernel_rfl⟩
theorem fd.Rat_2:FieldT P 46 2 2:=⟨by kernel_rfl⟩
theorem z.Rat:ZeroT P 46 [.d (.sc (.bool false)),.mt,.mt]:=⟨by kernel_rfl⟩
theorem pl.Rat:PlacesT P 46 [(0,1),(1,1),(2,1)]:=⟨by kernel_rfl⟩
theorem sz.Rat:(P.info? 46).map (·.size)=some 3:=by kernel_rfl
abbrev T.u64:Nat:=47
theorem ce.u64:CellT P 47:=⟨by kernel_rfl,by kernel_rfl⟩
theorem it.u64:IntT P 47 .u64:=⟨by kernel_rfl⟩
theorem z.u64:ZeroT P 47 [.d (.sc (.int .u64 0))]:=⟨by kernel_rfl⟩
theorem sz.u64:(P.info? 47).map (·.size)=some 1:=by kernel_rfl
abbrev T.Monomials:Nat:=48
theorem sl.Monomials:SliceT P 48 180 6 80:=⟨by kernel_rfl,by kernel_rfl,by decide⟩
theorem ce.Monomials:CellT P 48:=⟨by kernel_rfl,by kernel_rfl⟩
theorem z.Monomials:ZeroT P 48 [.mt]:=⟨by kernel_rfl⟩
theorem sz.Monomials:(P.info? 48).map (·.size)=some 1:=by kernel_rfl
abbrev T.Weight:Nat:=50
theorem ag.Weight:AggT P 50 8:=⟨by kernel_rfl,by kernel_rfl⟩
theorem cc.Weight:ConcT P 50:=by unfold ConcT;kernel_rfl
theorem fd.Weight_0:FieldT P 50 0 0:=⟨by kernel_rfl⟩
theorem fd.Weight_1:FieldT P 50 1 3:=⟨by kernel_rfl⟩
theorem fd.Weight_2:FieldT P 50 2 4:=⟨by kernel_rfl⟩
theorem fd.Weight_3:FieldT P 50 3 5:=⟨by kernel_rfl⟩
theorem fd.Weight_4:FieldT P 50 4 6:=⟨by kernel_rfl⟩
theorem fd.Weight_5:FieldT P 50 5 7:=⟨by kernel_rfl⟩
theorem z.Weight:ZeroT P 50 [.d (.sc (.bool false)),.mt,.mt,.d (.sc (.int .i64 0)),.d (.sc (.bool false)),.d (.sc (.int .u64 0)),.mt,.mt]:=⟨by kernel_rfl⟩
theorem pl.Weight:PlacesT P 50 [(0,3),(3,1),(4,1),(5,1),(6,1),(7,1)]:=⟨by kernel_rfl⟩
theorem sz.Weight:(P.info? 50).map (·.size)=some 8:=by kernel_rfl
abbrev T.prexs:Nat:=58
theorem sl.prexs:SliceT P 58 108 3 72:=⟨by kernel_rfl,by kernel_rfl,by decide⟩
theorem ce.prexs:CellT P 58:=⟨by kernel_rfl,by kernel_rfl⟩
theorem z.prexs:ZeroT P 58 [.mt]:=⟨by kernel_rfl⟩
theorem sz.prexs:(P.info? 58).map (·.size)=some 1:=by kernel_rfl
abbrev T.Ratsss:Nat:=63
theorem sl.Ratsss:SliceT P 63 42 1 24:=⟨by kernel_rfl,by kernel_rfl,by decide⟩
theorem ce.Ratsss:CellT P 63:=⟨by kernel_rfl,by kernel_rfl⟩
theorem z.Ratsss:ZeroT P 63 [.mt]:=⟨by kernel_rfl⟩
theorem sz.Ratsss:(P.info? 63).map (·.size)=some 1:=by kernel_rfl
abbrev T.Machine:Nat:=65
theorem ag.Machine:AggT P 65 3:=⟨by kernel_rfl,by kernel_rfl⟩
theorem cc.Machine:ConcT P 65:=by unfold ConcT;kernel_rfl
theorem fd.Machine_0:FieldT P 65 0 0:=⟨by kernel_rfl⟩
theorem fd.Machine_1:FieldT P 65 1 1:=⟨by kernel_rfl⟩
theorem fd.Machine_2:FieldT P 65 2 2:=⟨by kernel_rfl⟩
theorem z.Machine:ZeroT P 65 [.mt,.mt,.mt]:=⟨by kernel_rfl⟩
theorem pl.Machine:PlacesT P 65 [(0,1),(1,1),(2,1)]:=⟨by kernel_rfl⟩
theorem sz.Machine:(P.info? 65).map (·.size)=some 3:=by kernel_rfl
abbrev T.Space:Nat:=70
theorem ag.Space:AggT P 70 3:=⟨by kernel_rfl,by kernel_rfl⟩
theorem cc.Space:ConcT P 70:=by unfold ConcT;kernel_rfl
theorem fd.Space_0:FieldT P 70 0 0:=⟨by kernel_rfl⟩
theorem fd.Space_1:FieldT P 70 1 1:=⟨by kernel_rfl⟩
theorem fd.Space_2:FieldT P 70 2 2:=⟨by kernel_rfl⟩
theorem z.Space:ZeroT P 70 [.mt,.mt,.mt]:=⟨by kernel_rfl⟩
theorem pl.Space:PlacesT P 70 [(0,1),(1,1),(2,1)]:=⟨by kernel_rfl⟩
theorem sz.Space:(P.info? 70).map (·.size)=some 3:=by kernel_rfl
abbrev T.Row:Nat:=73
theorem ag.Row:AggT P 73 2:=⟨by kernel_rfl,by kernel_rfl⟩
theorem cc.Row:ConcT P 73:=by unfold ConcT;kernel_rfl
theorem fd.Row_0:FieldT P 73 0 0:=⟨by kernel_rfl⟩
theorem fd.Row_1:FieldT P 73 1 1:=⟨by kernel_rfl⟩
theorem z.Row:ZeroT P 73 [.mt,.mt]:=⟨by kernel_rfl⟩
theorem pl.Row:PlacesT P 73 [(0,1),(1,1)]:=⟨by kernel_rfl⟩
theorem sz.Row:(P.info? 73).map (·.size)=some 2:=by kernel_rfl
abbrev T.Rows:Nat:=74
theorem sl.Rows:SliceT P 74 73 2 48:=⟨by kernel_rfl,by kernel_rfl,by decide⟩
theorem ce.Rows:CellT P 74:=⟨by kernel_rfl,by kernel_rfl⟩
theorem z.Rows:ZeroT P 74 [.mt]:=⟨by kernel_rfl⟩
theorem sz.Rows:(P.info? 74).map (·.size)=some 1:=by kernel_rfl
abbrev T.Arc:Nat:=87
theorem ag.Arc:AggT P 87 11:=⟨by kernel_rfl,by kernel_rfl⟩
theorem cc.Arc:ConcT P 87:=by unfold ConcT;kernel_rfl
theorem fd.Arc_0:FieldT P 87 0 0:=⟨by kernel_rfl⟩
theorem fd.Arc_1:FieldT P 87 1 1:=⟨by kernel_rfl⟩
theorem fd.Arc_2:FieldT P 87 2 2:=⟨by kernel_rfl⟩
theorem fd.Arc_3:FieldT P 87 3 3:=⟨by kernel_rfl⟩
theorem z.Arc:ZeroT P 87 [.d (.sc (.int .i64 0)),.d (.sc (.int .i64 0)),.d (.sc (.int .i64 0)),.d (.sc (.bool false)),.mt,.mt,.d (.sc (.int .i64 0)),.d (.sc (.bool false)),.d (.sc (.int .u64 0)),.mt,.mt]:=⟨by kernel_rfl⟩
theorem pl.Arc:PlacesT P 87 [(0,1),(1,1),(2,1),(3,8)]:=⟨by kernel_rfl⟩
theorem sz.Arc:(P.info? 87).map (·.size)=some 11:=by kernel_rfl
abbrev T.Autos:Nat:=101
theorem sl.Autos:SliceT P 101 30 7 120:=⟨by kernel_rfl,by kernel_rfl,by decide⟩
theorem ce.Autos:CellT P 101:=⟨by kernel_rfl,by kernel_rfl⟩
theorem z.Autos:ZeroT P 101 [.mt]:=⟨by kernel_rfl⟩
theorem sz.Autos:(P.info? 101).map (·.size)=some 1:=by kernel_rfl
abbrev T.prex:Nat:=108
theorem ag.prex:AggT P 108 3:=⟨by kernel_rfl,by kernel_rfl⟩
theorem cc.prex:ConcT P 108:=by unfold ConcT;kernel_rfl
theorem fd.prex_0:FieldT P 108 0 0:=⟨by kernel_rfl⟩
theorem fd.prex_1:FieldT P 108 1 2:=⟨by kernel_rfl⟩
theorem z.prex:ZeroT P 108 [.mt,.mt,.mt]:=⟨by kernel_rfl⟩
theorem pl.prex:PlacesT P 108 [(0,2),(2,1)]:=⟨by kernel_rfl⟩
theorem sz.prex:(P.info? 108).map (·.size)=some 3:=by kernel_rfl
abbrev T.limbs:Nat:=152
theorem sl.limbs:SliceT P 152 170 1 4:=⟨by kernel_rfl,by kernel_rfl,by decide⟩
theorem ce.limbs:CellT P 152:=⟨by kernel_rfl,by kernel_rfl⟩
theorem z.limbs:ZeroT P 152 [.mt]:=⟨by kernel_rfl⟩
theorem sz.limbs:(P.info? 152).map (·.size)=some 1:=by kernel_rfl
abbrev T.fraction:Nat:=156
theorem ag.fraction:AggT P 156 3:=⟨by kernel_rfl,by kernel_rfl⟩
theorem cc.fraction:ConcT P 156:=by unfold ConcT;kernel_rfl
theorem fd.fraction_0:FieldT P 156 0 0:=⟨by kernel_rfl⟩
theorem fd.fraction_1:FieldT P 156 1 1:=⟨by kernel_rfl⟩
theorem fd.fraction_2:FieldT P 156 2 2:=⟨by kernel_rfl⟩
theorem z.fraction:ZeroT P 156 [.d (.sc (.bool false)),.mt,.mt]:=⟨by kernel_rfl⟩
theorem pl.fraction:PlacesT P 156 [(0,1),(1,1),(2,1)]:=⟨by kernel_rfl⟩
theorem sz.fraction:(P.info? 156).map (·.size)=some 3:=by kernel_rfl
abbrev T.u32:Nat:=170
theorem ce.u32:CellT P 170:=⟨by kernel_rfl,by kernel_rfl⟩
theorem it.u32:IntT P 170 .u32:=⟨by kernel_rfl⟩
theorem z.u32:ZeroT P 170 [.d (.sc (.int .u32 0))]:=⟨by kernel_rfl⟩
theorem sz.u32:(P.info? 170).map (·.size)=some 1:=by kernel_rfl
abbrev T.algebra:Nat:=195
theorem ag.algebra:AggT P 195 9:=⟨by kernel_rfl,by kernel_rfl⟩
theorem cc.algebra:ConcT P 195:=by unfold ConcT;kernel_rfl
theorem fd.algebra_0:FieldT P 195 0 0:=⟨by kernel_rfl⟩
theorem fc.algebra_0:FieldC P 195 0 0:=⟨by kernel_rfl⟩
theorem fd.algebra_1:FieldT P 195 1 1:=⟨by kernel_rfl⟩
theorem fc.algebra_1:FieldC P 195 1 1:=⟨by kernel_rfl⟩
theorem fd.algebra_3:FieldT P 195 3 3:=⟨by kernel_rfl⟩
theorem fc.algebra_3:FieldC P 195 3 3:=⟨by kernel_rfl⟩
theorem z.algebra:ZeroT P 195 [.d (.sc .nilFunc),.d (.sc .nilFunc),.d (.sc .nilFunc),.d (.sc .nilFunc),.d (.sc .nilFunc),.d (.sc .nilFunc),.d (.sc .nilFunc),.d (.sc .nilFunc),.d (.sc .nilFunc)]:=⟨by kernel_rfl⟩
theorem pl.algebra:PlacesT P 195 [(0,1),(1,1),(2,1),(3,1),(4,1),(5,1),(6,1),(7,1),(8,1)]:=⟨by kernel_rfl⟩
theorem sz.algebra:(P.info? 195).map (·.size)=some 9:=by kernel_rfl
abbrev T.uint:Nat:=199
theorem ce.uint:CellT P 199:=⟨by kernel_rfl,by kernel_rfl⟩
theorem it.uint:IntT P 199 .u64:=⟨by kernel_rfl⟩
theorem z.uint:ZeroT P 199 [.d (.sc (.int .u64 0))]:=⟨by kernel_rfl⟩
theorem sz.uint:(P.info? 199).map (·.size)=some 1:=by kernel_rfl
abbrev T.rows:Nat:=95
theorem sl.rows:SliceT P 95 126 2 48:=⟨by kernel_rfl,by kernel_rfl,by decide⟩
theorem ce.rows:CellT P 95:=⟨by kernel_rfl,by kernel_rfl⟩
theorem z.rows:ZeroT P 95 [.mt]:=⟨by kernel_rfl⟩
theorem sz.rows:(P.info? 95).map (·.size)=some 1:=by kernel_rfl
abbrev T.row:Nat:=126
theorem ag.row:AggT P 126 2:=⟨by kernel_rfl,by kernel_rfl⟩
theorem cc.row:ConcT P 126:=by unfold ConcT;kernel_rfl
theorem fd.row_0:FieldT P 126 0 0:=⟨by kernel_rfl⟩
theorem fd.row_1:FieldT P 126 1 1:=⟨by kernel_rfl⟩
theorem z.row:ZeroT P 126 [.mt,.mt]:=⟨by kernel_rfl⟩
theorem pl.row:PlacesT P 126 [(0,1),(1,1)]:=⟨by kernel_rfl⟩
theorem sz.row:(P.info? 126).map (·.size)=some 2:=by kernel_rfl
abbrev T.fn60:Nat:=60
theorem ce.fn60:CellT P 60:=⟨by kernel_rfl,by kernel_rfl⟩
theorem z.fn60:ZeroT P 60 [.d (.sc .nilFunc)]:=⟨by kernel_rfl⟩
theorem sz.fn60:(P.info? 60).map (·.size)=some 1:=by kernel_rfl
abbrev T.fn77:Nat:=77
theorem ce.fn77:CellT P 77:=⟨by kernel_rfl,by kernel_rfl⟩
theorem z.fn77:ZeroT P 77 [.d (.sc .nilFunc)]:=⟨by kernel_rfl⟩
theorem sz.fn77:(P.info? 77).map (·.size)=some 1:=by kernel_rfl
abbrev T.fnView:Nat:=60
theorem ce.fnView:CellT P 60:=ce.fn60
theorem z.fnView:ZeroT P 60 [.d (.sc .nilFunc)]:=z.fn60
theorem sz.fnView:(P.info? 60).map (·.size)=some 1:=sz.fn60
abbrev T.fnCheck:Nat:=77
theorem ce.fnCheck:CellT P 77:=ce.fn77
theorem z.fnCheck:ZeroT P 77 [.d (.sc .nilFunc)]:=z.fn77
theorem sz.fnCheck:(P.info? 77).map (·.size)=some 1:=sz.fn77
abbrev T.fnsCheck:Nat:=105
theorem sl.fnsCheck:SliceT P 105 77 1 8:=⟨by kernel_rfl,by kernel_rfl,by decide⟩
theorem ce.fnsCheck:CellT P 105:=⟨by kernel_rfl,by kernel_rfl⟩
theorem z.fnsCheck:ZeroT P 105 [.mt]:=⟨by kernel_rfl⟩
theorem sz.fnsCheck:(P.info? 105).map (·.size)=some 1:=by kernel_rfl
abbrev T.pSpace:Nat:=59
theorem ce.pSpace:CellT P 59:=⟨by kernel_rfl,by kernel_rfl⟩
theorem cc.pSpace:ConcT P 59:=by unfold ConcT;kernel_rfl
theorem z.pSpace:ZeroT P 59 [.d (.sc (.pointer none))]:=⟨by kernel_rfl⟩
theorem sz.pSpace:(P.info? 59).map (·.size)=some 1:=by kernel_rfl
theorem st.str:P.underlying 9=some .string:=by kernel_rfl
end Go.Proofs.YtfbblpngcmjooaaGreatDoor
