/-
  Names for the functions of this seat, and facts on its types (printed by hdr.py).
-/
import Derived.Test.YteiohkpjgcioaaaGreatDoorChecked
import Derived.KernelRfl
import Derived.Test.YteiohkpjgcioaaaGreatDoorKNumb
import Derived.Test.YteiohkpjgcioaaaGreatDoorKAlg37
set_option linter.unusedVariables false
set_option linter.unusedSimpArgs false
namespace Go.Proofs.YteiohkpjgcioaaaGreatDoor
open Go Go.AL
noncomputable abbrev P:Program:=Tryz.prog
theorem order_free:P.follows .mixedOrders=true:=by kernel_rfl
abbrev F.law33_HmmSums:Nat:=4
theorem fn.law33_HmmSums:P.funcs[F.law33_HmmSums]? = some Tryz.f4:=Tryz.func4
abbrev F.world_Chain_Mixed:Nat:=5
theorem fn.world_Chain_Mixed:P.funcs[F.world_Chain_Mixed]? = some Tryz.f5:=Tryz.func5
abbrev F.hmm_Automaton:Nat:=7
theorem fn.hmm_Automaton:P.funcs[F.hmm_Automaton]? = some Tryz.f7:=Tryz.func7
abbrev F.hmm_Emitting:Nat:=9
theorem fn.hmm_Emitting:P.funcs[F.hmm_Emitting]? = some Tryz.f9:=Tryz.func9
abbrev F.law33_known:Nat:=11
theorem fn.law33_known:P.funcs[F.law33_known]? = some Tryz.f11:=Tryz.func11
abbrev F.ref01_Compare:Nat:=14
theorem fn.ref01_Compare:P.funcs[F.ref01_Compare]? = some Tryz.f14:=Tryz.func14
abbrev F.world_Within:Nat:=15
theorem fn.world_Within:P.funcs[F.world_Within]? = some Tryz.f15:=Tryz.func15
abbrev F.world_Number:Nat:=16
theorem fn.world_Number:P.funcs[F.world_Number]? = some Tryz.f16:=Tryz.func16
abbrev F.weigh_Weight:Nat:=17
theorem fn.weigh_Weight:P.funcs[F.weigh_Weight]? = some Tryz.f17:=Tryz.func17
abbrev F.ref01_Sign:Nat:=18
theorem fn.ref01_Sign:P.funcs[F.ref01_Sign]? = some Tryz.f18:=Tryz.func18
abbrev F.ref01_Add:Nat:=19
theorem fn.ref01_Add:P.funcs[F.ref01_Add]? = some Tryz.f19:=Tryz.func19
abbrev F.ref33_Whole:Nat:=20
theorem fn.ref33_Whole:P.funcs[F.ref33_Whole]? = some Tryz.f20:=Tryz.func20
abbrev F.world_Chain_made:Nat:=21
theorem fn.world_Chain_made:P.funcs[F.world_Chain_made]? = some Tryz.f21:=Tryz.func21
abbrev F.hmm_Valid:Nat:=22
theorem fn.hmm_Valid:P.funcs[F.hmm_Valid]? = some Tryz.f22:=Tryz.func22
abbrev F.hmm_weight:Nat:=23
theorem fn.hmm_weight:P.funcs[F.hmm_weight]? = some Tryz.f23:=Tryz.func23
abbrev F.hmm_one:Nat:=24
theorem fn.hmm_one:P.funcs[F.hmm_one]? = some Tryz.f24:=Tryz.func24
abbrev F.rational_Mul:Nat:=25
theorem fn.rational_Mul:P.funcs[F.rational_Mul]? = some Tryz.f25:=Tryz.func25
abbrev F.rational_Sign:Nat:=26
theorem fn.rational_Sign:P.funcs[F.rational_Sign]? = some Tryz.f26:=Tryz.func26
abbrev F.automaton_Normal:Nat:=27
theorem fn.automaton_Normal:P.funcs[F.automaton_Normal]? = some Tryz.f27:=Tryz.func27
abbrev F.hmm_order:Nat:=30
theorem fn.hmm_order:P.funcs[F.hmm_order]? = some Tryz.f30:=Tryz.func30
abbrev F.slices_Sort_ints_int:Nat:=31
theorem fn.slices_Sort_ints_int:P.funcs[F.slices_Sort_ints_int]? = some Tryz.f31:=Tryz.func31
abbrev F.slices_Compact_ints_int:Nat:=32
theorem fn.slices_Compact_ints_int:P.funcs[F.slices_Compact_ints_int]? = some Tryz.f32:=Tryz.func32
abbrev F.hmm_Emitting_1:Nat:=33
theorem fn.hmm_Emitting_1:P.funcs[F.hmm_Emitting_1]? = some Tryz.f33:=Tryz.func33
abbrev F.hmm_through:Nat:=34
theorem fn.hmm_through:P.funcs[F.hmm_through]? = some Tryz.f34:=Tryz.func34
abbrev F.slices_BinarySearch_ints_int:Nat:=35
theorem fn.slices_BinarySearch_ints_int:P.funcs[F.slices_BinarySearch_ints_int]? = some Tryz.f35:=Tryz.func35
abbrev F.fresh_Rats:Nat:=36
theorem fn.fresh_Rats:P.funcs[F.fresh_Rats]? = some Tryz.f36:=Tryz.func36
abbrev F.law33_coin:Nat:=41
theorem fn.law33_coin:P.funcs[F.law33_coin]? = some Tryz.f41:=Tryz.func41
abbrev F.ref01_Make:Nat:=42
theorem fn.ref01_Make:P.funcs[F.ref01_Make]? = some Tryz.f42:=Tryz.func42
abbrev F.hmm_Plain:Nat:=43
theorem fn.hmm_Plain:P.funcs[F.hmm_Plain]? = some Tryz.f43:=Tryz.func43
abbrev F.ref01_Sub:Nat:=48
theorem fn.ref01_Sub:P.funcs[F.ref01_Sub]? = some Tryz.f48:=Tryz.func48
abbrev F.weigh_Forward:Nat:=49
theorem fn.weigh_Forward:P.funcs[F.weigh_Forward]? = some Tryz.f49:=Tryz.func49
abbrev F.weigh_Dot:Nat:=50
theorem fn.weigh_Dot:P.funcs[F.weigh_Dot]? = some Tryz.f50:=Tryz.func50
abbrev F.ref01_Take:Nat:=51
theorem fn.ref01_Take:P.funcs[F.ref01_Take]? = some Tryz.f51:=Tryz.func51
abbrev F.ref01_times:Nat:=52
theorem fn.ref01_times:P.funcs[F.ref01_times]? = some Tryz.f52:=Tryz.func52
abbrev F.ref01_den:Nat:=53
theorem fn.ref01_den:P.funcs[F.ref01_den]? = some Tryz.f53:=Tryz.func53
abbrev F.ref01_over:Nat:=54
theorem fn.ref01_over:P.funcs[F.ref01_over]? = some Tryz.f54:=Tryz.func54
abbrev F.ref01_plus:Nat:=55
theorem fn.ref01_plus:P.funcs[F.ref01_plus]? = some Tryz.f55:=Tryz.func55
abbrev F.ref01_compare:Nat:=56
theorem fn.ref01_compare:P.funcs[F.ref01_compare]? = some Tryz.f56:=Tryz.func56
abbrev F.ref01_minus:Nat:=57
theorem fn.ref01_minus:P.funcs[F.ref01_minus]? = some Tryz.f57:=Tryz.func57
abbrev F.world_Shares:Nat:=58
theorem fn.world_Shares:P.funcs[F.world_Shares]? = some Tryz.f58:=Tryz.func58
abbrev F.world_Tape_Next:Nat:=59
theorem fn.world_Tape_Next:P.funcs[F.world_Tape_Next]? = some Tryz.f59:=Tryz.func59
abbrev F.world_sameRats:Nat:=60
theorem fn.world_sameRats:P.funcs[F.world_sameRats]? = some Tryz.f60:=Tryz.func60
abbrev F.hmm_formed:Nat:=61
theorem fn.hmm_formed:P.funcs[F.hmm_formed]? = some Tryz.f61:=Tryz.func61
abbrev F.hmm_sums:Nat:=62
theorem fn.hmm_sums:P.funcs[F.hmm_sums]? = some Tryz.f62:=Tryz.func62
abbrev F.hmm_tied:Nat:=63
theorem fn.hmm_tied:P.funcs[F.hmm_tied]? = some Tryz.f63:=Tryz.func63
abbrev F.rational_Make:Nat:=64
theorem fn.rational_Make:P.funcs[F.rational_Make]? = some Tryz.f64:=Tryz.func64
abbrev F.rational_of:Nat:=65
theorem fn.rational_of:P.funcs[F.rational_of]? = some Tryz.f65:=Tryz.func65
abbrev F.rational_limbs_times:Nat:=66
theorem fn.rational_limbs_times:P.funcs[F.rational_limbs_times]? = some Tryz.f66:=Tryz.func66
abbrev F.rational_fraction_rat:Nat:=67
theorem fn.rational_fraction_rat:P.funcs[F.rational_fraction_rat]? = some Tryz.f67:=Tryz.func67
abbrev F.automaton_Valid:Nat:=68
theorem fn.automaton_Valid:P.funcs[F.automaton_Valid]? = some Tryz.f68:=Tryz.func68
abbrev F.automaton_ring:Nat:=69
theorem fn.automaton_ring:P.funcs[F.automaton_ring]? = some Tryz.f69:=Tryz.func69
abbrev F.automaton_Copy:Nat:=70
theorem fn.automaton_Copy:P.funcs[F.automaton_Copy]? = some Tryz.f70:=Tryz.func70
abbrev F.automaton_Tidy:Nat:=71
theorem fn.automaton_Tidy:P.funcs[F.automaton_Tidy]? = some Tryz.f71:=Tryz.func71
abbrev F.hmm_order_1:Nat:=78
theorem fn.hmm_order_1:P.funcs[F.hmm_order_1]? = some Tryz.f78:=Tryz.func78
abbrev F.slices_Reverse_ints_int:Nat:=79
theorem fn.slices_Reverse_ints_int:P.funcs[F.slices_Reverse_ints_int]? = some Tryz.f79:=Tryz.func79
abbrev F.slices_pdqsortOrdered_int:Nat:=80
theorem fn.slices_pdqsortOrdered_int:P.funcs[F.slices_pdqsortOrdered_int]? = some Tryz.f80:=Tryz.func80
abbrev F.math_bits_Len:Nat:=81
theorem fn.math_bits_Len:P.funcs[F.math_bits_Len]? = some Tryz.f81:=Tryz.func81
abbrev F.fresh_Rat:Nat:=82
theorem fn.fresh_Rat:P.funcs[F.fresh_Rat]? = some Tryz.f82:=Tryz.func82
abbrev F.rational_Add:Nat:=83
theorem fn.rational_Add:P.funcs[F.rational_Add]? = some Tryz.f83:=Tryz.func83
abbrev F.cmp_Less_int:Nat:=84
theorem fn.cmp_Less_int:P.funcs[F.cmp_Less_int]? = some Tryz.f84:=Tryz.func84
abbrev F.slices_isNaN_int:Nat:=85
theorem fn.slices_isNaN_int:P.funcs[F.slices_isNaN_int]? = some Tryz.f85:=Tryz.func85
abbrev F.fresh_each_Rat:Nat:=86
theorem fn.fresh_each_Rat:P.funcs[F.fresh_each_Rat]? = some Tryz.f86:=Tryz.func86
abbrev F.law33_half:Nat:=90
theorem fn.law33_half:P.funcs[F.law33_half]? = some Tryz.f90:=Tryz.func90
abbrev F.ref01_natural:Nat:=91
theorem fn.ref01_natural:P.funcs[F.ref01_natural]? = some Tryz.f91:=Tryz.func91
abbrev F.ref01_absolute:Nat:=92
theorem fn.ref01_absolute:P.funcs[F.ref01_absolute]? = some Tryz.f92:=Tryz.func92
abbrev F.slices_Contains_bools_bool:Nat:=93
theorem fn.slices_Contains_bools_bool:P.funcs[F.slices_Contains_bools_bool]? = some Tryz.f93:=Tryz.func93
abbrev F.ref01_Neg:Nat:=100
theorem fn.ref01_Neg:P.funcs[F.ref01_Neg]? = some Tryz.f100:=Tryz.func100
abbrev F.weigh_Ready:Nat:=101
theorem fn.weigh_Ready:P.funcs[F.weigh_Ready]? = some Tryz.f101:=Tryz.func101
abbrev F.weigh_Step:Nat:=102
theorem fn.weigh_Step:P.funcs[F.weigh_Step]? = some Tryz.f102:=Tryz.func102
abbrev F.semiring_Zero:Nat:=103
theorem fn.semiring_Zero:P.funcs[F.semiring_Zero]? = some Tryz.f103:=Tryz.func103
abbrev F.semiring_Plus:Nat:=104
theorem fn.semiring_Plus:P.funcs[F.semiring_Plus]? = some Tryz.f104:=Tryz.func104
abbrev F.semiring_Times:Nat:=105
theorem fn.semiring_Times:P.funcs[F.semiring_Times]? = some Tryz.f105:=Tryz.func105
abbrev F.ref01_Valid:Nat:=106
theorem fn.ref01_Valid:P.funcs[F.ref01_Valid]? = some Tryz.f106:=Tryz.func106
abbrev F.ref01_trim:Nat:=107
theorem fn.ref01_trim:P.funcs[F.ref01_trim]? = some Tryz.f107:=Tryz.func107
abbrev F.ref01_divisor:Nat:=108
theorem fn.ref01_divisor:P.funcs[F.ref01_divisor]? = some Tryz.f108:=Tryz.func108
abbrev F.ref01_divide:Nat:=109
theorem fn.ref01_divide:P.funcs[F.ref01_divide]? = some Tryz.f109:=Tryz.func109
abbrev F.ref01_one:Nat:=110
theorem fn.ref01_one:P.funcs[F.ref01_one]? = some Tryz.f110:=Tryz.func110
abbrev F.ref01_limb:Nat:=111
theorem fn.ref01_limb:P.funcs[F.ref01_limb]? = some Tryz.f111:=Tryz.func111
abbrev F.ref01_sign:Nat:=112
theorem fn.ref01_sign:P.funcs[F.ref01_sign]? = some Tryz.f112:=Tryz.func112
abbrev F.hmm_share:Nat:=113
theorem fn.hmm_share:P.funcs[F.hmm_share]? = some Tryz.f113:=Tryz.func113
abbrev F.hmm_shares:Nat:=114
theorem fn.hmm_shares:P.funcs[F.hmm_shares]? = some Tryz.f114:=Tryz.func114
abbrev F.hmm_whole:Nat:=115
theorem fn.hmm_whole:P.funcs[F.hmm_whole]? = some Tryz.f115:=Tryz.func115
abbrev F.hmm_equal:Nat:=116
theorem fn.hmm_equal:P.funcs[F.hmm_equal]? = some Tryz.f116:=Tryz.func116
abbrev F.rational_whole:Nat:=117
theorem fn.rational_whole:P.funcs[F.rational_whole]? = some Tryz.f117:=Tryz.func117
abbrev F.rational_Valid:Nat:=118
theorem fn.rational_Valid:P.funcs[F.rational_Valid]? = some Tryz.f118:=Tryz.func118
abbrev F.rational_one:Nat:=119
theorem fn.rational_one:P.funcs[F.rational_one]? = some Tryz.f119:=Tryz.func119
abbrev F.rational_limbs_at:Nat:=120
theorem fn.rational_limbs_at:P.funcs[F.rational_limbs_at]? = some Tryz.f120:=Tryz.func120
abbrev F.rational_limbs_clean:Nat:=121
theorem fn.rational_limbs_clean:P.funcs[F.rational_limbs_clean]? = some Tryz.f121:=Tryz.func121
abbrev F.slices_Clone_rational_limbs_uint32:Nat:=122
theorem fn.slices_Clone_rational_limbs_uint32:P.funcs[F.slices_Clone_rational_limbs_uint32]? = some Tryz.f122:=Tryz.func122
abbrev F.rational_limbs_gcd:Nat:=123
theorem fn.rational_limbs_gcd:P.funcs[F.rational_limbs_gcd]? = some Tryz.f123:=Tryz.func123
abbrev F.rational_limbs_cmp:Nat:=124
theorem fn.rational_limbs_cmp:P.funcs[F.rational_limbs_cmp]? = some Tryz.f124:=Tryz.func124
abbrev F.rational_limbs_over:Nat:=125
theorem fn.rational_limbs_over:P.funcs[F.rational_limbs_over]? = some Tryz.f125:=Tryz.func125
abbrev F.semiring_Valid:Nat:=126
theorem fn.semiring_Valid:P.funcs[F.semiring_Valid]? = some Tryz.f126:=Tryz.func126
abbrev F.slices_ContainsFunc_Arc_Arc:Nat:=127
theorem fn.slices_ContainsFunc_Arc_Arc:P.funcs[F.slices_ContainsFunc_Arc_Arc]? = some Tryz.f127:=Tryz.func127
abbrev F.automaton_Valid_1:Nat:=128
theorem fn.automaton_Valid_1:P.funcs[F.automaton_Valid_1]? = some Tryz.f128:=Tryz.func128
abbrev F.automaton_inside:Nat:=129
theorem fn.automaton_inside:P.funcs[F.automaton_inside]? = some Tryz.f129:=Tryz.func129
abbrev F.automaton_weights:Nat:=130
theorem fn.automaton_weights:P.funcs[F.automaton_weights]? = some Tryz.f130:=Tryz.func130
abbrev F.slices_Clone_ints_int:Nat:=131
theorem fn.slices_Clone_ints_int:P.funcs[F.slices_Clone_ints_int]? = some Tryz.f131:=Tryz.func131
abbrev F.slices_Clone_Arc_Arc:Nat:=132
theorem fn.slices_Clone_Arc_Arc:P.funcs[F.slices_Clone_Arc_Arc]? = some Tryz.f132:=Tryz.func132
abbrev F.slices_SortStableFunc_Arc_Arc:Nat:=133
theorem fn.slices_SortStableFunc_Arc_Arc:P.funcs[F.slices_SortStableFunc_Arc_Arc]? = some Tryz.f133:=Tryz.func133
abbrev F.automaton_order:Nat:=134
theorem fn.automaton_order:P.funcs[F.automaton_order]? = some Tryz.f134:=Tryz.func134
abbrev F.slices_DeleteFunc_Arc_Arc:Nat:=135
theorem fn.slices_DeleteFunc_Arc_Arc:P.funcs[F.slices_DeleteFunc_Arc_Arc]? = some Tryz.f135:=Tryz.func135
abbrev F.automaton_Tidy_1:Nat:=136
theorem fn.automaton_Tidy_1:P.funcs[F.automaton_Tidy_1]? = some Tryz.f136:=Tryz.func136
abbrev F.automaton_IsZero:Nat:=137
theorem fn.automaton_IsZero:P.funcs[F.automaton_IsZero]? = some Tryz.f137:=Tryz.func137
abbrev F.slices_insertionSortOrdered_int:Nat:=148
theorem fn.slices_insertionSortOrdered_int:P.funcs[F.slices_insertionSortOrdered_int]? = some Tryz.f148:=Tryz.func148
abbrev F.math_bits_Len32:Nat:=156
theorem fn.math_bits_Len32:P.funcs[F.math_bits_Len32]? = some Tryz.f156:=Tryz.func156
abbrev F.math_bits_Len64:Nat:=157
theorem fn.math_bits_Len64:P.funcs[F.math_bits_Len64]? = some Tryz.f157:=Tryz.func157
abbrev F.slices_Clone_uint32s_uint32:Nat:=158
theorem fn.slices_Clone_uint32s_uint32:P.funcs[F.slices_Clone_uint32s_uint32]? = some Tryz.f158:=Tryz.func158
abbrev F.rational_fraction_plus:Nat:=159
theorem fn.rational_fraction_plus:P.funcs[F.rational_fraction_plus]? = some Tryz.f159:=Tryz.func159
abbrev F.cmp_isNaN_int:Nat:=160
theorem fn.cmp_isNaN_int:P.funcs[F.cmp_isNaN_int]? = some Tryz.f160:=Tryz.func160
abbrev F.slices_Index_bools_bool:Nat:=161
theorem fn.slices_Index_bools_bool:P.funcs[F.slices_Index_bools_bool]? = some Tryz.f161:=Tryz.func161
abbrev F.weigh_Ready_1:Nat:=167
theorem fn.weigh_Ready_1:P.funcs[F.weigh_Ready_1]? = some Tryz.f167:=Tryz.func167
abbrev F.words_Valid:Nat:=168
theorem fn.words_Valid:P.funcs[F.words_Valid]? = some Tryz.f168:=Tryz.func168
abbrev F.weigh_zeros:Nat:=169
theorem fn.weigh_zeros:P.funcs[F.weigh_zeros]? = some Tryz.f169:=Tryz.func169
abbrev F.semiring_kind:Nat:=170
theorem fn.semiring_kind:P.funcs[F.semiring_kind]? = some Tryz.f170:=Tryz.func170
abbrev F.semiring_value:Nat:=173
theorem fn.semiring_value:P.funcs[F.semiring_value]? = some Tryz.f173:=Tryz.func173
abbrev F.rational_Compare:Nat:=176
theorem fn.rational_Compare:P.funcs[F.rational_Compare]? = some Tryz.f176:=Tryz.func176
abbrev F.slices_ContainsFunc_Rats_Rat:Nat:=177
theorem fn.slices_ContainsFunc_Rats_Rat:P.funcs[F.slices_ContainsFunc_Rats_Rat]? = some Tryz.f177:=Tryz.func177
abbrev F.hmm_shares_1:Nat:=178
theorem fn.hmm_shares_1:P.funcs[F.hmm_shares_1]? = some Tryz.f178:=Tryz.func178
abbrev F.slices_Concat_Rats_Rat:Nat:=179
theorem fn.slices_Concat_Rats_Rat:P.funcs[F.slices_Concat_Rats_Rat]? = some Tryz.f179:=Tryz.func179
abbrev F.slices_EqualFunc_Rats_Rats_Rat_Rat:Nat:=180
theorem fn.slices_EqualFunc_Rats_Rats_Rat_Rat:P.funcs[F.slices_EqualFunc_Rats_Rats_Rat_Rat]? = some Tryz.f180:=Tryz.func180
abbrev F.hmm_equal_1:Nat:=181
theorem fn.hmm_equal_1:P.funcs[F.hmm_equal_1]? = some Tryz.f181:=Tryz.func181
abbrev F.rational_proper:Nat:=182
theorem fn.rational_proper:P.funcs[F.rational_proper]? = some Tryz.f182:=Tryz.func182
abbrev F.rational_limbs_small:Nat:=183
theorem fn.rational_limbs_small:P.funcs[F.rational_limbs_small]? = some Tryz.f183:=Tryz.func183
abbrev F.rational_limbs_length:Nat:=184
theorem fn.rational_limbs_length:P.funcs[F.rational_limbs_length]? = some Tryz.f184:=Tryz.func184
abbrev F.rational_limbs_left:Nat:=185
theorem fn.rational_limbs_left:P.funcs[F.rational_limbs_left]? = some Tryz.f185:=Tryz.func185
abbrev F.rational_limbs_minus:Nat:=186
theorem fn.rational_limbs_minus:P.funcs[F.rational_limbs_minus]? = some Tryz.f186:=Tryz.func186
abbrev F.rational_limbs_right:Nat:=187
theorem fn.rational_limbs_right:P.funcs[F.rational_limbs_right]? = some Tryz.f187:=Tryz.func187
abbrev F.semiring_single:Nat:=188
theorem fn.semiring_single:P.funcs[F.semiring_single]? = some Tryz.f188:=Tryz.func188
abbrev F.slices_IndexFunc_Arc_Arc:Nat:=191
theorem fn.slices_IndexFunc_Arc_Arc:P.funcs[F.slices_IndexFunc_Arc_Arc]? = some Tryz.f191:=Tryz.func191
abbrev F.automaton_inside_1:Nat:=192
theorem fn.automaton_inside_1:P.funcs[F.automaton_inside_1]? = some Tryz.f192:=Tryz.func192
abbrev F.semiring_Check:Nat:=193
theorem fn.semiring_Check:P.funcs[F.semiring_Check]? = some Tryz.f193:=Tryz.func193
abbrev F.slices_ContainsFunc_Weight_Weight:Nat:=194
theorem fn.slices_ContainsFunc_Weight_Weight:P.funcs[F.slices_ContainsFunc_Weight_Weight]? = some Tryz.f194:=Tryz.func194
abbrev F.automaton_weights_1:Nat:=195
theorem fn.automaton_weights_1:P.funcs[F.automaton_weights_1]? = some Tryz.f195:=Tryz.func195
abbrev F.slices_stableCmpFunc_Arc:Nat:=196
theorem fn.slices_stableCmpFunc_Arc:P.funcs[F.slices_stableCmpFunc_Arc]? = some Tryz.f196:=Tryz.func196
abbrev F.cmp_Or_int:Nat:=197
theorem fn.cmp_Or_int:P.funcs[F.cmp_Or_int]? = some Tryz.f197:=Tryz.func197
abbrev F.cmp_Compare_int:Nat:=198
theorem fn.cmp_Compare_int:P.funcs[F.cmp_Compare_int]? = some Tryz.f198:=Tryz.func198
abbrev F.semiring_Equal:Nat:=199
theorem fn.semiring_Equal:P.funcs[F.semiring_Equal]? = some Tryz.f199:=Tryz.func199
abbrev F.rational_limbs_plus:Nat:=208
theorem fn.rational_limbs_plus:P.funcs[F.rational_limbs_plus]? = some Tryz.f208:=Tryz.func208
abbrev F.semiring_rationals:Nat:=213
theorem fn.semiring_rationals:P.funcs[F.semiring_rationals]? = some Tryz.f213:=Tryz.func213
abbrev F.rational_Sub:Nat:=218
theorem fn.rational_Sub:P.funcs[F.rational_Sub]? = some Tryz.f218:=Tryz.func218
abbrev F.slices_IndexFunc_Rats_Rat:Nat:=219
theorem fn.slices_IndexFunc_Rats_Rat:P.funcs[F.slices_IndexFunc_Rats_Rat]? = some Tryz.f219:=Tryz.func219
abbrev F.slices_Grow_Rats_Rat:Nat:=220
theorem fn.slices_Grow_Rats_Rat:P.funcs[F.slices_Grow_Rats_Rat]? = some Tryz.f220:=Tryz.func220
abbrev F.math_bits_LeadingZeros32:Nat:=221
theorem fn.math_bits_LeadingZeros32:P.funcs[F.math_bits_LeadingZeros32]? = some Tryz.f221:=Tryz.func221
abbrev F.slices_IndexFunc_Weight_Weight:Nat:=223
theorem fn.slices_IndexFunc_Weight_Weight:P.funcs[F.slices_IndexFunc_Weight_Weight]? = some Tryz.f223:=Tryz.func223
abbrev F.slices_insertionSortCmpFunc_Arc:Nat:=224
theorem fn.slices_insertionSortCmpFunc_Arc:P.funcs[F.slices_insertionSortCmpFunc_Arc]? = some Tryz.f224:=Tryz.func224
abbrev F.slices_symMergeCmpFunc_Arc:Nat:=225
theorem fn.slices_symMergeCmpFunc_Arc:P.funcs[F.slices_symMergeCmpFunc_Arc]? = some Tryz.f225:=Tryz.func225
abbrev F.semiring_sameRat:Nat:=227
theorem fn.semiring_sameRat:P.funcs[F.semiring_sameRat]? = some Tryz.f227:=Tryz.func227
abbrev F.slices_EqualFunc_Monomial_Monomial_Monomial_Monomial:Nat:=228
theorem fn.slices_EqualFunc_Monomial_Monomial_Monomial_Monomial:P.funcs[F.slices_EqualFunc_Monomial_Monomial_Monomial_Monomial]? = some Tryz.f228:=Tryz.func228
abbrev F.slices_EqualFunc_Weight_Weight_Weight_Weight:Nat:=229
theorem fn.slices_EqualFunc_Weight_Weight_Weight_Weight:P.funcs[F.slices_EqualFunc_Weight_Weight_Weight_Weight]? = some Tryz.f229:=Tryz.func229
abbrev F.semiring_rationals_1:Nat:=235
theorem fn.semiring_rationals_1:P.funcs[F.semiring_rationals_1]? = some Tryz.f235:=Tryz.func235
abbrev F.semiring_rationals_2:Nat:=236
theorem fn.semiring_rationals_2:P.funcs[F.semiring_rationals_2]? = some Tryz.f236:=Tryz.func236
abbrev F.semiring_rationals_3:Nat:=237
theorem fn.semiring_rationals_3:P.funcs[F.semiring_rationals_3]? = some Tryz.f237:=Tryz.func237
abbrev F.semiring_rationals_4:Nat:=239
theorem fn.semiring_rationals_4:P.funcs[F.semiring_rationals_4]? = some Tryz.f239:=Tryz.func239
abbrev F.semiring_rationals_5:Nat:=240
theorem fn.semiring_rationals_5:P.funcs[F.semiring_rationals_5]? = some Tryz.f240:=Tryz.func240
abbrev F.semiring_quotient:Nat:=241
theorem fn.semiring_quotient:P.funcs[F.semiring_quotient]? = some Tryz.f241:=Tryz.func241
abbrev F.semiring_never:Nat:=242
theorem fn.semiring_never:P.funcs[F.semiring_never]? = some Tryz.f242:=Tryz.func242
abbrev F.semiring_rationals_6:Nat:=243
theorem fn.semiring_rationals_6:P.funcs[F.semiring_rationals_6]? = some Tryz.f243:=Tryz.func243
abbrev F.semiring_readNumber:Nat:=245
theorem fn.semiring_readNumber:P.funcs[F.semiring_readNumber]? = some Tryz.f245:=Tryz.func245
abbrev F.rational_fraction_negative:Nat:=289
theorem fn.rational_fraction_negative:P.funcs[F.rational_fraction_negative]? = some Tryz.f289:=Tryz.func289
abbrev F.slices_rotateCmpFunc_Arc:Nat:=290
theorem fn.slices_rotateCmpFunc_Arc:P.funcs[F.slices_rotateCmpFunc_Arc]? = some Tryz.f290:=Tryz.func290
abbrev F.slices_Equal_uint32s_uint32:Nat:=291
theorem fn.slices_Equal_uint32s_uint32:P.funcs[F.slices_Equal_uint32s_uint32]? = some Tryz.f291:=Tryz.func291
abbrev F.slices_swapRangeCmpFunc_Arc:Nat:=326
theorem fn.slices_swapRangeCmpFunc_Arc:P.funcs[F.slices_swapRangeCmpFunc_Arc]? = some Tryz.f326:=Tryz.func326
abbrev T.i64:Nat:=2
theorem ce.i64:CellT P 2:=⟨by kernel_rfl,by kernel_rfl⟩
theorem it.i64:IntT P 2 .i64:=⟨by kernel_rfl⟩
theorem z.i64:ZeroT P 2 [.d (.sc (.int .i64 0))]:=⟨by kernel_rfl⟩
theorem sz.i64:(P.info? 2).map (·.size)=some 1:=by kernel_rfl
abbrev T.int:Nat:=3
theorem ce.int:CellT P 3:=⟨by kernel_rfl,by kernel_rfl⟩
theorem it.int:IntT P 3 .i64:=⟨by kernel_rfl⟩
theorem z.int:ZeroT P 3 [.d (.sc (.int .i64 0))]:=⟨by kernel_rfl⟩
theorem sz.int:(P.info? 3).map (·.size)=some 1:=by kernel_rfl
abbrev T.bool:Nat:=4
theorem ce.bool:CellT P 4:=⟨by kernel_rfl,by kernel_rfl⟩
theorem bt.bool:BoolT P 4:=⟨by kernel_rfl⟩
theorem z.bool:ZeroT P 4 [.d (.sc (.bool false))]:=⟨by kernel_rfl⟩
theorem sz.bool:(P.info? 4).map (·.size)=some 1:=by kernel_rfl
abbrev T.u8:Nat:=5
theorem ce.u8:CellT P 5:=⟨by kernel_rfl,by kernel_rfl⟩
theorem it.u8:IntT P 5 .u8:=⟨by kernel_rfl⟩
theorem z.u8:ZeroT P 5 [.d (.sc (.int .u8 0))]:=⟨by kernel_rfl⟩
theorem sz.u8:(P.info? 5).map (·.size)=some 1:=by kernel_rfl
abbrev T.ints:Nat:=22
theorem sl.ints:SliceT P 22 3 1 8:=⟨by kernel_rfl,by kernel_rfl,by decide⟩
theorem ce.ints:CellT P 22:=⟨by kernel_rfl,by kernel_rfl⟩
theorem z.ints:ZeroT P 22 [.mt]:=⟨by kernel_rfl⟩
theorem sz.ints:(P.info? 22).map (·.size)=some 1:=by kernel_rfl
abbrev T.Chain:Nat:=24
theorem ag.Chain:AggT P 24 3:=⟨by kernel_rfl,by kernel_rfl⟩
theorem cc.Chain:ConcT P 24:=by unfold ConcT;kernel_rfl
theorem fd.Chain_0:FieldT P 24 0 0:=⟨by kernel_rfl⟩
theorem fd.Chain_1:FieldT P 24 1 1:=⟨by kernel_rfl⟩
theorem fd.Chain_2:FieldT P 24 2 2:=⟨by kernel_rfl⟩
theorem z.Chain:ZeroT P 24 [.d (.sc (.int .i64 0)),.d (.sc (.int .i64 0)),.mt]:=⟨by kernel_rfl⟩
theorem pl.Chain:PlacesT P 24 [(0,1),(1,1),(2,1)]:=⟨by kernel_rfl⟩
theorem sz.Chain:(P.info? 24).map (·.size)=some 3:=by kernel_rfl
abbrev T.u32s:Nat:=25
theorem sl.u32s:SliceT P 25 128 1 4:=⟨by kernel_rfl,by kernel_rfl,by decide⟩
theorem ce.u32s:CellT P 25:=⟨by kernel_rfl,by kernel_rfl⟩
theorem z.u32s:ZeroT P 25 [.mt]:=⟨by kernel_rfl⟩
theorem sz.u32s:(P.info? 25).map (·.size)=some 1:=by kernel_rfl
abbrev T.Rat:Nat:=27
theorem ag.Rat:AggT P 27 3:=⟨by kernel_rfl,by kernel_rfl⟩
theorem cc.Rat:ConcT P 27:=by unfold ConcT;kernel_rfl
theorem fd.Rat_0:FieldT P 27 0 0:=⟨by kernel_rfl⟩
theorem fd.Rat_1:FieldT P 27 1 1:=⟨by kernel_rfl⟩
theorem fd.Rat_2:FieldT P 27 2 2:=⟨by kernel_rfl⟩
theorem z.Rat:ZeroT P 27 [.d (.sc (.bool false)),.mt,.mt]:=⟨by kernel_rfl⟩
theorem pl.Rat:PlacesT P 27 [(0,1),(1,1),(2,1)]:=⟨by kernel_rfl⟩
theorem sz.Rat:(P.info? 27).map (·.size)=some 3:=by kernel_rfl
abbrev T.Rats:Nat:=28
theorem sl.Rats:SliceT P 28 27 3 56:=⟨by kernel_rfl,by kernel_rfl,by decide⟩
theorem ce.Rats:CellT P 28:=⟨by kernel_rfl,by kernel_rfl⟩
theorem z.Rats:ZeroT P 28 [.mt]:=⟨by kernel_rfl⟩
theorem sz.Rats:(P.info? 28).map (·.size)=some 1:=by kernel_rfl
abbrev T.Ratss:Nat:=29
theorem sl.Ratss:SliceT P 29 28 1 24:=⟨by kernel_rfl,by kernel_rfl,by decide⟩
theorem ce.Ratss:CellT P 29:=⟨by kernel_rfl,by kernel_rfl⟩
theorem z.Ratss:ZeroT P 29 [.mt]:=⟨by kernel_rfl⟩
theorem sz.Ratss:(P.info? 29).map (·.size)=some 1:=by kernel_rfl
abbrev T.bools:Nat:=30
theorem sl.bools:SliceT P 30 4 1 1:=⟨by kernel_rfl,by kernel_rfl,by decide⟩
theorem ce.bools:CellT P 30:=⟨by kernel_rfl,by kernel_rfl⟩
theorem z.bools:ZeroT P 30 [.mt]:=⟨by kernel_rfl⟩
theorem sz.bools:(P.info? 30).map (·.size)=some 1:=by kernel_rfl
abbrev T.Hidden:Nat:=32
theorem ag.Hidden:AggT P 32 11:=⟨by kernel_rfl,by kernel_rfl⟩
theorem cc.Hidden:ConcT P 32:=by unfold ConcT;kernel_rfl
theorem fd.Hidden_0:FieldT P 32 0 0:=⟨by kernel_rfl⟩
theorem fd.Hidden_1:FieldT P 32 1 1:=⟨by kernel_rfl⟩
theorem fd.Hidden_2:FieldT P 32 2 2:=⟨by kernel_rfl⟩
theorem fd.Hidden_3:FieldT P 32 3 5:=⟨by kernel_rfl⟩
theorem fd.Hidden_4:FieldT P 32 4 6:=⟨by kernel_rfl⟩
theorem fd.Hidden_5:FieldT P 32 5 7:=⟨by kernel_rfl⟩
theorem fd.Hidden_6:FieldT P 32 6 8:=⟨by kernel_rfl⟩
theorem fd.Hidden_7:FieldT P 32 7 9:=⟨by kernel_rfl⟩
theorem fd.Hidden_8:FieldT P 32 8 10:=⟨by kernel_rfl⟩
theorem z.Hidden:ZeroT P 32 [.d (.sc (.int .i64 0)),.d (.sc (.int .i64 0)),.d (.sc (.bool false)),.mt,.mt,.mt,.mt,.mt,.mt,.mt,.mt]:=⟨by kernel_rfl⟩
theorem pl.Hidden:PlacesT P 32 [(0,1),(1,1),(2,3),(5,1),(6,1),(7,1),(8,1),(9,1),(10,1)]:=⟨by kernel_rfl⟩
theorem sz.Hidden:(P.info? 32).map (·.size)=some 11:=by kernel_rfl
abbrev T.Ring:Nat:=36
theorem ag.Ring:AggT P 36 2:=⟨by kernel_rfl,by kernel_rfl⟩
theorem cc.Ring:ConcT P 36:=by unfold ConcT;kernel_rfl
theorem fd.Ring_0:FieldT P 36 0 0:=⟨by kernel_rfl⟩
theorem fd.Ring_1:FieldT P 36 1 1:=⟨by kernel_rfl⟩
theorem z.Ring:ZeroT P 36 [.d (.sc (.int .i64 0)),.mt]:=⟨by kernel_rfl⟩
theorem pl.Ring:PlacesT P 36 [(0,1),(1,1)]:=⟨by kernel_rfl⟩
theorem sz.Ring:(P.info? 36).map (·.size)=some 2:=by kernel_rfl
abbrev T.Weights:Nat:=37
theorem sl.Weights:SliceT P 37 47 8 128:=⟨by kernel_rfl,by kernel_rfl,by decide⟩
theorem ce.Weights:CellT P 37:=⟨by kernel_rfl,by kernel_rfl⟩
theorem z.Weights:ZeroT P 37 [.mt]:=⟨by kernel_rfl⟩
theorem sz.Weights:(P.info? 37).map (·.size)=some 1:=by kernel_rfl
abbrev T.Arcs:Nat:=38
theorem sl.Arcs:SliceT P 38 67 11 152:=⟨by kernel_rfl,by kernel_rfl,by decide⟩
theorem ce.Arcs:CellT P 38:=⟨by kernel_rfl,by kernel_rfl⟩
theorem z.Arcs:ZeroT P 38 [.mt]:=⟨by kernel_rfl⟩
theorem sz.Arcs:(P.info? 38).map (·.size)=some 1:=by kernel_rfl
abbrev T.Auto:Nat:=40
theorem ag.Auto:AggT P 40 7:=⟨by kernel_rfl,by kernel_rfl⟩
theorem cc.Auto:ConcT P 40:=by unfold ConcT;kernel_rfl
theorem fd.Auto_0:FieldT P 40 0 0:=⟨by kernel_rfl⟩
theorem fd.Auto_1:FieldT P 40 1 2:=⟨by kernel_rfl⟩
theorem fd.Auto_2:FieldT P 40 2 3:=⟨by kernel_rfl⟩
theorem fd.Auto_3:FieldT P 40 3 4:=⟨by kernel_rfl⟩
theorem fd.Auto_4:FieldT P 40 4 5:=⟨by kernel_rfl⟩
theorem fd.Auto_5:FieldT P 40 5 6:=⟨by kernel_rfl⟩
theorem z.Auto:ZeroT P 40 [.d (.sc (.int .i64 0)),.mt,.d (.sc (.int .i64 0)),.d (.sc (.int .i64 0)),.mt,.mt,.mt]:=⟨by kernel_rfl⟩
theorem pl.Auto:PlacesT P 40 [(0,2),(2,1),(3,1),(4,1),(5,1),(6,1)]:=⟨by kernel_rfl⟩
theorem sz.Auto:(P.info? 40).map (·.size)=some 7:=by kernel_rfl
abbrev T.u64:Nat:=44
theorem ce.u64:CellT P 44:=⟨by kernel_rfl,by kernel_rfl⟩
theorem it.u64:IntT P 44 .u64:=⟨by kernel_rfl⟩
theorem z.u64:ZeroT P 44 [.d (.sc (.int .u64 0))]:=⟨by kernel_rfl⟩
theorem sz.u64:(P.info? 44).map (·.size)=some 1:=by kernel_rfl
abbrev T.Monomials:Nat:=45
theorem sl.Monomials:SliceT P 45 169 6 80:=⟨by kernel_rfl,by kernel_rfl,by decide⟩
theorem ce.Monomials:CellT P 45:=⟨by kernel_rfl,by kernel_rfl⟩
theorem z.Monomials:ZeroT P 45 [.mt]:=⟨by kernel_rfl⟩
theorem sz.Monomials:(P.info? 45).map (·.size)=some 1:=by kernel_rfl
abbrev T.Weight:Nat:=47
theorem ag.Weight:AggT P 47 8:=⟨by kernel_rfl,by kernel_rfl⟩
theorem cc.Weight:ConcT P 47:=by unfold ConcT;kernel_rfl
theorem fd.Weight_0:FieldT P 47 0 0:=⟨by kernel_rfl⟩
theorem fd.Weight_1:FieldT P 47 1 3:=⟨by kernel_rfl⟩
theorem fd.Weight_2:FieldT P 47 2 4:=⟨by kernel_rfl⟩
theorem fd.Weight_3:FieldT P 47 3 5:=⟨by kernel_rfl⟩
theorem fd.Weight_4:FieldT P 47 4 6:=⟨by kernel_rfl⟩
theorem fd.Weight_5:FieldT P 47 5 7:=⟨by kernel_rfl⟩
theorem z.Weight:ZeroT P 47 [.d (.sc (.bool false)),.mt,.mt,.d (.sc (.int .i64 0)),.d (.sc (.bool false)),.d (.sc (.int .u64 0)),.mt,.mt]:=⟨by kernel_rfl⟩
theorem pl.Weight:PlacesT P 47 [(0,3),(3,1),(4,1),(5,1),(6,1),(7,1)]:=⟨by kernel_rfl⟩
theorem sz.Weight:(P.info? 47).map (·.size)=some 8:=by kernel_rfl
abbrev T.Arc:Nat:=67
theorem ag.Arc:AggT P 67 11:=⟨by kernel_rfl,by kernel_rfl⟩
theorem cc.Arc:ConcT P 67:=by unfold ConcT;kernel_rfl
theorem fd.Arc_0:FieldT P 67 0 0:=⟨by kernel_rfl⟩
theorem fd.Arc_1:FieldT P 67 1 1:=⟨by kernel_rfl⟩
theorem fd.Arc_2:FieldT P 67 2 2:=⟨by kernel_rfl⟩
theorem fd.Arc_3:FieldT P 67 3 3:=⟨by kernel_rfl⟩
theorem z.Arc:ZeroT P 67 [.d (.sc (.int .i64 0)),.d (.sc (.int .i64 0)),.d (.sc (.int .i64 0)),.d (.sc (.bool false)),.mt,.mt,.d (.sc (.int .i64 0)),.d (.sc (.bool false)),.d (.sc (.int .u64 0)),.mt,.mt]:=⟨by kernel_rfl⟩
theorem pl.Arc:PlacesT P 67 [(0,1),(1,1),(2,1),(3,8)]:=⟨by kernel_rfl⟩
theorem sz.Arc:(P.info? 67).map (·.size)=some 11:=by kernel_rfl
abbrev T.Tape:Nat:=94
theorem ag.Tape:AggT P 94 2:=⟨by kernel_rfl,by kernel_rfl⟩
theorem cc.Tape:ConcT P 94:=by unfold ConcT;kernel_rfl
theorem fd.Tape_0:FieldT P 94 0 0:=⟨by kernel_rfl⟩
theorem fd.Tape_1:FieldT P 94 1 1:=⟨by kernel_rfl⟩
theorem z.Tape:ZeroT P 94 [.mt,.d (.sc (.int .i64 0))]:=⟨by kernel_rfl⟩
theorem pl.Tape:PlacesT P 94 [(0,1),(1,1)]:=⟨by kernel_rfl⟩
theorem sz.Tape:(P.info? 94).map (·.size)=some 2:=by kernel_rfl
abbrev T.limbs:Nat:=97
theorem sl.limbs:SliceT P 97 128 1 4:=⟨by kernel_rfl,by kernel_rfl,by decide⟩
theorem ce.limbs:CellT P 97:=⟨by kernel_rfl,by kernel_rfl⟩
theorem z.limbs:ZeroT P 97 [.mt]:=⟨by kernel_rfl⟩
theorem sz.limbs:(P.info? 97).map (·.size)=some 1:=by kernel_rfl
abbrev T.fraction:Nat:=99
theorem ag.fraction:AggT P 99 3:=⟨by kernel_rfl,by kernel_rfl⟩
theorem cc.fraction:ConcT P 99:=by unfold ConcT;kernel_rfl
theorem fd.fraction_0:FieldT P 99 0 0:=⟨by kernel_rfl⟩
theorem fd.fraction_1:FieldT P 99 1 1:=⟨by kernel_rfl⟩
theorem fd.fraction_2:FieldT P 99 2 2:=⟨by kernel_rfl⟩
theorem z.fraction:ZeroT P 99 [.d (.sc (.bool false)),.mt,.mt]:=⟨by kernel_rfl⟩
theorem pl.fraction:PlacesT P 99 [(0,1),(1,1),(2,1)]:=⟨by kernel_rfl⟩
theorem sz.fraction:(P.info? 99).map (·.size)=some 3:=by kernel_rfl
abbrev T.uint:Nat:=113
theorem ce.uint:CellT P 113:=⟨by kernel_rfl,by kernel_rfl⟩
theorem it.uint:IntT P 113 .u64:=⟨by kernel_rfl⟩
theorem z.uint:ZeroT P 113 [.d (.sc (.int .u64 0))]:=⟨by kernel_rfl⟩
theorem sz.uint:(P.info? 113).map (·.size)=some 1:=by kernel_rfl
abbrev T.u32:Nat:=128
theorem ce.u32:CellT P 128:=⟨by kernel_rfl,by kernel_rfl⟩
theorem it.u32:IntT P 128 .u32:=⟨by kernel_rfl⟩
theorem z.u32:ZeroT P 128 [.d (.sc (.int .u32 0))]:=⟨by kernel_rfl⟩
theorem sz.u32:(P.info? 128).map (·.size)=some 1:=by kernel_rfl
abbrev T.algebra:Nat:=181
theorem ag.algebra:AggT P 181 9:=⟨by kernel_rfl,by kernel_rfl⟩
theorem cc.algebra:ConcT P 181:=by unfold ConcT;kernel_rfl
theorem fd.algebra_0:FieldT P 181 0 0:=⟨by kernel_rfl⟩
theorem fc.algebra_0:FieldC P 181 0 0:=⟨by kernel_rfl⟩
theorem fd.algebra_1:FieldT P 181 1 1:=⟨by kernel_rfl⟩
theorem fc.algebra_1:FieldC P 181 1 1:=⟨by kernel_rfl⟩
theorem fd.algebra_3:FieldT P 181 3 3:=⟨by kernel_rfl⟩
theorem fc.algebra_3:FieldC P 181 3 3:=⟨by kernel_rfl⟩
theorem fd.algebra_4:FieldT P 181 4 4:=⟨by kernel_rfl⟩
theorem fc.algebra_4:FieldC P 181 4 4:=⟨by kernel_rfl⟩
theorem z.algebra:ZeroT P 181 [.d (.sc .nilFunc),.d (.sc .nilFunc),.d (.sc .nilFunc),.d (.sc .nilFunc),.d (.sc .nilFunc),.d (.sc .nilFunc),.d (.sc .nilFunc),.d (.sc .nilFunc),.d (.sc .nilFunc)]:=⟨by kernel_rfl⟩
theorem pl.algebra:PlacesT P 181 [(0,1),(1,1),(2,1),(3,1),(4,1),(5,1),(6,1),(7,1),(8,1)]:=⟨by kernel_rfl⟩
theorem sz.algebra:(P.info? 181).map (·.size)=some 9:=by kernel_rfl
abbrev T.fn110:Nat:=110
theorem ce.fn110:CellT P 110:=⟨by kernel_rfl,by kernel_rfl⟩
theorem z.fn110:ZeroT P 110 [.d (.sc .nilFunc)]:=⟨by kernel_rfl⟩
theorem sz.fn110:(P.info? 110).map (·.size)=some 1:=by kernel_rfl
theorem st.str:P.underlying 9=some .string:=by kernel_rfl
end Go.Proofs.YteiohkpjgcioaaaGreatDoor
