/-
  Names for the functions of this seat, and facts on its types (printed by hdr.py).
-/
import Derived.Test.YtocehciipjhlkaaGreatDoorChecked
import Derived.KernelRfl
import Derived.Test.YtocehciipjhlkaaGreatDoorKNumb
import Derived.Test.YtocehciipjhlkaaGreatDoorKAlg37
set_option linter.unusedVariables false
set_option linter.unusedSimpArgs false
namespace Go.Proofs.YtocehciipjhlkaaGreatDoor
open Go Go.AL
noncomputable abbrev P:Program:=Tryz.prog
theorem order_free:P.follows .mixedOrders=true:=by kernel_rfl
abbrev F.law34_ForwardMeetsBackward:Nat:=3
theorem fn.law34_ForwardMeetsBackward:P.funcs[F.law34_ForwardMeetsBackward]? = some Tryz.f3:=Tryz.func3
abbrev F.world_Chain_Hidden:Nat:=4
theorem fn.world_Chain_Hidden:P.funcs[F.world_Chain_Hidden]? = some Tryz.f4:=Tryz.func4
abbrev F.world_Word:Nat:=5
theorem fn.world_Word:P.funcs[F.world_Word]? = some Tryz.f5:=Tryz.func5
abbrev F.forward_Forward:Nat:=6
theorem fn.forward_Forward:P.funcs[F.forward_Forward]? = some Tryz.f6:=Tryz.func6
abbrev F.forward_Backward:Nat:=7
theorem fn.forward_Backward:P.funcs[F.forward_Backward]? = some Tryz.f7:=Tryz.func7
abbrev F.forward_Likelihood:Nat:=8
theorem fn.forward_Likelihood:P.funcs[F.forward_Likelihood]? = some Tryz.f8:=Tryz.func8
abbrev F.hmm_Automaton:Nat:=9
theorem fn.hmm_Automaton:P.funcs[F.hmm_Automaton]? = some Tryz.f9:=Tryz.func9
abbrev F.ref08_Weight:Nat:=10
theorem fn.ref08_Weight:P.funcs[F.ref08_Weight]? = some Tryz.f10:=Tryz.func10
abbrev F.ref01_Compare:Nat:=11
theorem fn.ref01_Compare:P.funcs[F.ref01_Compare]? = some Tryz.f11:=Tryz.func11
abbrev F.ref01_Add:Nat:=12
theorem fn.ref01_Add:P.funcs[F.ref01_Add]? = some Tryz.f12:=Tryz.func12
abbrev F.ref01_Mul:Nat:=13
theorem fn.ref01_Mul:P.funcs[F.ref01_Mul]? = some Tryz.f13:=Tryz.func13
abbrev F.law34_known:Nat:=14
theorem fn.law34_known:P.funcs[F.law34_known]? = some Tryz.f14:=Tryz.func14
abbrev F.world_Chain_made:Nat:=15
theorem fn.world_Chain_made:P.funcs[F.world_Chain_made]? = some Tryz.f15:=Tryz.func15
abbrev F.world_Within:Nat:=16
theorem fn.world_Within:P.funcs[F.world_Within]? = some Tryz.f16:=Tryz.func16
abbrev F.forward_refuse:Nat:=17
theorem fn.forward_refuse:P.funcs[F.forward_refuse]? = some Tryz.f17:=Tryz.func17
abbrev F.forward_forward:Nat:=18
theorem fn.forward_forward:P.funcs[F.forward_forward]? = some Tryz.f18:=Tryz.func18
abbrev F.forward_backward:Nat:=19
theorem fn.forward_backward:P.funcs[F.forward_backward]? = some Tryz.f19:=Tryz.func19
abbrev F.forward_likelihood:Nat:=20
theorem fn.forward_likelihood:P.funcs[F.forward_likelihood]? = some Tryz.f20:=Tryz.func20
abbrev F.hmm_Valid:Nat:=21
theorem fn.hmm_Valid:P.funcs[F.hmm_Valid]? = some Tryz.f21:=Tryz.func21
abbrev F.hmm_weight:Nat:=22
theorem fn.hmm_weight:P.funcs[F.hmm_weight]? = some Tryz.f22:=Tryz.func22
abbrev F.hmm_one:Nat:=23
theorem fn.hmm_one:P.funcs[F.hmm_one]? = some Tryz.f23:=Tryz.func23
abbrev F.hmm_Emitting:Nat:=24
theorem fn.hmm_Emitting:P.funcs[F.hmm_Emitting]? = some Tryz.f24:=Tryz.func24
abbrev F.rational_Mul:Nat:=25
theorem fn.rational_Mul:P.funcs[F.rational_Mul]? = some Tryz.f25:=Tryz.func25
abbrev F.rational_Sign:Nat:=26
theorem fn.rational_Sign:P.funcs[F.rational_Sign]? = some Tryz.f26:=Tryz.func26
abbrev F.automaton_Normal:Nat:=27
theorem fn.automaton_Normal:P.funcs[F.automaton_Normal]? = some Tryz.f27:=Tryz.func27
abbrev F.ref08_Forward:Nat:=28
theorem fn.ref08_Forward:P.funcs[F.ref08_Forward]? = some Tryz.f28:=Tryz.func28
abbrev F.ref08_Dot:Nat:=29
theorem fn.ref08_Dot:P.funcs[F.ref08_Dot]? = some Tryz.f29:=Tryz.func29
abbrev F.ref01_Sign:Nat:=30
theorem fn.ref01_Sign:P.funcs[F.ref01_Sign]? = some Tryz.f30:=Tryz.func30
abbrev F.ref01_Sub:Nat:=31
theorem fn.ref01_Sub:P.funcs[F.ref01_Sub]? = some Tryz.f31:=Tryz.func31
abbrev F.ref01_Take:Nat:=32
theorem fn.ref01_Take:P.funcs[F.ref01_Take]? = some Tryz.f32:=Tryz.func32
abbrev F.ref01_times:Nat:=33
theorem fn.ref01_times:P.funcs[F.ref01_times]? = some Tryz.f33:=Tryz.func33
abbrev F.ref01_den:Nat:=34
theorem fn.ref01_den:P.funcs[F.ref01_den]? = some Tryz.f34:=Tryz.func34
abbrev F.ref01_over:Nat:=35
theorem fn.ref01_over:P.funcs[F.ref01_over]? = some Tryz.f35:=Tryz.func35
abbrev F.ref01_plus:Nat:=36
theorem fn.ref01_plus:P.funcs[F.ref01_plus]? = some Tryz.f36:=Tryz.func36
abbrev F.ref01_compare:Nat:=37
theorem fn.ref01_compare:P.funcs[F.ref01_compare]? = some Tryz.f37:=Tryz.func37
abbrev F.ref01_minus:Nat:=38
theorem fn.ref01_minus:P.funcs[F.ref01_minus]? = some Tryz.f38:=Tryz.func38
abbrev F.ref01_Make:Nat:=39
theorem fn.ref01_Make:P.funcs[F.ref01_Make]? = some Tryz.f39:=Tryz.func39
abbrev F.ref33_Whole:Nat:=40
theorem fn.ref33_Whole:P.funcs[F.ref33_Whole]? = some Tryz.f40:=Tryz.func40
abbrev F.forward_Expected:Nat:=41
theorem fn.forward_Expected:P.funcs[F.forward_Expected]? = some Tryz.f41:=Tryz.func41
abbrev F.world_Shares:Nat:=42
theorem fn.world_Shares:P.funcs[F.world_Shares]? = some Tryz.f42:=Tryz.func42
abbrev F.world_Tape_Next:Nat:=43
theorem fn.world_Tape_Next:P.funcs[F.world_Tape_Next]? = some Tryz.f43:=Tryz.func43
abbrev F.world_sameRats:Nat:=44
theorem fn.world_sameRats:P.funcs[F.world_sameRats]? = some Tryz.f44:=Tryz.func44
abbrev F.hmm_Plain:Nat:=45
theorem fn.hmm_Plain:P.funcs[F.hmm_Plain]? = some Tryz.f45:=Tryz.func45
abbrev F.words_Valid:Nat:=46
theorem fn.words_Valid:P.funcs[F.words_Valid]? = some Tryz.f46:=Tryz.func46
abbrev F.rational_Add:Nat:=47
theorem fn.rational_Add:P.funcs[F.rational_Add]? = some Tryz.f47:=Tryz.func47
abbrev F.fresh_Rat:Nat:=48
theorem fn.fresh_Rat:P.funcs[F.fresh_Rat]? = some Tryz.f48:=Tryz.func48
abbrev F.hmm_formed:Nat:=49
theorem fn.hmm_formed:P.funcs[F.hmm_formed]? = some Tryz.f49:=Tryz.func49
abbrev F.hmm_sums:Nat:=50
theorem fn.hmm_sums:P.funcs[F.hmm_sums]? = some Tryz.f50:=Tryz.func50
abbrev F.hmm_order:Nat:=51
theorem fn.hmm_order:P.funcs[F.hmm_order]? = some Tryz.f51:=Tryz.func51
abbrev F.hmm_tied:Nat:=52
theorem fn.hmm_tied:P.funcs[F.hmm_tied]? = some Tryz.f52:=Tryz.func52
abbrev F.rational_Make:Nat:=53
theorem fn.rational_Make:P.funcs[F.rational_Make]? = some Tryz.f53:=Tryz.func53
abbrev F.slices_Sort_ints_int:Nat:=54
theorem fn.slices_Sort_ints_int:P.funcs[F.slices_Sort_ints_int]? = some Tryz.f54:=Tryz.func54
abbrev F.slices_Compact_ints_int:Nat:=55
theorem fn.slices_Compact_ints_int:P.funcs[F.slices_Compact_ints_int]? = some Tryz.f55:=Tryz.func55
abbrev F.hmm_Emitting_1:Nat:=56
theorem fn.hmm_Emitting_1:P.funcs[F.hmm_Emitting_1]? = some Tryz.f56:=Tryz.func56
abbrev F.hmm_through:Nat:=57
theorem fn.hmm_through:P.funcs[F.hmm_through]? = some Tryz.f57:=Tryz.func57
abbrev F.slices_BinarySearch_ints_int:Nat:=58
theorem fn.slices_BinarySearch_ints_int:P.funcs[F.slices_BinarySearch_ints_int]? = some Tryz.f58:=Tryz.func58
abbrev F.fresh_Rats:Nat:=59
theorem fn.fresh_Rats:P.funcs[F.fresh_Rats]? = some Tryz.f59:=Tryz.func59
abbrev F.rational_of:Nat:=60
theorem fn.rational_of:P.funcs[F.rational_of]? = some Tryz.f60:=Tryz.func60
abbrev F.rational_limbs_times:Nat:=61
theorem fn.rational_limbs_times:P.funcs[F.rational_limbs_times]? = some Tryz.f61:=Tryz.func61
abbrev F.rational_fraction_rat:Nat:=62
theorem fn.rational_fraction_rat:P.funcs[F.rational_fraction_rat]? = some Tryz.f62:=Tryz.func62
abbrev F.automaton_Valid:Nat:=63
theorem fn.automaton_Valid:P.funcs[F.automaton_Valid]? = some Tryz.f63:=Tryz.func63
abbrev F.automaton_ring:Nat:=64
theorem fn.automaton_ring:P.funcs[F.automaton_ring]? = some Tryz.f64:=Tryz.func64
abbrev F.automaton_Copy:Nat:=65
theorem fn.automaton_Copy:P.funcs[F.automaton_Copy]? = some Tryz.f65:=Tryz.func65
abbrev F.automaton_Tidy:Nat:=66
theorem fn.automaton_Tidy:P.funcs[F.automaton_Tidy]? = some Tryz.f66:=Tryz.func66
abbrev F.ref08_check:Nat:=67
theorem fn.ref08_check:P.funcs[F.ref08_check]? = some Tryz.f67:=Tryz.func67
abbrev F.ref06_Form:Nat:=68
theorem fn.ref06_Form:P.funcs[F.ref06_Form]? = some Tryz.f68:=Tryz.func68
abbrev F.ref08_step:Nat:=69
theorem fn.ref08_step:P.funcs[F.ref08_step]? = some Tryz.f69:=Tryz.func69
abbrev F.ref03_Zero:Nat:=70
theorem fn.ref03_Zero:P.funcs[F.ref03_Zero]? = some Tryz.f70:=Tryz.func70
abbrev F.ref03_Plus:Nat:=71
theorem fn.ref03_Plus:P.funcs[F.ref03_Plus]? = some Tryz.f71:=Tryz.func71
abbrev F.ref03_Times:Nat:=72
theorem fn.ref03_Times:P.funcs[F.ref03_Times]? = some Tryz.f72:=Tryz.func72
abbrev F.ref01_Neg:Nat:=73
theorem fn.ref01_Neg:P.funcs[F.ref01_Neg]? = some Tryz.f73:=Tryz.func73
abbrev F.ref01_Valid:Nat:=74
theorem fn.ref01_Valid:P.funcs[F.ref01_Valid]? = some Tryz.f74:=Tryz.func74
abbrev F.ref01_trim:Nat:=75
theorem fn.ref01_trim:P.funcs[F.ref01_trim]? = some Tryz.f75:=Tryz.func75
abbrev F.ref01_divisor:Nat:=76
theorem fn.ref01_divisor:P.funcs[F.ref01_divisor]? = some Tryz.f76:=Tryz.func76
abbrev F.ref01_divide:Nat:=77
theorem fn.ref01_divide:P.funcs[F.ref01_divide]? = some Tryz.f77:=Tryz.func77
abbrev F.ref01_one:Nat:=78
theorem fn.ref01_one:P.funcs[F.ref01_one]? = some Tryz.f78:=Tryz.func78
abbrev F.ref01_limb:Nat:=79
theorem fn.ref01_limb:P.funcs[F.ref01_limb]? = some Tryz.f79:=Tryz.func79
abbrev F.ref01_sign:Nat:=80
theorem fn.ref01_sign:P.funcs[F.ref01_sign]? = some Tryz.f80:=Tryz.func80
abbrev F.ref01_natural:Nat:=81
theorem fn.ref01_natural:P.funcs[F.ref01_natural]? = some Tryz.f81:=Tryz.func81
abbrev F.ref01_absolute:Nat:=82
theorem fn.ref01_absolute:P.funcs[F.ref01_absolute]? = some Tryz.f82:=Tryz.func82
abbrev F.forward_Posterior:Nat:=83
theorem fn.forward_Posterior:P.funcs[F.forward_Posterior]? = some Tryz.f83:=Tryz.func83
abbrev F.forward_zeros:Nat:=84
theorem fn.forward_zeros:P.funcs[F.forward_zeros]? = some Tryz.f84:=Tryz.func84
abbrev F.rational_Div:Nat:=85
theorem fn.rational_Div:P.funcs[F.rational_Div]? = some Tryz.f85:=Tryz.func85
abbrev F.slices_Contains_bools_bool:Nat:=86
theorem fn.slices_Contains_bools_bool:P.funcs[F.slices_Contains_bools_bool]? = some Tryz.f86:=Tryz.func86
abbrev F.rational_fraction_plus:Nat:=87
theorem fn.rational_fraction_plus:P.funcs[F.rational_fraction_plus]? = some Tryz.f87:=Tryz.func87
abbrev F.slices_Clone_uint32s_uint32:Nat:=88
theorem fn.slices_Clone_uint32s_uint32:P.funcs[F.slices_Clone_uint32s_uint32]? = some Tryz.f88:=Tryz.func88
abbrev F.hmm_share:Nat:=89
theorem fn.hmm_share:P.funcs[F.hmm_share]? = some Tryz.f89:=Tryz.func89
abbrev F.hmm_shares:Nat:=90
theorem fn.hmm_shares:P.funcs[F.hmm_shares]? = some Tryz.f90:=Tryz.func90
abbrev F.hmm_whole:Nat:=91
theorem fn.hmm_whole:P.funcs[F.hmm_whole]? = some Tryz.f91:=Tryz.func91
abbrev F.hmm_order_1:Nat:=92
theorem fn.hmm_order_1:P.funcs[F.hmm_order_1]? = some Tryz.f92:=Tryz.func92
abbrev F.slices_Reverse_ints_int:Nat:=93
theorem fn.slices_Reverse_ints_int:P.funcs[F.slices_Reverse_ints_int]? = some Tryz.f93:=Tryz.func93
abbrev F.hmm_equal:Nat:=94
theorem fn.hmm_equal:P.funcs[F.hmm_equal]? = some Tryz.f94:=Tryz.func94
abbrev F.rational_whole:Nat:=95
theorem fn.rational_whole:P.funcs[F.rational_whole]? = some Tryz.f95:=Tryz.func95
abbrev F.slices_pdqsortOrdered_int:Nat:=96
theorem fn.slices_pdqsortOrdered_int:P.funcs[F.slices_pdqsortOrdered_int]? = some Tryz.f96:=Tryz.func96
abbrev F.math_bits_Len:Nat:=97
theorem fn.math_bits_Len:P.funcs[F.math_bits_Len]? = some Tryz.f97:=Tryz.func97
abbrev F.cmp_Less_int:Nat:=98
theorem fn.cmp_Less_int:P.funcs[F.cmp_Less_int]? = some Tryz.f98:=Tryz.func98
abbrev F.slices_isNaN_int:Nat:=99
theorem fn.slices_isNaN_int:P.funcs[F.slices_isNaN_int]? = some Tryz.f99:=Tryz.func99
abbrev F.fresh_each_Rat:Nat:=100
theorem fn.fresh_each_Rat:P.funcs[F.fresh_each_Rat]? = some Tryz.f100:=Tryz.func100
abbrev F.rational_Valid:Nat:=101
theorem fn.rational_Valid:P.funcs[F.rational_Valid]? = some Tryz.f101:=Tryz.func101
abbrev F.rational_one:Nat:=102
theorem fn.rational_one:P.funcs[F.rational_one]? = some Tryz.f102:=Tryz.func102
abbrev F.rational_limbs_at:Nat:=103
theorem fn.rational_limbs_at:P.funcs[F.rational_limbs_at]? = some Tryz.f103:=Tryz.func103
abbrev F.rational_limbs_clean:Nat:=104
theorem fn.rational_limbs_clean:P.funcs[F.rational_limbs_clean]? = some Tryz.f104:=Tryz.func104
abbrev F.slices_Clone_rational_limbs_uint32:Nat:=105
theorem fn.slices_Clone_rational_limbs_uint32:P.funcs[F.slices_Clone_rational_limbs_uint32]? = some Tryz.f105:=Tryz.func105
abbrev F.rational_limbs_gcd:Nat:=106
theorem fn.rational_limbs_gcd:P.funcs[F.rational_limbs_gcd]? = some Tryz.f106:=Tryz.func106
abbrev F.rational_limbs_cmp:Nat:=107
theorem fn.rational_limbs_cmp:P.funcs[F.rational_limbs_cmp]? = some Tryz.f107:=Tryz.func107
abbrev F.rational_limbs_over:Nat:=108
theorem fn.rational_limbs_over:P.funcs[F.rational_limbs_over]? = some Tryz.f108:=Tryz.func108
abbrev F.semiring_Valid:Nat:=109
theorem fn.semiring_Valid:P.funcs[F.semiring_Valid]? = some Tryz.f109:=Tryz.func109
abbrev F.slices_ContainsFunc_Arc_Arc:Nat:=110
theorem fn.slices_ContainsFunc_Arc_Arc:P.funcs[F.slices_ContainsFunc_Arc_Arc]? = some Tryz.f110:=Tryz.func110
abbrev F.automaton_Valid_1:Nat:=111
theorem fn.automaton_Valid_1:P.funcs[F.automaton_Valid_1]? = some Tryz.f111:=Tryz.func111
abbrev F.automaton_inside:Nat:=112
theorem fn.automaton_inside:P.funcs[F.automaton_inside]? = some Tryz.f112:=Tryz.func112
abbrev F.automaton_weights:Nat:=113
theorem fn.automaton_weights:P.funcs[F.automaton_weights]? = some Tryz.f113:=Tryz.func113
abbrev F.slices_Clone_ints_int:Nat:=114
theorem fn.slices_Clone_ints_int:P.funcs[F.slices_Clone_ints_int]? = some Tryz.f114:=Tryz.func114
abbrev F.semiring_Plus:Nat:=115
theorem fn.semiring_Plus:P.funcs[F.semiring_Plus]? = some Tryz.f115:=Tryz.func115
abbrev F.semiring_Zero:Nat:=116
theorem fn.semiring_Zero:P.funcs[F.semiring_Zero]? = some Tryz.f116:=Tryz.func116
abbrev F.slices_Clone_Arc_Arc:Nat:=117
theorem fn.slices_Clone_Arc_Arc:P.funcs[F.slices_Clone_Arc_Arc]? = some Tryz.f117:=Tryz.func117
abbrev F.slices_SortStableFunc_Arc_Arc:Nat:=118
theorem fn.slices_SortStableFunc_Arc_Arc:P.funcs[F.slices_SortStableFunc_Arc_Arc]? = some Tryz.f118:=Tryz.func118
abbrev F.automaton_order:Nat:=119
theorem fn.automaton_order:P.funcs[F.automaton_order]? = some Tryz.f119:=Tryz.func119
abbrev F.slices_DeleteFunc_Arc_Arc:Nat:=120
theorem fn.slices_DeleteFunc_Arc_Arc:P.funcs[F.slices_DeleteFunc_Arc_Arc]? = some Tryz.f120:=Tryz.func120
abbrev F.automaton_Tidy_1:Nat:=121
theorem fn.automaton_Tidy_1:P.funcs[F.automaton_Tidy_1]? = some Tryz.f121:=Tryz.func121
abbrev F.automaton_IsZero:Nat:=122
theorem fn.automaton_IsZero:P.funcs[F.automaton_IsZero]? = some Tryz.f122:=Tryz.func122
abbrev F.ref06_Valid:Nat:=123
theorem fn.ref06_Valid:P.funcs[F.ref06_Valid]? = some Tryz.f123:=Tryz.func123
abbrev F.ref08_Plain:Nat:=124
theorem fn.ref08_Plain:P.funcs[F.ref08_Plain]? = some Tryz.f124:=Tryz.func124
abbrev F.ref05_Valid:Nat:=125
theorem fn.ref05_Valid:P.funcs[F.ref05_Valid]? = some Tryz.f125:=Tryz.func125
abbrev F.ref06_ring:Nat:=126
theorem fn.ref06_ring:P.funcs[F.ref06_ring]? = some Tryz.f126:=Tryz.func126
abbrev F.ref06_take:Nat:=127
theorem fn.ref06_take:P.funcs[F.ref06_take]? = some Tryz.f127:=Tryz.func127
abbrev F.ref06_Arcs:Nat:=128
theorem fn.ref06_Arcs:P.funcs[F.ref06_Arcs]? = some Tryz.f128:=Tryz.func128
abbrev F.ref03_Zeros:Nat:=129
theorem fn.ref03_Zeros:P.funcs[F.ref03_Zeros]? = some Tryz.f129:=Tryz.func129
abbrev F.ref03_Valid:Nat:=130
theorem fn.ref03_Valid:P.funcs[F.ref03_Valid]? = some Tryz.f130:=Tryz.func130
abbrev F.ref03_Take:Nat:=132
theorem fn.ref03_Take:P.funcs[F.ref03_Take]? = some Tryz.f132:=Tryz.func132
abbrev F.slices_Index_bools_bool:Nat:=136
theorem fn.slices_Index_bools_bool:P.funcs[F.slices_Index_bools_bool]? = some Tryz.f136:=Tryz.func136
abbrev F.rational_limbs_plus:Nat:=137
theorem fn.rational_limbs_plus:P.funcs[F.rational_limbs_plus]? = some Tryz.f137:=Tryz.func137
abbrev F.rational_limbs_minus:Nat:=138
theorem fn.rational_limbs_minus:P.funcs[F.rational_limbs_minus]? = some Tryz.f138:=Tryz.func138
abbrev F.rational_Compare:Nat:=139
theorem fn.rational_Compare:P.funcs[F.rational_Compare]? = some Tryz.f139:=Tryz.func139
abbrev F.slices_ContainsFunc_Rats_Rat:Nat:=140
theorem fn.slices_ContainsFunc_Rats_Rat:P.funcs[F.slices_ContainsFunc_Rats_Rat]? = some Tryz.f140:=Tryz.func140
abbrev F.hmm_shares_1:Nat:=141
theorem fn.hmm_shares_1:P.funcs[F.hmm_shares_1]? = some Tryz.f141:=Tryz.func141
abbrev F.slices_Concat_Rats_Rat:Nat:=142
theorem fn.slices_Concat_Rats_Rat:P.funcs[F.slices_Concat_Rats_Rat]? = some Tryz.f142:=Tryz.func142
abbrev F.slices_EqualFunc_Rats_Rats_Rat_Rat:Nat:=143
theorem fn.slices_EqualFunc_Rats_Rats_Rat_Rat:P.funcs[F.slices_EqualFunc_Rats_Rats_Rat_Rat]? = some Tryz.f143:=Tryz.func143
abbrev F.hmm_equal_1:Nat:=144
theorem fn.hmm_equal_1:P.funcs[F.hmm_equal_1]? = some Tryz.f144:=Tryz.func144
abbrev F.slices_insertionSortOrdered_int:Nat:=145
theorem fn.slices_insertionSortOrdered_int:P.funcs[F.slices_insertionSortOrdered_int]? = some Tryz.f145:=Tryz.func145
abbrev F.math_bits_Len32:Nat:=153
theorem fn.math_bits_Len32:P.funcs[F.math_bits_Len32]? = some Tryz.f153:=Tryz.func153
abbrev F.math_bits_Len64:Nat:=154
theorem fn.math_bits_Len64:P.funcs[F.math_bits_Len64]? = some Tryz.f154:=Tryz.func154
abbrev F.cmp_isNaN_int:Nat:=155
theorem fn.cmp_isNaN_int:P.funcs[F.cmp_isNaN_int]? = some Tryz.f155:=Tryz.func155
abbrev F.rational_proper:Nat:=156
theorem fn.rational_proper:P.funcs[F.rational_proper]? = some Tryz.f156:=Tryz.func156
abbrev F.rational_limbs_small:Nat:=157
theorem fn.rational_limbs_small:P.funcs[F.rational_limbs_small]? = some Tryz.f157:=Tryz.func157
abbrev F.rational_limbs_length:Nat:=158
theorem fn.rational_limbs_length:P.funcs[F.rational_limbs_length]? = some Tryz.f158:=Tryz.func158
abbrev F.rational_limbs_left:Nat:=159
theorem fn.rational_limbs_left:P.funcs[F.rational_limbs_left]? = some Tryz.f159:=Tryz.func159
abbrev F.rational_limbs_right:Nat:=160
theorem fn.rational_limbs_right:P.funcs[F.rational_limbs_right]? = some Tryz.f160:=Tryz.func160
abbrev F.semiring_single:Nat:=161
theorem fn.semiring_single:P.funcs[F.semiring_single]? = some Tryz.f161:=Tryz.func161
abbrev F.slices_IndexFunc_Arc_Arc:Nat:=164
theorem fn.slices_IndexFunc_Arc_Arc:P.funcs[F.slices_IndexFunc_Arc_Arc]? = some Tryz.f164:=Tryz.func164
abbrev F.automaton_inside_1:Nat:=165
theorem fn.automaton_inside_1:P.funcs[F.automaton_inside_1]? = some Tryz.f165:=Tryz.func165
abbrev F.semiring_Check:Nat:=166
theorem fn.semiring_Check:P.funcs[F.semiring_Check]? = some Tryz.f166:=Tryz.func166
abbrev F.slices_ContainsFunc_Weight_Weight:Nat:=167
theorem fn.slices_ContainsFunc_Weight_Weight:P.funcs[F.slices_ContainsFunc_Weight_Weight]? = some Tryz.f167:=Tryz.func167
abbrev F.automaton_weights_1:Nat:=168
theorem fn.automaton_weights_1:P.funcs[F.automaton_weights_1]? = some Tryz.f168:=Tryz.func168
abbrev F.semiring_value:Nat:=169
theorem fn.semiring_value:P.funcs[F.semiring_value]? = some Tryz.f169:=Tryz.func169
abbrev F.semiring_kind:Nat:=170
theorem fn.semiring_kind:P.funcs[F.semiring_kind]? = some Tryz.f170:=Tryz.func170
abbrev F.slices_stableCmpFunc_Arc:Nat:=174
theorem fn.slices_stableCmpFunc_Arc:P.funcs[F.slices_stableCmpFunc_Arc]? = some Tryz.f174:=Tryz.func174
abbrev F.cmp_Or_int:Nat:=175
theorem fn.cmp_Or_int:P.funcs[F.cmp_Or_int]? = some Tryz.f175:=Tryz.func175
abbrev F.cmp_Compare_int:Nat:=176
theorem fn.cmp_Compare_int:P.funcs[F.cmp_Compare_int]? = some Tryz.f176:=Tryz.func176
abbrev F.semiring_Equal:Nat:=177
theorem fn.semiring_Equal:P.funcs[F.semiring_Equal]? = some Tryz.f177:=Tryz.func177
abbrev F.ref05_Alphabet:Nat:=178
theorem fn.ref05_Alphabet:P.funcs[F.ref05_Alphabet]? = some Tryz.f178:=Tryz.func178
abbrev F.ref06_In:Nat:=179
theorem fn.ref06_In:P.funcs[F.ref06_In]? = some Tryz.f179:=Tryz.func179
abbrev F.ref06_Weights:Nat:=180
theorem fn.ref06_Weights:P.funcs[F.ref06_Weights]? = some Tryz.f180:=Tryz.func180
abbrev F.ref03_Check:Nat:=181
theorem fn.ref03_Check:P.funcs[F.ref03_Check]? = some Tryz.f181:=Tryz.func181
abbrev F.ref06_order:Nat:=182
theorem fn.ref06_order:P.funcs[F.ref06_order]? = some Tryz.f182:=Tryz.func182
abbrev F.ref03_IsZero:Nat:=183
theorem fn.ref03_IsZero:P.funcs[F.ref03_IsZero]? = some Tryz.f183:=Tryz.func183
abbrev F.ref02_Take:Nat:=184
theorem fn.ref02_Take:P.funcs[F.ref02_Take]? = some Tryz.f184:=Tryz.func184
abbrev F.rational_Sub:Nat:=186
theorem fn.rational_Sub:P.funcs[F.rational_Sub]? = some Tryz.f186:=Tryz.func186
abbrev F.slices_IndexFunc_Rats_Rat:Nat:=187
theorem fn.slices_IndexFunc_Rats_Rat:P.funcs[F.slices_IndexFunc_Rats_Rat]? = some Tryz.f187:=Tryz.func187
abbrev F.slices_Grow_Rats_Rat:Nat:=188
theorem fn.slices_Grow_Rats_Rat:P.funcs[F.slices_Grow_Rats_Rat]? = some Tryz.f188:=Tryz.func188
abbrev F.math_bits_LeadingZeros32:Nat:=194
theorem fn.math_bits_LeadingZeros32:P.funcs[F.math_bits_LeadingZeros32]? = some Tryz.f194:=Tryz.func194
abbrev F.slices_IndexFunc_Weight_Weight:Nat:=196
theorem fn.slices_IndexFunc_Weight_Weight:P.funcs[F.slices_IndexFunc_Weight_Weight]? = some Tryz.f196:=Tryz.func196
abbrev F.semiring_rationals:Nat:=197
theorem fn.semiring_rationals:P.funcs[F.semiring_rationals]? = some Tryz.f197:=Tryz.func197
abbrev F.slices_insertionSortCmpFunc_Arc:Nat:=202
theorem fn.slices_insertionSortCmpFunc_Arc:P.funcs[F.slices_insertionSortCmpFunc_Arc]? = some Tryz.f202:=Tryz.func202
abbrev F.slices_symMergeCmpFunc_Arc:Nat:=203
theorem fn.slices_symMergeCmpFunc_Arc:P.funcs[F.slices_symMergeCmpFunc_Arc]? = some Tryz.f203:=Tryz.func203
abbrev F.semiring_sameRat:Nat:=205
theorem fn.semiring_sameRat:P.funcs[F.semiring_sameRat]? = some Tryz.f205:=Tryz.func205
abbrev F.slices_EqualFunc_Monomial_Monomial_Monomial_Monomial:Nat:=206
theorem fn.slices_EqualFunc_Monomial_Monomial_Monomial_Monomial:P.funcs[F.slices_EqualFunc_Monomial_Monomial_Monomial_Monomial]? = some Tryz.f206:=Tryz.func206
abbrev F.slices_EqualFunc_Weight_Weight_Weight_Weight:Nat:=207
theorem fn.slices_EqualFunc_Weight_Weight_Weight_Weight:P.funcs[F.slices_EqualFunc_Weight_Weight_Weight_Weight]? = some Tryz.f207:=Tryz.func207
abbrev F.ref03_simple:Nat:=208
theorem fn.ref03_simple:P.funcs[F.ref03_simple]? = some Tryz.f208:=Tryz.func208
abbrev F.ref03_Equal:Nat:=209
theorem fn.ref03_Equal:P.funcs[F.ref03_Equal]? = some Tryz.f209:=Tryz.func209
abbrev F.ref05_Compare:Nat:=210
theorem fn.ref05_Compare:P.funcs[F.ref05_Compare]? = some Tryz.f210:=Tryz.func210
abbrev F.ref02_Valid:Nat:=211
theorem fn.ref02_Valid:P.funcs[F.ref02_Valid]? = some Tryz.f211:=Tryz.func211
abbrev F.rational_fraction_negative:Nat:=214
theorem fn.rational_fraction_negative:P.funcs[F.rational_fraction_negative]? = some Tryz.f214:=Tryz.func214
abbrev F.semiring_rationals_1:Nat:=216
theorem fn.semiring_rationals_1:P.funcs[F.semiring_rationals_1]? = some Tryz.f216:=Tryz.func216
abbrev F.semiring_rationals_2:Nat:=217
theorem fn.semiring_rationals_2:P.funcs[F.semiring_rationals_2]? = some Tryz.f217:=Tryz.func217
abbrev F.semiring_rationals_3:Nat:=218
theorem fn.semiring_rationals_3:P.funcs[F.semiring_rationals_3]? = some Tryz.f218:=Tryz.func218
abbrev F.semiring_rationals_4:Nat:=220
theorem fn.semiring_rationals_4:P.funcs[F.semiring_rationals_4]? = some Tryz.f220:=Tryz.func220
abbrev F.semiring_rationals_5:Nat:=221
theorem fn.semiring_rationals_5:P.funcs[F.semiring_rationals_5]? = some Tryz.f221:=Tryz.func221
abbrev F.semiring_quotient:Nat:=222
theorem fn.semiring_quotient:P.funcs[F.semiring_quotient]? = some Tryz.f222:=Tryz.func222
abbrev F.semiring_never:Nat:=223
theorem fn.semiring_never:P.funcs[F.semiring_never]? = some Tryz.f223:=Tryz.func223
abbrev F.semiring_rationals_6:Nat:=224
theorem fn.semiring_rationals_6:P.funcs[F.semiring_rationals_6]? = some Tryz.f224:=Tryz.func224
abbrev F.semiring_readNumber:Nat:=226
theorem fn.semiring_readNumber:P.funcs[F.semiring_readNumber]? = some Tryz.f226:=Tryz.func226
abbrev F.slices_rotateCmpFunc_Arc:Nat:=270
theorem fn.slices_rotateCmpFunc_Arc:P.funcs[F.slices_rotateCmpFunc_Arc]? = some Tryz.f270:=Tryz.func270
abbrev F.slices_Equal_uint32s_uint32:Nat:=271
theorem fn.slices_Equal_uint32s_uint32:P.funcs[F.slices_Equal_uint32s_uint32]? = some Tryz.f271:=Tryz.func271
abbrev F.ref01_Same:Nat:=272
theorem fn.ref01_Same:P.funcs[F.ref01_Same]? = some Tryz.f272:=Tryz.func272
abbrev F.ref02_Same:Nat:=274
theorem fn.ref02_Same:P.funcs[F.ref02_Same]? = some Tryz.f274:=Tryz.func274
abbrev F.slices_swapRangeCmpFunc_Arc:Nat:=307
theorem fn.slices_swapRangeCmpFunc_Arc:P.funcs[F.slices_swapRangeCmpFunc_Arc]? = some Tryz.f307:=Tryz.func307
abbrev F.ref01_same:Nat:=308
theorem fn.ref01_same:P.funcs[F.ref01_same]? = some Tryz.f308:=Tryz.func308
abbrev T.i64:Nat:=2
theorem ce.i64:CellT P 2:=⟨by kernel_rfl,by kernel_rfl⟩
theorem it.i64:IntT P 2 .i64:=⟨by kernel_rfl⟩
theorem z.i64:ZeroT P 2 [.d (.sc (.int .i64 0))]:=⟨by kernel_rfl⟩
theorem sz.i64:(P.info? 2).map (·.size)=some 1:=by kernel_rfl
abbrev T.int:Nat:=3
theorem ce.int:CellT P 3:=⟨by kernel_rfl,by kernel_rfl⟩
theorem it.int:IntT P 3 .i64:=⟨by kernel_rfl⟩
theorem z.int:ZeroT P 3 [.d (.sc (.int .i64 0))]:=⟨by kernel_rfl⟩
theorem sz.int:(P.info? 3).map (·.size)=some 1:=by kernel_rfl
abbrev T.bool:Nat:=4
theorem ce.bool:CellT P 4:=⟨by kernel_rfl,by kernel_rfl⟩
theorem bt.bool:BoolT P 4:=⟨by kernel_rfl⟩
theorem z.bool:ZeroT P 4 [.d (.sc (.bool false))]:=⟨by kernel_rfl⟩
theorem sz.bool:(P.info? 4).map (·.size)=some 1:=by kernel_rfl
abbrev T.u8:Nat:=5
theorem ce.u8:CellT P 5:=⟨by kernel_rfl,by kernel_rfl⟩
theorem it.u8:IntT P 5 .u8:=⟨by kernel_rfl⟩
theorem z.u8:ZeroT P 5 [.d (.sc (.int .u8 0))]:=⟨by kernel_rfl⟩
theorem sz.u8:(P.info? 5).map (·.size)=some 1:=by kernel_rfl
abbrev T.ints:Nat:=22
theorem sl.ints:SliceT P 22 3 1 8:=⟨by kernel_rfl,by kernel_rfl,by decide⟩
theorem ce.ints:CellT P 22:=⟨by kernel_rfl,by kernel_rfl⟩
theorem z.ints:ZeroT P 22 [.mt]:=⟨by kernel_rfl⟩
theorem sz.ints:(P.info? 22).map (·.size)=some 1:=by kernel_rfl
abbrev T.Chain:Nat:=24
theorem ag.Chain:AggT P 24 3:=⟨by kernel_rfl,by kernel_rfl⟩
theorem cc.Chain:ConcT P 24:=by unfold ConcT;kernel_rfl
theorem fd.Chain_0:FieldT P 24 0 0:=⟨by kernel_rfl⟩
theorem fd.Chain_1:FieldT P 24 1 1:=⟨by kernel_rfl⟩
theorem fd.Chain_2:FieldT P 24 2 2:=⟨by kernel_rfl⟩
theorem z.Chain:ZeroT P 24 [.d (.sc (.int .i64 0)),.d (.sc (.int .i64 0)),.mt]:=⟨by kernel_rfl⟩
theorem pl.Chain:PlacesT P 24 [(0,1),(1,1),(2,1)]:=⟨by kernel_rfl⟩
theorem sz.Chain:(P.info? 24).map (·.size)=some 3:=by kernel_rfl
abbrev T.u32s:Nat:=25
theorem sl.u32s:SliceT P 25 118 1 4:=⟨by kernel_rfl,by kernel_rfl,by decide⟩
theorem ce.u32s:CellT P 25:=⟨by kernel_rfl,by kernel_rfl⟩
theorem z.u32s:ZeroT P 25 [.mt]:=⟨by kernel_rfl⟩
theorem sz.u32s:(P.info? 25).map (·.size)=some 1:=by kernel_rfl
abbrev T.Rat:Nat:=27
theorem ag.Rat:AggT P 27 3:=⟨by kernel_rfl,by kernel_rfl⟩
theorem cc.Rat:ConcT P 27:=by unfold ConcT;kernel_rfl
theorem fd.Rat_0:FieldT P 27 0 0:=⟨by kernel_rfl⟩
theorem fd.Rat_1:FieldT P 27 1 1:=⟨by kernel_rfl⟩
theorem fd.Rat_2:FieldT P 27 2 2:=⟨by kernel_rfl⟩
theorem z.Rat:ZeroT P 27 [.d (.sc (.bool false)),.mt,.mt]:=⟨by kernel_rfl⟩
theorem pl.Rat:PlacesT P 27 [(0,1),(1,1),(2,1)]:=⟨by kernel_rfl⟩
theorem sz.Rat:(P.info? 27).map (·.size)=some 3:=by kernel_rfl
abbrev T.Rats:Nat:=28
theorem sl.Rats:SliceT P 28 27 3 56:=⟨by kernel_rfl,by kernel_rfl,by decide⟩
theorem ce.Rats:CellT P 28:=⟨by kernel_rfl,by kernel_rfl⟩
theorem z.Rats:ZeroT P 28 [.mt]:=⟨by kernel_rfl⟩
theorem sz.Rats:(P.info? 28).map (·.size)=some 1:=by kernel_rfl
abbrev T.Ratss:Nat:=29
theorem sl.Ratss:SliceT P 29 28 1 24:=⟨by kernel_rfl,by kernel_rfl,by decide⟩
theorem ce.Ratss:CellT P 29:=⟨by kernel_rfl,by kernel_rfl⟩
theorem z.Ratss:ZeroT P 29 [.mt]:=⟨by kernel_rfl⟩
theorem sz.Ratss:(P.info? 29).map (·.size)=some 1:=by kernel_rfl
abbrev T.bools:Nat:=30
theorem sl.bools:SliceT P 30 4 1 1:=⟨by kernel_rfl,by kernel_rfl,by decide⟩
theorem ce.bools:CellT P 30:=⟨by kernel_rfl,by kernel_rfl⟩
theorem z.bools:ZeroT P 30 [.mt]:=⟨by kernel_rfl⟩
theorem sz.bools:(P.info? 30).map (·.size)=some 1:=by kernel_rfl
abbrev T.Hidden:Nat:=32
theorem ag.Hidden:AggT P 32 11:=⟨by kernel_rfl,by kernel_rfl⟩
theorem cc.Hidden:ConcT P 32:=by unfold ConcT;kernel_rfl
theorem fd.Hidden_0:FieldT P 32 0 0:=⟨by kernel_rfl⟩
theorem fd.Hidden_1:FieldT P 32 1 1:=⟨by kernel_rfl⟩
theorem fd.Hidden_2:FieldT P 32 2 2:=⟨by kernel_rfl⟩
theorem fd.Hidden_3:FieldT P 32 3 5:=⟨by kernel_rfl⟩
theorem fd.Hidden_4:FieldT P 32 4 6:=⟨by kernel_rfl⟩
theorem fd.Hidden_5:FieldT P 32 5 7:=⟨by kernel_rfl⟩
theorem fd.Hidden_6:FieldT P 32 6 8:=⟨by kernel_rfl⟩
theorem fd.Hidden_7:FieldT P 32 7 9:=⟨by kernel_rfl⟩
theorem fd.Hidden_8:FieldT P 32 8 10:=⟨by kernel_rfl⟩
theorem z.Hidden:ZeroT P 32 [.d (.sc (.int .i64 0)),.d (.sc (.int .i64 0)),.d (.sc (.bool false)),.mt,.mt,.mt,.mt,.mt,.mt,.mt,.mt]:=⟨by kernel_rfl⟩
theorem pl.Hidden:PlacesT P 32 [(0,1),(1,1),(2,3),(5,1),(6,1),(7,1),(8,1),(9,1),(10,1)]:=⟨by kernel_rfl⟩
theorem sz.Hidden:(P.info? 32).map (·.size)=some 11:=by kernel_rfl
abbrev T.Ring:Nat:=41
theorem ag.Ring:AggT P 41 2:=⟨by kernel_rfl,by kernel_rfl⟩
theorem cc.Ring:ConcT P 41:=by unfold ConcT;kernel_rfl
theorem fd.Ring_0:FieldT P 41 0 0:=⟨by kernel_rfl⟩
theorem fd.Ring_1:FieldT P 41 1 1:=⟨by kernel_rfl⟩
theorem z.Ring:ZeroT P 41 [.d (.sc (.int .i64 0)),.mt]:=⟨by kernel_rfl⟩
theorem pl.Ring:PlacesT P 41 [(0,1),(1,1)]:=⟨by kernel_rfl⟩
theorem sz.Ring:(P.info? 41).map (·.size)=some 2:=by kernel_rfl
abbrev T.Weights:Nat:=42
theorem sl.Weights:SliceT P 42 51 8 128:=⟨by kernel_rfl,by kernel_rfl,by decide⟩
theorem ce.Weights:CellT P 42:=⟨by kernel_rfl,by kernel_rfl⟩
theorem z.Weights:ZeroT P 42 [.mt]:=⟨by kernel_rfl⟩
theorem sz.Weights:(P.info? 42).map (·.size)=some 1:=by kernel_rfl
abbrev T.Arcs:Nat:=43
theorem sl.Arcs:SliceT P 43 70 11 152:=⟨by kernel_rfl,by kernel_rfl,by decide⟩
theorem ce.Arcs:CellT P 43:=⟨by kernel_rfl,by kernel_rfl⟩
theorem z.Arcs:ZeroT P 43 [.mt]:=⟨by kernel_rfl⟩
theorem sz.Arcs:(P.info? 43).map (·.size)=some 1:=by kernel_rfl
abbrev T.Auto:Nat:=45
theorem ag.Auto:AggT P 45 7:=⟨by kernel_rfl,by kernel_rfl⟩
theorem cc.Auto:ConcT P 45:=by unfold ConcT;kernel_rfl
theorem fd.Auto_0:FieldT P 45 0 0:=⟨by kernel_rfl⟩
theorem fd.Auto_1:FieldT P 45 1 2:=⟨by kernel_rfl⟩
theorem fd.Auto_2:FieldT P 45 2 3:=⟨by kernel_rfl⟩
theorem fd.Auto_3:FieldT P 45 3 4:=⟨by kernel_rfl⟩
theorem fd.Auto_4:FieldT P 45 4 5:=⟨by kernel_rfl⟩
theorem fd.Auto_5:FieldT P 45 5 6:=⟨by kernel_rfl⟩
theorem z.Auto:ZeroT P 45 [.d (.sc (.int .i64 0)),.mt,.d (.sc (.int .i64 0)),.d (.sc (.int .i64 0)),.mt,.mt,.mt]:=⟨by kernel_rfl⟩
theorem pl.Auto:PlacesT P 45 [(0,2),(2,1),(3,1),(4,1),(5,1),(6,1)]:=⟨by kernel_rfl⟩
theorem sz.Auto:(P.info? 45).map (·.size)=some 7:=by kernel_rfl
abbrev T.u64:Nat:=48
theorem ce.u64:CellT P 48:=⟨by kernel_rfl,by kernel_rfl⟩
theorem it.u64:IntT P 48 .u64:=⟨by kernel_rfl⟩
theorem z.u64:ZeroT P 48 [.d (.sc (.int .u64 0))]:=⟨by kernel_rfl⟩
theorem sz.u64:(P.info? 48).map (·.size)=some 1:=by kernel_rfl
abbrev T.Monomials:Nat:=49
theorem sl.Monomials:SliceT P 49 199 6 80:=⟨by kernel_rfl,by kernel_rfl,by decide⟩
theorem ce.Monomials:CellT P 49:=⟨by kernel_rfl,by kernel_rfl⟩
theorem z.Monomials:ZeroT P 49 [.mt]:=⟨by kernel_rfl⟩
theorem sz.Monomials:(P.info? 49).map (·.size)=some 1:=by kernel_rfl
abbrev T.Weight:Nat:=51
theorem ag.Weight:AggT P 51 8:=⟨by kernel_rfl,by kernel_rfl⟩
theorem cc.Weight:ConcT P 51:=by unfold ConcT;kernel_rfl
theorem fd.Weight_0:FieldT P 51 0 0:=⟨by kernel_rfl⟩
theorem fd.Weight_1:FieldT P 51 1 3:=⟨by kernel_rfl⟩
theorem fd.Weight_2:FieldT P 51 2 4:=⟨by kernel_rfl⟩
theorem fd.Weight_3:FieldT P 51 3 5:=⟨by kernel_rfl⟩
theorem fd.Weight_4:FieldT P 51 4 6:=⟨by kernel_rfl⟩
theorem fd.Weight_5:FieldT P 51 5 7:=⟨by kernel_rfl⟩
theorem z.Weight:ZeroT P 51 [.d (.sc (.bool false)),.mt,.mt,.d (.sc (.int .i64 0)),.d (.sc (.bool false)),.d (.sc (.int .u64 0)),.mt,.mt]:=⟨by kernel_rfl⟩
theorem pl.Weight:PlacesT P 51 [(0,3),(3,1),(4,1),(5,1),(6,1),(7,1)]:=⟨by kernel_rfl⟩
theorem sz.Weight:(P.info? 51).map (·.size)=some 8:=by kernel_rfl
abbrev T.Arc:Nat:=70
theorem ag.Arc:AggT P 70 11:=⟨by kernel_rfl,by kernel_rfl⟩
theorem cc.Arc:ConcT P 70:=by unfold ConcT;kernel_rfl
theorem fd.Arc_0:FieldT P 70 0 0:=⟨by kernel_rfl⟩
theorem fd.Arc_1:FieldT P 70 1 1:=⟨by kernel_rfl⟩
theorem fd.Arc_2:FieldT P 70 2 2:=⟨by kernel_rfl⟩
theorem fd.Arc_3:FieldT P 70 3 3:=⟨by kernel_rfl⟩
theorem z.Arc:ZeroT P 70 [.d (.sc (.int .i64 0)),.d (.sc (.int .i64 0)),.d (.sc (.int .i64 0)),.d (.sc (.bool false)),.mt,.mt,.d (.sc (.int .i64 0)),.d (.sc (.bool false)),.d (.sc (.int .u64 0)),.mt,.mt]:=⟨by kernel_rfl⟩
theorem pl.Arc:PlacesT P 70 [(0,1),(1,1),(2,1),(3,8)]:=⟨by kernel_rfl⟩
theorem sz.Arc:(P.info? 70).map (·.size)=some 11:=by kernel_rfl
abbrev T.Counts:Nat:=83
theorem ag.Counts:AggT P 83 4:=⟨by kernel_rfl,by kernel_rfl⟩
theorem cc.Counts:ConcT P 83:=by unfold ConcT;kernel_rfl
theorem fd.Counts_0:FieldT P 83 0 0:=⟨by kernel_rfl⟩
theorem fd.Counts_1:FieldT P 83 1 1:=⟨by kernel_rfl⟩
theorem fd.Counts_2:FieldT P 83 2 2:=⟨by kernel_rfl⟩
theorem fd.Counts_3:FieldT P 83 3 3:=⟨by kernel_rfl⟩
theorem z.Counts:ZeroT P 83 [.mt,.mt,.mt,.mt]:=⟨by kernel_rfl⟩
theorem pl.Counts:PlacesT P 83 [(0,1),(1,1),(2,1),(3,1)]:=⟨by kernel_rfl⟩
theorem sz.Counts:(P.info? 83).map (·.size)=some 4:=by kernel_rfl
abbrev T.Tape:Nat:=88
theorem ag.Tape:AggT P 88 2:=⟨by kernel_rfl,by kernel_rfl⟩
theorem cc.Tape:ConcT P 88:=by unfold ConcT;kernel_rfl
theorem fd.Tape_0:FieldT P 88 0 0:=⟨by kernel_rfl⟩
theorem fd.Tape_1:FieldT P 88 1 1:=⟨by kernel_rfl⟩
theorem z.Tape:ZeroT P 88 [.mt,.d (.sc (.int .i64 0))]:=⟨by kernel_rfl⟩
theorem pl.Tape:PlacesT P 88 [(0,1),(1,1)]:=⟨by kernel_rfl⟩
theorem sz.Tape:(P.info? 88).map (·.size)=some 2:=by kernel_rfl
abbrev T.limbs:Nat:=103
theorem sl.limbs:SliceT P 103 118 1 4:=⟨by kernel_rfl,by kernel_rfl,by decide⟩
theorem ce.limbs:CellT P 103:=⟨by kernel_rfl,by kernel_rfl⟩
theorem z.limbs:ZeroT P 103 [.mt]:=⟨by kernel_rfl⟩
theorem sz.limbs:(P.info? 103).map (·.size)=some 1:=by kernel_rfl
abbrev T.fraction:Nat:=105
theorem ag.fraction:AggT P 105 3:=⟨by kernel_rfl,by kernel_rfl⟩
theorem cc.fraction:ConcT P 105:=by unfold ConcT;kernel_rfl
theorem fd.fraction_0:FieldT P 105 0 0:=⟨by kernel_rfl⟩
theorem fd.fraction_1:FieldT P 105 1 1:=⟨by kernel_rfl⟩
theorem fd.fraction_2:FieldT P 105 2 2:=⟨by kernel_rfl⟩
theorem z.fraction:ZeroT P 105 [.d (.sc (.bool false)),.mt,.mt]:=⟨by kernel_rfl⟩
theorem pl.fraction:PlacesT P 105 [(0,1),(1,1),(2,1)]:=⟨by kernel_rfl⟩
theorem sz.fraction:(P.info? 105).map (·.size)=some 3:=by kernel_rfl
abbrev T.u32:Nat:=118
theorem ce.u32:CellT P 118:=⟨by kernel_rfl,by kernel_rfl⟩
theorem it.u32:IntT P 118 .u32:=⟨by kernel_rfl⟩
theorem z.u32:ZeroT P 118 [.d (.sc (.int .u32 0))]:=⟨by kernel_rfl⟩
theorem sz.u32:(P.info? 118).map (·.size)=some 1:=by kernel_rfl
abbrev T.uint:Nat:=119
theorem ce.uint:CellT P 119:=⟨by kernel_rfl,by kernel_rfl⟩
theorem it.uint:IntT P 119 .u64:=⟨by kernel_rfl⟩
theorem z.uint:ZeroT P 119 [.d (.sc (.int .u64 0))]:=⟨by kernel_rfl⟩
theorem sz.uint:(P.info? 119).map (·.size)=some 1:=by kernel_rfl
abbrev T.algebra:Nat:=187
theorem ag.algebra:AggT P 187 9:=⟨by kernel_rfl,by kernel_rfl⟩
theorem cc.algebra:ConcT P 187:=by unfold ConcT;kernel_rfl
theorem fd.algebra_0:FieldT P 187 0 0:=⟨by kernel_rfl⟩
theorem fc.algebra_0:FieldC P 187 0 0:=⟨by kernel_rfl⟩
theorem fd.algebra_1:FieldT P 187 1 1:=⟨by kernel_rfl⟩
theorem fc.algebra_1:FieldC P 187 1 1:=⟨by kernel_rfl⟩
theorem fd.algebra_3:FieldT P 187 3 3:=⟨by kernel_rfl⟩
theorem fc.algebra_3:FieldC P 187 3 3:=⟨by kernel_rfl⟩
theorem z.algebra:ZeroT P 187 [.d (.sc .nilFunc),.d (.sc .nilFunc),.d (.sc .nilFunc),.d (.sc .nilFunc),.d (.sc .nilFunc),.d (.sc .nilFunc),.d (.sc .nilFunc),.d (.sc .nilFunc),.d (.sc .nilFunc)]:=⟨by kernel_rfl⟩
theorem pl.algebra:PlacesT P 187 [(0,1),(1,1),(2,1),(3,1),(4,1),(5,1),(6,1),(7,1),(8,1)]:=⟨by kernel_rfl⟩
theorem sz.algebra:(P.info? 187).map (·.size)=some 9:=by kernel_rfl
abbrev T.fn133:Nat:=133
theorem ce.fn133:CellT P 133:=⟨by kernel_rfl,by kernel_rfl⟩
theorem z.fn133:ZeroT P 133 [.d (.sc .nilFunc)]:=⟨by kernel_rfl⟩
theorem sz.fn133:(P.info? 133).map (·.size)=some 1:=by kernel_rfl
theorem st.str:P.underlying 9=some .string:=by kernel_rfl
end Go.Proofs.YtocehciipjhlkaaGreatDoor
