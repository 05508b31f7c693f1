/-
  Names for the functions of this seat, and facts on its types (printed by hdr.py).
-/
import Derived.Test.YtippcclgnabpdaaGreatDoorChecked
import Derived.KernelRfl
import Derived.Test.YtippcclgnabpdaaGreatDoorKNumb
import Derived.Test.YtippcclgnabpdaaGreatDoorKAlg37
set_option linter.unusedVariables false
set_option linter.unusedSimpArgs false
namespace Go.Proofs.YtippcclgnabpdaaGreatDoor
open Go Go.AL
noncomputable abbrev P : Program := Tryz.prog
theorem order_free : P.follows .mixedOrders = true := by kernel_rfl
abbrev F.law33_HmmStays : Nat := 3
theorem fn.law33_HmmStays : P.funcs[F.law33_HmmStays]? = some Tryz.f3 := Tryz.func3
abbrev F.world_Shares : Nat := 5
theorem fn.world_Shares : P.funcs[F.world_Shares]? = some Tryz.f5 := Tryz.func5
abbrev F.world_Tape_Next : Nat := 6
theorem fn.world_Tape_Next : P.funcs[F.world_Tape_Next]? = some Tryz.f6 := Tryz.func6
abbrev F.law33_coin : Nat := 7
theorem fn.law33_coin : P.funcs[F.law33_coin]? = some Tryz.f7 := Tryz.func7
abbrev F.ref33_Whole : Nat := 8
theorem fn.ref33_Whole : P.funcs[F.ref33_Whole]? = some Tryz.f8 := Tryz.func8
abbrev F.hmm_Expand : Nat := 9
theorem fn.hmm_Expand : P.funcs[F.hmm_Expand]? = some Tryz.f9 := Tryz.func9
abbrev F.hmm_Automaton : Nat := 10
theorem fn.hmm_Automaton : P.funcs[F.hmm_Automaton]? = some Tryz.f10 := Tryz.func10
abbrev F.world_Within : Nat := 11
theorem fn.world_Within : P.funcs[F.world_Within]? = some Tryz.f11 := Tryz.func11
abbrev F.weigh_Weight : Nat := 12
theorem fn.weigh_Weight : P.funcs[F.weigh_Weight]? = some Tryz.f12 := Tryz.func12
abbrev F.law33_known : Nat := 13
theorem fn.law33_known : P.funcs[F.law33_known]? = some Tryz.f13 := Tryz.func13
abbrev F.ref01_Compare : Nat := 14
theorem fn.ref01_Compare : P.funcs[F.ref01_Compare]? = some Tryz.f14 := Tryz.func14
abbrev F.ref01_Make : Nat := 18
theorem fn.ref01_Make : P.funcs[F.ref01_Make]? = some Tryz.f18 := Tryz.func18
abbrev F.law33_half : Nat := 19
theorem fn.law33_half : P.funcs[F.law33_half]? = some Tryz.f19 := Tryz.func19
abbrev F.hmm_Valid : Nat := 20
theorem fn.hmm_Valid : P.funcs[F.hmm_Valid]? = some Tryz.f20 := Tryz.func20
abbrev F.hmm_refuse : Nat := 21
theorem fn.hmm_refuse : P.funcs[F.hmm_refuse]? = some Tryz.f21 := Tryz.func21
abbrev F.hmm_one : Nat := 22
theorem fn.hmm_one : P.funcs[F.hmm_one]? = some Tryz.f22 := Tryz.func22
abbrev F.hmm_Expand_1 : Nat := 23
theorem fn.hmm_Expand_1 : P.funcs[F.hmm_Expand_1]? = some Tryz.f23 := Tryz.func23
abbrev F.rational_Mul : Nat := 24
theorem fn.rational_Mul : P.funcs[F.rational_Mul]? = some Tryz.f24 := Tryz.func24
abbrev F.fresh_Rat : Nat := 25
theorem fn.fresh_Rat : P.funcs[F.fresh_Rat]? = some Tryz.f25 := Tryz.func25
abbrev F.fresh_Rats : Nat := 26
theorem fn.fresh_Rats : P.funcs[F.fresh_Rats]? = some Tryz.f26 := Tryz.func26
abbrev F.hmm_weight : Nat := 27
theorem fn.hmm_weight : P.funcs[F.hmm_weight]? = some Tryz.f27 := Tryz.func27
abbrev F.hmm_Emitting : Nat := 28
theorem fn.hmm_Emitting : P.funcs[F.hmm_Emitting]? = some Tryz.f28 := Tryz.func28
abbrev F.rational_Sign : Nat := 29
theorem fn.rational_Sign : P.funcs[F.rational_Sign]? = some Tryz.f29 := Tryz.func29
abbrev F.automaton_Normal : Nat := 30
theorem fn.automaton_Normal : P.funcs[F.automaton_Normal]? = some Tryz.f30 := Tryz.func30
abbrev F.weigh_Forward : Nat := 31
theorem fn.weigh_Forward : P.funcs[F.weigh_Forward]? = some Tryz.f31 := Tryz.func31
abbrev F.weigh_Dot : Nat := 32
theorem fn.weigh_Dot : P.funcs[F.weigh_Dot]? = some Tryz.f32 := Tryz.func32
abbrev F.hmm_Plain : Nat := 33
theorem fn.hmm_Plain : P.funcs[F.hmm_Plain]? = some Tryz.f33 := Tryz.func33
abbrev F.ref01_Sign : Nat := 34
theorem fn.ref01_Sign : P.funcs[F.ref01_Sign]? = some Tryz.f34 := Tryz.func34
abbrev F.ref01_Sub : Nat := 35
theorem fn.ref01_Sub : P.funcs[F.ref01_Sub]? = some Tryz.f35 := Tryz.func35
abbrev F.ref01_over : Nat := 43
theorem fn.ref01_over : P.funcs[F.ref01_over]? = some Tryz.f43 := Tryz.func43
abbrev F.ref01_natural : Nat := 44
theorem fn.ref01_natural : P.funcs[F.ref01_natural]? = some Tryz.f44 := Tryz.func44
abbrev F.ref01_absolute : Nat := 45
theorem fn.ref01_absolute : P.funcs[F.ref01_absolute]? = some Tryz.f45 := Tryz.func45
abbrev F.hmm_formed : Nat := 46
theorem fn.hmm_formed : P.funcs[F.hmm_formed]? = some Tryz.f46 := Tryz.func46
abbrev F.hmm_sums : Nat := 47
theorem fn.hmm_sums : P.funcs[F.hmm_sums]? = some Tryz.f47 := Tryz.func47
abbrev F.hmm_order : Nat := 48
theorem fn.hmm_order : P.funcs[F.hmm_order]? = some Tryz.f48 := Tryz.func48
abbrev F.hmm_tied : Nat := 49
theorem fn.hmm_tied : P.funcs[F.hmm_tied]? = some Tryz.f49 := Tryz.func49
abbrev F.slices_ContainsFunc_Stay_Stay : Nat := 50
theorem fn.slices_ContainsFunc_Stay_Stay : P.funcs[F.slices_ContainsFunc_Stay_Stay]? = some Tryz.f50 := Tryz.func50
abbrev F.hmm_shares : Nat := 52
theorem fn.hmm_shares : P.funcs[F.hmm_shares]? = some Tryz.f52 := Tryz.func52
abbrev F.hmm_whole : Nat := 53
theorem fn.hmm_whole : P.funcs[F.hmm_whole]? = some Tryz.f53 := Tryz.func53
abbrev F.rational_Make : Nat := 54
theorem fn.rational_Make : P.funcs[F.rational_Make]? = some Tryz.f54 := Tryz.func54
abbrev F.rational_of : Nat := 55
theorem fn.rational_of : P.funcs[F.rational_of]? = some Tryz.f55 := Tryz.func55
abbrev F.rational_limbs_times : Nat := 56
theorem fn.rational_limbs_times : P.funcs[F.rational_limbs_times]? = some Tryz.f56 := Tryz.func56
abbrev F.rational_fraction_rat : Nat := 57
theorem fn.rational_fraction_rat : P.funcs[F.rational_fraction_rat]? = some Tryz.f57 := Tryz.func57
abbrev F.slices_Clone_uint32s_uint32 : Nat := 58
theorem fn.slices_Clone_uint32s_uint32 : P.funcs[F.slices_Clone_uint32s_uint32]? = some Tryz.f58 := Tryz.func58
abbrev F.fresh_each_Rat : Nat := 59
theorem fn.fresh_each_Rat : P.funcs[F.fresh_each_Rat]? = some Tryz.f59 := Tryz.func59
abbrev F.slices_Sort_ints_int : Nat := 60
theorem fn.slices_Sort_ints_int : P.funcs[F.slices_Sort_ints_int]? = some Tryz.f60 := Tryz.func60
abbrev F.slices_Compact_ints_int : Nat := 61
theorem fn.slices_Compact_ints_int : P.funcs[F.slices_Compact_ints_int]? = some Tryz.f61 := Tryz.func61
abbrev F.hmm_Emitting_1 : Nat := 62
theorem fn.hmm_Emitting_1 : P.funcs[F.hmm_Emitting_1]? = some Tryz.f62 := Tryz.func62
abbrev F.hmm_through : Nat := 63
theorem fn.hmm_through : P.funcs[F.hmm_through]? = some Tryz.f63 := Tryz.func63
abbrev F.slices_BinarySearch_ints_int : Nat := 64
theorem fn.slices_BinarySearch_ints_int : P.funcs[F.slices_BinarySearch_ints_int]? = some Tryz.f64 := Tryz.func64
abbrev F.automaton_Valid : Nat := 65
theorem fn.automaton_Valid : P.funcs[F.automaton_Valid]? = some Tryz.f65 := Tryz.func65
abbrev F.automaton_ring : Nat := 66
theorem fn.automaton_ring : P.funcs[F.automaton_ring]? = some Tryz.f66 := Tryz.func66
abbrev F.automaton_Copy : Nat := 67
theorem fn.automaton_Copy : P.funcs[F.automaton_Copy]? = some Tryz.f67 := Tryz.func67
abbrev F.automaton_Tidy : Nat := 68
theorem fn.automaton_Tidy : P.funcs[F.automaton_Tidy]? = some Tryz.f68 := Tryz.func68
abbrev F.weigh_Ready : Nat := 69
theorem fn.weigh_Ready : P.funcs[F.weigh_Ready]? = some Tryz.f69 := Tryz.func69
abbrev F.weigh_Step : Nat := 70
theorem fn.weigh_Step : P.funcs[F.weigh_Step]? = some Tryz.f70 := Tryz.func70
abbrev F.semiring_Zero : Nat := 71
theorem fn.semiring_Zero : P.funcs[F.semiring_Zero]? = some Tryz.f71 := Tryz.func71
abbrev F.semiring_Plus : Nat := 72
theorem fn.semiring_Plus : P.funcs[F.semiring_Plus]? = some Tryz.f72 := Tryz.func72
abbrev F.semiring_Times : Nat := 73
theorem fn.semiring_Times : P.funcs[F.semiring_Times]? = some Tryz.f73 := Tryz.func73
abbrev F.slices_Contains_bools_bool : Nat := 74
theorem fn.slices_Contains_bools_bool : P.funcs[F.slices_Contains_bools_bool]? = some Tryz.f74 := Tryz.func74
abbrev F.ref01_Take : Nat := 75
theorem fn.ref01_Take : P.funcs[F.ref01_Take]? = some Tryz.f75 := Tryz.func75
abbrev F.ref01_Add : Nat := 76
theorem fn.ref01_Add : P.funcs[F.ref01_Add]? = some Tryz.f76 := Tryz.func76
abbrev F.ref01_Neg : Nat := 77
theorem fn.ref01_Neg : P.funcs[F.ref01_Neg]? = some Tryz.f77 := Tryz.func77
abbrev F.ref01_divisor : Nat := 83
theorem fn.ref01_divisor : P.funcs[F.ref01_divisor]? = some Tryz.f83 := Tryz.func83
abbrev F.ref01_divide : Nat := 84
theorem fn.ref01_divide : P.funcs[F.ref01_divide]? = some Tryz.f84 := Tryz.func84
abbrev F.ref01_one : Nat := 85
theorem fn.ref01_one : P.funcs[F.ref01_one]? = some Tryz.f85 := Tryz.func85
abbrev F.ref01_trim : Nat := 86
theorem fn.ref01_trim : P.funcs[F.ref01_trim]? = some Tryz.f86 := Tryz.func86
abbrev F.hmm_share : Nat := 87
theorem fn.hmm_share : P.funcs[F.hmm_share]? = some Tryz.f87 := Tryz.func87
abbrev F.hmm_order_1 : Nat := 88
theorem fn.hmm_order_1 : P.funcs[F.hmm_order_1]? = some Tryz.f88 := Tryz.func88
abbrev F.slices_Reverse_ints_int : Nat := 89
theorem fn.slices_Reverse_ints_int : P.funcs[F.slices_Reverse_ints_int]? = some Tryz.f89 := Tryz.func89
abbrev F.hmm_equal : Nat := 90
theorem fn.hmm_equal : P.funcs[F.hmm_equal]? = some Tryz.f90 := Tryz.func90
abbrev F.slices_IndexFunc_Stay_Stay : Nat := 91
theorem fn.slices_IndexFunc_Stay_Stay : P.funcs[F.slices_IndexFunc_Stay_Stay]? = some Tryz.f91 := Tryz.func91
abbrev F.slices_ContainsFunc_Rats_Rat : Nat := 92
theorem fn.slices_ContainsFunc_Rats_Rat : P.funcs[F.slices_ContainsFunc_Rats_Rat]? = some Tryz.f92 := Tryz.func92
abbrev F.hmm_shares_1 : Nat := 93
theorem fn.hmm_shares_1 : P.funcs[F.hmm_shares_1]? = some Tryz.f93 := Tryz.func93
abbrev F.slices_Concat_Rats_Rat : Nat := 94
theorem fn.slices_Concat_Rats_Rat : P.funcs[F.slices_Concat_Rats_Rat]? = some Tryz.f94 := Tryz.func94
abbrev F.rational_Add : Nat := 95
theorem fn.rational_Add : P.funcs[F.rational_Add]? = some Tryz.f95 := Tryz.func95
abbrev F.rational_Compare : Nat := 96
theorem fn.rational_Compare : P.funcs[F.rational_Compare]? = some Tryz.f96 := Tryz.func96
abbrev F.rational_whole : Nat := 97
theorem fn.rational_whole : P.funcs[F.rational_whole]? = some Tryz.f97 := Tryz.func97
abbrev F.rational_Valid : Nat := 98
theorem fn.rational_Valid : P.funcs[F.rational_Valid]? = some Tryz.f98 := Tryz.func98
abbrev F.rational_one : Nat := 99
theorem fn.rational_one : P.funcs[F.rational_one]? = some Tryz.f99 := Tryz.func99
abbrev F.rational_limbs_at : Nat := 100
theorem fn.rational_limbs_at : P.funcs[F.rational_limbs_at]? = some Tryz.f100 := Tryz.func100
abbrev F.rational_limbs_clean : Nat := 101
theorem fn.rational_limbs_clean : P.funcs[F.rational_limbs_clean]? = some Tryz.f101 := Tryz.func101
abbrev F.slices_Clone_rational_limbs_uint32 : Nat := 102
theorem fn.slices_Clone_rational_limbs_uint32 : P.funcs[F.slices_Clone_rational_limbs_uint32]? = some Tryz.f102 := Tryz.func102
abbrev F.rational_limbs_gcd : Nat := 103
theorem fn.rational_limbs_gcd : P.funcs[F.rational_limbs_gcd]? = some Tryz.f103 := Tryz.func103
abbrev F.rational_limbs_cmp : Nat := 104
theorem fn.rational_limbs_cmp : P.funcs[F.rational_limbs_cmp]? = some Tryz.f104 := Tryz.func104
abbrev F.rational_limbs_over : Nat := 105
theorem fn.rational_limbs_over : P.funcs[F.rational_limbs_over]? = some Tryz.f105 := Tryz.func105
abbrev F.slices_pdqsortOrdered_int : Nat := 106
theorem fn.slices_pdqsortOrdered_int : P.funcs[F.slices_pdqsortOrdered_int]? = some Tryz.f106 := Tryz.func106
abbrev F.math_bits_Len : Nat := 107
theorem fn.math_bits_Len : P.funcs[F.math_bits_Len]? = some Tryz.f107 := Tryz.func107
abbrev F.cmp_Less_int : Nat := 108
theorem fn.cmp_Less_int : P.funcs[F.cmp_Less_int]? = some Tryz.f108 := Tryz.func108
abbrev F.slices_isNaN_int : Nat := 109
theorem fn.slices_isNaN_int : P.funcs[F.slices_isNaN_int]? = some Tryz.f109 := Tryz.func109
abbrev F.semiring_Valid : Nat := 110
theorem fn.semiring_Valid : P.funcs[F.semiring_Valid]? = some Tryz.f110 := Tryz.func110
abbrev F.slices_ContainsFunc_Arc_Arc : Nat := 111
theorem fn.slices_ContainsFunc_Arc_Arc : P.funcs[F.slices_ContainsFunc_Arc_Arc]? = some Tryz.f111 := Tryz.func111
abbrev F.automaton_Valid_1 : Nat := 112
theorem fn.automaton_Valid_1 : P.funcs[F.automaton_Valid_1]? = some Tryz.f112 := Tryz.func112
abbrev F.automaton_inside : Nat := 113
theorem fn.automaton_inside : P.funcs[F.automaton_inside]? = some Tryz.f113 := Tryz.func113
abbrev F.automaton_weights : Nat := 114
theorem fn.automaton_weights : P.funcs[F.automaton_weights]? = some Tryz.f114 := Tryz.func114
abbrev F.slices_Clone_ints_int : Nat := 115
theorem fn.slices_Clone_ints_int : P.funcs[F.slices_Clone_ints_int]? = some Tryz.f115 := Tryz.func115
abbrev F.slices_Clone_Arc_Arc : Nat := 116
theorem fn.slices_Clone_Arc_Arc : P.funcs[F.slices_Clone_Arc_Arc]? = some Tryz.f116 := Tryz.func116
abbrev F.slices_SortStableFunc_Arc_Arc : Nat := 117
theorem fn.slices_SortStableFunc_Arc_Arc : P.funcs[F.slices_SortStableFunc_Arc_Arc]? = some Tryz.f117 := Tryz.func117
abbrev F.automaton_order : Nat := 118
theorem fn.automaton_order : P.funcs[F.automaton_order]? = some Tryz.f118 := Tryz.func118
abbrev F.slices_DeleteFunc_Arc_Arc : Nat := 119
theorem fn.slices_DeleteFunc_Arc_Arc : P.funcs[F.slices_DeleteFunc_Arc_Arc]? = some Tryz.f119 := Tryz.func119
abbrev F.automaton_Tidy_1 : Nat := 120
theorem fn.automaton_Tidy_1 : P.funcs[F.automaton_Tidy_1]? = some Tryz.f120 := Tryz.func120
abbrev F.automaton_IsZero : Nat := 121
theorem fn.automaton_IsZero : P.funcs[F.automaton_IsZero]? = some Tryz.f121 := Tryz.func121
abbrev F.weigh_Ready_1 : Nat := 122
theorem fn.weigh_Ready_1 : P.funcs[F.weigh_Ready_1]? = some Tryz.f122 := Tryz.func122
abbrev F.words_Valid : Nat := 123
theorem fn.words_Valid : P.funcs[F.words_Valid]? = some Tryz.f123 := Tryz.func123
abbrev F.weigh_zeros : Nat := 124
theorem fn.weigh_zeros : P.funcs[F.weigh_zeros]? = some Tryz.f124 := Tryz.func124
abbrev F.semiring_kind : Nat := 125
theorem fn.semiring_kind : P.funcs[F.semiring_kind]? = some Tryz.f125 := Tryz.func125
abbrev F.semiring_value : Nat := 128
theorem fn.semiring_value : P.funcs[F.semiring_value]? = some Tryz.f128 := Tryz.func128
abbrev F.slices_Index_bools_bool : Nat := 131
theorem fn.slices_Index_bools_bool : P.funcs[F.slices_Index_bools_bool]? = some Tryz.f131 := Tryz.func131
abbrev F.ref01_Valid : Nat := 132
theorem fn.ref01_Valid : P.funcs[F.ref01_Valid]? = some Tryz.f132 := Tryz.func132
abbrev F.ref01_times : Nat := 133
theorem fn.ref01_times : P.funcs[F.ref01_times]? = some Tryz.f133 := Tryz.func133
abbrev F.ref01_den : Nat := 134
theorem fn.ref01_den : P.funcs[F.ref01_den]? = some Tryz.f134 := Tryz.func134
abbrev F.ref01_plus : Nat := 135
theorem fn.ref01_plus : P.funcs[F.ref01_plus]? = some Tryz.f135 := Tryz.func135
abbrev F.ref01_compare : Nat := 136
theorem fn.ref01_compare : P.funcs[F.ref01_compare]? = some Tryz.f136 := Tryz.func136
abbrev F.ref01_minus : Nat := 137
theorem fn.ref01_minus : P.funcs[F.ref01_minus]? = some Tryz.f137 := Tryz.func137
abbrev F.slices_EqualFunc_Rats_Rats_Rat_Rat : Nat := 138
theorem fn.slices_EqualFunc_Rats_Rats_Rat_Rat : P.funcs[F.slices_EqualFunc_Rats_Rats_Rat_Rat]? = some Tryz.f138 := Tryz.func138
abbrev F.hmm_equal_1 : Nat := 139
theorem fn.hmm_equal_1 : P.funcs[F.hmm_equal_1]? = some Tryz.f139 := Tryz.func139
abbrev F.slices_IndexFunc_Rats_Rat : Nat := 140
theorem fn.slices_IndexFunc_Rats_Rat : P.funcs[F.slices_IndexFunc_Rats_Rat]? = some Tryz.f140 := Tryz.func140
abbrev F.slices_Grow_Rats_Rat : Nat := 141
theorem fn.slices_Grow_Rats_Rat : P.funcs[F.slices_Grow_Rats_Rat]? = some Tryz.f141 := Tryz.func141
abbrev F.rational_fraction_plus : Nat := 142
theorem fn.rational_fraction_plus : P.funcs[F.rational_fraction_plus]? = some Tryz.f142 := Tryz.func142
abbrev F.rational_Sub : Nat := 143
theorem fn.rational_Sub : P.funcs[F.rational_Sub]? = some Tryz.f143 := Tryz.func143
abbrev F.rational_proper : Nat := 144
theorem fn.rational_proper : P.funcs[F.rational_proper]? = some Tryz.f144 := Tryz.func144
abbrev F.rational_limbs_small : Nat := 145
theorem fn.rational_limbs_small : P.funcs[F.rational_limbs_small]? = some Tryz.f145 := Tryz.func145
abbrev F.rational_limbs_length : Nat := 146
theorem fn.rational_limbs_length : P.funcs[F.rational_limbs_length]? = some Tryz.f146 := Tryz.func146
abbrev F.rational_limbs_left : Nat := 147
theorem fn.rational_limbs_left : P.funcs[F.rational_limbs_left]? = some Tryz.f147 := Tryz.func147
abbrev F.rational_limbs_minus : Nat := 148
theorem fn.rational_limbs_minus : P.funcs[F.rational_limbs_minus]? = some Tryz.f148 := Tryz.func148
abbrev F.rational_limbs_right : Nat := 149
theorem fn.rational_limbs_right : P.funcs[F.rational_limbs_right]? = some Tryz.f149 := Tryz.func149
abbrev F.slices_insertionSortOrdered_int : Nat := 150
theorem fn.slices_insertionSortOrdered_int : P.funcs[F.slices_insertionSortOrdered_int]? = some Tryz.f150 := Tryz.func150
abbrev F.math_bits_Len32 : Nat := 158
theorem fn.math_bits_Len32 : P.funcs[F.math_bits_Len32]? = some Tryz.f158 := Tryz.func158
abbrev F.math_bits_Len64 : Nat := 159
theorem fn.math_bits_Len64 : P.funcs[F.math_bits_Len64]? = some Tryz.f159 := Tryz.func159
abbrev F.cmp_isNaN_int : Nat := 160
theorem fn.cmp_isNaN_int : P.funcs[F.cmp_isNaN_int]? = some Tryz.f160 := Tryz.func160
abbrev F.semiring_single : Nat := 161
theorem fn.semiring_single : P.funcs[F.semiring_single]? = some Tryz.f161 := Tryz.func161
abbrev F.slices_IndexFunc_Arc_Arc : Nat := 164
theorem fn.slices_IndexFunc_Arc_Arc : P.funcs[F.slices_IndexFunc_Arc_Arc]? = some Tryz.f164 := Tryz.func164
abbrev F.automaton_inside_1 : Nat := 165
theorem fn.automaton_inside_1 : P.funcs[F.automaton_inside_1]? = some Tryz.f165 := Tryz.func165
abbrev F.semiring_Check : Nat := 166
theorem fn.semiring_Check : P.funcs[F.semiring_Check]? = some Tryz.f166 := Tryz.func166
abbrev F.slices_ContainsFunc_Weight_Weight : Nat := 167
theorem fn.slices_ContainsFunc_Weight_Weight : P.funcs[F.slices_ContainsFunc_Weight_Weight]? = some Tryz.f167 := Tryz.func167
abbrev F.automaton_weights_1 : Nat := 168
theorem fn.automaton_weights_1 : P.funcs[F.automaton_weights_1]? = some Tryz.f168 := Tryz.func168
abbrev F.slices_stableCmpFunc_Arc : Nat := 169
theorem fn.slices_stableCmpFunc_Arc : P.funcs[F.slices_stableCmpFunc_Arc]? = some Tryz.f169 := Tryz.func169
abbrev F.cmp_Or_int : Nat := 170
theorem fn.cmp_Or_int : P.funcs[F.cmp_Or_int]? = some Tryz.f170 := Tryz.func170
abbrev F.cmp_Compare_int : Nat := 171
theorem fn.cmp_Compare_int : P.funcs[F.cmp_Compare_int]? = some Tryz.f171 := Tryz.func171
abbrev F.semiring_Equal : Nat := 172
theorem fn.semiring_Equal : P.funcs[F.semiring_Equal]? = some Tryz.f172 := Tryz.func172
abbrev F.semiring_rationals : Nat := 173
theorem fn.semiring_rationals : P.funcs[F.semiring_rationals]? = some Tryz.f173 := Tryz.func173
abbrev F.ref01_limb : Nat := 178
theorem fn.ref01_limb : P.funcs[F.ref01_limb]? = some Tryz.f178 := Tryz.func178
abbrev F.ref01_sign : Nat := 179
theorem fn.ref01_sign : P.funcs[F.ref01_sign]? = some Tryz.f179 := Tryz.func179
abbrev F.rational_limbs_plus : Nat := 180
theorem fn.rational_limbs_plus : P.funcs[F.rational_limbs_plus]? = some Tryz.f180 := Tryz.func180
abbrev F.rational_fraction_negative : Nat := 181
theorem fn.rational_fraction_negative : P.funcs[F.rational_fraction_negative]? = some Tryz.f181 := Tryz.func181
abbrev F.math_bits_LeadingZeros32 : Nat := 182
theorem fn.math_bits_LeadingZeros32 : P.funcs[F.math_bits_LeadingZeros32]? = some Tryz.f182 := Tryz.func182
abbrev F.slices_IndexFunc_Weight_Weight : Nat := 189
theorem fn.slices_IndexFunc_Weight_Weight : P.funcs[F.slices_IndexFunc_Weight_Weight]? = some Tryz.f189 := Tryz.func189
abbrev F.slices_insertionSortCmpFunc_Arc : Nat := 190
theorem fn.slices_insertionSortCmpFunc_Arc : P.funcs[F.slices_insertionSortCmpFunc_Arc]? = some Tryz.f190 := Tryz.func190
abbrev F.semiring_sameRat : Nat := 193
theorem fn.semiring_sameRat : P.funcs[F.semiring_sameRat]? = some Tryz.f193 := Tryz.func193
abbrev F.slices_EqualFunc_Monomial_Monomial_Monomial_Monomial : Nat := 194
theorem fn.slices_EqualFunc_Monomial_Monomial_Monomial_Monomial : P.funcs[F.slices_EqualFunc_Monomial_Monomial_Monomial_Monomial]? = some Tryz.f194 := Tryz.func194
abbrev F.slices_EqualFunc_Weight_Weight_Weight_Weight : Nat := 195
theorem fn.slices_EqualFunc_Weight_Weight_Weight_Weight : P.funcs[F.slices_EqualFunc_Weight_Weight_Weight_Weight]? = some Tryz.f195 := Tryz.func195
abbrev F.semiring_rationals_1 : Nat := 196
theorem fn.semiring_rationals_1 : P.funcs[F.semiring_rationals_1]? = some Tryz.f196 := Tryz.func196
abbrev F.semiring_rationals_2 : Nat := 197
theorem fn.semiring_rationals_2 : P.funcs[F.semiring_rationals_2]? = some Tryz.f197 := Tryz.func197
abbrev F.semiring_rationals_3 : Nat := 198
theorem fn.semiring_rationals_3 : P.funcs[F.semiring_rationals_3]? = some Tryz.f198 := Tryz.func198
abbrev F.semiring_rationals_4 : Nat := 200
theorem fn.semiring_rationals_4 : P.funcs[F.semiring_rationals_4]? = some Tryz.f200 := Tryz.func200
abbrev F.semiring_rationals_5 : Nat := 201
theorem fn.semiring_rationals_5 : P.funcs[F.semiring_rationals_5]? = some Tryz.f201 := Tryz.func201
abbrev F.semiring_quotient : Nat := 202
theorem fn.semiring_quotient : P.funcs[F.semiring_quotient]? = some Tryz.f202 := Tryz.func202
abbrev F.semiring_never : Nat := 203
theorem fn.semiring_never : P.funcs[F.semiring_never]? = some Tryz.f203 := Tryz.func203
abbrev F.semiring_rationals_6 : Nat := 204
theorem fn.semiring_rationals_6 : P.funcs[F.semiring_rationals_6]? = some Tryz.f204 := Tryz.func204
abbrev F.semiring_readNumber : Nat := 206
theorem fn.semiring_readNumber : P.funcs[F.semiring_readNumber]? = some Tryz.f206 := Tryz.func206
abbrev F.slices_Equal_uint32s_uint32 : Nat := 252
theorem fn.slices_Equal_uint32s_uint32 : P.funcs[F.slices_Equal_uint32s_uint32]? = some Tryz.f252 := Tryz.func252
abbrev T.i64 : Nat := 2
theorem ce.i64 : CellT P 2 := ⟨by kernel_rfl, by kernel_rfl⟩
theorem it.i64 : IntT P 2 .i64 := ⟨by kernel_rfl⟩
theorem z.i64 : ZeroT P 2 [.d (.sc (.int .i64 0))] := ⟨by kernel_rfl⟩
theorem sz.i64 : (P.info? 2).map (·.size) = some 1 := by kernel_rfl
abbrev T.int : Nat := 3
theorem ce.int : CellT P 3 := ⟨by kernel_rfl, by kernel_rfl⟩
theorem it.int : IntT P 3 .i64 := ⟨by kernel_rfl⟩
theorem z.int : ZeroT P 3 [.d (.sc (.int .i64 0))] := ⟨by kernel_rfl⟩
theorem sz.int : (P.info? 3).map (·.size) = some 1 := by kernel_rfl
abbrev T.bool : Nat := 4
theorem ce.bool : CellT P 4 := ⟨by kernel_rfl, by kernel_rfl⟩
theorem bt.bool : BoolT P 4 := ⟨by kernel_rfl⟩
theorem z.bool : ZeroT P 4 [.d (.sc (.bool false))] := ⟨by kernel_rfl⟩
theorem sz.bool : (P.info? 4).map (·.size) = some 1 := by kernel_rfl
abbrev T.u8 : Nat := 5
theorem ce.u8 : CellT P 5 := ⟨by kernel_rfl, by kernel_rfl⟩
theorem it.u8 : IntT P 5 .u8 := ⟨by kernel_rfl⟩
theorem z.u8 : ZeroT P 5 [.d (.sc (.int .u8 0))] := ⟨by kernel_rfl⟩
theorem sz.u8 : (P.info? 5).map (·.size) = some 1 := by kernel_rfl
abbrev T.ints : Nat := 22
theorem sl.ints : SliceT P 22 3 1 8 := ⟨by kernel_rfl, by kernel_rfl, by decide⟩
theorem ce.ints : CellT P 22 := ⟨by kernel_rfl, by kernel_rfl⟩
theorem z.ints : ZeroT P 22 [.mt] := ⟨by kernel_rfl⟩
theorem sz.ints : (P.info? 22).map (·.size) = some 1 := by kernel_rfl
abbrev T.Tape : Nat := 25
theorem ag.Tape : AggT P 25 2 := ⟨by kernel_rfl, by kernel_rfl⟩
theorem cc.Tape : ConcT P 25 := by unfold ConcT; kernel_rfl
theorem fd.Tape_0 : FieldT P 25 0 0 := ⟨by kernel_rfl⟩
theorem fd.Tape_1 : FieldT P 25 1 1 := ⟨by kernel_rfl⟩
theorem z.Tape : ZeroT P 25 [.mt, .d (.sc (.int .i64 0))] := ⟨by kernel_rfl⟩
theorem pl.Tape : PlacesT P 25 [(0, 1), (1, 1)] := ⟨by kernel_rfl⟩
theorem sz.Tape : (P.info? 25).map (·.size) = some 2 := by kernel_rfl
abbrev T.Rats : Nat := 26
theorem sl.Rats : SliceT P 26 31 3 56 := ⟨by kernel_rfl, by kernel_rfl, by decide⟩
theorem ce.Rats : CellT P 26 := ⟨by kernel_rfl, by kernel_rfl⟩
theorem z.Rats : ZeroT P 26 [.mt] := ⟨by kernel_rfl⟩
theorem sz.Rats : (P.info? 26).map (·.size) = some 1 := by kernel_rfl
abbrev T.u32s : Nat := 29
theorem sl.u32s : SliceT P 29 104 1 4 := ⟨by kernel_rfl, by kernel_rfl, by decide⟩
theorem ce.u32s : CellT P 29 := ⟨by kernel_rfl, by kernel_rfl⟩
theorem z.u32s : ZeroT P 29 [.mt] := ⟨by kernel_rfl⟩
theorem sz.u32s : (P.info? 29).map (·.size) = some 1 := by kernel_rfl
abbrev T.Rat : Nat := 31
theorem ag.Rat : AggT P 31 3 := ⟨by kernel_rfl, by kernel_rfl⟩
theorem cc.Rat : ConcT P 31 := by unfold ConcT; kernel_rfl
theorem fd.Rat_0 : FieldT P 31 0 0 := ⟨by kernel_rfl⟩
theorem fd.Rat_1 : FieldT P 31 1 1 := ⟨by kernel_rfl⟩
theorem fd.Rat_2 : FieldT P 31 2 2 := ⟨by kernel_rfl⟩
theorem z.Rat : ZeroT P 31 [.d (.sc (.bool false)), .mt, .mt] := ⟨by kernel_rfl⟩
theorem pl.Rat : PlacesT P 31 [(0, 1), (1, 1), (2, 1)] := ⟨by kernel_rfl⟩
theorem sz.Rat : (P.info? 31).map (·.size) = some 3 := by kernel_rfl
abbrev T.Ratss : Nat := 32
theorem sl.Ratss : SliceT P 32 26 1 24 := ⟨by kernel_rfl, by kernel_rfl, by decide⟩
theorem ce.Ratss : CellT P 32 := ⟨by kernel_rfl, by kernel_rfl⟩
theorem z.Ratss : ZeroT P 32 [.mt] := ⟨by kernel_rfl⟩
theorem sz.Ratss : (P.info? 32).map (·.size) = some 1 := by kernel_rfl
abbrev T.bools : Nat := 33
theorem sl.bools : SliceT P 33 4 1 1 := ⟨by kernel_rfl, by kernel_rfl, by decide⟩
theorem ce.bools : CellT P 33 := ⟨by kernel_rfl, by kernel_rfl⟩
theorem z.bools : ZeroT P 33 [.mt] := ⟨by kernel_rfl⟩
theorem sz.bools : (P.info? 33).map (·.size) = some 1 := by kernel_rfl
abbrev T.Hidden : Nat := 35
theorem ag.Hidden : AggT P 35 11 := ⟨by kernel_rfl, by kernel_rfl⟩
theorem cc.Hidden : ConcT P 35 := by unfold ConcT; kernel_rfl
theorem fd.Hidden_0 : FieldT P 35 0 0 := ⟨by kernel_rfl⟩
theorem fd.Hidden_1 : FieldT P 35 1 1 := ⟨by kernel_rfl⟩
theorem fd.Hidden_2 : FieldT P 35 2 2 := ⟨by kernel_rfl⟩
theorem fd.Hidden_3 : FieldT P 35 3 5 := ⟨by kernel_rfl⟩
theorem fd.Hidden_4 : FieldT P 35 4 6 := ⟨by kernel_rfl⟩
theorem fd.Hidden_5 : FieldT P 35 5 7 := ⟨by kernel_rfl⟩
theorem fd.Hidden_6 : FieldT P 35 6 8 := ⟨by kernel_rfl⟩
theorem fd.Hidden_7 : FieldT P 35 7 9 := ⟨by kernel_rfl⟩
theorem fd.Hidden_8 : FieldT P 35 8 10 := ⟨by kernel_rfl⟩
theorem z.Hidden : ZeroT P 35 [.d (.sc (.int .i64 0)), .d (.sc (.int .i64 0)), .d (.sc (.bool false)), .mt, .mt, .mt, .mt, .mt, .mt, .mt, .mt] := ⟨by kernel_rfl⟩
theorem pl.Hidden : PlacesT P 35 [(0, 1), (1, 1), (2, 3), (5, 1), (6, 1), (7, 1), (8, 1), (9, 1), (10, 1)] := ⟨by kernel_rfl⟩
theorem sz.Hidden : (P.info? 35).map (·.size) = some 11 := by kernel_rfl
abbrev T.Stay : Nat := 42
theorem ag.Stay : AggT P 42 2 := ⟨by kernel_rfl, by kernel_rfl⟩
theorem cc.Stay : ConcT P 42 := by unfold ConcT; kernel_rfl
theorem fd.Stay_0 : FieldT P 42 0 0 := ⟨by kernel_rfl⟩
theorem fd.Stay_1 : FieldT P 42 1 1 := ⟨by kernel_rfl⟩
theorem z.Stay : ZeroT P 42 [.d (.sc (.int .i64 0)), .mt] := ⟨by kernel_rfl⟩
theorem pl.Stay : PlacesT P 42 [(0, 1), (1, 1)] := ⟨by kernel_rfl⟩
theorem sz.Stay : (P.info? 42).map (·.size) = some 2 := by kernel_rfl
abbrev T.Stays : Nat := 43
theorem sl.Stays : SliceT P 43 42 2 32 := ⟨by kernel_rfl, by kernel_rfl, by decide⟩
theorem ce.Stays : CellT P 43 := ⟨by kernel_rfl, by kernel_rfl⟩
theorem z.Stays : ZeroT P 43 [.mt] := ⟨by kernel_rfl⟩
theorem sz.Stays : (P.info? 43).map (·.size) = some 1 := by kernel_rfl
abbrev T.Ring : Nat := 45
theorem ag.Ring : AggT P 45 2 := ⟨by kernel_rfl, by kernel_rfl⟩
theorem cc.Ring : ConcT P 45 := by unfold ConcT; kernel_rfl
theorem fd.Ring_0 : FieldT P 45 0 0 := ⟨by kernel_rfl⟩
theorem fd.Ring_1 : FieldT P 45 1 1 := ⟨by kernel_rfl⟩
theorem z.Ring : ZeroT P 45 [.d (.sc (.int .i64 0)), .mt] := ⟨by kernel_rfl⟩
theorem pl.Ring : PlacesT P 45 [(0, 1), (1, 1)] := ⟨by kernel_rfl⟩
theorem sz.Ring : (P.info? 45).map (·.size) = some 2 := by kernel_rfl
abbrev T.Weights : Nat := 46
theorem sl.Weights : SliceT P 46 56 8 128 := ⟨by kernel_rfl, by kernel_rfl, by decide⟩
theorem ce.Weights : CellT P 46 := ⟨by kernel_rfl, by kernel_rfl⟩
theorem z.Weights : ZeroT P 46 [.mt] := ⟨by kernel_rfl⟩
theorem sz.Weights : (P.info? 46).map (·.size) = some 1 := by kernel_rfl
abbrev T.Arcs : Nat := 47
theorem sl.Arcs : SliceT P 47 79 11 152 := ⟨by kernel_rfl, by kernel_rfl, by decide⟩
theorem ce.Arcs : CellT P 47 := ⟨by kernel_rfl, by kernel_rfl⟩
theorem z.Arcs : ZeroT P 47 [.mt] := ⟨by kernel_rfl⟩
theorem sz.Arcs : (P.info? 47).map (·.size) = some 1 := by kernel_rfl
abbrev T.Auto : Nat := 49
theorem ag.Auto : AggT P 49 7 := ⟨by kernel_rfl, by kernel_rfl⟩
theorem cc.Auto : ConcT P 49 := by unfold ConcT; kernel_rfl
theorem fd.Auto_0 : FieldT P 49 0 0 := ⟨by kernel_rfl⟩
theorem fd.Auto_1 : FieldT P 49 1 2 := ⟨by kernel_rfl⟩
theorem fd.Auto_2 : FieldT P 49 2 3 := ⟨by kernel_rfl⟩
theorem fd.Auto_3 : FieldT P 49 3 4 := ⟨by kernel_rfl⟩
theorem fd.Auto_4 : FieldT P 49 4 5 := ⟨by kernel_rfl⟩
theorem fd.Auto_5 : FieldT P 49 5 6 := ⟨by kernel_rfl⟩
theorem z.Auto : ZeroT P 49 [.d (.sc (.int .i64 0)), .mt, .d (.sc (.int .i64 0)), .d (.sc (.int .i64 0)), .mt, .mt, .mt] := ⟨by kernel_rfl⟩
theorem pl.Auto : PlacesT P 49 [(0, 2), (2, 1), (3, 1), (4, 1), (5, 1), (6, 1)] := ⟨by kernel_rfl⟩
theorem sz.Auto : (P.info? 49).map (·.size) = some 7 := by kernel_rfl
abbrev T.u64 : Nat := 53
theorem ce.u64 : CellT P 53 := ⟨by kernel_rfl, by kernel_rfl⟩
theorem it.u64 : IntT P 53 .u64 := ⟨by kernel_rfl⟩
theorem z.u64 : ZeroT P 53 [.d (.sc (.int .u64 0))] := ⟨by kernel_rfl⟩
theorem sz.u64 : (P.info? 53).map (·.size) = some 1 := by kernel_rfl
abbrev T.Monomials : Nat := 54
theorem sl.Monomials : SliceT P 54 206 6 80 := ⟨by kernel_rfl, by kernel_rfl, by decide⟩
theorem ce.Monomials : CellT P 54 := ⟨by kernel_rfl, by kernel_rfl⟩
theorem z.Monomials : ZeroT P 54 [.mt] := ⟨by kernel_rfl⟩
theorem sz.Monomials : (P.info? 54).map (·.size) = some 1 := by kernel_rfl
abbrev T.Weight : Nat := 56
theorem ag.Weight : AggT P 56 8 := ⟨by kernel_rfl, by kernel_rfl⟩
theorem cc.Weight : ConcT P 56 := by unfold ConcT; kernel_rfl
theorem fd.Weight_0 : FieldT P 56 0 0 := ⟨by kernel_rfl⟩
theorem fd.Weight_1 : FieldT P 56 1 3 := ⟨by kernel_rfl⟩
theorem fd.Weight_2 : FieldT P 56 2 4 := ⟨by kernel_rfl⟩
theorem fd.Weight_3 : FieldT P 56 3 5 := ⟨by kernel_rfl⟩
theorem fd.Weight_4 : FieldT P 56 4 6 := ⟨by kernel_rfl⟩
theorem fd.Weight_5 : FieldT P 56 5 7 := ⟨by kernel_rfl⟩
theorem z.Weight : ZeroT P 56 [.d (.sc (.bool false)), .mt, .mt, .d (.sc (.int .i64 0)), .d (.sc (.bool false)), .d (.sc (.int .u64 0)), .mt, .mt] := ⟨by kernel_rfl⟩
theorem pl.Weight : PlacesT P 56 [(0, 3), (3, 1), (4, 1), (5, 1), (6, 1), (7, 1)] := ⟨by kernel_rfl⟩
theorem sz.Weight : (P.info? 56).map (·.size) = some 8 := by kernel_rfl
abbrev T.Arc : Nat := 79
theorem ag.Arc : AggT P 79 11 := ⟨by kernel_rfl, by kernel_rfl⟩
theorem cc.Arc : ConcT P 79 := by unfold ConcT; kernel_rfl
theorem fd.Arc_0 : FieldT P 79 0 0 := ⟨by kernel_rfl⟩
theorem fd.Arc_1 : FieldT P 79 1 1 := ⟨by kernel_rfl⟩
theorem fd.Arc_2 : FieldT P 79 2 2 := ⟨by kernel_rfl⟩
theorem fd.Arc_3 : FieldT P 79 3 3 := ⟨by kernel_rfl⟩
theorem z.Arc : ZeroT P 79 [.d (.sc (.int .i64 0)), .d (.sc (.int .i64 0)), .d (.sc (.int .i64 0)), .d (.sc (.bool false)), .mt, .mt, .d (.sc (.int .i64 0)), .d (.sc (.bool false)), .d (.sc (.int .u64 0)), .mt, .mt] := ⟨by kernel_rfl⟩
theorem pl.Arc : PlacesT P 79 [(0, 1), (1, 1), (2, 1), (3, 8)] := ⟨by kernel_rfl⟩
theorem sz.Arc : (P.info? 79).map (·.size) = some 11 := by kernel_rfl
abbrev T.limbs : Nat := 98
theorem sl.limbs : SliceT P 98 104 1 4 := ⟨by kernel_rfl, by kernel_rfl, by decide⟩
theorem ce.limbs : CellT P 98 := ⟨by kernel_rfl, by kernel_rfl⟩
theorem z.limbs : ZeroT P 98 [.mt] := ⟨by kernel_rfl⟩
theorem sz.limbs : (P.info? 98).map (·.size) = some 1 := by kernel_rfl
abbrev T.fraction : Nat := 100
theorem ag.fraction : AggT P 100 3 := ⟨by kernel_rfl, by kernel_rfl⟩
theorem cc.fraction : ConcT P 100 := by unfold ConcT; kernel_rfl
theorem fd.fraction_0 : FieldT P 100 0 0 := ⟨by kernel_rfl⟩
theorem fd.fraction_1 : FieldT P 100 1 1 := ⟨by kernel_rfl⟩
theorem fd.fraction_2 : FieldT P 100 2 2 := ⟨by kernel_rfl⟩
theorem z.fraction : ZeroT P 100 [.d (.sc (.bool false)), .mt, .mt] := ⟨by kernel_rfl⟩
theorem pl.fraction : PlacesT P 100 [(0, 1), (1, 1), (2, 1)] := ⟨by kernel_rfl⟩
theorem sz.fraction : (P.info? 100).map (·.size) = some 3 := by kernel_rfl
abbrev T.u32 : Nat := 104
theorem ce.u32 : CellT P 104 := ⟨by kernel_rfl, by kernel_rfl⟩
theorem it.u32 : IntT P 104 .u32 := ⟨by kernel_rfl⟩
theorem z.u32 : ZeroT P 104 [.d (.sc (.int .u32 0))] := ⟨by kernel_rfl⟩
theorem sz.u32 : (P.info? 104).map (·.size) = some 1 := by kernel_rfl
abbrev T.uint : Nat := 128
theorem ce.uint : CellT P 128 := ⟨by kernel_rfl, by kernel_rfl⟩
theorem it.uint : IntT P 128 .u64 := ⟨by kernel_rfl⟩
theorem z.uint : ZeroT P 128 [.d (.sc (.int .u64 0))] := ⟨by kernel_rfl⟩
theorem sz.uint : (P.info? 128).map (·.size) = some 1 := by kernel_rfl
abbrev T.algebra : Nat := 161
theorem ag.algebra : AggT P 161 9 := ⟨by kernel_rfl, by kernel_rfl⟩
theorem cc.algebra : ConcT P 161 := by unfold ConcT; kernel_rfl
theorem fd.algebra_0 : FieldT P 161 0 0 := ⟨by kernel_rfl⟩
theorem fc.algebra_0 : FieldC P 161 0 0 := ⟨by kernel_rfl⟩
theorem fd.algebra_1 : FieldT P 161 1 1 := ⟨by kernel_rfl⟩
theorem fc.algebra_1 : FieldC P 161 1 1 := ⟨by kernel_rfl⟩
theorem fd.algebra_3 : FieldT P 161 3 3 := ⟨by kernel_rfl⟩
theorem fc.algebra_3 : FieldC P 161 3 3 := ⟨by kernel_rfl⟩
theorem fd.algebra_4 : FieldT P 161 4 4 := ⟨by kernel_rfl⟩
theorem fc.algebra_4 : FieldC P 161 4 4 := ⟨by kernel_rfl⟩
theorem z.algebra : ZeroT P 161 [.d (.sc .nilFunc), .d (.sc .nilFunc), .d (.sc .nilFunc), .d (.sc .nilFunc), .d (.sc .nilFunc), .d (.sc .nilFunc), .d (.sc .nilFunc), .d (.sc .nilFunc), .d (.sc .nilFunc)] := ⟨by kernel_rfl⟩
theorem pl.algebra : PlacesT P 161 [(0, 1), (1, 1), (2, 1), (3, 1), (4, 1), (5, 1), (6, 1), (7, 1), (8, 1)] := ⟨by kernel_rfl⟩
theorem sz.algebra : (P.info? 161).map (·.size) = some 9 := by kernel_rfl
abbrev T.fn129 : Nat := 129
theorem ce.fn129 : CellT P 129 := ⟨by kernel_rfl, by kernel_rfl⟩
theorem z.fn129 : ZeroT P 129 [.d (.sc .nilFunc)] := ⟨by kernel_rfl⟩
theorem sz.fn129 : (P.info? 129).map (·.size) = some 1 := by kernel_rfl
theorem st.str : P.underlying 9 = some .string := by kernel_rfl
end Go.Proofs.YtippcclgnabpdaaGreatDoor
