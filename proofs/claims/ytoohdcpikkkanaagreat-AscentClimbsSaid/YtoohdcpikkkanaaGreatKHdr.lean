/-
  Names for the functions of this seat, and facts on its types (printed by hdr.py).
-/
import Derived.Test.YtoohdcpikkkanaaGreatChecked
import Derived.KernelRfl
import Derived.Test.YtoohdcpikkkanaaGreatKNumb
set_option linter.unusedVariables false
set_option linter.unusedSimpArgs false
namespace Go.Proofs.YtoohdcpikkkanaaGreat
open Go Go.AL
noncomputable abbrev P : Program := Tryz.prog
theorem order_free : P.follows .mixedOrders = true := by kernel_rfl
abbrev F.law39_AscentClimbs : Nat := 6
theorem fn.law39_AscentClimbs : P.funcs[F.law39_AscentClimbs]? = some Tryz.f6 := Tryz.func6
abbrev F.world_Chain_Hidden : Nat := 7
theorem fn.world_Chain_Hidden : P.funcs[F.world_Chain_Hidden]? = some Tryz.f7 := Tryz.func7
abbrev F.world_Within : Nat := 8
theorem fn.world_Within : P.funcs[F.world_Within]? = some Tryz.f8 := Tryz.func8
abbrev F.ascent_Round : Nat := 9
theorem fn.ascent_Round : P.funcs[F.ascent_Round]? = some Tryz.f9 := Tryz.func9
abbrev F.hmm_Valid : Nat := 10
theorem fn.hmm_Valid : P.funcs[F.hmm_Valid]? = some Tryz.f10 := Tryz.func10
abbrev F.law39_known : Nat := 13
theorem fn.law39_known : P.funcs[F.law39_known]? = some Tryz.f13 := Tryz.func13
abbrev F.world_Data : Nat := 14
theorem fn.world_Data : P.funcs[F.world_Data]? = some Tryz.f14 := Tryz.func14
abbrev F.ascent_Likelihood : Nat := 15
theorem fn.ascent_Likelihood : P.funcs[F.ascent_Likelihood]? = some Tryz.f15 := Tryz.func15
abbrev F.ascent_Reestimate : Nat := 16
theorem fn.ascent_Reestimate : P.funcs[F.ascent_Reestimate]? = some Tryz.f16 := Tryz.func16
abbrev F.ref01_Sign : Nat := 17
theorem fn.ref01_Sign : P.funcs[F.ref01_Sign]? = some Tryz.f17 := Tryz.func17
abbrev F.ref01_Compare : Nat := 18
theorem fn.ref01_Compare : P.funcs[F.ref01_Compare]? = some Tryz.f18 := Tryz.func18
abbrev F.ascent_Enclose : Nat := 19
theorem fn.ascent_Enclose : P.funcs[F.ascent_Enclose]? = some Tryz.f19 := Tryz.func19
abbrev F.ascent_Ascend : Nat := 20
theorem fn.ascent_Ascend : P.funcs[F.ascent_Ascend]? = some Tryz.f20 := Tryz.func20
abbrev F.ref39_Likelihood : Nat := 21
theorem fn.ref39_Likelihood : P.funcs[F.ref39_Likelihood]? = some Tryz.f21 := Tryz.func21
abbrev F.ascent_Check : Nat := 22
theorem fn.ascent_Check : P.funcs[F.ascent_Check]? = some Tryz.f22 := Tryz.func22
abbrev F.ref33_Same : Nat := 23
theorem fn.ref33_Same : P.funcs[F.ref33_Same]? = some Tryz.f23 := Tryz.func23
abbrev F.ref39_Round : Nat := 24
theorem fn.ref39_Round : P.funcs[F.ref39_Round]? = some Tryz.f24 := Tryz.func24
abbrev F.world_Chain_made : Nat := 25
theorem fn.world_Chain_made : P.funcs[F.world_Chain_made]? = some Tryz.f25 := Tryz.func25
abbrev F.hmm_Plain : Nat := 26
theorem fn.hmm_Plain : P.funcs[F.hmm_Plain]? = some Tryz.f26 := Tryz.func26
abbrev F.ascent_rounded : Nat := 27
theorem fn.ascent_rounded : P.funcs[F.ascent_rounded]? = some Tryz.f27 := Tryz.func27
abbrev F.slices_Clone_bools_bool : Nat := 28
theorem fn.slices_Clone_bools_bool : P.funcs[F.slices_Clone_bools_bool]? = some Tryz.f28 := Tryz.func28
abbrev F.slices_Clone_ints_int : Nat := 29
theorem fn.slices_Clone_ints_int : P.funcs[F.slices_Clone_ints_int]? = some Tryz.f29 := Tryz.func29
abbrev F.slices_Clone_Rats_Rat : Nat := 30
theorem fn.slices_Clone_Rats_Rat : P.funcs[F.slices_Clone_Rats_Rat]? = some Tryz.f30 := Tryz.func30
abbrev F.hmm_formed : Nat := 31
theorem fn.hmm_formed : P.funcs[F.hmm_formed]? = some Tryz.f31 := Tryz.func31
abbrev F.hmm_sums : Nat := 32
theorem fn.hmm_sums : P.funcs[F.hmm_sums]? = some Tryz.f32 := Tryz.func32
abbrev F.hmm_order : Nat := 33
theorem fn.hmm_order : P.funcs[F.hmm_order]? = some Tryz.f33 := Tryz.func33
abbrev F.hmm_tied : Nat := 34
theorem fn.hmm_tied : P.funcs[F.hmm_tied]? = some Tryz.f34 := Tryz.func34
abbrev F.ref01_Make : Nat := 35
theorem fn.ref01_Make : P.funcs[F.ref01_Make]? = some Tryz.f35 := Tryz.func35
abbrev F.ref01_Sub : Nat := 37
theorem fn.ref01_Sub : P.funcs[F.ref01_Sub]? = some Tryz.f37 := Tryz.func37
abbrev F.law39_coin : Nat := 38
theorem fn.law39_coin : P.funcs[F.law39_coin]? = some Tryz.f38 := Tryz.func38
abbrev F.world_Tape_Next : Nat := 39
theorem fn.world_Tape_Next : P.funcs[F.world_Tape_Next]? = some Tryz.f39 := Tryz.func39
abbrev F.ascent_refuse : Nat := 40
theorem fn.ascent_refuse : P.funcs[F.ascent_refuse]? = some Tryz.f40 := Tryz.func40
abbrev F.ascent_whole : Nat := 41
theorem fn.ascent_whole : P.funcs[F.ascent_whole]? = some Tryz.f41 := Tryz.func41
abbrev F.forward_Likelihood : Nat := 42
theorem fn.forward_Likelihood : P.funcs[F.forward_Likelihood]? = some Tryz.f42 := Tryz.func42
abbrev F.rational_Mul : Nat := 43
theorem fn.rational_Mul : P.funcs[F.rational_Mul]? = some Tryz.f43 := Tryz.func43
abbrev F.ascent_expected : Nat := 44
theorem fn.ascent_expected : P.funcs[F.ascent_expected]? = some Tryz.f44 := Tryz.func44
abbrev F.ascent_over : Nat := 45
theorem fn.ascent_over : P.funcs[F.ascent_over]? = some Tryz.f45 := Tryz.func45
abbrev F.ascent_divided : Nat := 46
theorem fn.ascent_divided : P.funcs[F.ascent_divided]? = some Tryz.f46 := Tryz.func46
abbrev F.fresh_Rats : Nat := 47
theorem fn.fresh_Rats : P.funcs[F.fresh_Rats]? = some Tryz.f47 := Tryz.func47
abbrev F.fresh_Rat : Nat := 48
theorem fn.fresh_Rat : P.funcs[F.fresh_Rat]? = some Tryz.f48 := Tryz.func48
abbrev F.ascent_sum : Nat := 49
theorem fn.ascent_sum : P.funcs[F.ascent_sum]? = some Tryz.f49 := Tryz.func49
abbrev F.rational_Sign : Nat := 50
theorem fn.rational_Sign : P.funcs[F.rational_Sign]? = some Tryz.f50 := Tryz.func50
abbrev F.ascent_add : Nat := 51
theorem fn.ascent_add : P.funcs[F.ascent_add]? = some Tryz.f51 := Tryz.func51
abbrev F.ref01_Take : Nat := 52
theorem fn.ref01_Take : P.funcs[F.ref01_Take]? = some Tryz.f52 := Tryz.func52
abbrev F.ascent_Enclose_1 : Nat := 53
theorem fn.ascent_Enclose_1 : P.funcs[F.ascent_Enclose_1]? = some Tryz.f53 := Tryz.func53
abbrev F.rational_Down : Nat := 54
theorem fn.rational_Down : P.funcs[F.rational_Down]? = some Tryz.f54 := Tryz.func54
abbrev F.ascent_Enclose_2 : Nat := 55
theorem fn.ascent_Enclose_2 : P.funcs[F.ascent_Enclose_2]? = some Tryz.f55 := Tryz.func55
abbrev F.rational_Up : Nat := 56
theorem fn.rational_Up : P.funcs[F.rational_Up]? = some Tryz.f56 := Tryz.func56
abbrev F.ascent_bound : Nat := 57
theorem fn.ascent_bound : P.funcs[F.ascent_bound]? = some Tryz.f57 := Tryz.func57
abbrev F.fresh_Hidden : Nat := 58
theorem fn.fresh_Hidden : P.funcs[F.fresh_Hidden]? = some Tryz.f58 := Tryz.func58
abbrev F.hmm_Same : Nat := 59
theorem fn.hmm_Same : P.funcs[F.hmm_Same]? = some Tryz.f59 := Tryz.func59
abbrev F.rational_Compare : Nat := 60
theorem fn.rational_Compare : P.funcs[F.rational_Compare]? = some Tryz.f60 := Tryz.func60
abbrev F.ref39_check : Nat := 61
theorem fn.ref39_check : P.funcs[F.ref39_check]? = some Tryz.f61 := Tryz.func61
abbrev F.ref33_Whole : Nat := 62
theorem fn.ref33_Whole : P.funcs[F.ref33_Whole]? = some Tryz.f62 := Tryz.func62
abbrev F.ref34_Likelihood : Nat := 63
theorem fn.ref34_Likelihood : P.funcs[F.ref34_Likelihood]? = some Tryz.f63 := Tryz.func63
abbrev F.ref01_Mul : Nat := 64
theorem fn.ref01_Mul : P.funcs[F.ref01_Mul]? = some Tryz.f64 := Tryz.func64
abbrev F.ascent_same : Nat := 65
theorem fn.ascent_same : P.funcs[F.ascent_same]? = some Tryz.f65 := Tryz.func65
abbrev F.ref01_Same : Nat := 66
theorem fn.ref01_Same : P.funcs[F.ref01_Same]? = some Tryz.f66 := Tryz.func66
abbrev F.ref33_fields : Nat := 67
theorem fn.ref33_fields : P.funcs[F.ref33_fields]? = some Tryz.f67 := Tryz.func67
abbrev F.ref33_Check : Nat := 68
theorem fn.ref33_Check : P.funcs[F.ref33_Check]? = some Tryz.f68 := Tryz.func68
abbrev F.ref39_rounded : Nat := 69
theorem fn.ref39_rounded : P.funcs[F.ref39_rounded]? = some Tryz.f69 := Tryz.func69
abbrev F.world_Shares : Nat := 70
theorem fn.world_Shares : P.funcs[F.world_Shares]? = some Tryz.f70 := Tryz.func70
abbrev F.ref01_Add : Nat := 71
theorem fn.ref01_Add : P.funcs[F.ref01_Add]? = some Tryz.f71 := Tryz.func71
abbrev F.world_sameRats : Nat := 72
theorem fn.world_sameRats : P.funcs[F.world_sameRats]? = some Tryz.f72 := Tryz.func72
abbrev F.slices_Contains_bools_bool : Nat := 73
theorem fn.slices_Contains_bools_bool : P.funcs[F.slices_Contains_bools_bool]? = some Tryz.f73 := Tryz.func73
abbrev F.rational_Whole : Nat := 74
theorem fn.rational_Whole : P.funcs[F.rational_Whole]? = some Tryz.f74 := Tryz.func74
abbrev F.rational_Sub : Nat := 75
theorem fn.rational_Sub : P.funcs[F.rational_Sub]? = some Tryz.f75 := Tryz.func75
abbrev F.slices_SortFunc_ints_int : Nat := 76
theorem fn.slices_SortFunc_ints_int : P.funcs[F.slices_SortFunc_ints_int]? = some Tryz.f76 := Tryz.func76
abbrev F.ascent_rounded_1 : Nat := 77
theorem fn.ascent_rounded_1 : P.funcs[F.ascent_rounded_1]? = some Tryz.f77 := Tryz.func77
abbrev F.cmp_Or_int : Nat := 78
theorem fn.cmp_Or_int : P.funcs[F.cmp_Or_int]? = some Tryz.f78 := Tryz.func78
abbrev F.cmp_Compare_int : Nat := 79
theorem fn.cmp_Compare_int : P.funcs[F.cmp_Compare_int]? = some Tryz.f79 := Tryz.func79
abbrev F.hmm_share : Nat := 80
theorem fn.hmm_share : P.funcs[F.hmm_share]? = some Tryz.f80 := Tryz.func80
abbrev F.hmm_shares : Nat := 81
theorem fn.hmm_shares : P.funcs[F.hmm_shares]? = some Tryz.f81 := Tryz.func81
abbrev F.hmm_whole : Nat := 82
theorem fn.hmm_whole : P.funcs[F.hmm_whole]? = some Tryz.f82 := Tryz.func82
abbrev F.hmm_order_1 : Nat := 83
theorem fn.hmm_order_1 : P.funcs[F.hmm_order_1]? = some Tryz.f83 := Tryz.func83
abbrev F.slices_Reverse_ints_int : Nat := 84
theorem fn.slices_Reverse_ints_int : P.funcs[F.slices_Reverse_ints_int]? = some Tryz.f84 := Tryz.func84
abbrev F.hmm_equal : Nat := 85
theorem fn.hmm_equal : P.funcs[F.hmm_equal]? = some Tryz.f85 := Tryz.func85
abbrev F.ref01_over : Nat := 86
theorem fn.ref01_over : P.funcs[F.ref01_over]? = some Tryz.f86 := Tryz.func86
abbrev F.ref01_natural : Nat := 87
theorem fn.ref01_natural : P.funcs[F.ref01_natural]? = some Tryz.f87 := Tryz.func87
abbrev F.ref01_absolute : Nat := 88
theorem fn.ref01_absolute : P.funcs[F.ref01_absolute]? = some Tryz.f88 := Tryz.func88
abbrev F.ref01_Neg : Nat := 89
theorem fn.ref01_Neg : P.funcs[F.ref01_Neg]? = some Tryz.f89 := Tryz.func89
abbrev F.words_Valid : Nat := 90
theorem fn.words_Valid : P.funcs[F.words_Valid]? = some Tryz.f90 := Tryz.func90
abbrev F.rational_Make : Nat := 91
theorem fn.rational_Make : P.funcs[F.rational_Make]? = some Tryz.f91 := Tryz.func91
abbrev F.forward_refuse : Nat := 92
theorem fn.forward_refuse : P.funcs[F.forward_refuse]? = some Tryz.f92 := Tryz.func92
abbrev F.forward_likelihood : Nat := 93
theorem fn.forward_likelihood : P.funcs[F.forward_likelihood]? = some Tryz.f93 := Tryz.func93
abbrev F.rational_of : Nat := 94
theorem fn.rational_of : P.funcs[F.rational_of]? = some Tryz.f94 := Tryz.func94
abbrev F.rational_limbs_times : Nat := 95
theorem fn.rational_limbs_times : P.funcs[F.rational_limbs_times]? = some Tryz.f95 := Tryz.func95
abbrev F.rational_fraction_rat : Nat := 96
theorem fn.rational_fraction_rat : P.funcs[F.rational_fraction_rat]? = some Tryz.f96 := Tryz.func96
abbrev F.forward_Expected : Nat := 97
theorem fn.forward_Expected : P.funcs[F.forward_Expected]? = some Tryz.f97 := Tryz.func97
abbrev F.rational_Div : Nat := 98
theorem fn.rational_Div : P.funcs[F.rational_Div]? = some Tryz.f98 := Tryz.func98
abbrev F.fresh_each_Rat : Nat := 99
theorem fn.fresh_each_Rat : P.funcs[F.fresh_each_Rat]? = some Tryz.f99 := Tryz.func99
abbrev F.slices_Clone_uint32s_uint32 : Nat := 100
theorem fn.slices_Clone_uint32s_uint32 : P.funcs[F.slices_Clone_uint32s_uint32]? = some Tryz.f100 := Tryz.func100
abbrev F.rational_Add : Nat := 101
theorem fn.rational_Add : P.funcs[F.rational_Add]? = some Tryz.f101 := Tryz.func101
abbrev F.ref01_Valid : Nat := 102
theorem fn.ref01_Valid : P.funcs[F.ref01_Valid]? = some Tryz.f102 := Tryz.func102
abbrev F.rational_limbs_left : Nat := 103
theorem fn.rational_limbs_left : P.funcs[F.rational_limbs_left]? = some Tryz.f103 := Tryz.func103
abbrev F.rational_limbs_over : Nat := 104
theorem fn.rational_limbs_over : P.funcs[F.rational_limbs_over]? = some Tryz.f104 := Tryz.func104
abbrev F.rational_limbs_plus : Nat := 105
theorem fn.rational_limbs_plus : P.funcs[F.rational_limbs_plus]? = some Tryz.f105 := Tryz.func105
abbrev F.rational_one : Nat := 106
theorem fn.rational_one : P.funcs[F.rational_one]? = some Tryz.f106 := Tryz.func106
abbrev F.rational_Neg : Nat := 107
theorem fn.rational_Neg : P.funcs[F.rational_Neg]? = some Tryz.f107 := Tryz.func107
abbrev F.fresh_Rows : Nat := 108
theorem fn.fresh_Rows : P.funcs[F.fresh_Rows]? = some Tryz.f108 := Tryz.func108
abbrev F.hmm_Same_1 : Nat := 109
theorem fn.hmm_Same_1 : P.funcs[F.hmm_Same_1]? = some Tryz.f109 := Tryz.func109
abbrev F.slices_EqualFunc_Rats_Rats_Rat_Rat : Nat := 110
theorem fn.slices_EqualFunc_Rats_Rats_Rat_Rat : P.funcs[F.slices_EqualFunc_Rats_Rats_Rat_Rat]? = some Tryz.f110 := Tryz.func110
abbrev F.hmm_same : Nat := 111
theorem fn.hmm_same : P.funcs[F.hmm_same]? = some Tryz.f111 := Tryz.func111
abbrev F.slices_EqualFunc_Ratss_Ratss_Rats_Rats : Nat := 112
theorem fn.slices_EqualFunc_Ratss_Ratss_Rats_Rats : P.funcs[F.slices_EqualFunc_Ratss_Ratss_Rats_Rats]? = some Tryz.f112 := Tryz.func112
abbrev F.slices_Equal_bools_bool : Nat := 113
theorem fn.slices_Equal_bools_bool : P.funcs[F.slices_Equal_bools_bool]? = some Tryz.f113 := Tryz.func113
abbrev F.slices_Equal_ints_int : Nat := 114
theorem fn.slices_Equal_ints_int : P.funcs[F.slices_Equal_ints_int]? = some Tryz.f114 := Tryz.func114
abbrev F.ref05_Valid : Nat := 115
theorem fn.ref05_Valid : P.funcs[F.ref05_Valid]? = some Tryz.f115 := Tryz.func115
abbrev F.ref34_Forward : Nat := 116
theorem fn.ref34_Forward : P.funcs[F.ref34_Forward]? = some Tryz.f116 := Tryz.func116
abbrev F.ref01_times : Nat := 117
theorem fn.ref01_times : P.funcs[F.ref01_times]? = some Tryz.f117 := Tryz.func117
abbrev F.ref01_den : Nat := 118
theorem fn.ref01_den : P.funcs[F.ref01_den]? = some Tryz.f118 := Tryz.func118
abbrev F.ref01_same : Nat := 119
theorem fn.ref01_same : P.funcs[F.ref01_same]? = some Tryz.f119 := Tryz.func119
abbrev F.ref33_Valid : Nat := 120
theorem fn.ref33_Valid : P.funcs[F.ref33_Valid]? = some Tryz.f120 := Tryz.func120
abbrev F.ref33_Plain : Nat := 121
theorem fn.ref33_Plain : P.funcs[F.ref33_Plain]? = some Tryz.f121 := Tryz.func121
abbrev F.ref39_floor : Nat := 122
theorem fn.ref39_floor : P.funcs[F.ref39_floor]? = some Tryz.f122 := Tryz.func122
abbrev F.ref39_over : Nat := 123
theorem fn.ref39_over : P.funcs[F.ref39_over]? = some Tryz.f123 := Tryz.func123
abbrev F.ref01_plus : Nat := 124
theorem fn.ref01_plus : P.funcs[F.ref01_plus]? = some Tryz.f124 := Tryz.func124
abbrev F.ref01_compare : Nat := 125
theorem fn.ref01_compare : P.funcs[F.ref01_compare]? = some Tryz.f125 := Tryz.func125
abbrev F.ref01_minus : Nat := 126
theorem fn.ref01_minus : P.funcs[F.ref01_minus]? = some Tryz.f126 := Tryz.func126
abbrev F.slices_Index_bools_bool : Nat := 127
theorem fn.slices_Index_bools_bool : P.funcs[F.slices_Index_bools_bool]? = some Tryz.f127 := Tryz.func127
abbrev F.rational_limbs_at : Nat := 128
theorem fn.rational_limbs_at : P.funcs[F.rational_limbs_at]? = some Tryz.f128 := Tryz.func128
abbrev F.rational_limbs_cmp : Nat := 129
theorem fn.rational_limbs_cmp : P.funcs[F.rational_limbs_cmp]? = some Tryz.f129 := Tryz.func129
abbrev F.rational_fraction_plus : Nat := 130
theorem fn.rational_fraction_plus : P.funcs[F.rational_fraction_plus]? = some Tryz.f130 := Tryz.func130
abbrev F.rational_fraction_negative : Nat := 131
theorem fn.rational_fraction_negative : P.funcs[F.rational_fraction_negative]? = some Tryz.f131 := Tryz.func131
abbrev F.slices_pdqsortCmpFunc_int : Nat := 132
theorem fn.slices_pdqsortCmpFunc_int : P.funcs[F.slices_pdqsortCmpFunc_int]? = some Tryz.f132 := Tryz.func132
abbrev F.math_bits_Len : Nat := 133
theorem fn.math_bits_Len : P.funcs[F.math_bits_Len]? = some Tryz.f133 := Tryz.func133
abbrev F.cmp_isNaN_int : Nat := 134
theorem fn.cmp_isNaN_int : P.funcs[F.cmp_isNaN_int]? = some Tryz.f134 := Tryz.func134
abbrev F.rational_Valid : Nat := 135
theorem fn.rational_Valid : P.funcs[F.rational_Valid]? = some Tryz.f135 := Tryz.func135
abbrev F.hmm_one : Nat := 136
theorem fn.hmm_one : P.funcs[F.hmm_one]? = some Tryz.f136 := Tryz.func136
abbrev F.slices_ContainsFunc_Rats_Rat : Nat := 137
theorem fn.slices_ContainsFunc_Rats_Rat : P.funcs[F.slices_ContainsFunc_Rats_Rat]? = some Tryz.f137 := Tryz.func137
abbrev F.hmm_shares_1 : Nat := 138
theorem fn.hmm_shares_1 : P.funcs[F.hmm_shares_1]? = some Tryz.f138 := Tryz.func138
abbrev F.slices_Concat_Rats_Rat : Nat := 139
theorem fn.slices_Concat_Rats_Rat : P.funcs[F.slices_Concat_Rats_Rat]? = some Tryz.f139 := Tryz.func139
abbrev F.hmm_equal_1 : Nat := 140
theorem fn.hmm_equal_1 : P.funcs[F.hmm_equal_1]? = some Tryz.f140 := Tryz.func140
abbrev F.ref01_divisor : Nat := 141
theorem fn.ref01_divisor : P.funcs[F.ref01_divisor]? = some Tryz.f141 := Tryz.func141
abbrev F.ref01_divide : Nat := 142
theorem fn.ref01_divide : P.funcs[F.ref01_divide]? = some Tryz.f142 := Tryz.func142
abbrev F.ref01_one : Nat := 143
theorem fn.ref01_one : P.funcs[F.ref01_one]? = some Tryz.f143 := Tryz.func143
abbrev F.ref01_trim : Nat := 144
theorem fn.ref01_trim : P.funcs[F.ref01_trim]? = some Tryz.f144 := Tryz.func144
abbrev F.rational_whole : Nat := 145
theorem fn.rational_whole : P.funcs[F.rational_whole]? = some Tryz.f145 := Tryz.func145
abbrev F.forward_forward : Nat := 146
theorem fn.forward_forward : P.funcs[F.forward_forward]? = some Tryz.f146 := Tryz.func146
abbrev F.rational_limbs_clean : Nat := 147
theorem fn.rational_limbs_clean : P.funcs[F.rational_limbs_clean]? = some Tryz.f147 := Tryz.func147
abbrev F.slices_Clone_rational_limbs_uint32 : Nat := 148
theorem fn.slices_Clone_rational_limbs_uint32 : P.funcs[F.slices_Clone_rational_limbs_uint32]? = some Tryz.f148 := Tryz.func148
abbrev F.rational_limbs_gcd : Nat := 149
theorem fn.rational_limbs_gcd : P.funcs[F.rational_limbs_gcd]? = some Tryz.f149 := Tryz.func149
abbrev F.forward_Posterior : Nat := 150
theorem fn.forward_Posterior : P.funcs[F.forward_Posterior]? = some Tryz.f150 := Tryz.func150
abbrev F.forward_zeros : Nat := 151
theorem fn.forward_zeros : P.funcs[F.forward_zeros]? = some Tryz.f151 := Tryz.func151
abbrev F.forward_backward : Nat := 152
theorem fn.forward_backward : P.funcs[F.forward_backward]? = some Tryz.f152 := Tryz.func152
abbrev F.rational_limbs_small : Nat := 153
theorem fn.rational_limbs_small : P.funcs[F.rational_limbs_small]? = some Tryz.f153 := Tryz.func153
abbrev F.rational_limbs_length : Nat := 154
theorem fn.rational_limbs_length : P.funcs[F.rational_limbs_length]? = some Tryz.f154 := Tryz.func154
abbrev F.rational_limbs_minus : Nat := 155
theorem fn.rational_limbs_minus : P.funcs[F.rational_limbs_minus]? = some Tryz.f155 := Tryz.func155
abbrev F.rational_limbs_right : Nat := 156
theorem fn.rational_limbs_right : P.funcs[F.rational_limbs_right]? = some Tryz.f156 := Tryz.func156
abbrev F.fresh_each_Rats : Nat := 157
theorem fn.fresh_each_Rats : P.funcs[F.fresh_each_Rats]? = some Tryz.f157 := Tryz.func157
abbrev F.slices_Equal_uint32s_uint32 : Nat := 158
theorem fn.slices_Equal_uint32s_uint32 : P.funcs[F.slices_Equal_uint32s_uint32]? = some Tryz.f158 := Tryz.func158
abbrev F.ref05_Alphabet : Nat := 159
theorem fn.ref05_Alphabet : P.funcs[F.ref05_Alphabet]? = some Tryz.f159 := Tryz.func159
abbrev F.ref34_Check : Nat := 160
theorem fn.ref34_Check : P.funcs[F.ref34_Check]? = some Tryz.f160 := Tryz.func160
abbrev F.ref33_formed : Nat := 161
theorem fn.ref33_formed : P.funcs[F.ref33_formed]? = some Tryz.f161 := Tryz.func161
abbrev F.ref33_one : Nat := 162
theorem fn.ref33_one : P.funcs[F.ref33_one]? = some Tryz.f162 := Tryz.func162
abbrev F.ref33_circles : Nat := 163
theorem fn.ref33_circles : P.funcs[F.ref33_circles]? = some Tryz.f163 := Tryz.func163
abbrev F.ref33_SameRats : Nat := 164
theorem fn.ref33_SameRats : P.funcs[F.ref33_SameRats]? = some Tryz.f164 := Tryz.func164
abbrev F.ref01_Whole : Nat := 165
theorem fn.ref01_Whole : P.funcs[F.ref01_Whole]? = some Tryz.f165 := Tryz.func165
abbrev F.ref01_Down : Nat := 166
theorem fn.ref01_Down : P.funcs[F.ref01_Down]? = some Tryz.f166 := Tryz.func166
abbrev F.ref01_Div : Nat := 167
theorem fn.ref01_Div : P.funcs[F.ref01_Div]? = some Tryz.f167 := Tryz.func167
abbrev F.ref01_limb : Nat := 168
theorem fn.ref01_limb : P.funcs[F.ref01_limb]? = some Tryz.f168 := Tryz.func168
abbrev F.ref01_sign : Nat := 169
theorem fn.ref01_sign : P.funcs[F.ref01_sign]? = some Tryz.f169 := Tryz.func169
abbrev F.slices_insertionSortCmpFunc_int : Nat := 170
theorem fn.slices_insertionSortCmpFunc_int : P.funcs[F.slices_insertionSortCmpFunc_int]? = some Tryz.f170 := Tryz.func170
abbrev F.math_bits_Len32 : Nat := 178
theorem fn.math_bits_Len32 : P.funcs[F.math_bits_Len32]? = some Tryz.f178 := Tryz.func178
abbrev F.math_bits_Len64 : Nat := 179
theorem fn.math_bits_Len64 : P.funcs[F.math_bits_Len64]? = some Tryz.f179 := Tryz.func179
abbrev F.rational_proper : Nat := 180
theorem fn.rational_proper : P.funcs[F.rational_proper]? = some Tryz.f180 := Tryz.func180
abbrev F.slices_IndexFunc_Rats_Rat : Nat := 181
theorem fn.slices_IndexFunc_Rats_Rat : P.funcs[F.slices_IndexFunc_Rats_Rat]? = some Tryz.f181 := Tryz.func181
abbrev F.slices_Grow_Rats_Rat : Nat := 182
theorem fn.slices_Grow_Rats_Rat : P.funcs[F.slices_Grow_Rats_Rat]? = some Tryz.f182 := Tryz.func182
abbrev F.math_bits_LeadingZeros32 : Nat := 183
theorem fn.math_bits_LeadingZeros32 : P.funcs[F.math_bits_LeadingZeros32]? = some Tryz.f183 := Tryz.func183
abbrev F.ref33_chances : Nat := 184
theorem fn.ref33_chances : P.funcs[F.ref33_chances]? = some Tryz.f184 := Tryz.func184
abbrev F.ref33_Chance : Nat := 185
theorem fn.ref33_Chance : P.funcs[F.ref33_Chance]? = some Tryz.f185 := Tryz.func185
abbrev F.ref33_Sum : Nat := 186
theorem fn.ref33_Sum : P.funcs[F.ref33_Sum]? = some Tryz.f186 := Tryz.func186
abbrev F.ref01_Quo : Nat := 187
theorem fn.ref01_Quo : P.funcs[F.ref01_Quo]? = some Tryz.f187 := Tryz.func187
abbrev F.ref01_floor : Nat := 188
theorem fn.ref01_floor : P.funcs[F.ref01_floor]? = some Tryz.f188 := Tryz.func188
abbrev F.ref01_Two : Nat := 189
theorem fn.ref01_Two : P.funcs[F.ref01_Two]? = some Tryz.f189 := Tryz.func189
abbrev T.i64 : Nat := 2
theorem ce.i64 : CellT P 2 := ⟨by kernel_rfl, by kernel_rfl⟩
theorem it.i64 : IntT P 2 .i64 := ⟨by kernel_rfl⟩
theorem z.i64 : ZeroT P 2 [.d (.sc (.int .i64 0))] := ⟨by kernel_rfl⟩
theorem sz.i64 : (P.info? 2).map (·.size) = some 1 := by kernel_rfl
abbrev T.int : Nat := 3
theorem ce.int : CellT P 3 := ⟨by kernel_rfl, by kernel_rfl⟩
theorem it.int : IntT P 3 .i64 := ⟨by kernel_rfl⟩
theorem z.int : ZeroT P 3 [.d (.sc (.int .i64 0))] := ⟨by kernel_rfl⟩
theorem sz.int : (P.info? 3).map (·.size) = some 1 := by kernel_rfl
abbrev T.bool : Nat := 4
theorem ce.bool : CellT P 4 := ⟨by kernel_rfl, by kernel_rfl⟩
theorem bt.bool : BoolT P 4 := ⟨by kernel_rfl⟩
theorem z.bool : ZeroT P 4 [.d (.sc (.bool false))] := ⟨by kernel_rfl⟩
theorem sz.bool : (P.info? 4).map (·.size) = some 1 := by kernel_rfl
abbrev T.u8 : Nat := 5
theorem ce.u8 : CellT P 5 := ⟨by kernel_rfl, by kernel_rfl⟩
theorem it.u8 : IntT P 5 .u8 := ⟨by kernel_rfl⟩
theorem z.u8 : ZeroT P 5 [.d (.sc (.int .u8 0))] := ⟨by kernel_rfl⟩
theorem sz.u8 : (P.info? 5).map (·.size) = some 1 := by kernel_rfl
abbrev T.ints : Nat := 22
theorem sl.ints : SliceT P 22 3 1 8 := ⟨by kernel_rfl, by kernel_rfl, by decide⟩
theorem ce.ints : CellT P 22 := ⟨by kernel_rfl, by kernel_rfl⟩
theorem z.ints : ZeroT P 22 [.mt] := ⟨by kernel_rfl⟩
theorem sz.ints : (P.info? 22).map (·.size) = some 1 := by kernel_rfl
abbrev T.Chain : Nat := 24
theorem ag.Chain : AggT P 24 3 := ⟨by kernel_rfl, by kernel_rfl⟩
theorem fd.Chain_0 : FieldT P 24 0 0 := ⟨by kernel_rfl⟩
theorem fd.Chain_1 : FieldT P 24 1 1 := ⟨by kernel_rfl⟩
theorem fd.Chain_2 : FieldT P 24 2 2 := ⟨by kernel_rfl⟩
theorem z.Chain : ZeroT P 24 [.d (.sc (.int .i64 0)), .d (.sc (.int .i64 0)), .mt] := ⟨by kernel_rfl⟩
theorem pl.Chain : PlacesT P 24 [(0, 1), (1, 1), (2, 1)] := ⟨by kernel_rfl⟩
theorem sz.Chain : (P.info? 24).map (·.size) = some 3 := by kernel_rfl
abbrev T.u32s : Nat := 25
theorem sl.u32s : SliceT P 25 125 1 4 := ⟨by kernel_rfl, by kernel_rfl, by decide⟩
theorem ce.u32s : CellT P 25 := ⟨by kernel_rfl, by kernel_rfl⟩
theorem z.u32s : ZeroT P 25 [.mt] := ⟨by kernel_rfl⟩
theorem sz.u32s : (P.info? 25).map (·.size) = some 1 := by kernel_rfl
abbrev T.Rat : Nat := 27
theorem ag.Rat : AggT P 27 3 := ⟨by kernel_rfl, by kernel_rfl⟩
theorem fd.Rat_0 : FieldT P 27 0 0 := ⟨by kernel_rfl⟩
theorem fd.Rat_1 : FieldT P 27 1 1 := ⟨by kernel_rfl⟩
theorem fd.Rat_2 : FieldT P 27 2 2 := ⟨by kernel_rfl⟩
theorem z.Rat : ZeroT P 27 [.d (.sc (.bool false)), .mt, .mt] := ⟨by kernel_rfl⟩
theorem pl.Rat : PlacesT P 27 [(0, 1), (1, 1), (2, 1)] := ⟨by kernel_rfl⟩
theorem sz.Rat : (P.info? 27).map (·.size) = some 3 := by kernel_rfl
abbrev T.Rats : Nat := 28
theorem sl.Rats : SliceT P 28 27 3 56 := ⟨by kernel_rfl, by kernel_rfl, by decide⟩
theorem ce.Rats : CellT P 28 := ⟨by kernel_rfl, by kernel_rfl⟩
theorem z.Rats : ZeroT P 28 [.mt] := ⟨by kernel_rfl⟩
theorem sz.Rats : (P.info? 28).map (·.size) = some 1 := by kernel_rfl
abbrev T.Ratss : Nat := 29
theorem sl.Ratss : SliceT P 29 28 1 24 := ⟨by kernel_rfl, by kernel_rfl, by decide⟩
theorem ce.Ratss : CellT P 29 := ⟨by kernel_rfl, by kernel_rfl⟩
theorem z.Ratss : ZeroT P 29 [.mt] := ⟨by kernel_rfl⟩
theorem sz.Ratss : (P.info? 29).map (·.size) = some 1 := by kernel_rfl
abbrev T.bools : Nat := 30
theorem sl.bools : SliceT P 30 4 1 1 := ⟨by kernel_rfl, by kernel_rfl, by decide⟩
theorem ce.bools : CellT P 30 := ⟨by kernel_rfl, by kernel_rfl⟩
theorem z.bools : ZeroT P 30 [.mt] := ⟨by kernel_rfl⟩
theorem sz.bools : (P.info? 30).map (·.size) = some 1 := by kernel_rfl
abbrev T.Hidden : Nat := 32
theorem ag.Hidden : AggT P 32 11 := ⟨by kernel_rfl, by kernel_rfl⟩
theorem fd.Hidden_0 : FieldT P 32 0 0 := ⟨by kernel_rfl⟩
theorem fd.Hidden_1 : FieldT P 32 1 1 := ⟨by kernel_rfl⟩
theorem fd.Hidden_2 : FieldT P 32 2 2 := ⟨by kernel_rfl⟩
theorem fd.Hidden_3 : FieldT P 32 3 5 := ⟨by kernel_rfl⟩
theorem fd.Hidden_4 : FieldT P 32 4 6 := ⟨by kernel_rfl⟩
theorem fd.Hidden_5 : FieldT P 32 5 7 := ⟨by kernel_rfl⟩
theorem fd.Hidden_6 : FieldT P 32 6 8 := ⟨by kernel_rfl⟩
theorem fd.Hidden_7 : FieldT P 32 7 9 := ⟨by kernel_rfl⟩
theorem fd.Hidden_8 : FieldT P 32 8 10 := ⟨by kernel_rfl⟩
theorem z.Hidden : ZeroT P 32 [.d (.sc (.int .i64 0)), .d (.sc (.int .i64 0)), .d (.sc (.bool false)), .mt, .mt, .mt, .mt, .mt, .mt, .mt, .mt] := ⟨by kernel_rfl⟩
theorem pl.Hidden : PlacesT P 32 [(0, 1), (1, 1), (2, 3), (5, 1), (6, 1), (7, 1), (8, 1), (9, 1), (10, 1)] := ⟨by kernel_rfl⟩
theorem sz.Hidden : (P.info? 32).map (·.size) = some 11 := by kernel_rfl
abbrev T.intss : Nat := 43
theorem sl.intss : SliceT P 43 22 1 24 := ⟨by kernel_rfl, by kernel_rfl, by decide⟩
theorem ce.intss : CellT P 43 := ⟨by kernel_rfl, by kernel_rfl⟩
theorem z.intss : ZeroT P 43 [.mt] := ⟨by kernel_rfl⟩
theorem sz.intss : (P.info? 43).map (·.size) = some 1 := by kernel_rfl
abbrev T.Interval : Nat := 52
theorem ag.Interval : AggT P 52 6 := ⟨by kernel_rfl, by kernel_rfl⟩
theorem fd.Interval_0 : FieldT P 52 0 0 := ⟨by kernel_rfl⟩
theorem fd.Interval_1 : FieldT P 52 1 3 := ⟨by kernel_rfl⟩
theorem z.Interval : ZeroT P 52 [.d (.sc (.bool false)), .mt, .mt, .d (.sc (.bool false)), .mt, .mt] := ⟨by kernel_rfl⟩
theorem pl.Interval : PlacesT P 52 [(0, 3), (3, 3)] := ⟨by kernel_rfl⟩
theorem sz.Interval : (P.info? 52).map (·.size) = some 6 := by kernel_rfl
abbrev T.Hiddens : Nat := 56
theorem sl.Hiddens : SliceT P 56 32 11 216 := ⟨by kernel_rfl, by kernel_rfl, by decide⟩
theorem ce.Hiddens : CellT P 56 := ⟨by kernel_rfl, by kernel_rfl⟩
theorem z.Hiddens : ZeroT P 56 [.mt] := ⟨by kernel_rfl⟩
theorem sz.Hiddens : (P.info? 56).map (·.size) = some 1 := by kernel_rfl
abbrev T.Intervals : Nat := 57
theorem sl.Intervals : SliceT P 57 52 6 112 := ⟨by kernel_rfl, by kernel_rfl, by decide⟩
theorem ce.Intervals : CellT P 57 := ⟨by kernel_rfl, by kernel_rfl⟩
theorem z.Intervals : ZeroT P 57 [.mt] := ⟨by kernel_rfl⟩
theorem sz.Intervals : (P.info? 57).map (·.size) = some 1 := by kernel_rfl
abbrev T.Trace : Nat := 59
theorem ag.Trace : AggT P 59 3 := ⟨by kernel_rfl, by kernel_rfl⟩
theorem fd.Trace_0 : FieldT P 59 0 0 := ⟨by kernel_rfl⟩
theorem fd.Trace_1 : FieldT P 59 1 1 := ⟨by kernel_rfl⟩
theorem fd.Trace_2 : FieldT P 59 2 2 := ⟨by kernel_rfl⟩
theorem z.Trace : ZeroT P 59 [.mt, .mt, .d (.sc (.int .i64 0))] := ⟨by kernel_rfl⟩
theorem pl.Trace : PlacesT P 59 [(0, 1), (1, 1), (2, 1)] := ⟨by kernel_rfl⟩
theorem sz.Trace : (P.info? 59).map (·.size) = some 3 := by kernel_rfl
abbrev T.Tape : Nat := 79
theorem ag.Tape : AggT P 79 2 := ⟨by kernel_rfl, by kernel_rfl⟩
theorem fd.Tape_0 : FieldT P 79 0 0 := ⟨by kernel_rfl⟩
theorem fd.Tape_1 : FieldT P 79 1 1 := ⟨by kernel_rfl⟩
theorem z.Tape : ZeroT P 79 [.mt, .d (.sc (.int .i64 0))] := ⟨by kernel_rfl⟩
theorem pl.Tape : PlacesT P 79 [(0, 1), (1, 1)] := ⟨by kernel_rfl⟩
theorem sz.Tape : (P.info? 79).map (·.size) = some 2 := by kernel_rfl
abbrev T.Counts : Nat := 85
theorem ag.Counts : AggT P 85 4 := ⟨by kernel_rfl, by kernel_rfl⟩
theorem fd.Counts_0 : FieldT P 85 0 0 := ⟨by kernel_rfl⟩
theorem fd.Counts_1 : FieldT P 85 1 1 := ⟨by kernel_rfl⟩
theorem fd.Counts_2 : FieldT P 85 2 2 := ⟨by kernel_rfl⟩
theorem fd.Counts_3 : FieldT P 85 3 3 := ⟨by kernel_rfl⟩
theorem z.Counts : ZeroT P 85 [.mt, .mt, .mt, .mt] := ⟨by kernel_rfl⟩
theorem pl.Counts : PlacesT P 85 [(0, 1), (1, 1), (2, 1), (3, 1)] := ⟨by kernel_rfl⟩
theorem sz.Counts : (P.info? 85).map (·.size) = some 4 := by kernel_rfl
abbrev T.u64 : Nat := 109
theorem ce.u64 : CellT P 109 := ⟨by kernel_rfl, by kernel_rfl⟩
theorem it.u64 : IntT P 109 .u64 := ⟨by kernel_rfl⟩
theorem z.u64 : ZeroT P 109 [.d (.sc (.int .u64 0))] := ⟨by kernel_rfl⟩
theorem sz.u64 : (P.info? 109).map (·.size) = some 1 := by kernel_rfl
abbrev T.limbs : Nat := 114
theorem sl.limbs : SliceT P 114 125 1 4 := ⟨by kernel_rfl, by kernel_rfl, by decide⟩
theorem ce.limbs : CellT P 114 := ⟨by kernel_rfl, by kernel_rfl⟩
theorem z.limbs : ZeroT P 114 [.mt] := ⟨by kernel_rfl⟩
theorem sz.limbs : (P.info? 114).map (·.size) = some 1 := by kernel_rfl
abbrev T.fraction : Nat := 116
theorem ag.fraction : AggT P 116 3 := ⟨by kernel_rfl, by kernel_rfl⟩
theorem fd.fraction_0 : FieldT P 116 0 0 := ⟨by kernel_rfl⟩
theorem fd.fraction_1 : FieldT P 116 1 1 := ⟨by kernel_rfl⟩
theorem fd.fraction_2 : FieldT P 116 2 2 := ⟨by kernel_rfl⟩
theorem z.fraction : ZeroT P 116 [.d (.sc (.bool false)), .mt, .mt] := ⟨by kernel_rfl⟩
theorem pl.fraction : PlacesT P 116 [(0, 1), (1, 1), (2, 1)] := ⟨by kernel_rfl⟩
theorem sz.fraction : (P.info? 116).map (·.size) = some 3 := by kernel_rfl
abbrev T.u32 : Nat := 125
theorem ce.u32 : CellT P 125 := ⟨by kernel_rfl, by kernel_rfl⟩
theorem it.u32 : IntT P 125 .u32 := ⟨by kernel_rfl⟩
theorem z.u32 : ZeroT P 125 [.d (.sc (.int .u32 0))] := ⟨by kernel_rfl⟩
theorem sz.u32 : (P.info? 125).map (·.size) = some 1 := by kernel_rfl
abbrev T.uint : Nat := 142
theorem ce.uint : CellT P 142 := ⟨by kernel_rfl, by kernel_rfl⟩
theorem it.uint : IntT P 142 .u64 := ⟨by kernel_rfl⟩
theorem z.uint : ZeroT P 142 [.d (.sc (.int .u64 0))] := ⟨by kernel_rfl⟩
theorem sz.uint : (P.info? 142).map (·.size) = some 1 := by kernel_rfl
abbrev T.fn105 : Nat := 105
theorem ce.fn105 : CellT P 105 := ⟨by kernel_rfl, by kernel_rfl⟩
theorem z.fn105 : ZeroT P 105 [.d (.sc .nilFunc)] := ⟨by kernel_rfl⟩
theorem sz.fn105 : (P.info? 105).map (·.size) = some 1 := by kernel_rfl
theorem st.str : P.underlying 9 = some .string := by kernel_rfl
end Go.Proofs.YtoohdcpikkkanaaGreat
