/-
  Names for the functions of this seat, and facts on its types (printed by hdr.py).
-/
import Derived.Test.YtonndaibggjmjaaGreatChecked
import Derived.KernelRfl
import Derived.Test.YtonndaibggjmjaaGreatKNumb
import Derived.Test.YtonndaibggjmjaaGreatKAlg36
set_option linter.unusedVariables false
set_option linter.unusedSimpArgs false
namespace Go.Proofs.YtonndaibggjmjaaGreat
open Go Go.AL
noncomputable abbrev P : Program := Tryz.prog
theorem order_free : P.follows .mixedOrders = true := by kernel_rfl
abbrev F.law35_ViterbiAddsUp : Nat := 5
theorem fn.law35_ViterbiAddsUp : P.funcs[F.law35_ViterbiAddsUp]? = some Tryz.f5 := Tryz.func5
abbrev F.world_Chain_Hidden : Nat := 6
theorem fn.world_Chain_Hidden : P.funcs[F.world_Chain_Hidden]? = some Tryz.f6 := Tryz.func6
abbrev F.world_Word : Nat := 7
theorem fn.world_Word : P.funcs[F.world_Word]? = some Tryz.f7 := Tryz.func7
abbrev F.world_Within : Nat := 8
theorem fn.world_Within : P.funcs[F.world_Within]? = some Tryz.f8 := Tryz.func8
abbrev F.ref01_Sign : Nat := 11
theorem fn.ref01_Sign : P.funcs[F.ref01_Sign]? = some Tryz.f11 := Tryz.func11
abbrev F.viterbi_Best : Nat := 13
theorem fn.viterbi_Best : P.funcs[F.viterbi_Best]? = some Tryz.f13 := Tryz.func13
abbrev F.viterbi_List : Nat := 14
theorem fn.viterbi_List : P.funcs[F.viterbi_List]? = some Tryz.f14 := Tryz.func14
abbrev F.law35_known : Nat := 15
theorem fn.law35_known : P.funcs[F.law35_known]? = some Tryz.f15 := Tryz.func15
abbrev F.law35_same : Nat := 16
theorem fn.law35_same : P.funcs[F.law35_same]? = some Tryz.f16 := Tryz.func16
abbrev F.ref01_Compare : Nat := 17
theorem fn.ref01_Compare : P.funcs[F.ref01_Compare]? = some Tryz.f17 := Tryz.func17
abbrev F.ref33_SameRats : Nat := 25
theorem fn.ref33_SameRats : P.funcs[F.ref33_SameRats]? = some Tryz.f25 := Tryz.func25
abbrev F.forward_Likelihood : Nat := 26
theorem fn.forward_Likelihood : P.funcs[F.forward_Likelihood]? = some Tryz.f26 := Tryz.func26
abbrev F.ref33_Sum : Nat := 27
theorem fn.ref33_Sum : P.funcs[F.ref33_Sum]? = some Tryz.f27 := Tryz.func27
abbrev F.ref34_Likelihood : Nat := 28
theorem fn.ref34_Likelihood : P.funcs[F.ref34_Likelihood]? = some Tryz.f28 := Tryz.func28
abbrev F.world_Chain_made : Nat := 29
theorem fn.world_Chain_made : P.funcs[F.world_Chain_made]? = some Tryz.f29 := Tryz.func29
abbrev F.ref34_Check : Nat := 30
theorem fn.ref34_Check : P.funcs[F.ref34_Check]? = some Tryz.f30 := Tryz.func30
abbrev F.ref01_Take : Nat := 33
theorem fn.ref01_Take : P.funcs[F.ref01_Take]? = some Tryz.f33 := Tryz.func33
abbrev F.viterbi_refuse : Nat := 35
theorem fn.viterbi_refuse : P.funcs[F.viterbi_refuse]? = some Tryz.f35 := Tryz.func35
abbrev F.viterbi_newTable : Nat := 36
theorem fn.viterbi_newTable : P.funcs[F.viterbi_newTable]? = some Tryz.f36 := Tryz.func36
abbrev F.viterbi_every : Nat := 37
theorem fn.viterbi_every : P.funcs[F.viterbi_every]? = some Tryz.f37 := Tryz.func37
abbrev F.viterbi_table_path : Nat := 38
theorem fn.viterbi_table_path : P.funcs[F.viterbi_table_path]? = some Tryz.f38 := Tryz.func38
abbrev F.viterbi_List_1 : Nat := 39
theorem fn.viterbi_List_1 : P.funcs[F.viterbi_List_1]? = some Tryz.f39 := Tryz.func39
abbrev F.viterbi_enter : Nat := 40
theorem fn.viterbi_enter : P.funcs[F.viterbi_enter]? = some Tryz.f40 := Tryz.func40
abbrev F.rational_Mul : Nat := 41
theorem fn.rational_Mul : P.funcs[F.rational_Mul]? = some Tryz.f41 := Tryz.func41
abbrev F.rational_Sign : Nat := 42
theorem fn.rational_Sign : P.funcs[F.rational_Sign]? = some Tryz.f42 := Tryz.func42
abbrev F.container_heap_Push : Nat := 43
theorem fn.container_heap_Push : P.funcs[F.container_heap_Push]? = some Tryz.f43 := Tryz.func43
abbrev F.slices_Clone_ints_int : Nat := 44
theorem fn.slices_Clone_ints_int : P.funcs[F.slices_Clone_ints_int]? = some Tryz.f44 := Tryz.func44
abbrev F.viterbi_parts_Len : Nat := 45
theorem fn.viterbi_parts_Len : P.funcs[F.viterbi_parts_Len]? = some Tryz.f45 := Tryz.func45
abbrev F.container_heap_Pop : Nat := 46
theorem fn.container_heap_Pop : P.funcs[F.container_heap_Pop]? = some Tryz.f46 := Tryz.func46
abbrev F.law35_pair : Nat := 47
theorem fn.law35_pair : P.funcs[F.law35_pair]? = some Tryz.f47 := Tryz.func47
abbrev F.ref01_Make : Nat := 48
theorem fn.ref01_Make : P.funcs[F.ref01_Make]? = some Tryz.f48 := Tryz.func48
abbrev F.ref01_Sub : Nat := 49
theorem fn.ref01_Sub : P.funcs[F.ref01_Sub]? = some Tryz.f49 := Tryz.func49
abbrev F.fresh_Rat : Nat := 51
theorem fn.fresh_Rat : P.funcs[F.fresh_Rat]? = some Tryz.f51 := Tryz.func51
abbrev F.forward_refuse : Nat := 57
theorem fn.forward_refuse : P.funcs[F.forward_refuse]? = some Tryz.f57 := Tryz.func57
abbrev F.forward_likelihood : Nat := 58
theorem fn.forward_likelihood : P.funcs[F.forward_likelihood]? = some Tryz.f58 := Tryz.func58
abbrev F.ref01_Add : Nat := 59
theorem fn.ref01_Add : P.funcs[F.ref01_Add]? = some Tryz.f59 := Tryz.func59
abbrev F.ref34_Forward : Nat := 60
theorem fn.ref34_Forward : P.funcs[F.ref34_Forward]? = some Tryz.f60 := Tryz.func60
abbrev F.ref01_Mul : Nat := 61
theorem fn.ref01_Mul : P.funcs[F.ref01_Mul]? = some Tryz.f61 := Tryz.func61
abbrev F.world_Shares : Nat := 62
theorem fn.world_Shares : P.funcs[F.world_Shares]? = some Tryz.f62 := Tryz.func62
abbrev F.world_Tape_Next : Nat := 63
theorem fn.world_Tape_Next : P.funcs[F.world_Tape_Next]? = some Tryz.f63 := Tryz.func63
abbrev F.world_sameRats : Nat := 64
theorem fn.world_sameRats : P.funcs[F.world_sameRats]? = some Tryz.f64 := Tryz.func64
abbrev F.ref33_Check : Nat := 65
theorem fn.ref33_Check : P.funcs[F.ref33_Check]? = some Tryz.f65 := Tryz.func65
abbrev F.ref05_Valid : Nat := 66
theorem fn.ref05_Valid : P.funcs[F.ref05_Valid]? = some Tryz.f66 := Tryz.func66
abbrev F.ref33_Whole : Nat := 67
theorem fn.ref33_Whole : P.funcs[F.ref33_Whole]? = some Tryz.f67 := Tryz.func67
abbrev F.ref01_Valid : Nat := 68
theorem fn.ref01_Valid : P.funcs[F.ref01_Valid]? = some Tryz.f68 := Tryz.func68
abbrev F.hmm_Valid : Nat := 69
theorem fn.hmm_Valid : P.funcs[F.hmm_Valid]? = some Tryz.f69 := Tryz.func69
abbrev F.hmm_Plain : Nat := 70
theorem fn.hmm_Plain : P.funcs[F.hmm_Plain]? = some Tryz.f70 := Tryz.func70
abbrev F.words_Valid : Nat := 71
theorem fn.words_Valid : P.funcs[F.words_Valid]? = some Tryz.f71 := Tryz.func71
abbrev F.viterbi_table_best : Nat := 72
theorem fn.viterbi_table_best : P.funcs[F.viterbi_table_best]? = some Tryz.f72 := Tryz.func72
abbrev F.rational_of : Nat := 73
theorem fn.rational_of : P.funcs[F.rational_of]? = some Tryz.f73 := Tryz.func73
abbrev F.rational_limbs_times : Nat := 74
theorem fn.rational_limbs_times : P.funcs[F.rational_limbs_times]? = some Tryz.f74 := Tryz.func74
abbrev F.rational_fraction_rat : Nat := 75
theorem fn.rational_fraction_rat : P.funcs[F.rational_fraction_rat]? = some Tryz.f75 := Tryz.func75
abbrev F.container_heap_up : Nat := 76
theorem fn.container_heap_up : P.funcs[F.container_heap_up]? = some Tryz.f76 := Tryz.func76
abbrev F.container_heap_down : Nat := 77
theorem fn.container_heap_down : P.funcs[F.container_heap_down]? = some Tryz.f77 := Tryz.func77
abbrev F.ref01_over : Nat := 78
theorem fn.ref01_over : P.funcs[F.ref01_over]? = some Tryz.f78 := Tryz.func78
abbrev F.ref01_natural : Nat := 79
theorem fn.ref01_natural : P.funcs[F.ref01_natural]? = some Tryz.f79 := Tryz.func79
abbrev F.ref01_absolute : Nat := 80
theorem fn.ref01_absolute : P.funcs[F.ref01_absolute]? = some Tryz.f80 := Tryz.func80
abbrev F.ref01_Neg : Nat := 81
theorem fn.ref01_Neg : P.funcs[F.ref01_Neg]? = some Tryz.f81 := Tryz.func81
abbrev F.slices_Clone_uint32s_uint32 : Nat := 84
theorem fn.slices_Clone_uint32s_uint32 : P.funcs[F.slices_Clone_uint32s_uint32]? = some Tryz.f84 := Tryz.func84
abbrev F.forward_forward : Nat := 89
theorem fn.forward_forward : P.funcs[F.forward_forward]? = some Tryz.f89 := Tryz.func89
abbrev F.rational_Add : Nat := 90
theorem fn.rational_Add : P.funcs[F.rational_Add]? = some Tryz.f90 := Tryz.func90
abbrev F.ref01_times : Nat := 91
theorem fn.ref01_times : P.funcs[F.ref01_times]? = some Tryz.f91 := Tryz.func91
abbrev F.ref01_den : Nat := 92
theorem fn.ref01_den : P.funcs[F.ref01_den]? = some Tryz.f92 := Tryz.func92
abbrev F.ref01_plus : Nat := 93
theorem fn.ref01_plus : P.funcs[F.ref01_plus]? = some Tryz.f93 := Tryz.func93
abbrev F.ref01_compare : Nat := 94
theorem fn.ref01_compare : P.funcs[F.ref01_compare]? = some Tryz.f94 := Tryz.func94
abbrev F.ref01_minus : Nat := 95
theorem fn.ref01_minus : P.funcs[F.ref01_minus]? = some Tryz.f95 := Tryz.func95
abbrev F.ref33_Valid : Nat := 96
theorem fn.ref33_Valid : P.funcs[F.ref33_Valid]? = some Tryz.f96 := Tryz.func96
abbrev F.ref33_Plain : Nat := 97
theorem fn.ref33_Plain : P.funcs[F.ref33_Plain]? = some Tryz.f97 := Tryz.func97
abbrev F.ref05_Alphabet : Nat := 98
theorem fn.ref05_Alphabet : P.funcs[F.ref05_Alphabet]? = some Tryz.f98 := Tryz.func98
abbrev F.ref01_one : Nat := 99
theorem fn.ref01_one : P.funcs[F.ref01_one]? = some Tryz.f99 := Tryz.func99
abbrev F.ref01_divisor : Nat := 100
theorem fn.ref01_divisor : P.funcs[F.ref01_divisor]? = some Tryz.f100 := Tryz.func100
abbrev F.hmm_formed : Nat := 101
theorem fn.hmm_formed : P.funcs[F.hmm_formed]? = some Tryz.f101 := Tryz.func101
abbrev F.hmm_sums : Nat := 102
theorem fn.hmm_sums : P.funcs[F.hmm_sums]? = some Tryz.f102 := Tryz.func102
abbrev F.hmm_order : Nat := 103
theorem fn.hmm_order : P.funcs[F.hmm_order]? = some Tryz.f103 := Tryz.func103
abbrev F.hmm_tied : Nat := 104
theorem fn.hmm_tied : P.funcs[F.hmm_tied]? = some Tryz.f104 := Tryz.func104
abbrev F.slices_Contains_bools_bool : Nat := 105
theorem fn.slices_Contains_bools_bool : P.funcs[F.slices_Contains_bools_bool]? = some Tryz.f105 := Tryz.func105
abbrev F.rational_Compare : Nat := 106
theorem fn.rational_Compare : P.funcs[F.rational_Compare]? = some Tryz.f106 := Tryz.func106
abbrev F.rational_Valid : Nat := 107
theorem fn.rational_Valid : P.funcs[F.rational_Valid]? = some Tryz.f107 := Tryz.func107
abbrev F.rational_one : Nat := 108
theorem fn.rational_one : P.funcs[F.rational_one]? = some Tryz.f108 := Tryz.func108
abbrev F.rational_limbs_at : Nat := 109
theorem fn.rational_limbs_at : P.funcs[F.rational_limbs_at]? = some Tryz.f109 := Tryz.func109
abbrev F.rational_limbs_clean : Nat := 110
theorem fn.rational_limbs_clean : P.funcs[F.rational_limbs_clean]? = some Tryz.f110 := Tryz.func110
abbrev F.slices_Clone_rational_limbs_uint32 : Nat := 111
theorem fn.slices_Clone_rational_limbs_uint32 : P.funcs[F.slices_Clone_rational_limbs_uint32]? = some Tryz.f111 := Tryz.func111
abbrev F.rational_limbs_gcd : Nat := 112
theorem fn.rational_limbs_gcd : P.funcs[F.rational_limbs_gcd]? = some Tryz.f112 := Tryz.func112
abbrev F.rational_limbs_cmp : Nat := 113
theorem fn.rational_limbs_cmp : P.funcs[F.rational_limbs_cmp]? = some Tryz.f113 := Tryz.func113
abbrev F.rational_limbs_over : Nat := 114
theorem fn.rational_limbs_over : P.funcs[F.rational_limbs_over]? = some Tryz.f114 := Tryz.func114
abbrev F.ref01_divide : Nat := 115
theorem fn.ref01_divide : P.funcs[F.ref01_divide]? = some Tryz.f115 := Tryz.func115
abbrev F.ref01_trim : Nat := 116
theorem fn.ref01_trim : P.funcs[F.ref01_trim]? = some Tryz.f116 := Tryz.func116
abbrev F.rational_fraction_plus : Nat := 119
theorem fn.rational_fraction_plus : P.funcs[F.rational_fraction_plus]? = some Tryz.f119 := Tryz.func119
abbrev F.ref01_limb : Nat := 120
theorem fn.ref01_limb : P.funcs[F.ref01_limb]? = some Tryz.f120 := Tryz.func120
abbrev F.ref01_sign : Nat := 121
theorem fn.ref01_sign : P.funcs[F.ref01_sign]? = some Tryz.f121 := Tryz.func121
abbrev F.ref33_formed : Nat := 122
theorem fn.ref33_formed : P.funcs[F.ref33_formed]? = some Tryz.f122 := Tryz.func122
abbrev F.ref33_one : Nat := 123
theorem fn.ref33_one : P.funcs[F.ref33_one]? = some Tryz.f123 := Tryz.func123
abbrev F.ref33_circles : Nat := 124
theorem fn.ref33_circles : P.funcs[F.ref33_circles]? = some Tryz.f124 := Tryz.func124
abbrev F.hmm_share : Nat := 125
theorem fn.hmm_share : P.funcs[F.hmm_share]? = some Tryz.f125 := Tryz.func125
abbrev F.hmm_shares : Nat := 126
theorem fn.hmm_shares : P.funcs[F.hmm_shares]? = some Tryz.f126 := Tryz.func126
abbrev F.hmm_whole : Nat := 127
theorem fn.hmm_whole : P.funcs[F.hmm_whole]? = some Tryz.f127 := Tryz.func127
abbrev F.hmm_order_1 : Nat := 128
theorem fn.hmm_order_1 : P.funcs[F.hmm_order_1]? = some Tryz.f128 := Tryz.func128
abbrev F.slices_Reverse_ints_int : Nat := 129
theorem fn.slices_Reverse_ints_int : P.funcs[F.slices_Reverse_ints_int]? = some Tryz.f129 := Tryz.func129
abbrev F.hmm_equal : Nat := 130
theorem fn.hmm_equal : P.funcs[F.hmm_equal]? = some Tryz.f130 := Tryz.func130
abbrev F.slices_Index_bools_bool : Nat := 131
theorem fn.slices_Index_bools_bool : P.funcs[F.slices_Index_bools_bool]? = some Tryz.f131 := Tryz.func131
abbrev F.rational_Sub : Nat := 132
theorem fn.rational_Sub : P.funcs[F.rational_Sub]? = some Tryz.f132 := Tryz.func132
abbrev F.rational_proper : Nat := 133
theorem fn.rational_proper : P.funcs[F.rational_proper]? = some Tryz.f133 := Tryz.func133
abbrev F.rational_limbs_small : Nat := 134
theorem fn.rational_limbs_small : P.funcs[F.rational_limbs_small]? = some Tryz.f134 := Tryz.func134
abbrev F.rational_limbs_length : Nat := 135
theorem fn.rational_limbs_length : P.funcs[F.rational_limbs_length]? = some Tryz.f135 := Tryz.func135
abbrev F.rational_limbs_left : Nat := 136
theorem fn.rational_limbs_left : P.funcs[F.rational_limbs_left]? = some Tryz.f136 := Tryz.func136
abbrev F.rational_limbs_minus : Nat := 137
theorem fn.rational_limbs_minus : P.funcs[F.rational_limbs_minus]? = some Tryz.f137 := Tryz.func137
abbrev F.rational_limbs_right : Nat := 138
theorem fn.rational_limbs_right : P.funcs[F.rational_limbs_right]? = some Tryz.f138 := Tryz.func138
abbrev F.rational_limbs_plus : Nat := 139
theorem fn.rational_limbs_plus : P.funcs[F.rational_limbs_plus]? = some Tryz.f139 := Tryz.func139
abbrev F.ref33_chances : Nat := 140
theorem fn.ref33_chances : P.funcs[F.ref33_chances]? = some Tryz.f140 := Tryz.func140
abbrev F.ref33_Chance : Nat := 141
theorem fn.ref33_Chance : P.funcs[F.ref33_Chance]? = some Tryz.f141 := Tryz.func141
abbrev F.hmm_one : Nat := 142
theorem fn.hmm_one : P.funcs[F.hmm_one]? = some Tryz.f142 := Tryz.func142
abbrev F.slices_ContainsFunc_Rats_Rat : Nat := 143
theorem fn.slices_ContainsFunc_Rats_Rat : P.funcs[F.slices_ContainsFunc_Rats_Rat]? = some Tryz.f143 := Tryz.func143
abbrev F.hmm_shares_1 : Nat := 144
theorem fn.hmm_shares_1 : P.funcs[F.hmm_shares_1]? = some Tryz.f144 := Tryz.func144
abbrev F.slices_Concat_Rats_Rat : Nat := 145
theorem fn.slices_Concat_Rats_Rat : P.funcs[F.slices_Concat_Rats_Rat]? = some Tryz.f145 := Tryz.func145
abbrev F.slices_EqualFunc_Rats_Rats_Rat_Rat : Nat := 146
theorem fn.slices_EqualFunc_Rats_Rats_Rat_Rat : P.funcs[F.slices_EqualFunc_Rats_Rats_Rat_Rat]? = some Tryz.f146 := Tryz.func146
abbrev F.hmm_equal_1 : Nat := 147
theorem fn.hmm_equal_1 : P.funcs[F.hmm_equal_1]? = some Tryz.f147 := Tryz.func147
abbrev F.rational_fraction_negative : Nat := 148
theorem fn.rational_fraction_negative : P.funcs[F.rational_fraction_negative]? = some Tryz.f148 := Tryz.func148
abbrev F.math_bits_LeadingZeros32 : Nat := 149
theorem fn.math_bits_LeadingZeros32 : P.funcs[F.math_bits_LeadingZeros32]? = some Tryz.f149 := Tryz.func149
abbrev F.rational_Make : Nat := 150
theorem fn.rational_Make : P.funcs[F.rational_Make]? = some Tryz.f150 := Tryz.func150
abbrev F.slices_IndexFunc_Rats_Rat : Nat := 151
theorem fn.slices_IndexFunc_Rats_Rat : P.funcs[F.slices_IndexFunc_Rats_Rat]? = some Tryz.f151 := Tryz.func151
abbrev F.slices_Grow_Rats_Rat : Nat := 152
theorem fn.slices_Grow_Rats_Rat : P.funcs[F.slices_Grow_Rats_Rat]? = some Tryz.f152 := Tryz.func152
abbrev F.math_bits_Len32 : Nat := 153
theorem fn.math_bits_Len32 : P.funcs[F.math_bits_Len32]? = some Tryz.f153 := Tryz.func153
abbrev F.rational_whole : Nat := 154
theorem fn.rational_whole : P.funcs[F.rational_whole]? = some Tryz.f154 := Tryz.func154
abbrev F.viterbi_parts_Less : Nat := 171
theorem fn.viterbi_parts_Less : P.funcs[F.viterbi_parts_Less]? = some Tryz.f171 := Tryz.func171
abbrev F.viterbi_parts_Pop : Nat := 172
theorem fn.viterbi_parts_Pop : P.funcs[F.viterbi_parts_Pop]? = some Tryz.f172 := Tryz.func172
abbrev F.viterbi_parts_Push : Nat := 173
theorem fn.viterbi_parts_Push : P.funcs[F.viterbi_parts_Push]? = some Tryz.f173 := Tryz.func173
abbrev F.viterbi_parts_Swap : Nat := 174
theorem fn.viterbi_parts_Swap : P.funcs[F.viterbi_parts_Swap]? = some Tryz.f174 := Tryz.func174
abbrev F.slices_Compare_ints_int : Nat := 175
theorem fn.slices_Compare_ints_int : P.funcs[F.slices_Compare_ints_int]? = some Tryz.f175 := Tryz.func175
abbrev F.cmp_Compare_int : Nat := 176
theorem fn.cmp_Compare_int : P.funcs[F.cmp_Compare_int]? = some Tryz.f176 := Tryz.func176
abbrev F.cmp_isNaN_int : Nat := 177
theorem fn.cmp_isNaN_int : P.funcs[F.cmp_isNaN_int]? = some Tryz.f177 := Tryz.func177
abbrev T.i64 : Nat := 2
theorem ce.i64 : CellT P 2 := ⟨by kernel_rfl, by kernel_rfl⟩
theorem it.i64 : IntT P 2 .i64 := ⟨by kernel_rfl⟩
theorem z.i64 : ZeroT P 2 [.d (.sc (.int .i64 0))] := ⟨by kernel_rfl⟩
theorem sz.i64 : (P.info? 2).map (·.size) = some 1 := by kernel_rfl
abbrev T.int : Nat := 3
theorem ce.int : CellT P 3 := ⟨by kernel_rfl, by kernel_rfl⟩
theorem it.int : IntT P 3 .i64 := ⟨by kernel_rfl⟩
theorem z.int : ZeroT P 3 [.d (.sc (.int .i64 0))] := ⟨by kernel_rfl⟩
theorem sz.int : (P.info? 3).map (·.size) = some 1 := by kernel_rfl
abbrev T.bool : Nat := 4
theorem ce.bool : CellT P 4 := ⟨by kernel_rfl, by kernel_rfl⟩
theorem bt.bool : BoolT P 4 := ⟨by kernel_rfl⟩
theorem z.bool : ZeroT P 4 [.d (.sc (.bool false))] := ⟨by kernel_rfl⟩
theorem sz.bool : (P.info? 4).map (·.size) = some 1 := by kernel_rfl
abbrev T.u8 : Nat := 5
theorem ce.u8 : CellT P 5 := ⟨by kernel_rfl, by kernel_rfl⟩
theorem it.u8 : IntT P 5 .u8 := ⟨by kernel_rfl⟩
theorem z.u8 : ZeroT P 5 [.d (.sc (.int .u8 0))] := ⟨by kernel_rfl⟩
theorem sz.u8 : (P.info? 5).map (·.size) = some 1 := by kernel_rfl
abbrev T.ints : Nat := 22
theorem sl.ints : SliceT P 22 3 1 8 := ⟨by kernel_rfl, by kernel_rfl, by decide⟩
theorem ce.ints : CellT P 22 := ⟨by kernel_rfl, by kernel_rfl⟩
theorem z.ints : ZeroT P 22 [.mt] := ⟨by kernel_rfl⟩
theorem sz.ints : (P.info? 22).map (·.size) = some 1 := by kernel_rfl
abbrev T.Chain : Nat := 24
theorem ag.Chain : AggT P 24 3 := ⟨by kernel_rfl, by kernel_rfl⟩
theorem cc.Chain : ConcT P 24 := by unfold ConcT; kernel_rfl
theorem fd.Chain_0 : FieldT P 24 0 0 := ⟨by kernel_rfl⟩
theorem fd.Chain_1 : FieldT P 24 1 1 := ⟨by kernel_rfl⟩
theorem fd.Chain_2 : FieldT P 24 2 2 := ⟨by kernel_rfl⟩
theorem z.Chain : ZeroT P 24 [.d (.sc (.int .i64 0)), .d (.sc (.int .i64 0)), .mt] := ⟨by kernel_rfl⟩
theorem pl.Chain : PlacesT P 24 [(0, 1), (1, 1), (2, 1)] := ⟨by kernel_rfl⟩
theorem sz.Chain : (P.info? 24).map (·.size) = some 3 := by kernel_rfl
abbrev T.u32s : Nat := 25
theorem sl.u32s : SliceT P 25 125 1 4 := ⟨by kernel_rfl, by kernel_rfl, by decide⟩
theorem ce.u32s : CellT P 25 := ⟨by kernel_rfl, by kernel_rfl⟩
theorem z.u32s : ZeroT P 25 [.mt] := ⟨by kernel_rfl⟩
theorem sz.u32s : (P.info? 25).map (·.size) = some 1 := by kernel_rfl
abbrev T.Rat : Nat := 27
theorem ag.Rat : AggT P 27 3 := ⟨by kernel_rfl, by kernel_rfl⟩
theorem cc.Rat : ConcT P 27 := by unfold ConcT; kernel_rfl
theorem fd.Rat_0 : FieldT P 27 0 0 := ⟨by kernel_rfl⟩
theorem fd.Rat_1 : FieldT P 27 1 1 := ⟨by kernel_rfl⟩
theorem fd.Rat_2 : FieldT P 27 2 2 := ⟨by kernel_rfl⟩
theorem z.Rat : ZeroT P 27 [.d (.sc (.bool false)), .mt, .mt] := ⟨by kernel_rfl⟩
theorem pl.Rat : PlacesT P 27 [(0, 1), (1, 1), (2, 1)] := ⟨by kernel_rfl⟩
theorem sz.Rat : (P.info? 27).map (·.size) = some 3 := by kernel_rfl
abbrev T.Rats : Nat := 28
theorem sl.Rats : SliceT P 28 27 3 56 := ⟨by kernel_rfl, by kernel_rfl, by decide⟩
theorem ce.Rats : CellT P 28 := ⟨by kernel_rfl, by kernel_rfl⟩
theorem z.Rats : ZeroT P 28 [.mt] := ⟨by kernel_rfl⟩
theorem sz.Rats : (P.info? 28).map (·.size) = some 1 := by kernel_rfl
abbrev T.Ratss : Nat := 29
theorem sl.Ratss : SliceT P 29 28 1 24 := ⟨by kernel_rfl, by kernel_rfl, by decide⟩
theorem ce.Ratss : CellT P 29 := ⟨by kernel_rfl, by kernel_rfl⟩
theorem z.Ratss : ZeroT P 29 [.mt] := ⟨by kernel_rfl⟩
theorem sz.Ratss : (P.info? 29).map (·.size) = some 1 := by kernel_rfl
abbrev T.bools : Nat := 30
theorem sl.bools : SliceT P 30 4 1 1 := ⟨by kernel_rfl, by kernel_rfl, by decide⟩
theorem ce.bools : CellT P 30 := ⟨by kernel_rfl, by kernel_rfl⟩
theorem z.bools : ZeroT P 30 [.mt] := ⟨by kernel_rfl⟩
theorem sz.bools : (P.info? 30).map (·.size) = some 1 := by kernel_rfl
abbrev T.Hidden : Nat := 32
theorem ag.Hidden : AggT P 32 11 := ⟨by kernel_rfl, by kernel_rfl⟩
theorem cc.Hidden : ConcT P 32 := by unfold ConcT; kernel_rfl
theorem fd.Hidden_0 : FieldT P 32 0 0 := ⟨by kernel_rfl⟩
theorem fd.Hidden_1 : FieldT P 32 1 1 := ⟨by kernel_rfl⟩
theorem fd.Hidden_2 : FieldT P 32 2 2 := ⟨by kernel_rfl⟩
theorem fd.Hidden_3 : FieldT P 32 3 5 := ⟨by kernel_rfl⟩
theorem fd.Hidden_4 : FieldT P 32 4 6 := ⟨by kernel_rfl⟩
theorem fd.Hidden_5 : FieldT P 32 5 7 := ⟨by kernel_rfl⟩
theorem fd.Hidden_6 : FieldT P 32 6 8 := ⟨by kernel_rfl⟩
theorem fd.Hidden_7 : FieldT P 32 7 9 := ⟨by kernel_rfl⟩
theorem fd.Hidden_8 : FieldT P 32 8 10 := ⟨by kernel_rfl⟩
theorem z.Hidden : ZeroT P 32 [.d (.sc (.int .i64 0)), .d (.sc (.int .i64 0)), .d (.sc (.bool false)), .mt, .mt, .mt, .mt, .mt, .mt, .mt, .mt] := ⟨by kernel_rfl⟩
theorem pl.Hidden : PlacesT P 32 [(0, 1), (1, 1), (2, 3), (5, 1), (6, 1), (7, 1), (8, 1), (9, 1), (10, 1)] := ⟨by kernel_rfl⟩
theorem sz.Hidden : (P.info? 32).map (·.size) = some 11 := by kernel_rfl
abbrev T.intss : Nat := 36
theorem sl.intss : SliceT P 36 22 1 24 := ⟨by kernel_rfl, by kernel_rfl, by decide⟩
theorem ce.intss : CellT P 36 := ⟨by kernel_rfl, by kernel_rfl⟩
theorem z.intss : ZeroT P 36 [.mt] := ⟨by kernel_rfl⟩
theorem sz.intss : (P.info? 36).map (·.size) = some 1 := by kernel_rfl
abbrev T.parts : Nat := 73
theorem sl.parts : SliceT P 73 76 7 136 := ⟨by kernel_rfl, by kernel_rfl, by decide⟩
theorem ce.parts : CellT P 73 := ⟨by kernel_rfl, by kernel_rfl⟩
theorem z.parts : ZeroT P 73 [.mt] := ⟨by kernel_rfl⟩
theorem sz.parts : (P.info? 73).map (·.size) = some 1 := by kernel_rfl
abbrev T.heap : Nat := 74
theorem sl.heap : SliceT P 74 76 7 136 := ⟨by kernel_rfl, by kernel_rfl, by decide⟩
theorem ce.heap : CellT P 74 := ⟨by kernel_rfl, by kernel_rfl⟩
theorem z.heap : ZeroT P 74 [.mt] := ⟨by kernel_rfl⟩
theorem sz.heap : (P.info? 74).map (·.size) = some 1 := by kernel_rfl
abbrev T.part : Nat := 76
theorem ag.part : AggT P 76 7 := ⟨by kernel_rfl, by kernel_rfl⟩
theorem cc.part : ConcT P 76 := by unfold ConcT; kernel_rfl
theorem fd.part_0 : FieldT P 76 0 0 := ⟨by kernel_rfl⟩
theorem fd.part_1 : FieldT P 76 1 3 := ⟨by kernel_rfl⟩
theorem fd.part_2 : FieldT P 76 2 6 := ⟨by kernel_rfl⟩
theorem z.part : ZeroT P 76 [.d (.sc (.bool false)), .mt, .mt, .d (.sc (.bool false)), .mt, .mt, .mt] := ⟨by kernel_rfl⟩
theorem pl.part : PlacesT P 76 [(0, 3), (3, 3), (6, 1)] := ⟨by kernel_rfl⟩
theorem sz.part : (P.info? 76).map (·.size) = some 7 := by kernel_rfl
abbrev T.table : Nat := 78
theorem ag.table : AggT P 78 13 := ⟨by kernel_rfl, by kernel_rfl⟩
theorem cc.table : ConcT P 78 := by unfold ConcT; kernel_rfl
theorem fd.table_0 : FieldT P 78 0 0 := ⟨by kernel_rfl⟩
theorem fd.table_1 : FieldT P 78 1 11 := ⟨by kernel_rfl⟩
theorem fd.table_2 : FieldT P 78 2 12 := ⟨by kernel_rfl⟩
theorem z.table : ZeroT P 78 [.d (.sc (.int .i64 0)), .d (.sc (.int .i64 0)), .d (.sc (.bool false)), .mt, .mt, .mt, .mt, .mt, .mt, .mt, .mt, .mt, .mt] := ⟨by kernel_rfl⟩
theorem pl.table : PlacesT P 78 [(0, 11), (11, 1), (12, 1)] := ⟨by kernel_rfl⟩
theorem sz.table : (P.info? 78).map (·.size) = some 13 := by kernel_rfl
abbrev T.Tape : Nat := 97
theorem ag.Tape : AggT P 97 2 := ⟨by kernel_rfl, by kernel_rfl⟩
theorem cc.Tape : ConcT P 97 := by unfold ConcT; kernel_rfl
theorem fd.Tape_0 : FieldT P 97 0 0 := ⟨by kernel_rfl⟩
theorem fd.Tape_1 : FieldT P 97 1 1 := ⟨by kernel_rfl⟩
theorem z.Tape : ZeroT P 97 [.mt, .d (.sc (.int .i64 0))] := ⟨by kernel_rfl⟩
theorem pl.Tape : PlacesT P 97 [(0, 1), (1, 1)] := ⟨by kernel_rfl⟩
theorem sz.Tape : (P.info? 97).map (·.size) = some 2 := by kernel_rfl
abbrev T.limbs : Nat := 105
theorem sl.limbs : SliceT P 105 125 1 4 := ⟨by kernel_rfl, by kernel_rfl, by decide⟩
theorem ce.limbs : CellT P 105 := ⟨by kernel_rfl, by kernel_rfl⟩
theorem z.limbs : ZeroT P 105 [.mt] := ⟨by kernel_rfl⟩
theorem sz.limbs : (P.info? 105).map (·.size) = some 1 := by kernel_rfl
abbrev T.fraction : Nat := 107
theorem ag.fraction : AggT P 107 3 := ⟨by kernel_rfl, by kernel_rfl⟩
theorem cc.fraction : ConcT P 107 := by unfold ConcT; kernel_rfl
theorem fd.fraction_0 : FieldT P 107 0 0 := ⟨by kernel_rfl⟩
theorem fd.fraction_1 : FieldT P 107 1 1 := ⟨by kernel_rfl⟩
theorem fd.fraction_2 : FieldT P 107 2 2 := ⟨by kernel_rfl⟩
theorem z.fraction : ZeroT P 107 [.d (.sc (.bool false)), .mt, .mt] := ⟨by kernel_rfl⟩
theorem pl.fraction : PlacesT P 107 [(0, 1), (1, 1), (2, 1)] := ⟨by kernel_rfl⟩
theorem sz.fraction : (P.info? 107).map (·.size) = some 3 := by kernel_rfl
abbrev T.u64 : Nat := 120
theorem ce.u64 : CellT P 120 := ⟨by kernel_rfl, by kernel_rfl⟩
theorem it.u64 : IntT P 120 .u64 := ⟨by kernel_rfl⟩
theorem z.u64 : ZeroT P 120 [.d (.sc (.int .u64 0))] := ⟨by kernel_rfl⟩
theorem sz.u64 : (P.info? 120).map (·.size) = some 1 := by kernel_rfl
abbrev T.u32 : Nat := 125
theorem ce.u32 : CellT P 125 := ⟨by kernel_rfl, by kernel_rfl⟩
theorem it.u32 : IntT P 125 .u32 := ⟨by kernel_rfl⟩
theorem z.u32 : ZeroT P 125 [.d (.sc (.int .u32 0))] := ⟨by kernel_rfl⟩
theorem sz.u32 : (P.info? 125).map (·.size) = some 1 := by kernel_rfl
abbrev T.uint : Nat := 140
theorem ce.uint : CellT P 140 := ⟨by kernel_rfl, by kernel_rfl⟩
theorem it.uint : IntT P 140 .u64 := ⟨by kernel_rfl⟩
theorem z.uint : ZeroT P 140 [.d (.sc (.int .u64 0))] := ⟨by kernel_rfl⟩
theorem sz.uint : (P.info? 140).map (·.size) = some 1 := by kernel_rfl
abbrev T.fn123 : Nat := 123
theorem ce.fn123 : CellT P 123 := ⟨by kernel_rfl, by kernel_rfl⟩
theorem z.fn123 : ZeroT P 123 [.d (.sc .nilFunc)] := ⟨by kernel_rfl⟩
theorem sz.fn123 : (P.info? 123).map (·.size) = some 1 := by kernel_rfl
abbrev T.ptable : Nat := 68
theorem ce.ptable : CellT P 68 := ⟨by kernel_rfl, by kernel_rfl⟩
theorem cc.ptable : ConcT P 68 := by unfold ConcT; kernel_rfl
theorem z.ptable : ZeroT P 68 [.d (.sc (.pointer none))] := ⟨by kernel_rfl⟩
theorem sz.ptable : (P.info? 68).map (·.size) = some 1 := by kernel_rfl
abbrev T.pheap : Nat := 72
theorem ce.pheap : CellT P 72 := ⟨by kernel_rfl, by kernel_rfl⟩
theorem cc.pheap : ConcT P 72 := by unfold ConcT; kernel_rfl
theorem z.pheap : ZeroT P 72 [.d (.sc (.pointer none))] := ⟨by kernel_rfl⟩
theorem sz.pheap : (P.info? 72).map (·.size) = some 1 := by kernel_rfl
theorem st.str : P.underlying 9 = some .string := by kernel_rfl
end Go.Proofs.YtonndaibggjmjaaGreat
