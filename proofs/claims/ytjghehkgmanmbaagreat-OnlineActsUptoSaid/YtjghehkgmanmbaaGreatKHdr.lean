/-
  Names for the functions of this seat, and facts on its types (printed by hdr.py).
-/
import Derived.Test.YtjghehkgmanmbaaGreatChecked
import Derived.KernelRfl
import Derived.Test.YtjghehkgmanmbaaGreatKNumb
set_option linter.unusedVariables false
set_option linter.unusedSimpArgs false
namespace Go.Proofs.YtjghehkgmanmbaaGreat
open Go Go.AL
noncomputable abbrev P : Program := Tryz.prog
theorem order_free : P.follows .mixedOrders = true := by kernel_rfl
abbrev F.law37_OnlineActs : Nat := 6
theorem fn.law37_OnlineActs : P.funcs[F.law37_OnlineActs]? = some Tryz.f6 := Tryz.func6
abbrev F.ref01_Compare : Nat := 15
theorem fn.ref01_Compare : P.funcs[F.ref01_Compare]? = some Tryz.f15 := Tryz.func15
abbrev F.ref33_SameRats : Nat := 30
theorem fn.ref33_SameRats : P.funcs[F.ref33_SameRats]? = some Tryz.f30 := Tryz.func30
abbrev F.law37_light : Nat := 41
theorem fn.law37_light : P.funcs[F.law37_light]? = some Tryz.f41 := Tryz.func41
abbrev F.law37_known : Nat := 42
theorem fn.law37_known : P.funcs[F.law37_known]? = some Tryz.f42 := Tryz.func42
abbrev F.online_Open : Nat := 43
theorem fn.online_Open : P.funcs[F.online_Open]? = some Tryz.f43 := Tryz.func43
abbrev F.ref37_Open : Nat := 44
theorem fn.ref37_Open : P.funcs[F.ref37_Open]? = some Tryz.f44 := Tryz.func44
abbrev F.online_Push : Nat := 45
theorem fn.online_Push : P.funcs[F.online_Push]? = some Tryz.f45 := Tryz.func45
abbrev F.ref37_Push : Nat := 46
theorem fn.ref37_Push : P.funcs[F.ref37_Push]? = some Tryz.f46 := Tryz.func46
abbrev F.online_Finish : Nat := 47
theorem fn.online_Finish : P.funcs[F.online_Finish]? = some Tryz.f47 := Tryz.func47
abbrev F.ref37_Finish : Nat := 48
theorem fn.ref37_Finish : P.funcs[F.ref37_Finish]? = some Tryz.f48 := Tryz.func48
abbrev F.online_Run : Nat := 49
theorem fn.online_Run : P.funcs[F.online_Run]? = some Tryz.f49 := Tryz.func49
abbrev F.ref37_Run : Nat := 50
theorem fn.ref37_Run : P.funcs[F.ref37_Run]? = some Tryz.f50 := Tryz.func50
abbrev F.online_Valid : Nat := 51
theorem fn.online_Valid : P.funcs[F.online_Valid]? = some Tryz.f51 := Tryz.func51
abbrev F.ref37_Valid : Nat := 52
theorem fn.ref37_Valid : P.funcs[F.ref37_Valid]? = some Tryz.f52 := Tryz.func52
abbrev F.ref37_Same : Nat := 53
theorem fn.ref37_Same : P.funcs[F.ref37_Same]? = some Tryz.f53 := Tryz.func53
abbrev F.law37_same : Nat := 54
theorem fn.law37_same : P.funcs[F.law37_same]? = some Tryz.f54 := Tryz.func54
abbrev F.words_Valid : Nat := 58
theorem fn.words_Valid : P.funcs[F.words_Valid]? = some Tryz.f58 := Tryz.func58
abbrev F.slices_ContainsFunc_ints_int : Nat := 59
theorem fn.slices_ContainsFunc_ints_int : P.funcs[F.slices_ContainsFunc_ints_int]? = some Tryz.f59 := Tryz.func59
abbrev F.rational_Add : Nat := 64
theorem fn.rational_Add : P.funcs[F.rational_Add]? = some Tryz.f64 := Tryz.func64
abbrev F.ref33_Check : Nat := 65
theorem fn.ref33_Check : P.funcs[F.ref33_Check]? = some Tryz.f65 := Tryz.func65
abbrev F.ref05_Valid : Nat := 66
theorem fn.ref05_Valid : P.funcs[F.ref05_Valid]? = some Tryz.f66 := Tryz.func66
abbrev F.ref33_Whole : Nat := 74
theorem fn.ref33_Whole : P.funcs[F.ref33_Whole]? = some Tryz.f74 := Tryz.func74
abbrev F.ref05_Compare : Nat := 77
theorem fn.ref05_Compare : P.funcs[F.ref05_Compare]? = some Tryz.f77 := Tryz.func77
abbrev F.ref01_Sign : Nat := 78
theorem fn.ref01_Sign : P.funcs[F.ref01_Sign]? = some Tryz.f78 := Tryz.func78
abbrev F.ref01_Sub : Nat := 79
theorem fn.ref01_Sub : P.funcs[F.ref01_Sub]? = some Tryz.f79 := Tryz.func79
abbrev F.ref01_Make : Nat := 80
theorem fn.ref01_Make : P.funcs[F.ref01_Make]? = some Tryz.f80 := Tryz.func80
abbrev F.ref34_Check : Nat := 83
theorem fn.ref34_Check : P.funcs[F.ref34_Check]? = some Tryz.f83 := Tryz.func83
abbrev F.ref01_Add : Nat := 84
theorem fn.ref01_Add : P.funcs[F.ref01_Add]? = some Tryz.f84 := Tryz.func84
abbrev F.ref01_Mul : Nat := 85
theorem fn.ref01_Mul : P.funcs[F.ref01_Mul]? = some Tryz.f85 := Tryz.func85
abbrev F.rational_Sign : Nat := 88
theorem fn.rational_Sign : P.funcs[F.rational_Sign]? = some Tryz.f88 := Tryz.func88
abbrev F.rational_Mul : Nat := 90
theorem fn.rational_Mul : P.funcs[F.rational_Mul]? = some Tryz.f90 := Tryz.func90
abbrev F.fresh_Rat : Nat := 95
theorem fn.fresh_Rat : P.funcs[F.fresh_Rat]? = some Tryz.f95 := Tryz.func95
abbrev F.ref33_Chance : Nat := 101
theorem fn.ref33_Chance : P.funcs[F.ref33_Chance]? = some Tryz.f101 := Tryz.func101
abbrev F.law37_pair : Nat := 102
theorem fn.law37_pair : P.funcs[F.law37_pair]? = some Tryz.f102 := Tryz.func102
abbrev F.online_refuse : Nat := 103
theorem fn.online_refuse : P.funcs[F.online_refuse]? = some Tryz.f103 := Tryz.func103
abbrev F.fresh_Hidden : Nat := 104
theorem fn.fresh_Hidden : P.funcs[F.fresh_Hidden]? = some Tryz.f104 := Tryz.func104
abbrev F.rational_Compare : Nat := 105
theorem fn.rational_Compare : P.funcs[F.rational_Compare]? = some Tryz.f105 := Tryz.func105
abbrev F.slices_Compare_ints_int : Nat := 106
theorem fn.slices_Compare_ints_int : P.funcs[F.slices_Compare_ints_int]? = some Tryz.f106 := Tryz.func106
abbrev F.online_alive : Nat := 107
theorem fn.online_alive : P.funcs[F.online_alive]? = some Tryz.f107 := Tryz.func107
abbrev F.slices_Clone_ints_int : Nat := 108
theorem fn.slices_Clone_ints_int : P.funcs[F.slices_Clone_ints_int]? = some Tryz.f108 := Tryz.func108
abbrev F.online_common : Nat := 109
theorem fn.online_common : P.funcs[F.online_common]? = some Tryz.f109 := Tryz.func109
abbrev F.slices_Concat_ints_int : Nat := 110
theorem fn.slices_Concat_ints_int : P.funcs[F.slices_Concat_ints_int]? = some Tryz.f110 := Tryz.func110
abbrev F.ref37_common : Nat := 111
theorem fn.ref37_common : P.funcs[F.ref37_common]? = some Tryz.f111 := Tryz.func111
abbrev F.ref37_live : Nat := 112
theorem fn.ref37_live : P.funcs[F.ref37_live]? = some Tryz.f112 := Tryz.func112
abbrev F.slices_Repeat_ints_int : Nat := 113
theorem fn.slices_Repeat_ints_int : P.funcs[F.slices_Repeat_ints_int]? = some Tryz.f113 := Tryz.func113
abbrev F.hmm_Plain : Nat := 114
theorem fn.hmm_Plain : P.funcs[F.hmm_Plain]? = some Tryz.f114 := Tryz.func114
abbrev F.online_share : Nat := 115
theorem fn.online_share : P.funcs[F.online_share]? = some Tryz.f115 := Tryz.func115
abbrev F.online_fitting : Nat := 116
theorem fn.online_fitting : P.funcs[F.online_fitting]? = some Tryz.f116 := Tryz.func116
abbrev F.ref33_Plain : Nat := 117
theorem fn.ref33_Plain : P.funcs[F.ref33_Plain]? = some Tryz.f117 := Tryz.func117
abbrev F.ref37_good : Nat := 118
theorem fn.ref37_good : P.funcs[F.ref37_good]? = some Tryz.f118 := Tryz.func118
abbrev F.ref33_Same : Nat := 119
theorem fn.ref33_Same : P.funcs[F.ref33_Same]? = some Tryz.f119 := Tryz.func119
abbrev F.hmm_Valid : Nat := 120
theorem fn.hmm_Valid : P.funcs[F.hmm_Valid]? = some Tryz.f120 := Tryz.func120
abbrev F.slices_IndexFunc_ints_int : Nat := 121
theorem fn.slices_IndexFunc_ints_int : P.funcs[F.slices_IndexFunc_ints_int]? = some Tryz.f121 := Tryz.func121
abbrev F.rational_Make : Nat := 122
theorem fn.rational_Make : P.funcs[F.rational_Make]? = some Tryz.f122 := Tryz.func122
abbrev F.rational_of : Nat := 124
theorem fn.rational_of : P.funcs[F.rational_of]? = some Tryz.f124 := Tryz.func124
abbrev F.rational_fraction_plus : Nat := 125
theorem fn.rational_fraction_plus : P.funcs[F.rational_fraction_plus]? = some Tryz.f125 := Tryz.func125
abbrev F.rational_fraction_rat : Nat := 126
theorem fn.rational_fraction_rat : P.funcs[F.rational_fraction_rat]? = some Tryz.f126 := Tryz.func126
abbrev F.ref33_Valid : Nat := 127
theorem fn.ref33_Valid : P.funcs[F.ref33_Valid]? = some Tryz.f127 := Tryz.func127
abbrev F.ref05_Alphabet : Nat := 128
theorem fn.ref05_Alphabet : P.funcs[F.ref05_Alphabet]? = some Tryz.f128 := Tryz.func128
abbrev F.ref33_Sum : Nat := 129
theorem fn.ref33_Sum : P.funcs[F.ref33_Sum]? = some Tryz.f129 := Tryz.func129
abbrev F.ref01_Take : Nat := 132
theorem fn.ref01_Take : P.funcs[F.ref01_Take]? = some Tryz.f132 := Tryz.func132
abbrev F.ref01_Neg : Nat := 133
theorem fn.ref01_Neg : P.funcs[F.ref01_Neg]? = some Tryz.f133 := Tryz.func133
abbrev F.ref01_over : Nat := 134
theorem fn.ref01_over : P.funcs[F.ref01_over]? = some Tryz.f134 := Tryz.func134
abbrev F.ref01_natural : Nat := 135
theorem fn.ref01_natural : P.funcs[F.ref01_natural]? = some Tryz.f135 := Tryz.func135
abbrev F.ref01_absolute : Nat := 136
theorem fn.ref01_absolute : P.funcs[F.ref01_absolute]? = some Tryz.f136 := Tryz.func136
abbrev F.ref01_times : Nat := 137
theorem fn.ref01_times : P.funcs[F.ref01_times]? = some Tryz.f137 := Tryz.func137
abbrev F.ref01_den : Nat := 138
theorem fn.ref01_den : P.funcs[F.ref01_den]? = some Tryz.f138 := Tryz.func138
abbrev F.ref01_plus : Nat := 139
theorem fn.ref01_plus : P.funcs[F.ref01_plus]? = some Tryz.f139 := Tryz.func139
abbrev F.ref01_compare : Nat := 140
theorem fn.ref01_compare : P.funcs[F.ref01_compare]? = some Tryz.f140 := Tryz.func140
abbrev F.ref01_minus : Nat := 141
theorem fn.ref01_minus : P.funcs[F.ref01_minus]? = some Tryz.f141 := Tryz.func141
abbrev F.rational_limbs_times : Nat := 142
theorem fn.rational_limbs_times : P.funcs[F.rational_limbs_times]? = some Tryz.f142 := Tryz.func142
abbrev F.slices_Clone_uint32s_uint32 : Nat := 144
theorem fn.slices_Clone_uint32s_uint32 : P.funcs[F.slices_Clone_uint32s_uint32]? = some Tryz.f144 := Tryz.func144
abbrev F.rational_Valid : Nat := 146
theorem fn.rational_Valid : P.funcs[F.rational_Valid]? = some Tryz.f146 := Tryz.func146
abbrev F.ref01_Valid : Nat := 147
theorem fn.ref01_Valid : P.funcs[F.ref01_Valid]? = some Tryz.f147 := Tryz.func147
abbrev F.fresh_Rats : Nat := 148
theorem fn.fresh_Rats : P.funcs[F.fresh_Rats]? = some Tryz.f148 := Tryz.func148
abbrev F.fresh_Rows : Nat := 149
theorem fn.fresh_Rows : P.funcs[F.fresh_Rows]? = some Tryz.f149 := Tryz.func149
abbrev F.slices_Clone_bools_bool : Nat := 150
theorem fn.slices_Clone_bools_bool : P.funcs[F.slices_Clone_bools_bool]? = some Tryz.f150 := Tryz.func150
abbrev F.rational_Sub : Nat := 151
theorem fn.rational_Sub : P.funcs[F.rational_Sub]? = some Tryz.f151 := Tryz.func151
abbrev F.cmp_Compare_int : Nat := 152
theorem fn.cmp_Compare_int : P.funcs[F.cmp_Compare_int]? = some Tryz.f152 := Tryz.func152
abbrev F.slices_Grow_ints_int : Nat := 153
theorem fn.slices_Grow_ints_int : P.funcs[F.slices_Grow_ints_int]? = some Tryz.f153 := Tryz.func153
abbrev F.math_bits_Mul : Nat := 154
theorem fn.math_bits_Mul : P.funcs[F.math_bits_Mul]? = some Tryz.f154 := Tryz.func154
abbrev F.slices_Contains_bools_bool : Nat := 155
theorem fn.slices_Contains_bools_bool : P.funcs[F.slices_Contains_bools_bool]? = some Tryz.f155 := Tryz.func155
abbrev F.online_fitting_1 : Nat := 156
theorem fn.online_fitting_1 : P.funcs[F.online_fitting_1]? = some Tryz.f156 := Tryz.func156
abbrev F.ref01_Same : Nat := 157
theorem fn.ref01_Same : P.funcs[F.ref01_Same]? = some Tryz.f157 := Tryz.func157
abbrev F.ref33_fields : Nat := 158
theorem fn.ref33_fields : P.funcs[F.ref33_fields]? = some Tryz.f158 := Tryz.func158
abbrev F.hmm_formed : Nat := 159
theorem fn.hmm_formed : P.funcs[F.hmm_formed]? = some Tryz.f159 := Tryz.func159
abbrev F.hmm_sums : Nat := 160
theorem fn.hmm_sums : P.funcs[F.hmm_sums]? = some Tryz.f160 := Tryz.func160
abbrev F.hmm_order : Nat := 161
theorem fn.hmm_order : P.funcs[F.hmm_order]? = some Tryz.f161 := Tryz.func161
abbrev F.hmm_tied : Nat := 162
theorem fn.hmm_tied : P.funcs[F.hmm_tied]? = some Tryz.f162 := Tryz.func162
abbrev F.rational_whole : Nat := 163
theorem fn.rational_whole : P.funcs[F.rational_whole]? = some Tryz.f163 := Tryz.func163
abbrev F.rational_one : Nat := 164
theorem fn.rational_one : P.funcs[F.rational_one]? = some Tryz.f164 := Tryz.func164
abbrev F.rational_limbs_plus : Nat := 165
theorem fn.rational_limbs_plus : P.funcs[F.rational_limbs_plus]? = some Tryz.f165 := Tryz.func165
abbrev F.rational_limbs_cmp : Nat := 166
theorem fn.rational_limbs_cmp : P.funcs[F.rational_limbs_cmp]? = some Tryz.f166 := Tryz.func166
abbrev F.rational_limbs_minus : Nat := 167
theorem fn.rational_limbs_minus : P.funcs[F.rational_limbs_minus]? = some Tryz.f167 := Tryz.func167
abbrev F.slices_Clone_rational_limbs_uint32 : Nat := 168
theorem fn.slices_Clone_rational_limbs_uint32 : P.funcs[F.slices_Clone_rational_limbs_uint32]? = some Tryz.f168 := Tryz.func168
abbrev F.rational_limbs_gcd : Nat := 169
theorem fn.rational_limbs_gcd : P.funcs[F.rational_limbs_gcd]? = some Tryz.f169 := Tryz.func169
abbrev F.rational_limbs_over : Nat := 170
theorem fn.rational_limbs_over : P.funcs[F.rational_limbs_over]? = some Tryz.f170 := Tryz.func170
abbrev F.ref33_formed : Nat := 171
theorem fn.ref33_formed : P.funcs[F.ref33_formed]? = some Tryz.f171 := Tryz.func171
abbrev F.ref33_one : Nat := 172
theorem fn.ref33_one : P.funcs[F.ref33_one]? = some Tryz.f172 := Tryz.func172
abbrev F.ref33_circles : Nat := 173
theorem fn.ref33_circles : P.funcs[F.ref33_circles]? = some Tryz.f173 := Tryz.func173
abbrev F.ref01_divisor : Nat := 175
theorem fn.ref01_divisor : P.funcs[F.ref01_divisor]? = some Tryz.f175 := Tryz.func175
abbrev F.ref01_divide : Nat := 176
theorem fn.ref01_divide : P.funcs[F.ref01_divide]? = some Tryz.f176 := Tryz.func176
abbrev F.ref01_one : Nat := 177
theorem fn.ref01_one : P.funcs[F.ref01_one]? = some Tryz.f177 := Tryz.func177
abbrev F.ref01_trim : Nat := 178
theorem fn.ref01_trim : P.funcs[F.ref01_trim]? = some Tryz.f178 := Tryz.func178
abbrev F.ref01_limb : Nat := 179
theorem fn.ref01_limb : P.funcs[F.ref01_limb]? = some Tryz.f179 := Tryz.func179
abbrev F.ref01_sign : Nat := 180
theorem fn.ref01_sign : P.funcs[F.ref01_sign]? = some Tryz.f180 := Tryz.func180
abbrev F.rational_limbs_at : Nat := 181
theorem fn.rational_limbs_at : P.funcs[F.rational_limbs_at]? = some Tryz.f181 := Tryz.func181
abbrev F.rational_limbs_clean : Nat := 182
theorem fn.rational_limbs_clean : P.funcs[F.rational_limbs_clean]? = some Tryz.f182 := Tryz.func182
abbrev F.rational_proper : Nat := 185
theorem fn.rational_proper : P.funcs[F.rational_proper]? = some Tryz.f185 := Tryz.func185
abbrev F.fresh_each_Rat : Nat := 186
theorem fn.fresh_each_Rat : P.funcs[F.fresh_each_Rat]? = some Tryz.f186 := Tryz.func186
abbrev F.fresh_each_Rats : Nat := 187
theorem fn.fresh_each_Rats : P.funcs[F.fresh_each_Rats]? = some Tryz.f187 := Tryz.func187
abbrev F.rational_fraction_negative : Nat := 188
theorem fn.rational_fraction_negative : P.funcs[F.rational_fraction_negative]? = some Tryz.f188 := Tryz.func188
abbrev F.cmp_isNaN_int : Nat := 189
theorem fn.cmp_isNaN_int : P.funcs[F.cmp_isNaN_int]? = some Tryz.f189 := Tryz.func189
abbrev F.math_bits_Mul64 : Nat := 191
theorem fn.math_bits_Mul64 : P.funcs[F.math_bits_Mul64]? = some Tryz.f191 := Tryz.func191
abbrev F.slices_Index_bools_bool : Nat := 192
theorem fn.slices_Index_bools_bool : P.funcs[F.slices_Index_bools_bool]? = some Tryz.f192 := Tryz.func192
abbrev F.ref01_same : Nat := 193
theorem fn.ref01_same : P.funcs[F.ref01_same]? = some Tryz.f193 := Tryz.func193
abbrev F.hmm_share : Nat := 194
theorem fn.hmm_share : P.funcs[F.hmm_share]? = some Tryz.f194 := Tryz.func194
abbrev F.hmm_shares : Nat := 195
theorem fn.hmm_shares : P.funcs[F.hmm_shares]? = some Tryz.f195 := Tryz.func195
abbrev F.hmm_whole : Nat := 196
theorem fn.hmm_whole : P.funcs[F.hmm_whole]? = some Tryz.f196 := Tryz.func196
abbrev F.hmm_order_1 : Nat := 197
theorem fn.hmm_order_1 : P.funcs[F.hmm_order_1]? = some Tryz.f197 := Tryz.func197
abbrev F.slices_Reverse_ints_int : Nat := 198
theorem fn.slices_Reverse_ints_int : P.funcs[F.slices_Reverse_ints_int]? = some Tryz.f198 := Tryz.func198
abbrev F.hmm_equal : Nat := 199
theorem fn.hmm_equal : P.funcs[F.hmm_equal]? = some Tryz.f199 := Tryz.func199
abbrev F.rational_limbs_small : Nat := 200
theorem fn.rational_limbs_small : P.funcs[F.rational_limbs_small]? = some Tryz.f200 := Tryz.func200
abbrev F.rational_limbs_length : Nat := 201
theorem fn.rational_limbs_length : P.funcs[F.rational_limbs_length]? = some Tryz.f201 := Tryz.func201
abbrev F.rational_limbs_left : Nat := 202
theorem fn.rational_limbs_left : P.funcs[F.rational_limbs_left]? = some Tryz.f202 := Tryz.func202
abbrev F.rational_limbs_right : Nat := 203
theorem fn.rational_limbs_right : P.funcs[F.rational_limbs_right]? = some Tryz.f203 := Tryz.func203
abbrev F.ref33_chances : Nat := 204
theorem fn.ref33_chances : P.funcs[F.ref33_chances]? = some Tryz.f204 := Tryz.func204
abbrev F.hmm_one : Nat := 207
theorem fn.hmm_one : P.funcs[F.hmm_one]? = some Tryz.f207 := Tryz.func207
abbrev F.slices_ContainsFunc_Rats_Rat : Nat := 208
theorem fn.slices_ContainsFunc_Rats_Rat : P.funcs[F.slices_ContainsFunc_Rats_Rat]? = some Tryz.f208 := Tryz.func208
abbrev F.hmm_shares_1 : Nat := 209
theorem fn.hmm_shares_1 : P.funcs[F.hmm_shares_1]? = some Tryz.f209 := Tryz.func209
abbrev F.slices_Concat_Rats_Rat : Nat := 210
theorem fn.slices_Concat_Rats_Rat : P.funcs[F.slices_Concat_Rats_Rat]? = some Tryz.f210 := Tryz.func210
abbrev F.slices_EqualFunc_Rats_Rats_Rat_Rat : Nat := 211
theorem fn.slices_EqualFunc_Rats_Rats_Rat_Rat : P.funcs[F.slices_EqualFunc_Rats_Rats_Rat_Rat]? = some Tryz.f211 := Tryz.func211
abbrev F.hmm_equal_1 : Nat := 212
theorem fn.hmm_equal_1 : P.funcs[F.hmm_equal_1]? = some Tryz.f212 := Tryz.func212
abbrev F.math_bits_LeadingZeros32 : Nat := 213
theorem fn.math_bits_LeadingZeros32 : P.funcs[F.math_bits_LeadingZeros32]? = some Tryz.f213 := Tryz.func213
abbrev F.slices_IndexFunc_Rats_Rat : Nat := 214
theorem fn.slices_IndexFunc_Rats_Rat : P.funcs[F.slices_IndexFunc_Rats_Rat]? = some Tryz.f214 := Tryz.func214
abbrev F.slices_Grow_Rats_Rat : Nat := 215
theorem fn.slices_Grow_Rats_Rat : P.funcs[F.slices_Grow_Rats_Rat]? = some Tryz.f215 := Tryz.func215
abbrev F.math_bits_Len32 : Nat := 216
theorem fn.math_bits_Len32 : P.funcs[F.math_bits_Len32]? = some Tryz.f216 := Tryz.func216
abbrev T.i64 : Nat := 2
theorem ce.i64 : CellT P 2 := ⟨by kernel_rfl, by kernel_rfl⟩
theorem it.i64 : IntT P 2 .i64 := ⟨by kernel_rfl⟩
theorem z.i64 : ZeroT P 2 [.d (.sc (.int .i64 0))] := ⟨by kernel_rfl⟩
theorem sz.i64 : (P.info? 2).map (·.size) = some 1 := by kernel_rfl
abbrev T.int : Nat := 3
theorem ce.int : CellT P 3 := ⟨by kernel_rfl, by kernel_rfl⟩
theorem it.int : IntT P 3 .i64 := ⟨by kernel_rfl⟩
theorem z.int : ZeroT P 3 [.d (.sc (.int .i64 0))] := ⟨by kernel_rfl⟩
theorem sz.int : (P.info? 3).map (·.size) = some 1 := by kernel_rfl
abbrev T.bool : Nat := 4
theorem ce.bool : CellT P 4 := ⟨by kernel_rfl, by kernel_rfl⟩
theorem bt.bool : BoolT P 4 := ⟨by kernel_rfl⟩
theorem z.bool : ZeroT P 4 [.d (.sc (.bool false))] := ⟨by kernel_rfl⟩
theorem sz.bool : (P.info? 4).map (·.size) = some 1 := by kernel_rfl
abbrev T.u8 : Nat := 5
theorem ce.u8 : CellT P 5 := ⟨by kernel_rfl, by kernel_rfl⟩
theorem it.u8 : IntT P 5 .u8 := ⟨by kernel_rfl⟩
theorem z.u8 : ZeroT P 5 [.d (.sc (.int .u8 0))] := ⟨by kernel_rfl⟩
theorem sz.u8 : (P.info? 5).map (·.size) = some 1 := by kernel_rfl
abbrev T.u32s : Nat := 22
theorem sl.u32s : SliceT P 22 145 1 4 := ⟨by kernel_rfl, by kernel_rfl, by decide⟩
theorem ce.u32s : CellT P 22 := ⟨by kernel_rfl, by kernel_rfl⟩
theorem z.u32s : ZeroT P 22 [.mt] := ⟨by kernel_rfl⟩
theorem sz.u32s : (P.info? 22).map (·.size) = some 1 := by kernel_rfl
abbrev T.Rat : Nat := 24
theorem ag.Rat : AggT P 24 3 := ⟨by kernel_rfl, by kernel_rfl⟩
theorem fd.Rat_0 : FieldT P 24 0 0 := ⟨by kernel_rfl⟩
theorem fd.Rat_1 : FieldT P 24 1 1 := ⟨by kernel_rfl⟩
theorem fd.Rat_2 : FieldT P 24 2 2 := ⟨by kernel_rfl⟩
theorem z.Rat : ZeroT P 24 [.d (.sc (.bool false)), .mt, .mt] := ⟨by kernel_rfl⟩
theorem pl.Rat : PlacesT P 24 [(0, 1), (1, 1), (2, 1)] := ⟨by kernel_rfl⟩
theorem sz.Rat : (P.info? 24).map (·.size) = some 3 := by kernel_rfl
abbrev T.Rats : Nat := 25
theorem sl.Rats : SliceT P 25 24 3 56 := ⟨by kernel_rfl, by kernel_rfl, by decide⟩
theorem ce.Rats : CellT P 25 := ⟨by kernel_rfl, by kernel_rfl⟩
theorem z.Rats : ZeroT P 25 [.mt] := ⟨by kernel_rfl⟩
theorem sz.Rats : (P.info? 25).map (·.size) = some 1 := by kernel_rfl
abbrev T.Ratss : Nat := 26
theorem sl.Ratss : SliceT P 26 25 1 24 := ⟨by kernel_rfl, by kernel_rfl, by decide⟩
theorem ce.Ratss : CellT P 26 := ⟨by kernel_rfl, by kernel_rfl⟩
theorem z.Ratss : ZeroT P 26 [.mt] := ⟨by kernel_rfl⟩
theorem sz.Ratss : (P.info? 26).map (·.size) = some 1 := by kernel_rfl
abbrev T.bools : Nat := 27
theorem sl.bools : SliceT P 27 4 1 1 := ⟨by kernel_rfl, by kernel_rfl, by decide⟩
theorem ce.bools : CellT P 27 := ⟨by kernel_rfl, by kernel_rfl⟩
theorem z.bools : ZeroT P 27 [.mt] := ⟨by kernel_rfl⟩
theorem sz.bools : (P.info? 27).map (·.size) = some 1 := by kernel_rfl
abbrev T.ints : Nat := 28
theorem sl.ints : SliceT P 28 3 1 8 := ⟨by kernel_rfl, by kernel_rfl, by decide⟩
theorem ce.ints : CellT P 28 := ⟨by kernel_rfl, by kernel_rfl⟩
theorem z.ints : ZeroT P 28 [.mt] := ⟨by kernel_rfl⟩
theorem sz.ints : (P.info? 28).map (·.size) = some 1 := by kernel_rfl
abbrev T.Hidden : Nat := 30
theorem ag.Hidden : AggT P 30 11 := ⟨by kernel_rfl, by kernel_rfl⟩
theorem fd.Hidden_0 : FieldT P 30 0 0 := ⟨by kernel_rfl⟩
theorem fd.Hidden_1 : FieldT P 30 1 1 := ⟨by kernel_rfl⟩
theorem fd.Hidden_2 : FieldT P 30 2 2 := ⟨by kernel_rfl⟩
theorem fd.Hidden_3 : FieldT P 30 3 5 := ⟨by kernel_rfl⟩
theorem fd.Hidden_4 : FieldT P 30 4 6 := ⟨by kernel_rfl⟩
theorem fd.Hidden_5 : FieldT P 30 5 7 := ⟨by kernel_rfl⟩
theorem fd.Hidden_6 : FieldT P 30 6 8 := ⟨by kernel_rfl⟩
theorem fd.Hidden_7 : FieldT P 30 7 9 := ⟨by kernel_rfl⟩
theorem fd.Hidden_8 : FieldT P 30 8 10 := ⟨by kernel_rfl⟩
theorem z.Hidden : ZeroT P 30 [.d (.sc (.int .i64 0)), .d (.sc (.int .i64 0)), .d (.sc (.bool false)), .mt, .mt, .mt, .mt, .mt, .mt, .mt, .mt] := ⟨by kernel_rfl⟩
theorem pl.Hidden : PlacesT P 30 [(0, 1), (1, 1), (2, 3), (5, 1), (6, 1), (7, 1), (8, 1), (9, 1), (10, 1)] := ⟨by kernel_rfl⟩
theorem sz.Hidden : (P.info? 30).map (·.size) = some 11 := by kernel_rfl
abbrev T.intss : Nat := 66
theorem sl.intss : SliceT P 66 28 1 24 := ⟨by kernel_rfl, by kernel_rfl, by decide⟩
theorem ce.intss : CellT P 66 := ⟨by kernel_rfl, by kernel_rfl⟩
theorem z.intss : ZeroT P 66 [.mt] := ⟨by kernel_rfl⟩
theorem sz.intss : (P.info? 66).map (·.size) = some 1 := by kernel_rfl
abbrev T.Online : Nat := 68
theorem ag.Online : AggT P 68 15 := ⟨by kernel_rfl, by kernel_rfl⟩
theorem fd.Online_0 : FieldT P 68 0 0 := ⟨by kernel_rfl⟩
theorem fd.Online_1 : FieldT P 68 1 11 := ⟨by kernel_rfl⟩
theorem fd.Online_2 : FieldT P 68 2 12 := ⟨by kernel_rfl⟩
theorem fd.Online_3 : FieldT P 68 3 13 := ⟨by kernel_rfl⟩
theorem fd.Online_4 : FieldT P 68 4 14 := ⟨by kernel_rfl⟩
theorem z.Online : ZeroT P 68 [.d (.sc (.int .i64 0)), .d (.sc (.int .i64 0)), .d (.sc (.bool false)), .mt, .mt, .mt, .mt, .mt, .mt, .mt, .mt, .d (.sc (.int .i64 0)), .mt, .mt, .mt] := ⟨by kernel_rfl⟩
theorem pl.Online : PlacesT P 68 [(0, 11), (11, 1), (12, 1), (13, 1), (14, 1)] := ⟨by kernel_rfl⟩
theorem sz.Online : (P.info? 68).map (·.size) = some 15 := by kernel_rfl
abbrev T.uint : Nat := 101
theorem ce.uint : CellT P 101 := ⟨by kernel_rfl, by kernel_rfl⟩
theorem it.uint : IntT P 101 .u64 := ⟨by kernel_rfl⟩
theorem z.uint : ZeroT P 101 [.d (.sc (.int .u64 0))] := ⟨by kernel_rfl⟩
theorem sz.uint : (P.info? 101).map (·.size) = some 1 := by kernel_rfl
abbrev T.limbs : Nat := 125
theorem sl.limbs : SliceT P 125 145 1 4 := ⟨by kernel_rfl, by kernel_rfl, by decide⟩
theorem ce.limbs : CellT P 125 := ⟨by kernel_rfl, by kernel_rfl⟩
theorem z.limbs : ZeroT P 125 [.mt] := ⟨by kernel_rfl⟩
theorem sz.limbs : (P.info? 125).map (·.size) = some 1 := by kernel_rfl
abbrev T.fraction : Nat := 127
theorem ag.fraction : AggT P 127 3 := ⟨by kernel_rfl, by kernel_rfl⟩
theorem fd.fraction_0 : FieldT P 127 0 0 := ⟨by kernel_rfl⟩
theorem fd.fraction_1 : FieldT P 127 1 1 := ⟨by kernel_rfl⟩
theorem fd.fraction_2 : FieldT P 127 2 2 := ⟨by kernel_rfl⟩
theorem z.fraction : ZeroT P 127 [.d (.sc (.bool false)), .mt, .mt] := ⟨by kernel_rfl⟩
theorem pl.fraction : PlacesT P 127 [(0, 1), (1, 1), (2, 1)] := ⟨by kernel_rfl⟩
theorem sz.fraction : (P.info? 127).map (·.size) = some 3 := by kernel_rfl
abbrev T.u64 : Nat := 138
theorem ce.u64 : CellT P 138 := ⟨by kernel_rfl, by kernel_rfl⟩
theorem it.u64 : IntT P 138 .u64 := ⟨by kernel_rfl⟩
theorem z.u64 : ZeroT P 138 [.d (.sc (.int .u64 0))] := ⟨by kernel_rfl⟩
theorem sz.u64 : (P.info? 138).map (·.size) = some 1 := by kernel_rfl
abbrev T.u32 : Nat := 145
theorem ce.u32 : CellT P 145 := ⟨by kernel_rfl, by kernel_rfl⟩
theorem it.u32 : IntT P 145 .u32 := ⟨by kernel_rfl⟩
theorem z.u32 : ZeroT P 145 [.d (.sc (.int .u32 0))] := ⟨by kernel_rfl⟩
theorem sz.u32 : (P.info? 145).map (·.size) = some 1 := by kernel_rfl
abbrev T.fn84 : Nat := 84
theorem ce.fn84 : CellT P 84 := ⟨by kernel_rfl, by kernel_rfl⟩
theorem z.fn84 : ZeroT P 84 [.d (.sc .nilFunc)] := ⟨by kernel_rfl⟩
theorem sz.fn84 : (P.info? 84).map (·.size) = some 1 := by kernel_rfl
theorem st.str : P.underlying 9 = some .string := by kernel_rfl
end Go.Proofs.YtjghehkgmanmbaaGreat
