/-
  Names for the functions of this seat, and facts on its types (printed by hdr.py).
-/
import Derived.Test.YtjghehkgmanmbaaGreatChecked
import Derived.KernelRfl
import Derived.Test.YtjghehkgmanmbaaGreatKNumb
set_option linter.unusedVariables false
set_option linter.unusedSimpArgs false
namespace Go.Proofs.YtjghehkgmanmbaaGreat
open Go Go.AL
noncomputable abbrev P : Program := Tryz.prog
theorem order_free : P.follows .mixedOrders = true := by kernel_rfl
abbrev F.law40_SampleActs : Nat := 3
theorem fn.law40_SampleActs : P.funcs[F.law40_SampleActs]? = some Tryz.f3 := Tryz.func3
abbrev F.law40_light : Nat := 7
theorem fn.law40_light : P.funcs[F.law40_light]? = some Tryz.f7 := Tryz.func7
abbrev F.law40_known : Nat := 8
theorem fn.law40_known : P.funcs[F.law40_known]? = some Tryz.f8 := Tryz.func8
abbrev F.sample_Range : Nat := 9
theorem fn.sample_Range : P.funcs[F.sample_Range]? = some Tryz.f9 := Tryz.func9
abbrev F.ref40_Range : Nat := 10
theorem fn.ref40_Range : P.funcs[F.ref40_Range]? = some Tryz.f10 := Tryz.func10
abbrev F.sample_Draw : Nat := 11
theorem fn.sample_Draw : P.funcs[F.sample_Draw]? = some Tryz.f11 := Tryz.func11
abbrev F.ref40_Draw : Nat := 12
theorem fn.ref40_Draw : P.funcs[F.ref40_Draw]? = some Tryz.f12 := Tryz.func12
abbrev F.sample_All : Nat := 13
theorem fn.sample_All : P.funcs[F.sample_All]? = some Tryz.f13 := Tryz.func13
abbrev F.ref40_All : Nat := 14
theorem fn.ref40_All : P.funcs[F.ref40_All]? = some Tryz.f14 := Tryz.func14
abbrev F.ref01_Compare : Nat := 15
theorem fn.ref01_Compare : P.funcs[F.ref01_Compare]? = some Tryz.f15 := Tryz.func15
abbrev F.ref40_Same : Nat := 16
theorem fn.ref40_Same : P.funcs[F.ref40_Same]? = some Tryz.f16 := Tryz.func16
abbrev F.ref33_SameRats : Nat := 30
theorem fn.ref33_SameRats : P.funcs[F.ref33_SameRats]? = some Tryz.f30 := Tryz.func30
abbrev F.law40_coin : Nat := 55
theorem fn.law40_coin : P.funcs[F.law40_coin]? = some Tryz.f55 := Tryz.func55
abbrev F.law40_same : Nat := 56
theorem fn.law40_same : P.funcs[F.law40_same]? = some Tryz.f56 := Tryz.func56
abbrev F.sample_refuse : Nat := 57
theorem fn.sample_refuse : P.funcs[F.sample_refuse]? = some Tryz.f57 := Tryz.func57
abbrev F.words_Valid : Nat := 58
theorem fn.words_Valid : P.funcs[F.words_Valid]? = some Tryz.f58 := Tryz.func58
abbrev F.slices_ContainsFunc_ints_int : Nat := 59
theorem fn.slices_ContainsFunc_ints_int : P.funcs[F.slices_ContainsFunc_ints_int]? = some Tryz.f59 := Tryz.func59
abbrev F.sample_Range_1 : Nat := 60
theorem fn.sample_Range_1 : P.funcs[F.sample_Range_1]? = some Tryz.f60 := Tryz.func60
abbrev F.sample_one : Nat := 61
theorem fn.sample_one : P.funcs[F.sample_one]? = some Tryz.f61 := Tryz.func61
abbrev F.sample_span_part : Nat := 62
theorem fn.sample_span_part : P.funcs[F.sample_span_part]? = some Tryz.f62 := Tryz.func62
abbrev F.sample_next : Nat := 63
theorem fn.sample_next : P.funcs[F.sample_next]? = some Tryz.f63 := Tryz.func63
abbrev F.rational_Add : Nat := 64
theorem fn.rational_Add : P.funcs[F.rational_Add]? = some Tryz.f64 := Tryz.func64
abbrev F.ref33_Check : Nat := 65
theorem fn.ref33_Check : P.funcs[F.ref33_Check]? = some Tryz.f65 := Tryz.func65
abbrev F.ref05_Valid : Nat := 66
theorem fn.ref05_Valid : P.funcs[F.ref05_Valid]? = some Tryz.f66 := Tryz.func66
abbrev F.ref40_unit : Nat := 67
theorem fn.ref40_unit : P.funcs[F.ref40_unit]? = some Tryz.f67 := Tryz.func67
abbrev F.ref40_beginnings : Nat := 68
theorem fn.ref40_beginnings : P.funcs[F.ref40_beginnings]? = some Tryz.f68 := Tryz.func68
abbrev F.ref40_part : Nat := 69
theorem fn.ref40_part : P.funcs[F.ref40_part]? = some Tryz.f69 := Tryz.func69
abbrev F.ref40_symbols : Nat := 70
theorem fn.ref40_symbols : P.funcs[F.ref40_symbols]? = some Tryz.f70 := Tryz.func70
abbrev F.ref40_moves : Nat := 71
theorem fn.ref40_moves : P.funcs[F.ref40_moves]? = some Tryz.f71 := Tryz.func71
abbrev F.sample_Draw_1 : Nat := 72
theorem fn.sample_Draw_1 : P.funcs[F.sample_Draw_1]? = some Tryz.f72 := Tryz.func72
abbrev F.sample_draw : Nat := 73
theorem fn.sample_draw : P.funcs[F.sample_draw]? = some Tryz.f73 := Tryz.func73
abbrev F.ref33_Whole : Nat := 74
theorem fn.ref33_Whole : P.funcs[F.ref33_Whole]? = some Tryz.f74 := Tryz.func74
abbrev F.ref40_reader_choose : Nat := 75
theorem fn.ref40_reader_choose : P.funcs[F.ref40_reader_choose]? = some Tryz.f75 := Tryz.func75
abbrev F.slices_Equal_ints_int : Nat := 76
theorem fn.slices_Equal_ints_int : P.funcs[F.slices_Equal_ints_int]? = some Tryz.f76 := Tryz.func76
abbrev F.ref05_Compare : Nat := 77
theorem fn.ref05_Compare : P.funcs[F.ref05_Compare]? = some Tryz.f77 := Tryz.func77
abbrev F.ref01_Sign : Nat := 78
theorem fn.ref01_Sign : P.funcs[F.ref01_Sign]? = some Tryz.f78 := Tryz.func78
abbrev F.ref01_Sub : Nat := 79
theorem fn.ref01_Sub : P.funcs[F.ref01_Sub]? = some Tryz.f79 := Tryz.func79
abbrev F.ref01_Make : Nat := 80
theorem fn.ref01_Make : P.funcs[F.ref01_Make]? = some Tryz.f80 := Tryz.func80
abbrev F.ref01_Add : Nat := 84
theorem fn.ref01_Add : P.funcs[F.ref01_Add]? = some Tryz.f84 := Tryz.func84
abbrev F.ref01_Mul : Nat := 85
theorem fn.ref01_Mul : P.funcs[F.ref01_Mul]? = some Tryz.f85 := Tryz.func85
abbrev F.rational_Sign : Nat := 88
theorem fn.rational_Sign : P.funcs[F.rational_Sign]? = some Tryz.f88 := Tryz.func88
abbrev F.rational_Mul : Nat := 90
theorem fn.rational_Mul : P.funcs[F.rational_Mul]? = some Tryz.f90 := Tryz.func90
abbrev F.ref33_Chance : Nat := 101
theorem fn.ref33_Chance : P.funcs[F.ref33_Chance]? = some Tryz.f101 := Tryz.func101
abbrev F.rational_Compare : Nat := 105
theorem fn.rational_Compare : P.funcs[F.rational_Compare]? = some Tryz.f105 := Tryz.func105
abbrev F.hmm_Plain : Nat := 114
theorem fn.hmm_Plain : P.funcs[F.hmm_Plain]? = some Tryz.f114 := Tryz.func114
abbrev F.ref33_Plain : Nat := 117
theorem fn.ref33_Plain : P.funcs[F.ref33_Plain]? = some Tryz.f117 := Tryz.func117
abbrev F.hmm_Valid : Nat := 120
theorem fn.hmm_Valid : P.funcs[F.hmm_Valid]? = some Tryz.f120 := Tryz.func120
abbrev F.slices_IndexFunc_ints_int : Nat := 121
theorem fn.slices_IndexFunc_ints_int : P.funcs[F.slices_IndexFunc_ints_int]? = some Tryz.f121 := Tryz.func121
abbrev F.rational_Make : Nat := 122
theorem fn.rational_Make : P.funcs[F.rational_Make]? = some Tryz.f122 := Tryz.func122
abbrev F.slices_Clone_Rats_Rat : Nat := 123
theorem fn.slices_Clone_Rats_Rat : P.funcs[F.slices_Clone_Rats_Rat]? = some Tryz.f123 := Tryz.func123
abbrev F.rational_of : Nat := 124
theorem fn.rational_of : P.funcs[F.rational_of]? = some Tryz.f124 := Tryz.func124
abbrev F.rational_fraction_plus : Nat := 125
theorem fn.rational_fraction_plus : P.funcs[F.rational_fraction_plus]? = some Tryz.f125 := Tryz.func125
abbrev F.rational_fraction_rat : Nat := 126
theorem fn.rational_fraction_rat : P.funcs[F.rational_fraction_rat]? = some Tryz.f126 := Tryz.func126
abbrev F.ref33_Valid : Nat := 127
theorem fn.ref33_Valid : P.funcs[F.ref33_Valid]? = some Tryz.f127 := Tryz.func127
abbrev F.ref05_Alphabet : Nat := 128
theorem fn.ref05_Alphabet : P.funcs[F.ref05_Alphabet]? = some Tryz.f128 := Tryz.func128
abbrev F.ref33_Sum : Nat := 129
theorem fn.ref33_Sum : P.funcs[F.ref33_Sum]? = some Tryz.f129 := Tryz.func129
abbrev F.sample_reader_choose : Nat := 130
theorem fn.sample_reader_choose : P.funcs[F.sample_reader_choose]? = some Tryz.f130 := Tryz.func130
abbrev F.ref40_half : Nat := 131
theorem fn.ref40_half : P.funcs[F.ref40_half]? = some Tryz.f131 := Tryz.func131
abbrev F.ref01_Take : Nat := 132
theorem fn.ref01_Take : P.funcs[F.ref01_Take]? = some Tryz.f132 := Tryz.func132
abbrev F.ref01_Neg : Nat := 133
theorem fn.ref01_Neg : P.funcs[F.ref01_Neg]? = some Tryz.f133 := Tryz.func133
abbrev F.ref01_over : Nat := 134
theorem fn.ref01_over : P.funcs[F.ref01_over]? = some Tryz.f134 := Tryz.func134
abbrev F.ref01_natural : Nat := 135
theorem fn.ref01_natural : P.funcs[F.ref01_natural]? = some Tryz.f135 := Tryz.func135
abbrev F.ref01_absolute : Nat := 136
theorem fn.ref01_absolute : P.funcs[F.ref01_absolute]? = some Tryz.f136 := Tryz.func136
abbrev F.ref01_times : Nat := 137
theorem fn.ref01_times : P.funcs[F.ref01_times]? = some Tryz.f137 := Tryz.func137
abbrev F.ref01_den : Nat := 138
theorem fn.ref01_den : P.funcs[F.ref01_den]? = some Tryz.f138 := Tryz.func138
abbrev F.ref01_plus : Nat := 139
theorem fn.ref01_plus : P.funcs[F.ref01_plus]? = some Tryz.f139 := Tryz.func139
abbrev F.ref01_compare : Nat := 140
theorem fn.ref01_compare : P.funcs[F.ref01_compare]? = some Tryz.f140 := Tryz.func140
abbrev F.ref01_minus : Nat := 141
theorem fn.ref01_minus : P.funcs[F.ref01_minus]? = some Tryz.f141 := Tryz.func141
abbrev F.rational_limbs_times : Nat := 142
theorem fn.rational_limbs_times : P.funcs[F.rational_limbs_times]? = some Tryz.f142 := Tryz.func142
abbrev F.rational_Valid : Nat := 146
theorem fn.rational_Valid : P.funcs[F.rational_Valid]? = some Tryz.f146 := Tryz.func146
abbrev F.ref01_Valid : Nat := 147
theorem fn.ref01_Valid : P.funcs[F.ref01_Valid]? = some Tryz.f147 := Tryz.func147
abbrev F.rational_Sub : Nat := 151
theorem fn.rational_Sub : P.funcs[F.rational_Sub]? = some Tryz.f151 := Tryz.func151
abbrev F.slices_Contains_bools_bool : Nat := 155
theorem fn.slices_Contains_bools_bool : P.funcs[F.slices_Contains_bools_bool]? = some Tryz.f155 := Tryz.func155
abbrev F.hmm_formed : Nat := 159
theorem fn.hmm_formed : P.funcs[F.hmm_formed]? = some Tryz.f159 := Tryz.func159
abbrev F.hmm_sums : Nat := 160
theorem fn.hmm_sums : P.funcs[F.hmm_sums]? = some Tryz.f160 := Tryz.func160
abbrev F.hmm_order : Nat := 161
theorem fn.hmm_order : P.funcs[F.hmm_order]? = some Tryz.f161 := Tryz.func161
abbrev F.hmm_tied : Nat := 162
theorem fn.hmm_tied : P.funcs[F.hmm_tied]? = some Tryz.f162 := Tryz.func162
abbrev F.rational_whole : Nat := 163
theorem fn.rational_whole : P.funcs[F.rational_whole]? = some Tryz.f163 := Tryz.func163
abbrev F.rational_one : Nat := 164
theorem fn.rational_one : P.funcs[F.rational_one]? = some Tryz.f164 := Tryz.func164
abbrev F.rational_limbs_plus : Nat := 165
theorem fn.rational_limbs_plus : P.funcs[F.rational_limbs_plus]? = some Tryz.f165 := Tryz.func165
abbrev F.rational_limbs_cmp : Nat := 166
theorem fn.rational_limbs_cmp : P.funcs[F.rational_limbs_cmp]? = some Tryz.f166 := Tryz.func166
abbrev F.rational_limbs_minus : Nat := 167
theorem fn.rational_limbs_minus : P.funcs[F.rational_limbs_minus]? = some Tryz.f167 := Tryz.func167
abbrev F.slices_Clone_rational_limbs_uint32 : Nat := 168
theorem fn.slices_Clone_rational_limbs_uint32 : P.funcs[F.slices_Clone_rational_limbs_uint32]? = some Tryz.f168 := Tryz.func168
abbrev F.rational_limbs_gcd : Nat := 169
theorem fn.rational_limbs_gcd : P.funcs[F.rational_limbs_gcd]? = some Tryz.f169 := Tryz.func169
abbrev F.rational_limbs_over : Nat := 170
theorem fn.rational_limbs_over : P.funcs[F.rational_limbs_over]? = some Tryz.f170 := Tryz.func170
abbrev F.ref33_formed : Nat := 171
theorem fn.ref33_formed : P.funcs[F.ref33_formed]? = some Tryz.f171 := Tryz.func171
abbrev F.ref33_one : Nat := 172
theorem fn.ref33_one : P.funcs[F.ref33_one]? = some Tryz.f172 := Tryz.func172
abbrev F.ref33_circles : Nat := 173
theorem fn.ref33_circles : P.funcs[F.ref33_circles]? = some Tryz.f173 := Tryz.func173
abbrev F.sample_span_inside : Nat := 174
theorem fn.sample_span_inside : P.funcs[F.sample_span_inside]? = some Tryz.f174 := Tryz.func174
abbrev F.ref01_divisor : Nat := 175
theorem fn.ref01_divisor : P.funcs[F.ref01_divisor]? = some Tryz.f175 := Tryz.func175
abbrev F.ref01_divide : Nat := 176
theorem fn.ref01_divide : P.funcs[F.ref01_divide]? = some Tryz.f176 := Tryz.func176
abbrev F.ref01_one : Nat := 177
theorem fn.ref01_one : P.funcs[F.ref01_one]? = some Tryz.f177 := Tryz.func177
abbrev F.ref01_trim : Nat := 178
theorem fn.ref01_trim : P.funcs[F.ref01_trim]? = some Tryz.f178 := Tryz.func178
abbrev F.ref01_limb : Nat := 179
theorem fn.ref01_limb : P.funcs[F.ref01_limb]? = some Tryz.f179 := Tryz.func179
abbrev F.ref01_sign : Nat := 180
theorem fn.ref01_sign : P.funcs[F.ref01_sign]? = some Tryz.f180 := Tryz.func180
abbrev F.rational_limbs_at : Nat := 181
theorem fn.rational_limbs_at : P.funcs[F.rational_limbs_at]? = some Tryz.f181 := Tryz.func181
abbrev F.rational_limbs_clean : Nat := 182
theorem fn.rational_limbs_clean : P.funcs[F.rational_limbs_clean]? = some Tryz.f182 := Tryz.func182
abbrev F.rational_proper : Nat := 185
theorem fn.rational_proper : P.funcs[F.rational_proper]? = some Tryz.f185 := Tryz.func185
abbrev F.rational_fraction_negative : Nat := 188
theorem fn.rational_fraction_negative : P.funcs[F.rational_fraction_negative]? = some Tryz.f188 := Tryz.func188
abbrev F.slices_Index_bools_bool : Nat := 192
theorem fn.slices_Index_bools_bool : P.funcs[F.slices_Index_bools_bool]? = some Tryz.f192 := Tryz.func192
abbrev F.hmm_share : Nat := 194
theorem fn.hmm_share : P.funcs[F.hmm_share]? = some Tryz.f194 := Tryz.func194
abbrev F.hmm_shares : Nat := 195
theorem fn.hmm_shares : P.funcs[F.hmm_shares]? = some Tryz.f195 := Tryz.func195
abbrev F.hmm_whole : Nat := 196
theorem fn.hmm_whole : P.funcs[F.hmm_whole]? = some Tryz.f196 := Tryz.func196
abbrev F.hmm_order_1 : Nat := 197
theorem fn.hmm_order_1 : P.funcs[F.hmm_order_1]? = some Tryz.f197 := Tryz.func197
abbrev F.slices_Reverse_ints_int : Nat := 198
theorem fn.slices_Reverse_ints_int : P.funcs[F.slices_Reverse_ints_int]? = some Tryz.f198 := Tryz.func198
abbrev F.hmm_equal : Nat := 199
theorem fn.hmm_equal : P.funcs[F.hmm_equal]? = some Tryz.f199 := Tryz.func199
abbrev F.rational_limbs_small : Nat := 200
theorem fn.rational_limbs_small : P.funcs[F.rational_limbs_small]? = some Tryz.f200 := Tryz.func200
abbrev F.rational_limbs_length : Nat := 201
theorem fn.rational_limbs_length : P.funcs[F.rational_limbs_length]? = some Tryz.f201 := Tryz.func201
abbrev F.rational_limbs_left : Nat := 202
theorem fn.rational_limbs_left : P.funcs[F.rational_limbs_left]? = some Tryz.f202 := Tryz.func202
abbrev F.rational_limbs_right : Nat := 203
theorem fn.rational_limbs_right : P.funcs[F.rational_limbs_right]? = some Tryz.f203 := Tryz.func203
abbrev F.ref33_chances : Nat := 204
theorem fn.ref33_chances : P.funcs[F.ref33_chances]? = some Tryz.f204 := Tryz.func204
abbrev F.hmm_one : Nat := 207
theorem fn.hmm_one : P.funcs[F.hmm_one]? = some Tryz.f207 := Tryz.func207
abbrev F.slices_ContainsFunc_Rats_Rat : Nat := 208
theorem fn.slices_ContainsFunc_Rats_Rat : P.funcs[F.slices_ContainsFunc_Rats_Rat]? = some Tryz.f208 := Tryz.func208
abbrev F.hmm_shares_1 : Nat := 209
theorem fn.hmm_shares_1 : P.funcs[F.hmm_shares_1]? = some Tryz.f209 := Tryz.func209
abbrev F.slices_Concat_Rats_Rat : Nat := 210
theorem fn.slices_Concat_Rats_Rat : P.funcs[F.slices_Concat_Rats_Rat]? = some Tryz.f210 := Tryz.func210
abbrev F.slices_EqualFunc_Rats_Rats_Rat_Rat : Nat := 211
theorem fn.slices_EqualFunc_Rats_Rats_Rat_Rat : P.funcs[F.slices_EqualFunc_Rats_Rats_Rat_Rat]? = some Tryz.f211 := Tryz.func211
abbrev F.hmm_equal_1 : Nat := 212
theorem fn.hmm_equal_1 : P.funcs[F.hmm_equal_1]? = some Tryz.f212 := Tryz.func212
abbrev F.math_bits_LeadingZeros32 : Nat := 213
theorem fn.math_bits_LeadingZeros32 : P.funcs[F.math_bits_LeadingZeros32]? = some Tryz.f213 := Tryz.func213
abbrev F.slices_IndexFunc_Rats_Rat : Nat := 214
theorem fn.slices_IndexFunc_Rats_Rat : P.funcs[F.slices_IndexFunc_Rats_Rat]? = some Tryz.f214 := Tryz.func214
abbrev F.slices_Grow_Rats_Rat : Nat := 215
theorem fn.slices_Grow_Rats_Rat : P.funcs[F.slices_Grow_Rats_Rat]? = some Tryz.f215 := Tryz.func215
abbrev F.math_bits_Len32 : Nat := 216
theorem fn.math_bits_Len32 : P.funcs[F.math_bits_Len32]? = some Tryz.f216 := Tryz.func216
abbrev T.i64 : Nat := 2
theorem ce.i64 : CellT P 2 := ⟨by kernel_rfl, by kernel_rfl⟩
theorem it.i64 : IntT P 2 .i64 := ⟨by kernel_rfl⟩
theorem z.i64 : ZeroT P 2 [.d (.sc (.int .i64 0))] := ⟨by kernel_rfl⟩
theorem sz.i64 : (P.info? 2).map (·.size) = some 1 := by kernel_rfl
abbrev T.int : Nat := 3
theorem ce.int : CellT P 3 := ⟨by kernel_rfl, by kernel_rfl⟩
theorem it.int : IntT P 3 .i64 := ⟨by kernel_rfl⟩
theorem z.int : ZeroT P 3 [.d (.sc (.int .i64 0))] := ⟨by kernel_rfl⟩
theorem sz.int : (P.info? 3).map (·.size) = some 1 := by kernel_rfl
abbrev T.bool : Nat := 4
theorem ce.bool : CellT P 4 := ⟨by kernel_rfl, by kernel_rfl⟩
theorem bt.bool : BoolT P 4 := ⟨by kernel_rfl⟩
theorem z.bool : ZeroT P 4 [.d (.sc (.bool false))] := ⟨by kernel_rfl⟩
theorem sz.bool : (P.info? 4).map (·.size) = some 1 := by kernel_rfl
abbrev T.u8 : Nat := 5
theorem ce.u8 : CellT P 5 := ⟨by kernel_rfl, by kernel_rfl⟩
theorem it.u8 : IntT P 5 .u8 := ⟨by kernel_rfl⟩
theorem z.u8 : ZeroT P 5 [.d (.sc (.int .u8 0))] := ⟨by kernel_rfl⟩
theorem sz.u8 : (P.info? 5).map (·.size) = some 1 := by kernel_rfl
abbrev T.u32s : Nat := 22
theorem sl.u32s : SliceT P 22 145 1 4 := ⟨by kernel_rfl, by kernel_rfl, by decide⟩
theorem ce.u32s : CellT P 22 := ⟨by kernel_rfl, by kernel_rfl⟩
theorem z.u32s : ZeroT P 22 [.mt] := ⟨by kernel_rfl⟩
theorem sz.u32s : (P.info? 22).map (·.size) = some 1 := by kernel_rfl
abbrev T.Rat : Nat := 24
theorem ag.Rat : AggT P 24 3 := ⟨by kernel_rfl, by kernel_rfl⟩
theorem fd.Rat_0 : FieldT P 24 0 0 := ⟨by kernel_rfl⟩
theorem fd.Rat_1 : FieldT P 24 1 1 := ⟨by kernel_rfl⟩
theorem fd.Rat_2 : FieldT P 24 2 2 := ⟨by kernel_rfl⟩
theorem z.Rat : ZeroT P 24 [.d (.sc (.bool false)), .mt, .mt] := ⟨by kernel_rfl⟩
theorem pl.Rat : PlacesT P 24 [(0, 1), (1, 1), (2, 1)] := ⟨by kernel_rfl⟩
theorem sz.Rat : (P.info? 24).map (·.size) = some 3 := by kernel_rfl
abbrev T.Rats : Nat := 25
theorem sl.Rats : SliceT P 25 24 3 56 := ⟨by kernel_rfl, by kernel_rfl, by decide⟩
theorem ce.Rats : CellT P 25 := ⟨by kernel_rfl, by kernel_rfl⟩
theorem z.Rats : ZeroT P 25 [.mt] := ⟨by kernel_rfl⟩
theorem sz.Rats : (P.info? 25).map (·.size) = some 1 := by kernel_rfl
abbrev T.Ratss : Nat := 26
theorem sl.Ratss : SliceT P 26 25 1 24 := ⟨by kernel_rfl, by kernel_rfl, by decide⟩
theorem ce.Ratss : CellT P 26 := ⟨by kernel_rfl, by kernel_rfl⟩
theorem z.Ratss : ZeroT P 26 [.mt] := ⟨by kernel_rfl⟩
theorem sz.Ratss : (P.info? 26).map (·.size) = some 1 := by kernel_rfl
abbrev T.bools : Nat := 27
theorem sl.bools : SliceT P 27 4 1 1 := ⟨by kernel_rfl, by kernel_rfl, by decide⟩
theorem ce.bools : CellT P 27 := ⟨by kernel_rfl, by kernel_rfl⟩
theorem z.bools : ZeroT P 27 [.mt] := ⟨by kernel_rfl⟩
theorem sz.bools : (P.info? 27).map (·.size) = some 1 := by kernel_rfl
abbrev T.ints : Nat := 28
theorem sl.ints : SliceT P 28 3 1 8 := ⟨by kernel_rfl, by kernel_rfl, by decide⟩
theorem ce.ints : CellT P 28 := ⟨by kernel_rfl, by kernel_rfl⟩
theorem z.ints : ZeroT P 28 [.mt] := ⟨by kernel_rfl⟩
theorem sz.ints : (P.info? 28).map (·.size) = some 1 := by kernel_rfl
abbrev T.Hidden : Nat := 30
theorem ag.Hidden : AggT P 30 11 := ⟨by kernel_rfl, by kernel_rfl⟩
theorem fd.Hidden_0 : FieldT P 30 0 0 := ⟨by kernel_rfl⟩
theorem fd.Hidden_1 : FieldT P 30 1 1 := ⟨by kernel_rfl⟩
theorem fd.Hidden_2 : FieldT P 30 2 2 := ⟨by kernel_rfl⟩
theorem fd.Hidden_3 : FieldT P 30 3 5 := ⟨by kernel_rfl⟩
theorem fd.Hidden_4 : FieldT P 30 4 6 := ⟨by kernel_rfl⟩
theorem fd.Hidden_5 : FieldT P 30 5 7 := ⟨by kernel_rfl⟩
theorem fd.Hidden_6 : FieldT P 30 6 8 := ⟨by kernel_rfl⟩
theorem fd.Hidden_7 : FieldT P 30 7 9 := ⟨by kernel_rfl⟩
theorem fd.Hidden_8 : FieldT P 30 8 10 := ⟨by kernel_rfl⟩
theorem z.Hidden : ZeroT P 30 [.d (.sc (.int .i64 0)), .d (.sc (.int .i64 0)), .d (.sc (.bool false)), .mt, .mt, .mt, .mt, .mt, .mt, .mt, .mt] := ⟨by kernel_rfl⟩
theorem pl.Hidden : PlacesT P 30 [(0, 1), (1, 1), (2, 3), (5, 1), (6, 1), (7, 1), (8, 1), (9, 1), (10, 1)] := ⟨by kernel_rfl⟩
theorem sz.Hidden : (P.info? 30).map (·.size) = some 11 := by kernel_rfl
abbrev T.Interval : Nat := 34
theorem ag.Interval : AggT P 34 6 := ⟨by kernel_rfl, by kernel_rfl⟩
theorem fd.Interval_0 : FieldT P 34 0 0 := ⟨by kernel_rfl⟩
theorem fd.Interval_1 : FieldT P 34 1 3 := ⟨by kernel_rfl⟩
theorem z.Interval : ZeroT P 34 [.d (.sc (.bool false)), .mt, .mt, .d (.sc (.bool false)), .mt, .mt] := ⟨by kernel_rfl⟩
theorem pl.Interval : PlacesT P 34 [(0, 3), (3, 3)] := ⟨by kernel_rfl⟩
theorem sz.Interval : (P.info? 34).map (·.size) = some 6 := by kernel_rfl
abbrev T.Drawn : Nat := 39
theorem ag.Drawn : AggT P 39 3 := ⟨by kernel_rfl, by kernel_rfl⟩
theorem fd.Drawn_0 : FieldT P 39 0 0 := ⟨by kernel_rfl⟩
theorem fd.Drawn_1 : FieldT P 39 1 1 := ⟨by kernel_rfl⟩
theorem fd.Drawn_2 : FieldT P 39 2 2 := ⟨by kernel_rfl⟩
theorem z.Drawn : ZeroT P 39 [.mt, .mt, .d (.sc (.int .i64 0))] := ⟨by kernel_rfl⟩
theorem pl.Drawn : PlacesT P 39 [(0, 1), (1, 1), (2, 1)] := ⟨by kernel_rfl⟩
theorem sz.Drawn : (P.info? 39).map (·.size) = some 3 := by kernel_rfl
abbrev T.Drawns : Nat := 42
theorem sl.Drawns : SliceT P 42 39 3 56 := ⟨by kernel_rfl, by kernel_rfl, by decide⟩
theorem ce.Drawns : CellT P 42 := ⟨by kernel_rfl, by kernel_rfl⟩
theorem z.Drawns : ZeroT P 42 [.mt] := ⟨by kernel_rfl⟩
theorem sz.Drawns : (P.info? 42).map (·.size) = some 1 := by kernel_rfl
abbrev T.span : Nat := 87
theorem ag.span : AggT P 87 6 := ⟨by kernel_rfl, by kernel_rfl⟩
theorem fd.span_0 : FieldT P 87 0 0 := ⟨by kernel_rfl⟩
theorem fd.span_1 : FieldT P 87 1 3 := ⟨by kernel_rfl⟩
theorem z.span : ZeroT P 87 [.d (.sc (.bool false)), .mt, .mt, .d (.sc (.bool false)), .mt, .mt] := ⟨by kernel_rfl⟩
theorem pl.span : PlacesT P 87 [(0, 3), (3, 3)] := ⟨by kernel_rfl⟩
theorem sz.span : (P.info? 87).map (·.size) = some 6 := by kernel_rfl
abbrev T.uint : Nat := 101
theorem ce.uint : CellT P 101 := ⟨by kernel_rfl, by kernel_rfl⟩
theorem it.uint : IntT P 101 .u64 := ⟨by kernel_rfl⟩
theorem z.uint : ZeroT P 101 [.d (.sc (.int .u64 0))] := ⟨by kernel_rfl⟩
theorem sz.uint : (P.info? 101).map (·.size) = some 1 := by kernel_rfl
abbrev T.limbs : Nat := 125
theorem sl.limbs : SliceT P 125 145 1 4 := ⟨by kernel_rfl, by kernel_rfl, by decide⟩
theorem ce.limbs : CellT P 125 := ⟨by kernel_rfl, by kernel_rfl⟩
theorem z.limbs : ZeroT P 125 [.mt] := ⟨by kernel_rfl⟩
theorem sz.limbs : (P.info? 125).map (·.size) = some 1 := by kernel_rfl
abbrev T.fraction : Nat := 127
theorem ag.fraction : AggT P 127 3 := ⟨by kernel_rfl, by kernel_rfl⟩
theorem fd.fraction_0 : FieldT P 127 0 0 := ⟨by kernel_rfl⟩
theorem fd.fraction_1 : FieldT P 127 1 1 := ⟨by kernel_rfl⟩
theorem fd.fraction_2 : FieldT P 127 2 2 := ⟨by kernel_rfl⟩
theorem z.fraction : ZeroT P 127 [.d (.sc (.bool false)), .mt, .mt] := ⟨by kernel_rfl⟩
theorem pl.fraction : PlacesT P 127 [(0, 1), (1, 1), (2, 1)] := ⟨by kernel_rfl⟩
theorem sz.fraction : (P.info? 127).map (·.size) = some 3 := by kernel_rfl
abbrev T.reader : Nat := 133
theorem ag.reader : AggT P 133 8 := ⟨by kernel_rfl, by kernel_rfl⟩
theorem fd.reader_0 : FieldT P 133 0 0 := ⟨by kernel_rfl⟩
theorem fd.reader_1 : FieldT P 133 1 1 := ⟨by kernel_rfl⟩
theorem fd.reader_2 : FieldT P 133 2 2 := ⟨by kernel_rfl⟩
theorem z.reader : ZeroT P 133 [.mt, .d (.sc (.int .i64 0)), .d (.sc (.bool false)), .mt, .mt, .d (.sc (.bool false)), .mt, .mt] := ⟨by kernel_rfl⟩
theorem pl.reader : PlacesT P 133 [(0, 1), (1, 1), (2, 6)] := ⟨by kernel_rfl⟩
theorem sz.reader : (P.info? 133).map (·.size) = some 8 := by kernel_rfl
abbrev T.u64 : Nat := 138
theorem ce.u64 : CellT P 138 := ⟨by kernel_rfl, by kernel_rfl⟩
theorem it.u64 : IntT P 138 .u64 := ⟨by kernel_rfl⟩
theorem z.u64 : ZeroT P 138 [.d (.sc (.int .u64 0))] := ⟨by kernel_rfl⟩
theorem sz.u64 : (P.info? 138).map (·.size) = some 1 := by kernel_rfl
abbrev T.u32 : Nat := 145
theorem ce.u32 : CellT P 145 := ⟨by kernel_rfl, by kernel_rfl⟩
theorem it.u32 : IntT P 145 .u32 := ⟨by kernel_rfl⟩
theorem z.u32 : ZeroT P 145 [.d (.sc (.int .u32 0))] := ⟨by kernel_rfl⟩
theorem sz.u32 : (P.info? 145).map (·.size) = some 1 := by kernel_rfl
abbrev T.choice : Nat := 92
theorem sl.choice : SliceT P 92 24 3 56 := ⟨by kernel_rfl, by kernel_rfl, by decide⟩
theorem ce.choice : CellT P 92 := ⟨by kernel_rfl, by kernel_rfl⟩
theorem z.choice : ZeroT P 92 [.mt] := ⟨by kernel_rfl⟩
theorem sz.choice : (P.info? 92).map (·.size) = some 1 := by kernel_rfl
abbrev T.ref40_reader : Nat := 99
theorem ag.ref40_reader : AggT P 99 8 := ⟨by kernel_rfl, by kernel_rfl⟩
theorem fd.ref40_reader_0 : FieldT P 99 0 0 := ⟨by kernel_rfl⟩
theorem fd.ref40_reader_1 : FieldT P 99 1 1 := ⟨by kernel_rfl⟩
theorem fd.ref40_reader_2 : FieldT P 99 2 2 := ⟨by kernel_rfl⟩
theorem fd.ref40_reader_3 : FieldT P 99 3 5 := ⟨by kernel_rfl⟩
theorem z.ref40_reader : ZeroT P 99 [.mt, .d (.sc (.int .i64 0)), .d (.sc (.bool false)), .mt, .mt, .d (.sc (.bool false)), .mt, .mt] := ⟨by kernel_rfl⟩
theorem pl.ref40_reader : PlacesT P 99 [(0, 1), (1, 1), (2, 3), (5, 3)] := ⟨by kernel_rfl⟩
theorem sz.ref40_reader : (P.info? 99).map (·.size) = some 8 := by kernel_rfl
abbrev T.fn84 : Nat := 84
theorem ce.fn84 : CellT P 84 := ⟨by kernel_rfl, by kernel_rfl⟩
theorem z.fn84 : ZeroT P 84 [.d (.sc .nilFunc)] := ⟨by kernel_rfl⟩
theorem sz.fn84 : (P.info? 84).map (·.size) = some 1 := by kernel_rfl
theorem st.str : P.underlying 9 = some .string := by kernel_rfl
end Go.Proofs.YtjghehkgmanmbaaGreat
