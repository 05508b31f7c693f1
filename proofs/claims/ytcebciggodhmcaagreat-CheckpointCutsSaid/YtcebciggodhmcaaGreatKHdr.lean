/-
  Names for the functions of this seat, and facts on its types (printed by hdr.py).
-/
import Derived.Test.YtcebciggodhmcaaGreatChecked
import Derived.KernelRfl
import Derived.Test.YtcebciggodhmcaaGreatKNumb
set_option linter.unusedVariables false
set_option linter.unusedSimpArgs false
namespace Go.Proofs.YtcebciggodhmcaaGreat
open Go Go.AL
noncomputable abbrev P : Program := Tryz.prog
theorem order_free : P.follows .mixedOrders = true := by kernel_rfl
abbrev F.law36_CheckpointCuts : Nat := 10
theorem fn.law36_CheckpointCuts : P.funcs[F.law36_CheckpointCuts]? = some Tryz.f10 := Tryz.func10
abbrev F.world_Chain_Hidden : Nat := 18
theorem fn.world_Chain_Hidden : P.funcs[F.world_Chain_Hidden]? = some Tryz.f18 := Tryz.func18
abbrev F.world_Word : Nat := 19
theorem fn.world_Word : P.funcs[F.world_Word]? = some Tryz.f19 := Tryz.func19
abbrev F.world_Within : Nat := 21
theorem fn.world_Within : P.funcs[F.world_Within]? = some Tryz.f21 := Tryz.func21
abbrev F.ref01_Compare : Nat := 24
theorem fn.ref01_Compare : P.funcs[F.ref01_Compare]? = some Tryz.f24 := Tryz.func24
abbrev F.ref01_Add : Nat := 29
theorem fn.ref01_Add : P.funcs[F.ref01_Add]? = some Tryz.f29 := Tryz.func29
abbrev F.ref01_Sign : Nat := 31
theorem fn.ref01_Sign : P.funcs[F.ref01_Sign]? = some Tryz.f31 := Tryz.func31
abbrev F.ref01_Mul : Nat := 39
theorem fn.ref01_Mul : P.funcs[F.ref01_Mul]? = some Tryz.f39 := Tryz.func39
abbrev F.ref33_Whole : Nat := 40
theorem fn.ref33_Whole : P.funcs[F.ref33_Whole]? = some Tryz.f40 := Tryz.func40
abbrev F.ref33_SameRats : Nat := 58
theorem fn.ref33_SameRats : P.funcs[F.ref33_SameRats]? = some Tryz.f58 := Tryz.func58
abbrev F.law36_known : Nat := 60
theorem fn.law36_known : P.funcs[F.law36_known]? = some Tryz.f60 := Tryz.func60
abbrev F.checkpoint_Stored : Nat := 61
theorem fn.checkpoint_Stored : P.funcs[F.checkpoint_Stored]? = some Tryz.f61 := Tryz.func61
abbrev F.checkpoint_Best : Nat := 63
theorem fn.checkpoint_Best : P.funcs[F.checkpoint_Best]? = some Tryz.f63 := Tryz.func63
abbrev F.checkpoint_Columns : Nat := 65
theorem fn.checkpoint_Columns : P.funcs[F.checkpoint_Columns]? = some Tryz.f65 := Tryz.func65
abbrev F.law36_same : Nat := 67
theorem fn.law36_same : P.funcs[F.law36_same]? = some Tryz.f67 := Tryz.func67
abbrev F.law36_columns : Nat := 68
theorem fn.law36_columns : P.funcs[F.law36_columns]? = some Tryz.f68 := Tryz.func68
abbrev F.ref35_Best : Nat := 69
theorem fn.ref35_Best : P.funcs[F.ref35_Best]? = some Tryz.f69 := Tryz.func69
abbrev F.ref01_Sub : Nat := 70
theorem fn.ref01_Sub : P.funcs[F.ref01_Sub]? = some Tryz.f70 := Tryz.func70
abbrev F.ref35_Ways : Nat := 80
theorem fn.ref35_Ways : P.funcs[F.ref35_Ways]? = some Tryz.f80 := Tryz.func80
abbrev F.world_Chain_made : Nat := 87
theorem fn.world_Chain_made : P.funcs[F.world_Chain_made]? = some Tryz.f87 := Tryz.func87
abbrev F.ref01_Make : Nat := 98
theorem fn.ref01_Make : P.funcs[F.ref01_Make]? = some Tryz.f98 := Tryz.func98
abbrev F.ref01_Take : Nat := 101
theorem fn.ref01_Take : P.funcs[F.ref01_Take]? = some Tryz.f101 := Tryz.func101
abbrev F.ref01_times : Nat := 102
theorem fn.ref01_times : P.funcs[F.ref01_times]? = some Tryz.f102 := Tryz.func102
abbrev F.ref01_den : Nat := 103
theorem fn.ref01_den : P.funcs[F.ref01_den]? = some Tryz.f103 := Tryz.func103
abbrev F.ref01_over : Nat := 104
theorem fn.ref01_over : P.funcs[F.ref01_over]? = some Tryz.f104 := Tryz.func104
abbrev F.ref01_plus : Nat := 105
theorem fn.ref01_plus : P.funcs[F.ref01_plus]? = some Tryz.f105 := Tryz.func105
abbrev F.ref01_compare : Nat := 106
theorem fn.ref01_compare : P.funcs[F.ref01_compare]? = some Tryz.f106 := Tryz.func106
abbrev F.ref01_minus : Nat := 107
theorem fn.ref01_minus : P.funcs[F.ref01_minus]? = some Tryz.f107 := Tryz.func107
abbrev F.rational_Sign : Nat := 108
theorem fn.rational_Sign : P.funcs[F.rational_Sign]? = some Tryz.f108 := Tryz.func108
abbrev F.rational_Mul : Nat := 112
theorem fn.rational_Mul : P.funcs[F.rational_Mul]? = some Tryz.f112 := Tryz.func112
abbrev F.words_Valid : Nat := 121
theorem fn.words_Valid : P.funcs[F.words_Valid]? = some Tryz.f121 := Tryz.func121
abbrev F.rational_Add : Nat := 126
theorem fn.rational_Add : P.funcs[F.rational_Add]? = some Tryz.f126 := Tryz.func126
abbrev F.ref33_Check : Nat := 127
theorem fn.ref33_Check : P.funcs[F.ref33_Check]? = some Tryz.f127 := Tryz.func127
abbrev F.ref05_Valid : Nat := 128
theorem fn.ref05_Valid : P.funcs[F.ref05_Valid]? = some Tryz.f128 := Tryz.func128
abbrev F.ref05_Compare : Nat := 136
theorem fn.ref05_Compare : P.funcs[F.ref05_Compare]? = some Tryz.f136 := Tryz.func136
abbrev F.ref34_Check : Nat := 137
theorem fn.ref34_Check : P.funcs[F.ref34_Check]? = some Tryz.f137 := Tryz.func137
abbrev F.law36_pair : Nat := 139
theorem fn.law36_pair : P.funcs[F.law36_pair]? = some Tryz.f139 := Tryz.func139
abbrev F.checkpoint_refuse : Nat := 140
theorem fn.checkpoint_refuse : P.funcs[F.checkpoint_refuse]? = some Tryz.f140 := Tryz.func140
abbrev F.checkpoint_before : Nat := 141
theorem fn.checkpoint_before : P.funcs[F.checkpoint_before]? = some Tryz.f141 := Tryz.func141
abbrev F.checkpoint_ahead : Nat := 142
theorem fn.checkpoint_ahead : P.funcs[F.checkpoint_ahead]? = some Tryz.f142 := Tryz.func142
abbrev F.checkpoint_share : Nat := 143
theorem fn.checkpoint_share : P.funcs[F.checkpoint_share]? = some Tryz.f143 := Tryz.func143
abbrev F.checkpoint_after : Nat := 144
theorem fn.checkpoint_after : P.funcs[F.checkpoint_after]? = some Tryz.f144 := Tryz.func144
abbrev F.ref33_Chance : Nat := 145
theorem fn.ref33_Chance : P.funcs[F.ref33_Chance]? = some Tryz.f145 := Tryz.func145
abbrev F.ref35_list : Nat := 146
theorem fn.ref35_list : P.funcs[F.ref35_list]? = some Tryz.f146 := Tryz.func146
abbrev F.ref01_Neg : Nat := 147
theorem fn.ref01_Neg : P.funcs[F.ref01_Neg]? = some Tryz.f147 := Tryz.func147
abbrev F.rational_Compare : Nat := 150
theorem fn.rational_Compare : P.funcs[F.rational_Compare]? = some Tryz.f150 := Tryz.func150
abbrev F.hmm_Plain : Nat := 160
theorem fn.hmm_Plain : P.funcs[F.hmm_Plain]? = some Tryz.f160 := Tryz.func160
abbrev F.ref35_put : Nat := 164
theorem fn.ref35_put : P.funcs[F.ref35_put]? = some Tryz.f164 := Tryz.func164
abbrev F.ref33_Plain : Nat := 166
theorem fn.ref33_Plain : P.funcs[F.ref33_Plain]? = some Tryz.f166 := Tryz.func166
abbrev F.world_Shares : Nat := 168
theorem fn.world_Shares : P.funcs[F.world_Shares]? = some Tryz.f168 := Tryz.func168
abbrev F.world_Tape_Next : Nat := 169
theorem fn.world_Tape_Next : P.funcs[F.world_Tape_Next]? = some Tryz.f169 := Tryz.func169
abbrev F.world_sameRats : Nat := 170
theorem fn.world_sameRats : P.funcs[F.world_sameRats]? = some Tryz.f170 := Tryz.func170
abbrev F.hmm_Valid : Nat := 171
theorem fn.hmm_Valid : P.funcs[F.hmm_Valid]? = some Tryz.f171 := Tryz.func171
abbrev F.ref01_natural : Nat := 176
theorem fn.ref01_natural : P.funcs[F.ref01_natural]? = some Tryz.f176 := Tryz.func176
abbrev F.ref01_absolute : Nat := 177
theorem fn.ref01_absolute : P.funcs[F.ref01_absolute]? = some Tryz.f177 := Tryz.func177
abbrev F.ref01_Valid : Nat := 178
theorem fn.ref01_Valid : P.funcs[F.ref01_Valid]? = some Tryz.f178 := Tryz.func178
abbrev F.ref01_trim : Nat := 179
theorem fn.ref01_trim : P.funcs[F.ref01_trim]? = some Tryz.f179 := Tryz.func179
abbrev F.ref01_divisor : Nat := 180
theorem fn.ref01_divisor : P.funcs[F.ref01_divisor]? = some Tryz.f180 := Tryz.func180
abbrev F.ref01_divide : Nat := 181
theorem fn.ref01_divide : P.funcs[F.ref01_divide]? = some Tryz.f181 := Tryz.func181
abbrev F.ref01_one : Nat := 182
theorem fn.ref01_one : P.funcs[F.ref01_one]? = some Tryz.f182 := Tryz.func182
abbrev F.ref01_limb : Nat := 183
theorem fn.ref01_limb : P.funcs[F.ref01_limb]? = some Tryz.f183 := Tryz.func183
abbrev F.ref01_sign : Nat := 184
theorem fn.ref01_sign : P.funcs[F.ref01_sign]? = some Tryz.f184 := Tryz.func184
abbrev F.rational_of : Nat := 185
theorem fn.rational_of : P.funcs[F.rational_of]? = some Tryz.f185 := Tryz.func185
abbrev F.rational_limbs_times : Nat := 186
theorem fn.rational_limbs_times : P.funcs[F.rational_limbs_times]? = some Tryz.f186 := Tryz.func186
abbrev F.rational_fraction_rat : Nat := 187
theorem fn.rational_fraction_rat : P.funcs[F.rational_fraction_rat]? = some Tryz.f187 := Tryz.func187
abbrev F.rational_Make : Nat := 191
theorem fn.rational_Make : P.funcs[F.rational_Make]? = some Tryz.f191 := Tryz.func191
abbrev F.rational_fraction_plus : Nat := 193
theorem fn.rational_fraction_plus : P.funcs[F.rational_fraction_plus]? = some Tryz.f193 := Tryz.func193
abbrev F.ref33_Valid : Nat := 194
theorem fn.ref33_Valid : P.funcs[F.ref33_Valid]? = some Tryz.f194 := Tryz.func194
abbrev F.ref05_Alphabet : Nat := 195
theorem fn.ref05_Alphabet : P.funcs[F.ref05_Alphabet]? = some Tryz.f195 := Tryz.func195
abbrev F.ref33_Sum : Nat := 196
theorem fn.ref33_Sum : P.funcs[F.ref33_Sum]? = some Tryz.f196 := Tryz.func196
abbrev F.rational_Valid : Nat := 198
theorem fn.rational_Valid : P.funcs[F.rational_Valid]? = some Tryz.f198 := Tryz.func198
abbrev F.rational_Sub : Nat := 202
theorem fn.rational_Sub : P.funcs[F.rational_Sub]? = some Tryz.f202 := Tryz.func202
abbrev F.slices_Contains_bools_bool : Nat := 207
theorem fn.slices_Contains_bools_bool : P.funcs[F.slices_Contains_bools_bool]? = some Tryz.f207 := Tryz.func207
abbrev F.ref35_Before : Nat := 209
theorem fn.ref35_Before : P.funcs[F.ref35_Before]? = some Tryz.f209 := Tryz.func209
abbrev F.hmm_formed : Nat := 211
theorem fn.hmm_formed : P.funcs[F.hmm_formed]? = some Tryz.f211 := Tryz.func211
abbrev F.hmm_sums : Nat := 212
theorem fn.hmm_sums : P.funcs[F.hmm_sums]? = some Tryz.f212 := Tryz.func212
abbrev F.hmm_order : Nat := 213
theorem fn.hmm_order : P.funcs[F.hmm_order]? = some Tryz.f213 := Tryz.func213
abbrev F.hmm_tied : Nat := 214
theorem fn.hmm_tied : P.funcs[F.hmm_tied]? = some Tryz.f214 := Tryz.func214
abbrev F.rational_one : Nat := 215
theorem fn.rational_one : P.funcs[F.rational_one]? = some Tryz.f215 := Tryz.func215
abbrev F.rational_limbs_at : Nat := 216
theorem fn.rational_limbs_at : P.funcs[F.rational_limbs_at]? = some Tryz.f216 := Tryz.func216
abbrev F.rational_limbs_clean : Nat := 217
theorem fn.rational_limbs_clean : P.funcs[F.rational_limbs_clean]? = some Tryz.f217 := Tryz.func217
abbrev F.slices_Clone_rational_limbs_uint32 : Nat := 218
theorem fn.slices_Clone_rational_limbs_uint32 : P.funcs[F.slices_Clone_rational_limbs_uint32]? = some Tryz.f218 := Tryz.func218
abbrev F.rational_limbs_gcd : Nat := 219
theorem fn.rational_limbs_gcd : P.funcs[F.rational_limbs_gcd]? = some Tryz.f219 := Tryz.func219
abbrev F.rational_limbs_cmp : Nat := 220
theorem fn.rational_limbs_cmp : P.funcs[F.rational_limbs_cmp]? = some Tryz.f220 := Tryz.func220
abbrev F.rational_limbs_over : Nat := 221
theorem fn.rational_limbs_over : P.funcs[F.rational_limbs_over]? = some Tryz.f221 := Tryz.func221
abbrev F.rational_whole : Nat := 223
theorem fn.rational_whole : P.funcs[F.rational_whole]? = some Tryz.f223 := Tryz.func223
abbrev F.rational_limbs_plus : Nat := 224
theorem fn.rational_limbs_plus : P.funcs[F.rational_limbs_plus]? = some Tryz.f224 := Tryz.func224
abbrev F.rational_limbs_minus : Nat := 225
theorem fn.rational_limbs_minus : P.funcs[F.rational_limbs_minus]? = some Tryz.f225 := Tryz.func225
abbrev F.ref33_formed : Nat := 226
theorem fn.ref33_formed : P.funcs[F.ref33_formed]? = some Tryz.f226 := Tryz.func226
abbrev F.ref33_one : Nat := 227
theorem fn.ref33_one : P.funcs[F.ref33_one]? = some Tryz.f227 := Tryz.func227
abbrev F.ref33_circles : Nat := 228
theorem fn.ref33_circles : P.funcs[F.ref33_circles]? = some Tryz.f228 := Tryz.func228
abbrev F.rational_proper : Nat := 229
theorem fn.rational_proper : P.funcs[F.rational_proper]? = some Tryz.f229 := Tryz.func229
abbrev F.rational_fraction_negative : Nat := 232
theorem fn.rational_fraction_negative : P.funcs[F.rational_fraction_negative]? = some Tryz.f232 := Tryz.func232
abbrev F.slices_Index_bools_bool : Nat := 235
theorem fn.slices_Index_bools_bool : P.funcs[F.slices_Index_bools_bool]? = some Tryz.f235 := Tryz.func235
abbrev F.hmm_share : Nat := 238
theorem fn.hmm_share : P.funcs[F.hmm_share]? = some Tryz.f238 := Tryz.func238
abbrev F.hmm_shares : Nat := 239
theorem fn.hmm_shares : P.funcs[F.hmm_shares]? = some Tryz.f239 := Tryz.func239
abbrev F.hmm_whole : Nat := 240
theorem fn.hmm_whole : P.funcs[F.hmm_whole]? = some Tryz.f240 := Tryz.func240
abbrev F.hmm_order_1 : Nat := 241
theorem fn.hmm_order_1 : P.funcs[F.hmm_order_1]? = some Tryz.f241 := Tryz.func241
abbrev F.slices_Reverse_ints_int : Nat := 242
theorem fn.slices_Reverse_ints_int : P.funcs[F.slices_Reverse_ints_int]? = some Tryz.f242 := Tryz.func242
abbrev F.hmm_equal : Nat := 243
theorem fn.hmm_equal : P.funcs[F.hmm_equal]? = some Tryz.f243 := Tryz.func243
abbrev F.rational_limbs_small : Nat := 244
theorem fn.rational_limbs_small : P.funcs[F.rational_limbs_small]? = some Tryz.f244 := Tryz.func244
abbrev F.rational_limbs_length : Nat := 245
theorem fn.rational_limbs_length : P.funcs[F.rational_limbs_length]? = some Tryz.f245 := Tryz.func245
abbrev F.rational_limbs_left : Nat := 246
theorem fn.rational_limbs_left : P.funcs[F.rational_limbs_left]? = some Tryz.f246 := Tryz.func246
abbrev F.rational_limbs_right : Nat := 247
theorem fn.rational_limbs_right : P.funcs[F.rational_limbs_right]? = some Tryz.f247 := Tryz.func247
abbrev F.ref33_chances : Nat := 248
theorem fn.ref33_chances : P.funcs[F.ref33_chances]? = some Tryz.f248 := Tryz.func248
abbrev F.hmm_one : Nat := 249
theorem fn.hmm_one : P.funcs[F.hmm_one]? = some Tryz.f249 := Tryz.func249
abbrev F.slices_ContainsFunc_Rats_Rat : Nat := 250
theorem fn.slices_ContainsFunc_Rats_Rat : P.funcs[F.slices_ContainsFunc_Rats_Rat]? = some Tryz.f250 := Tryz.func250
abbrev F.hmm_shares_1 : Nat := 251
theorem fn.hmm_shares_1 : P.funcs[F.hmm_shares_1]? = some Tryz.f251 := Tryz.func251
abbrev F.slices_Concat_Rats_Rat : Nat := 252
theorem fn.slices_Concat_Rats_Rat : P.funcs[F.slices_Concat_Rats_Rat]? = some Tryz.f252 := Tryz.func252
abbrev F.slices_EqualFunc_Rats_Rats_Rat_Rat : Nat := 253
theorem fn.slices_EqualFunc_Rats_Rats_Rat_Rat : P.funcs[F.slices_EqualFunc_Rats_Rats_Rat_Rat]? = some Tryz.f253 := Tryz.func253
abbrev F.hmm_equal_1 : Nat := 254
theorem fn.hmm_equal_1 : P.funcs[F.hmm_equal_1]? = some Tryz.f254 := Tryz.func254
abbrev F.math_bits_LeadingZeros32 : Nat := 255
theorem fn.math_bits_LeadingZeros32 : P.funcs[F.math_bits_LeadingZeros32]? = some Tryz.f255 := Tryz.func255
abbrev F.slices_IndexFunc_Rats_Rat : Nat := 256
theorem fn.slices_IndexFunc_Rats_Rat : P.funcs[F.slices_IndexFunc_Rats_Rat]? = some Tryz.f256 := Tryz.func256
abbrev F.slices_Grow_Rats_Rat : Nat := 257
theorem fn.slices_Grow_Rats_Rat : P.funcs[F.slices_Grow_Rats_Rat]? = some Tryz.f257 := Tryz.func257
abbrev F.math_bits_Len32 : Nat := 258
theorem fn.math_bits_Len32 : P.funcs[F.math_bits_Len32]? = some Tryz.f258 := Tryz.func258
abbrev T.i64 : Nat := 2
theorem ce.i64 : CellT P 2 := ⟨by kernel_rfl, by kernel_rfl⟩
theorem it.i64 : IntT P 2 .i64 := ⟨by kernel_rfl⟩
theorem z.i64 : ZeroT P 2 [.d (.sc (.int .i64 0))] := ⟨by kernel_rfl⟩
theorem sz.i64 : (P.info? 2).map (·.size) = some 1 := by kernel_rfl
abbrev T.int : Nat := 3
theorem ce.int : CellT P 3 := ⟨by kernel_rfl, by kernel_rfl⟩
theorem it.int : IntT P 3 .i64 := ⟨by kernel_rfl⟩
theorem z.int : ZeroT P 3 [.d (.sc (.int .i64 0))] := ⟨by kernel_rfl⟩
theorem sz.int : (P.info? 3).map (·.size) = some 1 := by kernel_rfl
abbrev T.bool : Nat := 4
theorem ce.bool : CellT P 4 := ⟨by kernel_rfl, by kernel_rfl⟩
theorem bt.bool : BoolT P 4 := ⟨by kernel_rfl⟩
theorem z.bool : ZeroT P 4 [.d (.sc (.bool false))] := ⟨by kernel_rfl⟩
theorem sz.bool : (P.info? 4).map (·.size) = some 1 := by kernel_rfl
abbrev T.u8 : Nat := 5
theorem ce.u8 : CellT P 5 := ⟨by kernel_rfl, by kernel_rfl⟩
theorem it.u8 : IntT P 5 .u8 := ⟨by kernel_rfl⟩
theorem z.u8 : ZeroT P 5 [.d (.sc (.int .u8 0))] := ⟨by kernel_rfl⟩
theorem sz.u8 : (P.info? 5).map (·.size) = some 1 := by kernel_rfl
abbrev T.ints : Nat := 22
theorem sl.ints : SliceT P 22 3 1 8 := ⟨by kernel_rfl, by kernel_rfl, by decide⟩
theorem ce.ints : CellT P 22 := ⟨by kernel_rfl, by kernel_rfl⟩
theorem z.ints : ZeroT P 22 [.mt] := ⟨by kernel_rfl⟩
theorem sz.ints : (P.info? 22).map (·.size) = some 1 := by kernel_rfl
abbrev T.Chain : Nat := 24
theorem ag.Chain : AggT P 24 3 := ⟨by kernel_rfl, by kernel_rfl⟩
theorem fd.Chain_0 : FieldT P 24 0 0 := ⟨by kernel_rfl⟩
theorem fd.Chain_1 : FieldT P 24 1 1 := ⟨by kernel_rfl⟩
theorem fd.Chain_2 : FieldT P 24 2 2 := ⟨by kernel_rfl⟩
theorem z.Chain : ZeroT P 24 [.d (.sc (.int .i64 0)), .d (.sc (.int .i64 0)), .mt] := ⟨by kernel_rfl⟩
theorem pl.Chain : PlacesT P 24 [(0, 1), (1, 1), (2, 1)] := ⟨by kernel_rfl⟩
theorem sz.Chain : (P.info? 24).map (·.size) = some 3 := by kernel_rfl
abbrev T.u32s : Nat := 25
theorem sl.u32s : SliceT P 25 172 1 4 := ⟨by kernel_rfl, by kernel_rfl, by decide⟩
theorem ce.u32s : CellT P 25 := ⟨by kernel_rfl, by kernel_rfl⟩
theorem z.u32s : ZeroT P 25 [.mt] := ⟨by kernel_rfl⟩
theorem sz.u32s : (P.info? 25).map (·.size) = some 1 := by kernel_rfl
abbrev T.Rat : Nat := 27
theorem ag.Rat : AggT P 27 3 := ⟨by kernel_rfl, by kernel_rfl⟩
theorem fd.Rat_0 : FieldT P 27 0 0 := ⟨by kernel_rfl⟩
theorem fd.Rat_1 : FieldT P 27 1 1 := ⟨by kernel_rfl⟩
theorem fd.Rat_2 : FieldT P 27 2 2 := ⟨by kernel_rfl⟩
theorem z.Rat : ZeroT P 27 [.d (.sc (.bool false)), .mt, .mt] := ⟨by kernel_rfl⟩
theorem pl.Rat : PlacesT P 27 [(0, 1), (1, 1), (2, 1)] := ⟨by kernel_rfl⟩
theorem sz.Rat : (P.info? 27).map (·.size) = some 3 := by kernel_rfl
abbrev T.Rats : Nat := 28
theorem sl.Rats : SliceT P 28 27 3 56 := ⟨by kernel_rfl, by kernel_rfl, by decide⟩
theorem ce.Rats : CellT P 28 := ⟨by kernel_rfl, by kernel_rfl⟩
theorem z.Rats : ZeroT P 28 [.mt] := ⟨by kernel_rfl⟩
theorem sz.Rats : (P.info? 28).map (·.size) = some 1 := by kernel_rfl
abbrev T.Ratss : Nat := 29
theorem sl.Ratss : SliceT P 29 28 1 24 := ⟨by kernel_rfl, by kernel_rfl, by decide⟩
theorem ce.Ratss : CellT P 29 := ⟨by kernel_rfl, by kernel_rfl⟩
theorem z.Ratss : ZeroT P 29 [.mt] := ⟨by kernel_rfl⟩
theorem sz.Ratss : (P.info? 29).map (·.size) = some 1 := by kernel_rfl
abbrev T.bools : Nat := 30
theorem sl.bools : SliceT P 30 4 1 1 := ⟨by kernel_rfl, by kernel_rfl, by decide⟩
theorem ce.bools : CellT P 30 := ⟨by kernel_rfl, by kernel_rfl⟩
theorem z.bools : ZeroT P 30 [.mt] := ⟨by kernel_rfl⟩
theorem sz.bools : (P.info? 30).map (·.size) = some 1 := by kernel_rfl
abbrev T.Hidden : Nat := 32
theorem ag.Hidden : AggT P 32 11 := ⟨by kernel_rfl, by kernel_rfl⟩
theorem fd.Hidden_0 : FieldT P 32 0 0 := ⟨by kernel_rfl⟩
theorem fd.Hidden_1 : FieldT P 32 1 1 := ⟨by kernel_rfl⟩
theorem fd.Hidden_2 : FieldT P 32 2 2 := ⟨by kernel_rfl⟩
theorem fd.Hidden_3 : FieldT P 32 3 5 := ⟨by kernel_rfl⟩
theorem fd.Hidden_4 : FieldT P 32 4 6 := ⟨by kernel_rfl⟩
theorem fd.Hidden_5 : FieldT P 32 5 7 := ⟨by kernel_rfl⟩
theorem fd.Hidden_6 : FieldT P 32 6 8 := ⟨by kernel_rfl⟩
theorem fd.Hidden_7 : FieldT P 32 7 9 := ⟨by kernel_rfl⟩
theorem fd.Hidden_8 : FieldT P 32 8 10 := ⟨by kernel_rfl⟩
theorem z.Hidden : ZeroT P 32 [.d (.sc (.int .i64 0)), .d (.sc (.int .i64 0)), .d (.sc (.bool false)), .mt, .mt, .mt, .mt, .mt, .mt, .mt, .mt] := ⟨by kernel_rfl⟩
theorem pl.Hidden : PlacesT P 32 [(0, 1), (1, 1), (2, 3), (5, 1), (6, 1), (7, 1), (8, 1), (9, 1), (10, 1)] := ⟨by kernel_rfl⟩
theorem sz.Hidden : (P.info? 32).map (·.size) = some 11 := by kernel_rfl
abbrev T.intss : Nat := 38
theorem sl.intss : SliceT P 38 22 1 24 := ⟨by kernel_rfl, by kernel_rfl, by decide⟩
theorem ce.intss : CellT P 38 := ⟨by kernel_rfl, by kernel_rfl⟩
theorem z.intss : ZeroT P 38 [.mt] := ⟨by kernel_rfl⟩
theorem sz.intss : (P.info? 38).map (·.size) = some 1 := by kernel_rfl
abbrev T.uint : Nat := 40
theorem ce.uint : CellT P 40 := ⟨by kernel_rfl, by kernel_rfl⟩
theorem it.uint : IntT P 40 .u64 := ⟨by kernel_rfl⟩
theorem z.uint : ZeroT P 40 [.d (.sc (.int .u64 0))] := ⟨by kernel_rfl⟩
theorem sz.uint : (P.info? 40).map (·.size) = some 1 := by kernel_rfl
abbrev T.Tape : Nat := 161
theorem ag.Tape : AggT P 161 2 := ⟨by kernel_rfl, by kernel_rfl⟩
theorem fd.Tape_0 : FieldT P 161 0 0 := ⟨by kernel_rfl⟩
theorem fd.Tape_1 : FieldT P 161 1 1 := ⟨by kernel_rfl⟩
theorem z.Tape : ZeroT P 161 [.mt, .d (.sc (.int .i64 0))] := ⟨by kernel_rfl⟩
theorem pl.Tape : PlacesT P 161 [(0, 1), (1, 1)] := ⟨by kernel_rfl⟩
theorem sz.Tape : (P.info? 161).map (·.size) = some 2 := by kernel_rfl
abbrev T.u64 : Nat := 170
theorem ce.u64 : CellT P 170 := ⟨by kernel_rfl, by kernel_rfl⟩
theorem it.u64 : IntT P 170 .u64 := ⟨by kernel_rfl⟩
theorem z.u64 : ZeroT P 170 [.d (.sc (.int .u64 0))] := ⟨by kernel_rfl⟩
theorem sz.u64 : (P.info? 170).map (·.size) = some 1 := by kernel_rfl
abbrev T.u32 : Nat := 172
theorem ce.u32 : CellT P 172 := ⟨by kernel_rfl, by kernel_rfl⟩
theorem it.u32 : IntT P 172 .u32 := ⟨by kernel_rfl⟩
theorem z.u32 : ZeroT P 172 [.d (.sc (.int .u32 0))] := ⟨by kernel_rfl⟩
theorem sz.u32 : (P.info? 172).map (·.size) = some 1 := by kernel_rfl
abbrev T.limbs : Nat := 178
theorem sl.limbs : SliceT P 178 172 1 4 := ⟨by kernel_rfl, by kernel_rfl, by decide⟩
theorem ce.limbs : CellT P 178 := ⟨by kernel_rfl, by kernel_rfl⟩
theorem z.limbs : ZeroT P 178 [.mt] := ⟨by kernel_rfl⟩
theorem sz.limbs : (P.info? 178).map (·.size) = some 1 := by kernel_rfl
abbrev T.fraction : Nat := 180
theorem ag.fraction : AggT P 180 3 := ⟨by kernel_rfl, by kernel_rfl⟩
theorem fd.fraction_0 : FieldT P 180 0 0 := ⟨by kernel_rfl⟩
theorem fd.fraction_1 : FieldT P 180 1 1 := ⟨by kernel_rfl⟩
theorem fd.fraction_2 : FieldT P 180 2 2 := ⟨by kernel_rfl⟩
theorem z.fraction : ZeroT P 180 [.d (.sc (.bool false)), .mt, .mt] := ⟨by kernel_rfl⟩
theorem pl.fraction : PlacesT P 180 [(0, 1), (1, 1), (2, 1)] := ⟨by kernel_rfl⟩
theorem sz.fraction : (P.info? 180).map (·.size) = some 3 := by kernel_rfl
abbrev T.Wayss : Nat := 100
theorem sl.Wayss : SliceT P 100 102 1 24 := ⟨by kernel_rfl, by kernel_rfl, by decide⟩
theorem ce.Wayss : CellT P 100 := ⟨by kernel_rfl, by kernel_rfl⟩
theorem z.Wayss : ZeroT P 100 [.mt] := ⟨by kernel_rfl⟩
theorem sz.Wayss : (P.info? 100).map (·.size) = some 1 := by kernel_rfl
abbrev T.Ways : Nat := 102
theorem sl.Ways : SliceT P 102 104 4 80 := ⟨by kernel_rfl, by kernel_rfl, by decide⟩
theorem ce.Ways : CellT P 102 := ⟨by kernel_rfl, by kernel_rfl⟩
theorem z.Ways : ZeroT P 102 [.mt] := ⟨by kernel_rfl⟩
theorem sz.Ways : (P.info? 102).map (·.size) = some 1 := by kernel_rfl
abbrev T.Way : Nat := 104
theorem ag.Way : AggT P 104 4 := ⟨by kernel_rfl, by kernel_rfl⟩
theorem fd.Way_0 : FieldT P 104 0 0 := ⟨by kernel_rfl⟩
theorem fd.Way_1 : FieldT P 104 1 1 := ⟨by kernel_rfl⟩
theorem z.Way : ZeroT P 104 [.mt, .d (.sc (.bool false)), .mt, .mt] := ⟨by kernel_rfl⟩
theorem pl.Way : PlacesT P 104 [(0, 1), (1, 3)] := ⟨by kernel_rfl⟩
theorem sz.Way : (P.info? 104).map (·.size) = some 4 := by kernel_rfl
abbrev T.fn129 : Nat := 129
theorem ce.fn129 : CellT P 129 := ⟨by kernel_rfl, by kernel_rfl⟩
theorem z.fn129 : ZeroT P 129 [.d (.sc .nilFunc)] := ⟨by kernel_rfl⟩
theorem sz.fn129 : (P.info? 129).map (·.size) = some 1 := by kernel_rfl
theorem st.str : P.underlying 9 = some .string := by kernel_rfl
end Go.Proofs.YtcebciggodhmcaaGreat
