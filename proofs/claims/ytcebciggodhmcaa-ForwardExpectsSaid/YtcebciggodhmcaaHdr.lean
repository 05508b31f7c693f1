/-
  Names for the functions of this seat, and facts on its types (printed by hdr.py).
-/
import Derived.Test.YtcebciggodhmcaaChecked
import Derived.KernelRfl
import Derived.Test.YtcebciggodhmcaaNumb
set_option linter.unusedVariables false
set_option linter.unusedSimpArgs false
namespace Go.Proofs.Ytcebciggodhmcaa
open Go Go.AL
noncomputable abbrev P : Program := Try.prog
theorem order_free : P.follows .mixedOrders = true := by kernel_rfl
abbrev F.law40_SampleReadsNoMore : Nat := 3
theorem fn.law40_SampleReadsNoMore : P.funcs[F.law40_SampleReadsNoMore]? = some Try.f3 := Try.func3
abbrev F.law36_CheckpointStores : Nat := 4
theorem fn.law36_CheckpointStores : P.funcs[F.law36_CheckpointStores]? = some Try.f4 := Try.func4
abbrev F.law34_ForwardExpects : Nat := 5
theorem fn.law34_ForwardExpects : P.funcs[F.law34_ForwardExpects]? = some Try.f5 := Try.func5
abbrev F.world_Chain_Hidden : Nat := 6
theorem fn.world_Chain_Hidden : P.funcs[F.world_Chain_Hidden]? = some Try.f6 := Try.func6
abbrev F.law40_coins : Nat := 7
theorem fn.law40_coins : P.funcs[F.law40_coins]? = some Try.f7 := Try.func7
abbrev F.sample_Draw : Nat := 8
theorem fn.sample_Draw : P.funcs[F.sample_Draw]? = some Try.f8 := Try.func8
abbrev F.law40_known : Nat := 9
theorem fn.law40_known : P.funcs[F.law40_known]? = some Try.f9 := Try.func9
abbrev F.ref40_Same : Nat := 10
theorem fn.ref40_Same : P.funcs[F.ref40_Same]? = some Try.f10 := Try.func10
abbrev F.world_Within : Nat := 11
theorem fn.world_Within : P.funcs[F.world_Within]? = some Try.f11 := Try.func11
abbrev F.checkpoint_Stored : Nat := 12
theorem fn.checkpoint_Stored : P.funcs[F.checkpoint_Stored]? = some Try.f12 := Try.func12
abbrev F.law36_known : Nat := 13
theorem fn.law36_known : P.funcs[F.law36_known]? = some Try.f13 := Try.func13
abbrev F.world_Word : Nat := 14
theorem fn.world_Word : P.funcs[F.world_Word]? = some Try.f14 := Try.func14
abbrev F.forward_Posterior : Nat := 15
theorem fn.forward_Posterior : P.funcs[F.forward_Posterior]? = some Try.f15 := Try.func15
abbrev F.forward_Expected : Nat := 16
theorem fn.forward_Expected : P.funcs[F.forward_Expected]? = some Try.f16 := Try.func16
abbrev F.law34_known : Nat := 17
theorem fn.law34_known : P.funcs[F.law34_known]? = some Try.f17 := Try.func17
abbrev F.ref33_Whole : Nat := 18
theorem fn.ref33_Whole : P.funcs[F.ref33_Whole]? = some Try.f18 := Try.func18
abbrev F.ref01_Compare : Nat := 19
theorem fn.ref01_Compare : P.funcs[F.ref01_Compare]? = some Try.f19 := Try.func19
abbrev F.ref33_Sum : Nat := 20
theorem fn.ref33_Sum : P.funcs[F.ref33_Sum]? = some Try.f20 := Try.func20
abbrev F.ref01_Add : Nat := 21
theorem fn.ref01_Add : P.funcs[F.ref01_Add]? = some Try.f21 := Try.func21
abbrev F.world_Chain_made : Nat := 22
theorem fn.world_Chain_made : P.funcs[F.world_Chain_made]? = some Try.f22 := Try.func22
abbrev F.sample_refuse : Nat := 23
theorem fn.sample_refuse : P.funcs[F.sample_refuse]? = some Try.f23 := Try.func23
abbrev F.slices_ContainsFunc_ints_int : Nat := 24
theorem fn.slices_ContainsFunc_ints_int : P.funcs[F.slices_ContainsFunc_ints_int]? = some Try.f24 := Try.func24
abbrev F.sample_Draw_1 : Nat := 25
theorem fn.sample_Draw_1 : P.funcs[F.sample_Draw_1]? = some Try.f25 := Try.func25
abbrev F.sample_draw : Nat := 26
theorem fn.sample_draw : P.funcs[F.sample_draw]? = some Try.f26 := Try.func26
abbrev F.law40_coin : Nat := 27
theorem fn.law40_coin : P.funcs[F.law40_coin]? = some Try.f27 := Try.func27
abbrev F.law40_same : Nat := 28
theorem fn.law40_same : P.funcs[F.law40_same]? = some Try.f28 := Try.func28
abbrev F.ref05_Compare : Nat := 29
theorem fn.ref05_Compare : P.funcs[F.ref05_Compare]? = some Try.f29 := Try.func29
abbrev F.checkpoint_Best : Nat := 30
theorem fn.checkpoint_Best : P.funcs[F.checkpoint_Best]? = some Try.f30 := Try.func30
abbrev F.law36_pair : Nat := 31
theorem fn.law36_pair : P.funcs[F.law36_pair]? = some Try.f31 := Try.func31
abbrev F.law36_same : Nat := 32
theorem fn.law36_same : P.funcs[F.law36_same]? = some Try.f32 := Try.func32
abbrev F.forward_refuse : Nat := 33
theorem fn.forward_refuse : P.funcs[F.forward_refuse]? = some Try.f33 := Try.func33
abbrev F.forward_likelihood : Nat := 34
theorem fn.forward_likelihood : P.funcs[F.forward_likelihood]? = some Try.f34 := Try.func34
abbrev F.rational_Sign : Nat := 35
theorem fn.rational_Sign : P.funcs[F.rational_Sign]? = some Try.f35 := Try.func35
abbrev F.forward_forward : Nat := 36
theorem fn.forward_forward : P.funcs[F.forward_forward]? = some Try.f36 := Try.func36
abbrev F.forward_backward : Nat := 37
theorem fn.forward_backward : P.funcs[F.forward_backward]? = some Try.f37 := Try.func37
abbrev F.rational_Div : Nat := 38
theorem fn.rational_Div : P.funcs[F.rational_Div]? = some Try.f38 := Try.func38
abbrev F.rational_Mul : Nat := 39
theorem fn.rational_Mul : P.funcs[F.rational_Mul]? = some Try.f39 := Try.func39
abbrev F.forward_zeros : Nat := 40
theorem fn.forward_zeros : P.funcs[F.forward_zeros]? = some Try.f40 := Try.func40
abbrev F.rational_Add : Nat := 41
theorem fn.rational_Add : P.funcs[F.rational_Add]? = some Try.f41 := Try.func41
abbrev F.ref01_Make : Nat := 42
theorem fn.ref01_Make : P.funcs[F.ref01_Make]? = some Try.f42 := Try.func42
abbrev F.forward_Likelihood : Nat := 43
theorem fn.forward_Likelihood : P.funcs[F.forward_Likelihood]? = some Try.f43 := Try.func43
abbrev F.ref01_Sign : Nat := 44
theorem fn.ref01_Sign : P.funcs[F.ref01_Sign]? = some Try.f44 := Try.func44
abbrev F.ref01_Sub : Nat := 45
theorem fn.ref01_Sub : P.funcs[F.ref01_Sub]? = some Try.f45 := Try.func45
abbrev F.ref01_Take : Nat := 46
theorem fn.ref01_Take : P.funcs[F.ref01_Take]? = some Try.f46 := Try.func46
abbrev F.ref01_times : Nat := 47
theorem fn.ref01_times : P.funcs[F.ref01_times]? = some Try.f47 := Try.func47
abbrev F.ref01_den : Nat := 48
theorem fn.ref01_den : P.funcs[F.ref01_den]? = some Try.f48 := Try.func48
abbrev F.ref01_over : Nat := 49
theorem fn.ref01_over : P.funcs[F.ref01_over]? = some Try.f49 := Try.func49
abbrev F.ref01_plus : Nat := 50
theorem fn.ref01_plus : P.funcs[F.ref01_plus]? = some Try.f50 := Try.func50
abbrev F.ref01_compare : Nat := 51
theorem fn.ref01_compare : P.funcs[F.ref01_compare]? = some Try.f51 := Try.func51
abbrev F.ref01_minus : Nat := 52
theorem fn.ref01_minus : P.funcs[F.ref01_minus]? = some Try.f52 := Try.func52
abbrev F.world_Shares : Nat := 53
theorem fn.world_Shares : P.funcs[F.world_Shares]? = some Try.f53 := Try.func53
abbrev F.world_Tape_Next : Nat := 54
theorem fn.world_Tape_Next : P.funcs[F.world_Tape_Next]? = some Try.f54 := Try.func54
abbrev F.world_sameRats : Nat := 55
theorem fn.world_sameRats : P.funcs[F.world_sameRats]? = some Try.f55 := Try.func55
abbrev F.hmm_Valid : Nat := 56
theorem fn.hmm_Valid : P.funcs[F.hmm_Valid]? = some Try.f56 := Try.func56
abbrev F.hmm_Plain : Nat := 57
theorem fn.hmm_Plain : P.funcs[F.hmm_Plain]? = some Try.f57 := Try.func57
abbrev F.slices_IndexFunc_ints_int : Nat := 58
theorem fn.slices_IndexFunc_ints_int : P.funcs[F.slices_IndexFunc_ints_int]? = some Try.f58 := Try.func58
abbrev F.sample_one : Nat := 59
theorem fn.sample_one : P.funcs[F.sample_one]? = some Try.f59 := Try.func59
abbrev F.sample_reader_choose : Nat := 60
theorem fn.sample_reader_choose : P.funcs[F.sample_reader_choose]? = some Try.f60 := Try.func60
abbrev F.sample_next : Nat := 61
theorem fn.sample_next : P.funcs[F.sample_next]? = some Try.f61 := Try.func61
abbrev F.checkpoint_refuse : Nat := 62
theorem fn.checkpoint_refuse : P.funcs[F.checkpoint_refuse]? = some Try.f62 := Try.func62
abbrev F.fresh_Rat : Nat := 63
theorem fn.fresh_Rat : P.funcs[F.fresh_Rat]? = some Try.f63 := Try.func63
abbrev F.checkpoint_before : Nat := 64
theorem fn.checkpoint_before : P.funcs[F.checkpoint_before]? = some Try.f64 := Try.func64
abbrev F.checkpoint_ahead : Nat := 65
theorem fn.checkpoint_ahead : P.funcs[F.checkpoint_ahead]? = some Try.f65 := Try.func65
abbrev F.words_Valid : Nat := 66
theorem fn.words_Valid : P.funcs[F.words_Valid]? = some Try.f66 := Try.func66
abbrev F.rational_of : Nat := 67
theorem fn.rational_of : P.funcs[F.rational_of]? = some Try.f67 := Try.func67
abbrev F.rational_limbs_times : Nat := 68
theorem fn.rational_limbs_times : P.funcs[F.rational_limbs_times]? = some Try.f68 := Try.func68
abbrev F.rational_fraction_rat : Nat := 69
theorem fn.rational_fraction_rat : P.funcs[F.rational_fraction_rat]? = some Try.f69 := Try.func69
abbrev F.rational_fraction_plus : Nat := 70
theorem fn.rational_fraction_plus : P.funcs[F.rational_fraction_plus]? = some Try.f70 := Try.func70
abbrev F.ref01_natural : Nat := 71
theorem fn.ref01_natural : P.funcs[F.ref01_natural]? = some Try.f71 := Try.func71
abbrev F.ref01_absolute : Nat := 72
theorem fn.ref01_absolute : P.funcs[F.ref01_absolute]? = some Try.f72 := Try.func72
abbrev F.ref01_Neg : Nat := 73
theorem fn.ref01_Neg : P.funcs[F.ref01_Neg]? = some Try.f73 := Try.func73
abbrev F.ref01_Valid : Nat := 74
theorem fn.ref01_Valid : P.funcs[F.ref01_Valid]? = some Try.f74 := Try.func74
abbrev F.ref01_trim : Nat := 75
theorem fn.ref01_trim : P.funcs[F.ref01_trim]? = some Try.f75 := Try.func75
abbrev F.ref01_divisor : Nat := 76
theorem fn.ref01_divisor : P.funcs[F.ref01_divisor]? = some Try.f76 := Try.func76
abbrev F.ref01_divide : Nat := 77
theorem fn.ref01_divide : P.funcs[F.ref01_divide]? = some Try.f77 := Try.func77
abbrev F.ref01_one : Nat := 78
theorem fn.ref01_one : P.funcs[F.ref01_one]? = some Try.f78 := Try.func78
abbrev F.ref01_limb : Nat := 79
theorem fn.ref01_limb : P.funcs[F.ref01_limb]? = some Try.f79 := Try.func79
abbrev F.ref01_sign : Nat := 80
theorem fn.ref01_sign : P.funcs[F.ref01_sign]? = some Try.f80 := Try.func80
abbrev F.hmm_formed : Nat := 81
theorem fn.hmm_formed : P.funcs[F.hmm_formed]? = some Try.f81 := Try.func81
abbrev F.hmm_sums : Nat := 82
theorem fn.hmm_sums : P.funcs[F.hmm_sums]? = some Try.f82 := Try.func82
abbrev F.hmm_order : Nat := 83
theorem fn.hmm_order : P.funcs[F.hmm_order]? = some Try.f83 := Try.func83
abbrev F.hmm_tied : Nat := 84
theorem fn.hmm_tied : P.funcs[F.hmm_tied]? = some Try.f84 := Try.func84
abbrev F.slices_Contains_bools_bool : Nat := 85
theorem fn.slices_Contains_bools_bool : P.funcs[F.slices_Contains_bools_bool]? = some Try.f85 := Try.func85
abbrev F.rational_Make : Nat := 86
theorem fn.rational_Make : P.funcs[F.rational_Make]? = some Try.f86 := Try.func86
abbrev F.sample_span_part : Nat := 87
theorem fn.sample_span_part : P.funcs[F.sample_span_part]? = some Try.f87 := Try.func87
abbrev F.sample_span_inside : Nat := 88
theorem fn.sample_span_inside : P.funcs[F.sample_span_inside]? = some Try.f88 := Try.func88
abbrev F.slices_Clone_Rats_Rat : Nat := 89
theorem fn.slices_Clone_Rats_Rat : P.funcs[F.slices_Clone_Rats_Rat]? = some Try.f89 := Try.func89
abbrev F.slices_Clone_uint32s_uint32 : Nat := 90
theorem fn.slices_Clone_uint32s_uint32 : P.funcs[F.slices_Clone_uint32s_uint32]? = some Try.f90 := Try.func90
abbrev F.rational_Compare : Nat := 91
theorem fn.rational_Compare : P.funcs[F.rational_Compare]? = some Try.f91 := Try.func91
abbrev F.rational_Valid : Nat := 92
theorem fn.rational_Valid : P.funcs[F.rational_Valid]? = some Try.f92 := Try.func92
abbrev F.rational_one : Nat := 93
theorem fn.rational_one : P.funcs[F.rational_one]? = some Try.f93 := Try.func93
abbrev F.rational_limbs_at : Nat := 94
theorem fn.rational_limbs_at : P.funcs[F.rational_limbs_at]? = some Try.f94 := Try.func94
abbrev F.rational_limbs_clean : Nat := 95
theorem fn.rational_limbs_clean : P.funcs[F.rational_limbs_clean]? = some Try.f95 := Try.func95
abbrev F.slices_Clone_rational_limbs_uint32 : Nat := 96
theorem fn.slices_Clone_rational_limbs_uint32 : P.funcs[F.slices_Clone_rational_limbs_uint32]? = some Try.f96 := Try.func96
abbrev F.rational_limbs_gcd : Nat := 97
theorem fn.rational_limbs_gcd : P.funcs[F.rational_limbs_gcd]? = some Try.f97 := Try.func97
abbrev F.rational_limbs_cmp : Nat := 98
theorem fn.rational_limbs_cmp : P.funcs[F.rational_limbs_cmp]? = some Try.f98 := Try.func98
abbrev F.rational_limbs_over : Nat := 99
theorem fn.rational_limbs_over : P.funcs[F.rational_limbs_over]? = some Try.f99 := Try.func99
abbrev F.rational_limbs_plus : Nat := 100
theorem fn.rational_limbs_plus : P.funcs[F.rational_limbs_plus]? = some Try.f100 := Try.func100
abbrev F.rational_limbs_minus : Nat := 101
theorem fn.rational_limbs_minus : P.funcs[F.rational_limbs_minus]? = some Try.f101 := Try.func101
abbrev F.hmm_share : Nat := 102
theorem fn.hmm_share : P.funcs[F.hmm_share]? = some Try.f102 := Try.func102
abbrev F.hmm_shares : Nat := 103
theorem fn.hmm_shares : P.funcs[F.hmm_shares]? = some Try.f103 := Try.func103
abbrev F.hmm_whole : Nat := 104
theorem fn.hmm_whole : P.funcs[F.hmm_whole]? = some Try.f104 := Try.func104
abbrev F.hmm_order_1 : Nat := 105
theorem fn.hmm_order_1 : P.funcs[F.hmm_order_1]? = some Try.f105 := Try.func105
abbrev F.slices_Reverse_ints_int : Nat := 106
theorem fn.slices_Reverse_ints_int : P.funcs[F.slices_Reverse_ints_int]? = some Try.f106 := Try.func106
abbrev F.hmm_equal : Nat := 107
theorem fn.hmm_equal : P.funcs[F.hmm_equal]? = some Try.f107 := Try.func107
abbrev F.slices_Index_bools_bool : Nat := 108
theorem fn.slices_Index_bools_bool : P.funcs[F.slices_Index_bools_bool]? = some Try.f108 := Try.func108
abbrev F.rational_whole : Nat := 109
theorem fn.rational_whole : P.funcs[F.rational_whole]? = some Try.f109 := Try.func109
abbrev F.rational_Sub : Nat := 110
theorem fn.rational_Sub : P.funcs[F.rational_Sub]? = some Try.f110 := Try.func110
abbrev F.rational_proper : Nat := 111
theorem fn.rational_proper : P.funcs[F.rational_proper]? = some Try.f111 := Try.func111
abbrev F.rational_limbs_small : Nat := 112
theorem fn.rational_limbs_small : P.funcs[F.rational_limbs_small]? = some Try.f112 := Try.func112
abbrev F.rational_limbs_length : Nat := 113
theorem fn.rational_limbs_length : P.funcs[F.rational_limbs_length]? = some Try.f113 := Try.func113
abbrev F.rational_limbs_left : Nat := 114
theorem fn.rational_limbs_left : P.funcs[F.rational_limbs_left]? = some Try.f114 := Try.func114
abbrev F.rational_limbs_right : Nat := 115
theorem fn.rational_limbs_right : P.funcs[F.rational_limbs_right]? = some Try.f115 := Try.func115
abbrev F.hmm_one : Nat := 116
theorem fn.hmm_one : P.funcs[F.hmm_one]? = some Try.f116 := Try.func116
abbrev F.slices_ContainsFunc_Rats_Rat : Nat := 117
theorem fn.slices_ContainsFunc_Rats_Rat : P.funcs[F.slices_ContainsFunc_Rats_Rat]? = some Try.f117 := Try.func117
abbrev F.hmm_shares_1 : Nat := 118
theorem fn.hmm_shares_1 : P.funcs[F.hmm_shares_1]? = some Try.f118 := Try.func118
abbrev F.slices_Concat_Rats_Rat : Nat := 119
theorem fn.slices_Concat_Rats_Rat : P.funcs[F.slices_Concat_Rats_Rat]? = some Try.f119 := Try.func119
abbrev F.slices_EqualFunc_Rats_Rats_Rat_Rat : Nat := 120
theorem fn.slices_EqualFunc_Rats_Rats_Rat_Rat : P.funcs[F.slices_EqualFunc_Rats_Rats_Rat_Rat]? = some Try.f120 := Try.func120
abbrev F.hmm_equal_1 : Nat := 121
theorem fn.hmm_equal_1 : P.funcs[F.hmm_equal_1]? = some Try.f121 := Try.func121
abbrev F.rational_fraction_negative : Nat := 122
theorem fn.rational_fraction_negative : P.funcs[F.rational_fraction_negative]? = some Try.f122 := Try.func122
abbrev F.math_bits_LeadingZeros32 : Nat := 123
theorem fn.math_bits_LeadingZeros32 : P.funcs[F.math_bits_LeadingZeros32]? = some Try.f123 := Try.func123
abbrev F.slices_IndexFunc_Rats_Rat : Nat := 124
theorem fn.slices_IndexFunc_Rats_Rat : P.funcs[F.slices_IndexFunc_Rats_Rat]? = some Try.f124 := Try.func124
abbrev F.slices_Grow_Rats_Rat : Nat := 125
theorem fn.slices_Grow_Rats_Rat : P.funcs[F.slices_Grow_Rats_Rat]? = some Try.f125 := Try.func125
abbrev F.math_bits_Len32 : Nat := 126
theorem fn.math_bits_Len32 : P.funcs[F.math_bits_Len32]? = some Try.f126 := Try.func126
abbrev F.world_Tape_More : Nat := 142
theorem fn.world_Tape_More : P.funcs[F.world_Tape_More]? = some Try.f142 := Try.func142
abbrev F.rational_limbs_digits : Nat := 143
theorem fn.rational_limbs_digits : P.funcs[F.rational_limbs_digits]? = some Try.f143 := Try.func143
abbrev T.i64 : Nat := 2
theorem ce.i64 : CellT P 2 := ⟨by kernel_rfl, by kernel_rfl⟩
theorem it.i64 : IntT P 2 .i64 := ⟨by kernel_rfl⟩
theorem z.i64 : ZeroT P 2 [.d (.sc (.int .i64 0))] := ⟨by kernel_rfl⟩
theorem sz.i64 : (P.info? 2).map (·.size) = some 1 := by kernel_rfl
abbrev T.int : Nat := 3
theorem ce.int : CellT P 3 := ⟨by kernel_rfl, by kernel_rfl⟩
theorem it.int : IntT P 3 .i64 := ⟨by kernel_rfl⟩
theorem z.int : ZeroT P 3 [.d (.sc (.int .i64 0))] := ⟨by kernel_rfl⟩
theorem sz.int : (P.info? 3).map (·.size) = some 1 := by kernel_rfl
abbrev T.bool : Nat := 4
theorem ce.bool : CellT P 4 := ⟨by kernel_rfl, by kernel_rfl⟩
theorem bt.bool : BoolT P 4 := ⟨by kernel_rfl⟩
theorem z.bool : ZeroT P 4 [.d (.sc (.bool false))] := ⟨by kernel_rfl⟩
theorem sz.bool : (P.info? 4).map (·.size) = some 1 := by kernel_rfl
abbrev T.u8 : Nat := 5
theorem ce.u8 : CellT P 5 := ⟨by kernel_rfl, by kernel_rfl⟩
theorem it.u8 : IntT P 5 .u8 := ⟨by kernel_rfl⟩
theorem z.u8 : ZeroT P 5 [.d (.sc (.int .u8 0))] := ⟨by kernel_rfl⟩
theorem sz.u8 : (P.info? 5).map (·.size) = some 1 := by kernel_rfl
abbrev T.ints : Nat := 22
theorem sl.ints : SliceT P 22 3 1 8 := ⟨by kernel_rfl, by kernel_rfl, by decide⟩
theorem ce.ints : CellT P 22 := ⟨by kernel_rfl, by kernel_rfl⟩
theorem z.ints : ZeroT P 22 [.mt] := ⟨by kernel_rfl⟩
theorem sz.ints : (P.info? 22).map (·.size) = some 1 := by kernel_rfl
abbrev T.Chain : Nat := 24
theorem ag.Chain : AggT P 24 3 := ⟨by kernel_rfl, by kernel_rfl⟩
theorem fd.Chain_0 : FieldT P 24 0 0 := ⟨by kernel_rfl⟩
theorem fd.Chain_1 : FieldT P 24 1 1 := ⟨by kernel_rfl⟩
theorem fd.Chain_2 : FieldT P 24 2 2 := ⟨by kernel_rfl⟩
theorem z.Chain : ZeroT P 24 [.d (.sc (.int .i64 0)), .d (.sc (.int .i64 0)), .mt] := ⟨by kernel_rfl⟩
theorem pl.Chain : PlacesT P 24 [(0, 1), (1, 1), (2, 1)] := ⟨by kernel_rfl⟩
theorem sz.Chain : (P.info? 24).map (·.size) = some 3 := by kernel_rfl
abbrev T.u32s : Nat := 25
theorem sl.u32s : SliceT P 25 113 1 4 := ⟨by kernel_rfl, by kernel_rfl, by decide⟩
theorem ce.u32s : CellT P 25 := ⟨by kernel_rfl, by kernel_rfl⟩
theorem z.u32s : ZeroT P 25 [.mt] := ⟨by kernel_rfl⟩
theorem sz.u32s : (P.info? 25).map (·.size) = some 1 := by kernel_rfl
abbrev T.Rat : Nat := 27
theorem ag.Rat : AggT P 27 3 := ⟨by kernel_rfl, by kernel_rfl⟩
theorem fd.Rat_0 : FieldT P 27 0 0 := ⟨by kernel_rfl⟩
theorem fd.Rat_1 : FieldT P 27 1 1 := ⟨by kernel_rfl⟩
theorem fd.Rat_2 : FieldT P 27 2 2 := ⟨by kernel_rfl⟩
theorem z.Rat : ZeroT P 27 [.d (.sc (.bool false)), .mt, .mt] := ⟨by kernel_rfl⟩
theorem pl.Rat : PlacesT P 27 [(0, 1), (1, 1), (2, 1)] := ⟨by kernel_rfl⟩
theorem sz.Rat : (P.info? 27).map (·.size) = some 3 := by kernel_rfl
abbrev T.Rats : Nat := 28
theorem sl.Rats : SliceT P 28 27 3 56 := ⟨by kernel_rfl, by kernel_rfl, by decide⟩
theorem ce.Rats : CellT P 28 := ⟨by kernel_rfl, by kernel_rfl⟩
theorem z.Rats : ZeroT P 28 [.mt] := ⟨by kernel_rfl⟩
theorem sz.Rats : (P.info? 28).map (·.size) = some 1 := by kernel_rfl
abbrev T.Ratss : Nat := 29
theorem sl.Ratss : SliceT P 29 28 1 24 := ⟨by kernel_rfl, by kernel_rfl, by decide⟩
theorem ce.Ratss : CellT P 29 := ⟨by kernel_rfl, by kernel_rfl⟩
theorem z.Ratss : ZeroT P 29 [.mt] := ⟨by kernel_rfl⟩
theorem sz.Ratss : (P.info? 29).map (·.size) = some 1 := by kernel_rfl
abbrev T.bools : Nat := 30
theorem sl.bools : SliceT P 30 4 1 1 := ⟨by kernel_rfl, by kernel_rfl, by decide⟩
theorem ce.bools : CellT P 30 := ⟨by kernel_rfl, by kernel_rfl⟩
theorem z.bools : ZeroT P 30 [.mt] := ⟨by kernel_rfl⟩
theorem sz.bools : (P.info? 30).map (·.size) = some 1 := by kernel_rfl
abbrev T.Hidden : Nat := 32
theorem ag.Hidden : AggT P 32 11 := ⟨by kernel_rfl, by kernel_rfl⟩
theorem fd.Hidden_0 : FieldT P 32 0 0 := ⟨by kernel_rfl⟩
theorem fd.Hidden_1 : FieldT P 32 1 1 := ⟨by kernel_rfl⟩
theorem fd.Hidden_2 : FieldT P 32 2 2 := ⟨by kernel_rfl⟩
theorem fd.Hidden_3 : FieldT P 32 3 5 := ⟨by kernel_rfl⟩
theorem fd.Hidden_4 : FieldT P 32 4 6 := ⟨by kernel_rfl⟩
theorem fd.Hidden_5 : FieldT P 32 5 7 := ⟨by kernel_rfl⟩
theorem fd.Hidden_6 : FieldT P 32 6 8 := ⟨by kernel_rfl⟩
theorem fd.Hidden_7 : FieldT P 32 7 9 := ⟨by kernel_rfl⟩
theorem fd.Hidden_8 : FieldT P 32 8 10 := ⟨by kernel_rfl⟩
theorem z.Hidden : ZeroT P 32 [.d (.sc (.int .i64 0)), .d (.sc (.int .i64 0)), .d (.sc (.bool false)), .mt, .mt, .mt, .mt, .mt, .mt, .mt, .mt] := ⟨by kernel_rfl⟩
theorem pl.Hidden : PlacesT P 32 [(0, 1), (1, 1), (2, 3), (5, 1), (6, 1), (7, 1), (8, 1), (9, 1), (10, 1)] := ⟨by kernel_rfl⟩
theorem sz.Hidden : (P.info? 32).map (·.size) = some 11 := by kernel_rfl
abbrev T.Drawn : Nat := 36
theorem ag.Drawn : AggT P 36 3 := ⟨by kernel_rfl, by kernel_rfl⟩
theorem fd.Drawn_0 : FieldT P 36 0 0 := ⟨by kernel_rfl⟩
theorem fd.Drawn_1 : FieldT P 36 1 1 := ⟨by kernel_rfl⟩
theorem fd.Drawn_2 : FieldT P 36 2 2 := ⟨by kernel_rfl⟩
theorem z.Drawn : ZeroT P 36 [.mt, .mt, .d (.sc (.int .i64 0))] := ⟨by kernel_rfl⟩
theorem pl.Drawn : PlacesT P 36 [(0, 1), (1, 1), (2, 1)] := ⟨by kernel_rfl⟩
theorem sz.Drawn : (P.info? 36).map (·.size) = some 3 := by kernel_rfl
abbrev T.Errno : Nat := 37
theorem ce.Errno : CellT P 37 := ⟨by kernel_rfl, by kernel_rfl⟩
theorem it.Errno : IntT P 37 .i64 := ⟨by kernel_rfl⟩
theorem z.Errno : ZeroT P 37 [.d (.sc (.int .i64 0))] := ⟨by kernel_rfl⟩
theorem sz.Errno : (P.info? 37).map (·.size) = some 1 := by kernel_rfl
abbrev T.Counts : Nat := 51
theorem ag.Counts : AggT P 51 4 := ⟨by kernel_rfl, by kernel_rfl⟩
theorem fd.Counts_0 : FieldT P 51 0 0 := ⟨by kernel_rfl⟩
theorem fd.Counts_1 : FieldT P 51 1 1 := ⟨by kernel_rfl⟩
theorem fd.Counts_2 : FieldT P 51 2 2 := ⟨by kernel_rfl⟩
theorem fd.Counts_3 : FieldT P 51 3 3 := ⟨by kernel_rfl⟩
theorem z.Counts : ZeroT P 51 [.mt, .mt, .mt, .mt] := ⟨by kernel_rfl⟩
theorem pl.Counts : PlacesT P 51 [(0, 1), (1, 1), (2, 1), (3, 1)] := ⟨by kernel_rfl⟩
theorem sz.Counts : (P.info? 51).map (·.size) = some 4 := by kernel_rfl
abbrev T.Tape : Nat := 84
theorem ag.Tape : AggT P 84 2 := ⟨by kernel_rfl, by kernel_rfl⟩
theorem fd.Tape_0 : FieldT P 84 0 0 := ⟨by kernel_rfl⟩
theorem fd.Tape_1 : FieldT P 84 1 1 := ⟨by kernel_rfl⟩
theorem z.Tape : ZeroT P 84 [.mt, .d (.sc (.int .i64 0))] := ⟨by kernel_rfl⟩
theorem pl.Tape : PlacesT P 84 [(0, 1), (1, 1)] := ⟨by kernel_rfl⟩
theorem sz.Tape : (P.info? 84).map (·.size) = some 2 := by kernel_rfl
abbrev T.span : Nat := 93
theorem ag.span : AggT P 93 6 := ⟨by kernel_rfl, by kernel_rfl⟩
theorem fd.span_0 : FieldT P 93 0 0 := ⟨by kernel_rfl⟩
theorem fd.span_1 : FieldT P 93 1 3 := ⟨by kernel_rfl⟩
theorem z.span : ZeroT P 93 [.d (.sc (.bool false)), .mt, .mt, .d (.sc (.bool false)), .mt, .mt] := ⟨by kernel_rfl⟩
theorem pl.span : PlacesT P 93 [(0, 3), (3, 3)] := ⟨by kernel_rfl⟩
theorem sz.span : (P.info? 93).map (·.size) = some 6 := by kernel_rfl
abbrev T.reader : Nat := 95
theorem ag.reader : AggT P 95 8 := ⟨by kernel_rfl, by kernel_rfl⟩
theorem fd.reader_0 : FieldT P 95 0 0 := ⟨by kernel_rfl⟩
theorem fd.reader_1 : FieldT P 95 1 1 := ⟨by kernel_rfl⟩
theorem fd.reader_2 : FieldT P 95 2 2 := ⟨by kernel_rfl⟩
theorem z.reader : ZeroT P 95 [.mt, .d (.sc (.int .i64 0)), .d (.sc (.bool false)), .mt, .mt, .d (.sc (.bool false)), .mt, .mt] := ⟨by kernel_rfl⟩
theorem pl.reader : PlacesT P 95 [(0, 1), (1, 1), (2, 6)] := ⟨by kernel_rfl⟩
theorem sz.reader : (P.info? 95).map (·.size) = some 8 := by kernel_rfl
abbrev T.limbs : Nat := 103
theorem sl.limbs : SliceT P 103 113 1 4 := ⟨by kernel_rfl, by kernel_rfl, by decide⟩
theorem ce.limbs : CellT P 103 := ⟨by kernel_rfl, by kernel_rfl⟩
theorem z.limbs : ZeroT P 103 [.mt] := ⟨by kernel_rfl⟩
theorem sz.limbs : (P.info? 103).map (·.size) = some 1 := by kernel_rfl
abbrev T.fraction : Nat := 105
theorem ag.fraction : AggT P 105 3 := ⟨by kernel_rfl, by kernel_rfl⟩
theorem fd.fraction_0 : FieldT P 105 0 0 := ⟨by kernel_rfl⟩
theorem fd.fraction_1 : FieldT P 105 1 1 := ⟨by kernel_rfl⟩
theorem fd.fraction_2 : FieldT P 105 2 2 := ⟨by kernel_rfl⟩
theorem z.fraction : ZeroT P 105 [.d (.sc (.bool false)), .mt, .mt] := ⟨by kernel_rfl⟩
theorem pl.fraction : PlacesT P 105 [(0, 1), (1, 1), (2, 1)] := ⟨by kernel_rfl⟩
theorem sz.fraction : (P.info? 105).map (·.size) = some 3 := by kernel_rfl
abbrev T.u64 : Nat := 110
theorem ce.u64 : CellT P 110 := ⟨by kernel_rfl, by kernel_rfl⟩
theorem it.u64 : IntT P 110 .u64 := ⟨by kernel_rfl⟩
theorem z.u64 : ZeroT P 110 [.d (.sc (.int .u64 0))] := ⟨by kernel_rfl⟩
theorem sz.u64 : (P.info? 110).map (·.size) = some 1 := by kernel_rfl
abbrev T.u32 : Nat := 113
theorem ce.u32 : CellT P 113 := ⟨by kernel_rfl, by kernel_rfl⟩
theorem it.u32 : IntT P 113 .u32 := ⟨by kernel_rfl⟩
theorem z.u32 : ZeroT P 113 [.d (.sc (.int .u32 0))] := ⟨by kernel_rfl⟩
theorem sz.u32 : (P.info? 113).map (·.size) = some 1 := by kernel_rfl
abbrev T.uint : Nat := 114
theorem ce.uint : CellT P 114 := ⟨by kernel_rfl, by kernel_rfl⟩
theorem it.uint : IntT P 114 .u64 := ⟨by kernel_rfl⟩
theorem z.uint : ZeroT P 114 [.d (.sc (.int .u64 0))] := ⟨by kernel_rfl⟩
theorem sz.uint : (P.info? 114).map (·.size) = some 1 := by kernel_rfl
abbrev T.fn1 : Nat := 1
theorem ce.fn1 : CellT P 1 := ⟨by kernel_rfl, by kernel_rfl⟩
theorem z.fn1 : ZeroT P 1 [.d (.sc .nilFunc)] := ⟨by kernel_rfl⟩
theorem sz.fn1 : (P.info? 1).map (·.size) = some 1 := by kernel_rfl
abbrev T.fn33 : Nat := 33
theorem ce.fn33 : CellT P 33 := ⟨by kernel_rfl, by kernel_rfl⟩
theorem z.fn33 : ZeroT P 33 [.d (.sc .nilFunc)] := ⟨by kernel_rfl⟩
theorem sz.fn33 : (P.info? 33).map (·.size) = some 1 := by kernel_rfl
abbrev T.fn34 : Nat := 34
theorem ce.fn34 : CellT P 34 := ⟨by kernel_rfl, by kernel_rfl⟩
theorem z.fn34 : ZeroT P 34 [.d (.sc .nilFunc)] := ⟨by kernel_rfl⟩
theorem sz.fn34 : (P.info? 34).map (·.size) = some 1 := by kernel_rfl
abbrev T.fn39 : Nat := 39
theorem ce.fn39 : CellT P 39 := ⟨by kernel_rfl, by kernel_rfl⟩
theorem z.fn39 : ZeroT P 39 [.d (.sc .nilFunc)] := ⟨by kernel_rfl⟩
theorem sz.fn39 : (P.info? 39).map (·.size) = some 1 := by kernel_rfl
abbrev T.fn40 : Nat := 40
theorem ce.fn40 : CellT P 40 := ⟨by kernel_rfl, by kernel_rfl⟩
theorem z.fn40 : ZeroT P 40 [.d (.sc .nilFunc)] := ⟨by kernel_rfl⟩
theorem sz.fn40 : (P.info? 40).map (·.size) = some 1 := by kernel_rfl
abbrev T.fn41 : Nat := 41
theorem ce.fn41 : CellT P 41 := ⟨by kernel_rfl, by kernel_rfl⟩
theorem z.fn41 : ZeroT P 41 [.d (.sc .nilFunc)] := ⟨by kernel_rfl⟩
theorem sz.fn41 : (P.info? 41).map (·.size) = some 1 := by kernel_rfl
abbrev T.fn42 : Nat := 42
theorem ce.fn42 : CellT P 42 := ⟨by kernel_rfl, by kernel_rfl⟩
theorem z.fn42 : ZeroT P 42 [.d (.sc .nilFunc)] := ⟨by kernel_rfl⟩
theorem sz.fn42 : (P.info? 42).map (·.size) = some 1 := by kernel_rfl
abbrev T.fn43 : Nat := 43
theorem ce.fn43 : CellT P 43 := ⟨by kernel_rfl, by kernel_rfl⟩
theorem z.fn43 : ZeroT P 43 [.d (.sc .nilFunc)] := ⟨by kernel_rfl⟩
theorem sz.fn43 : (P.info? 43).map (·.size) = some 1 := by kernel_rfl
abbrev T.fn45 : Nat := 45
theorem ce.fn45 : CellT P 45 := ⟨by kernel_rfl, by kernel_rfl⟩
theorem z.fn45 : ZeroT P 45 [.d (.sc .nilFunc)] := ⟨by kernel_rfl⟩
theorem sz.fn45 : (P.info? 45).map (·.size) = some 1 := by kernel_rfl
abbrev T.fn46 : Nat := 46
theorem ce.fn46 : CellT P 46 := ⟨by kernel_rfl, by kernel_rfl⟩
theorem z.fn46 : ZeroT P 46 [.d (.sc .nilFunc)] := ⟨by kernel_rfl⟩
theorem sz.fn46 : (P.info? 46).map (·.size) = some 1 := by kernel_rfl
abbrev T.fn47 : Nat := 47
theorem ce.fn47 : CellT P 47 := ⟨by kernel_rfl, by kernel_rfl⟩
theorem z.fn47 : ZeroT P 47 [.d (.sc .nilFunc)] := ⟨by kernel_rfl⟩
theorem sz.fn47 : (P.info? 47).map (·.size) = some 1 := by kernel_rfl
abbrev T.fn49 : Nat := 49
theorem ce.fn49 : CellT P 49 := ⟨by kernel_rfl, by kernel_rfl⟩
theorem z.fn49 : ZeroT P 49 [.d (.sc .nilFunc)] := ⟨by kernel_rfl⟩
theorem sz.fn49 : (P.info? 49).map (·.size) = some 1 := by kernel_rfl
abbrev T.fn53 : Nat := 53
theorem ce.fn53 : CellT P 53 := ⟨by kernel_rfl, by kernel_rfl⟩
theorem z.fn53 : ZeroT P 53 [.d (.sc .nilFunc)] := ⟨by kernel_rfl⟩
theorem sz.fn53 : (P.info? 53).map (·.size) = some 1 := by kernel_rfl
abbrev T.fn54 : Nat := 54
theorem ce.fn54 : CellT P 54 := ⟨by kernel_rfl, by kernel_rfl⟩
theorem z.fn54 : ZeroT P 54 [.d (.sc .nilFunc)] := ⟨by kernel_rfl⟩
theorem sz.fn54 : (P.info? 54).map (·.size) = some 1 := by kernel_rfl
abbrev T.fn55 : Nat := 55
theorem ce.fn55 : CellT P 55 := ⟨by kernel_rfl, by kernel_rfl⟩
theorem z.fn55 : ZeroT P 55 [.d (.sc .nilFunc)] := ⟨by kernel_rfl⟩
theorem sz.fn55 : (P.info? 55).map (·.size) = some 1 := by kernel_rfl
abbrev T.fn56 : Nat := 56
theorem ce.fn56 : CellT P 56 := ⟨by kernel_rfl, by kernel_rfl⟩
theorem z.fn56 : ZeroT P 56 [.d (.sc .nilFunc)] := ⟨by kernel_rfl⟩
theorem sz.fn56 : (P.info? 56).map (·.size) = some 1 := by kernel_rfl
abbrev T.fn57 : Nat := 57
theorem ce.fn57 : CellT P 57 := ⟨by kernel_rfl, by kernel_rfl⟩
theorem z.fn57 : ZeroT P 57 [.d (.sc .nilFunc)] := ⟨by kernel_rfl⟩
theorem sz.fn57 : (P.info? 57).map (·.size) = some 1 := by kernel_rfl
abbrev T.fn58 : Nat := 58
theorem ce.fn58 : CellT P 58 := ⟨by kernel_rfl, by kernel_rfl⟩
theorem z.fn58 : ZeroT P 58 [.d (.sc .nilFunc)] := ⟨by kernel_rfl⟩
theorem sz.fn58 : (P.info? 58).map (·.size) = some 1 := by kernel_rfl
abbrev T.fn59 : Nat := 59
theorem ce.fn59 : CellT P 59 := ⟨by kernel_rfl, by kernel_rfl⟩
theorem z.fn59 : ZeroT P 59 [.d (.sc .nilFunc)] := ⟨by kernel_rfl⟩
theorem sz.fn59 : (P.info? 59).map (·.size) = some 1 := by kernel_rfl
abbrev T.fn60 : Nat := 60
theorem ce.fn60 : CellT P 60 := ⟨by kernel_rfl, by kernel_rfl⟩
theorem z.fn60 : ZeroT P 60 [.d (.sc .nilFunc)] := ⟨by kernel_rfl⟩
theorem sz.fn60 : (P.info? 60).map (·.size) = some 1 := by kernel_rfl
abbrev T.fn61 : Nat := 61
theorem ce.fn61 : CellT P 61 := ⟨by kernel_rfl, by kernel_rfl⟩
theorem z.fn61 : ZeroT P 61 [.d (.sc .nilFunc)] := ⟨by kernel_rfl⟩
theorem sz.fn61 : (P.info? 61).map (·.size) = some 1 := by kernel_rfl
abbrev T.fn62 : Nat := 62
theorem ce.fn62 : CellT P 62 := ⟨by kernel_rfl, by kernel_rfl⟩
theorem z.fn62 : ZeroT P 62 [.d (.sc .nilFunc)] := ⟨by kernel_rfl⟩
theorem sz.fn62 : (P.info? 62).map (·.size) = some 1 := by kernel_rfl
abbrev T.fn63 : Nat := 63
theorem ce.fn63 : CellT P 63 := ⟨by kernel_rfl, by kernel_rfl⟩
theorem z.fn63 : ZeroT P 63 [.d (.sc .nilFunc)] := ⟨by kernel_rfl⟩
theorem sz.fn63 : (P.info? 63).map (·.size) = some 1 := by kernel_rfl
abbrev T.fn64 : Nat := 64
theorem ce.fn64 : CellT P 64 := ⟨by kernel_rfl, by kernel_rfl⟩
theorem z.fn64 : ZeroT P 64 [.d (.sc .nilFunc)] := ⟨by kernel_rfl⟩
theorem sz.fn64 : (P.info? 64).map (·.size) = some 1 := by kernel_rfl
abbrev T.fn65 : Nat := 65
theorem ce.fn65 : CellT P 65 := ⟨by kernel_rfl, by kernel_rfl⟩
theorem z.fn65 : ZeroT P 65 [.d (.sc .nilFunc)] := ⟨by kernel_rfl⟩
theorem sz.fn65 : (P.info? 65).map (·.size) = some 1 := by kernel_rfl
abbrev T.fn67 : Nat := 67
theorem ce.fn67 : CellT P 67 := ⟨by kernel_rfl, by kernel_rfl⟩
theorem z.fn67 : ZeroT P 67 [.d (.sc .nilFunc)] := ⟨by kernel_rfl⟩
theorem sz.fn67 : (P.info? 67).map (·.size) = some 1 := by kernel_rfl
abbrev T.fn68 : Nat := 68
theorem ce.fn68 : CellT P 68 := ⟨by kernel_rfl, by kernel_rfl⟩
theorem z.fn68 : ZeroT P 68 [.d (.sc .nilFunc)] := ⟨by kernel_rfl⟩
theorem sz.fn68 : (P.info? 68).map (·.size) = some 1 := by kernel_rfl
abbrev T.fn69 : Nat := 69
theorem ce.fn69 : CellT P 69 := ⟨by kernel_rfl, by kernel_rfl⟩
theorem z.fn69 : ZeroT P 69 [.d (.sc .nilFunc)] := ⟨by kernel_rfl⟩
theorem sz.fn69 : (P.info? 69).map (·.size) = some 1 := by kernel_rfl
abbrev T.fn70 : Nat := 70
theorem ce.fn70 : CellT P 70 := ⟨by kernel_rfl, by kernel_rfl⟩
theorem z.fn70 : ZeroT P 70 [.d (.sc .nilFunc)] := ⟨by kernel_rfl⟩
theorem sz.fn70 : (P.info? 70).map (·.size) = some 1 := by kernel_rfl
abbrev T.fn71 : Nat := 71
theorem ce.fn71 : CellT P 71 := ⟨by kernel_rfl, by kernel_rfl⟩
theorem z.fn71 : ZeroT P 71 [.d (.sc .nilFunc)] := ⟨by kernel_rfl⟩
theorem sz.fn71 : (P.info? 71).map (·.size) = some 1 := by kernel_rfl
abbrev T.fn73 : Nat := 73
theorem ce.fn73 : CellT P 73 := ⟨by kernel_rfl, by kernel_rfl⟩
theorem z.fn73 : ZeroT P 73 [.d (.sc .nilFunc)] := ⟨by kernel_rfl⟩
theorem sz.fn73 : (P.info? 73).map (·.size) = some 1 := by kernel_rfl
abbrev T.fn74 : Nat := 74
theorem ce.fn74 : CellT P 74 := ⟨by kernel_rfl, by kernel_rfl⟩
theorem z.fn74 : ZeroT P 74 [.d (.sc .nilFunc)] := ⟨by kernel_rfl⟩
theorem sz.fn74 : (P.info? 74).map (·.size) = some 1 := by kernel_rfl
abbrev T.fn75 : Nat := 75
theorem ce.fn75 : CellT P 75 := ⟨by kernel_rfl, by kernel_rfl⟩
theorem z.fn75 : ZeroT P 75 [.d (.sc .nilFunc)] := ⟨by kernel_rfl⟩
theorem sz.fn75 : (P.info? 75).map (·.size) = some 1 := by kernel_rfl
abbrev T.fn76 : Nat := 76
theorem ce.fn76 : CellT P 76 := ⟨by kernel_rfl, by kernel_rfl⟩
theorem z.fn76 : ZeroT P 76 [.d (.sc .nilFunc)] := ⟨by kernel_rfl⟩
theorem sz.fn76 : (P.info? 76).map (·.size) = some 1 := by kernel_rfl
abbrev T.fn77 : Nat := 77
theorem ce.fn77 : CellT P 77 := ⟨by kernel_rfl, by kernel_rfl⟩
theorem z.fn77 : ZeroT P 77 [.d (.sc .nilFunc)] := ⟨by kernel_rfl⟩
theorem sz.fn77 : (P.info? 77).map (·.size) = some 1 := by kernel_rfl
abbrev T.fn78 : Nat := 78
theorem ce.fn78 : CellT P 78 := ⟨by kernel_rfl, by kernel_rfl⟩
theorem z.fn78 : ZeroT P 78 [.d (.sc .nilFunc)] := ⟨by kernel_rfl⟩
theorem sz.fn78 : (P.info? 78).map (·.size) = some 1 := by kernel_rfl
abbrev T.fn79 : Nat := 79
theorem ce.fn79 : CellT P 79 := ⟨by kernel_rfl, by kernel_rfl⟩
theorem z.fn79 : ZeroT P 79 [.d (.sc .nilFunc)] := ⟨by kernel_rfl⟩
theorem sz.fn79 : (P.info? 79).map (·.size) = some 1 := by kernel_rfl
abbrev T.fn80 : Nat := 80
theorem ce.fn80 : CellT P 80 := ⟨by kernel_rfl, by kernel_rfl⟩
theorem z.fn80 : ZeroT P 80 [.d (.sc .nilFunc)] := ⟨by kernel_rfl⟩
theorem sz.fn80 : (P.info? 80).map (·.size) = some 1 := by kernel_rfl
abbrev T.fn81 : Nat := 81
theorem ce.fn81 : CellT P 81 := ⟨by kernel_rfl, by kernel_rfl⟩
theorem z.fn81 : ZeroT P 81 [.d (.sc .nilFunc)] := ⟨by kernel_rfl⟩
theorem sz.fn81 : (P.info? 81).map (·.size) = some 1 := by kernel_rfl
abbrev T.fn85 : Nat := 85
theorem ce.fn85 : CellT P 85 := ⟨by kernel_rfl, by kernel_rfl⟩
theorem z.fn85 : ZeroT P 85 [.d (.sc .nilFunc)] := ⟨by kernel_rfl⟩
theorem sz.fn85 : (P.info? 85).map (·.size) = some 1 := by kernel_rfl
abbrev T.fn86 : Nat := 86
theorem ce.fn86 : CellT P 86 := ⟨by kernel_rfl, by kernel_rfl⟩
theorem z.fn86 : ZeroT P 86 [.d (.sc .nilFunc)] := ⟨by kernel_rfl⟩
theorem sz.fn86 : (P.info? 86).map (·.size) = some 1 := by kernel_rfl
abbrev T.fn87 : Nat := 87
theorem ce.fn87 : CellT P 87 := ⟨by kernel_rfl, by kernel_rfl⟩
theorem z.fn87 : ZeroT P 87 [.d (.sc .nilFunc)] := ⟨by kernel_rfl⟩
theorem sz.fn87 : (P.info? 87).map (·.size) = some 1 := by kernel_rfl
abbrev T.fn88 : Nat := 88
theorem ce.fn88 : CellT P 88 := ⟨by kernel_rfl, by kernel_rfl⟩
theorem z.fn88 : ZeroT P 88 [.d (.sc .nilFunc)] := ⟨by kernel_rfl⟩
theorem sz.fn88 : (P.info? 88).map (·.size) = some 1 := by kernel_rfl
abbrev T.fn89 : Nat := 89
theorem ce.fn89 : CellT P 89 := ⟨by kernel_rfl, by kernel_rfl⟩
theorem z.fn89 : ZeroT P 89 [.d (.sc .nilFunc)] := ⟨by kernel_rfl⟩
theorem sz.fn89 : (P.info? 89).map (·.size) = some 1 := by kernel_rfl
abbrev T.fn91 : Nat := 91
theorem ce.fn91 : CellT P 91 := ⟨by kernel_rfl, by kernel_rfl⟩
theorem z.fn91 : ZeroT P 91 [.d (.sc .nilFunc)] := ⟨by kernel_rfl⟩
theorem sz.fn91 : (P.info? 91).map (·.size) = some 1 := by kernel_rfl
abbrev T.fn97 : Nat := 97
theorem ce.fn97 : CellT P 97 := ⟨by kernel_rfl, by kernel_rfl⟩
theorem z.fn97 : ZeroT P 97 [.d (.sc .nilFunc)] := ⟨by kernel_rfl⟩
theorem sz.fn97 : (P.info? 97).map (·.size) = some 1 := by kernel_rfl
abbrev T.fn98 : Nat := 98
theorem ce.fn98 : CellT P 98 := ⟨by kernel_rfl, by kernel_rfl⟩
theorem z.fn98 : ZeroT P 98 [.d (.sc .nilFunc)] := ⟨by kernel_rfl⟩
theorem sz.fn98 : (P.info? 98).map (·.size) = some 1 := by kernel_rfl
abbrev T.fn99 : Nat := 99
theorem ce.fn99 : CellT P 99 := ⟨by kernel_rfl, by kernel_rfl⟩
theorem z.fn99 : ZeroT P 99 [.d (.sc .nilFunc)] := ⟨by kernel_rfl⟩
theorem sz.fn99 : (P.info? 99).map (·.size) = some 1 := by kernel_rfl
abbrev T.fn101 : Nat := 101
theorem ce.fn101 : CellT P 101 := ⟨by kernel_rfl, by kernel_rfl⟩
theorem z.fn101 : ZeroT P 101 [.d (.sc .nilFunc)] := ⟨by kernel_rfl⟩
theorem sz.fn101 : (P.info? 101).map (·.size) = some 1 := by kernel_rfl
abbrev T.fn102 : Nat := 102
theorem ce.fn102 : CellT P 102 := ⟨by kernel_rfl, by kernel_rfl⟩
theorem z.fn102 : ZeroT P 102 [.d (.sc .nilFunc)] := ⟨by kernel_rfl⟩
theorem sz.fn102 : (P.info? 102).map (·.size) = some 1 := by kernel_rfl
abbrev T.fn106 : Nat := 106
theorem ce.fn106 : CellT P 106 := ⟨by kernel_rfl, by kernel_rfl⟩
theorem z.fn106 : ZeroT P 106 [.d (.sc .nilFunc)] := ⟨by kernel_rfl⟩
theorem sz.fn106 : (P.info? 106).map (·.size) = some 1 := by kernel_rfl
abbrev T.fn107 : Nat := 107
theorem ce.fn107 : CellT P 107 := ⟨by kernel_rfl, by kernel_rfl⟩
theorem z.fn107 : ZeroT P 107 [.d (.sc .nilFunc)] := ⟨by kernel_rfl⟩
theorem sz.fn107 : (P.info? 107).map (·.size) = some 1 := by kernel_rfl
abbrev T.fn108 : Nat := 108
theorem ce.fn108 : CellT P 108 := ⟨by kernel_rfl, by kernel_rfl⟩
theorem z.fn108 : ZeroT P 108 [.d (.sc .nilFunc)] := ⟨by kernel_rfl⟩
theorem sz.fn108 : (P.info? 108).map (·.size) = some 1 := by kernel_rfl
abbrev T.fn109 : Nat := 109
theorem ce.fn109 : CellT P 109 := ⟨by kernel_rfl, by kernel_rfl⟩
theorem z.fn109 : ZeroT P 109 [.d (.sc .nilFunc)] := ⟨by kernel_rfl⟩
theorem sz.fn109 : (P.info? 109).map (·.size) = some 1 := by kernel_rfl
abbrev T.fn111 : Nat := 111
theorem ce.fn111 : CellT P 111 := ⟨by kernel_rfl, by kernel_rfl⟩
theorem z.fn111 : ZeroT P 111 [.d (.sc .nilFunc)] := ⟨by kernel_rfl⟩
theorem sz.fn111 : (P.info? 111).map (·.size) = some 1 := by kernel_rfl
abbrev T.fn112 : Nat := 112
theorem ce.fn112 : CellT P 112 := ⟨by kernel_rfl, by kernel_rfl⟩
theorem z.fn112 : ZeroT P 112 [.d (.sc .nilFunc)] := ⟨by kernel_rfl⟩
theorem sz.fn112 : (P.info? 112).map (·.size) = some 1 := by kernel_rfl
abbrev T.fn115 : Nat := 115
theorem ce.fn115 : CellT P 115 := ⟨by kernel_rfl, by kernel_rfl⟩
theorem z.fn115 : ZeroT P 115 [.d (.sc .nilFunc)] := ⟨by kernel_rfl⟩
theorem sz.fn115 : (P.info? 115).map (·.size) = some 1 := by kernel_rfl
abbrev T.fn117 : Nat := 117
theorem ce.fn117 : CellT P 117 := ⟨by kernel_rfl, by kernel_rfl⟩
theorem z.fn117 : ZeroT P 117 [.d (.sc .nilFunc)] := ⟨by kernel_rfl⟩
theorem sz.fn117 : (P.info? 117).map (·.size) = some 1 := by kernel_rfl
abbrev T.fn118 : Nat := 118
theorem ce.fn118 : CellT P 118 := ⟨by kernel_rfl, by kernel_rfl⟩
theorem z.fn118 : ZeroT P 118 [.d (.sc .nilFunc)] := ⟨by kernel_rfl⟩
theorem sz.fn118 : (P.info? 118).map (·.size) = some 1 := by kernel_rfl
abbrev T.fn119 : Nat := 119
theorem ce.fn119 : CellT P 119 := ⟨by kernel_rfl, by kernel_rfl⟩
theorem z.fn119 : ZeroT P 119 [.d (.sc .nilFunc)] := ⟨by kernel_rfl⟩
theorem sz.fn119 : (P.info? 119).map (·.size) = some 1 := by kernel_rfl
abbrev T.fn121 : Nat := 121
theorem ce.fn121 : CellT P 121 := ⟨by kernel_rfl, by kernel_rfl⟩
theorem z.fn121 : ZeroT P 121 [.d (.sc .nilFunc)] := ⟨by kernel_rfl⟩
theorem sz.fn121 : (P.info? 121).map (·.size) = some 1 := by kernel_rfl
abbrev T.fn122 : Nat := 122
theorem ce.fn122 : CellT P 122 := ⟨by kernel_rfl, by kernel_rfl⟩
theorem z.fn122 : ZeroT P 122 [.d (.sc .nilFunc)] := ⟨by kernel_rfl⟩
theorem sz.fn122 : (P.info? 122).map (·.size) = some 1 := by kernel_rfl
abbrev T.fn123 : Nat := 123
theorem ce.fn123 : CellT P 123 := ⟨by kernel_rfl, by kernel_rfl⟩
theorem z.fn123 : ZeroT P 123 [.d (.sc .nilFunc)] := ⟨by kernel_rfl⟩
theorem sz.fn123 : (P.info? 123).map (·.size) = some 1 := by kernel_rfl
abbrev T.fn124 : Nat := 124
theorem ce.fn124 : CellT P 124 := ⟨by kernel_rfl, by kernel_rfl⟩
theorem z.fn124 : ZeroT P 124 [.d (.sc .nilFunc)] := ⟨by kernel_rfl⟩
theorem sz.fn124 : (P.info? 124).map (·.size) = some 1 := by kernel_rfl
abbrev T.fn125 : Nat := 125
theorem ce.fn125 : CellT P 125 := ⟨by kernel_rfl, by kernel_rfl⟩
theorem z.fn125 : ZeroT P 125 [.d (.sc .nilFunc)] := ⟨by kernel_rfl⟩
theorem sz.fn125 : (P.info? 125).map (·.size) = some 1 := by kernel_rfl
abbrev T.fn126 : Nat := 126
theorem ce.fn126 : CellT P 126 := ⟨by kernel_rfl, by kernel_rfl⟩
theorem z.fn126 : ZeroT P 126 [.d (.sc .nilFunc)] := ⟨by kernel_rfl⟩
theorem sz.fn126 : (P.info? 126).map (·.size) = some 1 := by kernel_rfl
abbrev T.fn127 : Nat := 127
theorem ce.fn127 : CellT P 127 := ⟨by kernel_rfl, by kernel_rfl⟩
theorem z.fn127 : ZeroT P 127 [.d (.sc .nilFunc)] := ⟨by kernel_rfl⟩
theorem sz.fn127 : (P.info? 127).map (·.size) = some 1 := by kernel_rfl
abbrev T.fn129 : Nat := 129
theorem ce.fn129 : CellT P 129 := ⟨by kernel_rfl, by kernel_rfl⟩
theorem z.fn129 : ZeroT P 129 [.d (.sc .nilFunc)] := ⟨by kernel_rfl⟩
theorem sz.fn129 : (P.info? 129).map (·.size) = some 1 := by kernel_rfl
abbrev T.fn130 : Nat := 130
theorem ce.fn130 : CellT P 130 := ⟨by kernel_rfl, by kernel_rfl⟩
theorem z.fn130 : ZeroT P 130 [.d (.sc .nilFunc)] := ⟨by kernel_rfl⟩
theorem sz.fn130 : (P.info? 130).map (·.size) = some 1 := by kernel_rfl
abbrev T.fn131 : Nat := 131
theorem ce.fn131 : CellT P 131 := ⟨by kernel_rfl, by kernel_rfl⟩
theorem z.fn131 : ZeroT P 131 [.d (.sc .nilFunc)] := ⟨by kernel_rfl⟩
theorem sz.fn131 : (P.info? 131).map (·.size) = some 1 := by kernel_rfl
abbrev T.fn132 : Nat := 132
theorem ce.fn132 : CellT P 132 := ⟨by kernel_rfl, by kernel_rfl⟩
theorem z.fn132 : ZeroT P 132 [.d (.sc .nilFunc)] := ⟨by kernel_rfl⟩
theorem sz.fn132 : (P.info? 132).map (·.size) = some 1 := by kernel_rfl
abbrev T.fn133 : Nat := 133
theorem ce.fn133 : CellT P 133 := ⟨by kernel_rfl, by kernel_rfl⟩
theorem z.fn133 : ZeroT P 133 [.d (.sc .nilFunc)] := ⟨by kernel_rfl⟩
theorem sz.fn133 : (P.info? 133).map (·.size) = some 1 := by kernel_rfl
abbrev T.fn135 : Nat := 135
theorem ce.fn135 : CellT P 135 := ⟨by kernel_rfl, by kernel_rfl⟩
theorem z.fn135 : ZeroT P 135 [.d (.sc .nilFunc)] := ⟨by kernel_rfl⟩
theorem sz.fn135 : (P.info? 135).map (·.size) = some 1 := by kernel_rfl
abbrev T.fn137 : Nat := 137
theorem ce.fn137 : CellT P 137 := ⟨by kernel_rfl, by kernel_rfl⟩
theorem z.fn137 : ZeroT P 137 [.d (.sc .nilFunc)] := ⟨by kernel_rfl⟩
theorem sz.fn137 : (P.info? 137).map (·.size) = some 1 := by kernel_rfl
abbrev T.fn138 : Nat := 138
theorem ce.fn138 : CellT P 138 := ⟨by kernel_rfl, by kernel_rfl⟩
theorem z.fn138 : ZeroT P 138 [.d (.sc .nilFunc)] := ⟨by kernel_rfl⟩
theorem sz.fn138 : (P.info? 138).map (·.size) = some 1 := by kernel_rfl
abbrev T.fn139 : Nat := 139
theorem ce.fn139 : CellT P 139 := ⟨by kernel_rfl, by kernel_rfl⟩
theorem z.fn139 : ZeroT P 139 [.d (.sc .nilFunc)] := ⟨by kernel_rfl⟩
theorem sz.fn139 : (P.info? 139).map (·.size) = some 1 := by kernel_rfl
abbrev T.fn140 : Nat := 140
theorem ce.fn140 : CellT P 140 := ⟨by kernel_rfl, by kernel_rfl⟩
theorem z.fn140 : ZeroT P 140 [.d (.sc .nilFunc)] := ⟨by kernel_rfl⟩
theorem sz.fn140 : (P.info? 140).map (·.size) = some 1 := by kernel_rfl
abbrev T.fn141 : Nat := 141
theorem ce.fn141 : CellT P 141 := ⟨by kernel_rfl, by kernel_rfl⟩
theorem z.fn141 : ZeroT P 141 [.d (.sc .nilFunc)] := ⟨by kernel_rfl⟩
theorem sz.fn141 : (P.info? 141).map (·.size) = some 1 := by kernel_rfl
abbrev T.fn142 : Nat := 142
theorem ce.fn142 : CellT P 142 := ⟨by kernel_rfl, by kernel_rfl⟩
theorem z.fn142 : ZeroT P 142 [.d (.sc .nilFunc)] := ⟨by kernel_rfl⟩
theorem sz.fn142 : (P.info? 142).map (·.size) = some 1 := by kernel_rfl
abbrev T.fn143 : Nat := 143
theorem ce.fn143 : CellT P 143 := ⟨by kernel_rfl, by kernel_rfl⟩
theorem z.fn143 : ZeroT P 143 [.d (.sc .nilFunc)] := ⟨by kernel_rfl⟩
theorem sz.fn143 : (P.info? 143).map (·.size) = some 1 := by kernel_rfl
abbrev T.fn144 : Nat := 144
theorem ce.fn144 : CellT P 144 := ⟨by kernel_rfl, by kernel_rfl⟩
theorem z.fn144 : ZeroT P 144 [.d (.sc .nilFunc)] := ⟨by kernel_rfl⟩
theorem sz.fn144 : (P.info? 144).map (·.size) = some 1 := by kernel_rfl
abbrev T.fn145 : Nat := 145
theorem ce.fn145 : CellT P 145 := ⟨by kernel_rfl, by kernel_rfl⟩
theorem z.fn145 : ZeroT P 145 [.d (.sc .nilFunc)] := ⟨by kernel_rfl⟩
theorem sz.fn145 : (P.info? 145).map (·.size) = some 1 := by kernel_rfl
abbrev T.fn146 : Nat := 146
theorem ce.fn146 : CellT P 146 := ⟨by kernel_rfl, by kernel_rfl⟩
theorem z.fn146 : ZeroT P 146 [.d (.sc .nilFunc)] := ⟨by kernel_rfl⟩
theorem sz.fn146 : (P.info? 146).map (·.size) = some 1 := by kernel_rfl
abbrev T.fn147 : Nat := 147
theorem ce.fn147 : CellT P 147 := ⟨by kernel_rfl, by kernel_rfl⟩
theorem z.fn147 : ZeroT P 147 [.d (.sc .nilFunc)] := ⟨by kernel_rfl⟩
theorem sz.fn147 : (P.info? 147).map (·.size) = some 1 := by kernel_rfl
abbrev T.fn148 : Nat := 148
theorem ce.fn148 : CellT P 148 := ⟨by kernel_rfl, by kernel_rfl⟩
theorem z.fn148 : ZeroT P 148 [.d (.sc .nilFunc)] := ⟨by kernel_rfl⟩
theorem sz.fn148 : (P.info? 148).map (·.size) = some 1 := by kernel_rfl
abbrev T.fn156 : Nat := 156
theorem ce.fn156 : CellT P 156 := ⟨by kernel_rfl, by kernel_rfl⟩
theorem z.fn156 : ZeroT P 156 [.d (.sc .nilFunc)] := ⟨by kernel_rfl⟩
theorem sz.fn156 : (P.info? 156).map (·.size) = some 1 := by kernel_rfl
theorem st.str : P.underlying 9 = some .string := by kernel_rfl
end Go.Proofs.Ytcebciggodhmcaa
