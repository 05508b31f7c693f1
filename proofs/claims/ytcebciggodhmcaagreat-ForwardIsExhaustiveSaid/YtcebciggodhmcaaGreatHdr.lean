/-
  Names for the functions of this seat, and facts on its types (printed by hdr.py).
-/
import Derived.Test.YtcebciggodhmcaaGreatChecked
import Derived.KernelRfl
import Derived.Test.YtcebciggodhmcaaGreatNumb
set_option linter.unusedVariables false
set_option linter.unusedSimpArgs false
namespace Go.Proofs.YtcebciggodhmcaaGreat
open Go Go.AL
noncomputable abbrev P : Program := Tryz.prog
theorem order_free : P.follows .mixedOrders = true := by kernel_rfl
abbrev F.law35_ViterbiWithin : Nat := 3
theorem fn.law35_ViterbiWithin : P.funcs[F.law35_ViterbiWithin]? = some Tryz.f3 := Tryz.func3
abbrev F.law34_ForwardIsExhaustive : Nat := 4
theorem fn.law34_ForwardIsExhaustive : P.funcs[F.law34_ForwardIsExhaustive]? = some Tryz.f4 := Tryz.func4
abbrev F.law40_SampleIsFair : Nat := 5
theorem fn.law40_SampleIsFair : P.funcs[F.law40_SampleIsFair]? = some Tryz.f5 := Tryz.func5
abbrev F.law40_SampleActs : Nat := 6
theorem fn.law40_SampleActs : P.funcs[F.law40_SampleActs]? = some Tryz.f6 := Tryz.func6
abbrev F.law40_SampleIsInOrder : Nat := 7
theorem fn.law40_SampleIsInOrder : P.funcs[F.law40_SampleIsInOrder]? = some Tryz.f7 := Tryz.func7
abbrev F.law34_ForwardActs : Nat := 8
theorem fn.law34_ForwardActs : P.funcs[F.law34_ForwardActs]? = some Tryz.f8 := Tryz.func8
abbrev F.law36_CheckpointActs : Nat := 9
theorem fn.law36_CheckpointActs : P.funcs[F.law36_CheckpointActs]? = some Tryz.f9 := Tryz.func9
abbrev F.law36_CheckpointCuts : Nat := 10
theorem fn.law36_CheckpointCuts : P.funcs[F.law36_CheckpointCuts]? = some Tryz.f10 := Tryz.func10
abbrev F.law40_SampleHitsItsRange : Nat := 11
theorem fn.law40_SampleHitsItsRange : P.funcs[F.law40_SampleHitsItsRange]? = some Tryz.f11 := Tryz.func11
abbrev F.law37_OnlineSteps : Nat := 12
theorem fn.law37_OnlineSteps : P.funcs[F.law37_OnlineSteps]? = some Tryz.f12 := Tryz.func12
abbrev F.law37_OnlineScores : Nat := 13
theorem fn.law37_OnlineScores : P.funcs[F.law37_OnlineScores]? = some Tryz.f13 := Tryz.func13
abbrev F.law36_CheckpointIsViterbi : Nat := 14
theorem fn.law36_CheckpointIsViterbi : P.funcs[F.law36_CheckpointIsViterbi]? = some Tryz.f14 := Tryz.func14
abbrev F.law37_OnlineNeverTakesBack : Nat := 15
theorem fn.law37_OnlineNeverTakesBack : P.funcs[F.law37_OnlineNeverTakesBack]? = some Tryz.f15 := Tryz.func15
abbrev F.law37_OnlineActs : Nat := 16
theorem fn.law37_OnlineActs : P.funcs[F.law37_OnlineActs]? = some Tryz.f16 := Tryz.func16
abbrev F.law37_OnlineIsViterbi : Nat := 17
theorem fn.law37_OnlineIsViterbi : P.funcs[F.law37_OnlineIsViterbi]? = some Tryz.f17 := Tryz.func17
abbrev F.world_Chain_Hidden : Nat := 18
theorem fn.world_Chain_Hidden : P.funcs[F.world_Chain_Hidden]? = some Tryz.f18 := Tryz.func18
abbrev F.world_Word : Nat := 19
theorem fn.world_Word : P.funcs[F.world_Word]? = some Tryz.f19 := Tryz.func19
abbrev F.viterbi_Best : Nat := 20
theorem fn.viterbi_Best : P.funcs[F.viterbi_Best]? = some Tryz.f20 := Tryz.func20
abbrev F.world_Within : Nat := 21
theorem fn.world_Within : P.funcs[F.world_Within]? = some Tryz.f21 := Tryz.func21
abbrev F.viterbi_Within : Nat := 22
theorem fn.viterbi_Within : P.funcs[F.viterbi_Within]? = some Tryz.f22 := Tryz.func22
abbrev F.law35_known : Nat := 23
theorem fn.law35_known : P.funcs[F.law35_known]? = some Tryz.f23 := Tryz.func23
abbrev F.ref01_Compare : Nat := 24
theorem fn.ref01_Compare : P.funcs[F.ref01_Compare]? = some Tryz.f24 := Tryz.func24
abbrev F.law35_same : Nat := 25
theorem fn.law35_same : P.funcs[F.law35_same]? = some Tryz.f25 := Tryz.func25
abbrev F.forward_Likelihood : Nat := 26
theorem fn.forward_Likelihood : P.funcs[F.forward_Likelihood]? = some Tryz.f26 := Tryz.func26
abbrev F.world_Paths : Nat := 27
theorem fn.world_Paths : P.funcs[F.world_Paths]? = some Tryz.f27 := Tryz.func27
abbrev F.law34_joint : Nat := 28
theorem fn.law34_joint : P.funcs[F.law34_joint]? = some Tryz.f28 := Tryz.func28
abbrev F.ref01_Add : Nat := 29
theorem fn.ref01_Add : P.funcs[F.ref01_Add]? = some Tryz.f29 := Tryz.func29
abbrev F.forward_Posterior : Nat := 30
theorem fn.forward_Posterior : P.funcs[F.forward_Posterior]? = some Tryz.f30 := Tryz.func30
abbrev F.ref01_Sign : Nat := 31
theorem fn.ref01_Sign : P.funcs[F.ref01_Sign]? = some Tryz.f31 := Tryz.func31
abbrev F.law34_known : Nat := 32
theorem fn.law34_known : P.funcs[F.law34_known]? = some Tryz.f32 := Tryz.func32
abbrev F.ref01_Div : Nat := 33
theorem fn.ref01_Div : P.funcs[F.ref01_Div]? = some Tryz.f33 := Tryz.func33
abbrev F.sample_Draw : Nat := 34
theorem fn.sample_Draw : P.funcs[F.sample_Draw]? = some Tryz.f34 := Tryz.func34
abbrev F.law40_coins : Nat := 35
theorem fn.law40_coins : P.funcs[F.law40_coins]? = some Tryz.f35 := Tryz.func35
abbrev F.law40_known : Nat := 36
theorem fn.law40_known : P.funcs[F.law40_known]? = some Tryz.f36 := Tryz.func36
abbrev F.law40_same : Nat := 37
theorem fn.law40_same : P.funcs[F.law40_same]? = some Tryz.f37 := Tryz.func37
abbrev F.viterbi_Joint : Nat := 38
theorem fn.viterbi_Joint : P.funcs[F.viterbi_Joint]? = some Tryz.f38 := Tryz.func38
abbrev F.ref01_Mul : Nat := 39
theorem fn.ref01_Mul : P.funcs[F.ref01_Mul]? = some Tryz.f39 := Tryz.func39
abbrev F.ref33_Whole : Nat := 40
theorem fn.ref33_Whole : P.funcs[F.ref33_Whole]? = some Tryz.f40 := Tryz.func40
abbrev F.law40_light : Nat := 41
theorem fn.law40_light : P.funcs[F.law40_light]? = some Tryz.f41 := Tryz.func41
abbrev F.sample_Range : Nat := 42
theorem fn.sample_Range : P.funcs[F.sample_Range]? = some Tryz.f42 := Tryz.func42
abbrev F.ref40_Range : Nat := 43
theorem fn.ref40_Range : P.funcs[F.ref40_Range]? = some Tryz.f43 := Tryz.func43
abbrev F.ref40_Draw : Nat := 44
theorem fn.ref40_Draw : P.funcs[F.ref40_Draw]? = some Tryz.f44 := Tryz.func44
abbrev F.sample_All : Nat := 45
theorem fn.sample_All : P.funcs[F.sample_All]? = some Tryz.f45 := Tryz.func45
abbrev F.ref40_All : Nat := 46
theorem fn.ref40_All : P.funcs[F.ref40_All]? = some Tryz.f46 := Tryz.func46
abbrev F.ref40_Same : Nat := 47
theorem fn.ref40_Same : P.funcs[F.ref40_Same]? = some Tryz.f47 := Tryz.func47
abbrev F.law34_light : Nat := 48
theorem fn.law34_light : P.funcs[F.law34_light]? = some Tryz.f48 := Tryz.func48
abbrev F.forward_Forward : Nat := 49
theorem fn.forward_Forward : P.funcs[F.forward_Forward]? = some Tryz.f49 := Tryz.func49
abbrev F.ref34_Forward : Nat := 50
theorem fn.ref34_Forward : P.funcs[F.ref34_Forward]? = some Tryz.f50 := Tryz.func50
abbrev F.forward_Backward : Nat := 51
theorem fn.forward_Backward : P.funcs[F.forward_Backward]? = some Tryz.f51 := Tryz.func51
abbrev F.ref34_Backward : Nat := 52
theorem fn.ref34_Backward : P.funcs[F.ref34_Backward]? = some Tryz.f52 := Tryz.func52
abbrev F.ref34_Likelihood : Nat := 53
theorem fn.ref34_Likelihood : P.funcs[F.ref34_Likelihood]? = some Tryz.f53 := Tryz.func53
abbrev F.ref34_Posterior : Nat := 54
theorem fn.ref34_Posterior : P.funcs[F.ref34_Posterior]? = some Tryz.f54 := Tryz.func54
abbrev F.forward_Expected : Nat := 55
theorem fn.forward_Expected : P.funcs[F.forward_Expected]? = some Tryz.f55 := Tryz.func55
abbrev F.ref34_Expected : Nat := 56
theorem fn.ref34_Expected : P.funcs[F.ref34_Expected]? = some Tryz.f56 := Tryz.func56
abbrev F.law34_same : Nat := 57
theorem fn.law34_same : P.funcs[F.law34_same]? = some Tryz.f57 := Tryz.func57
abbrev F.ref33_SameRats : Nat := 58
theorem fn.ref33_SameRats : P.funcs[F.ref33_SameRats]? = some Tryz.f58 := Tryz.func58
abbrev F.law36_light : Nat := 59
theorem fn.law36_light : P.funcs[F.law36_light]? = some Tryz.f59 := Tryz.func59
abbrev F.law36_known : Nat := 60
theorem fn.law36_known : P.funcs[F.law36_known]? = some Tryz.f60 := Tryz.func60
abbrev F.checkpoint_Stored : Nat := 61
theorem fn.checkpoint_Stored : P.funcs[F.checkpoint_Stored]? = some Tryz.f61 := Tryz.func61
abbrev F.ref36_Stored : Nat := 62
theorem fn.ref36_Stored : P.funcs[F.ref36_Stored]? = some Tryz.f62 := Tryz.func62
abbrev F.checkpoint_Best : Nat := 63
theorem fn.checkpoint_Best : P.funcs[F.checkpoint_Best]? = some Tryz.f63 := Tryz.func63
abbrev F.ref36_Best : Nat := 64
theorem fn.ref36_Best : P.funcs[F.ref36_Best]? = some Tryz.f64 := Tryz.func64
abbrev F.checkpoint_Columns : Nat := 65
theorem fn.checkpoint_Columns : P.funcs[F.checkpoint_Columns]? = some Tryz.f65 := Tryz.func65
abbrev F.ref36_Columns : Nat := 66
theorem fn.ref36_Columns : P.funcs[F.ref36_Columns]? = some Tryz.f66 := Tryz.func66
abbrev F.law36_same : Nat := 67
theorem fn.law36_same : P.funcs[F.law36_same]? = some Tryz.f67 := Tryz.func67
abbrev F.law36_columns : Nat := 68
theorem fn.law36_columns : P.funcs[F.law36_columns]? = some Tryz.f68 := Tryz.func68
abbrev F.ref35_Best : Nat := 69
theorem fn.ref35_Best : P.funcs[F.ref35_Best]? = some Tryz.f69 := Tryz.func69
abbrev F.ref01_Sub : Nat := 70
theorem fn.ref01_Sub : P.funcs[F.ref01_Sub]? = some Tryz.f70 := Tryz.func70
abbrev F.law40_number : Nat := 71
theorem fn.law40_number : P.funcs[F.law40_number]? = some Tryz.f71 := Tryz.func71
abbrev F.online_Open : Nat := 72
theorem fn.online_Open : P.funcs[F.online_Open]? = some Tryz.f72 := Tryz.func72
abbrev F.ref37_Open : Nat := 73
theorem fn.ref37_Open : P.funcs[F.ref37_Open]? = some Tryz.f73 := Tryz.func73
abbrev F.online_Push : Nat := 74
theorem fn.online_Push : P.funcs[F.online_Push]? = some Tryz.f74 := Tryz.func74
abbrev F.ref37_Push : Nat := 75
theorem fn.ref37_Push : P.funcs[F.ref37_Push]? = some Tryz.f75 := Tryz.func75
abbrev F.ref37_Same : Nat := 76
theorem fn.ref37_Same : P.funcs[F.ref37_Same]? = some Tryz.f76 := Tryz.func76
abbrev F.law37_known : Nat := 77
theorem fn.law37_known : P.funcs[F.law37_known]? = some Tryz.f77 := Tryz.func77
abbrev F.law37_same : Nat := 78
theorem fn.law37_same : P.funcs[F.law37_same]? = some Tryz.f78 := Tryz.func78
abbrev F.online_Valid : Nat := 79
theorem fn.online_Valid : P.funcs[F.online_Valid]? = some Tryz.f79 := Tryz.func79
abbrev F.ref35_Ways : Nat := 80
theorem fn.ref35_Ways : P.funcs[F.ref35_Ways]? = some Tryz.f80 := Tryz.func80
abbrev F.law37_light : Nat := 81
theorem fn.law37_light : P.funcs[F.law37_light]? = some Tryz.f81 := Tryz.func81
abbrev F.online_Finish : Nat := 82
theorem fn.online_Finish : P.funcs[F.online_Finish]? = some Tryz.f82 := Tryz.func82
abbrev F.ref37_Finish : Nat := 83
theorem fn.ref37_Finish : P.funcs[F.ref37_Finish]? = some Tryz.f83 := Tryz.func83
abbrev F.online_Run : Nat := 84
theorem fn.online_Run : P.funcs[F.online_Run]? = some Tryz.f84 := Tryz.func84
abbrev F.ref37_Run : Nat := 85
theorem fn.ref37_Run : P.funcs[F.ref37_Run]? = some Tryz.f85 := Tryz.func85
abbrev F.ref37_Valid : Nat := 86
theorem fn.ref37_Valid : P.funcs[F.ref37_Valid]? = some Tryz.f86 := Tryz.func86
abbrev F.world_Chain_made : Nat := 87
theorem fn.world_Chain_made : P.funcs[F.world_Chain_made]? = some Tryz.f87 := Tryz.func87
abbrev F.viterbi_refuse : Nat := 88
theorem fn.viterbi_refuse : P.funcs[F.viterbi_refuse]? = some Tryz.f88 := Tryz.func88
abbrev F.viterbi_newTable : Nat := 89
theorem fn.viterbi_newTable : P.funcs[F.viterbi_newTable]? = some Tryz.f89 := Tryz.func89
abbrev F.viterbi_every : Nat := 90
theorem fn.viterbi_every : P.funcs[F.viterbi_every]? = some Tryz.f90 := Tryz.func90
abbrev F.viterbi_table_path : Nat := 91
theorem fn.viterbi_table_path : P.funcs[F.viterbi_table_path]? = some Tryz.f91 := Tryz.func91
abbrev F.slices_ContainsFunc_ints_ints : Nat := 92
theorem fn.slices_ContainsFunc_ints_ints : P.funcs[F.slices_ContainsFunc_ints_ints]? = some Tryz.f92 := Tryz.func92
abbrev F.viterbi_Within_1 : Nat := 93
theorem fn.viterbi_Within_1 : P.funcs[F.viterbi_Within_1]? = some Tryz.f93 := Tryz.func93
abbrev F.viterbi_states : Nat := 94
theorem fn.viterbi_states : P.funcs[F.viterbi_states]? = some Tryz.f94 := Tryz.func94
abbrev F.viterbi_Within_2 : Nat := 95
theorem fn.viterbi_Within_2 : P.funcs[F.viterbi_Within_2]? = some Tryz.f95 := Tryz.func95
abbrev F.slices_Contains_ints_int : Nat := 96
theorem fn.slices_Contains_ints_int : P.funcs[F.slices_Contains_ints_int]? = some Tryz.f96 := Tryz.func96
abbrev F.law35_pair : Nat := 97
theorem fn.law35_pair : P.funcs[F.law35_pair]? = some Tryz.f97 := Tryz.func97
abbrev F.ref01_Make : Nat := 98
theorem fn.ref01_Make : P.funcs[F.ref01_Make]? = some Tryz.f98 := Tryz.func98
abbrev F.forward_refuse : Nat := 99
theorem fn.forward_refuse : P.funcs[F.forward_refuse]? = some Tryz.f99 := Tryz.func99
abbrev F.forward_likelihood : Nat := 100
theorem fn.forward_likelihood : P.funcs[F.forward_likelihood]? = some Tryz.f100 := Tryz.func100
abbrev F.ref01_Take : Nat := 101
theorem fn.ref01_Take : P.funcs[F.ref01_Take]? = some Tryz.f101 := Tryz.func101
abbrev F.ref01_times : Nat := 102
theorem fn.ref01_times : P.funcs[F.ref01_times]? = some Tryz.f102 := Tryz.func102
abbrev F.ref01_den : Nat := 103
theorem fn.ref01_den : P.funcs[F.ref01_den]? = some Tryz.f103 := Tryz.func103
abbrev F.ref01_over : Nat := 104
theorem fn.ref01_over : P.funcs[F.ref01_over]? = some Tryz.f104 := Tryz.func104
abbrev F.ref01_plus : Nat := 105
theorem fn.ref01_plus : P.funcs[F.ref01_plus]? = some Tryz.f105 := Tryz.func105
abbrev F.ref01_compare : Nat := 106
theorem fn.ref01_compare : P.funcs[F.ref01_compare]? = some Tryz.f106 := Tryz.func106
abbrev F.ref01_minus : Nat := 107
theorem fn.ref01_minus : P.funcs[F.ref01_minus]? = some Tryz.f107 := Tryz.func107
abbrev F.rational_Sign : Nat := 108
theorem fn.rational_Sign : P.funcs[F.rational_Sign]? = some Tryz.f108 := Tryz.func108
abbrev F.forward_forward : Nat := 109
theorem fn.forward_forward : P.funcs[F.forward_forward]? = some Tryz.f109 := Tryz.func109
abbrev F.forward_backward : Nat := 110
theorem fn.forward_backward : P.funcs[F.forward_backward]? = some Tryz.f110 := Tryz.func110
abbrev F.rational_Div : Nat := 111
theorem fn.rational_Div : P.funcs[F.rational_Div]? = some Tryz.f111 := Tryz.func111
abbrev F.rational_Mul : Nat := 112
theorem fn.rational_Mul : P.funcs[F.rational_Mul]? = some Tryz.f112 := Tryz.func112
abbrev F.ref01_Quo : Nat := 113
theorem fn.ref01_Quo : P.funcs[F.ref01_Quo]? = some Tryz.f113 := Tryz.func113
abbrev F.sample_refuse : Nat := 114
theorem fn.sample_refuse : P.funcs[F.sample_refuse]? = some Tryz.f114 := Tryz.func114
abbrev F.slices_ContainsFunc_ints_int : Nat := 115
theorem fn.slices_ContainsFunc_ints_int : P.funcs[F.slices_ContainsFunc_ints_int]? = some Tryz.f115 := Tryz.func115
abbrev F.sample_Draw_1 : Nat := 116
theorem fn.sample_Draw_1 : P.funcs[F.sample_Draw_1]? = some Tryz.f116 := Tryz.func116
abbrev F.sample_draw : Nat := 117
theorem fn.sample_draw : P.funcs[F.sample_draw]? = some Tryz.f117 := Tryz.func117
abbrev F.law40_coin : Nat := 118
theorem fn.law40_coin : P.funcs[F.law40_coin]? = some Tryz.f118 := Tryz.func118
abbrev F.fresh_Rat : Nat := 119
theorem fn.fresh_Rat : P.funcs[F.fresh_Rat]? = some Tryz.f119 := Tryz.func119
abbrev F.viterbi_enter : Nat := 120
theorem fn.viterbi_enter : P.funcs[F.viterbi_enter]? = some Tryz.f120 := Tryz.func120
abbrev F.words_Valid : Nat := 121
theorem fn.words_Valid : P.funcs[F.words_Valid]? = some Tryz.f121 := Tryz.func121
abbrev F.sample_Range_1 : Nat := 122
theorem fn.sample_Range_1 : P.funcs[F.sample_Range_1]? = some Tryz.f122 := Tryz.func122
abbrev F.sample_one : Nat := 123
theorem fn.sample_one : P.funcs[F.sample_one]? = some Tryz.f123 := Tryz.func123
abbrev F.sample_span_part : Nat := 124
theorem fn.sample_span_part : P.funcs[F.sample_span_part]? = some Tryz.f124 := Tryz.func124
abbrev F.sample_next : Nat := 125
theorem fn.sample_next : P.funcs[F.sample_next]? = some Tryz.f125 := Tryz.func125
abbrev F.rational_Add : Nat := 126
theorem fn.rational_Add : P.funcs[F.rational_Add]? = some Tryz.f126 := Tryz.func126
abbrev F.ref33_Check : Nat := 127
theorem fn.ref33_Check : P.funcs[F.ref33_Check]? = some Tryz.f127 := Tryz.func127
abbrev F.ref05_Valid : Nat := 128
theorem fn.ref05_Valid : P.funcs[F.ref05_Valid]? = some Tryz.f128 := Tryz.func128
abbrev F.ref40_unit : Nat := 129
theorem fn.ref40_unit : P.funcs[F.ref40_unit]? = some Tryz.f129 := Tryz.func129
abbrev F.ref40_beginnings : Nat := 130
theorem fn.ref40_beginnings : P.funcs[F.ref40_beginnings]? = some Tryz.f130 := Tryz.func130
abbrev F.ref40_part : Nat := 131
theorem fn.ref40_part : P.funcs[F.ref40_part]? = some Tryz.f131 := Tryz.func131
abbrev F.ref40_symbols : Nat := 132
theorem fn.ref40_symbols : P.funcs[F.ref40_symbols]? = some Tryz.f132 := Tryz.func132
abbrev F.ref40_moves : Nat := 133
theorem fn.ref40_moves : P.funcs[F.ref40_moves]? = some Tryz.f133 := Tryz.func133
abbrev F.ref40_reader_choose : Nat := 134
theorem fn.ref40_reader_choose : P.funcs[F.ref40_reader_choose]? = some Tryz.f134 := Tryz.func134
abbrev F.slices_Equal_ints_int : Nat := 135
theorem fn.slices_Equal_ints_int : P.funcs[F.slices_Equal_ints_int]? = some Tryz.f135 := Tryz.func135
abbrev F.ref05_Compare : Nat := 136
theorem fn.ref05_Compare : P.funcs[F.ref05_Compare]? = some Tryz.f136 := Tryz.func136
abbrev F.ref34_Check : Nat := 137
theorem fn.ref34_Check : P.funcs[F.ref34_Check]? = some Tryz.f137 := Tryz.func137
abbrev F.forward_zeros : Nat := 138
theorem fn.forward_zeros : P.funcs[F.forward_zeros]? = some Tryz.f138 := Tryz.func138
abbrev F.law36_pair : Nat := 139
theorem fn.law36_pair : P.funcs[F.law36_pair]? = some Tryz.f139 := Tryz.func139
abbrev F.checkpoint_refuse : Nat := 140
theorem fn.checkpoint_refuse : P.funcs[F.checkpoint_refuse]? = some Tryz.f140 := Tryz.func140
abbrev F.checkpoint_before : Nat := 141
theorem fn.checkpoint_before : P.funcs[F.checkpoint_before]? = some Tryz.f141 := Tryz.func141
abbrev F.checkpoint_ahead : Nat := 142
theorem fn.checkpoint_ahead : P.funcs[F.checkpoint_ahead]? = some Tryz.f142 := Tryz.func142
abbrev F.checkpoint_share : Nat := 143
theorem fn.checkpoint_share : P.funcs[F.checkpoint_share]? = some Tryz.f143 := Tryz.func143
abbrev F.checkpoint_after : Nat := 144
theorem fn.checkpoint_after : P.funcs[F.checkpoint_after]? = some Tryz.f144 := Tryz.func144
abbrev F.ref33_Chance : Nat := 145
theorem fn.ref33_Chance : P.funcs[F.ref33_Chance]? = some Tryz.f145 := Tryz.func145
abbrev F.ref35_list : Nat := 146
theorem fn.ref35_list : P.funcs[F.ref35_list]? = some Tryz.f146 := Tryz.func146
abbrev F.ref01_Neg : Nat := 147
theorem fn.ref01_Neg : P.funcs[F.ref01_Neg]? = some Tryz.f147 := Tryz.func147
abbrev F.online_refuse : Nat := 148
theorem fn.online_refuse : P.funcs[F.online_refuse]? = some Tryz.f148 := Tryz.func148
abbrev F.fresh_Hidden : Nat := 149
theorem fn.fresh_Hidden : P.funcs[F.fresh_Hidden]? = some Tryz.f149 := Tryz.func149
abbrev F.rational_Compare : Nat := 150
theorem fn.rational_Compare : P.funcs[F.rational_Compare]? = some Tryz.f150 := Tryz.func150
abbrev F.slices_Compare_ints_int : Nat := 151
theorem fn.slices_Compare_ints_int : P.funcs[F.slices_Compare_ints_int]? = some Tryz.f151 := Tryz.func151
abbrev F.online_alive : Nat := 152
theorem fn.online_alive : P.funcs[F.online_alive]? = some Tryz.f152 := Tryz.func152
abbrev F.slices_Clone_ints_int : Nat := 153
theorem fn.slices_Clone_ints_int : P.funcs[F.slices_Clone_ints_int]? = some Tryz.f153 := Tryz.func153
abbrev F.online_common : Nat := 154
theorem fn.online_common : P.funcs[F.online_common]? = some Tryz.f154 := Tryz.func154
abbrev F.slices_Concat_ints_int : Nat := 155
theorem fn.slices_Concat_ints_int : P.funcs[F.slices_Concat_ints_int]? = some Tryz.f155 := Tryz.func155
abbrev F.ref37_common : Nat := 156
theorem fn.ref37_common : P.funcs[F.ref37_common]? = some Tryz.f156 := Tryz.func156
abbrev F.ref37_live : Nat := 157
theorem fn.ref37_live : P.funcs[F.ref37_live]? = some Tryz.f157 := Tryz.func157
abbrev F.ref33_Same : Nat := 158
theorem fn.ref33_Same : P.funcs[F.ref33_Same]? = some Tryz.f158 := Tryz.func158
abbrev F.law37_pair : Nat := 159
theorem fn.law37_pair : P.funcs[F.law37_pair]? = some Tryz.f159 := Tryz.func159
abbrev F.hmm_Plain : Nat := 160
theorem fn.hmm_Plain : P.funcs[F.hmm_Plain]? = some Tryz.f160 := Tryz.func160
abbrev F.online_share : Nat := 161
theorem fn.online_share : P.funcs[F.online_share]? = some Tryz.f161 := Tryz.func161
abbrev F.online_fitting : Nat := 162
theorem fn.online_fitting : P.funcs[F.online_fitting]? = some Tryz.f162 := Tryz.func162
abbrev F.ref35_in : Nat := 163
theorem fn.ref35_in : P.funcs[F.ref35_in]? = some Tryz.f163 := Tryz.func163
abbrev F.ref35_put : Nat := 164
theorem fn.ref35_put : P.funcs[F.ref35_put]? = some Tryz.f164 := Tryz.func164
abbrev F.slices_Repeat_ints_int : Nat := 165
theorem fn.slices_Repeat_ints_int : P.funcs[F.slices_Repeat_ints_int]? = some Tryz.f165 := Tryz.func165
abbrev F.ref33_Plain : Nat := 166
theorem fn.ref33_Plain : P.funcs[F.ref33_Plain]? = some Tryz.f166 := Tryz.func166
abbrev F.ref37_good : Nat := 167
theorem fn.ref37_good : P.funcs[F.ref37_good]? = some Tryz.f167 := Tryz.func167
abbrev F.world_Shares : Nat := 168
theorem fn.world_Shares : P.funcs[F.world_Shares]? = some Tryz.f168 := Tryz.func168
abbrev F.world_Tape_Next : Nat := 169
theorem fn.world_Tape_Next : P.funcs[F.world_Tape_Next]? = some Tryz.f169 := Tryz.func169
abbrev F.world_sameRats : Nat := 170
theorem fn.world_sameRats : P.funcs[F.world_sameRats]? = some Tryz.f170 := Tryz.func170
abbrev F.hmm_Valid : Nat := 171
theorem fn.hmm_Valid : P.funcs[F.hmm_Valid]? = some Tryz.f171 := Tryz.func171
abbrev F.viterbi_table_best : Nat := 172
theorem fn.viterbi_table_best : P.funcs[F.viterbi_table_best]? = some Tryz.f172 := Tryz.func172
abbrev F.slices_IndexFunc_ints_ints : Nat := 173
theorem fn.slices_IndexFunc_ints_ints : P.funcs[F.slices_IndexFunc_ints_ints]? = some Tryz.f173 := Tryz.func173
abbrev F.viterbi_states_1 : Nat := 174
theorem fn.viterbi_states_1 : P.funcs[F.viterbi_states_1]? = some Tryz.f174 := Tryz.func174
abbrev F.slices_Index_ints_int : Nat := 175
theorem fn.slices_Index_ints_int : P.funcs[F.slices_Index_ints_int]? = some Tryz.f175 := Tryz.func175
abbrev F.ref01_natural : Nat := 176
theorem fn.ref01_natural : P.funcs[F.ref01_natural]? = some Tryz.f176 := Tryz.func176
abbrev F.ref01_absolute : Nat := 177
theorem fn.ref01_absolute : P.funcs[F.ref01_absolute]? = some Tryz.f177 := Tryz.func177
abbrev F.ref01_Valid : Nat := 178
theorem fn.ref01_Valid : P.funcs[F.ref01_Valid]? = some Tryz.f178 := Tryz.func178
abbrev F.ref01_trim : Nat := 179
theorem fn.ref01_trim : P.funcs[F.ref01_trim]? = some Tryz.f179 := Tryz.func179
abbrev F.ref01_divisor : Nat := 180
theorem fn.ref01_divisor : P.funcs[F.ref01_divisor]? = some Tryz.f180 := Tryz.func180
abbrev F.ref01_divide : Nat := 181
theorem fn.ref01_divide : P.funcs[F.ref01_divide]? = some Tryz.f181 := Tryz.func181
abbrev F.ref01_one : Nat := 182
theorem fn.ref01_one : P.funcs[F.ref01_one]? = some Tryz.f182 := Tryz.func182
abbrev F.ref01_limb : Nat := 183
theorem fn.ref01_limb : P.funcs[F.ref01_limb]? = some Tryz.f183 := Tryz.func183
abbrev F.ref01_sign : Nat := 184
theorem fn.ref01_sign : P.funcs[F.ref01_sign]? = some Tryz.f184 := Tryz.func184
abbrev F.rational_of : Nat := 185
theorem fn.rational_of : P.funcs[F.rational_of]? = some Tryz.f185 := Tryz.func185
abbrev F.rational_limbs_times : Nat := 186
theorem fn.rational_limbs_times : P.funcs[F.rational_limbs_times]? = some Tryz.f186 := Tryz.func186
abbrev F.rational_fraction_rat : Nat := 187
theorem fn.rational_fraction_rat : P.funcs[F.rational_fraction_rat]? = some Tryz.f187 := Tryz.func187
abbrev F.slices_IndexFunc_ints_int : Nat := 188
theorem fn.slices_IndexFunc_ints_int : P.funcs[F.slices_IndexFunc_ints_int]? = some Tryz.f188 := Tryz.func188
abbrev F.sample_reader_choose : Nat := 189
theorem fn.sample_reader_choose : P.funcs[F.sample_reader_choose]? = some Tryz.f189 := Tryz.func189
abbrev F.slices_Clone_uint32s_uint32 : Nat := 190
theorem fn.slices_Clone_uint32s_uint32 : P.funcs[F.slices_Clone_uint32s_uint32]? = some Tryz.f190 := Tryz.func190
abbrev F.rational_Make : Nat := 191
theorem fn.rational_Make : P.funcs[F.rational_Make]? = some Tryz.f191 := Tryz.func191
abbrev F.slices_Clone_Rats_Rat : Nat := 192
theorem fn.slices_Clone_Rats_Rat : P.funcs[F.slices_Clone_Rats_Rat]? = some Tryz.f192 := Tryz.func192
abbrev F.rational_fraction_plus : Nat := 193
theorem fn.rational_fraction_plus : P.funcs[F.rational_fraction_plus]? = some Tryz.f193 := Tryz.func193
abbrev F.ref33_Valid : Nat := 194
theorem fn.ref33_Valid : P.funcs[F.ref33_Valid]? = some Tryz.f194 := Tryz.func194
abbrev F.ref05_Alphabet : Nat := 195
theorem fn.ref05_Alphabet : P.funcs[F.ref05_Alphabet]? = some Tryz.f195 := Tryz.func195
abbrev F.ref33_Sum : Nat := 196
theorem fn.ref33_Sum : P.funcs[F.ref33_Sum]? = some Tryz.f196 := Tryz.func196
abbrev F.ref40_half : Nat := 197
theorem fn.ref40_half : P.funcs[F.ref40_half]? = some Tryz.f197 := Tryz.func197
abbrev F.rational_Valid : Nat := 198
theorem fn.rational_Valid : P.funcs[F.rational_Valid]? = some Tryz.f198 := Tryz.func198
abbrev F.fresh_Rats : Nat := 199
theorem fn.fresh_Rats : P.funcs[F.fresh_Rats]? = some Tryz.f199 := Tryz.func199
abbrev F.fresh_Rows : Nat := 200
theorem fn.fresh_Rows : P.funcs[F.fresh_Rows]? = some Tryz.f200 := Tryz.func200
abbrev F.slices_Clone_bools_bool : Nat := 201
theorem fn.slices_Clone_bools_bool : P.funcs[F.slices_Clone_bools_bool]? = some Tryz.f201 := Tryz.func201
abbrev F.rational_Sub : Nat := 202
theorem fn.rational_Sub : P.funcs[F.rational_Sub]? = some Tryz.f202 := Tryz.func202
abbrev F.cmp_Compare_int : Nat := 203
theorem fn.cmp_Compare_int : P.funcs[F.cmp_Compare_int]? = some Tryz.f203 := Tryz.func203
abbrev F.slices_Grow_ints_int : Nat := 204
theorem fn.slices_Grow_ints_int : P.funcs[F.slices_Grow_ints_int]? = some Tryz.f204 := Tryz.func204
abbrev F.ref01_Same : Nat := 205
theorem fn.ref01_Same : P.funcs[F.ref01_Same]? = some Tryz.f205 := Tryz.func205
abbrev F.ref33_fields : Nat := 206
theorem fn.ref33_fields : P.funcs[F.ref33_fields]? = some Tryz.f206 := Tryz.func206
abbrev F.slices_Contains_bools_bool : Nat := 207
theorem fn.slices_Contains_bools_bool : P.funcs[F.slices_Contains_bools_bool]? = some Tryz.f207 := Tryz.func207
abbrev F.online_fitting_1 : Nat := 208
theorem fn.online_fitting_1 : P.funcs[F.online_fitting_1]? = some Tryz.f208 := Tryz.func208
abbrev F.ref35_Before : Nat := 209
theorem fn.ref35_Before : P.funcs[F.ref35_Before]? = some Tryz.f209 := Tryz.func209
abbrev F.math_bits_Mul : Nat := 210
theorem fn.math_bits_Mul : P.funcs[F.math_bits_Mul]? = some Tryz.f210 := Tryz.func210
abbrev F.hmm_formed : Nat := 211
theorem fn.hmm_formed : P.funcs[F.hmm_formed]? = some Tryz.f211 := Tryz.func211
abbrev F.hmm_sums : Nat := 212
theorem fn.hmm_sums : P.funcs[F.hmm_sums]? = some Tryz.f212 := Tryz.func212
abbrev F.hmm_order : Nat := 213
theorem fn.hmm_order : P.funcs[F.hmm_order]? = some Tryz.f213 := Tryz.func213
abbrev F.hmm_tied : Nat := 214
theorem fn.hmm_tied : P.funcs[F.hmm_tied]? = some Tryz.f214 := Tryz.func214
abbrev F.rational_one : Nat := 215
theorem fn.rational_one : P.funcs[F.rational_one]? = some Tryz.f215 := Tryz.func215
abbrev F.rational_limbs_at : Nat := 216
theorem fn.rational_limbs_at : P.funcs[F.rational_limbs_at]? = some Tryz.f216 := Tryz.func216
abbrev F.rational_limbs_clean : Nat := 217
theorem fn.rational_limbs_clean : P.funcs[F.rational_limbs_clean]? = some Tryz.f217 := Tryz.func217
abbrev F.slices_Clone_rational_limbs_uint32 : Nat := 218
theorem fn.slices_Clone_rational_limbs_uint32 : P.funcs[F.slices_Clone_rational_limbs_uint32]? = some Tryz.f218 := Tryz.func218
abbrev F.rational_limbs_gcd : Nat := 219
theorem fn.rational_limbs_gcd : P.funcs[F.rational_limbs_gcd]? = some Tryz.f219 := Tryz.func219
abbrev F.rational_limbs_cmp : Nat := 220
theorem fn.rational_limbs_cmp : P.funcs[F.rational_limbs_cmp]? = some Tryz.f220 := Tryz.func220
abbrev F.rational_limbs_over : Nat := 221
theorem fn.rational_limbs_over : P.funcs[F.rational_limbs_over]? = some Tryz.f221 := Tryz.func221
abbrev F.sample_span_inside : Nat := 222
theorem fn.sample_span_inside : P.funcs[F.sample_span_inside]? = some Tryz.f222 := Tryz.func222
abbrev F.rational_whole : Nat := 223
theorem fn.rational_whole : P.funcs[F.rational_whole]? = some Tryz.f223 := Tryz.func223
abbrev F.rational_limbs_plus : Nat := 224
theorem fn.rational_limbs_plus : P.funcs[F.rational_limbs_plus]? = some Tryz.f224 := Tryz.func224
abbrev F.rational_limbs_minus : Nat := 225
theorem fn.rational_limbs_minus : P.funcs[F.rational_limbs_minus]? = some Tryz.f225 := Tryz.func225
abbrev F.ref33_formed : Nat := 226
theorem fn.ref33_formed : P.funcs[F.ref33_formed]? = some Tryz.f226 := Tryz.func226
abbrev F.ref33_one : Nat := 227
theorem fn.ref33_one : P.funcs[F.ref33_one]? = some Tryz.f227 := Tryz.func227
abbrev F.ref33_circles : Nat := 228
theorem fn.ref33_circles : P.funcs[F.ref33_circles]? = some Tryz.f228 := Tryz.func228
abbrev F.rational_proper : Nat := 229
theorem fn.rational_proper : P.funcs[F.rational_proper]? = some Tryz.f229 := Tryz.func229
abbrev F.fresh_each_Rat : Nat := 230
theorem fn.fresh_each_Rat : P.funcs[F.fresh_each_Rat]? = some Tryz.f230 := Tryz.func230
abbrev F.fresh_each_Rats : Nat := 231
theorem fn.fresh_each_Rats : P.funcs[F.fresh_each_Rats]? = some Tryz.f231 := Tryz.func231
abbrev F.rational_fraction_negative : Nat := 232
theorem fn.rational_fraction_negative : P.funcs[F.rational_fraction_negative]? = some Tryz.f232 := Tryz.func232
abbrev F.cmp_isNaN_int : Nat := 233
theorem fn.cmp_isNaN_int : P.funcs[F.cmp_isNaN_int]? = some Tryz.f233 := Tryz.func233
abbrev F.ref01_same : Nat := 234
theorem fn.ref01_same : P.funcs[F.ref01_same]? = some Tryz.f234 := Tryz.func234
abbrev F.slices_Index_bools_bool : Nat := 235
theorem fn.slices_Index_bools_bool : P.funcs[F.slices_Index_bools_bool]? = some Tryz.f235 := Tryz.func235
abbrev F.math_bits_Mul32 : Nat := 236
theorem fn.math_bits_Mul32 : P.funcs[F.math_bits_Mul32]? = some Tryz.f236 := Tryz.func236
abbrev F.math_bits_Mul64 : Nat := 237
theorem fn.math_bits_Mul64 : P.funcs[F.math_bits_Mul64]? = some Tryz.f237 := Tryz.func237
abbrev F.hmm_share : Nat := 238
theorem fn.hmm_share : P.funcs[F.hmm_share]? = some Tryz.f238 := Tryz.func238
abbrev F.hmm_shares : Nat := 239
theorem fn.hmm_shares : P.funcs[F.hmm_shares]? = some Tryz.f239 := Tryz.func239
abbrev F.hmm_whole : Nat := 240
theorem fn.hmm_whole : P.funcs[F.hmm_whole]? = some Tryz.f240 := Tryz.func240
abbrev F.hmm_order_1 : Nat := 241
theorem fn.hmm_order_1 : P.funcs[F.hmm_order_1]? = some Tryz.f241 := Tryz.func241
abbrev F.slices_Reverse_ints_int : Nat := 242
theorem fn.slices_Reverse_ints_int : P.funcs[F.slices_Reverse_ints_int]? = some Tryz.f242 := Tryz.func242
abbrev F.hmm_equal : Nat := 243
theorem fn.hmm_equal : P.funcs[F.hmm_equal]? = some Tryz.f243 := Tryz.func243
abbrev F.rational_limbs_small : Nat := 244
theorem fn.rational_limbs_small : P.funcs[F.rational_limbs_small]? = some Tryz.f244 := Tryz.func244
abbrev F.rational_limbs_length : Nat := 245
theorem fn.rational_limbs_length : P.funcs[F.rational_limbs_length]? = some Tryz.f245 := Tryz.func245
abbrev F.rational_limbs_left : Nat := 246
theorem fn.rational_limbs_left : P.funcs[F.rational_limbs_left]? = some Tryz.f246 := Tryz.func246
abbrev F.rational_limbs_right : Nat := 247
theorem fn.rational_limbs_right : P.funcs[F.rational_limbs_right]? = some Tryz.f247 := Tryz.func247
abbrev F.ref33_chances : Nat := 248
theorem fn.ref33_chances : P.funcs[F.ref33_chances]? = some Tryz.f248 := Tryz.func248
abbrev F.hmm_one : Nat := 249
theorem fn.hmm_one : P.funcs[F.hmm_one]? = some Tryz.f249 := Tryz.func249
abbrev F.slices_ContainsFunc_Rats_Rat : Nat := 250
theorem fn.slices_ContainsFunc_Rats_Rat : P.funcs[F.slices_ContainsFunc_Rats_Rat]? = some Tryz.f250 := Tryz.func250
abbrev F.hmm_shares_1 : Nat := 251
theorem fn.hmm_shares_1 : P.funcs[F.hmm_shares_1]? = some Tryz.f251 := Tryz.func251
abbrev F.slices_Concat_Rats_Rat : Nat := 252
theorem fn.slices_Concat_Rats_Rat : P.funcs[F.slices_Concat_Rats_Rat]? = some Tryz.f252 := Tryz.func252
abbrev F.slices_EqualFunc_Rats_Rats_Rat_Rat : Nat := 253
theorem fn.slices_EqualFunc_Rats_Rats_Rat_Rat : P.funcs[F.slices_EqualFunc_Rats_Rats_Rat_Rat]? = some Tryz.f253 := Tryz.func253
abbrev F.hmm_equal_1 : Nat := 254
theorem fn.hmm_equal_1 : P.funcs[F.hmm_equal_1]? = some Tryz.f254 := Tryz.func254
abbrev F.math_bits_LeadingZeros32 : Nat := 255
theorem fn.math_bits_LeadingZeros32 : P.funcs[F.math_bits_LeadingZeros32]? = some Tryz.f255 := Tryz.func255
abbrev F.slices_IndexFunc_Rats_Rat : Nat := 256
theorem fn.slices_IndexFunc_Rats_Rat : P.funcs[F.slices_IndexFunc_Rats_Rat]? = some Tryz.f256 := Tryz.func256
abbrev F.slices_Grow_Rats_Rat : Nat := 257
theorem fn.slices_Grow_Rats_Rat : P.funcs[F.slices_Grow_Rats_Rat]? = some Tryz.f257 := Tryz.func257
abbrev F.math_bits_Len32 : Nat := 258
theorem fn.math_bits_Len32 : P.funcs[F.math_bits_Len32]? = some Tryz.f258 := Tryz.func258
abbrev F.world_Tape_More : Nat := 274
theorem fn.world_Tape_More : P.funcs[F.world_Tape_More]? = some Tryz.f274 := Tryz.func274
abbrev F.rational_limbs_digits : Nat := 275
theorem fn.rational_limbs_digits : P.funcs[F.rational_limbs_digits]? = some Tryz.f275 := Tryz.func275
abbrev T.i64 : Nat := 2
theorem ce.i64 : CellT P 2 := ⟨by kernel_rfl, by kernel_rfl⟩
theorem it.i64 : IntT P 2 .i64 := ⟨by kernel_rfl⟩
theorem z.i64 : ZeroT P 2 [.d (.sc (.int .i64 0))] := ⟨by kernel_rfl⟩
theorem sz.i64 : (P.info? 2).map (·.size) = some 1 := by kernel_rfl
abbrev T.int : Nat := 3
theorem ce.int : CellT P 3 := ⟨by kernel_rfl, by kernel_rfl⟩
theorem it.int : IntT P 3 .i64 := ⟨by kernel_rfl⟩
theorem z.int : ZeroT P 3 [.d (.sc (.int .i64 0))] := ⟨by kernel_rfl⟩
theorem sz.int : (P.info? 3).map (·.size) = some 1 := by kernel_rfl
abbrev T.bool : Nat := 4
theorem ce.bool : CellT P 4 := ⟨by kernel_rfl, by kernel_rfl⟩
theorem bt.bool : BoolT P 4 := ⟨by kernel_rfl⟩
theorem z.bool : ZeroT P 4 [.d (.sc (.bool false))] := ⟨by kernel_rfl⟩
theorem sz.bool : (P.info? 4).map (·.size) = some 1 := by kernel_rfl
abbrev T.u8 : Nat := 5
theorem ce.u8 : CellT P 5 := ⟨by kernel_rfl, by kernel_rfl⟩
theorem it.u8 : IntT P 5 .u8 := ⟨by kernel_rfl⟩
theorem z.u8 : ZeroT P 5 [.d (.sc (.int .u8 0))] := ⟨by kernel_rfl⟩
theorem sz.u8 : (P.info? 5).map (·.size) = some 1 := by kernel_rfl
abbrev T.ints : Nat := 22
theorem sl.ints : SliceT P 22 3 1 8 := ⟨by kernel_rfl, by kernel_rfl, by decide⟩
theorem ce.ints : CellT P 22 := ⟨by kernel_rfl, by kernel_rfl⟩
theorem z.ints : ZeroT P 22 [.mt] := ⟨by kernel_rfl⟩
theorem sz.ints : (P.info? 22).map (·.size) = some 1 := by kernel_rfl
abbrev T.Chain : Nat := 24
theorem ag.Chain : AggT P 24 3 := ⟨by kernel_rfl, by kernel_rfl⟩
theorem fd.Chain_0 : FieldT P 24 0 0 := ⟨by kernel_rfl⟩
theorem fd.Chain_1 : FieldT P 24 1 1 := ⟨by kernel_rfl⟩
theorem fd.Chain_2 : FieldT P 24 2 2 := ⟨by kernel_rfl⟩
theorem z.Chain : ZeroT P 24 [.d (.sc (.int .i64 0)), .d (.sc (.int .i64 0)), .mt] := ⟨by kernel_rfl⟩
theorem pl.Chain : PlacesT P 24 [(0, 1), (1, 1), (2, 1)] := ⟨by kernel_rfl⟩
theorem sz.Chain : (P.info? 24).map (·.size) = some 3 := by kernel_rfl
abbrev T.u32s : Nat := 25
theorem sl.u32s : SliceT P 25 172 1 4 := ⟨by kernel_rfl, by kernel_rfl, by decide⟩
theorem ce.u32s : CellT P 25 := ⟨by kernel_rfl, by kernel_rfl⟩
theorem z.u32s : ZeroT P 25 [.mt] := ⟨by kernel_rfl⟩
theorem sz.u32s : (P.info? 25).map (·.size) = some 1 := by kernel_rfl
abbrev T.Rat : Nat := 27
theorem ag.Rat : AggT P 27 3 := ⟨by kernel_rfl, by kernel_rfl⟩
theorem fd.Rat_0 : FieldT P 27 0 0 := ⟨by kernel_rfl⟩
theorem fd.Rat_1 : FieldT P 27 1 1 := ⟨by kernel_rfl⟩
theorem fd.Rat_2 : FieldT P 27 2 2 := ⟨by kernel_rfl⟩
theorem z.Rat : ZeroT P 27 [.d (.sc (.bool false)), .mt, .mt] := ⟨by kernel_rfl⟩
theorem pl.Rat : PlacesT P 27 [(0, 1), (1, 1), (2, 1)] := ⟨by kernel_rfl⟩
theorem sz.Rat : (P.info? 27).map (·.size) = some 3 := by kernel_rfl
abbrev T.Rats : Nat := 28
theorem sl.Rats : SliceT P 28 27 3 56 := ⟨by kernel_rfl, by kernel_rfl, by decide⟩
theorem ce.Rats : CellT P 28 := ⟨by kernel_rfl, by kernel_rfl⟩
theorem z.Rats : ZeroT P 28 [.mt] := ⟨by kernel_rfl⟩
theorem sz.Rats : (P.info? 28).map (·.size) = some 1 := by kernel_rfl
abbrev T.Ratss : Nat := 29
theorem sl.Ratss : SliceT P 29 28 1 24 := ⟨by kernel_rfl, by kernel_rfl, by decide⟩
theorem ce.Ratss : CellT P 29 := ⟨by kernel_rfl, by kernel_rfl⟩
theorem z.Ratss : ZeroT P 29 [.mt] := ⟨by kernel_rfl⟩
theorem sz.Ratss : (P.info? 29).map (·.size) = some 1 := by kernel_rfl
abbrev T.bools : Nat := 30
theorem sl.bools : SliceT P 30 4 1 1 := ⟨by kernel_rfl, by kernel_rfl, by decide⟩
theorem ce.bools : CellT P 30 := ⟨by kernel_rfl, by kernel_rfl⟩
theorem z.bools : ZeroT P 30 [.mt] := ⟨by kernel_rfl⟩
theorem sz.bools : (P.info? 30).map (·.size) = some 1 := by kernel_rfl
abbrev T.Hidden : Nat := 32
theorem ag.Hidden : AggT P 32 11 := ⟨by kernel_rfl, by kernel_rfl⟩
theorem fd.Hidden_0 : FieldT P 32 0 0 := ⟨by kernel_rfl⟩
theorem fd.Hidden_1 : FieldT P 32 1 1 := ⟨by kernel_rfl⟩
theorem fd.Hidden_2 : FieldT P 32 2 2 := ⟨by kernel_rfl⟩
theorem fd.Hidden_3 : FieldT P 32 3 5 := ⟨by kernel_rfl⟩
theorem fd.Hidden_4 : FieldT P 32 4 6 := ⟨by kernel_rfl⟩
theorem fd.Hidden_5 : FieldT P 32 5 7 := ⟨by kernel_rfl⟩
theorem fd.Hidden_6 : FieldT P 32 6 8 := ⟨by kernel_rfl⟩
theorem fd.Hidden_7 : FieldT P 32 7 9 := ⟨by kernel_rfl⟩
theorem fd.Hidden_8 : FieldT P 32 8 10 := ⟨by kernel_rfl⟩
theorem z.Hidden : ZeroT P 32 [.d (.sc (.int .i64 0)), .d (.sc (.int .i64 0)), .d (.sc (.bool false)), .mt, .mt, .mt, .mt, .mt, .mt, .mt, .mt] := ⟨by kernel_rfl⟩
theorem pl.Hidden : PlacesT P 32 [(0, 1), (1, 1), (2, 3), (5, 1), (6, 1), (7, 1), (8, 1), (9, 1), (10, 1)] := ⟨by kernel_rfl⟩
theorem sz.Hidden : (P.info? 32).map (·.size) = some 11 := by kernel_rfl
abbrev T.Errno : Nat := 35
theorem ce.Errno : CellT P 35 := ⟨by kernel_rfl, by kernel_rfl⟩
theorem it.Errno : IntT P 35 .i64 := ⟨by kernel_rfl⟩
theorem z.Errno : ZeroT P 35 [.d (.sc (.int .i64 0))] := ⟨by kernel_rfl⟩
theorem sz.Errno : (P.info? 35).map (·.size) = some 1 := by kernel_rfl
abbrev T.intss : Nat := 38
theorem sl.intss : SliceT P 38 22 1 24 := ⟨by kernel_rfl, by kernel_rfl, by decide⟩
theorem ce.intss : CellT P 38 := ⟨by kernel_rfl, by kernel_rfl⟩
theorem z.intss : ZeroT P 38 [.mt] := ⟨by kernel_rfl⟩
theorem sz.intss : (P.info? 38).map (·.size) = some 1 := by kernel_rfl
abbrev T.uint : Nat := 40
theorem ce.uint : CellT P 40 := ⟨by kernel_rfl, by kernel_rfl⟩
theorem it.uint : IntT P 40 .u64 := ⟨by kernel_rfl⟩
theorem z.uint : ZeroT P 40 [.d (.sc (.int .u64 0))] := ⟨by kernel_rfl⟩
theorem sz.uint : (P.info? 40).map (·.size) = some 1 := by kernel_rfl
abbrev T.Drawn : Nat := 57
theorem ag.Drawn : AggT P 57 3 := ⟨by kernel_rfl, by kernel_rfl⟩
theorem fd.Drawn_0 : FieldT P 57 0 0 := ⟨by kernel_rfl⟩
theorem fd.Drawn_1 : FieldT P 57 1 1 := ⟨by kernel_rfl⟩
theorem fd.Drawn_2 : FieldT P 57 2 2 := ⟨by kernel_rfl⟩
theorem z.Drawn : ZeroT P 57 [.mt, .mt, .d (.sc (.int .i64 0))] := ⟨by kernel_rfl⟩
theorem pl.Drawn : PlacesT P 57 [(0, 1), (1, 1), (2, 1)] := ⟨by kernel_rfl⟩
theorem sz.Drawn : (P.info? 57).map (·.size) = some 3 := by kernel_rfl
abbrev T.Interval : Nat := 66
theorem ag.Interval : AggT P 66 6 := ⟨by kernel_rfl, by kernel_rfl⟩
theorem fd.Interval_0 : FieldT P 66 0 0 := ⟨by kernel_rfl⟩
theorem fd.Interval_1 : FieldT P 66 1 3 := ⟨by kernel_rfl⟩
theorem z.Interval : ZeroT P 66 [.d (.sc (.bool false)), .mt, .mt, .d (.sc (.bool false)), .mt, .mt] := ⟨by kernel_rfl⟩
theorem pl.Interval : PlacesT P 66 [(0, 3), (3, 3)] := ⟨by kernel_rfl⟩
theorem sz.Interval : (P.info? 66).map (·.size) = some 6 := by kernel_rfl
abbrev T.Drawns : Nat := 69
theorem sl.Drawns : SliceT P 69 57 3 56 := ⟨by kernel_rfl, by kernel_rfl, by decide⟩
theorem ce.Drawns : CellT P 69 := ⟨by kernel_rfl, by kernel_rfl⟩
theorem z.Drawns : ZeroT P 69 [.mt] := ⟨by kernel_rfl⟩
theorem sz.Drawns : (P.info? 69).map (·.size) = some 1 := by kernel_rfl
abbrev T.Counts : Nat := 76
theorem ag.Counts : AggT P 76 4 := ⟨by kernel_rfl, by kernel_rfl⟩
theorem fd.Counts_0 : FieldT P 76 0 0 := ⟨by kernel_rfl⟩
theorem fd.Counts_1 : FieldT P 76 1 1 := ⟨by kernel_rfl⟩
theorem fd.Counts_2 : FieldT P 76 2 2 := ⟨by kernel_rfl⟩
theorem fd.Counts_3 : FieldT P 76 3 3 := ⟨by kernel_rfl⟩
theorem z.Counts : ZeroT P 76 [.mt, .mt, .mt, .mt] := ⟨by kernel_rfl⟩
theorem pl.Counts : PlacesT P 76 [(0, 1), (1, 1), (2, 1), (3, 1)] := ⟨by kernel_rfl⟩
theorem sz.Counts : (P.info? 76).map (·.size) = some 4 := by kernel_rfl
abbrev T.Online : Nat := 93
theorem ag.Online : AggT P 93 15 := ⟨by kernel_rfl, by kernel_rfl⟩
theorem fd.Online_0 : FieldT P 93 0 0 := ⟨by kernel_rfl⟩
theorem fd.Online_1 : FieldT P 93 1 11 := ⟨by kernel_rfl⟩
theorem fd.Online_2 : FieldT P 93 2 12 := ⟨by kernel_rfl⟩
theorem fd.Online_3 : FieldT P 93 3 13 := ⟨by kernel_rfl⟩
theorem fd.Online_4 : FieldT P 93 4 14 := ⟨by kernel_rfl⟩
theorem z.Online : ZeroT P 93 [.d (.sc (.int .i64 0)), .d (.sc (.int .i64 0)), .d (.sc (.bool false)), .mt, .mt, .mt, .mt, .mt, .mt, .mt, .mt, .d (.sc (.int .i64 0)), .mt, .mt, .mt] := ⟨by kernel_rfl⟩
theorem pl.Online : PlacesT P 93 [(0, 11), (11, 1), (12, 1), (13, 1), (14, 1)] := ⟨by kernel_rfl⟩
theorem sz.Online : (P.info? 93).map (·.size) = some 15 := by kernel_rfl
abbrev T.span : Nat := 133
theorem ag.span : AggT P 133 6 := ⟨by kernel_rfl, by kernel_rfl⟩
theorem fd.span_0 : FieldT P 133 0 0 := ⟨by kernel_rfl⟩
theorem fd.span_1 : FieldT P 133 1 3 := ⟨by kernel_rfl⟩
theorem z.span : ZeroT P 133 [.d (.sc (.bool false)), .mt, .mt, .d (.sc (.bool false)), .mt, .mt] := ⟨by kernel_rfl⟩
theorem pl.span : PlacesT P 133 [(0, 3), (3, 3)] := ⟨by kernel_rfl⟩
theorem sz.span : (P.info? 133).map (·.size) = some 6 := by kernel_rfl
abbrev T.Tape : Nat := 161
theorem ag.Tape : AggT P 161 2 := ⟨by kernel_rfl, by kernel_rfl⟩
theorem fd.Tape_0 : FieldT P 161 0 0 := ⟨by kernel_rfl⟩
theorem fd.Tape_1 : FieldT P 161 1 1 := ⟨by kernel_rfl⟩
theorem z.Tape : ZeroT P 161 [.mt, .d (.sc (.int .i64 0))] := ⟨by kernel_rfl⟩
theorem pl.Tape : PlacesT P 161 [(0, 1), (1, 1)] := ⟨by kernel_rfl⟩
theorem sz.Tape : (P.info? 161).map (·.size) = some 2 := by kernel_rfl
abbrev T.table : Nat := 165
theorem ag.table : AggT P 165 13 := ⟨by kernel_rfl, by kernel_rfl⟩
theorem fd.table_0 : FieldT P 165 0 0 := ⟨by kernel_rfl⟩
theorem fd.table_1 : FieldT P 165 1 11 := ⟨by kernel_rfl⟩
theorem fd.table_2 : FieldT P 165 2 12 := ⟨by kernel_rfl⟩
theorem z.table : ZeroT P 165 [.d (.sc (.int .i64 0)), .d (.sc (.int .i64 0)), .d (.sc (.bool false)), .mt, .mt, .mt, .mt, .mt, .mt, .mt, .mt, .mt, .mt] := ⟨by kernel_rfl⟩
theorem pl.table : PlacesT P 165 [(0, 11), (11, 1), (12, 1)] := ⟨by kernel_rfl⟩
theorem sz.table : (P.info? 165).map (·.size) = some 13 := by kernel_rfl
abbrev T.u64 : Nat := 170
theorem ce.u64 : CellT P 170 := ⟨by kernel_rfl, by kernel_rfl⟩
theorem it.u64 : IntT P 170 .u64 := ⟨by kernel_rfl⟩
theorem z.u64 : ZeroT P 170 [.d (.sc (.int .u64 0))] := ⟨by kernel_rfl⟩
theorem sz.u64 : (P.info? 170).map (·.size) = some 1 := by kernel_rfl
abbrev T.u32 : Nat := 172
theorem ce.u32 : CellT P 172 := ⟨by kernel_rfl, by kernel_rfl⟩
theorem it.u32 : IntT P 172 .u32 := ⟨by kernel_rfl⟩
theorem z.u32 : ZeroT P 172 [.d (.sc (.int .u32 0))] := ⟨by kernel_rfl⟩
theorem sz.u32 : (P.info? 172).map (·.size) = some 1 := by kernel_rfl
abbrev T.limbs : Nat := 178
theorem sl.limbs : SliceT P 178 172 1 4 := ⟨by kernel_rfl, by kernel_rfl, by decide⟩
theorem ce.limbs : CellT P 178 := ⟨by kernel_rfl, by kernel_rfl⟩
theorem z.limbs : ZeroT P 178 [.mt] := ⟨by kernel_rfl⟩
theorem sz.limbs : (P.info? 178).map (·.size) = some 1 := by kernel_rfl
abbrev T.fraction : Nat := 180
theorem ag.fraction : AggT P 180 3 := ⟨by kernel_rfl, by kernel_rfl⟩
theorem fd.fraction_0 : FieldT P 180 0 0 := ⟨by kernel_rfl⟩
theorem fd.fraction_1 : FieldT P 180 1 1 := ⟨by kernel_rfl⟩
theorem fd.fraction_2 : FieldT P 180 2 2 := ⟨by kernel_rfl⟩
theorem z.fraction : ZeroT P 180 [.d (.sc (.bool false)), .mt, .mt] := ⟨by kernel_rfl⟩
theorem pl.fraction : PlacesT P 180 [(0, 1), (1, 1), (2, 1)] := ⟨by kernel_rfl⟩
theorem sz.fraction : (P.info? 180).map (·.size) = some 3 := by kernel_rfl
abbrev T.reader : Nat := 186
theorem ag.reader : AggT P 186 8 := ⟨by kernel_rfl, by kernel_rfl⟩
theorem fd.reader_0 : FieldT P 186 0 0 := ⟨by kernel_rfl⟩
theorem fd.reader_1 : FieldT P 186 1 1 := ⟨by kernel_rfl⟩
theorem fd.reader_2 : FieldT P 186 2 2 := ⟨by kernel_rfl⟩
theorem z.reader : ZeroT P 186 [.mt, .d (.sc (.int .i64 0)), .d (.sc (.bool false)), .mt, .mt, .d (.sc (.bool false)), .mt, .mt] := ⟨by kernel_rfl⟩
theorem pl.reader : PlacesT P 186 [(0, 1), (1, 1), (2, 6)] := ⟨by kernel_rfl⟩
theorem sz.reader : (P.info? 186).map (·.size) = some 8 := by kernel_rfl
abbrev T.Wayss : Nat := 100
theorem sl.Wayss : SliceT P 100 102 1 24 := ⟨by kernel_rfl, by kernel_rfl, by decide⟩
theorem ce.Wayss : CellT P 100 := ⟨by kernel_rfl, by kernel_rfl⟩
theorem z.Wayss : ZeroT P 100 [.mt] := ⟨by kernel_rfl⟩
theorem sz.Wayss : (P.info? 100).map (·.size) = some 1 := by kernel_rfl
abbrev T.Ways : Nat := 102
theorem sl.Ways : SliceT P 102 104 4 80 := ⟨by kernel_rfl, by kernel_rfl, by decide⟩
theorem ce.Ways : CellT P 102 := ⟨by kernel_rfl, by kernel_rfl⟩
theorem z.Ways : ZeroT P 102 [.mt] := ⟨by kernel_rfl⟩
theorem sz.Ways : (P.info? 102).map (·.size) = some 1 := by kernel_rfl
abbrev T.Way : Nat := 104
theorem ag.Way : AggT P 104 4 := ⟨by kernel_rfl, by kernel_rfl⟩
theorem fd.Way_0 : FieldT P 104 0 0 := ⟨by kernel_rfl⟩
theorem fd.Way_1 : FieldT P 104 1 1 := ⟨by kernel_rfl⟩
theorem z.Way : ZeroT P 104 [.mt, .d (.sc (.bool false)), .mt, .mt] := ⟨by kernel_rfl⟩
theorem pl.Way : PlacesT P 104 [(0, 1), (1, 3)] := ⟨by kernel_rfl⟩
theorem sz.Way : (P.info? 104).map (·.size) = some 4 := by kernel_rfl
abbrev T.choice : Nat := 137
theorem sl.choice : SliceT P 137 27 3 56 := ⟨by kernel_rfl, by kernel_rfl, by decide⟩
theorem ce.choice : CellT P 137 := ⟨by kernel_rfl, by kernel_rfl⟩
theorem z.choice : ZeroT P 137 [.mt] := ⟨by kernel_rfl⟩
theorem sz.choice : (P.info? 137).map (·.size) = some 1 := by kernel_rfl
abbrev T.ref40_reader : Nat := 143
theorem ag.ref40_reader : AggT P 143 8 := ⟨by kernel_rfl, by kernel_rfl⟩
theorem fd.ref40_reader_0 : FieldT P 143 0 0 := ⟨by kernel_rfl⟩
theorem fd.ref40_reader_1 : FieldT P 143 1 1 := ⟨by kernel_rfl⟩
theorem fd.ref40_reader_2 : FieldT P 143 2 2 := ⟨by kernel_rfl⟩
theorem fd.ref40_reader_3 : FieldT P 143 3 5 := ⟨by kernel_rfl⟩
theorem z.ref40_reader : ZeroT P 143 [.mt, .d (.sc (.int .i64 0)), .d (.sc (.bool false)), .mt, .mt, .d (.sc (.bool false)), .mt, .mt] := ⟨by kernel_rfl⟩
theorem pl.ref40_reader : PlacesT P 143 [(0, 1), (1, 1), (2, 3), (5, 3)] := ⟨by kernel_rfl⟩
theorem sz.ref40_reader : (P.info? 143).map (·.size) = some 8 := by kernel_rfl
abbrev T.fn1 : Nat := 1
theorem ce.fn1 : CellT P 1 := ⟨by kernel_rfl, by kernel_rfl⟩
theorem z.fn1 : ZeroT P 1 [.d (.sc .nilFunc)] := ⟨by kernel_rfl⟩
theorem sz.fn1 : (P.info? 1).map (·.size) = some 1 := by kernel_rfl
abbrev T.fn33 : Nat := 33
theorem ce.fn33 : CellT P 33 := ⟨by kernel_rfl, by kernel_rfl⟩
theorem z.fn33 : ZeroT P 33 [.d (.sc .nilFunc)] := ⟨by kernel_rfl⟩
theorem sz.fn33 : (P.info? 33).map (·.size) = some 1 := by kernel_rfl
abbrev T.fn34 : Nat := 34
theorem ce.fn34 : CellT P 34 := ⟨by kernel_rfl, by kernel_rfl⟩
theorem z.fn34 : ZeroT P 34 [.d (.sc .nilFunc)] := ⟨by kernel_rfl⟩
theorem sz.fn34 : (P.info? 34).map (·.size) = some 1 := by kernel_rfl
abbrev T.fn37 : Nat := 37
theorem ce.fn37 : CellT P 37 := ⟨by kernel_rfl, by kernel_rfl⟩
theorem z.fn37 : ZeroT P 37 [.d (.sc .nilFunc)] := ⟨by kernel_rfl⟩
theorem sz.fn37 : (P.info? 37).map (·.size) = some 1 := by kernel_rfl
abbrev T.fn39 : Nat := 39
theorem ce.fn39 : CellT P 39 := ⟨by kernel_rfl, by kernel_rfl⟩
theorem z.fn39 : ZeroT P 39 [.d (.sc .nilFunc)] := ⟨by kernel_rfl⟩
theorem sz.fn39 : (P.info? 39).map (·.size) = some 1 := by kernel_rfl
abbrev T.fn41 : Nat := 41
theorem ce.fn41 : CellT P 41 := ⟨by kernel_rfl, by kernel_rfl⟩
theorem z.fn41 : ZeroT P 41 [.d (.sc .nilFunc)] := ⟨by kernel_rfl⟩
theorem sz.fn41 : (P.info? 41).map (·.size) = some 1 := by kernel_rfl
abbrev T.fn42 : Nat := 42
theorem ce.fn42 : CellT P 42 := ⟨by kernel_rfl, by kernel_rfl⟩
theorem z.fn42 : ZeroT P 42 [.d (.sc .nilFunc)] := ⟨by kernel_rfl⟩
theorem sz.fn42 : (P.info? 42).map (·.size) = some 1 := by kernel_rfl
abbrev T.fn43 : Nat := 43
theorem ce.fn43 : CellT P 43 := ⟨by kernel_rfl, by kernel_rfl⟩
theorem z.fn43 : ZeroT P 43 [.d (.sc .nilFunc)] := ⟨by kernel_rfl⟩
theorem sz.fn43 : (P.info? 43).map (·.size) = some 1 := by kernel_rfl
abbrev T.fn44 : Nat := 44
theorem ce.fn44 : CellT P 44 := ⟨by kernel_rfl, by kernel_rfl⟩
theorem z.fn44 : ZeroT P 44 [.d (.sc .nilFunc)] := ⟨by kernel_rfl⟩
theorem sz.fn44 : (P.info? 44).map (·.size) = some 1 := by kernel_rfl
abbrev T.fn45 : Nat := 45
theorem ce.fn45 : CellT P 45 := ⟨by kernel_rfl, by kernel_rfl⟩
theorem z.fn45 : ZeroT P 45 [.d (.sc .nilFunc)] := ⟨by kernel_rfl⟩
theorem sz.fn45 : (P.info? 45).map (·.size) = some 1 := by kernel_rfl
abbrev T.fn47 : Nat := 47
theorem ce.fn47 : CellT P 47 := ⟨by kernel_rfl, by kernel_rfl⟩
theorem z.fn47 : ZeroT P 47 [.d (.sc .nilFunc)] := ⟨by kernel_rfl⟩
theorem sz.fn47 : (P.info? 47).map (·.size) = some 1 := by kernel_rfl
abbrev T.fn48 : Nat := 48
theorem ce.fn48 : CellT P 48 := ⟨by kernel_rfl, by kernel_rfl⟩
theorem z.fn48 : ZeroT P 48 [.d (.sc .nilFunc)] := ⟨by kernel_rfl⟩
theorem sz.fn48 : (P.info? 48).map (·.size) = some 1 := by kernel_rfl
abbrev T.fn49 : Nat := 49
theorem ce.fn49 : CellT P 49 := ⟨by kernel_rfl, by kernel_rfl⟩
theorem z.fn49 : ZeroT P 49 [.d (.sc .nilFunc)] := ⟨by kernel_rfl⟩
theorem sz.fn49 : (P.info? 49).map (·.size) = some 1 := by kernel_rfl
abbrev T.fn50 : Nat := 50
theorem ce.fn50 : CellT P 50 := ⟨by kernel_rfl, by kernel_rfl⟩
theorem z.fn50 : ZeroT P 50 [.d (.sc .nilFunc)] := ⟨by kernel_rfl⟩
theorem sz.fn50 : (P.info? 50).map (·.size) = some 1 := by kernel_rfl
abbrev T.fn52 : Nat := 52
theorem ce.fn52 : CellT P 52 := ⟨by kernel_rfl, by kernel_rfl⟩
theorem z.fn52 : ZeroT P 52 [.d (.sc .nilFunc)] := ⟨by kernel_rfl⟩
theorem sz.fn52 : (P.info? 52).map (·.size) = some 1 := by kernel_rfl
abbrev T.fn53 : Nat := 53
theorem ce.fn53 : CellT P 53 := ⟨by kernel_rfl, by kernel_rfl⟩
theorem z.fn53 : ZeroT P 53 [.d (.sc .nilFunc)] := ⟨by kernel_rfl⟩
theorem sz.fn53 : (P.info? 53).map (·.size) = some 1 := by kernel_rfl
abbrev T.fn54 : Nat := 54
theorem ce.fn54 : CellT P 54 := ⟨by kernel_rfl, by kernel_rfl⟩
theorem z.fn54 : ZeroT P 54 [.d (.sc .nilFunc)] := ⟨by kernel_rfl⟩
theorem sz.fn54 : (P.info? 54).map (·.size) = some 1 := by kernel_rfl
abbrev T.fn55 : Nat := 55
theorem ce.fn55 : CellT P 55 := ⟨by kernel_rfl, by kernel_rfl⟩
theorem z.fn55 : ZeroT P 55 [.d (.sc .nilFunc)] := ⟨by kernel_rfl⟩
theorem sz.fn55 : (P.info? 55).map (·.size) = some 1 := by kernel_rfl
abbrev T.fn59 : Nat := 59
theorem ce.fn59 : CellT P 59 := ⟨by kernel_rfl, by kernel_rfl⟩
theorem z.fn59 : ZeroT P 59 [.d (.sc .nilFunc)] := ⟨by kernel_rfl⟩
theorem sz.fn59 : (P.info? 59).map (·.size) = some 1 := by kernel_rfl
abbrev T.fn60 : Nat := 60
theorem ce.fn60 : CellT P 60 := ⟨by kernel_rfl, by kernel_rfl⟩
theorem z.fn60 : ZeroT P 60 [.d (.sc .nilFunc)] := ⟨by kernel_rfl⟩
theorem sz.fn60 : (P.info? 60).map (·.size) = some 1 := by kernel_rfl
abbrev T.fn61 : Nat := 61
theorem ce.fn61 : CellT P 61 := ⟨by kernel_rfl, by kernel_rfl⟩
theorem z.fn61 : ZeroT P 61 [.d (.sc .nilFunc)] := ⟨by kernel_rfl⟩
theorem sz.fn61 : (P.info? 61).map (·.size) = some 1 := by kernel_rfl
abbrev T.fn62 : Nat := 62
theorem ce.fn62 : CellT P 62 := ⟨by kernel_rfl, by kernel_rfl⟩
theorem z.fn62 : ZeroT P 62 [.d (.sc .nilFunc)] := ⟨by kernel_rfl⟩
theorem sz.fn62 : (P.info? 62).map (·.size) = some 1 := by kernel_rfl
abbrev T.fn63 : Nat := 63
theorem ce.fn63 : CellT P 63 := ⟨by kernel_rfl, by kernel_rfl⟩
theorem z.fn63 : ZeroT P 63 [.d (.sc .nilFunc)] := ⟨by kernel_rfl⟩
theorem sz.fn63 : (P.info? 63).map (·.size) = some 1 := by kernel_rfl
abbrev T.fn64 : Nat := 64
theorem ce.fn64 : CellT P 64 := ⟨by kernel_rfl, by kernel_rfl⟩
theorem z.fn64 : ZeroT P 64 [.d (.sc .nilFunc)] := ⟨by kernel_rfl⟩
theorem sz.fn64 : (P.info? 64).map (·.size) = some 1 := by kernel_rfl
abbrev T.fn68 : Nat := 68
theorem ce.fn68 : CellT P 68 := ⟨by kernel_rfl, by kernel_rfl⟩
theorem z.fn68 : ZeroT P 68 [.d (.sc .nilFunc)] := ⟨by kernel_rfl⟩
theorem sz.fn68 : (P.info? 68).map (·.size) = some 1 := by kernel_rfl
abbrev T.fn71 : Nat := 71
theorem ce.fn71 : CellT P 71 := ⟨by kernel_rfl, by kernel_rfl⟩
theorem z.fn71 : ZeroT P 71 [.d (.sc .nilFunc)] := ⟨by kernel_rfl⟩
theorem sz.fn71 : (P.info? 71).map (·.size) = some 1 := by kernel_rfl
abbrev T.fn72 : Nat := 72
theorem ce.fn72 : CellT P 72 := ⟨by kernel_rfl, by kernel_rfl⟩
theorem z.fn72 : ZeroT P 72 [.d (.sc .nilFunc)] := ⟨by kernel_rfl⟩
theorem sz.fn72 : (P.info? 72).map (·.size) = some 1 := by kernel_rfl
abbrev T.fn73 : Nat := 73
theorem ce.fn73 : CellT P 73 := ⟨by kernel_rfl, by kernel_rfl⟩
theorem z.fn73 : ZeroT P 73 [.d (.sc .nilFunc)] := ⟨by kernel_rfl⟩
theorem sz.fn73 : (P.info? 73).map (·.size) = some 1 := by kernel_rfl
abbrev T.fn74 : Nat := 74
theorem ce.fn74 : CellT P 74 := ⟨by kernel_rfl, by kernel_rfl⟩
theorem z.fn74 : ZeroT P 74 [.d (.sc .nilFunc)] := ⟨by kernel_rfl⟩
theorem sz.fn74 : (P.info? 74).map (·.size) = some 1 := by kernel_rfl
abbrev T.fn78 : Nat := 78
theorem ce.fn78 : CellT P 78 := ⟨by kernel_rfl, by kernel_rfl⟩
theorem z.fn78 : ZeroT P 78 [.d (.sc .nilFunc)] := ⟨by kernel_rfl⟩
theorem sz.fn78 : (P.info? 78).map (·.size) = some 1 := by kernel_rfl
abbrev T.fn79 : Nat := 79
theorem ce.fn79 : CellT P 79 := ⟨by kernel_rfl, by kernel_rfl⟩
theorem z.fn79 : ZeroT P 79 [.d (.sc .nilFunc)] := ⟨by kernel_rfl⟩
theorem sz.fn79 : (P.info? 79).map (·.size) = some 1 := by kernel_rfl
abbrev T.fn80 : Nat := 80
theorem ce.fn80 : CellT P 80 := ⟨by kernel_rfl, by kernel_rfl⟩
theorem z.fn80 : ZeroT P 80 [.d (.sc .nilFunc)] := ⟨by kernel_rfl⟩
theorem sz.fn80 : (P.info? 80).map (·.size) = some 1 := by kernel_rfl
abbrev T.fn81 : Nat := 81
theorem ce.fn81 : CellT P 81 := ⟨by kernel_rfl, by kernel_rfl⟩
theorem z.fn81 : ZeroT P 81 [.d (.sc .nilFunc)] := ⟨by kernel_rfl⟩
theorem sz.fn81 : (P.info? 81).map (·.size) = some 1 := by kernel_rfl
abbrev T.fn83 : Nat := 83
theorem ce.fn83 : CellT P 83 := ⟨by kernel_rfl, by kernel_rfl⟩
theorem z.fn83 : ZeroT P 83 [.d (.sc .nilFunc)] := ⟨by kernel_rfl⟩
theorem sz.fn83 : (P.info? 83).map (·.size) = some 1 := by kernel_rfl
abbrev T.fn85 : Nat := 85
theorem ce.fn85 : CellT P 85 := ⟨by kernel_rfl, by kernel_rfl⟩
theorem z.fn85 : ZeroT P 85 [.d (.sc .nilFunc)] := ⟨by kernel_rfl⟩
theorem sz.fn85 : (P.info? 85).map (·.size) = some 1 := by kernel_rfl
abbrev T.fn86 : Nat := 86
theorem ce.fn86 : CellT P 86 := ⟨by kernel_rfl, by kernel_rfl⟩
theorem z.fn86 : ZeroT P 86 [.d (.sc .nilFunc)] := ⟨by kernel_rfl⟩
theorem sz.fn86 : (P.info? 86).map (·.size) = some 1 := by kernel_rfl
abbrev T.fn87 : Nat := 87
theorem ce.fn87 : CellT P 87 := ⟨by kernel_rfl, by kernel_rfl⟩
theorem z.fn87 : ZeroT P 87 [.d (.sc .nilFunc)] := ⟨by kernel_rfl⟩
theorem sz.fn87 : (P.info? 87).map (·.size) = some 1 := by kernel_rfl
abbrev T.fn88 : Nat := 88
theorem ce.fn88 : CellT P 88 := ⟨by kernel_rfl, by kernel_rfl⟩
theorem z.fn88 : ZeroT P 88 [.d (.sc .nilFunc)] := ⟨by kernel_rfl⟩
theorem sz.fn88 : (P.info? 88).map (·.size) = some 1 := by kernel_rfl
abbrev T.fn90 : Nat := 90
theorem ce.fn90 : CellT P 90 := ⟨by kernel_rfl, by kernel_rfl⟩
theorem z.fn90 : ZeroT P 90 [.d (.sc .nilFunc)] := ⟨by kernel_rfl⟩
theorem sz.fn90 : (P.info? 90).map (·.size) = some 1 := by kernel_rfl
abbrev T.fn91 : Nat := 91
theorem ce.fn91 : CellT P 91 := ⟨by kernel_rfl, by kernel_rfl⟩
theorem z.fn91 : ZeroT P 91 [.d (.sc .nilFunc)] := ⟨by kernel_rfl⟩
theorem sz.fn91 : (P.info? 91).map (·.size) = some 1 := by kernel_rfl
abbrev T.fn95 : Nat := 95
theorem ce.fn95 : CellT P 95 := ⟨by kernel_rfl, by kernel_rfl⟩
theorem z.fn95 : ZeroT P 95 [.d (.sc .nilFunc)] := ⟨by kernel_rfl⟩
theorem sz.fn95 : (P.info? 95).map (·.size) = some 1 := by kernel_rfl
abbrev T.fn97 : Nat := 97
theorem ce.fn97 : CellT P 97 := ⟨by kernel_rfl, by kernel_rfl⟩
theorem z.fn97 : ZeroT P 97 [.d (.sc .nilFunc)] := ⟨by kernel_rfl⟩
theorem sz.fn97 : (P.info? 97).map (·.size) = some 1 := by kernel_rfl
abbrev T.fn98 : Nat := 98
theorem ce.fn98 : CellT P 98 := ⟨by kernel_rfl, by kernel_rfl⟩
theorem z.fn98 : ZeroT P 98 [.d (.sc .nilFunc)] := ⟨by kernel_rfl⟩
theorem sz.fn98 : (P.info? 98).map (·.size) = some 1 := by kernel_rfl
abbrev T.fn99 : Nat := 99
theorem ce.fn99 : CellT P 99 := ⟨by kernel_rfl, by kernel_rfl⟩
theorem z.fn99 : ZeroT P 99 [.d (.sc .nilFunc)] := ⟨by kernel_rfl⟩
theorem sz.fn99 : (P.info? 99).map (·.size) = some 1 := by kernel_rfl
abbrev T.fn101 : Nat := 101
theorem ce.fn101 : CellT P 101 := ⟨by kernel_rfl, by kernel_rfl⟩
theorem z.fn101 : ZeroT P 101 [.d (.sc .nilFunc)] := ⟨by kernel_rfl⟩
theorem sz.fn101 : (P.info? 101).map (·.size) = some 1 := by kernel_rfl
abbrev T.fn105 : Nat := 105
theorem ce.fn105 : CellT P 105 := ⟨by kernel_rfl, by kernel_rfl⟩
theorem z.fn105 : ZeroT P 105 [.d (.sc .nilFunc)] := ⟨by kernel_rfl⟩
theorem sz.fn105 : (P.info? 105).map (·.size) = some 1 := by kernel_rfl
abbrev T.fn107 : Nat := 107
theorem ce.fn107 : CellT P 107 := ⟨by kernel_rfl, by kernel_rfl⟩
theorem z.fn107 : ZeroT P 107 [.d (.sc .nilFunc)] := ⟨by kernel_rfl⟩
theorem sz.fn107 : (P.info? 107).map (·.size) = some 1 := by kernel_rfl
abbrev T.fn108 : Nat := 108
theorem ce.fn108 : CellT P 108 := ⟨by kernel_rfl, by kernel_rfl⟩
theorem z.fn108 : ZeroT P 108 [.d (.sc .nilFunc)] := ⟨by kernel_rfl⟩
theorem sz.fn108 : (P.info? 108).map (·.size) = some 1 := by kernel_rfl
abbrev T.fn109 : Nat := 109
theorem ce.fn109 : CellT P 109 := ⟨by kernel_rfl, by kernel_rfl⟩
theorem z.fn109 : ZeroT P 109 [.d (.sc .nilFunc)] := ⟨by kernel_rfl⟩
theorem sz.fn109 : (P.info? 109).map (·.size) = some 1 := by kernel_rfl
abbrev T.fn110 : Nat := 110
theorem ce.fn110 : CellT P 110 := ⟨by kernel_rfl, by kernel_rfl⟩
theorem z.fn110 : ZeroT P 110 [.d (.sc .nilFunc)] := ⟨by kernel_rfl⟩
theorem sz.fn110 : (P.info? 110).map (·.size) = some 1 := by kernel_rfl
abbrev T.fn112 : Nat := 112
theorem ce.fn112 : CellT P 112 := ⟨by kernel_rfl, by kernel_rfl⟩
theorem z.fn112 : ZeroT P 112 [.d (.sc .nilFunc)] := ⟨by kernel_rfl⟩
theorem sz.fn112 : (P.info? 112).map (·.size) = some 1 := by kernel_rfl
abbrev T.fn113 : Nat := 113
theorem ce.fn113 : CellT P 113 := ⟨by kernel_rfl, by kernel_rfl⟩
theorem z.fn113 : ZeroT P 113 [.d (.sc .nilFunc)] := ⟨by kernel_rfl⟩
theorem sz.fn113 : (P.info? 113).map (·.size) = some 1 := by kernel_rfl
abbrev T.fn114 : Nat := 114
theorem ce.fn114 : CellT P 114 := ⟨by kernel_rfl, by kernel_rfl⟩
theorem z.fn114 : ZeroT P 114 [.d (.sc .nilFunc)] := ⟨by kernel_rfl⟩
theorem sz.fn114 : (P.info? 114).map (·.size) = some 1 := by kernel_rfl
abbrev T.fn115 : Nat := 115
theorem ce.fn115 : CellT P 115 := ⟨by kernel_rfl, by kernel_rfl⟩
theorem z.fn115 : ZeroT P 115 [.d (.sc .nilFunc)] := ⟨by kernel_rfl⟩
theorem sz.fn115 : (P.info? 115).map (·.size) = some 1 := by kernel_rfl
abbrev T.fn116 : Nat := 116
theorem ce.fn116 : CellT P 116 := ⟨by kernel_rfl, by kernel_rfl⟩
theorem z.fn116 : ZeroT P 116 [.d (.sc .nilFunc)] := ⟨by kernel_rfl⟩
theorem sz.fn116 : (P.info? 116).map (·.size) = some 1 := by kernel_rfl
abbrev T.fn117 : Nat := 117
theorem ce.fn117 : CellT P 117 := ⟨by kernel_rfl, by kernel_rfl⟩
theorem z.fn117 : ZeroT P 117 [.d (.sc .nilFunc)] := ⟨by kernel_rfl⟩
theorem sz.fn117 : (P.info? 117).map (·.size) = some 1 := by kernel_rfl
abbrev T.fn118 : Nat := 118
theorem ce.fn118 : CellT P 118 := ⟨by kernel_rfl, by kernel_rfl⟩
theorem z.fn118 : ZeroT P 118 [.d (.sc .nilFunc)] := ⟨by kernel_rfl⟩
theorem sz.fn118 : (P.info? 118).map (·.size) = some 1 := by kernel_rfl
abbrev T.fn119 : Nat := 119
theorem ce.fn119 : CellT P 119 := ⟨by kernel_rfl, by kernel_rfl⟩
theorem z.fn119 : ZeroT P 119 [.d (.sc .nilFunc)] := ⟨by kernel_rfl⟩
theorem sz.fn119 : (P.info? 119).map (·.size) = some 1 := by kernel_rfl
abbrev T.fn120 : Nat := 120
theorem ce.fn120 : CellT P 120 := ⟨by kernel_rfl, by kernel_rfl⟩
theorem z.fn120 : ZeroT P 120 [.d (.sc .nilFunc)] := ⟨by kernel_rfl⟩
theorem sz.fn120 : (P.info? 120).map (·.size) = some 1 := by kernel_rfl
abbrev T.fn121 : Nat := 121
theorem ce.fn121 : CellT P 121 := ⟨by kernel_rfl, by kernel_rfl⟩
theorem z.fn121 : ZeroT P 121 [.d (.sc .nilFunc)] := ⟨by kernel_rfl⟩
theorem sz.fn121 : (P.info? 121).map (·.size) = some 1 := by kernel_rfl
abbrev T.fn122 : Nat := 122
theorem ce.fn122 : CellT P 122 := ⟨by kernel_rfl, by kernel_rfl⟩
theorem z.fn122 : ZeroT P 122 [.d (.sc .nilFunc)] := ⟨by kernel_rfl⟩
theorem sz.fn122 : (P.info? 122).map (·.size) = some 1 := by kernel_rfl
abbrev T.fn123 : Nat := 123
theorem ce.fn123 : CellT P 123 := ⟨by kernel_rfl, by kernel_rfl⟩
theorem z.fn123 : ZeroT P 123 [.d (.sc .nilFunc)] := ⟨by kernel_rfl⟩
theorem sz.fn123 : (P.info? 123).map (·.size) = some 1 := by kernel_rfl
abbrev T.fn124 : Nat := 124
theorem ce.fn124 : CellT P 124 := ⟨by kernel_rfl, by kernel_rfl⟩
theorem z.fn124 : ZeroT P 124 [.d (.sc .nilFunc)] := ⟨by kernel_rfl⟩
theorem sz.fn124 : (P.info? 124).map (·.size) = some 1 := by kernel_rfl
abbrev T.fn125 : Nat := 125
theorem ce.fn125 : CellT P 125 := ⟨by kernel_rfl, by kernel_rfl⟩
theorem z.fn125 : ZeroT P 125 [.d (.sc .nilFunc)] := ⟨by kernel_rfl⟩
theorem sz.fn125 : (P.info? 125).map (·.size) = some 1 := by kernel_rfl
abbrev T.fn126 : Nat := 126
theorem ce.fn126 : CellT P 126 := ⟨by kernel_rfl, by kernel_rfl⟩
theorem z.fn126 : ZeroT P 126 [.d (.sc .nilFunc)] := ⟨by kernel_rfl⟩
theorem sz.fn126 : (P.info? 126).map (·.size) = some 1 := by kernel_rfl
abbrev T.fn127 : Nat := 127
theorem ce.fn127 : CellT P 127 := ⟨by kernel_rfl, by kernel_rfl⟩
theorem z.fn127 : ZeroT P 127 [.d (.sc .nilFunc)] := ⟨by kernel_rfl⟩
theorem sz.fn127 : (P.info? 127).map (·.size) = some 1 := by kernel_rfl
abbrev T.fn128 : Nat := 128
theorem ce.fn128 : CellT P 128 := ⟨by kernel_rfl, by kernel_rfl⟩
theorem z.fn128 : ZeroT P 128 [.d (.sc .nilFunc)] := ⟨by kernel_rfl⟩
theorem sz.fn128 : (P.info? 128).map (·.size) = some 1 := by kernel_rfl
abbrev T.fn129 : Nat := 129
theorem ce.fn129 : CellT P 129 := ⟨by kernel_rfl, by kernel_rfl⟩
theorem z.fn129 : ZeroT P 129 [.d (.sc .nilFunc)] := ⟨by kernel_rfl⟩
theorem sz.fn129 : (P.info? 129).map (·.size) = some 1 := by kernel_rfl
abbrev T.fn130 : Nat := 130
theorem ce.fn130 : CellT P 130 := ⟨by kernel_rfl, by kernel_rfl⟩
theorem z.fn130 : ZeroT P 130 [.d (.sc .nilFunc)] := ⟨by kernel_rfl⟩
theorem sz.fn130 : (P.info? 130).map (·.size) = some 1 := by kernel_rfl
abbrev T.fn131 : Nat := 131
theorem ce.fn131 : CellT P 131 := ⟨by kernel_rfl, by kernel_rfl⟩
theorem z.fn131 : ZeroT P 131 [.d (.sc .nilFunc)] := ⟨by kernel_rfl⟩
theorem sz.fn131 : (P.info? 131).map (·.size) = some 1 := by kernel_rfl
abbrev T.fn134 : Nat := 134
theorem ce.fn134 : CellT P 134 := ⟨by kernel_rfl, by kernel_rfl⟩
theorem z.fn134 : ZeroT P 134 [.d (.sc .nilFunc)] := ⟨by kernel_rfl⟩
theorem sz.fn134 : (P.info? 134).map (·.size) = some 1 := by kernel_rfl
abbrev T.fn135 : Nat := 135
theorem ce.fn135 : CellT P 135 := ⟨by kernel_rfl, by kernel_rfl⟩
theorem z.fn135 : ZeroT P 135 [.d (.sc .nilFunc)] := ⟨by kernel_rfl⟩
theorem sz.fn135 : (P.info? 135).map (·.size) = some 1 := by kernel_rfl
abbrev T.fn136 : Nat := 136
theorem ce.fn136 : CellT P 136 := ⟨by kernel_rfl, by kernel_rfl⟩
theorem z.fn136 : ZeroT P 136 [.d (.sc .nilFunc)] := ⟨by kernel_rfl⟩
theorem sz.fn136 : (P.info? 136).map (·.size) = some 1 := by kernel_rfl
abbrev T.fn138 : Nat := 138
theorem ce.fn138 : CellT P 138 := ⟨by kernel_rfl, by kernel_rfl⟩
theorem z.fn138 : ZeroT P 138 [.d (.sc .nilFunc)] := ⟨by kernel_rfl⟩
theorem sz.fn138 : (P.info? 138).map (·.size) = some 1 := by kernel_rfl
abbrev T.fn139 : Nat := 139
theorem ce.fn139 : CellT P 139 := ⟨by kernel_rfl, by kernel_rfl⟩
theorem z.fn139 : ZeroT P 139 [.d (.sc .nilFunc)] := ⟨by kernel_rfl⟩
theorem sz.fn139 : (P.info? 139).map (·.size) = some 1 := by kernel_rfl
abbrev T.fn140 : Nat := 140
theorem ce.fn140 : CellT P 140 := ⟨by kernel_rfl, by kernel_rfl⟩
theorem z.fn140 : ZeroT P 140 [.d (.sc .nilFunc)] := ⟨by kernel_rfl⟩
theorem sz.fn140 : (P.info? 140).map (·.size) = some 1 := by kernel_rfl
abbrev T.fn144 : Nat := 144
theorem ce.fn144 : CellT P 144 := ⟨by kernel_rfl, by kernel_rfl⟩
theorem z.fn144 : ZeroT P 144 [.d (.sc .nilFunc)] := ⟨by kernel_rfl⟩
theorem sz.fn144 : (P.info? 144).map (·.size) = some 1 := by kernel_rfl
abbrev T.fn145 : Nat := 145
theorem ce.fn145 : CellT P 145 := ⟨by kernel_rfl, by kernel_rfl⟩
theorem z.fn145 : ZeroT P 145 [.d (.sc .nilFunc)] := ⟨by kernel_rfl⟩
theorem sz.fn145 : (P.info? 145).map (·.size) = some 1 := by kernel_rfl
abbrev T.fn146 : Nat := 146
theorem ce.fn146 : CellT P 146 := ⟨by kernel_rfl, by kernel_rfl⟩
theorem z.fn146 : ZeroT P 146 [.d (.sc .nilFunc)] := ⟨by kernel_rfl⟩
theorem sz.fn146 : (P.info? 146).map (·.size) = some 1 := by kernel_rfl
abbrev T.fn147 : Nat := 147
theorem ce.fn147 : CellT P 147 := ⟨by kernel_rfl, by kernel_rfl⟩
theorem z.fn147 : ZeroT P 147 [.d (.sc .nilFunc)] := ⟨by kernel_rfl⟩
theorem sz.fn147 : (P.info? 147).map (·.size) = some 1 := by kernel_rfl
abbrev T.fn149 : Nat := 149
theorem ce.fn149 : CellT P 149 := ⟨by kernel_rfl, by kernel_rfl⟩
theorem z.fn149 : ZeroT P 149 [.d (.sc .nilFunc)] := ⟨by kernel_rfl⟩
theorem sz.fn149 : (P.info? 149).map (·.size) = some 1 := by kernel_rfl
abbrev T.fn150 : Nat := 150
theorem ce.fn150 : CellT P 150 := ⟨by kernel_rfl, by kernel_rfl⟩
theorem z.fn150 : ZeroT P 150 [.d (.sc .nilFunc)] := ⟨by kernel_rfl⟩
theorem sz.fn150 : (P.info? 150).map (·.size) = some 1 := by kernel_rfl
abbrev T.fn151 : Nat := 151
theorem ce.fn151 : CellT P 151 := ⟨by kernel_rfl, by kernel_rfl⟩
theorem z.fn151 : ZeroT P 151 [.d (.sc .nilFunc)] := ⟨by kernel_rfl⟩
theorem sz.fn151 : (P.info? 151).map (·.size) = some 1 := by kernel_rfl
abbrev T.fn152 : Nat := 152
theorem ce.fn152 : CellT P 152 := ⟨by kernel_rfl, by kernel_rfl⟩
theorem z.fn152 : ZeroT P 152 [.d (.sc .nilFunc)] := ⟨by kernel_rfl⟩
theorem sz.fn152 : (P.info? 152).map (·.size) = some 1 := by kernel_rfl
abbrev T.fn153 : Nat := 153
theorem ce.fn153 : CellT P 153 := ⟨by kernel_rfl, by kernel_rfl⟩
theorem z.fn153 : ZeroT P 153 [.d (.sc .nilFunc)] := ⟨by kernel_rfl⟩
theorem sz.fn153 : (P.info? 153).map (·.size) = some 1 := by kernel_rfl
abbrev T.fn154 : Nat := 154
theorem ce.fn154 : CellT P 154 := ⟨by kernel_rfl, by kernel_rfl⟩
theorem z.fn154 : ZeroT P 154 [.d (.sc .nilFunc)] := ⟨by kernel_rfl⟩
theorem sz.fn154 : (P.info? 154).map (·.size) = some 1 := by kernel_rfl
abbrev T.fn155 : Nat := 155
theorem ce.fn155 : CellT P 155 := ⟨by kernel_rfl, by kernel_rfl⟩
theorem z.fn155 : ZeroT P 155 [.d (.sc .nilFunc)] := ⟨by kernel_rfl⟩
theorem sz.fn155 : (P.info? 155).map (·.size) = some 1 := by kernel_rfl
abbrev T.fn156 : Nat := 156
theorem ce.fn156 : CellT P 156 := ⟨by kernel_rfl, by kernel_rfl⟩
theorem z.fn156 : ZeroT P 156 [.d (.sc .nilFunc)] := ⟨by kernel_rfl⟩
theorem sz.fn156 : (P.info? 156).map (·.size) = some 1 := by kernel_rfl
abbrev T.fn157 : Nat := 157
theorem ce.fn157 : CellT P 157 := ⟨by kernel_rfl, by kernel_rfl⟩
theorem z.fn157 : ZeroT P 157 [.d (.sc .nilFunc)] := ⟨by kernel_rfl⟩
theorem sz.fn157 : (P.info? 157).map (·.size) = some 1 := by kernel_rfl
abbrev T.fn158 : Nat := 158
theorem ce.fn158 : CellT P 158 := ⟨by kernel_rfl, by kernel_rfl⟩
theorem z.fn158 : ZeroT P 158 [.d (.sc .nilFunc)] := ⟨by kernel_rfl⟩
theorem sz.fn158 : (P.info? 158).map (·.size) = some 1 := by kernel_rfl
abbrev T.fn162 : Nat := 162
theorem ce.fn162 : CellT P 162 := ⟨by kernel_rfl, by kernel_rfl⟩
theorem z.fn162 : ZeroT P 162 [.d (.sc .nilFunc)] := ⟨by kernel_rfl⟩
theorem sz.fn162 : (P.info? 162).map (·.size) = some 1 := by kernel_rfl
abbrev T.fn163 : Nat := 163
theorem ce.fn163 : CellT P 163 := ⟨by kernel_rfl, by kernel_rfl⟩
theorem z.fn163 : ZeroT P 163 [.d (.sc .nilFunc)] := ⟨by kernel_rfl⟩
theorem sz.fn163 : (P.info? 163).map (·.size) = some 1 := by kernel_rfl
abbrev T.fn166 : Nat := 166
theorem ce.fn166 : CellT P 166 := ⟨by kernel_rfl, by kernel_rfl⟩
theorem z.fn166 : ZeroT P 166 [.d (.sc .nilFunc)] := ⟨by kernel_rfl⟩
theorem sz.fn166 : (P.info? 166).map (·.size) = some 1 := by kernel_rfl
abbrev T.fn167 : Nat := 167
theorem ce.fn167 : CellT P 167 := ⟨by kernel_rfl, by kernel_rfl⟩
theorem z.fn167 : ZeroT P 167 [.d (.sc .nilFunc)] := ⟨by kernel_rfl⟩
theorem sz.fn167 : (P.info? 167).map (·.size) = some 1 := by kernel_rfl
abbrev T.fn168 : Nat := 168
theorem ce.fn168 : CellT P 168 := ⟨by kernel_rfl, by kernel_rfl⟩
theorem z.fn168 : ZeroT P 168 [.d (.sc .nilFunc)] := ⟨by kernel_rfl⟩
theorem sz.fn168 : (P.info? 168).map (·.size) = some 1 := by kernel_rfl
abbrev T.fn169 : Nat := 169
theorem ce.fn169 : CellT P 169 := ⟨by kernel_rfl, by kernel_rfl⟩
theorem z.fn169 : ZeroT P 169 [.d (.sc .nilFunc)] := ⟨by kernel_rfl⟩
theorem sz.fn169 : (P.info? 169).map (·.size) = some 1 := by kernel_rfl
abbrev T.fn171 : Nat := 171
theorem ce.fn171 : CellT P 171 := ⟨by kernel_rfl, by kernel_rfl⟩
theorem z.fn171 : ZeroT P 171 [.d (.sc .nilFunc)] := ⟨by kernel_rfl⟩
theorem sz.fn171 : (P.info? 171).map (·.size) = some 1 := by kernel_rfl
abbrev T.fn173 : Nat := 173
theorem ce.fn173 : CellT P 173 := ⟨by kernel_rfl, by kernel_rfl⟩
theorem z.fn173 : ZeroT P 173 [.d (.sc .nilFunc)] := ⟨by kernel_rfl⟩
theorem sz.fn173 : (P.info? 173).map (·.size) = some 1 := by kernel_rfl
abbrev T.fn175 : Nat := 175
theorem ce.fn175 : CellT P 175 := ⟨by kernel_rfl, by kernel_rfl⟩
theorem z.fn175 : ZeroT P 175 [.d (.sc .nilFunc)] := ⟨by kernel_rfl⟩
theorem sz.fn175 : (P.info? 175).map (·.size) = some 1 := by kernel_rfl
abbrev T.fn176 : Nat := 176
theorem ce.fn176 : CellT P 176 := ⟨by kernel_rfl, by kernel_rfl⟩
theorem z.fn176 : ZeroT P 176 [.d (.sc .nilFunc)] := ⟨by kernel_rfl⟩
theorem sz.fn176 : (P.info? 176).map (·.size) = some 1 := by kernel_rfl
abbrev T.fn177 : Nat := 177
theorem ce.fn177 : CellT P 177 := ⟨by kernel_rfl, by kernel_rfl⟩
theorem z.fn177 : ZeroT P 177 [.d (.sc .nilFunc)] := ⟨by kernel_rfl⟩
theorem sz.fn177 : (P.info? 177).map (·.size) = some 1 := by kernel_rfl
abbrev T.fn181 : Nat := 181
theorem ce.fn181 : CellT P 181 := ⟨by kernel_rfl, by kernel_rfl⟩
theorem z.fn181 : ZeroT P 181 [.d (.sc .nilFunc)] := ⟨by kernel_rfl⟩
theorem sz.fn181 : (P.info? 181).map (·.size) = some 1 := by kernel_rfl
abbrev T.fn182 : Nat := 182
theorem ce.fn182 : CellT P 182 := ⟨by kernel_rfl, by kernel_rfl⟩
theorem z.fn182 : ZeroT P 182 [.d (.sc .nilFunc)] := ⟨by kernel_rfl⟩
theorem sz.fn182 : (P.info? 182).map (·.size) = some 1 := by kernel_rfl
abbrev T.fn183 : Nat := 183
theorem ce.fn183 : CellT P 183 := ⟨by kernel_rfl, by kernel_rfl⟩
theorem z.fn183 : ZeroT P 183 [.d (.sc .nilFunc)] := ⟨by kernel_rfl⟩
theorem sz.fn183 : (P.info? 183).map (·.size) = some 1 := by kernel_rfl
abbrev T.fn188 : Nat := 188
theorem ce.fn188 : CellT P 188 := ⟨by kernel_rfl, by kernel_rfl⟩
theorem z.fn188 : ZeroT P 188 [.d (.sc .nilFunc)] := ⟨by kernel_rfl⟩
theorem sz.fn188 : (P.info? 188).map (·.size) = some 1 := by kernel_rfl
abbrev T.fn189 : Nat := 189
theorem ce.fn189 : CellT P 189 := ⟨by kernel_rfl, by kernel_rfl⟩
theorem z.fn189 : ZeroT P 189 [.d (.sc .nilFunc)] := ⟨by kernel_rfl⟩
theorem sz.fn189 : (P.info? 189).map (·.size) = some 1 := by kernel_rfl
abbrev T.fn190 : Nat := 190
theorem ce.fn190 : CellT P 190 := ⟨by kernel_rfl, by kernel_rfl⟩
theorem z.fn190 : ZeroT P 190 [.d (.sc .nilFunc)] := ⟨by kernel_rfl⟩
theorem sz.fn190 : (P.info? 190).map (·.size) = some 1 := by kernel_rfl
abbrev T.fn191 : Nat := 191
theorem ce.fn191 : CellT P 191 := ⟨by kernel_rfl, by kernel_rfl⟩
theorem z.fn191 : ZeroT P 191 [.d (.sc .nilFunc)] := ⟨by kernel_rfl⟩
theorem sz.fn191 : (P.info? 191).map (·.size) = some 1 := by kernel_rfl
abbrev T.fn192 : Nat := 192
theorem ce.fn192 : CellT P 192 := ⟨by kernel_rfl, by kernel_rfl⟩
theorem z.fn192 : ZeroT P 192 [.d (.sc .nilFunc)] := ⟨by kernel_rfl⟩
theorem sz.fn192 : (P.info? 192).map (·.size) = some 1 := by kernel_rfl
abbrev T.fn193 : Nat := 193
theorem ce.fn193 : CellT P 193 := ⟨by kernel_rfl, by kernel_rfl⟩
theorem z.fn193 : ZeroT P 193 [.d (.sc .nilFunc)] := ⟨by kernel_rfl⟩
theorem sz.fn193 : (P.info? 193).map (·.size) = some 1 := by kernel_rfl
abbrev T.fn194 : Nat := 194
theorem ce.fn194 : CellT P 194 := ⟨by kernel_rfl, by kernel_rfl⟩
theorem z.fn194 : ZeroT P 194 [.d (.sc .nilFunc)] := ⟨by kernel_rfl⟩
theorem sz.fn194 : (P.info? 194).map (·.size) = some 1 := by kernel_rfl
abbrev T.fn195 : Nat := 195
theorem ce.fn195 : CellT P 195 := ⟨by kernel_rfl, by kernel_rfl⟩
theorem z.fn195 : ZeroT P 195 [.d (.sc .nilFunc)] := ⟨by kernel_rfl⟩
theorem sz.fn195 : (P.info? 195).map (·.size) = some 1 := by kernel_rfl
abbrev T.fn196 : Nat := 196
theorem ce.fn196 : CellT P 196 := ⟨by kernel_rfl, by kernel_rfl⟩
theorem z.fn196 : ZeroT P 196 [.d (.sc .nilFunc)] := ⟨by kernel_rfl⟩
theorem sz.fn196 : (P.info? 196).map (·.size) = some 1 := by kernel_rfl
abbrev T.fn198 : Nat := 198
theorem ce.fn198 : CellT P 198 := ⟨by kernel_rfl, by kernel_rfl⟩
theorem z.fn198 : ZeroT P 198 [.d (.sc .nilFunc)] := ⟨by kernel_rfl⟩
theorem sz.fn198 : (P.info? 198).map (·.size) = some 1 := by kernel_rfl
abbrev T.fn200 : Nat := 200
theorem ce.fn200 : CellT P 200 := ⟨by kernel_rfl, by kernel_rfl⟩
theorem z.fn200 : ZeroT P 200 [.d (.sc .nilFunc)] := ⟨by kernel_rfl⟩
theorem sz.fn200 : (P.info? 200).map (·.size) = some 1 := by kernel_rfl
abbrev T.fn201 : Nat := 201
theorem ce.fn201 : CellT P 201 := ⟨by kernel_rfl, by kernel_rfl⟩
theorem z.fn201 : ZeroT P 201 [.d (.sc .nilFunc)] := ⟨by kernel_rfl⟩
theorem sz.fn201 : (P.info? 201).map (·.size) = some 1 := by kernel_rfl
abbrev T.fn202 : Nat := 202
theorem ce.fn202 : CellT P 202 := ⟨by kernel_rfl, by kernel_rfl⟩
theorem z.fn202 : ZeroT P 202 [.d (.sc .nilFunc)] := ⟨by kernel_rfl⟩
theorem sz.fn202 : (P.info? 202).map (·.size) = some 1 := by kernel_rfl
abbrev T.fn204 : Nat := 204
theorem ce.fn204 : CellT P 204 := ⟨by kernel_rfl, by kernel_rfl⟩
theorem z.fn204 : ZeroT P 204 [.d (.sc .nilFunc)] := ⟨by kernel_rfl⟩
theorem sz.fn204 : (P.info? 204).map (·.size) = some 1 := by kernel_rfl
abbrev T.fn205 : Nat := 205
theorem ce.fn205 : CellT P 205 := ⟨by kernel_rfl, by kernel_rfl⟩
theorem z.fn205 : ZeroT P 205 [.d (.sc .nilFunc)] := ⟨by kernel_rfl⟩
theorem sz.fn205 : (P.info? 205).map (·.size) = some 1 := by kernel_rfl
abbrev T.fn207 : Nat := 207
theorem ce.fn207 : CellT P 207 := ⟨by kernel_rfl, by kernel_rfl⟩
theorem z.fn207 : ZeroT P 207 [.d (.sc .nilFunc)] := ⟨by kernel_rfl⟩
theorem sz.fn207 : (P.info? 207).map (·.size) = some 1 := by kernel_rfl
abbrev T.fn208 : Nat := 208
theorem ce.fn208 : CellT P 208 := ⟨by kernel_rfl, by kernel_rfl⟩
theorem z.fn208 : ZeroT P 208 [.d (.sc .nilFunc)] := ⟨by kernel_rfl⟩
theorem sz.fn208 : (P.info? 208).map (·.size) = some 1 := by kernel_rfl
abbrev T.fn209 : Nat := 209
theorem ce.fn209 : CellT P 209 := ⟨by kernel_rfl, by kernel_rfl⟩
theorem z.fn209 : ZeroT P 209 [.d (.sc .nilFunc)] := ⟨by kernel_rfl⟩
theorem sz.fn209 : (P.info? 209).map (·.size) = some 1 := by kernel_rfl
abbrev T.fn210 : Nat := 210
theorem ce.fn210 : CellT P 210 := ⟨by kernel_rfl, by kernel_rfl⟩
theorem z.fn210 : ZeroT P 210 [.d (.sc .nilFunc)] := ⟨by kernel_rfl⟩
theorem sz.fn210 : (P.info? 210).map (·.size) = some 1 := by kernel_rfl
abbrev T.fn211 : Nat := 211
theorem ce.fn211 : CellT P 211 := ⟨by kernel_rfl, by kernel_rfl⟩
theorem z.fn211 : ZeroT P 211 [.d (.sc .nilFunc)] := ⟨by kernel_rfl⟩
theorem sz.fn211 : (P.info? 211).map (·.size) = some 1 := by kernel_rfl
abbrev T.fn212 : Nat := 212
theorem ce.fn212 : CellT P 212 := ⟨by kernel_rfl, by kernel_rfl⟩
theorem z.fn212 : ZeroT P 212 [.d (.sc .nilFunc)] := ⟨by kernel_rfl⟩
theorem sz.fn212 : (P.info? 212).map (·.size) = some 1 := by kernel_rfl
abbrev T.fn213 : Nat := 213
theorem ce.fn213 : CellT P 213 := ⟨by kernel_rfl, by kernel_rfl⟩
theorem z.fn213 : ZeroT P 213 [.d (.sc .nilFunc)] := ⟨by kernel_rfl⟩
theorem sz.fn213 : (P.info? 213).map (·.size) = some 1 := by kernel_rfl
abbrev T.fn215 : Nat := 215
theorem ce.fn215 : CellT P 215 := ⟨by kernel_rfl, by kernel_rfl⟩
theorem z.fn215 : ZeroT P 215 [.d (.sc .nilFunc)] := ⟨by kernel_rfl⟩
theorem sz.fn215 : (P.info? 215).map (·.size) = some 1 := by kernel_rfl
abbrev T.fn217 : Nat := 217
theorem ce.fn217 : CellT P 217 := ⟨by kernel_rfl, by kernel_rfl⟩
theorem z.fn217 : ZeroT P 217 [.d (.sc .nilFunc)] := ⟨by kernel_rfl⟩
theorem sz.fn217 : (P.info? 217).map (·.size) = some 1 := by kernel_rfl
abbrev T.fn218 : Nat := 218
theorem ce.fn218 : CellT P 218 := ⟨by kernel_rfl, by kernel_rfl⟩
theorem z.fn218 : ZeroT P 218 [.d (.sc .nilFunc)] := ⟨by kernel_rfl⟩
theorem sz.fn218 : (P.info? 218).map (·.size) = some 1 := by kernel_rfl
abbrev T.fn219 : Nat := 219
theorem ce.fn219 : CellT P 219 := ⟨by kernel_rfl, by kernel_rfl⟩
theorem z.fn219 : ZeroT P 219 [.d (.sc .nilFunc)] := ⟨by kernel_rfl⟩
theorem sz.fn219 : (P.info? 219).map (·.size) = some 1 := by kernel_rfl
abbrev T.fn220 : Nat := 220
theorem ce.fn220 : CellT P 220 := ⟨by kernel_rfl, by kernel_rfl⟩
theorem z.fn220 : ZeroT P 220 [.d (.sc .nilFunc)] := ⟨by kernel_rfl⟩
theorem sz.fn220 : (P.info? 220).map (·.size) = some 1 := by kernel_rfl
abbrev T.fn222 : Nat := 222
theorem ce.fn222 : CellT P 222 := ⟨by kernel_rfl, by kernel_rfl⟩
theorem z.fn222 : ZeroT P 222 [.d (.sc .nilFunc)] := ⟨by kernel_rfl⟩
theorem sz.fn222 : (P.info? 222).map (·.size) = some 1 := by kernel_rfl
abbrev T.fn223 : Nat := 223
theorem ce.fn223 : CellT P 223 := ⟨by kernel_rfl, by kernel_rfl⟩
theorem z.fn223 : ZeroT P 223 [.d (.sc .nilFunc)] := ⟨by kernel_rfl⟩
theorem sz.fn223 : (P.info? 223).map (·.size) = some 1 := by kernel_rfl
abbrev T.fn224 : Nat := 224
theorem ce.fn224 : CellT P 224 := ⟨by kernel_rfl, by kernel_rfl⟩
theorem z.fn224 : ZeroT P 224 [.d (.sc .nilFunc)] := ⟨by kernel_rfl⟩
theorem sz.fn224 : (P.info? 224).map (·.size) = some 1 := by kernel_rfl
abbrev T.fn225 : Nat := 225
theorem ce.fn225 : CellT P 225 := ⟨by kernel_rfl, by kernel_rfl⟩
theorem z.fn225 : ZeroT P 225 [.d (.sc .nilFunc)] := ⟨by kernel_rfl⟩
theorem sz.fn225 : (P.info? 225).map (·.size) = some 1 := by kernel_rfl
abbrev T.fn226 : Nat := 226
theorem ce.fn226 : CellT P 226 := ⟨by kernel_rfl, by kernel_rfl⟩
theorem z.fn226 : ZeroT P 226 [.d (.sc .nilFunc)] := ⟨by kernel_rfl⟩
theorem sz.fn226 : (P.info? 226).map (·.size) = some 1 := by kernel_rfl
abbrev T.fn227 : Nat := 227
theorem ce.fn227 : CellT P 227 := ⟨by kernel_rfl, by kernel_rfl⟩
theorem z.fn227 : ZeroT P 227 [.d (.sc .nilFunc)] := ⟨by kernel_rfl⟩
theorem sz.fn227 : (P.info? 227).map (·.size) = some 1 := by kernel_rfl
abbrev T.fn228 : Nat := 228
theorem ce.fn228 : CellT P 228 := ⟨by kernel_rfl, by kernel_rfl⟩
theorem z.fn228 : ZeroT P 228 [.d (.sc .nilFunc)] := ⟨by kernel_rfl⟩
theorem sz.fn228 : (P.info? 228).map (·.size) = some 1 := by kernel_rfl
abbrev T.fn229 : Nat := 229
theorem ce.fn229 : CellT P 229 := ⟨by kernel_rfl, by kernel_rfl⟩
theorem z.fn229 : ZeroT P 229 [.d (.sc .nilFunc)] := ⟨by kernel_rfl⟩
theorem sz.fn229 : (P.info? 229).map (·.size) = some 1 := by kernel_rfl
abbrev T.fn230 : Nat := 230
theorem ce.fn230 : CellT P 230 := ⟨by kernel_rfl, by kernel_rfl⟩
theorem z.fn230 : ZeroT P 230 [.d (.sc .nilFunc)] := ⟨by kernel_rfl⟩
theorem sz.fn230 : (P.info? 230).map (·.size) = some 1 := by kernel_rfl
abbrev T.fn231 : Nat := 231
theorem ce.fn231 : CellT P 231 := ⟨by kernel_rfl, by kernel_rfl⟩
theorem z.fn231 : ZeroT P 231 [.d (.sc .nilFunc)] := ⟨by kernel_rfl⟩
theorem sz.fn231 : (P.info? 231).map (·.size) = some 1 := by kernel_rfl
abbrev T.fn239 : Nat := 239
theorem ce.fn239 : CellT P 239 := ⟨by kernel_rfl, by kernel_rfl⟩
theorem z.fn239 : ZeroT P 239 [.d (.sc .nilFunc)] := ⟨by kernel_rfl⟩
theorem sz.fn239 : (P.info? 239).map (·.size) = some 1 := by kernel_rfl
theorem st.str : P.underlying 9 = some .string := by kernel_rfl
end Go.Proofs.YtcebciggodhmcaaGreat
