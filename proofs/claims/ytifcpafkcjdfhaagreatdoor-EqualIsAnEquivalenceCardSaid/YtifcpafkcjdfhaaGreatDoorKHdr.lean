/-
  Names for the functions of this seat, and facts on its types (printed by hdr.py).
-/
import Derived.Test.YtifcpafkcjdfhaaGreatDoorChecked
import Derived.KernelRfl
import Derived.Test.YtifcpafkcjdfhaaGreatDoorKAlg25
import Derived.Test.YtifcpafkcjdfhaaGreatDoorKAlg37
set_option linter.unusedVariables false
set_option linter.unusedSimpArgs false
namespace Go.Proofs.YtifcpafkcjdfhaaGreatDoor
open Go Go.AL
noncomputable abbrev P : Program := Tryz.prog
theorem order_free : P.follows .mixedOrders = true := by kernel_rfl
abbrev F.law23_EqualIsAnEquivalence : Nat := 3
theorem fn.law23_EqualIsAnEquivalence : P.funcs[F.law23_EqualIsAnEquivalence]? = some Tryz.f3 := Tryz.func3
abbrev F.law23_plain : Nat := 4
theorem fn.law23_plain : P.funcs[F.law23_plain]? = some Tryz.f4 := Tryz.func4
abbrev F.equal_Equal : Nat := 5
theorem fn.equal_Equal : P.funcs[F.equal_Equal]? = some Tryz.f5 := Tryz.func5
abbrev F.ref06_Form : Nat := 6
theorem fn.ref06_Form : P.funcs[F.ref06_Form]? = some Tryz.f6 := Tryz.func6
abbrev F.law23_awake : Nat := 7
theorem fn.law23_awake : P.funcs[F.law23_awake]? = some Tryz.f7 := Tryz.func7
abbrev F.ref05_Same : Nat := 8
theorem fn.ref05_Same : P.funcs[F.ref05_Same]? = some Tryz.f8 := Tryz.func8
abbrev F.weightedmade_Model_Auto : Nat := 9
theorem fn.weightedmade_Model_Auto : P.funcs[F.weightedmade_Model_Auto]? = some Tryz.f9 := Tryz.func9
abbrev F.law23_ring : Nat := 10
theorem fn.law23_ring : P.funcs[F.law23_ring]? = some Tryz.f10 := Tryz.func10
abbrev F.equal_Check : Nat := 11
theorem fn.equal_Check : P.funcs[F.equal_Check]? = some Tryz.f11 := Tryz.func11
abbrev F.equal_differ : Nat := 12
theorem fn.equal_differ : P.funcs[F.equal_differ]? = some Tryz.f12 := Tryz.func12
abbrev F.rows_Of : Nat := 13
theorem fn.rows_Of : P.funcs[F.rows_Of]? = some Tryz.f13 := Tryz.func13
abbrev F.ref06_ring : Nat := 14
theorem fn.ref06_ring : P.funcs[F.ref06_ring]? = some Tryz.f14 := Tryz.func14
abbrev F.ref06_take : Nat := 15
theorem fn.ref06_take : P.funcs[F.ref06_take]? = some Tryz.f15 := Tryz.func15
abbrev F.ref06_Arcs : Nat := 16
theorem fn.ref06_Arcs : P.funcs[F.ref06_Arcs]? = some Tryz.f16 := Tryz.func16
abbrev F.ref06_Letter : Nat := 17
theorem fn.ref06_Letter : P.funcs[F.ref06_Letter]? = some Tryz.f17 := Tryz.func17
abbrev F.ref01_Of : Nat := 18
theorem fn.ref01_Of : P.funcs[F.ref01_Of]? = some Tryz.f18 := Tryz.func18
abbrev F.equal_Rank : Nat := 19
theorem fn.equal_Rank : P.funcs[F.equal_Rank]? = some Tryz.f19 := Tryz.func19
abbrev F.ref05_Compare : Nat := 20
theorem fn.ref05_Compare : P.funcs[F.ref05_Compare]? = some Tryz.f20 := Tryz.func20
abbrev F.weightedmade_Mod : Nat := 21
theorem fn.weightedmade_Mod : P.funcs[F.weightedmade_Mod]? = some Tryz.f21 := Tryz.func21
abbrev F.weightedmade_end : Nat := 22
theorem fn.weightedmade_end : P.funcs[F.weightedmade_end]? = some Tryz.f22 := Tryz.func22
abbrev F.weightedmade_Weight : Nat := 23
theorem fn.weightedmade_Weight : P.funcs[F.weightedmade_Weight]? = some Tryz.f23 := Tryz.func23
abbrev F.equal_Check_1 : Nat := 24
theorem fn.equal_Check_1 : P.funcs[F.equal_Check_1]? = some Tryz.f24 := Tryz.func24
abbrev F.equal_is : Nat := 25
theorem fn.equal_is : P.funcs[F.equal_is]? = some Tryz.f25 := Tryz.func25
abbrev F.automaton_Valid : Nat := 26
theorem fn.automaton_Valid : P.funcs[F.automaton_Valid]? = some Tryz.f26 := Tryz.func26
abbrev F.equal_Check_2 : Nat := 27
theorem fn.equal_Check_2 : P.funcs[F.equal_Check_2]? = some Tryz.f27 := Tryz.func27
abbrev F.equal_Check_3 : Nat := 28
theorem fn.equal_Check_3 : P.funcs[F.equal_Check_3]? = some Tryz.f28 := Tryz.func28
abbrev F.weigh_Ready : Nat := 29
theorem fn.weigh_Ready : P.funcs[F.weigh_Ready]? = some Tryz.f29 := Tryz.func29
abbrev F.equal_Check_4 : Nat := 30
theorem fn.equal_Check_4 : P.funcs[F.equal_Check_4]? = some Tryz.f30 := Tryz.func30
abbrev F.rows_Machine_Explore : Nat := 31
theorem fn.rows_Machine_Explore : P.funcs[F.rows_Machine_Explore]? = some Tryz.f31 := Tryz.func31
abbrev F.equal_differ_1 : Nat := 32
theorem fn.equal_differ_1 : P.funcs[F.equal_differ_1]? = some Tryz.f32 := Tryz.func32
abbrev F.rational_Sign : Nat := 33
theorem fn.rational_Sign : P.funcs[F.rational_Sign]? = some Tryz.f33 := Tryz.func33
abbrev F.span_Dot : Nat := 34
theorem fn.span_Dot : P.funcs[F.span_Dot]? = some Tryz.f34 := Tryz.func34
abbrev F.span_Space_Add : Nat := 35
theorem fn.span_Space_Add : P.funcs[F.span_Space_Add]? = some Tryz.f35 := Tryz.func35
abbrev F.rows_numbers : Nat := 36
theorem fn.rows_numbers : P.funcs[F.rows_numbers]? = some Tryz.f36 := Tryz.func36
abbrev F.automaton_Tidy : Nat := 37
theorem fn.automaton_Tidy : P.funcs[F.automaton_Tidy]? = some Tryz.f37 := Tryz.func37
abbrev F.ref03_Take : Nat := 38
theorem fn.ref03_Take : P.funcs[F.ref03_Take]? = some Tryz.f38 := Tryz.func38
abbrev F.ref06_order : Nat := 39
theorem fn.ref06_order : P.funcs[F.ref06_order]? = some Tryz.f39 := Tryz.func39
abbrev F.ref03_Plus : Nat := 40
theorem fn.ref03_Plus : P.funcs[F.ref03_Plus]? = some Tryz.f40 := Tryz.func40
abbrev F.ref03_IsZero : Nat := 41
theorem fn.ref03_IsZero : P.funcs[F.ref03_IsZero]? = some Tryz.f41 := Tryz.func41
abbrev F.ref03_Valid : Nat := 42
theorem fn.ref03_Valid : P.funcs[F.ref03_Valid]? = some Tryz.f42 := Tryz.func42
abbrev F.ref05_Alphabet : Nat := 43
theorem fn.ref05_Alphabet : P.funcs[F.ref05_Alphabet]? = some Tryz.f43 := Tryz.func43
abbrev F.ref06_In : Nat := 44
theorem fn.ref06_In : P.funcs[F.ref06_In]? = some Tryz.f44 := Tryz.func44
abbrev F.ref03_Zero : Nat := 45
theorem fn.ref03_Zero : P.funcs[F.ref03_Zero]? = some Tryz.f45 := Tryz.func45
abbrev F.ref03_One : Nat := 46
theorem fn.ref03_One : P.funcs[F.ref03_One]? = some Tryz.f46 := Tryz.func46
abbrev F.ref01_Make : Nat := 47
theorem fn.ref01_Make : P.funcs[F.ref01_Make]? = some Tryz.f47 := Tryz.func47
abbrev F.rows_Machine_Views : Nat := 48
theorem fn.rows_Machine_Views : P.funcs[F.rows_Machine_Views]? = some Tryz.f48 := Tryz.func48
abbrev F.rows_Machine_Basis : Nat := 49
theorem fn.rows_Machine_Basis : P.funcs[F.rows_Machine_Basis]? = some Tryz.f49 := Tryz.func49
abbrev F.span_Space_Size : Nat := 50
theorem fn.span_Space_Size : P.funcs[F.span_Space_Size]? = some Tryz.f50 := Tryz.func50
abbrev F.weightedmade_Number : Nat := 51
theorem fn.weightedmade_Number : P.funcs[F.weightedmade_Number]? = some Tryz.f51 := Tryz.func51
abbrev F.semiring_Valid : Nat := 56
theorem fn.semiring_Valid : P.funcs[F.semiring_Valid]? = some Tryz.f56 := Tryz.func56
abbrev F.slices_ContainsFunc_Arc_Arc : Nat := 57
theorem fn.slices_ContainsFunc_Arc_Arc : P.funcs[F.slices_ContainsFunc_Arc_Arc]? = some Tryz.f57 := Tryz.func57
abbrev F.automaton_Valid_1 : Nat := 58
theorem fn.automaton_Valid_1 : P.funcs[F.automaton_Valid_1]? = some Tryz.f58 := Tryz.func58
abbrev F.automaton_inside : Nat := 59
theorem fn.automaton_inside : P.funcs[F.automaton_inside]? = some Tryz.f59 := Tryz.func59
abbrev F.automaton_weights : Nat := 60
theorem fn.automaton_weights : P.funcs[F.automaton_weights]? = some Tryz.f60 := Tryz.func60
abbrev F.automaton_Normal : Nat := 61
theorem fn.automaton_Normal : P.funcs[F.automaton_Normal]? = some Tryz.f61 := Tryz.func61
abbrev F.weigh_Ready_1 : Nat := 62
theorem fn.weigh_Ready_1 : P.funcs[F.weigh_Ready_1]? = some Tryz.f62 := Tryz.func62
abbrev F.words_Valid : Nat := 63
theorem fn.words_Valid : P.funcs[F.words_Valid]? = some Tryz.f63 := Tryz.func63
abbrev F.slices_Clone_ints_int : Nat := 64
theorem fn.slices_Clone_ints_int : P.funcs[F.slices_Clone_ints_int]? = some Tryz.f64 := Tryz.func64
abbrev F.rows_Machine_Step : Nat := 65
theorem fn.rows_Machine_Step : P.funcs[F.rows_Machine_Step]? = some Tryz.f65 := Tryz.func65
abbrev F.rational_of : Nat := 66
theorem fn.rational_of : P.funcs[F.rational_of]? = some Tryz.f66 := Tryz.func66
abbrev F.rational_Add : Nat := 67
theorem fn.rational_Add : P.funcs[F.rational_Add]? = some Tryz.f67 := Tryz.func67
abbrev F.rational_Mul : Nat := 68
theorem fn.rational_Mul : P.funcs[F.rational_Mul]? = some Tryz.f68 := Tryz.func68
abbrev F.span_Space_reduce : Nat := 69
theorem fn.span_Space_reduce : P.funcs[F.span_Space_reduce]? = some Tryz.f69 := Tryz.func69
abbrev F.span_first : Nat := 70
theorem fn.span_first : P.funcs[F.span_first]? = some Tryz.f70 := Tryz.func70
abbrev F.rational_Make : Nat := 71
theorem fn.rational_Make : P.funcs[F.rational_Make]? = some Tryz.f71 := Tryz.func71
abbrev F.rational_Neg : Nat := 72
theorem fn.rational_Neg : P.funcs[F.rational_Neg]? = some Tryz.f72 := Tryz.func72
abbrev F.slices_Clone_Arc_Arc : Nat := 73
theorem fn.slices_Clone_Arc_Arc : P.funcs[F.slices_Clone_Arc_Arc]? = some Tryz.f73 := Tryz.func73
abbrev F.slices_SortStableFunc_Arc_Arc : Nat := 74
theorem fn.slices_SortStableFunc_Arc_Arc : P.funcs[F.slices_SortStableFunc_Arc_Arc]? = some Tryz.f74 := Tryz.func74
abbrev F.automaton_order : Nat := 75
theorem fn.automaton_order : P.funcs[F.automaton_order]? = some Tryz.f75 := Tryz.func75
abbrev F.semiring_Plus : Nat := 76
theorem fn.semiring_Plus : P.funcs[F.semiring_Plus]? = some Tryz.f76 := Tryz.func76
abbrev F.semiring_Zero : Nat := 77
theorem fn.semiring_Zero : P.funcs[F.semiring_Zero]? = some Tryz.f77 := Tryz.func77
abbrev F.slices_DeleteFunc_Arc_Arc : Nat := 78
theorem fn.slices_DeleteFunc_Arc_Arc : P.funcs[F.slices_DeleteFunc_Arc_Arc]? = some Tryz.f78 := Tryz.func78
abbrev F.automaton_Tidy_1 : Nat := 79
theorem fn.automaton_Tidy_1 : P.funcs[F.automaton_Tidy_1]? = some Tryz.f79 := Tryz.func79
abbrev F.automaton_IsZero : Nat := 80
theorem fn.automaton_IsZero : P.funcs[F.automaton_IsZero]? = some Tryz.f80 := Tryz.func80
abbrev F.ref03_Check : Nat := 81
theorem fn.ref03_Check : P.funcs[F.ref03_Check]? = some Tryz.f81 := Tryz.func81
abbrev F.ref01_Take : Nat := 82
theorem fn.ref01_Take : P.funcs[F.ref01_Take]? = some Tryz.f82 := Tryz.func82
abbrev F.ref02_Take : Nat := 83
theorem fn.ref02_Take : P.funcs[F.ref02_Take]? = some Tryz.f83 := Tryz.func83
abbrev F.ref01_Add : Nat := 85
theorem fn.ref01_Add : P.funcs[F.ref01_Add]? = some Tryz.f85 := Tryz.func85
abbrev F.ref03_Equal : Nat := 87
theorem fn.ref03_Equal : P.funcs[F.ref03_Equal]? = some Tryz.f87 := Tryz.func87
abbrev F.ref01_over : Nat := 88
theorem fn.ref01_over : P.funcs[F.ref01_over]? = some Tryz.f88 := Tryz.func88
abbrev F.ref01_natural : Nat := 89
theorem fn.ref01_natural : P.funcs[F.ref01_natural]? = some Tryz.f89 := Tryz.func89
abbrev F.ref01_absolute : Nat := 90
theorem fn.ref01_absolute : P.funcs[F.ref01_absolute]? = some Tryz.f90 := Tryz.func90
abbrev F.rows_Machine_Turned : Nat := 91
theorem fn.rows_Machine_Turned : P.funcs[F.rows_Machine_Turned]? = some Tryz.f91 := Tryz.func91
abbrev F.rows_Machine_Views_1 : Nat := 92
theorem fn.rows_Machine_Views_1 : P.funcs[F.rows_Machine_Views_1]? = some Tryz.f92 := Tryz.func92
abbrev F.rows_Machine_Basis_1 : Nat := 93
theorem fn.rows_Machine_Basis_1 : P.funcs[F.rows_Machine_Basis_1]? = some Tryz.f93 := Tryz.func93
abbrev F.semiring_single : Nat := 96
theorem fn.semiring_single : P.funcs[F.semiring_single]? = some Tryz.f96 := Tryz.func96
abbrev F.slices_IndexFunc_Arc_Arc : Nat := 99
theorem fn.slices_IndexFunc_Arc_Arc : P.funcs[F.slices_IndexFunc_Arc_Arc]? = some Tryz.f99 := Tryz.func99
abbrev F.automaton_inside_1 : Nat := 100
theorem fn.automaton_inside_1 : P.funcs[F.automaton_inside_1]? = some Tryz.f100 := Tryz.func100
abbrev F.semiring_Check : Nat := 101
theorem fn.semiring_Check : P.funcs[F.semiring_Check]? = some Tryz.f101 := Tryz.func101
abbrev F.slices_ContainsFunc_Weight_Weight : Nat := 102
theorem fn.slices_ContainsFunc_Weight_Weight : P.funcs[F.slices_ContainsFunc_Weight_Weight]? = some Tryz.f102 := Tryz.func102
abbrev F.automaton_weights_1 : Nat := 103
theorem fn.automaton_weights_1 : P.funcs[F.automaton_weights_1]? = some Tryz.f103 := Tryz.func103
abbrev F.automaton_ring : Nat := 104
theorem fn.automaton_ring : P.funcs[F.automaton_ring]? = some Tryz.f104 := Tryz.func104
abbrev F.automaton_Copy : Nat := 105
theorem fn.automaton_Copy : P.funcs[F.automaton_Copy]? = some Tryz.f105 := Tryz.func105
abbrev F.rational_Valid : Nat := 106
theorem fn.rational_Valid : P.funcs[F.rational_Valid]? = some Tryz.f106 := Tryz.func106
abbrev F.rational_one : Nat := 107
theorem fn.rational_one : P.funcs[F.rational_one]? = some Tryz.f107 := Tryz.func107
abbrev F.rational_fraction_plus : Nat := 108
theorem fn.rational_fraction_plus : P.funcs[F.rational_fraction_plus]? = some Tryz.f108 := Tryz.func108
abbrev F.rational_fraction_rat : Nat := 109
theorem fn.rational_fraction_rat : P.funcs[F.rational_fraction_rat]? = some Tryz.f109 := Tryz.func109
abbrev F.rational_limbs_times : Nat := 110
theorem fn.rational_limbs_times : P.funcs[F.rational_limbs_times]? = some Tryz.f110 := Tryz.func110
abbrev F.rational_Div : Nat := 111
theorem fn.rational_Div : P.funcs[F.rational_Div]? = some Tryz.f111 := Tryz.func111
abbrev F.rational_Sub : Nat := 112
theorem fn.rational_Sub : P.funcs[F.rational_Sub]? = some Tryz.f112 := Tryz.func112
abbrev F.rational_whole : Nat := 113
theorem fn.rational_whole : P.funcs[F.rational_whole]? = some Tryz.f113 := Tryz.func113
abbrev F.rational_fraction_negative : Nat := 114
theorem fn.rational_fraction_negative : P.funcs[F.rational_fraction_negative]? = some Tryz.f114 := Tryz.func114
abbrev F.slices_stableCmpFunc_Arc : Nat := 115
theorem fn.slices_stableCmpFunc_Arc : P.funcs[F.slices_stableCmpFunc_Arc]? = some Tryz.f115 := Tryz.func115
abbrev F.cmp_Or_int : Nat := 116
theorem fn.cmp_Or_int : P.funcs[F.cmp_Or_int]? = some Tryz.f116 := Tryz.func116
abbrev F.cmp_Compare_int : Nat := 117
theorem fn.cmp_Compare_int : P.funcs[F.cmp_Compare_int]? = some Tryz.f117 := Tryz.func117
abbrev F.semiring_value : Nat := 118
theorem fn.semiring_value : P.funcs[F.semiring_value]? = some Tryz.f118 := Tryz.func118
abbrev F.semiring_kind : Nat := 119
theorem fn.semiring_kind : P.funcs[F.semiring_kind]? = some Tryz.f119 := Tryz.func119
abbrev F.semiring_Equal : Nat := 123
theorem fn.semiring_Equal : P.funcs[F.semiring_Equal]? = some Tryz.f123 := Tryz.func123
abbrev F.ref03_simple : Nat := 124
theorem fn.ref03_simple : P.funcs[F.ref03_simple]? = some Tryz.f124 := Tryz.func124
abbrev F.ref01_Valid : Nat := 125
theorem fn.ref01_Valid : P.funcs[F.ref01_Valid]? = some Tryz.f125 := Tryz.func125
abbrev F.ref02_Valid : Nat := 126
theorem fn.ref02_Valid : P.funcs[F.ref02_Valid]? = some Tryz.f126 := Tryz.func126
abbrev F.ref01_times : Nat := 127
theorem fn.ref01_times : P.funcs[F.ref01_times]? = some Tryz.f127 := Tryz.func127
abbrev F.ref01_den : Nat := 128
theorem fn.ref01_den : P.funcs[F.ref01_den]? = some Tryz.f128 := Tryz.func128
abbrev F.ref01_plus : Nat := 129
theorem fn.ref01_plus : P.funcs[F.ref01_plus]? = some Tryz.f129 := Tryz.func129
abbrev F.ref01_compare : Nat := 130
theorem fn.ref01_compare : P.funcs[F.ref01_compare]? = some Tryz.f130 := Tryz.func130
abbrev F.ref01_minus : Nat := 131
theorem fn.ref01_minus : P.funcs[F.ref01_minus]? = some Tryz.f131 := Tryz.func131
abbrev F.ref01_Same : Nat := 133
theorem fn.ref01_Same : P.funcs[F.ref01_Same]? = some Tryz.f133 := Tryz.func133
abbrev F.ref02_Same : Nat := 134
theorem fn.ref02_Same : P.funcs[F.ref02_Same]? = some Tryz.f134 := Tryz.func134
abbrev F.ref01_divisor : Nat := 135
theorem fn.ref01_divisor : P.funcs[F.ref01_divisor]? = some Tryz.f135 := Tryz.func135
abbrev F.ref01_divide : Nat := 136
theorem fn.ref01_divide : P.funcs[F.ref01_divide]? = some Tryz.f136 := Tryz.func136
abbrev F.ref01_one : Nat := 137
theorem fn.ref01_one : P.funcs[F.ref01_one]? = some Tryz.f137 := Tryz.func137
abbrev F.ref01_trim : Nat := 138
theorem fn.ref01_trim : P.funcs[F.ref01_trim]? = some Tryz.f138 := Tryz.func138
abbrev F.slices_IndexFunc_Weight_Weight : Nat := 144
theorem fn.slices_IndexFunc_Weight_Weight : P.funcs[F.slices_IndexFunc_Weight_Weight]? = some Tryz.f144 := Tryz.func144
abbrev F.rational_proper : Nat := 145
theorem fn.rational_proper : P.funcs[F.rational_proper]? = some Tryz.f145 := Tryz.func145
abbrev F.rational_limbs_cmp : Nat := 146
theorem fn.rational_limbs_cmp : P.funcs[F.rational_limbs_cmp]? = some Tryz.f146 := Tryz.func146
abbrev F.rational_limbs_gcd : Nat := 147
theorem fn.rational_limbs_gcd : P.funcs[F.rational_limbs_gcd]? = some Tryz.f147 := Tryz.func147
abbrev F.rational_limbs_plus : Nat := 148
theorem fn.rational_limbs_plus : P.funcs[F.rational_limbs_plus]? = some Tryz.f148 := Tryz.func148
abbrev F.rational_limbs_minus : Nat := 149
theorem fn.rational_limbs_minus : P.funcs[F.rational_limbs_minus]? = some Tryz.f149 := Tryz.func149
abbrev F.slices_Clone_rational_limbs_uint32 : Nat := 150
theorem fn.slices_Clone_rational_limbs_uint32 : P.funcs[F.slices_Clone_rational_limbs_uint32]? = some Tryz.f150 := Tryz.func150
abbrev F.rational_limbs_over : Nat := 151
theorem fn.rational_limbs_over : P.funcs[F.rational_limbs_over]? = some Tryz.f151 := Tryz.func151
abbrev F.rational_limbs_at : Nat := 152
theorem fn.rational_limbs_at : P.funcs[F.rational_limbs_at]? = some Tryz.f152 := Tryz.func152
abbrev F.rational_limbs_clean : Nat := 153
theorem fn.rational_limbs_clean : P.funcs[F.rational_limbs_clean]? = some Tryz.f153 := Tryz.func153
abbrev F.slices_insertionSortCmpFunc_Arc : Nat := 154
theorem fn.slices_insertionSortCmpFunc_Arc : P.funcs[F.slices_insertionSortCmpFunc_Arc]? = some Tryz.f154 := Tryz.func154
abbrev F.cmp_isNaN_int : Nat := 156
theorem fn.cmp_isNaN_int : P.funcs[F.cmp_isNaN_int]? = some Tryz.f156 := Tryz.func156
abbrev F.semiring_rationals : Nat := 157
theorem fn.semiring_rationals : P.funcs[F.semiring_rationals]? = some Tryz.f157 := Tryz.func157
abbrev F.semiring_sameRat : Nat := 163
theorem fn.semiring_sameRat : P.funcs[F.semiring_sameRat]? = some Tryz.f163 := Tryz.func163
abbrev F.slices_EqualFunc_Monomial_Monomial_Monomial_Monomial : Nat := 164
theorem fn.slices_EqualFunc_Monomial_Monomial_Monomial_Monomial : P.funcs[F.slices_EqualFunc_Monomial_Monomial_Monomial_Monomial]? = some Tryz.f164 := Tryz.func164
abbrev F.slices_EqualFunc_Weight_Weight_Weight_Weight : Nat := 165
theorem fn.slices_EqualFunc_Weight_Weight_Weight_Weight : P.funcs[F.slices_EqualFunc_Weight_Weight_Weight_Weight]? = some Tryz.f165 := Tryz.func165
abbrev F.ref01_limb : Nat := 166
theorem fn.ref01_limb : P.funcs[F.ref01_limb]? = some Tryz.f166 := Tryz.func166
abbrev F.ref01_sign : Nat := 167
theorem fn.ref01_sign : P.funcs[F.ref01_sign]? = some Tryz.f167 := Tryz.func167
abbrev F.ref01_same : Nat := 169
theorem fn.ref01_same : P.funcs[F.ref01_same]? = some Tryz.f169 := Tryz.func169
abbrev F.rational_limbs_small : Nat := 170
theorem fn.rational_limbs_small : P.funcs[F.rational_limbs_small]? = some Tryz.f170 := Tryz.func170
abbrev F.rational_limbs_length : Nat := 171
theorem fn.rational_limbs_length : P.funcs[F.rational_limbs_length]? = some Tryz.f171 := Tryz.func171
abbrev F.rational_limbs_left : Nat := 172
theorem fn.rational_limbs_left : P.funcs[F.rational_limbs_left]? = some Tryz.f172 := Tryz.func172
abbrev F.rational_limbs_right : Nat := 173
theorem fn.rational_limbs_right : P.funcs[F.rational_limbs_right]? = some Tryz.f173 := Tryz.func173
abbrev F.semiring_rationals_1 : Nat := 175
theorem fn.semiring_rationals_1 : P.funcs[F.semiring_rationals_1]? = some Tryz.f175 := Tryz.func175
abbrev F.semiring_rationals_2 : Nat := 176
theorem fn.semiring_rationals_2 : P.funcs[F.semiring_rationals_2]? = some Tryz.f176 := Tryz.func176
abbrev F.semiring_rationals_3 : Nat := 177
theorem fn.semiring_rationals_3 : P.funcs[F.semiring_rationals_3]? = some Tryz.f177 := Tryz.func177
abbrev F.semiring_rationals_4 : Nat := 179
theorem fn.semiring_rationals_4 : P.funcs[F.semiring_rationals_4]? = some Tryz.f179 := Tryz.func179
abbrev F.semiring_rationals_5 : Nat := 180
theorem fn.semiring_rationals_5 : P.funcs[F.semiring_rationals_5]? = some Tryz.f180 := Tryz.func180
abbrev F.semiring_quotient : Nat := 181
theorem fn.semiring_quotient : P.funcs[F.semiring_quotient]? = some Tryz.f181 := Tryz.func181
abbrev F.semiring_never : Nat := 182
theorem fn.semiring_never : P.funcs[F.semiring_never]? = some Tryz.f182 := Tryz.func182
abbrev F.semiring_rationals_6 : Nat := 183
theorem fn.semiring_rationals_6 : P.funcs[F.semiring_rationals_6]? = some Tryz.f183 := Tryz.func183
abbrev F.semiring_readNumber : Nat := 185
theorem fn.semiring_readNumber : P.funcs[F.semiring_readNumber]? = some Tryz.f185 := Tryz.func185
abbrev F.slices_Equal_uint32s_uint32 : Nat := 230
theorem fn.slices_Equal_uint32s_uint32 : P.funcs[F.slices_Equal_uint32s_uint32]? = some Tryz.f230 := Tryz.func230
abbrev F.math_bits_LeadingZeros32 : Nat := 232
theorem fn.math_bits_LeadingZeros32 : P.funcs[F.math_bits_LeadingZeros32]? = some Tryz.f232 := Tryz.func232
abbrev F.math_bits_Len32 : Nat := 265
theorem fn.math_bits_Len32 : P.funcs[F.math_bits_Len32]? = some Tryz.f265 := Tryz.func265
abbrev T.i64 : Nat := 2
theorem ce.i64 : CellT P 2 := ⟨by kernel_rfl, by kernel_rfl⟩
theorem it.i64 : IntT P 2 .i64 := ⟨by kernel_rfl⟩
theorem z.i64 : ZeroT P 2 [.d (.sc (.int .i64 0))] := ⟨by kernel_rfl⟩
theorem sz.i64 : (P.info? 2).map (·.size) = some 1 := by kernel_rfl
abbrev T.int : Nat := 3
theorem ce.int : CellT P 3 := ⟨by kernel_rfl, by kernel_rfl⟩
theorem it.int : IntT P 3 .i64 := ⟨by kernel_rfl⟩
theorem z.int : ZeroT P 3 [.d (.sc (.int .i64 0))] := ⟨by kernel_rfl⟩
theorem sz.int : (P.info? 3).map (·.size) = some 1 := by kernel_rfl
abbrev T.bool : Nat := 4
theorem ce.bool : CellT P 4 := ⟨by kernel_rfl, by kernel_rfl⟩
theorem bt.bool : BoolT P 4 := ⟨by kernel_rfl⟩
theorem z.bool : ZeroT P 4 [.d (.sc (.bool false))] := ⟨by kernel_rfl⟩
theorem sz.bool : (P.info? 4).map (·.size) = some 1 := by kernel_rfl
abbrev T.u8 : Nat := 5
theorem ce.u8 : CellT P 5 := ⟨by kernel_rfl, by kernel_rfl⟩
theorem it.u8 : IntT P 5 .u8 := ⟨by kernel_rfl⟩
theorem z.u8 : ZeroT P 5 [.d (.sc (.int .u8 0))] := ⟨by kernel_rfl⟩
theorem sz.u8 : (P.info? 5).map (·.size) = some 1 := by kernel_rfl
abbrev T.ints : Nat := 22
theorem sl.ints : SliceT P 22 3 1 8 := ⟨by kernel_rfl, by kernel_rfl, by decide⟩
theorem ce.ints : CellT P 22 := ⟨by kernel_rfl, by kernel_rfl⟩
theorem z.ints : ZeroT P 22 [.mt] := ⟨by kernel_rfl⟩
theorem sz.ints : (P.info? 22).map (·.size) = some 1 := by kernel_rfl
abbrev T.Model : Nat := 24
theorem ag.Model : AggT P 24 5 := ⟨by kernel_rfl, by kernel_rfl⟩
theorem cc.Model : ConcT P 24 := by unfold ConcT; kernel_rfl
theorem fd.Model_0 : FieldT P 24 0 0 := ⟨by kernel_rfl⟩
theorem fd.Model_1 : FieldT P 24 1 1 := ⟨by kernel_rfl⟩
theorem fd.Model_2 : FieldT P 24 2 2 := ⟨by kernel_rfl⟩
theorem fd.Model_3 : FieldT P 24 3 3 := ⟨by kernel_rfl⟩
theorem fd.Model_4 : FieldT P 24 4 4 := ⟨by kernel_rfl⟩
theorem z.Model : ZeroT P 24 [.d (.sc (.int .i64 0)), .mt, .mt, .mt, .d (.sc (.bool false))] := ⟨by kernel_rfl⟩
theorem pl.Model : PlacesT P 24 [(0, 1), (1, 1), (2, 1), (3, 1), (4, 1)] := ⟨by kernel_rfl⟩
theorem sz.Model : (P.info? 24).map (·.size) = some 5 := by kernel_rfl
abbrev T.Ring : Nat := 26
theorem ag.Ring : AggT P 26 2 := ⟨by kernel_rfl, by kernel_rfl⟩
theorem cc.Ring : ConcT P 26 := by unfold ConcT; kernel_rfl
theorem fd.Ring_0 : FieldT P 26 0 0 := ⟨by kernel_rfl⟩
theorem fd.Ring_1 : FieldT P 26 1 1 := ⟨by kernel_rfl⟩
theorem z.Ring : ZeroT P 26 [.d (.sc (.int .i64 0)), .mt] := ⟨by kernel_rfl⟩
theorem pl.Ring : PlacesT P 26 [(0, 1), (1, 1)] := ⟨by kernel_rfl⟩
theorem sz.Ring : (P.info? 26).map (·.size) = some 2 := by kernel_rfl
abbrev T.Weights : Nat := 27
theorem sl.Weights : SliceT P 27 61 8 128 := ⟨by kernel_rfl, by kernel_rfl, by decide⟩
theorem ce.Weights : CellT P 27 := ⟨by kernel_rfl, by kernel_rfl⟩
theorem z.Weights : ZeroT P 27 [.mt] := ⟨by kernel_rfl⟩
theorem sz.Weights : (P.info? 27).map (·.size) = some 1 := by kernel_rfl
abbrev T.Arcs : Nat := 28
theorem sl.Arcs : SliceT P 28 69 11 152 := ⟨by kernel_rfl, by kernel_rfl, by decide⟩
theorem ce.Arcs : CellT P 28 := ⟨by kernel_rfl, by kernel_rfl⟩
theorem z.Arcs : ZeroT P 28 [.mt] := ⟨by kernel_rfl⟩
theorem sz.Arcs : (P.info? 28).map (·.size) = some 1 := by kernel_rfl
abbrev T.Auto : Nat := 30
theorem ag.Auto : AggT P 30 7 := ⟨by kernel_rfl, by kernel_rfl⟩
theorem cc.Auto : ConcT P 30 := by unfold ConcT; kernel_rfl
theorem fd.Auto_0 : FieldT P 30 0 0 := ⟨by kernel_rfl⟩
theorem fd.Auto_1 : FieldT P 30 1 2 := ⟨by kernel_rfl⟩
theorem fd.Auto_2 : FieldT P 30 2 3 := ⟨by kernel_rfl⟩
theorem fd.Auto_3 : FieldT P 30 3 4 := ⟨by kernel_rfl⟩
theorem fd.Auto_4 : FieldT P 30 4 5 := ⟨by kernel_rfl⟩
theorem fd.Auto_5 : FieldT P 30 5 6 := ⟨by kernel_rfl⟩
theorem z.Auto : ZeroT P 30 [.d (.sc (.int .i64 0)), .mt, .d (.sc (.int .i64 0)), .d (.sc (.int .i64 0)), .mt, .mt, .mt] := ⟨by kernel_rfl⟩
theorem pl.Auto : PlacesT P 30 [(0, 2), (2, 1), (3, 1), (4, 1), (5, 1), (6, 1)] := ⟨by kernel_rfl⟩
theorem sz.Auto : (P.info? 30).map (·.size) = some 7 := by kernel_rfl
abbrev T.Rats : Nat := 44
theorem sl.Rats : SliceT P 44 56 3 56 := ⟨by kernel_rfl, by kernel_rfl, by decide⟩
theorem ce.Rats : CellT P 44 := ⟨by kernel_rfl, by kernel_rfl⟩
theorem z.Rats : ZeroT P 44 [.mt] := ⟨by kernel_rfl⟩
theorem sz.Rats : (P.info? 44).map (·.size) = some 1 := by kernel_rfl
abbrev T.Ratsss : Nat := 45
theorem sl.Ratsss : SliceT P 45 77 1 24 := ⟨by kernel_rfl, by kernel_rfl, by decide⟩
theorem ce.Ratsss : CellT P 45 := ⟨by kernel_rfl, by kernel_rfl⟩
theorem z.Ratsss : ZeroT P 45 [.mt] := ⟨by kernel_rfl⟩
theorem sz.Ratsss : (P.info? 45).map (·.size) = some 1 := by kernel_rfl
abbrev T.Machine : Nat := 47
theorem ag.Machine : AggT P 47 3 := ⟨by kernel_rfl, by kernel_rfl⟩
theorem cc.Machine : ConcT P 47 := by unfold ConcT; kernel_rfl
theorem fd.Machine_0 : FieldT P 47 0 0 := ⟨by kernel_rfl⟩
theorem fd.Machine_1 : FieldT P 47 1 1 := ⟨by kernel_rfl⟩
theorem fd.Machine_2 : FieldT P 47 2 2 := ⟨by kernel_rfl⟩
theorem z.Machine : ZeroT P 47 [.mt, .mt, .mt] := ⟨by kernel_rfl⟩
theorem pl.Machine : PlacesT P 47 [(0, 1), (1, 1), (2, 1)] := ⟨by kernel_rfl⟩
theorem sz.Machine : (P.info? 47).map (·.size) = some 3 := by kernel_rfl
abbrev T.u32s : Nat := 54
theorem sl.u32s : SliceT P 54 176 1 4 := ⟨by kernel_rfl, by kernel_rfl, by decide⟩
theorem ce.u32s : CellT P 54 := ⟨by kernel_rfl, by kernel_rfl⟩
theorem z.u32s : ZeroT P 54 [.mt] := ⟨by kernel_rfl⟩
theorem sz.u32s : (P.info? 54).map (·.size) = some 1 := by kernel_rfl
abbrev T.Rat : Nat := 56
theorem ag.Rat : AggT P 56 3 := ⟨by kernel_rfl, by kernel_rfl⟩
theorem cc.Rat : ConcT P 56 := by unfold ConcT; kernel_rfl
theorem fd.Rat_0 : FieldT P 56 0 0 := ⟨by kernel_rfl⟩
theorem fd.Rat_1 : FieldT P 56 1 1 := ⟨by kernel_rfl⟩
theorem fd.Rat_2 : FieldT P 56 2 2 := ⟨by kernel_rfl⟩
theorem z.Rat : ZeroT P 56 [.d (.sc (.bool false)), .mt, .mt] := ⟨by kernel_rfl⟩
theorem pl.Rat : PlacesT P 56 [(0, 1), (1, 1), (2, 1)] := ⟨by kernel_rfl⟩
theorem sz.Rat : (P.info? 56).map (·.size) = some 3 := by kernel_rfl
abbrev T.u64 : Nat := 58
theorem ce.u64 : CellT P 58 := ⟨by kernel_rfl, by kernel_rfl⟩
theorem it.u64 : IntT P 58 .u64 := ⟨by kernel_rfl⟩
theorem z.u64 : ZeroT P 58 [.d (.sc (.int .u64 0))] := ⟨by kernel_rfl⟩
theorem sz.u64 : (P.info? 58).map (·.size) = some 1 := by kernel_rfl
abbrev T.Monomials : Nat := 59
theorem sl.Monomials : SliceT P 59 139 6 80 := ⟨by kernel_rfl, by kernel_rfl, by decide⟩
theorem ce.Monomials : CellT P 59 := ⟨by kernel_rfl, by kernel_rfl⟩
theorem z.Monomials : ZeroT P 59 [.mt] := ⟨by kernel_rfl⟩
theorem sz.Monomials : (P.info? 59).map (·.size) = some 1 := by kernel_rfl
abbrev T.Weight : Nat := 61
theorem ag.Weight : AggT P 61 8 := ⟨by kernel_rfl, by kernel_rfl⟩
theorem cc.Weight : ConcT P 61 := by unfold ConcT; kernel_rfl
theorem fd.Weight_0 : FieldT P 61 0 0 := ⟨by kernel_rfl⟩
theorem fd.Weight_1 : FieldT P 61 1 3 := ⟨by kernel_rfl⟩
theorem fd.Weight_2 : FieldT P 61 2 4 := ⟨by kernel_rfl⟩
theorem fd.Weight_3 : FieldT P 61 3 5 := ⟨by kernel_rfl⟩
theorem fd.Weight_4 : FieldT P 61 4 6 := ⟨by kernel_rfl⟩
theorem fd.Weight_5 : FieldT P 61 5 7 := ⟨by kernel_rfl⟩
theorem z.Weight : ZeroT P 61 [.d (.sc (.bool false)), .mt, .mt, .d (.sc (.int .i64 0)), .d (.sc (.bool false)), .d (.sc (.int .u64 0)), .mt, .mt] := ⟨by kernel_rfl⟩
theorem pl.Weight : PlacesT P 61 [(0, 3), (3, 1), (4, 1), (5, 1), (6, 1), (7, 1)] := ⟨by kernel_rfl⟩
theorem sz.Weight : (P.info? 61).map (·.size) = some 8 := by kernel_rfl
abbrev T.Arc : Nat := 69
theorem ag.Arc : AggT P 69 11 := ⟨by kernel_rfl, by kernel_rfl⟩
theorem cc.Arc : ConcT P 69 := by unfold ConcT; kernel_rfl
theorem fd.Arc_0 : FieldT P 69 0 0 := ⟨by kernel_rfl⟩
theorem fd.Arc_1 : FieldT P 69 1 1 := ⟨by kernel_rfl⟩
theorem fd.Arc_2 : FieldT P 69 2 2 := ⟨by kernel_rfl⟩
theorem fd.Arc_3 : FieldT P 69 3 3 := ⟨by kernel_rfl⟩
theorem z.Arc : ZeroT P 69 [.d (.sc (.int .i64 0)), .d (.sc (.int .i64 0)), .d (.sc (.int .i64 0)), .d (.sc (.bool false)), .mt, .mt, .d (.sc (.int .i64 0)), .d (.sc (.bool false)), .d (.sc (.int .u64 0)), .mt, .mt] := ⟨by kernel_rfl⟩
theorem pl.Arc : PlacesT P 69 [(0, 1), (1, 1), (2, 1), (3, 8)] := ⟨by kernel_rfl⟩
theorem sz.Arc : (P.info? 69).map (·.size) = some 11 := by kernel_rfl
abbrev T.Autos : Nat := 70
theorem sl.Autos : SliceT P 70 30 7 120 := ⟨by kernel_rfl, by kernel_rfl, by decide⟩
theorem ce.Autos : CellT P 70 := ⟨by kernel_rfl, by kernel_rfl⟩
theorem z.Autos : ZeroT P 70 [.mt] := ⟨by kernel_rfl⟩
theorem sz.Autos : (P.info? 70).map (·.size) = some 1 := by kernel_rfl
abbrev T.Ratss : Nat := 77
theorem sl.Ratss : SliceT P 77 44 1 24 := ⟨by kernel_rfl, by kernel_rfl, by decide⟩
theorem ce.Ratss : CellT P 77 := ⟨by kernel_rfl, by kernel_rfl⟩
theorem z.Ratss : ZeroT P 77 [.mt] := ⟨by kernel_rfl⟩
theorem sz.Ratss : (P.info? 77).map (·.size) = some 1 := by kernel_rfl
abbrev T.Space : Nat := 79
theorem ag.Space : AggT P 79 3 := ⟨by kernel_rfl, by kernel_rfl⟩
theorem cc.Space : ConcT P 79 := by unfold ConcT; kernel_rfl
theorem fd.Space_0 : FieldT P 79 0 0 := ⟨by kernel_rfl⟩
theorem fd.Space_1 : FieldT P 79 1 1 := ⟨by kernel_rfl⟩
theorem fd.Space_2 : FieldT P 79 2 2 := ⟨by kernel_rfl⟩
theorem z.Space : ZeroT P 79 [.mt, .mt, .mt] := ⟨by kernel_rfl⟩
theorem pl.Space : PlacesT P 79 [(0, 1), (1, 1), (2, 1)] := ⟨by kernel_rfl⟩
theorem sz.Space : (P.info? 79).map (·.size) = some 3 := by kernel_rfl
abbrev T.Row : Nat := 82
theorem ag.Row : AggT P 82 2 := ⟨by kernel_rfl, by kernel_rfl⟩
theorem cc.Row : ConcT P 82 := by unfold ConcT; kernel_rfl
theorem fd.Row_0 : FieldT P 82 0 0 := ⟨by kernel_rfl⟩
theorem fd.Row_1 : FieldT P 82 1 1 := ⟨by kernel_rfl⟩
theorem z.Row : ZeroT P 82 [.mt, .mt] := ⟨by kernel_rfl⟩
theorem pl.Row : PlacesT P 82 [(0, 1), (1, 1)] := ⟨by kernel_rfl⟩
theorem sz.Row : (P.info? 82).map (·.size) = some 2 := by kernel_rfl
abbrev T.Rows : Nat := 100
theorem sl.Rows : SliceT P 100 82 2 48 := ⟨by kernel_rfl, by kernel_rfl, by decide⟩
theorem ce.Rows : CellT P 100 := ⟨by kernel_rfl, by kernel_rfl⟩
theorem z.Rows : ZeroT P 100 [.mt] := ⟨by kernel_rfl⟩
theorem sz.Rows : (P.info? 100).map (·.size) = some 1 := by kernel_rfl
abbrev T.limbs : Nat := 116
theorem sl.limbs : SliceT P 116 176 1 4 := ⟨by kernel_rfl, by kernel_rfl, by decide⟩
theorem ce.limbs : CellT P 116 := ⟨by kernel_rfl, by kernel_rfl⟩
theorem z.limbs : ZeroT P 116 [.mt] := ⟨by kernel_rfl⟩
theorem sz.limbs : (P.info? 116).map (·.size) = some 1 := by kernel_rfl
abbrev T.fraction : Nat := 118
theorem ag.fraction : AggT P 118 3 := ⟨by kernel_rfl, by kernel_rfl⟩
theorem cc.fraction : ConcT P 118 := by unfold ConcT; kernel_rfl
theorem fd.fraction_0 : FieldT P 118 0 0 := ⟨by kernel_rfl⟩
theorem fd.fraction_1 : FieldT P 118 1 1 := ⟨by kernel_rfl⟩
theorem fd.fraction_2 : FieldT P 118 2 2 := ⟨by kernel_rfl⟩
theorem z.fraction : ZeroT P 118 [.d (.sc (.bool false)), .mt, .mt] := ⟨by kernel_rfl⟩
theorem pl.fraction : PlacesT P 118 [(0, 1), (1, 1), (2, 1)] := ⟨by kernel_rfl⟩
theorem sz.fraction : (P.info? 118).map (·.size) = some 3 := by kernel_rfl
abbrev T.algebra : Nat := 161
theorem ag.algebra : AggT P 161 9 := ⟨by kernel_rfl, by kernel_rfl⟩
theorem cc.algebra : ConcT P 161 := by unfold ConcT; kernel_rfl
theorem fd.algebra_0 : FieldT P 161 0 0 := ⟨by kernel_rfl⟩
theorem fc.algebra_0 : FieldC P 161 0 0 := ⟨by kernel_rfl⟩
theorem fd.algebra_1 : FieldT P 161 1 1 := ⟨by kernel_rfl⟩
theorem fc.algebra_1 : FieldC P 161 1 1 := ⟨by kernel_rfl⟩
theorem fd.algebra_3 : FieldT P 161 3 3 := ⟨by kernel_rfl⟩
theorem fc.algebra_3 : FieldC P 161 3 3 := ⟨by kernel_rfl⟩
theorem z.algebra : ZeroT P 161 [.d (.sc .nilFunc), .d (.sc .nilFunc), .d (.sc .nilFunc), .d (.sc .nilFunc), .d (.sc .nilFunc), .d (.sc .nilFunc), .d (.sc .nilFunc), .d (.sc .nilFunc), .d (.sc .nilFunc)] := ⟨by kernel_rfl⟩
theorem pl.algebra : PlacesT P 161 [(0, 1), (1, 1), (2, 1), (3, 1), (4, 1), (5, 1), (6, 1), (7, 1), (8, 1)] := ⟨by kernel_rfl⟩
theorem sz.algebra : (P.info? 161).map (·.size) = some 9 := by kernel_rfl
abbrev T.u32 : Nat := 176
theorem ce.u32 : CellT P 176 := ⟨by kernel_rfl, by kernel_rfl⟩
theorem it.u32 : IntT P 176 .u32 := ⟨by kernel_rfl⟩
theorem z.u32 : ZeroT P 176 [.d (.sc (.int .u32 0))] := ⟨by kernel_rfl⟩
theorem sz.u32 : (P.info? 176).map (·.size) = some 1 := by kernel_rfl
abbrev T.uint : Nat := 177
theorem ce.uint : CellT P 177 := ⟨by kernel_rfl, by kernel_rfl⟩
theorem it.uint : IntT P 177 .u64 := ⟨by kernel_rfl⟩
theorem z.uint : ZeroT P 177 [.d (.sc (.int .u64 0))] := ⟨by kernel_rfl⟩
theorem sz.uint : (P.info? 177).map (·.size) = some 1 := by kernel_rfl
abbrev T.fn73 : Nat := 73
theorem ce.fn73 : CellT P 73 := ⟨by kernel_rfl, by kernel_rfl⟩
theorem z.fn73 : ZeroT P 73 [.d (.sc .nilFunc)] := ⟨by kernel_rfl⟩
theorem sz.fn73 : (P.info? 73).map (·.size) = some 1 := by kernel_rfl
abbrev T.fnCheck : Nat := 73
theorem ce.fnCheck : CellT P 73 := ce.fn73
theorem z.fnCheck : ZeroT P 73 [.d (.sc .nilFunc)] := z.fn73
theorem sz.fnCheck : (P.info? 73).map (·.size) = some 1 := sz.fn73
abbrev T.fnsCheck : Nat := 75
theorem sl.fnsCheck : SliceT P 75 73 1 8 := ⟨by kernel_rfl, by kernel_rfl, by decide⟩
theorem ce.fnsCheck : CellT P 75 := ⟨by kernel_rfl, by kernel_rfl⟩
theorem z.fnsCheck : ZeroT P 75 [.mt] := ⟨by kernel_rfl⟩
theorem sz.fnsCheck : (P.info? 75).map (·.size) = some 1 := by kernel_rfl
abbrev T.pSpace : Nat := 76
theorem ce.pSpace : CellT P 76 := ⟨by kernel_rfl, by kernel_rfl⟩
theorem cc.pSpace : ConcT P 76 := by unfold ConcT; kernel_rfl
theorem z.pSpace : ZeroT P 76 [.d (.sc (.pointer none))] := ⟨by kernel_rfl⟩
theorem sz.pSpace : (P.info? 76).map (·.size) = some 1 := by kernel_rfl
theorem st.str : P.underlying 9 = some .string := by kernel_rfl
end Go.Proofs.YtifcpafkcjdfhaaGreatDoor
