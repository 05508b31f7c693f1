/-
  Walks of package online, part 5: repeated numbers (printed by mk2.py).
-/
import Derived.Test.YtcebciggodhmcaaGreatKHmmB
import Derived.Test.YtcebciggodhmcaaGreatKAlg28
import Derived.Test.YtcebciggodhmcaaGreatKMod37c
set_option linter.unusedVariables false
set_option linter.unusedSimpArgs false
namespace Go.Proofs.YtcebciggodhmcaaGreat
open Go Go.AL
theorem andM_u64 {a : Nat} (ha : a < 4294967296) : bin .and (.int .u64 (a : Int)) (.int .u64 4294967295) = some (.int .u64 (a : Int)) := by
  show (if IntKind.u64 = IntKind.u64 then some (Value.int .u64 (IntKind.u64.wrap ((BitVec.ofInt 64 (a : Int) &&& BitVec.ofInt 64 4294967295).toNat : Int))) else none) = _
  rw [if_pos rfl, BitVec.toNat_and, BitVec.ofInt_natCast, BitVec.toNat_ofNat, show (BitVec.ofInt 64 4294967295).toNat = 2 ^ 32 - 1 from rfl, Nat.and_two_pow_sub_one_eq_mod, Nat.mod_eq_of_lt (show a < 2 ^ 64 by omega), Nat.mod_eq_of_lt (show a < 2 ^ 32 by omega), wrap_u64 (by omega)]
abbrev d64 (n : Nat) : D := .sc (.int .u64 (n : Int))
def fillR (v : Int) (n i : Nat) : List Int := List.replicate i v ++ List.replicate (n - i) 0
theorem fillR_len (v : Int) {n i : Nat} (h : i ≤ n) : (fillR v n i).length = n := by simp [fillR]; omega
theorem fillR_all (v : Int) (n : Nat) : fillR v n n = List.replicate n v := by simp [fillR]
theorem fillR_first (v : Int) (n : Nat) : List.replicate (min 1 n) v ++ (List.replicate n (0 : Int)).drop (min 1 n) = fillR v n (min 1 n) := by
  rw [List.drop_replicate]; rfl
theorem fillR_copy (v : Int) {n i : Nat} (h : i < n) : (fillR v n i).take i ++ (fillR v n i).take (min i ((fillR v n i).length - i)) ++ (fillR v n i).drop (i + min i ((fillR v n i).length - i)) = fillR v n (i + min i (n - i)) := by
  rw [fillR_len v (by omega)]
  generalize hk : min i (n - i) = k
  have hk1 : k ≤ i := by omega
  unfold fillR
  have e1 : ∀ j, j ≤ i → (List.replicate i v ++ List.replicate (n - i) 0).take j = List.replicate j v := fun j hj => by
    rw [List.take_append_of_le_length (by simpa using hj), List.take_replicate, Nat.min_eq_left hj]
  rw [e1 i (Nat.le_refl _), e1 k hk1, List.drop_append, List.drop_of_length_le (by simp), List.length_replicate, List.nil_append, List.drop_replicate, ← List.replicate_append_replicate (n := i) (m := k)]
  congr 2
  omega
theorem cases9 {p : Nat → Prop} (h0 : p 0) (h1 : p 1) (h2 : p 2) (h3 : p 3) (h4 : p 4) (h5 : p 5) (h6 : p 6) (h7 : p 7) (h8 : p 8) : ∀ i, i < 9 → p i := fun i hi => by
  have : i = 0 ∨ i = 1 ∨ i = 2 ∨ i = 3 ∨ i = 4 ∨ i = 5 ∨ i = 6 ∨ i = 7 ∨ i = 8 := by omega
  rcases this with rfl | rfl | rfl | rfl | rfl | rfl | rfl | rfl | rfl <;> assumption
theorem putMH {s : S} {d t : Nat} {w : V} {y : Option Blk} (hf : s.M t = y) : (s.put (some d) w).M t = y := hf
def own9 : Nat → Option Nat
  | 38 => some 0 | 39 => some 1 | 40 => some 2 | 41 => some 3 | 42 => some 4 | 43 => some 5 | 44 => some 6 | 45 => some 7 | 30 => some 7 | 46 => some 8
  | _ => none
theorem own9_inj {t i : Nat} (h : own9 t = some i) (hi : i ≠ 7) : t = [38, 39, 40, 41, 42, 43, 44, 45, 46].getD i 0 := by
  unfold own9 at h
  split at h <;> first | (cases h; rfl) | (cases h; exact absurd rfl hi) | cases h
theorem own9_two {t : Nat} (h : own9 t = some 7) : t = 45 ∨ t = 30 := by
  unfold own9 at h
  split at h <;> first | (cases h; done) | (exact .inl rfl) | (exact .inr rfl) | cases h
noncomputable def val9 (n i b : Nat) (t : Nat) (_ : Nat → Nat × Nat) : V :=
  match t with
  | 38 | 40 | 43 => .d (dI i)
  | 39 | 42 => .osl 30 b n n
  | 41 => offV b i n n
  | 44 => .osl 30 b i n
  | 45 => .d (dI (min i (n - i) : Nat))
  | 46 => .d (dI (i + min i (n - i) : Nat))
  | _ => .junk
noncomputable def blk9 (v : Int) (n i b : Nat) (t : Nat) (_ : Nat → Nat × Nat) : Option Blk :=
  match t with
  | 30 => some (.row b n T.int 1 ((fillR v n (i + min i (n - i))).map dI))
  | _ => none
theorem bits_Mul64 {n : Nat} (hn : n < 4294967296) : FSpec P F.math_bits_Mul64 [.d (d64 1), .d (d64 n)] (.tup [.d (d64 0), .d (d64 n)]) := by
  refine FSpec.intro fn.math_bits_Mul64 (by rfl) (by rfl) (Nat.le_of_ble_eq_true (by rfl)) fun E hE => ?_
  refine AW.seq ?_
  refine AW.region (by rw [hE]; rfl) ?_
  refine asD rfl ?_
  refine asD rfl ?_
  refine OL.nil ?_
  refine AW.seq ?_
  refine AW.region (by rw [hE]; rfl) ?_
  refine mvD rfl ?_
  refine bo rfl rfl (andM_u64 (a := 1) (by decide)) ?_
  refine asD rfl ?_
  refine OL.nil ?_
  refine AW.seq ?_
  refine AW.region (by rw [hE]; rfl) ?_
  refine mvD rfl ?_
  refine shrV rfl rfl (by decide) (c := 0) (by rw [show (2 : Int) ^ Int.toNat 32 = 4294967296 from rfl]; omega) ?_
  refine asD rfl ?_
  refine OL.nil ?_
  refine AW.seq ?_
  refine AW.region (by rw [hE]; rfl) ?_
  refine mvD rfl ?_
  refine bo rfl rfl (andM_u64 hn) ?_
  refine asD rfl ?_
  refine OL.nil ?_
  refine AW.seq ?_
  refine AW.region (by rw [hE]; rfl) ?_
  refine mvD rfl ?_
  refine shrV rfl rfl (by decide) (c := 0) (by rw [show (2 : Int) ^ Int.toNat 32 = 4294967296 from rfl]; omega) ?_
  refine asD rfl ?_
  refine OL.nil ?_
  refine AW.seq ?_
  refine AW.region (by rw [hE]; rfl) ?_
  refine mvD rfl ?_
  refine mvD rfl ?_
  refine bo rfl rfl (bin_mul (c := (n : Int)) (by omega) (wrap_u64 (by omega))) ?_
  refine asD rfl ?_
  refine OL.nil ?_
  refine AW.seq ?_
  refine AW.region (by rw [hE]; rfl) ?_
  refine mvD rfl ?_
  refine mvD rfl ?_
  refine bo rfl rfl (bin_mul (c := 0) (by omega) (wrap_u64 (by omega))) ?_
  refine mvD rfl ?_
  refine shrV rfl rfl (by decide) (c := 0) (by rw [show (2 : Int) ^ Int.toNat 32 = 4294967296 from rfl]; omega) ?_
  refine bo rfl rfl (bin_add (c := 0) (by omega) (wrap_u64 (by omega))) ?_
  refine asD rfl ?_
  refine OL.nil ?_
  refine AW.seq ?_
  refine AW.region (by rw [hE]; rfl) ?_
  refine mvD rfl ?_
  refine bo rfl rfl (andM_u64 (a := 0) (by decide)) ?_
  refine asD rfl ?_
  refine OL.nil ?_
  refine AW.seq ?_
  refine AW.region (by rw [hE]; rfl) ?_
  refine mvD rfl ?_
  refine shrV rfl rfl (by decide) (c := 0) (by rw [show (2 : Int) ^ Int.toNat 32 = 4294967296 from rfl]; omega) ?_
  refine asD rfl ?_
  refine OL.nil ?_
  refine AW.seq ?_
  refine AW.region (by rw [hE]; rfl) ?_
  refine mvD rfl ?_
  refine mvD rfl ?_
  refine mvD rfl ?_
  refine bo rfl rfl (bin_mul (c := 0) (by omega) (wrap_u64 (by omega))) ?_
  refine bo rfl rfl (bin_add (c := 0) (by omega) (wrap_u64 (by omega))) ?_
  refine asD rfl ?_
  refine OL.nil ?_
  refine AW.seq ?_
  refine AW.region (by rw [hE]; rfl) ?_
  refine mvD rfl ?_
  refine mvD rfl ?_
  refine bo rfl rfl (bin_mul (c := 0) (by omega) (wrap_u64 (by omega))) ?_
  refine mvD rfl ?_
  refine bo rfl rfl (bin_add (c := 0) (by omega) (wrap_u64 (by omega))) ?_
  refine mvD rfl ?_
  refine shrV rfl rfl (by decide) (c := 0) (by rw [show (2 : Int) ^ Int.toNat 32 = 4294967296 from rfl]; omega) ?_
  refine bo rfl rfl (bin_add (c := 0) (by omega) (wrap_u64 (by omega))) ?_
  refine asD rfl ?_
  refine OL.nil ?_
  refine AW.seq ?_
  refine AW.region (by rw [hE]; rfl) ?_
  refine mvD rfl ?_
  refine mvD rfl ?_
  refine bo rfl rfl (bin_mul (c := (n : Int)) (by omega) (wrap_u64 (by omega))) ?_
  refine asD rfl ?_
  refine OL.nil ?_
  exact AW.ret (RetQ.r ⟨_, .tmp rfl (.tmp rfl .nil), _, .cons (.le (by first | exact VLe.refl _ | exact VLe.mt | exact vle_q0 | exact VLe.int (by omega) | exact VLe.bool (by simp_all))) (.cons (.le (by first | exact VLe.refl _ | exact VLe.mt | exact vle_q0 | exact VLe.int (by omega) | exact VLe.bool (by simp_all))) .nil), rfl⟩)
theorem bits_Mul {n : Nat} (hn : n < 4294967296) : FSpec P F.math_bits_Mul [.d (d64 1), .d (d64 n)] (.tup [.d (d64 0), .d (d64 n)]) := by
  refine FSpec.intro fn.math_bits_Mul (by rfl) (by rfl) (Nat.le_of_ble_eq_true (by rfl)) fun E hE => ?_
  refine AW.seq ?_
  refine AW.region (by rw [hE]; rfl) ?_
  refine asD rfl ?_
  refine asD rfl ?_
  refine OL.nil ?_
  refine AW.seq ?_
  refine AW.cond rfl (fun hno => absurd hno (by decide)) (fun _ => ?_)
  refine AW.skip ?_
  refine AW.seq ?_
  refine AW.region (by rw [hE]; rfl) ?_
  refine mvD rfl ?_
  refine mvD rfl ?_
  refine clv rfl (.cons (VLe.refl _) (.cons (VLe.refl _) (.nil))) (bits_Mul64 hn) ?_
  refine mvT rfl ?_
  refine ex rfl rfl ?_
  refine ex rfl rfl ?_
  refine asD rfl ?_
  refine asD rfl ?_
  refine OL.nil ?_
  refine AW.seq ?_
  refine AW.region (by rw [hE]; rfl) ?_
  refine mvD rfl ?_
  refine mvD rfl ?_
  refine asD rfl ?_
  refine asD rfl ?_
  refine OL.nil ?_
  exact AW.ret (RetQ.r ⟨_, .tmp rfl (.tmp rfl .nil), _, .cons (.le (by first | exact VLe.refl _ | exact VLe.mt | exact vle_q0 | exact VLe.int (by omega) | exact VLe.bool (by simp_all))) (.cons (.le (by first | exact VLe.refl _ | exact VLe.mt | exact vle_q0 | exact VLe.int (by omega) | exact VLe.bool (by simp_all))) .nil), rfl⟩)
set_option maxRecDepth 8000 in
theorem repeat_ints {v : Int} {n : Nat} (hn : n ≤ 1048576) : FSpec P F.slices_Repeat_ints_int [.d (ints [v]), .d (dI n)] (.d (ints (List.replicate n v))) := by
  refine FSpec.intro fn.slices_Repeat_ints_int (by rfl) (by rfl) (Nat.le_of_ble_eq_true (by rfl)) fun E hE => ?_
  refine AW.seq ?_
  refine AW.region (by rw [hE]; rfl) ?_
  refine asM rfl ?_
  refine OL.nil ?_
  refine AW.seq ?_
  refine AW.seq ?_
  refine AW.region (by rw [hE]; rfl) ?_
  refine mvD rfl ?_
  refine c_lss rfl rfl (c := false) (by first | exact decide_eq_true (by omega) | exact decide_eq_false (by omega) | exact cne_f (by omega) | exact cne_t (by omega) | rfl) ?_
  refine OL.nil ?_
  refine AW.cond rfl (fun hno => absurd hno (by decide)) (fun _ => ?_)
  refine AW.skip ?_
  refine AW.seq ?_
  refine AW.region (by rw [hE]; rfl) ?_
  refine mvD rfl ?_
  refine lnL sl.ints rfl rfl ?_
  refine cv (c := (1 : Int)) it.int it.uint rfl (by rfl) ?_
  refine mvD rfl ?_
  refine cv it.int it.uint rfl (wrap_u64 (by omega)) ?_
  refine clv rfl (.cons (VLe.refl _) (.cons (VLe.refl _) (.nil))) (bits_Mul (n := n) (by omega)) ?_
  refine mvT rfl ?_
  refine ex rfl rfl ?_
  refine ex rfl rfl ?_
  refine asD rfl ?_
  refine asD rfl ?_
  refine OL.nil ?_
  refine AW.seq ?_
  refine AW.seq ?_
  refine AW.region (by rw [hE]; rfl) ?_
  refine mvD rfl ?_
  refine c_gtr rfl rfl (c := false) (by first | exact decide_eq_true (by omega) | exact decide_eq_false (by omega) | exact cne_f (by omega) | exact cne_t (by omega) | rfl) ?_
  refine mvD rfl ?_
  refine OL.yes rfl ?_
  refine mvD rfl ?_
  refine OL.yes rfl ?_
  refine c_gtr rfl rfl (c := false) (by first | exact decide_eq_true (by omega) | exact decide_eq_false (by omega) | exact cne_f (by omega) | exact cne_t (by omega) | rfl) ?_
  refine pkF rfl rfl ?_
  refine OL.nil ?_
  refine AW.cond rfl (fun hno => absurd hno (by decide)) (fun _ => ?_)
  refine AW.skip ?_
  refine AW.seq ?_
  refine AW.region (by rw [hE]; rfl) ?_
  refine mvD rfl ?_
  refine cv it.uint it.int rfl (wrap_i64 (by omega)) ?_
  refine mkL dI 0 sl.ints z.int (.cons (VC.d _) .nil) rfl rfl (Nat.le_refl _) (by omega) (by omega) rfl fun b30 => ?_
  refine asO rfl ?_
  refine OL.nil ?_
  refine AW.seq ?_
  refine AW.regionS (by rw [hE]; rfl) ?_
  refine SL.ofOL (mvO rfl (OL.nil ?_))
  refine SL.ofOL (mvD rfl (OL.nil ?_))
  refine SL.ofSO rfl (SO.copyFirst (l := List.replicate n 0) (show 33 < E.n by rw [hE]; exact Nat.le_of_ble_eq_true rfl) sl.ints rfl rfl rfl (by simp) ?_)
  rw [fillR_first]
  refine SL.ofOL (asD rfl (OL.nil ?_))
  refine AW.to [(7, _), (8, .d (dI (min 1 n : Nat)))] [(30, .row b30 n T.int 1 ((fillR v n (min 1 n)).map dI))] (.cons (VLe.refl _) (.cons (VLe.refl _) .nil)) (.cons rfl .nil) ?_
  refine AW.seq ?_
  refine AW.block ?_
  refine AW.whileK (α := Nat) [(4, _), (7, _)] [] (fun i => [(8, .d (dI i))]) (fun i => [(30, .row b30 n T.int 1 ((fillR v n i).map dI))]) (fun i => i ≤ n ∧ (n ≠ 0 → 1 ≤ i)) (fun i => n - i) (min 1 n) (by repeat (first | exact Knows.nil | refine Knows.cons (by first | exact knD rfl | exact knA rfl | exact knP rfl | exact knO rfl | exact knM rfl | exact knE rfl | exact knR rfl | exact knF rfl | exact knT rfl | exact knJ) ?_)) .nil ⟨⟨by omega, by omega⟩, .cons (by first | exact VLe.refl _ | exact VLe.int (by omega) | exact VLe.mt | exact vle_q0 | exact VLe.osl | exact VLe.ptr) .nil, .cons rfl .nil⟩ ?_
  rintro i ⟨h1, h2⟩
  have h1 : i ≤ n := h1
  have h2 : n ≠ 0 → 1 ≤ i := h2
  refine AW.seq ?_
  refine AW.seq ?_
  refine AW.region (by rw [hE]; rfl) ?_
  refine mvD rfl ?_
  refine mvO rfl ?_
  refine lnO sl.ints rfl rfl ?_
  refine c_lss rfl rfl rfl ?_
  refine OL.nil ?_
  refine AW.cond rfl (fun h37 => ?_) (fun h37 => ?_)
  · first | (simp only [decide_eq_true_eq, decide_eq_false_iff_not, Bool.not_eq_true', Bool.not_eq_false', Bool.not_not, Bool.and_eq_true, Bool.and_eq_false_iff, Bool.or_eq_true, Bool.or_eq_false_iff] at h37) | skip
    refine AW.skip ?_
    refine AW.block ?_
    refine AW.region_planS (val9 n i b30) (blk9 v n i b30) own9 9 order_free (by rw [hE]; rfl) (by rfl) (by kernel_rfl) (by kernel_rfl) ?_ ?_
    · refine cases9 ?_ ?_ ?_ ?_ ?_ ?_ ?_ ?_ ?_
      · exact fun β L c => ⟨_, rfl, .inl (OG.of_OL (mvD (y := dI i) ((pS_old rfl).trans rfl) ⟨β, pS_put (d := 38) (i := 0) rfl (fun t ht => own9_inj ht (by decide)) (lt_size 10 c.size rfl (by decide)) rfl⟩))⟩
      · exact fun β L c => ⟨_, rfl, .inl (OG.of_OL (mvO ((pS_old rfl).trans rfl) ⟨β, pS_put (d := 39) (i := 1) rfl (fun t ht => own9_inj ht (by decide)) (lt_size 10 c.size rfl (by decide)) rfl⟩))⟩
      · exact fun β L c => ⟨_, rfl, .inl (OG.of_OL (mvD (y := dI i) ((pS_old rfl).trans rfl) ⟨β, pS_put (d := 40) (i := 2) rfl (fun t ht => own9_inj ht (by decide)) (lt_size 10 c.size rfl (by decide)) rfl⟩))⟩
      · intro β L c
        refine ⟨_, rfl, SG.of_SO ?_⟩
        refine SO.cutFrom (sz := 1) (k := .i64) (id := 30) (b := b30) (p := i) (n := n) (c := n) (show 41 < E.n by rw [hE]; exact Nat.le_of_ble_eq_true rfl) sl.ints ?_ ?_ (by omega) ?_
        · exact (pS_new rfl (c.dep 1 (by kernel_rfl)))
        · exact (pS_new rfl (c.dep 2 (by kernel_rfl)))
        · exact ⟨β, pS_put (d := 41) (i := 3) rfl (fun t ht => own9_inj ht (by decide)) (lt_size 10 c.size rfl (by decide)) rfl⟩
      · exact fun β L c => ⟨_, rfl, .inl (OG.of_OL (mvO ((pS_old rfl).trans rfl) ⟨β, pS_put (d := 42) (i := 4) rfl (fun t ht => own9_inj ht (by decide)) (lt_size 10 c.size rfl (by decide)) rfl⟩))⟩
      · exact fun β L c => ⟨_, rfl, .inl (OG.of_OL (mvD (y := dI i) ((pS_old rfl).trans rfl) ⟨β, pS_put (d := 43) (i := 5) rfl (fun t ht => own9_inj ht (by decide)) (lt_size 10 c.size rfl (by decide)) rfl⟩))⟩
      · exact fun β L c => ⟨_, rfl, .inl (OG.of_OL (slO sl.ints (pS_new rfl (c.dep 4 (by kernel_rfl))) (pS_new rfl (c.dep 5 (by kernel_rfl))) (by omega) ⟨β, pS_put (d := 44) (i := 6) rfl (fun t ht => own9_inj ht (by decide)) (lt_size 10 c.size rfl (by decide)) rfl⟩))⟩
      · exact fun β L c => ⟨_, rfl, SG.of_SO (SO.copyIn (id := 30) (b := b30) (p := i) (l := fillR v n i) (n := i) (c := n) (show 45 < E.n by rw [hE]; exact Nat.le_of_ble_eq_true rfl) sl.ints ((pS_new (t := 41) (i := 3) rfl (c.dep 3 (by kernel_rfl))).trans (by rw [fillR_len v (by omega)]; rfl)) (pS_new rfl (c.dep 6 (by kernel_rfl))) ((pS_M0 (t := 30) (i := 7) rfl c.no).trans rfl) (by rw [fillR_len v (by omega)]; omega) (by rw [fillR_len v (by omega)]; omega) (by rw [fillR_copy v (by omega), fillR_len v (by omega)]; exact ⟨β, pS_putM (d := 45) (e := 30) (i := 7) rfl rfl (by decide) (fun t ht => own9_two ht) (lt_size 10 c.size rfl (by decide)) c.no rfl rfl rfl⟩))⟩
      · exact fun β L c => ⟨_, rfl, .inl (OG.of_OL (bo (pS_new rfl (c.dep 0 (by kernel_rfl))) (pS_new rfl (c.dep 7 (by kernel_rfl))) (bin_add (c := ((i + min i (n - i) : Nat) : Int)) (by omega) (wrap_i64 (by omega))) ⟨β, pS_put (d := 46) (i := 8) rfl (fun t ht => own9_inj ht (by decide)) (lt_size 10 c.size rfl (by decide)) rfl⟩))⟩
    refine fun β L c => ⟨_, rfl, .inl (OG.of_OL (asD (y := dI (i + min i (n - i) : Nat)) (pS_new rfl (c.dep 8 (by kernel_rfl))) ?_))⟩
    refine OL.nil ?_
    exact AW.again (x := i) (i + min i (n - i)) (by first | omega | (simp only []; omega)) ⟨⟨by omega, by omega⟩, Knows.app (.cons (VLe.refl _) (.cons (VLe.refl _) .nil)) (.cons (by first | exact VLe.refl _ | exact VLe.int (by omega) | exact VLe.mt | exact vle_q0 | exact VLe.osl | exact VLe.ptr) .nil), .cons (putMH (pS_M (t := 30) (i := 7) rfl (c.dep 7 (by kernel_rfl)) rfl)) .nil⟩
  · first | (simp only [decide_eq_true_eq, decide_eq_false_iff_not, Bool.not_eq_true', Bool.not_eq_false', Bool.not_not, Bool.and_eq_true, Bool.and_eq_false_iff, Bool.or_eq_true, Bool.or_eq_false_iff] at h37) | skip
    refine AW.exit ?_
    refine AW.seq ?_
    obtain rfl : i = n := by omega
    refine AW.freeze 30 rfl (AW.to [(7, .d (ints (List.replicate i v)))] [] (.cons (frz_osl (by rw [List.length_map, fillR_len v (Nat.le_refl _)]) (by rw [fillR_all])) .nil) .nil ?_)
    refine AW.region (by rw [hE]; rfl) ?_
    refine mvD rfl ?_
    refine asD rfl ?_
    refine OL.nil ?_
    exact AW.ret (RetQ.r ⟨_, .tmp rfl .nil, .le (by first | exact VLe.refl _ | exact VLe.mt | exact vle_q0 | exact VLe.int (by omega) | exact VLe.bool (by simp_all))⟩)
end Go.Proofs.YtcebciggodhmcaaGreat
