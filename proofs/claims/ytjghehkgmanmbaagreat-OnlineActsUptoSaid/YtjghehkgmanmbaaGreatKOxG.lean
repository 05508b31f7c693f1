/-
  Walks of package online on any input: a whole word (printed by mk2.py).
-/
import Derived.Test.YtjghehkgmanmbaaGreatKOxF
import Derived.Test.YtjghehkgmanmbaaGreatKMod56
set_option linter.unusedVariables false
set_option linter.unusedSimpArgs false
namespace Go.Proofs.YtjghehkgmanmbaaGreat
open Go Go.AL
theorem snoc_dI (l : List Int) (x : Int) : l.map dI ++ [dI x] = (l ++ [x]).map dI := by rw [List.map_append]; rfl
theorem andM_u64 {a : Nat} (ha : a < 4294967296) : bin .and (.int .u64 (a : Int)) (.int .u64 4294967295) = some (.int .u64 (a : Int)) := by
 show (if IntKind.u64 = IntKind.u64 then some (Value.int .u64 (IntKind.u64.wrap ((BitVec.ofInt 64 (a : Int) &&& BitVec.ofInt 64 4294967295).toNat : Int))) else none) = _
 rw [if_pos rfl, BitVec.toNat_and, BitVec.ofInt_natCast, BitVec.toNat_ofNat, show (BitVec.ofInt 64 4294967295).toNat = 2 ^ 32 - 1 from rfl, Nat.and_two_pow_sub_one_eq_mod, Nat.mod_eq_of_lt (show a < 2 ^ 64 by omega), Nat.mod_eq_of_lt (show a < 2 ^ 32 by omega), wrap_u64 (by omega)]
abbrev d64 (n : Nat) : D := .sc (.int .u64 (n : Int))
def fillR (v : Int) (n i : Nat) : List Int := List.replicate i v ++ List.replicate (n - i) 0
theorem fillR_len (v : Int) {n i : Nat} (h : i ≤ n) : (fillR v n i).length = n := by simp [fillR]; omega
theorem fillR_all (v : Int) (n : Nat) : fillR v n n = List.replicate n v := by simp [fillR]
theorem fillR_first (v : Int) (n : Nat) : List.replicate (min 1 n) v ++ (List.replicate n (0 : Int)).drop (min 1 n) = fillR v n (min 1 n) := by
 rw [List.drop_replicate]; rfl
theorem fillR_copy (v : Int) {n i : Nat} (h : i < n) : (fillR v n i).take i ++ (fillR v n i).take (min i ((fillR v n i).length - i)) ++ (fillR v n i).drop (i + min i ((fillR v n i).length - i)) = fillR v n (i + min i (n - i)) := by
 rw [fillR_len v (by omega)]
 generalize hk : min i (n - i) = k
 have hk1 : k ≤ i := by omega
 unfold fillR
 have e1 : ∀ j, j ≤ i → (List.replicate i v ++ List.replicate (n - i) 0).take j = List.replicate j v := fun j hj => by
  rw [List.take_append_of_le_length (by simpa using hj), List.take_replicate, Nat.min_eq_left hj]
 rw [e1 i (Nat.le_refl _), e1 k hk1, List.drop_append, List.drop_of_length_le (by simp), List.length_replicate, List.nil_append, List.drop_replicate, ← List.replicate_append_replicate (n := i) (m := k)]
 congr 2
 omega
theorem cases9 {p : Nat → Prop} (h0 : p 0) (h1 : p 1) (h2 : p 2) (h3 : p 3) (h4 : p 4) (h5 : p 5) (h6 : p 6) (h7 : p 7) (h8 : p 8) : ∀ i, i < 9 → p i := fun i hi => by
 have : i = 0 ∨ i = 1 ∨ i = 2 ∨ i = 3 ∨ i = 4 ∨ i = 5 ∨ i = 6 ∨ i = 7 ∨ i = 8 := by omega
 rcases this with rfl | rfl | rfl | rfl | rfl | rfl | rfl | rfl | rfl <;> assumption
theorem putMH {s : S} {d t : Nat} {w : V} {y : Option Blk} (hf : s.M t = y) : (s.put (some d) w).M t = y := hf
def own9 : Nat → Option Nat
 | 38 => some 0 | 39 => some 1 | 40 => some 2 | 41 => some 3 | 42 => some 4 | 43 => some 5 | 44 => some 6 | 45 => some 7 | 30 => some 7 | 46 => some 8
 | _ => none
theorem own9_inj {t i : Nat} (h : own9 t = some i) (hi : i ≠ 7) : t = [38, 39, 40, 41, 42, 43, 44, 45, 46].getD i 0 := by
 unfold own9 at h
 split at h <;> first | (cases h; rfl) | (cases h; exact absurd rfl hi) | cases h
theorem own9_two {t : Nat} (h : own9 t = some 7) : t = 45 ∨ t = 30 := by
 unfold own9 at h
 split at h <;> first | (cases h; done) | (exact .inl rfl) | (exact .inr rfl) | cases h
noncomputable def val9 (n i b : Nat) (t : Nat) (_ : Nat → Nat × Nat) : V :=
 match t with
 | 38 | 40 | 43 => .d (dI i)
 | 39 | 42 => .osl 30 b n n
 | 41 => offV b i n n
 | 44 => .osl 30 b i n
 | 45 => .d (dI (min i (n - i) : Nat))
 | 46 => .d (dI (i + min i (n - i) : Nat))
 | _ => .junk
noncomputable def blk9 (v : Int) (n i b : Nat) (t : Nat) (_ : Nat → Nat × Nat) : Option Blk :=
 match t with
 | 30 => some (.row b n T.int 1 ((fillR v n (i + min i (n - i))).map dI))
 | _ => none
theorem push_E {h : HM} {o : Dec} {x : Nat} : pushE h o x = 0 ∨ pushE h o x = 11 := by unfold pushE; split <;> simp
theorem push_ok {h : HM} {o : Dec} {x : Nat} (e : pushE h o x = 0) : someN h o x h.st = true := by
 unfold pushE at e
 split at e
 ·rename_i h1; exact h1
 ·exact absurd e (by decide)
def own19 : Nat → Option Nat
 | 72 => some 0 | 73 => some 1 | 74 => some 2 | 75 => some 3 | 76 => some 4 | 77 => some 5 | 78 => some 6 | 79 => some 7 | 60 => some 7 | 80 => some 8 | 4 => some 9 | 5 => some 10 | 6 => some 11
 | _ => none
theorem own19_inj {t i : Nat} (h : own19 t = some i) (hi : i ≠ 7) : t = [72, 73, 74, 75, 76, 77, 78, 79, 80, 4, 5, 6].getD i 0 := by
 unfold own19 at h
 split at h <;> first | (cases h; rfl) | (cases h; exact absurd rfl hi) | cases h
theorem own19_two {t : Nat} (h : own19 t = some 7) : t = 79 ∨ t = 60 := by
 unfold own19 at h
 split at h <;> first | (cases h; done) | (exact .inl rfl) | (exact .inr rfl) | cases h
noncomputable def val19 (v x : List Int) (p : Rat) (q c b6 : Nat) (t : Nat) (_ : Nat → Nat × Nat) : V :=
 match t with
 | 72 | 74 | 4 => .d (ints v)
 | 73 | 76 => .osl 60 q x.length c
 | 75 => .d (dI v.length)
 | 77 => .d (dI x.length)
 | 78 => .d (dI (v.length - x.length : Nat))
 | 79 | 5 => .d (.sl ((x ++ List.replicate (v.length - x.length) 0).map dI))
 | 80 => vQ p
 | 6 => .ptr 6 b6 0
 | _ => .junk
noncomputable def blk19 (p : Rat) (b6 : Nat) (t : Nat) (_ : Nat → Nat × Nat) : Option Blk :=
 match t with
 | 60 => some deadBlk
 | 6 => some (.box b6 T.Rat (cellsQ p))
 | _ => none
theorem bits_Mul64 {n : Nat} (hn : n < 4294967296) : FSpec P F.math_bits_Mul64 [.d (d64 1), .d (d64 n)] (.tup [.d (d64 0), .d (d64 n)]) := by
 refine FSpec.intro fn.math_bits_Mul64 (by rfl) (by rfl) (nb9 (by rfl)) fun E hE => (AW.sg hE rfl (asD rfl (asD rfl (OL.nil (AW.sg hE rfl (mvD rfl (bo rfl rfl (andM_u64 (a := 1) (by decide)) ?_)))))))
 refine asD rfl (OL.nil (AW.sg hE rfl (mvD rfl (shrV rfl rfl (by decide) (c := 0) (by rw [show (2 : Int) ^ Int.toNat 32 = 4294967296 from rfl]; omega) (asD rfl (OL.nil (AW.sg hE rfl ?_)))))))
 refine mvD rfl (bo rfl rfl (andM_u64 hn) (asD rfl (OL.nil (AW.sg hE rfl (mvD rfl (shrV rfl rfl (by decide) (c := 0) (by rw [show (2 : Int) ^ Int.toNat 32 = 4294967296 from rfl]; omega) (asD rfl ?_)))))))
 refine OL.nil (AW.sg hE rfl (mvD rfl (mvD rfl (bo rfl rfl (bin_mul (c := (n : Int)) (by omega) (wrap_u64 (by omega))) (asD rfl (OL.nil (AW.sg hE rfl ?_)))))))
 refine mvD rfl (mvD rfl (bo rfl rfl (bin_mul (c := 0) (by omega) (wrap_u64 (by omega))) (mvD rfl (shrV rfl rfl (by decide) (c := 0) (by rw [show (2 : Int) ^ Int.toNat 32 = 4294967296 from rfl]; omega) (bo rfl rfl (bin_add (c := 0) (by omega) (wrap_u64 (by omega))) (asD rfl (OL.nil ?_)))))))
 refine AW.sg hE rfl (mvD rfl (bo rfl rfl (andM_u64 (a := 0) (by decide)) (asD rfl (OL.nil (AW.sg hE rfl (mvD rfl (shrV rfl rfl (by decide) (c := 0) (by rw [show (2 : Int) ^ Int.toNat 32 = 4294967296 from rfl]; omega) ?_)))))))
 refine asD rfl (OL.nil (AW.sg hE rfl (mvD rfl (mvD rfl (mvD rfl (bo rfl rfl (bin_mul (c := 0) (by omega) (wrap_u64 (by omega))) (bo rfl rfl (bin_add (c := 0) (by omega) (wrap_u64 (by omega))) ?_)))))))
 refine asD rfl (OL.nil (AW.sg hE rfl (mvD rfl (mvD rfl (bo rfl rfl (bin_mul (c := 0) (by omega) (wrap_u64 (by omega))) (mvD rfl (bo rfl rfl (bin_add (c := 0) (by omega) (wrap_u64 (by omega))) ?_)))))))
 refine mvD rfl (shrV rfl rfl (by decide) (c := 0) (by rw [show (2 : Int) ^ Int.toNat 32 = 4294967296 from rfl]; omega) (bo rfl rfl (bin_add (c := 0) (by omega) (wrap_u64 (by omega))) (asD rfl (OL.nil (AW.sg hE rfl (mvD rfl (mvD rfl ?_)))))))
 exact bo rfl rfl (bin_mul (c := (n : Int)) (by omega) (wrap_u64 (by omega))) (asD rfl (OL.nil (AW.ret (RetQ.r ⟨_, .tmp rfl (.tmp rfl .nil), _, .cons (.le (VLe.refl _)) (.cons (.le (VLe.refl _)) .nil), rfl⟩))))
theorem bits_Mul {n : Nat} (hn : n < 4294967296) : FSpec P F.math_bits_Mul [.d (d64 1), .d (d64 n)] (.tup [.d (d64 0), .d (d64 n)]) := by
 refine FSpec.intro fn.math_bits_Mul (by rfl) (by rfl) (nb9 (by rfl)) fun E hE => (AW.sg hE rfl (asD rfl (asD rfl (OL.nil (AW.seq (AW.cond rfl (fun hno => absurd hno (by decide)) (fun _ => ?_)))))))
 refine AW.skip (AW.sg hE rfl (mvD rfl (mvD rfl (clv rfl (.cons (VLe.refl _) (.cons (VLe.refl _) (.nil))) (bits_Mul64 hn) (mvT rfl (ex rfl rfl (ex rfl rfl ?_)))))))
 refine asD rfl (asD rfl (OL.nil (AW.sg hE rfl (mvD rfl (mvD rfl (asD rfl (asD rfl ?_)))))))
 exact OL.nil (AW.ret (RetQ.r ⟨_, .tmp rfl (.tmp rfl .nil), _, .cons (.le (VLe.refl _)) (.cons (.le (VLe.refl _)) .nil), rfl⟩))
set_option maxRecDepth 8000 in
theorem repeat_ints {v : Int} {n : Nat} (hn : n ≤ 1048576) : FSpec P F.slices_Repeat_ints_int [.d (ints [v]), .d (dI n)] (.d (ints (List.replicate n v))) := by
 refine FSpec.intro fn.slices_Repeat_ints_int (by rfl) (by rfl) (nb9 (by rfl)) fun E hE => (AW.sg hE rfl (asM rfl (OL.nil (AW.seq (AW.sg hE rfl (mvD rfl (c_lss rfl rfl (c := false) (by exact decide_eq_false (by omega)) ?_)))))))
 refine OL.nil (AW.cond rfl (fun hno => absurd hno (by decide)) (fun _ => ?_))
 refine AW.skip (AW.sg hE rfl (mvD rfl (lnL sl.ints rfl rfl (cv (c := (1 : Int)) it.int it.uint rfl (by rfl) (mvD rfl (cv it.int it.uint rfl (wrap_u64 (by omega)) (clv rfl (.cons (VLe.refl _) (.cons (VLe.refl _) (.nil))) (bits_Mul (n := n) (by omega)) ?_)))))))
 refine mvT rfl (ex rfl rfl (ex rfl rfl (asD rfl (asD rfl (OL.nil (AW.seq (AW.sg hE rfl ?_)))))))
 refine mvD rfl (c_gtr rfl rfl (c := false) (by exact decide_eq_false (by omega)) (mvD rfl (OL.yes rfl (mvD rfl (OL.yes rfl (c_gtr rfl rfl (c := false) (by exact decide_eq_false (by omega)) (pkF rfl rfl ?_)))))))
 refine OL.nil (AW.cond rfl (fun hno => absurd hno (by decide)) (fun _ => ?_))
 refine AW.skip (AW.sg hE rfl (mvD rfl (cv it.uint it.int rfl (wrap_i64 (by omega)) (mkL dI 0 sl.ints z.int (.cons (VC.d _) .nil) rfl rfl (Nat.le_refl _) (by omega) (by omega) rfl fun b30 => (asO rfl (OL.nil (AW.seq ?_)))))))
 refine AW.regionS (by rw [hE]; rfl) (SL.ofOL (mvO rfl (OL.nil ?_)))
 refine SL.ofOL (mvD rfl (OL.nil ?_))
 refine SL.ofSO rfl (SO.copyFirst (l := List.replicate n 0) (show 33 < E.n by rw [hE]; exact Nat.le_of_ble_eq_true rfl) sl.ints rfl rfl rfl (by simp) ?_)
 rw [fillR_first]
 refine SL.ofOL (asD rfl (OL.nil ?_))
 refine AW.to [(7, _), (8, .d (dI (min 1 n : Nat)))] [(30, .row b30 n T.int 1 ((fillR v n (min 1 n)).map dI))] .rq2 (.cons rfl .nil) (AW.seq (AW.block ?_))
 refine AW.whileK (α := Nat) [(4, _), (7, _)] [] (fun i => [(8, .d (dI i))]) (fun i => [(30, .row b30 n T.int 1 ((fillR v n i).map dI))]) (fun i => i ≤ n ∧ (n ≠ 0 → 1 ≤ i)) (fun i => n - i) (min 1 n) (.cons (knJ) (.cons (knO rfl) .nil)) .nil ⟨⟨by omega, by omega⟩, .rq1, .cons rfl .nil⟩ ?_
 rintro i ⟨h1, h2⟩
 have h1 : i ≤ n := h1
 have h2 : n ≠ 0 → 1 ≤ i := h2
 refine AW.seq (AW.sg hE rfl (mvD rfl (mvO rfl (lnO sl.ints rfl rfl (c_lss rfl rfl rfl (OL.nil (AW.cond rfl (fun h37 => ?_) (fun h37 => ?_))))))))
 ·try simp only [dx9] at h37
  refine AW.skip (AW.block (AW.region_planS (val9 n i b30) (blk9 v n i b30) own9 9 order_free (by rw [hE]; rfl) (by rfl) (by kernel_rfl) (by kernel_rfl) ?_ ?_))
  ·refine cases9 ?_ ?_ ?_ ?_ ?_ ?_ ?_ ?_ ?_
   ·exact fun β L c => ⟨_, rfl, .inl (OG.of_OL (mvD (y := dI i) ((pS_old rfl).trans rfl) ⟨β, pS_put (d := 38) (i := 0) rfl (fun t ht => own9_inj ht (by decide)) (lt_size 10 c.size rfl (by decide)) rfl⟩))⟩
   ·exact fun β L c => ⟨_, rfl, .inl (OG.of_OL (mvO ((pS_old rfl).trans rfl) ⟨β, pS_put (d := 39) (i := 1) rfl (fun t ht => own9_inj ht (by decide)) (lt_size 10 c.size rfl (by decide)) rfl⟩))⟩
   ·exact fun β L c => ⟨_, rfl, .inl (OG.of_OL (mvD (y := dI i) ((pS_old rfl).trans rfl) ⟨β, pS_put (d := 40) (i := 2) rfl (fun t ht => own9_inj ht (by decide)) (lt_size 10 c.size rfl (by decide)) rfl⟩))⟩
   ·intro β L c
    refine ⟨_, rfl, SG.of_SO ?_⟩
    refine SO.cutFrom (sz := 1) (k := .i64) (id := 30) (b := b30) (p := i) (n := n) (c := n) (show 41 < E.n by rw [hE]; exact Nat.le_of_ble_eq_true rfl) sl.ints ?_ ?_ (by omega) ?_
    ·exact (pS_new rfl (c.dep 1 (by kernel_rfl)))
    ·exact (pS_new rfl (c.dep 2 (by kernel_rfl)))
    ·exact ⟨β, pS_put (d := 41) (i := 3) rfl (fun t ht => own9_inj ht (by decide)) (lt_size 10 c.size rfl (by decide)) rfl⟩
   ·exact fun β L c => ⟨_, rfl, .inl (OG.of_OL (mvO ((pS_old rfl).trans rfl) ⟨β, pS_put (d := 42) (i := 4) rfl (fun t ht => own9_inj ht (by decide)) (lt_size 10 c.size rfl (by decide)) rfl⟩))⟩
   ·exact fun β L c => ⟨_, rfl, .inl (OG.of_OL (mvD (y := dI i) ((pS_old rfl).trans rfl) ⟨β, pS_put (d := 43) (i := 5) rfl (fun t ht => own9_inj ht (by decide)) (lt_size 10 c.size rfl (by decide)) rfl⟩))⟩
   ·exact fun β L c => ⟨_, rfl, .inl (OG.of_OL (slO sl.ints (pS_new rfl (c.dep 4 (by kernel_rfl))) (pS_new rfl (c.dep 5 (by kernel_rfl))) (by omega) ⟨β, pS_put (d := 44) (i := 6) rfl (fun t ht => own9_inj ht (by decide)) (lt_size 10 c.size rfl (by decide)) rfl⟩))⟩
   ·exact fun β L c => ⟨_, rfl, SG.of_SO (SO.copyIn (id := 30) (b := b30) (p := i) (l := fillR v n i) (n := i) (c := n) (show 45 < E.n by rw [hE]; exact Nat.le_of_ble_eq_true rfl) sl.ints ((pS_new (t := 41) (i := 3) rfl (c.dep 3 (by kernel_rfl))).trans (by rw [fillR_len v (by omega)]; rfl)) (pS_new rfl (c.dep 6 (by kernel_rfl))) ((pS_M0 (t := 30) (i := 7) rfl c.no).trans rfl) (by rw [fillR_len v (by omega)]; omega) (by rw [fillR_len v (by omega)]; omega) (by rw [fillR_copy v (by omega), fillR_len v (by omega)]; exact ⟨β, pS_putM (d := 45) (e := 30) (i := 7) rfl rfl (by decide) (fun t ht => own9_two ht) (lt_size 10 c.size rfl (by decide)) c.no rfl rfl rfl⟩))⟩
   ·exact fun β L c => ⟨_, rfl, .inl (OG.of_OL (bo (pS_new rfl (c.dep 0 (by kernel_rfl))) (pS_new rfl (c.dep 7 (by kernel_rfl))) (bin_add (c := ((i + min i (n - i) : Nat) : Int)) (by omega) (wrap_i64 (by omega))) ⟨β, pS_put (d := 46) (i := 8) rfl (fun t ht => own9_inj ht (by decide)) (lt_size 10 c.size rfl (by decide)) rfl⟩))⟩
  refine fun β L c => ⟨_, rfl, .inl (OG.of_OL (asD (y := dI (i + min i (n - i) : Nat)) (pS_new rfl (c.dep 8 (by kernel_rfl))) ?_))⟩
  exact OL.nil (AW.again (x := i) (i + min i (n - i)) (by omega) ⟨⟨by omega, by omega⟩, Knows.app .rq2 .rq1, .cons (putMH (pS_M (t := 30) (i := 7) rfl (c.dep 7 (by kernel_rfl)) rfl)) .nil⟩)
 ·try simp only [dx9] at h37
  refine AW.exit (AW.seq ?_)
  obtain rfl : i = n := by omega
  refine AW.freeze 30 rfl (AW.to [(7, .d (ints (List.replicate i v)))] [] (.cons (frz_osl (by rw [List.length_map, fillR_len v (Nat.le_refl _)]) (by rw [fillR_all])) .nil) .nil ?_)
  exact AW.rg hE rfl (mvD rfl (asD rfl (OL.nil (AW.ret (RetQ.r ⟨_, .tmp rfl .nil, .le (VLe.refl _)⟩)))))
set_option maxRecDepth 8000 in
set_option maxHeartbeats 6400000 in
theorem on_RunV {h : HM} {w : List Int} (g : h.GoodW 1048576) (hop : FSpec P F.online_Open [vHM h] (.tup [vOn h ⟨0, [], [], []⟩, .d (dI 0)])) (kw : WordOK h w) : FSpec P F.online_Run [vHM h, .d (ints w)] (.tup [.d (ints (rnP h w)), .d (ints (rnW h w)), vQ (rnQ h w), .d (dI (rnE h w))]) := by
 have f := g.form
 have s0 := f.sym0
 have s1 := f.sym1
 have n0 := f.st0
 have n1 := f.st1
 have hu := kw.1
 refine FSpec.intro fn.online_Run (by rfl) (by rfl) (nb9 (by rfl)) fun E hE => (AW.sg hE rfl (bxA rfl rfl fun b2 => (asM rfl (asM rfl (al z.Rat rfl fun b6 => (asD rfl (OL.nil ?_)))))))
 refine AW.sg hE rfl (ldPA ag.Hidden rfl rfl (vs := [_,_,_,_,_,_,_,_,_,_,_]) rfl (nb9 rfl) (clv rfl (.cons (VLe.refl _) (.nil)) (hop) (mvT rfl (ex rfl rfl (ex rfl rfl (al z.Online rfl fun b8 => (sto sz.Online rfl rfl rfl rfl rfl (nb9 rfl) (cells2 := [_,_,_,_,_,_,_,_,_,_,_,_,_,_,_]) rfl ?_)))))))
 refine asD rfl (OL.nil (AW.seq (AW.block (AW.sg hE rfl (mvD rfl (c_neq rfl rfl (c := false) (by exact cne_f (by omega)) (asD rfl ?_)))))))
 refine OL.nil (AW.cond rfl (fun hno => absurd hno (by decide)) (fun _ => ?_))
 refine AW.sg hE rfl (mvD rfl (faP fd.Hidden_0 rfl rfl (ldPC ce.int rfl rfl rfl (clv rfl (.cons (VLe.refl _) (.cons (VLe.refl _) (.nil))) (words_ValidA (h := h) (by omega) ⟨s0, s1⟩) ?_))))
 rw [← wokB_t kw]
 refine nt rfl (asD rfl (OL.nil (AW.cond rfl (fun hno => absurd hno (by decide)) (fun _ => ?_))))
 refine AW.skip (AW.sg hE rfl (asM rfl (OL.nil (AW.seq (AW.sg hE rfl (mvD rfl (lnL sl.ints rfl rfl ?_)))))))
 refine mvD rfl (OL.nil (AW.block (AW.own 10 60 T.int 1 rfl rfl ?_)))
 refine AW.whileK (α := Nat × Nat × Nat) [(6, _), (8, _), (9, _), (35, _), (36, _)] [] (fun (t, q, c) => [(10, .osl 60 q (runD h w t).2.length c), (37, .d (dI t))]) (fun (t, q, c) => [(6, .box b6 T.Rat [.d (.sc (.bool false)), .mt, .mt]), (8, .box b8 T.Online (cellsOn h (runD h w t).1)), (60, .row q c T.int 1 ((runD h w t).2.map dI))]) (fun (t, q, c) => t ≤ w.length ∧ allS h w t) (fun (t, q, c) => w.length - t) (0, 0, 0) (.cons (knP rfl) (.cons (knP rfl) (.cons (knD rfl) (.cons (knD rfl) (.cons (knD rfl) .nil))))) .nil ⟨⟨Nat.zero_le _, allS_zero h w⟩, .rq2, .cons rfl (.cons rfl (.cons rfl .nil))⟩ ?_
 rintro ⟨t, q, c⟩ ⟨h1, ha⟩
 have h1 : t ≤ w.length := h1
 have ha : allS h w t := ha
 have k := run_val g hu t h1 ha
 have hot := run_t h w t
 have hdn := done_leV k.toValC
 have hrl := run_len h w t
 refine AW.sg hE rfl (c_lss rfl rfl rfl (OL.nil (AW.seq (AW.cond rfl (fun h38 => ?_) (fun h38 => ?_)))))
 ·try simp only [dx9] at h38
  refine AW.skip (AW.seq (AW.block (AW.seq ?_)))
  have hx := kw.symX (t := t) (by omega)
  have htl := tails_lenV k
  refine AW.rg hE rfl (ixLn sl.ints 0 rfl rfl (by omega) rfl rfl (ldRC ce.int rfl (asD rfl (OL.nil (AW.sg hE rfl (ldPA ag.Online rfl rfl (vs := [_,_,_,_,_,_,_,_,_,_,_,_,_,_,_]) rfl (nb9 rfl) (mvD rfl ?_)))))))
  rw [hx.2]
  refine clv rfl (.cons (VLe.refl _) (.cons (VLe.refl _) (.nil))) (on_PushV g k (by omega) (by omega) hx.1) (mvT rfl (ex rfl rfl (ex rfl rfl (ex rfl rfl (al z.Online rfl fun b13 => (sto sz.Online rfl rfl rfl rfl rfl (nb9 rfl) (cells2 := [_,_,_,_,_,_,_,_,_,_,_,_,_,_,_]) rfl (asD rfl ?_)))))))
  refine asD rfl (OL.nil (AW.seq (AW.sg hE rfl (mvD rfl (c_neq rfl rfl rfl (OL.nil (AW.cond rfl (fun he => ?_) (fun he => ?_))))))))
  ·have he := push_E.resolve_left (nd_t he)
   obtain ⟨z1, z3, z2, z4⟩ := rn_not (h := h) (w := w) fun a => by have e := a t (by omega); rw [show pushE h (runD h w t).1 (symX w t) = 0 from if_pos e] at he; cases he
   refine AW.sg hE rfl (bd z.Rat pl.Rat (cs := [_,_,_]) rfl (mvD rfl (asM rfl (asM rfl (sto sz.Rat rfl rfl rfl rfl rfl (nb9 rfl) (cells2 := [_,_,_]) rfl (asD rfl (OL.nil ?_)))))))
   exact AW.ret (RetQ.r ⟨_, .tmp rfl (.tmp rfl (.cellA rfl rfl ag.Rat (nb9 rfl) (.tmp rfl .nil))), _, .cons (.le (by rw [z3]; exact VLe.mt)) (.cons (.le (by rw [z4]; exact VLe.mt)) (.cons (.ag (.cons (.le (by rw [z2, ofQ_zero]; exact VLe.refl _)) (.cons (.le (by rw [z2, ofQ_zero]; exact VLe.mt)) (.cons (.le (by rw [z2, ofQ_zero]; exact VLe.mt)) .nil)))) (.cons (.le (VLe.int (by rw [he, z1]))) .nil))), rfl⟩)
  ·have hs := push_ok (nd_f he)
   have hcl := cmt_len (h := h) (x := (symX w t)) htl h.st
   refine AW.skip (AW.seq ?_)
   rw [show pushH h (runD h w t).1 (symX w t) = h from if_pos hs, show pushD h (runD h w t).1 (symX w t) = stepD h (runD h w t).1 (symX w t) from if_pos hs, show pushC h (runD h w t).1 (symX w t) = cmtF h (runD h w t).1 (symX w t) h.st from if_pos hs]
   refine AW.rg hE rfl (ldPA ag.Online rfl rfl (vs := [_,_,_,_,_,_,_,_,_,_,_,_,_,_,_]) rfl (nb9 rfl) (sto sz.Online rfl rfl rfl rfl rfl (nb9 rfl) (cells2 := [_,_,_,_,_,_,_,_,_,_,_,_,_,_,_]) rfl (OL.nil (AW.rg hE rfl (mvO rfl (faP fd.Online_1 rfl rfl (ldPC ce.int rfl rfl (v := .d (dI ((t + 1 : Nat)))) (congrArg (fun z : Nat => some (V.d (dI z))) (congrArg (· + 1) hot)) ?_)))))))
   refine lt1 (y := dI ((t + 1 : Nat))) sl.ints (VC.d _).vd rfl (by decide) (mvD rfl (lnL sl.ints rfl rfl (clv rfl (.cons (VLe.refl _) (.cons (VLe.refl _) (.nil))) (repeat_ints (v := ((t + 1 : Nat) : Int)) (n := (cmtF h (runD h w t).1 (symX w t) h.st).length) (by omega)) ?_)))
   refine apO sl.ints rfl rfl rfl (by rw [List.length_map]) (VC.d _) dI_len (by simp only [List.length_map, List.length_replicate]; omega) (by simp only [List.length_map, List.length_replicate]; omega) (.inr rfl) (ys := (runD h w (t + 1)).2.map dI) (by rw [← List.map_append]; rfl) (n2 := (runD h w (t + 1)).2.length) (by rw [show (runD h w (t + 1)).2 = (runD h w t).2 ++ List.replicate (cmtF h (runD h w t).1 (symX w t) h.st).length ((t + 1 : Nat) : Int) from rfl]; simp) fun q2 c2 => ?_
   refine asO rfl (OL.nil (AW.rg hE rfl (add_i64 rfl rfl (by omega) (mvD rfl (OL.nil ?_)))))
   exact AW.again (x := (t, q, c)) (t + 1, q2, c2) (by (simp only []; omega)) ⟨⟨by omega, allS_succ ha hs⟩, Knows.app .rq5 .rq2, .cons rfl (.cons rfl (.cons rfl .nil))⟩
 ·try simp only [dx9] at h38
  refine AW.exit (AW.seq ?_)
  obtain rfl : t = w.length := by omega
  have hdl := done_lenV k
  have htl := tails_lenV k
  have hfl := fin_len (h := h) htl (runD h w w.length).1.sc.length
  obtain ⟨a1, a2, a3⟩ := rn_all ha
  refine AW.rg hE rfl (ldPA ag.Online rfl rfl (vs := [_,_,_,_,_,_,_,_,_,_,_,_,_,_,_]) rfl (nb9 rfl) (clv rfl (.cons (VLe.refl _) (.nil)) (on_FinishV g k) (mvT rfl (ex rfl rfl (ex rfl rfl (ex rfl rfl (al z.Rat rfl fun b17 => ?_)))))))
  refine asD rfl (sto sz.Rat rfl rfl rfl rfl rfl (nb9 rfl) (cells2 := [_,_,_]) rfl (asD rfl (OL.nil (AW.seq (AW.sg hE rfl (mvD rfl (c_neq rfl rfl rfl ?_)))))))
  refine OL.nil (AW.cond rfl (fun he => ?_) (fun he => ?_))
  ·have he := (finE_or h (runD h w w.length).1).resolve_left (nd_t he)
   obtain ⟨z5, z6⟩ := finE_no (h := h) (o := (runD h w w.length).1) (by rw [he]; decide)
   have z1 := a1.trans he
   have z2 := a3.trans z5
   have z3 := a2.trans z6
   have z4 := rnW_no (h := h) (w := w) (by rw [he]; decide)
   refine AW.sg hE rfl (bd z.Rat pl.Rat (cs := [_,_,_]) rfl (mvD rfl (asM rfl (asM rfl (sto sz.Rat rfl rfl rfl rfl rfl (nb9 rfl) (cells2 := [_,_,_]) rfl (asD rfl (OL.nil ?_)))))))
   exact AW.ret (RetQ.r ⟨_, .tmp rfl (.tmp rfl (.cellA rfl rfl ag.Rat (nb9 rfl) (.tmp rfl .nil))), _, .cons (.le (by rw [z3]; exact VLe.mt)) (.cons (.le (by rw [z4]; exact VLe.mt)) (.cons (.ag (.cons (.le (by rw [z2, ofQ_zero]; exact VLe.refl _)) (.cons (.le (by rw [z2, ofQ_zero]; exact VLe.mt)) (.cons (.le (by rw [z2, ofQ_zero]; exact VLe.mt)) .nil)))) (.cons (.le (VLe.int (by rw [he, z1]))) .nil))), rfl⟩)
  ·have he := nd_f he
   have hvp := finE_yes he
   have hvp2 := congrArg List.length hvp
   rw [List.length_append] at hvp2
   have hvl : (runD h w w.length).2.length ≤ (finP h (runD h w w.length).1).length := by omega
   have hvl2 : (finP h (runD h w w.length).1).length ≤ 512 := by omega
   refine AW.skip (AW.seq ?_)
   refine AW.region_planS (val19 (finP h (runD h w w.length).1) (runD h w w.length).2 (finF h (runD h w w.length).1 (runD h w w.length).1.sc.length).1 q c b6) (blk19 (finF h (runD h w w.length).1 (runD h w w.length).1.sc.length).1 b6) own19 12 order_free (by rw [hE]; rfl) (by rfl) (by kernel_rfl) (by kernel_rfl) ?_ ?_
   ·refine cases12 ?_ ?_ ?_ ?_ ?_ ?_ ?_ ?_ ?_ ?_ ?_ ?_
    ·exact fun β L c => ⟨_, rfl, .inl (OG.of_OL (mvD (y := ints (finP h (runD h w w.length).1)) ((pS_old rfl).trans rfl) ⟨β, pS_put (d := 72) (i := 0) rfl (fun t ht => own19_inj ht (by decide)) (lt_size 13 c.size rfl (by decide)) rfl⟩))⟩
    ·exact fun β L c => ⟨_, rfl, .inl (OG.of_OL (mvO ((pS_old rfl).trans rfl) ⟨β, pS_put (d := 73) (i := 1) rfl (fun t ht => own19_inj ht (by decide)) (lt_size 13 c.size rfl (by decide)) rfl⟩))⟩
    ·exact fun β L c => ⟨_, rfl, .inl (OG.of_OL (mvD (y := ints (finP h (runD h w w.length).1)) ((pS_old rfl).trans rfl) ⟨β, pS_put (d := 74) (i := 2) rfl (fun t ht => own19_inj ht (by decide)) (lt_size 13 c.size rfl (by decide)) rfl⟩))⟩
    ·exact fun β L c => ⟨_, rfl, .inl (OG.of_OL (lnL sl.ints rfl (l := (finP h (runD h w w.length).1)) (f := dI) (pS_new rfl (c.dep 2 (by kernel_rfl))) ⟨β, pS_put (d := 75) (i := 3) rfl (fun t ht => own19_inj ht (by decide)) (lt_size 13 c.size rfl (by decide)) rfl⟩))⟩
    ·exact fun β L c => ⟨_, rfl, .inl (OG.of_OL (mvO ((pS_old rfl).trans rfl) ⟨β, pS_put (d := 76) (i := 4) rfl (fun t ht => own19_inj ht (by decide)) (lt_size 13 c.size rfl (by decide)) rfl⟩))⟩
    ·exact fun β L c => ⟨_, rfl, .inl (OG.of_OL (lnO sl.ints rfl (pS_new rfl (c.dep 4 (by kernel_rfl))) ⟨β, pS_put (d := 77) (i := 5) rfl (fun t ht => own19_inj ht (by decide)) (lt_size 13 c.size rfl (by decide)) rfl⟩))⟩
    ·exact fun β L c => ⟨_, rfl, .inl (OG.of_OL (bo (pS_new rfl (c.dep 3 (by kernel_rfl))) (pS_new rfl (c.dep 5 (by kernel_rfl))) (bin_sub (c := (((finP h (runD h w w.length).1).length - (runD h w w.length).2.length : Nat) : Int)) (by omega) (wrap_i64 (by omega))) ⟨β, pS_put (d := 78) (i := 6) rfl (fun t ht => own19_inj ht (by decide)) (lt_size 13 c.size rfl (by decide)) rfl⟩))⟩
    ·exact fun β L c => ⟨_, rfl, SG.of_SO (SO.appZero (id := 60) (l := (runD h w w.length).2) (n := (runD h w w.length).2.length) (k := (finP h (runD h w w.length).1).length - (runD h w w.length).2.length) (kn := .i64) (show 79 < E.n by rw [hE]; exact Nat.le_of_ble_eq_true rfl) sl.ints it.int rfl (pS_new rfl (c.dep 1 (by kernel_rfl))) ((pS_M0 (t := 60) (i := 7) rfl c.no).trans rfl) rfl (pS_new rfl (c.dep 6 (by kernel_rfl))) ((pS_M0 (t := 79) (i := 7) rfl c.no).trans rfl) (by omega) (by omega) ⟨β, pS_putM (d := 79) (e := 60) (i := 7) rfl rfl (by decide) (fun t ht => own19_two ht) (lt_size 13 c.size rfl (by decide)) c.no rfl rfl rfl⟩)⟩
    ·exact fun β L c => ⟨_, rfl, .inl (OG.of_OL (ldPA ag.Rat ((pS_old rfl).trans rfl) ((pS_Mold rfl).trans rfl) (vs := cellsQ (finF h (runD h w w.length).1 (runD h w w.length).1.sc.length).1) rfl (nb9 rfl) ⟨β, pS_put (d := 80) (i := 8) rfl (fun t ht => own19_inj ht (by decide)) (lt_size 13 c.size rfl (by decide)) rfl⟩))⟩
    ·exact fun β L c => ⟨_, rfl, .inl (OG.of_OL (asD (y := ints (finP h (runD h w w.length).1)) (pS_new rfl (c.dep 0 (by kernel_rfl))) ⟨β, pS_put (d := 4) (i := 9) rfl (fun t ht => own19_inj ht (by decide)) (lt_size 13 c.size rfl (by decide)) rfl⟩))⟩
    ·exact fun β L c => ⟨_, rfl, .inl (OG.of_OL (asD (pS_new rfl (c.dep 7 (by kernel_rfl))) ⟨β, pS_put (d := 5) (i := 10) rfl (fun t ht => own19_inj ht (by decide)) (lt_size 13 c.size rfl (by decide)) rfl⟩))⟩
    ·exact fun β L c => ⟨_, rfl, .inl (OG.of_OL (sto sz.Rat ((pS_rho0 (t := 6) (i := 11) rfl c.no).trans rfl) (pS_new rfl (c.dep 8 (by kernel_rfl))) rfl ((pS_M0 (t := 6) (i := 11) rfl c.no).trans rfl) rfl (nb9 rfl) (cells2 := cellsQ (finF h (runD h w w.length).1 (runD h w w.length).1.sc.length).1) rfl ⟨β, pS_sto (d := 6) (i := 11) rfl (fun t ht => own19_inj ht (by decide)) (lt_size 13 c.size rfl (by decide)) c.no rfl rfl⟩))⟩
   refine fun β L c => ⟨_, rfl, .inl (OG.of_OL (asD rfl ?_))⟩
   refine OL.nil ?_
   refine AW.to [(4, .d (ints (finP h (runD h w w.length).1))), (5, .d (.sl (((runD h w w.length).2 ++ List.replicate ((finP h (runD h w w.length).1).length - (runD h w w.length).2.length) 0).map dI))), (6, .ptr 6 b6 0), (7, .d (dI 0))] [(6, .box b6 T.Rat (cellsQ (finF h (runD h w w.length).1 (runD h w w.length).1.sc.length).1))] (.cons (vle_of_eq (putneS (show (4:Nat) ≠ 7 by decide) (pS_new (t := 4) (i := 9) rfl (c.dep 9 (by kernel_rfl))))) (.cons (vle_of_eq (putneS (show (5:Nat) ≠ 7 by decide) (pS_new (t := 5) (i := 10) rfl (c.dep 10 (by kernel_rfl))))) (.cons (vle_of_eq (putneS (show (6:Nat) ≠ 7 by decide) (pS_new (t := 6) (i := 11) rfl (c.dep 11 (by kernel_rfl))))) (.cons (vle_of_eq putsmS) (.nil))))) (.cons (putM (pS_M (t := 6) (i := 11) rfl (c.dep 11 (by kernel_rfl)) rfl)) (.nil)) ?_
   exact AW.ret (RetQ.r ⟨_, .tmp rfl (.tmp rfl (.cellA rfl rfl ag.Rat (nb9 rfl) (.tmp rfl .nil))), _, .cons (.le (vle_of_eq (by rw [a2]; rfl))) (.cons (.le (vle_of_eq (by rw [rnW_ok ha he]; rfl))) (.cons (.ag (.cons (.le (vle_of_eq (by rw [a3]))) (.cons (.le (vle_of_eq (by rw [a3]))) (.cons (.le (vle_of_eq (by rw [a3]))) .nil)))) (.cons (.le (VLe.int (by rw [a1, he]))) .nil))), rfl⟩)
set_option maxRecDepth 8000 in
set_option maxHeartbeats 3200000 in
theorem on_RunE {h : RM} {w : List Int} (zz : h.Sz) (nw : w.length ≤ 1048576) (n : ¬ wrdE h w = 0) : FSpec P F.online_Run [vRM h, .d (ints w)] (.tup [.d (ints []), .d (ints []), vQ 0, .d (dI (wrdE h w))]) := by
 refine FSpec.intro fn.online_Run (by rfl) (by rfl) (nb9 (by rfl)) fun E hE => (AW.sg hE rfl (bxA rfl rfl fun b2 => (asM rfl (asM rfl (al z.Rat rfl fun b6 => (asD rfl (OL.nil ?_)))))))
 refine AW.sg hE rfl (ldPA ag.Hidden rfl rfl (vs := [_,_,_,_,_,_,_,_,_,_,_]) rfl (nb9 rfl) (clv rfl (.cons (VLe.refl _) (.nil)) (on_OpenR zz) (mvT rfl (ex rfl rfl (ex rfl rfl (al z.Online rfl fun b8 => (sto sz.Online rfl rfl rfl rfl rfl (nb9 rfl) (cells2 := [_,_,_,_,_,_,_,_,_,_,_,_,_,_,_]) rfl ?_)))))))
 refine asD rfl (OL.nil (AW.seq (AW.block (AW.sg hE rfl (mvD rfl (c_neq rfl rfl rfl (asD rfl ?_)))))))
 refine OL.nil (AW.cond rfl (fun c7 => ?_) (fun c7 => ?_))
 ·have c7 : ¬ chkP h = 0 := by simpa using c7
  refine AW.sg hE rfl (bd z.Rat pl.Rat (cs := [_,_,_]) rfl (mvD rfl (asM rfl (asM rfl (sto sz.Rat rfl rfl rfl rfl rfl (nb9 rfl) (cells2 := [_,_,_]) rfl (asD rfl (OL.nil ?_)))))))
  exact AW.ret (RetQ.r ⟨_, .tmp rfl (.tmp rfl (.cellA rfl rfl ag.Rat (nb9 rfl) (.tmp rfl .nil))), _, .cons (.le (VLe.mt)) (.cons (.le (VLe.mt)) (.cons (.ag (.cons (.le (by rw [ofQ_zero]; exact VLe.refl _)) (.cons (.le (by rw [ofQ_zero]; exact VLe.mt)) (.cons (.le (by rw [ofQ_zero]; exact VLe.mt)) .nil)))) (.cons (.le (VLe.int ((wrdE_e c7).symm))) .nil))), rfl⟩)
 ·have c7 : chkP h = 0 := by simpa using c7
  obtain ⟨g, hv⟩ := chkP_good zz c7
  have s0 := g.form.sym0
  have s1 := g.form.sym1
  have kn : ¬ WordOK (hm h) w := fun k => n (wrdE_0 c7 k)
  refine AW.boxW 2 (cellsHM (hm h)) rfl (vles_of_eq (V.ag.inj hv)) (AW.sg hE rfl (mvD rfl (faP fd.Hidden_0 rfl rfl (ldPC ce.int rfl rfl rfl (clv rfl (.cons (VLe.refl _) (.cons (VLe.refl _) (.nil))) (words_ValidA (h := hm h) nw ⟨s0, s1⟩) ?_)))))
  rw [← wokB_f kn]
  refine nt rfl (asD rfl (OL.nil (AW.cond rfl (fun _ => ?_) (fun hno => absurd hno (by decide)))))
  refine AW.sg hE rfl (bd z.Rat pl.Rat (cs := [_,_,_]) rfl (asM rfl (asM rfl (sto sz.Rat rfl rfl rfl rfl rfl (nb9 rfl) (cells2 := [_,_,_]) rfl (asD rfl (OL.nil ?_))))))
  exact AW.ret (RetQ.r ⟨_, .tmp rfl (.tmp rfl (.cellA rfl rfl ag.Rat (nb9 rfl) (.tmp rfl .nil))), _, .cons (.le (VLe.mt)) (.cons (.le (VLe.mt)) (.cons (.ag (.cons (.le (by rw [ofQ_zero]; exact VLe.refl _)) (.cons (.le (by rw [ofQ_zero]; exact VLe.mt)) (.cons (.le (by rw [ofQ_zero]; exact VLe.mt)) .nil)))) (.cons (.le (VLe.int ((wrdE_1 c7 kn).symm))) .nil))), rfl⟩)
set_option maxRecDepth 8000 in
set_option maxHeartbeats 6400000 in
theorem ref37_RunV {h : HM} {w : List Int} (g : h.GoodW 1048576) (hp : FSpec P F.ref33_Plain [vHM h] (.d (dB true))) (hck : FSpec P F.ref34_Check [vHM h, .d (ints w)] (.d (dI 0))) (hop : FSpec P F.ref37_Open [vHM h] (.tup [vOn h ⟨0, [], [], []⟩, .d (dI 0)])) (kw : WordOK h w) : FSpec P F.ref37_Run [vHM h, .d (ints w)] (.tup [.d (ints (rnP h w)), .d (ints (rnW h w)), vQ (rnQ h w), .d (dI (rnE h w))]) := by
 have f := g.form
 have s0 := f.sym0
 have s1 := f.sym1
 have n0 := f.st0
 have n1 := f.st1
 have hu := kw.1
 refine FSpec.intro fn.ref37_Run (by rfl) (by rfl) (nb9 (by rfl)) fun E hE => (AW.sg hE rfl (bxA rfl rfl fun b2 => (asM rfl (asM rfl (al z.Rat rfl fun b6 => (asD rfl (OL.nil ?_)))))))
 refine AW.seq (AW.sg hE rfl (ldPA ag.Hidden rfl rfl (vs := [_,_,_,_,_,_,_,_,_,_,_]) rfl (nb9 rfl) (mvD rfl (clv rfl (.cons (VLe.refl _) (.cons (VLe.refl _) (.nil))) (hck) (asD rfl (OL.nil (AW.sg hE rfl ?_)))))))
 refine mvD rfl (c_neq rfl rfl (c := false) (by exact cne_f (by omega)) (OL.nil (AW.cond rfl (fun hno => absurd hno (by decide)) (fun _ => ?_))))
 refine AW.skip (AW.sg hE rfl (ldPA ag.Hidden rfl rfl (vs := [_,_,_,_,_,_,_,_,_,_,_]) rfl (nb9 rfl) (clv rfl (.cons (VLe.refl _) (.nil)) (hop) (mvT rfl (ex rfl rfl (ex rfl rfl (al z.Online rfl fun b9 => ?_)))))))
 refine sto sz.Online rfl rfl rfl rfl rfl (nb9 rfl) (cells2 := [_,_,_,_,_,_,_,_,_,_,_,_,_,_,_]) rfl (asD rfl (OL.nil (AW.sg hE rfl (asM rfl (OL.nil (AW.seq (AW.sg hE rfl ?_)))))))
 refine asD rfl (OL.nil (AW.block (AW.own 11 62 T.int 1 rfl rfl ?_)))
 refine AW.whileK (α := Nat × Nat × Nat) [(1, _), (6, _), (9, _)] [] (fun (t, q, c) => [(11, .osl 62 q (runD h w t).2.length c), (12, .d (dI t))]) (fun (t, q, c) => [(6, .box b6 T.Rat [.d (.sc (.bool false)), .mt, .mt]), (9, .box b9 T.Online (cellsOn h (runD h w t).1)), (62, .row q c T.int 1 ((runD h w t).2.map dI))]) (fun (t, q, c) => t ≤ w.length ∧ allS h w t) (fun (t, q, c) => w.length - t) (0, 0, 0) (.cons (knD rfl) (.cons (knP rfl) (.cons (knP rfl) .nil))) .nil ⟨⟨Nat.zero_le _, allS_zero h w⟩, .rq2, .cons rfl (.cons rfl (.cons rfl .nil))⟩ ?_
 rintro ⟨t, q, c⟩ ⟨h1, ha⟩
 have h1 : t ≤ w.length := h1
 have ha : allS h w t := ha
 have k := run_val g hu t h1 ha
 have hot := run_t h w t
 have hdn := done_leV k.toValC
 have hrl := run_len h w t
 refine AW.seq (AW.sg hE rfl (mvD rfl (mvD rfl (lnL sl.ints rfl rfl (c_lss rfl rfl rfl (OL.nil (AW.cond rfl (fun h35 => ?_) (fun h35 => ?_))))))))
 ·try simp only [dx9] at h35
  refine AW.skip (AW.seq (AW.block (AW.seq ?_)))
  have hx := kw.symX (t := t) (by omega)
  have htl := tails_lenV k
  refine AW.dg 1 [0,1,2,3,4,5,6,7,8,9,10,11,12,13] order_free hE rfl (by kernel_rfl) (OI.of_OL (os := [_,_,_,_,_,_,_,_,_,_,_,_,_,_]) rfl ?_)
  refine ldPA ag.Online rfl rfl (vs := [_,_,_,_,_,_,_,_,_,_,_,_,_,_,_]) rfl (nb9 rfl) (mvD rfl (mvD rfl (ixLn sl.ints 0 rfl rfl (by omega) rfl rfl (ldRC ce.int rfl ?_))))
  rw [hx.2]
  refine clv rfl (.cons (VLe.refl _) (.cons (VLe.refl _) (.nil))) (ref37_PushV g hp k (by omega) (by omega) hx.1) (mvT rfl (ex rfl rfl (ex rfl rfl (ex rfl rfl (al z.Online rfl fun b13 => (sto sz.Online rfl rfl rfl rfl rfl (nb9 rfl) (cells2 := [_,_,_,_,_,_,_,_,_,_,_,_,_,_,_]) rfl (asD rfl ?_)))))))
  refine asD rfl (OL.nil (AW.seq (AW.sg hE rfl (mvD rfl (c_neq rfl rfl rfl (OL.nil (AW.cond rfl (fun he => ?_) (fun he => ?_))))))))
  ·have he := push_E.resolve_left (nd_t he)
   obtain ⟨z1, z3, z2, z4⟩ := rn_not (h := h) (w := w) fun a => by have e := a t (by omega); rw [show pushE h (runD h w t).1 (symX w t) = 0 from if_pos e] at he; cases he
   refine AW.sg hE rfl (bd z.Rat pl.Rat (cs := [_,_,_]) rfl (mvD rfl (asM rfl (asM rfl (sto sz.Rat rfl rfl rfl rfl rfl (nb9 rfl) (cells2 := [_,_,_]) rfl (asD rfl (OL.nil ?_)))))))
   exact AW.ret (RetQ.r ⟨_, .tmp rfl (.tmp rfl (.cellA rfl rfl ag.Rat (nb9 rfl) (.tmp rfl .nil))), _, .cons (.le (by rw [z3]; exact VLe.mt)) (.cons (.le (by rw [z4]; exact VLe.mt)) (.cons (.ag (.cons (.le (by rw [z2, ofQ_zero]; exact VLe.refl _)) (.cons (.le (by rw [z2, ofQ_zero]; exact VLe.mt)) (.cons (.le (by rw [z2, ofQ_zero]; exact VLe.mt)) .nil)))) (.cons (.le (VLe.int (by rw [he, z1]))) .nil))), rfl⟩)
  ·have hs := push_ok (nd_f he)
   have hcl := cmt_len (h := h) (x := (symX w t)) htl h.st
   rw [show pushH h (runD h w t).1 (symX w t) = h from if_pos hs, show pushD h (runD h w t).1 (symX w t) = stepD h (runD h w t).1 (symX w t) from if_pos hs, show pushC h (runD h w t).1 (symX w t) = cmtF h (runD h w t).1 (symX w t) h.st from if_pos hs]
   refine AW.skip (AW.seq (AW.sg hE rfl (asD rfl (OL.nil (AW.block ?_)))))
   refine AW.whileK (α := Nat × Nat × Nat) [(1, _), (6, _), (9, _), (12, _), (13, _), (14, _)] [(6, _), (9, _), (13, _)] (fun (i, q2, c2) => [(11, .osl 62 q2 ((runD h w t).2.length + i) c2), (16, .d (dI i))]) (fun (i, q2, c2) => [(62, .row q2 c2 T.int 1 (((runD h w t).2 ++ List.replicate i ((t + 1 : Nat) : Int)).map dI))]) (fun (i, q2, c2) => i ≤ (cmtF h (runD h w t).1 (symX w t) h.st).length) (fun (i, q2, c2) => (cmtF h (runD h w t).1 (symX w t) h.st).length - i) (0, q, c) (.cons (knD rfl) (.cons (knP rfl) (.cons (knP rfl) (.cons (knD rfl) (.cons (knP rfl) (.cons (knD rfl) .nil)))))) (.cons (owB rfl) (.cons (owB rfl) (.cons (owB rfl) .nil))) ⟨Nat.zero_le _, .rq2, .cons (by rw [List.replicate_zero, List.append_nil]; rfl) .nil⟩ ?_
   rintro ⟨i, q2, c2⟩ h3
   have h3 : i ≤ (cmtF h (runD h w t).1 (symX w t) h.st).length := h3
   refine AW.seq (AW.sg hE rfl (mvD rfl (mvD rfl (lnL sl.ints rfl rfl (c_lss rfl rfl rfl (OL.nil (AW.cond rfl (fun h55 => ?_) (fun h55 => ?_))))))))
   ·try simp only [dx9] at h55
    refine AW.skip (AW.seq (AW.block (AW.rg hE rfl (mvO rfl (mvD rfl (bo rfl rfl (bin_add (c := ((t + 1 : Nat) : Int)) (by omega) (wrap_i64 (by omega))) (lt1 (y := dI ((t + 1 : Nat))) sl.ints (VC.d _).vd rfl (by decide) ?_)))))))
    refine apO sl.ints rfl rfl rfl (by simp) (VC.d _) (by simp [D.cells]) (by simp only [List.length_singleton]; omega) (by simp only [List.length_singleton]; omega) (.inr rfl) (ys := ((runD h w t).2 ++ List.replicate (i + 1) ((t + 1 : Nat) : Int)).map dI) (by rw [List.replicate_succ', ← List.append_assoc]; exact snoc_dI ..) (n2 := (runD h w t).2.length + (i + 1)) (by simp; omega) fun q3 c3 => ?_
    refine asO rfl (OL.nil (AW.rg hE rfl (mvD rfl (add_i64 rfl rfl (by omega) (asD rfl (OL.nil ?_))))))
    exact AW.again (x := (i, q2, c2)) (i + 1, q3, c3) (by (simp only []; omega)) ⟨by omega, Knows.app .rq6 .rq2, Owns.app (.cons rfl (.cons rfl (.cons rfl .nil))) (.cons rfl .nil)⟩
   ·try simp only [dx9] at h55
    refine AW.exit ?_
    obtain rfl : i = (cmtF h (runD h w t).1 (symX w t) h.st).length := by omega
    have hl2 : (runD h w (t + 1)).2.length = (runD h w t).2.length + (cmtF h (runD h w t).1 (symX w t) h.st).length := by rw [show (runD h w (t + 1)).2 = (runD h w t).2 ++ List.replicate (cmtF h (runD h w t).1 (symX w t) h.st).length ((t + 1 : Nat) : Int) from rfl]; simp
    refine AW.rg hE rfl (ldPA ag.Online rfl rfl (vs := [_,_,_,_,_,_,_,_,_,_,_,_,_,_,_]) rfl (nb9 rfl) (sto sz.Online rfl rfl rfl rfl rfl (nb9 rfl) (cells2 := [_,_,_,_,_,_,_,_,_,_,_,_,_,_,_]) rfl (OL.nil (AW.rg hE rfl (mvD rfl (add_i64 rfl rfl (by omega) (asD rfl ?_)))))))
    refine OL.nil ?_
    exact AW.again (x := (t, q, c)) (t + 1, q2, c2) (by (simp only []; omega)) ⟨⟨by omega, allS_succ ha hs⟩, Knows.app .rq3 (.cons (vle_of_eq (by rw [hl2]; rfl)) .rq1), .cons rfl (.cons rfl (.cons rfl .nil))⟩
 ·try simp only [dx9] at h35
  refine AW.exit (AW.seq ?_)
  obtain rfl : t = w.length := by omega
  have hdl := done_lenV k
  have htl := tails_lenV k
  have hfl := fin_len (h := h) htl (runD h w w.length).1.sc.length
  obtain ⟨a1, a2, a3⟩ := rn_all ha
  refine AW.rg hE rfl (ldPA ag.Online rfl rfl (vs := [_,_,_,_,_,_,_,_,_,_,_,_,_,_,_]) rfl (nb9 rfl) (clv rfl (.cons (VLe.refl _) (.nil)) (ref37_FinishV g hp k) (mvT rfl (ex rfl rfl (ex rfl rfl (ex rfl rfl (al z.Rat rfl fun b18 => ?_)))))))
  refine asD rfl (sto sz.Rat rfl rfl rfl rfl rfl (nb9 rfl) (cells2 := [_,_,_]) rfl (asD rfl (OL.nil (AW.seq (AW.sg hE rfl (mvD rfl (c_neq rfl rfl rfl ?_)))))))
  refine OL.nil (AW.cond rfl (fun he => ?_) (fun he => ?_))
  ·have he := (finE_or h (runD h w w.length).1).resolve_left (nd_t he)
   obtain ⟨z5, z6⟩ := finE_no (h := h) (o := (runD h w w.length).1) (by rw [he]; decide)
   have z1 := a1.trans he
   have z2 := a3.trans z5
   have z3 := a2.trans z6
   have z4 := rnW_no (h := h) (w := w) (by rw [he]; decide)
   refine AW.sg hE rfl (bd z.Rat pl.Rat (cs := [_,_,_]) rfl (mvD rfl (asM rfl (asM rfl (sto sz.Rat rfl rfl rfl rfl rfl (nb9 rfl) (cells2 := [_,_,_]) rfl (asD rfl (OL.nil ?_)))))))
   exact AW.ret (RetQ.r ⟨_, .tmp rfl (.tmp rfl (.cellA rfl rfl ag.Rat (nb9 rfl) (.tmp rfl .nil))), _, .cons (.le (by rw [z3]; exact VLe.mt)) (.cons (.le (by rw [z4]; exact VLe.mt)) (.cons (.ag (.cons (.le (by rw [z2, ofQ_zero]; exact VLe.refl _)) (.cons (.le (by rw [z2, ofQ_zero]; exact VLe.mt)) (.cons (.le (by rw [z2, ofQ_zero]; exact VLe.mt)) .nil)))) (.cons (.le (VLe.int (by rw [he, z1]))) .nil))), rfl⟩)
  ·have he := nd_f he
   have hvp := finE_yes he
   have hvp2 := congrArg List.length hvp
   rw [List.length_append] at hvp2
   have hvl : (runD h w w.length).2.length ≤ (finP h (runD h w w.length).1).length := by omega
   have hvl2 : (finP h (runD h w w.length).1).length ≤ 512 := by omega
   refine AW.skip (AW.seq (AW.block ?_))
   refine AW.rename 62 81 rfl (AW.to [(6, .ptr 6 b6 0), (17, .d (ints (finP h (runD h w w.length).1))), (18, .ptr 18 b18 0), (11, .osl 81 q (runD h w w.length).2.length c)] [(6, .box b6 T.Rat [.d (.sc (.bool false)), .mt, .mt]), (18, .box b18 T.Rat (cellsQ (finF h (runD h w w.length).1 (runD h w w.length).1.sc.length).1)), (81, .row q c T.int 1 ((runD h w w.length).2.map dI))] (.cons (VLe.refl _) (.cons (VLe.refl _) (.cons (VLe.refl _) (.cons VLe.osl .nil)))) (.cons rfl (.cons rfl (.cons rfl .nil))) ?_)
   refine AW.whileK (α := Nat × Nat × Nat) [(6, _), (17, _), (18, _)] [(6, _), (18, _)] (fun (j, q2, c2) => [(11, .osl 81 q2 ((runD h w w.length).2.length + j) c2)]) (fun (j, q2, c2) => [(81, .row q2 c2 T.int 1 (((runD h w w.length).2 ++ List.replicate j 0).map dI))]) (fun (j, q2, c2) => (runD h w w.length).2.length + j ≤ (finP h (runD h w w.length).1).length) (fun (j, q2, c2) => (finP h (runD h w w.length).1).length - j) (0, q, c) (.cons (knP rfl) (.cons (knD rfl) (.cons (knP rfl) .nil))) (.cons (owB rfl) (.cons (owB rfl) .nil)) ⟨hvl, .rq1, .cons (by rw [List.replicate_zero, List.append_nil]; rfl) .nil⟩ ?_
   rintro ⟨j, q2, c2⟩ h4
   have h4 : (runD h w w.length).2.length + j ≤ (finP h (runD h w w.length).1).length := h4
   refine AW.seq (AW.sg hE rfl (mvO rfl (lnO sl.ints rfl rfl (mvD rfl (lnL sl.ints rfl rfl (c_lss rfl rfl rfl (OL.nil ?_)))))))
   refine AW.cond rfl (fun h78 => ?_) (fun h78 => ?_)
   ·try simp only [dx9] at h78
    refine AW.skip (AW.block (AW.rg hE rfl (mvO rfl (lt1 (y := dI 0) sl.ints (VC.d _).vd rfl (by decide) ?_))))
    refine apO sl.ints rfl rfl rfl (by simp) (VC.d _) (by simp [D.cells]) (by simp only [List.length_singleton]; omega) (by simp only [List.length_singleton]; omega) (.inr rfl) (ys := ((runD h w w.length).2 ++ List.replicate (j + 1) 0).map dI) (by rw [List.replicate_succ', ← List.append_assoc]; exact snoc_dI ..) (n2 := (runD h w w.length).2.length + (j + 1)) (by simp; omega) fun q3 c3 => ?_
    exact asO rfl (OL.nil (AW.again (x := (j, q2, c2)) (j + 1, q3, c3) (by (simp only []; omega)) ⟨by omega, Knows.app .rq3 .rq1, Owns.app (.cons rfl (.cons rfl .nil)) (.cons rfl .nil)⟩))
   ·try simp only [dx9] at h78
    refine AW.exit (AW.seq ?_)
    obtain rfl : j = (finP h (runD h w w.length).1).length - (runD h w w.length).2.length := by omega
    refine AW.freeze 81 rfl (AW.to [(6, .ptr 6 b6 0), (17, .d (ints (finP h (runD h w w.length).1))), (18, .ptr 18 b18 0), (11, .d (ints ((runD h w w.length).2 ++ List.replicate ((finP h (runD h w w.length).1).length - (runD h w w.length).2.length) 0)))] [(6, .box b6 T.Rat [.d (.sc (.bool false)), .mt, .mt]), (18, .box b18 T.Rat (cellsQ (finF h (runD h w w.length).1 (runD h w w.length).1.sc.length).1))] (.cons (VLe.refl _) (.cons (VLe.refl _) (.cons (VLe.refl _) (.cons (frz_osl (by simp) rfl) .nil)))) (.cons rfl (.cons rfl .nil)) ?_)
    refine AW.region_tree order_free (by rw [hE]; rfl) (OT.node [0, 1, 2] (os := [_,_,_]) (by kernel_rfl) (by decide) rfl ⟨?_, ?_, ?_, trivial⟩)
    ·refine mvD rfl (OL.nil (OT.node [1, 2, 3] (os := [_,_,_]) (by kernel_rfl) (by decide) rfl ⟨?_, ?_, ?_, trivial⟩))
     ·refine mvD rfl (OL.nil (OT.node [2, 3] (os := [_,_]) (by kernel_rfl) (by decide) rfl ⟨?_, ?_, trivial⟩))
      ·refine ldPA ag.Rat rfl rfl (vs := [_,_,_]) rfl (nb9 rfl) (OL.nil (OT.node [3] (os := [_]) (by kernel_rfl) (by decide) rfl ⟨?_, trivial⟩))
       refine asD rfl (OL.nil (OT.node [4] (os := [_]) (by kernel_rfl) (by decide) rfl ⟨?_, trivial⟩))
       refine asD rfl (OL.nil (OT.node [5] (os := [_]) (by kernel_rfl) (by decide) rfl ⟨?_, trivial⟩))
       refine sto sz.Rat rfl rfl rfl rfl rfl (nb9 rfl) (cells2 := [_,_,_]) rfl (OL.nil (OT.node [6] (os := [_]) (by kernel_rfl) (by decide) rfl ⟨?_, trivial⟩))
       refine asD rfl (OL.nil (OT.leaf (by kernel_rfl) ?_))
       exact AW.ret (RetQ.r ⟨_, .tmp rfl (.tmp rfl (.cellA rfl rfl ag.Rat (nb9 rfl) (.tmp rfl .nil))), _, .cons (.le (vle_of_eq (by rw [a2]; rfl))) (.cons (.le (vle_of_eq (by rw [rnW_ok ha he]; rfl))) (.cons (.ag (.cons (.le (vle_of_eq (by rw [a3]))) (.cons (.le (vle_of_eq (by rw [a3]))) (.cons (.le (vle_of_eq (by rw [a3]))) .nil)))) (.cons (.le (VLe.int (by rw [a1, he]))) .nil))), rfl⟩)
      ·refine asD rfl (OL.nil (OT.node [2, 4] (os := [_,_]) (by kernel_rfl) (by decide) rfl ⟨?_, ?_, trivial⟩))
       ·refine ldPA ag.Rat rfl rfl (vs := [_,_,_]) rfl (nb9 rfl) (OL.nil (OT.node [4] (os := [_]) (by kernel_rfl) (by decide) rfl ⟨?_, trivial⟩))
        refine asD rfl (OL.nil (OT.node [5] (os := [_]) (by kernel_rfl) (by decide) rfl ⟨?_, trivial⟩))
        refine sto sz.Rat rfl rfl rfl rfl rfl (nb9 rfl) (cells2 := [_,_,_]) rfl (OL.nil (OT.node [6] (os := [_]) (by kernel_rfl) (by decide) rfl ⟨?_, trivial⟩))
        refine asD rfl (OL.nil (OT.leaf (by kernel_rfl) ?_))
        exact AW.ret (RetQ.r ⟨_, .tmp rfl (.tmp rfl (.cellA rfl rfl ag.Rat (nb9 rfl) (.tmp rfl .nil))), _, .cons (.le (vle_of_eq (by rw [a2]; rfl))) (.cons (.le (vle_of_eq (by rw [rnW_ok ha he]; rfl))) (.cons (.ag (.cons (.le (vle_of_eq (by rw [a3]))) (.cons (.le (vle_of_eq (by rw [a3]))) (.cons (.le (vle_of_eq (by rw [a3]))) .nil)))) (.cons (.le (VLe.int (by rw [a1, he]))) .nil))), rfl⟩)
       ·refine asD rfl (OL.nil (OT.node [2] (os := [_]) (by kernel_rfl) (by decide) rfl ⟨?_, trivial⟩))
        refine ldPA ag.Rat rfl rfl (vs := [_,_,_]) rfl (nb9 rfl) (OL.nil (OT.node [5] (os := [_]) (by kernel_rfl) (by decide) rfl ⟨?_, trivial⟩))
        refine sto sz.Rat rfl rfl rfl rfl rfl (nb9 rfl) (cells2 := [_,_,_]) rfl (OL.nil (OT.node [6] (os := [_]) (by kernel_rfl) (by decide) rfl ⟨?_, trivial⟩))
        refine asD rfl (OL.nil (OT.leaf (by kernel_rfl) ?_))
        exact AW.ret (RetQ.r ⟨_, .tmp rfl (.tmp rfl (.cellA rfl rfl ag.Rat (nb9 rfl) (.tmp rfl .nil))), _, .cons (.le (vle_of_eq (by rw [a2]; rfl))) (.cons (.le (vle_of_eq (by rw [rnW_ok ha he]; rfl))) (.cons (.ag (.cons (.le (vle_of_eq (by rw [a3]))) (.cons (.le (vle_of_eq (by rw [a3]))) (.cons (.le (vle_of_eq (by rw [a3]))) .nil)))) (.cons (.le (VLe.int (by rw [a1, he]))) .nil))), rfl⟩)
     ·refine ldPA ag.Rat rfl rfl (vs := [_,_,_]) rfl (nb9 rfl) (OL.nil (OT.node [1, 3] (os := [_,_]) (by kernel_rfl) (by decide) rfl ⟨?_, ?_, trivial⟩))
      ·refine mvD rfl (OL.nil (OT.node [3] (os := [_]) (by kernel_rfl) (by decide) rfl ⟨?_, trivial⟩))
       refine asD rfl (OL.nil (OT.node [4] (os := [_]) (by kernel_rfl) (by decide) rfl ⟨?_, trivial⟩))
       refine asD rfl (OL.nil (OT.node [5] (os := [_]) (by kernel_rfl) (by decide) rfl ⟨?_, trivial⟩))
       refine sto sz.Rat rfl rfl rfl rfl rfl (nb9 rfl) (cells2 := [_,_,_]) rfl (OL.nil (OT.node [6] (os := [_]) (by kernel_rfl) (by decide) rfl ⟨?_, trivial⟩))
       refine asD rfl (OL.nil (OT.leaf (by kernel_rfl) ?_))
       exact AW.ret (RetQ.r ⟨_, .tmp rfl (.tmp rfl (.cellA rfl rfl ag.Rat (nb9 rfl) (.tmp rfl .nil))), _, .cons (.le (vle_of_eq (by rw [a2]; rfl))) (.cons (.le (vle_of_eq (by rw [rnW_ok ha he]; rfl))) (.cons (.ag (.cons (.le (vle_of_eq (by rw [a3]))) (.cons (.le (vle_of_eq (by rw [a3]))) (.cons (.le (vle_of_eq (by rw [a3]))) .nil)))) (.cons (.le (VLe.int (by rw [a1, he]))) .nil))), rfl⟩)
      ·refine asD rfl (OL.nil (OT.node [1] (os := [_]) (by kernel_rfl) (by decide) rfl ⟨?_, trivial⟩))
       refine mvD rfl (OL.nil (OT.node [4] (os := [_]) (by kernel_rfl) (by decide) rfl ⟨?_, trivial⟩))
       refine asD rfl (OL.nil (OT.node [5] (os := [_]) (by kernel_rfl) (by decide) rfl ⟨?_, trivial⟩))
       refine sto sz.Rat rfl rfl rfl rfl rfl (nb9 rfl) (cells2 := [_,_,_]) rfl (OL.nil (OT.node [6] (os := [_]) (by kernel_rfl) (by decide) rfl ⟨?_, trivial⟩))
       refine asD rfl (OL.nil (OT.leaf (by kernel_rfl) ?_))
       exact AW.ret (RetQ.r ⟨_, .tmp rfl (.tmp rfl (.cellA rfl rfl ag.Rat (nb9 rfl) (.tmp rfl .nil))), _, .cons (.le (vle_of_eq (by rw [a2]; rfl))) (.cons (.le (vle_of_eq (by rw [rnW_ok ha he]; rfl))) (.cons (.ag (.cons (.le (vle_of_eq (by rw [a3]))) (.cons (.le (vle_of_eq (by rw [a3]))) (.cons (.le (vle_of_eq (by rw [a3]))) .nil)))) (.cons (.le (VLe.int (by rw [a1, he]))) .nil))), rfl⟩)
     ·refine asD rfl (OL.nil (OT.node [1, 2] (os := [_,_]) (by kernel_rfl) (by decide) rfl ⟨?_, ?_, trivial⟩))
      ·refine mvD rfl (OL.nil (OT.node [2, 4] (os := [_,_]) (by kernel_rfl) (by decide) rfl ⟨?_, ?_, trivial⟩))
       ·refine ldPA ag.Rat rfl rfl (vs := [_,_,_]) rfl (nb9 rfl) (OL.nil (OT.node [4] (os := [_]) (by kernel_rfl) (by decide) rfl ⟨?_, trivial⟩))
        refine asD rfl (OL.nil (OT.node [5] (os := [_]) (by kernel_rfl) (by decide) rfl ⟨?_, trivial⟩))
        refine sto sz.Rat rfl rfl rfl rfl rfl (nb9 rfl) (cells2 := [_,_,_]) rfl (OL.nil (OT.node [6] (os := [_]) (by kernel_rfl) (by decide) rfl ⟨?_, trivial⟩))
        refine asD rfl (OL.nil (OT.leaf (by kernel_rfl) ?_))
        exact AW.ret (RetQ.r ⟨_, .tmp rfl (.tmp rfl (.cellA rfl rfl ag.Rat (nb9 rfl) (.tmp rfl .nil))), _, .cons (.le (vle_of_eq (by rw [a2]; rfl))) (.cons (.le (vle_of_eq (by rw [rnW_ok ha he]; rfl))) (.cons (.ag (.cons (.le (vle_of_eq (by rw [a3]))) (.cons (.le (vle_of_eq (by rw [a3]))) (.cons (.le (vle_of_eq (by rw [a3]))) .nil)))) (.cons (.le (VLe.int (by rw [a1, he]))) .nil))), rfl⟩)
       ·refine asD rfl (OL.nil (OT.node [2] (os := [_]) (by kernel_rfl) (by decide) rfl ⟨?_, trivial⟩))
        refine ldPA ag.Rat rfl rfl (vs := [_,_,_]) rfl (nb9 rfl) (OL.nil (OT.node [5] (os := [_]) (by kernel_rfl) (by decide) rfl ⟨?_, trivial⟩))
        refine sto sz.Rat rfl rfl rfl rfl rfl (nb9 rfl) (cells2 := [_,_,_]) rfl (OL.nil (OT.node [6] (os := [_]) (by kernel_rfl) (by decide) rfl ⟨?_, trivial⟩))
        refine asD rfl (OL.nil (OT.leaf (by kernel_rfl) ?_))
        exact AW.ret (RetQ.r ⟨_, .tmp rfl (.tmp rfl (.cellA rfl rfl ag.Rat (nb9 rfl) (.tmp rfl .nil))), _, .cons (.le (vle_of_eq (by rw [a2]; rfl))) (.cons (.le (vle_of_eq (by rw [rnW_ok ha he]; rfl))) (.cons (.ag (.cons (.le (vle_of_eq (by rw [a3]))) (.cons (.le (vle_of_eq (by rw [a3]))) (.cons (.le (vle_of_eq (by rw [a3]))) .nil)))) (.cons (.le (VLe.int (by rw [a1, he]))) .nil))), rfl⟩)
      ·refine ldPA ag.Rat rfl rfl (vs := [_,_,_]) rfl (nb9 rfl) (OL.nil (OT.node [1] (os := [_]) (by kernel_rfl) (by decide) rfl ⟨?_, trivial⟩))
       refine mvD rfl (OL.nil (OT.node [4] (os := [_]) (by kernel_rfl) (by decide) rfl ⟨?_, trivial⟩))
       refine asD rfl (OL.nil (OT.node [5] (os := [_]) (by kernel_rfl) (by decide) rfl ⟨?_, trivial⟩))
       refine sto sz.Rat rfl rfl rfl rfl rfl (nb9 rfl) (cells2 := [_,_,_]) rfl (OL.nil (OT.node [6] (os := [_]) (by kernel_rfl) (by decide) rfl ⟨?_, trivial⟩))
       refine asD rfl (OL.nil (OT.leaf (by kernel_rfl) ?_))
       exact AW.ret (RetQ.r ⟨_, .tmp rfl (.tmp rfl (.cellA rfl rfl ag.Rat (nb9 rfl) (.tmp rfl .nil))), _, .cons (.le (vle_of_eq (by rw [a2]; rfl))) (.cons (.le (vle_of_eq (by rw [rnW_ok ha he]; rfl))) (.cons (.ag (.cons (.le (vle_of_eq (by rw [a3]))) (.cons (.le (vle_of_eq (by rw [a3]))) (.cons (.le (vle_of_eq (by rw [a3]))) .nil)))) (.cons (.le (VLe.int (by rw [a1, he]))) .nil))), rfl⟩)
    ·refine mvD rfl (OL.nil (OT.node [0, 2] (os := [_,_]) (by kernel_rfl) (by decide) rfl ⟨?_, ?_, trivial⟩))
     ·refine mvD rfl (OL.nil (OT.node [2, 3] (os := [_,_]) (by kernel_rfl) (by decide) rfl ⟨?_, ?_, trivial⟩))
      ·refine ldPA ag.Rat rfl rfl (vs := [_,_,_]) rfl (nb9 rfl) (OL.nil (OT.node [3] (os := [_]) (by kernel_rfl) (by decide) rfl ⟨?_, trivial⟩))
       refine asD rfl (OL.nil (OT.node [4] (os := [_]) (by kernel_rfl) (by decide) rfl ⟨?_, trivial⟩))
       refine asD rfl (OL.nil (OT.node [5] (os := [_]) (by kernel_rfl) (by decide) rfl ⟨?_, trivial⟩))
       refine sto sz.Rat rfl rfl rfl rfl rfl (nb9 rfl) (cells2 := [_,_,_]) rfl (OL.nil (OT.node [6] (os := [_]) (by kernel_rfl) (by decide) rfl ⟨?_, trivial⟩))
       refine asD rfl (OL.nil (OT.leaf (by kernel_rfl) ?_))
       exact AW.ret (RetQ.r ⟨_, .tmp rfl (.tmp rfl (.cellA rfl rfl ag.Rat (nb9 rfl) (.tmp rfl .nil))), _, .cons (.le (vle_of_eq (by rw [a2]; rfl))) (.cons (.le (vle_of_eq (by rw [rnW_ok ha he]; rfl))) (.cons (.ag (.cons (.le (vle_of_eq (by rw [a3]))) (.cons (.le (vle_of_eq (by rw [a3]))) (.cons (.le (vle_of_eq (by rw [a3]))) .nil)))) (.cons (.le (VLe.int (by rw [a1, he]))) .nil))), rfl⟩)
      ·refine asD rfl (OL.nil (OT.node [2, 4] (os := [_,_]) (by kernel_rfl) (by decide) rfl ⟨?_, ?_, trivial⟩))
       ·refine ldPA ag.Rat rfl rfl (vs := [_,_,_]) rfl (nb9 rfl) (OL.nil (OT.node [4] (os := [_]) (by kernel_rfl) (by decide) rfl ⟨?_, trivial⟩))
        refine asD rfl (OL.nil (OT.node [5] (os := [_]) (by kernel_rfl) (by decide) rfl ⟨?_, trivial⟩))
        refine sto sz.Rat rfl rfl rfl rfl rfl (nb9 rfl) (cells2 := [_,_,_]) rfl (OL.nil (OT.node [6] (os := [_]) (by kernel_rfl) (by decide) rfl ⟨?_, trivial⟩))
        refine asD rfl (OL.nil (OT.leaf (by kernel_rfl) ?_))
        exact AW.ret (RetQ.r ⟨_, .tmp rfl (.tmp rfl (.cellA rfl rfl ag.Rat (nb9 rfl) (.tmp rfl .nil))), _, .cons (.le (vle_of_eq (by rw [a2]; rfl))) (.cons (.le (vle_of_eq (by rw [rnW_ok ha he]; rfl))) (.cons (.ag (.cons (.le (vle_of_eq (by rw [a3]))) (.cons (.le (vle_of_eq (by rw [a3]))) (.cons (.le (vle_of_eq (by rw [a3]))) .nil)))) (.cons (.le (VLe.int (by rw [a1, he]))) .nil))), rfl⟩)
       ·refine asD rfl (OL.nil (OT.node [2] (os := [_]) (by kernel_rfl) (by decide) rfl ⟨?_, trivial⟩))
        refine ldPA ag.Rat rfl rfl (vs := [_,_,_]) rfl (nb9 rfl) (OL.nil (OT.node [5] (os := [_]) (by kernel_rfl) (by decide) rfl ⟨?_, trivial⟩))
        refine sto sz.Rat rfl rfl rfl rfl rfl (nb9 rfl) (cells2 := [_,_,_]) rfl (OL.nil (OT.node [6] (os := [_]) (by kernel_rfl) (by decide) rfl ⟨?_, trivial⟩))
        refine asD rfl (OL.nil (OT.leaf (by kernel_rfl) ?_))
        exact AW.ret (RetQ.r ⟨_, .tmp rfl (.tmp rfl (.cellA rfl rfl ag.Rat (nb9 rfl) (.tmp rfl .nil))), _, .cons (.le (vle_of_eq (by rw [a2]; rfl))) (.cons (.le (vle_of_eq (by rw [rnW_ok ha he]; rfl))) (.cons (.ag (.cons (.le (vle_of_eq (by rw [a3]))) (.cons (.le (vle_of_eq (by rw [a3]))) (.cons (.le (vle_of_eq (by rw [a3]))) .nil)))) (.cons (.le (VLe.int (by rw [a1, he]))) .nil))), rfl⟩)
     ·refine ldPA ag.Rat rfl rfl (vs := [_,_,_]) rfl (nb9 rfl) (OL.nil (OT.node [0] (os := [_]) (by kernel_rfl) (by decide) rfl ⟨?_, trivial⟩))
      refine mvD rfl (OL.nil (OT.node [3] (os := [_]) (by kernel_rfl) (by decide) rfl ⟨?_, trivial⟩))
      refine asD rfl (OL.nil (OT.node [4] (os := [_]) (by kernel_rfl) (by decide) rfl ⟨?_, trivial⟩))
      refine asD rfl (OL.nil (OT.node [5] (os := [_]) (by kernel_rfl) (by decide) rfl ⟨?_, trivial⟩))
      refine sto sz.Rat rfl rfl rfl rfl rfl (nb9 rfl) (cells2 := [_,_,_]) rfl (OL.nil (OT.node [6] (os := [_]) (by kernel_rfl) (by decide) rfl ⟨?_, trivial⟩))
      refine asD rfl (OL.nil (OT.leaf (by kernel_rfl) ?_))
      exact AW.ret (RetQ.r ⟨_, .tmp rfl (.tmp rfl (.cellA rfl rfl ag.Rat (nb9 rfl) (.tmp rfl .nil))), _, .cons (.le (vle_of_eq (by rw [a2]; rfl))) (.cons (.le (vle_of_eq (by rw [rnW_ok ha he]; rfl))) (.cons (.ag (.cons (.le (vle_of_eq (by rw [a3]))) (.cons (.le (vle_of_eq (by rw [a3]))) (.cons (.le (vle_of_eq (by rw [a3]))) .nil)))) (.cons (.le (VLe.int (by rw [a1, he]))) .nil))), rfl⟩)
    ·refine ldPA ag.Rat rfl rfl (vs := [_,_,_]) rfl (nb9 rfl) (OL.nil (OT.node [0, 1] (os := [_,_]) (by kernel_rfl) (by decide) rfl ⟨?_, ?_, trivial⟩))
     ·refine mvD rfl (OL.nil (OT.node [1, 3] (os := [_,_]) (by kernel_rfl) (by decide) rfl ⟨?_, ?_, trivial⟩))
      ·refine mvD rfl (OL.nil (OT.node [3] (os := [_]) (by kernel_rfl) (by decide) rfl ⟨?_, trivial⟩))
       refine asD rfl (OL.nil (OT.node [4] (os := [_]) (by kernel_rfl) (by decide) rfl ⟨?_, trivial⟩))
       refine asD rfl (OL.nil (OT.node [5] (os := [_]) (by kernel_rfl) (by decide) rfl ⟨?_, trivial⟩))
       refine sto sz.Rat rfl rfl rfl rfl rfl (nb9 rfl) (cells2 := [_,_,_]) rfl (OL.nil (OT.node [6] (os := [_]) (by kernel_rfl) (by decide) rfl ⟨?_, trivial⟩))
       refine asD rfl (OL.nil (OT.leaf (by kernel_rfl) ?_))
       exact AW.ret (RetQ.r ⟨_, .tmp rfl (.tmp rfl (.cellA rfl rfl ag.Rat (nb9 rfl) (.tmp rfl .nil))), _, .cons (.le (vle_of_eq (by rw [a2]; rfl))) (.cons (.le (vle_of_eq (by rw [rnW_ok ha he]; rfl))) (.cons (.ag (.cons (.le (vle_of_eq (by rw [a3]))) (.cons (.le (vle_of_eq (by rw [a3]))) (.cons (.le (vle_of_eq (by rw [a3]))) .nil)))) (.cons (.le (VLe.int (by rw [a1, he]))) .nil))), rfl⟩)
      ·refine asD rfl (OL.nil (OT.node [1] (os := [_]) (by kernel_rfl) (by decide) rfl ⟨?_, trivial⟩))
       refine mvD rfl (OL.nil (OT.node [4] (os := [_]) (by kernel_rfl) (by decide) rfl ⟨?_, trivial⟩))
       refine asD rfl (OL.nil (OT.node [5] (os := [_]) (by kernel_rfl) (by decide) rfl ⟨?_, trivial⟩))
       refine sto sz.Rat rfl rfl rfl rfl rfl (nb9 rfl) (cells2 := [_,_,_]) rfl (OL.nil (OT.node [6] (os := [_]) (by kernel_rfl) (by decide) rfl ⟨?_, trivial⟩))
       refine asD rfl (OL.nil (OT.leaf (by kernel_rfl) ?_))
       exact AW.ret (RetQ.r ⟨_, .tmp rfl (.tmp rfl (.cellA rfl rfl ag.Rat (nb9 rfl) (.tmp rfl .nil))), _, .cons (.le (vle_of_eq (by rw [a2]; rfl))) (.cons (.le (vle_of_eq (by rw [rnW_ok ha he]; rfl))) (.cons (.ag (.cons (.le (vle_of_eq (by rw [a3]))) (.cons (.le (vle_of_eq (by rw [a3]))) (.cons (.le (vle_of_eq (by rw [a3]))) .nil)))) (.cons (.le (VLe.int (by rw [a1, he]))) .nil))), rfl⟩)
     ·refine mvD rfl (OL.nil (OT.node [0] (os := [_]) (by kernel_rfl) (by decide) rfl ⟨?_, trivial⟩))
      refine mvD rfl (OL.nil (OT.node [3] (os := [_]) (by kernel_rfl) (by decide) rfl ⟨?_, trivial⟩))
      refine asD rfl (OL.nil (OT.node [4] (os := [_]) (by kernel_rfl) (by decide) rfl ⟨?_, trivial⟩))
      refine asD rfl (OL.nil (OT.node [5] (os := [_]) (by kernel_rfl) (by decide) rfl ⟨?_, trivial⟩))
      refine sto sz.Rat rfl rfl rfl rfl rfl (nb9 rfl) (cells2 := [_,_,_]) rfl (OL.nil (OT.node [6] (os := [_]) (by kernel_rfl) (by decide) rfl ⟨?_, trivial⟩))
      refine asD rfl (OL.nil (OT.leaf (by kernel_rfl) ?_))
      exact AW.ret (RetQ.r ⟨_, .tmp rfl (.tmp rfl (.cellA rfl rfl ag.Rat (nb9 rfl) (.tmp rfl .nil))), _, .cons (.le (vle_of_eq (by rw [a2]; rfl))) (.cons (.le (vle_of_eq (by rw [rnW_ok ha he]; rfl))) (.cons (.ag (.cons (.le (vle_of_eq (by rw [a3]))) (.cons (.le (vle_of_eq (by rw [a3]))) (.cons (.le (vle_of_eq (by rw [a3]))) .nil)))) (.cons (.le (VLe.int (by rw [a1, he]))) .nil))), rfl⟩)
set_option maxRecDepth 8000 in
set_option maxHeartbeats 3200000 in
theorem ref37_RunE {h : RM} {w : List Int} (zz : h.Sz) (nw : w.length ≤ 1048576) (n : ¬ wrdE h w = 0) : FSpec P F.ref37_Run [vRM h, .d (ints w)] (.tup [.d (ints []), .d (ints []), vQ 0, .d (dI (wrdE h w))]) := by
 refine FSpec.intro fn.ref37_Run (by rfl) (by rfl) (nb9 (by rfl)) fun E hE => (AW.sg hE rfl (bxA rfl rfl fun b2 => (asM rfl (asM rfl (al z.Rat rfl fun b6 => (asD rfl (OL.nil ?_)))))))
 refine AW.seq (AW.sg hE rfl (ldPA ag.Hidden rfl rfl (vs := [_,_,_,_,_,_,_,_,_,_,_]) rfl (nb9 rfl) (mvD rfl (clv rfl (.cons (VLe.refl _) (.cons (VLe.refl _) (.nil))) (ref34_CheckR zz nw) (asD rfl (OL.nil (AW.sg hE rfl ?_)))))))
 refine mvD rfl (c_neq rfl rfl (c := true) (by simpa using n) (OL.nil (AW.cond rfl (fun _ => ?_) (fun hno => absurd hno (by decide)))))
 refine AW.sg hE rfl (bd z.Rat pl.Rat (cs := [_,_,_]) rfl (mvD rfl (asM rfl (asM rfl (sto sz.Rat rfl rfl rfl rfl rfl (nb9 rfl) (cells2 := [_,_,_]) rfl (asD rfl (OL.nil ?_)))))))
 exact AW.ret (RetQ.r ⟨_, .tmp rfl (.tmp rfl (.cellA rfl rfl ag.Rat (nb9 rfl) (.tmp rfl .nil))), _, .cons (.le (VLe.mt)) (.cons (.le (VLe.mt)) (.cons (.ag (.cons (.le (by rw [ofQ_zero]; exact VLe.refl _)) (.cons (.le (by rw [ofQ_zero]; exact VLe.mt)) (.cons (.le (by rw [ofQ_zero]; exact VLe.mt)) .nil)))) (.cons (.le (VLe.refl _)) .nil))), rfl⟩)
theorem on_RunA {h : RM} {w : List Int} (zz : h.Sz) (nw : w.length ≤ 1048576) : FSpec P F.online_Run [vRM h, .d (ints w)] (.tup [.d (ints (rwP h w)), .d (ints (rwW h w)), vQ (rwQ h w), .d (dI (rwE h w))]) := by
 by_cases e : wrdE h w = 0
 ·obtain ⟨e1, e2, e3, e4⟩ := rw_yes e
  obtain ⟨c, kw⟩ := wrdE_ok e
  obtain ⟨g, hv⟩ := chkP_good zz c
  have hop := on_OpenR zz
  rw [show opH h = hm h from if_pos c, c, hv] at hop
  rw [e1, e2, e3, e4, hv]
  exact on_RunV g hop kw
 ·obtain ⟨e1, e2, e3, e4⟩ := rw_no e
  rw [e1, e2, e3, e4]
  exact on_RunE zz nw e
theorem ref37_RunA {h : RM} {w : List Int} (zz : h.Sz) (nw : w.length ≤ 1048576) : FSpec P F.ref37_Run [vRM h, .d (ints w)] (.tup [.d (ints (rwP h w)), .d (ints (rwW h w)), vQ (rwQ h w), .d (dI (rwE h w))]) := by
 by_cases e : wrdE h w = 0
 ·obtain ⟨e1, e2, e3, e4⟩ := rw_yes e
  obtain ⟨c, kw⟩ := wrdE_ok e
  obtain ⟨g, hv⟩ := chkP_good zz c
  have hop := ref37_OpenR zz
  have hck := ref34_CheckR zz nw
  have hp := ref33_PlainR zz
  rw [show opH h = hm h from if_pos c, c, hv] at hop
  rw [e, hv] at hck
  rw [hv, decide_eq_true c] at hp
  rw [e1, e2, e3, e4, hv]
  exact ref37_RunV g hp hck hop kw
 ·obtain ⟨e1, e2, e3, e4⟩ := rw_no e
  rw [e1, e2, e3, e4]
  exact ref37_RunE zz nw e
end Go.Proofs.YtjghehkgmanmbaaGreat
