/-
  Walks of package automaton: the order of arcs, sorting (printed by mk2.py).
-/
import Derived.Test.YtfbblpngcmjooaaGreatDoorKWkA
set_option linter.unusedVariables false
set_option linter.unusedSimpArgs false
namespace Go.Proofs.YtfbblpngcmjooaaGreatDoor
open Go Go.AL
abbrev vAlg:V:=.ag [.fn F.semiring_rationals_1 [],.fn F.semiring_rationals_2 [],.fn F.semiring_rationals_3 [],.fn F.semiring_rationals_4 [],.fn F.semiring_rationals_5 [],.fn F.semiring_quotient [],.fn F.semiring_never [],.fn F.semiring_rationals_6 [],.fn F.semiring_readNumber []]
theorem rationals  : FSpec P F.semiring_rationals [] (vAlg):=by
 refine FSpec.intro fn.semiring_rationals (by rfl) (by rfl) (nb9 (by rfl)) fun E hE=>(AW.sg hE rfl (al z.algebra rfl fun b0=>(OL.nil (AW.sg hE rfl ?_))))
 refine bd2 (cs:=[_,_,_,_,_,_,_,_,_]) z.algebra pl.algebra (pvC (by exact evF rfl) (pvC (by exact evF rfl) (pvC (by exact evF rfl) (pvC (by exact evF rfl) (pvC (by exact evF rfl) (pvC (by exact evF rfl) (pvC (by exact evF rfl) (pvC (by exact evF rfl) (pvC (by exact evF rfl) (pvN)))))))))) (by rfl) ?_
 refine sto sz.algebra rfl rfl rfl rfl rfl (nb9 rfl) (cells2:=[_,_,_,_,_,_,_,_,_]) rfl (OL.nil ?_)
 exact AW.ret (RetQ.r ⟨_,.cellA rfl rfl ag.algebra (nb9 rfl) .nil,.ag (.cons (.le vR) (.cons (.le vR) (.cons (.le vR) (.cons (.le vR) (.cons (.le vR) (.cons (.le vR) (.cons (.le vR) (.cons (.le vR) (.cons (.le vR) .nil)))))))))⟩)
theorem kindR  : FSpec P F.semiring_kind [.d (dI 1)] (vAlg):=by
 refine FSpec.intro fn.semiring_kind (by rfl) (by rfl) (nb9 (by rfl)) fun E hE=>(AW.sg hE rfl (al z.algebra rfl fun b2=>(OL.nil (AW.seq (AW.sg hE rfl (mvD rfl (OL.nil ?_)))))))
 refine AW.block (AW.sg hE rfl (c_eql rfl rfl (c:=true) (by exact decide_eq_true (by omega)) (asD rfl (OL.nil (AW.cond rfl (fun _=>?_) (fun hno=>absurd hno (by decide)))))))
 refine AW.sg hE rfl (clv rfl (.nil) (rationals) (sto sz.algebra rfl rfl rfl rfl rfl (nb9 rfl) (cells2:=[_,_,_,_,_,_,_,_,_]) rfl (OL.nil ?_)))
 exact AW.ret (RetQ.r ⟨_,.cellA rfl rfl ag.algebra (nb9 rfl) .nil,.ag (.cons (.le vR) (.cons (.le vR) (.cons (.le vR) (.cons (.le vR) (.cons (.le vR) (.cons (.le vR) (.cons (.le vR) (.cons (.le vR) (.cons (.le vR) .nil)))))))))⟩)
theorem single1  : FSpec P F.semiring_single [.d (dI 1)] (.d (dB true)):=by
 refine FSpec.intro fn.semiring_single (by rfl) (by rfl) (nb9 (by rfl)) fun E hE=>(AW.sg hE rfl (asD rfl (OL.nil (AW.sg hE rfl (mvD rfl (c_geq rfl rfl (c:=true) (by exact decide_eq_true (by omega)) (mvD rfl ?_)))))))
 exact OL.yes rfl (mvD rfl (OL.yes rfl (c_leq rfl rfl (c:=true) (by exact decide_eq_true (by omega)) (pkT rfl rfl (asD rfl (OL.nil (AW.ret (RetQ.r ⟨_,.tmp rfl .nil,.le vR⟩))))))))
theorem validR  : FSpec P F.semiring_Valid [vRing] (.d (dB true)):=by
 refine FSpec.intro fn.semiring_Valid (by rfl) (by rfl) (nb9 (by rfl)) fun E hE=>(AW.sg hE rfl (bxA rfl rfl fun b1=>(asD rfl (OL.nil (AW.seq (AW.sg hE rfl (faP fd.Ring_0 rfl rfl ?_)))))))
 refine ldPC ce.int rfl rfl rfl (c_neq rfl rfl (c:=true) (by exact cne_t (by omega)) (OL.nil (AW.cond rfl (fun _=>?_) (fun hno=>absurd hno (by decide)))))
 refine AW.sg hE rfl (faP fd.Ring_0 rfl rfl (ldPC ce.int rfl rfl rfl (clv rfl .rq1 (single1) (mvD rfl (OL.yes rfl (faP fd.Ring_1 rfl rfl (OL.yes rfl ?_)))))))
 refine ldPC ce.ints rfl rfl rfl (OL.yes rfl (lnD sl.ints rfl rfl rfl (OL.yes rfl (c_eql rfl rfl (c:=true) (decide_eq_true rfl) (pkT rfl rfl (asD rfl (OL.nil ?_)))))))
 exact AW.ret (RetQ.r ⟨_,.tmp rfl .nil,.le vR⟩)
theorem checkQ {q:Rat}(hz:sz q≤68719476736):FSpec P F.semiring_rationals_1 [vW q] (.d (dB true)):=by
 refine FSpec.intro fn.semiring_rationals_1 (by rfl) (by rfl) (nb9 (by rfl)) fun E hE=>(AW.sg hE rfl (bxA rfl rfl fun b1=>(asD rfl (OL.nil (AW.sg hE rfl (faP fd.Weight_0 rfl rfl (ldPA ag.Rat rfl rfl (vs:=[_,_,_]) rfl (nb9 rfl) ?_)))))))
 refine clv rfl .rq1 (rational_ValidQ (by omega)) (mvD rfl (OL.yes rfl (ldPA ag.Weight rfl rfl (vs:=[_,_,_,_,_,_,_,_]) rfl (nb9 rfl) (OL.yes rfl (faP fd.Weight_0 rfl rfl (OL.yes rfl (ldPA ag.Rat rfl rfl (vs:=[_,_,_]) rfl (nb9 rfl) ?_)))))))
 exact OL.yes rfl (bd z.Weight pl.Weight (cs:=[_,_,_,_,_,_,_,_]) rfl (OL.yes rfl (clv rfl (.cons vR (.cons (vle_wq) .nil)) (equalW hz hz) (pkT rfl rfl (asD rfl (OL.nil (AW.ret (RetQ.r ⟨_,.tmp rfl .nil,.le (VLe.bool (decide_eq_true rfl))⟩))))))))
theorem zeroQ  : FSpec P F.semiring_rationals_2 [] (vW 0):=by
 refine FSpec.intro fn.semiring_rationals_2 (by rfl) (by rfl) (nb9 (by rfl)) fun E hE=>(AW.sg hE rfl (al z.Weight rfl fun b0=>(OL.nil (AW.sg hE rfl (bd z.Weight pl.Weight (cs:=[_,_,_,_,_,_,_,_]) rfl (sto sz.Weight rfl rfl rfl rfl rfl (nb9 rfl) (cells2:=[_,_,_,_,_,_,_,_]) rfl (OL.nil ?_)))))))
 exact AW.ret (RetQ.r ⟨_,.cellA rfl rfl ag.Weight (nb9 rfl) .nil,.le vle_w0⟩)
theorem plusQ {p q:Rat}(hp:sz p≤68719476736)(hq:sz q≤68719476736):FSpec P F.semiring_rationals_4 [vW p,vW q] (vW (p+q)):=by
 refine FSpec.intro fn.semiring_rationals_4 (by rfl) (by rfl) (nb9 (by rfl)) fun E hE=>(AW.sg hE rfl (bxA rfl rfl fun b2=>(bxA rfl rfl fun b3=>(al z.Weight rfl fun b4=>(OL.nil (AW.sg hE rfl (faP fd.Weight_0 rfl rfl ?_)))))))
 exact ldPA ag.Rat rfl rfl (vs:=[_,_,_]) rfl (nb9 rfl) (faP fd.Weight_0 rfl rfl (ldPA ag.Rat rfl rfl (vs:=[_,_,_]) rfl (nb9 rfl) (clv rfl .rq2 (rational_AddQ (by assumption) (by assumption)) (bd z.Weight pl.Weight (cs:=[_,_,_,_,_,_,_,_]) rfl (sto sz.Weight rfl rfl rfl rfl rfl (nb9 rfl) (cells2:=[_,_,_,_,_,_,_,_]) rfl (OL.nil (AW.ret (RetQ.r ⟨_,.cellA rfl rfl ag.Weight (nb9 rfl) .nil,.le vle_wq⟩))))))))
theorem checkR {q:Rat}(hz:sz q≤68719476736):FSpec P F.semiring_Check [vRing,vW q] (.d (dB true)):=by
 refine FSpec.intro fn.semiring_Check (by rfl) (by rfl) (nb9 (by rfl)) fun E hE=>(AW.sg hE rfl (bxA rfl rfl fun b2=>(bxA rfl rfl fun b3=>(asD rfl (OL.nil (AW.seq (AW.sg hE rfl ?_)))))))
 refine ldPA ag.Ring rfl rfl (vs:=[_,_]) rfl (nb9 rfl) (clv rfl .rq1 (validR) (nt rfl (OL.nil (AW.cond rfl (fun hno=>absurd hno (by decide)) (fun _=>?_)))))
 refine AW.skip (AW.seq (AW.sg hE rfl (faP fd.Ring_0 rfl rfl (ldPC ce.int rfl rfl rfl (c_neq rfl rfl (c:=true) (by exact decide_eq_true (by omega)) (OL.nil (AW.cond rfl (fun _=>?_) (fun hno=>absurd hno (by decide)))))))))
 refine AW.seq (AW.dg 1 [0,1,2,3,4,5,6] order_free hE rfl (by kernel_rfl) (OI.of_OL (os:=[_,_,_,_,_,_,_]) rfl ?_))
 refine faP fd.Ring_0 rfl rfl (ldPC ce.int rfl rfl rfl (clv rfl .rq1 (kindR) (fdC fc.algebra_0 rfl rfl (ldPA ag.Weight rfl rfl (vs:=[_,_,_,_,_,_,_,_]) rfl (nb9 rfl) (clv rfl (VLes.refl _) (checkQ hz) (asD rfl (OL.nil ?_)))))))
 exact AW.ret (RetQ.r ⟨_,.tmp rfl .nil,.le vR⟩)
theorem ZeroR  : FSpec P F.semiring_Zero [vRing] (vW 0):=by
 refine FSpec.intro fn.semiring_Zero (by rfl) (by rfl) (nb9 (by rfl)) fun E hE=>(AW.sg hE rfl (bxA rfl rfl fun b1=>(al z.Weight rfl fun b2=>(OL.nil (AW.seq (AW.block (AW.sg hE rfl ?_)))))))
 refine ldPA ag.Ring rfl rfl (vs:=[_,_]) rfl (nb9 rfl) (clv rfl .rq1 (validR) (nt rfl (asD rfl (OL.nil (AW.cond rfl (fun hno=>absurd hno (by decide)) (fun _=>?_))))))
 refine AW.sg hE rfl (faP fd.Ring_0 rfl rfl (ldPC ce.int rfl rfl rfl (c_neq rfl rfl (c:=true) (by exact decide_eq_true (by omega)) (asD rfl (OL.nil (AW.cond rfl (fun _=>?_) (fun hno=>absurd hno (by decide))))))))
 refine AW.sg hE rfl (faP fd.Ring_0 rfl rfl (ldPC ce.int rfl rfl rfl (clv rfl .rq1 (kindR) (fdC fc.algebra_1 rfl rfl (clv rfl (.nil) (zeroQ) (sto sz.Weight rfl rfl rfl rfl rfl (nb9 rfl) (cells2:=[_,_,_,_,_,_,_,_]) rfl (OL.nil ?_)))))))
 exact AW.ret (RetQ.r ⟨_,.cellA rfl rfl ag.Weight (nb9 rfl) .nil,.ag (.cons (.le vR) (.cons (.le vR) (.cons (.le vR) (.cons (.le vR) (.cons (.le vR) (.cons (.le vR) (.cons (.le vR) (.cons (.le vR) .nil))))))))⟩)
theorem valueR {q:Rat}(hz:sz q≤68719476736):FSpec P F.semiring_value [vRing,vW q] (vW q):=by
 refine FSpec.intro fn.semiring_value (by rfl) (by rfl) (nb9 (by rfl)) fun E hE=>(AW.sg hE rfl (bxA rfl rfl fun b2=>(bxA rfl rfl fun b3=>(al z.Weight rfl fun b4=>(OL.nil (AW.seq (AW.sg hE rfl ?_)))))))
 refine ldPA ag.Ring rfl rfl (vs:=[_,_]) rfl (nb9 rfl) (ldPA ag.Weight rfl rfl (vs:=[_,_,_,_,_,_,_,_]) rfl (nb9 rfl) (clv rfl .rq2 (checkR hz) (OL.nil (AW.cond rfl (fun _=>?_) (fun hno=>absurd hno (by decide))))))
 refine AW.sg hE rfl (ldPA ag.Weight rfl rfl (vs:=[_,_,_,_,_,_,_,_]) rfl (nb9 rfl) (sto sz.Weight rfl rfl rfl rfl rfl (nb9 rfl) (cells2:=[_,_,_,_,_,_,_,_]) rfl (OL.nil ?_)))
 exact AW.ret (RetQ.r ⟨_,.cellA rfl rfl ag.Weight (nb9 rfl) .nil,.ag (.cons (.le vR) (.cons (.le vR) (.cons (.le vR) (.cons (.le vR) (.cons (.le vR) (.cons (.le vR) (.cons (.le vR) (.cons (.le vR) .nil))))))))⟩)
theorem PlusR {p q:Rat}(hp:sz p≤68719476736)(hq:sz q≤68719476736):FSpec P F.semiring_Plus [vRing,vW p,vW q] (vW (p+q)):=by
 refine FSpec.intro fn.semiring_Plus (by rfl) (by rfl) (nb9 (by rfl)) fun E hE=>(AW.sg hE rfl (bxA rfl rfl fun b3=>(bxA rfl rfl fun b4=>(bxA rfl rfl fun b5=>(al z.Weight rfl fun b6=>(OL.nil (AW.seq ?_)))))))
 refine AW.sg hE rfl (ldPA ag.Ring rfl rfl (vs:=[_,_]) rfl (nb9 rfl) (clv rfl .rq1 (validR) (nt rfl (OL.nil (AW.cond rfl (fun hno=>absurd hno (by decide)) (fun _=>?_))))))
 refine AW.skip (AW.seq (AW.dg 1 [0,1,2,3,4,5,6,7] order_free hE rfl (by kernel_rfl) (OI.of_OL (os:=[_,_,_,_,_,_,_,_]) rfl ?_)))
 refine ldPA ag.Ring rfl rfl (vs:=[_,_]) rfl (nb9 rfl) (ldPA ag.Weight rfl rfl (vs:=[_,_,_,_,_,_,_,_]) rfl (nb9 rfl) (clv rfl .rq2 (valueR (by assumption)) (ldPA ag.Ring rfl rfl (vs:=[_,_]) rfl (nb9 rfl) (ldPA ag.Weight rfl rfl (vs:=[_,_,_,_,_,_,_,_]) rfl (nb9 rfl) (clv rfl .rq2 (valueR (by assumption)) (sto sz.Weight rfl rfl rfl rfl rfl (nb9 rfl) (cells2:=[_,_,_,_,_,_,_,_]) rfl (sto sz.Weight rfl rfl rfl rfl rfl (nb9 rfl) (cells2:=[_,_,_,_,_,_,_,_]) rfl ?_)))))))
 refine OL.nil (AW.seq (AW.sg hE rfl (faP fd.Ring_0 rfl rfl (ldPC ce.int rfl rfl rfl (c_neq rfl rfl (c:=true) (by exact decide_eq_true (by omega)) (OL.nil (AW.cond rfl (fun _=>?_) (fun hno=>absurd hno (by decide)))))))))
 refine AW.seq (AW.dg 1 [0,1,2,3,4,5,6,7] order_free hE rfl (by kernel_rfl) (OI.of_OL (os:=[_,_,_,_,_,_,_,_]) rfl ?_))
 refine faP fd.Ring_0 rfl rfl (ldPC ce.int rfl rfl rfl (clv rfl .rq1 (kindR) (fdC fc.algebra_3 rfl rfl (ldPA ag.Weight rfl rfl (vs:=[_,_,_,_,_,_,_,_]) rfl (nb9 rfl) (ldPA ag.Weight rfl rfl (vs:=[_,_,_,_,_,_,_,_]) rfl (nb9 rfl) (clv rfl (VLes.refl _) (plusQ hp hq) (sto sz.Weight rfl rfl rfl rfl rfl (nb9 rfl) (cells2:=[_,_,_,_,_,_,_,_]) rfl ?_)))))))
 refine OL.nil ?_
 exact AW.ret (RetQ.r ⟨_,.cellA rfl rfl ag.Weight (nb9 rfl) .nil,.ag (.cons (.le vR) (.cons (.le vR) (.cons (.le vR) (.cons (.le vR) (.cons (.le vR) (.cons (.le vR) (.cons (.le vR) (.cons (.le vR) .nil))))))))⟩)
theorem IsZeroR {q:Rat}(hz:sz q≤68719476736):FSpec P F.automaton_IsZero [vRing,vW q] (.d (dB (decide (q=0)))):=by
 have h0K:=z0K
 refine FSpec.intro fn.automaton_IsZero (by rfl) (by rfl) (nb9 (by rfl)) fun E hE=>(AW.sg hE rfl (bxA rfl rfl fun b2=>(bxA rfl rfl fun b3=>(asD rfl (OL.nil (AW.seq (AW.dg 1 [0,1,2,3,4] order_free hE rfl (by kernel_rfl) (OI.of_OL (os:=[_,_,_,_,_]) rfl ?_))))))))
 exact ldPA ag.Weight rfl rfl (vs:=[_,_,_,_,_,_,_,_]) rfl (nb9 rfl) (ldPA ag.Ring rfl rfl (vs:=[_,_]) rfl (nb9 rfl) (clv rfl .rq1 (ZeroR) (clv rfl .rq2 (equalW hz h0K) (asD rfl (OL.nil (AW.ret (RetQ.r ⟨_,.tmp rfl .nil,.le vR⟩)))))))
def cmpI (a b:Int):Int:=if a<b then -1 else if b<a then 1 else 0
theorem cmpL_drop {l m:List Int}{i:Nat}(h1:i<l.length)(h2:i<m.length):cmpL (l.drop i) (m.drop i)=if cmpI (l.getD i 0) (m.getD i 0)=0 then cmpL (l.drop (i+1)) (m.drop (i+1)) else cmpI (l.getD i 0) (m.getD i 0):=by
 have e1:l.getD i 0=l[i]:=by rw [gd9,ge9 h1];rfl
 have e2:m.getD i 0=m[i]:=by rw [gd9,ge9 h2];rfl
 rw [List.drop_eq_getElem_cons h1,List.drop_eq_getElem_cons h2,cmpL,e1,e2]
 unfold cmpI
 by_cases a:l[i]<m[i]
 ·rw [if_pos a,if_pos a,if_neg (by decide)]
 ·rw [if_neg a,if_neg a]
  by_cases b:m[i]<l[i]
  ·rw [if_pos b,if_pos b,if_neg (by decide)]
  ·rw [if_neg b,if_neg b,if_pos rfl]
theorem cmp_isNaN_int {x:Int}:FSpec P F.cmp_isNaN_int [.d (dI x)] (.d (dB false)):=by
 refine FSpec.intro fn.cmp_isNaN_int (by rfl) (by rfl) (nb9 (by rfl)) fun E hE=>(AW.sg hE rfl (asD rfl (OL.nil (AW.sg hE rfl (mvD rfl (mvD rfl (c_neq rfl rfl rfl ?_)))))))
 exact asD rfl (OL.nil (AW.ret (RetQ.r ⟨_,.tmp rfl .nil,.le (VLe.bool (by simp_all))⟩)))
theorem cmp_Compare_int {x y:Int}:FSpec P F.cmp_Compare_int [.d (dI x),.d (dI y)] (.d (dI (cmpI x y))):=by
 refine FSpec.intro fn.cmp_Compare_int (by rfl) (by rfl) (nb9 (by rfl)) fun E hE=>(AW.sg hE rfl (asD rfl (OL.nil (AW.sg hE rfl (mvD rfl (clv rfl (VLes.refl _) (cmp_isNaN_int) (asD rfl ?_)))))))
 refine OL.nil (AW.sg hE rfl (mvD rfl (clv rfl (VLes.refl _) (cmp_isNaN_int) (asD rfl (OL.nil (AW.seq (AW.sg hE rfl ?_)))))))
 refine mvD rfl (OL.nil (AW.cond rfl (fun hno=>absurd hno (by decide)) (fun _=>?_)))
 refine AW.skip (AW.seq (AW.sg hE rfl (mvD rfl (OL.nil (AW.cond rfl (fun hno=>absurd hno (by decide)) (fun _=>?_))))))
 refine AW.skip (AW.seq (AW.sg hE rfl (mvD rfl (mvD rfl (c_lss rfl rfl rfl (OL.nil (AW.cond rfl (fun h1=>?_) (fun h1=>?_))))))))
 ·have h1:=of_decide_eq_true h1
  exact AW.sg hE rfl (asD rfl (OL.nil (AW.ret (RetQ.r ⟨_,.tmp rfl .nil,.le (VLe.int ((if_pos h1).symm))⟩))))
 ·have h1:=of_decide_eq_false h1
  refine AW.skip (AW.seq (AW.sg hE rfl (mvD rfl (mvD rfl (c_gtr rfl rfl rfl (OL.nil (AW.cond rfl (fun h2=>?_) (fun h2=>?_))))))))
  ·have h2:=of_decide_eq_true h2
   exact AW.sg hE rfl (asD rfl (OL.nil (AW.ret (RetQ.r ⟨_,.tmp rfl .nil,.le (VLe.int (by unfold cmpI;rw [if_neg h1,if_pos h2]))⟩))))
  ·have h2:=of_decide_eq_false h2
   exact AW.skip (AW.sg hE rfl (asD rfl (OL.nil (AW.ret (RetQ.r ⟨_,.tmp rfl .nil,.le (VLe.int (by unfold cmpI;rw [if_neg h1,if_neg h2]))⟩)))))
theorem clone_ints {l:List Int}(nl:l.length≤1099511627776):FSpec P F.slices_Clone_ints_int [.d (ints l)] (.d (ints l)):=by
 refine FSpec.intro fn.slices_Clone_ints_int (by rfl) (by rfl) (nb9 (by rfl)) fun E hE=>(AW.sg hE rfl (asM rfl (OL.nil (AW.seq (AW.sg hE rfl (mvD rfl (isNil sl.ints.u rfl (fun y hy=>by obtain ⟨a,_,rfl⟩:=List.mem_map.1 hy;exact Nat.succ_pos _) rfl fun b hb=>?_)))))))
 refine OL.nil (AW.cond rfl (fun h=>?_) (fun h=>?_))
 ·have hL:l=[]:=by have:=hb h;simpa using this
  exact AW.sg hE rfl (asM rfl (OL.nil (AW.ret (RetQ.r ⟨_,.tmp rfl .nil,.le (hL ▸ VLe.mt)⟩))))
 ·have _h:=h
  exact AW.skip (AW.sg hE rfl (lt0 sl.ints (mvD rfl (apMD sl.ints rfl rfl (VC.d _) (fun y hy=>by obtain ⟨a,_,rfl⟩:=List.mem_map.1 hy;rfl) (by simp;omega) (by simp;omega) (asD rfl (OL.nil (AW.ret (RetQ.r ⟨_,.tmp rfl .nil,.le vR⟩))))))))
theorem clone_intsR {l:List Int}(nl:l.length≤1099511627776):FSpecR P F.slices_Clone_ints_int [.d (ints l)] l.length T.int 1 (l.map dI):=by
 refine FSpecR.intro fn.slices_Clone_ints_int (by rfl) (by rfl) (nb9 (by rfl)) 2 rfl fun E hE=>(AW.sg hE rfl (asM rfl (OL.nil (AW.seq (AW.sg hE rfl (mvD rfl (isNil sl.ints.u rfl (fun y hy=>by obtain ⟨a,_,rfl⟩:=List.mem_map.1 hy;exact Nat.succ_pos _) rfl fun b hb=>?_)))))))
 refine OL.nil (AW.cond rfl (fun h=>?_) (fun h=>?_))
 ·have hL:l=[]:=by have:=hb h;simpa using this
  subst hL
  exact AW.sg hE rfl (asM rfl (OL.nil (AW.own 2 99 T.int 1 rfl rfl (AW.ret ⟨.inr rfl,99,0,0,[],rfl,rfl,Nat.le_refl _,rfl⟩))))
 ·have _h:=h
  exact AW.skip (AW.sg hE rfl (lt0 sl.ints (mvD rfl (apM sl.ints rfl rfl (VC.d _) dI_len (by simp;omega) (by simp;omega) rfl fun b7 c7=>(asO rfl (OL.nil (AW.ret ⟨.inr rfl,7,b7,c7,l.map dI,by show V.osl 7 b7 (List.map dI l).length c7=_;rw [lm9],rfl,by rw [lm9];exact Nat.le_refl _,List.take_of_length_le (by rw [lm9];exact Nat.le_refl _)⟩)))))))
def orL:List Int→Int
 | []=>0
 | x::r=>if x=0 then orL r else x
theorem orL_at:∀ {l:List Int} {i:Nat},i<l.length→(∀ j,j<i→l.getD j 0=0)→l.getD i 0≠0→orL l=l.getD i 0
 | x::r,0,_,_,h=>if_neg h
 | x::r,i+1,hi,hz,h=>(if_pos (hz 0 (Nat.zero_lt_succ _))).trans (orL_at (by simpa using hi) (fun j hj=>hz (j+1) (by omega)) h)
theorem orL_none:∀ {l:List Int},(∀ j,j<l.length→l.getD j 0=0)→orL l=0
 | [],_=>rfl
 | x::r,h=>(if_pos (h 0 (Nat.zero_lt_succ _))).trans (orL_none fun j hj=>h (j+1) (by simpa using hj))
theorem cmp_cI (a b:Nat):cmpI (a:Int) (b:Int)=cI a b:=by
 unfold cmpI cI
 by_cases h1:a<b
 ·rw [if_pos (by omega),if_pos h1]
 ·rw [if_neg (by omega),if_neg h1]
  by_cases h2:b<a
  ·rw [if_pos (by omega),if_pos h2]
  ·rw [if_neg (by omega),if_neg h2]
theorem ord_or (x y:Arc9):orL [cI x.f y.f,cI x.l y.l,cI x.t y.t]=ordA x y:=by
 unfold ordA
 by_cases h1:cI x.f y.f=0 <;> by_cases h2:cI x.l y.l=0 <;> by_cases h3:cI x.t y.t=0 <;> simp [orL,h1,h2,h3]
abbrev rowA (b c:Nat)(l:List Arc9):Blk:=.row b c T.Arc 11 (l.map dArc)
theorem rowA_el {l:List Arc9}{i:Nat}(hi:i<l.length):(l.map dArc)[i]? = some (dArc (l.getD i default)):=by rw [List.getElem?_map,gd9,ge9 hi];rfl
theorem vd_arc {x:Arc9}:VD (vArc x) (dArc x):=VD.ag (.cons (VC.d _) (.cons (VC.d _) (.cons (VC.d _) (.cons (VC.d _) (.cons (VC.d _) (.cons (VC.d _) (.cons (VC.d _) (.cons (VC.d _) (.cons (VC.d _) (.cons (VC.d _) (.cons (VC.d _) .nil)))))))))))
abbrev cellsArc (x:Arc9):List V:=[.d (dI x.f),.d (dI x.l),.d (dI x.t),.d (dB (ofQ x.q).neg),.d (u32s (ofQ x.q).num),.d (u32s (ofQ x.q).den),.d (dI 0),.d (dB false),.d (dU 0),.d (.sl []),.d (.sl [])]
theorem swapG_map {l:List Arc9}{j:Nat}:((l.map dArc).set (j+1) (dArc (l.getD j default))).set j (dArc (l.getD (j+1) default))=(swapG l j).map dArc:=by
 unfold swapG
 rw [List.map_set,List.map_set]
theorem arcs_len {l:List Arc9}:∀ y,y ∈ l.map dArc→y.cells.length=11:=fun y hy=>by obtain ⟨a,_,rfl⟩:=List.mem_map.1 hy;rfl
theorem cmp_OrL {l:List Int}(nl:l.length≤1099511627776):FSpec P F.cmp_Or_int [.d (ints l)] (.d (dI (orL l))):=by
 refine FSpec.intro fn.cmp_Or_int (by rfl) (by rfl) (nb9 (by rfl)) fun E hE=>(AW.sg hE rfl (asD rfl (OL.nil (AW.sg hE rfl (asD rfl (OL.nil (AW.seq ?_)))))))
 refine AW.sg hE rfl (mvD rfl (lnL sl.ints rfl rfl (mvD rfl (OL.nil (AW.block ?_)))))
 refine AW.whileK (α:=Nat) [(3,_),(6,_),(7,_)] [] (fun i=>[(8,.d (dI i))]) (fun i=>[]) (fun i=>i≤l.length∧∀ j,j<i→l.getD j 0=0) (fun i=>l.length-i) 0 (.cons (knD rfl) (.cons (knD rfl) (.cons (knD rfl) .nil))) .nil ⟨⟨Nat.zero_le _,fun j hj=>by omega⟩,.rq1,.nil⟩ ?_
 rintro i ⟨h1,h2⟩
 refine AW.sg hE rfl (c_lss rfl rfl rfl (OL.nil (AW.seq (AW.cond rfl (fun h9=>?_) (fun h9=>?_)))))
 ·try simp only [dx9] at h9
  refine AW.skip (AW.seq (AW.block (AW.sg hE rfl (ixLn sl.ints 0 rfl rfl (by omega) rfl rfl (ldRC ce.int rfl (asD rfl (OL.nil ?_)))))))
  refine AW.sg hE rfl (mvD rfl (mvD rfl (c_neq rfl rfl rfl (OL.nil (AW.cond rfl (fun hc=>?_) (fun hc=>?_))))))
  ·have hc:l.getD i 0≠0:=nd_t hc
   exact AW.sg hE rfl (mvD rfl (asD rfl (OL.nil (AW.ret (RetQ.r ⟨_,.tmp rfl .nil,.le (VLe.int ((orL_at (by omega) h2 hc).symm))⟩)))))
  ·have hc:l.getD i 0=0:=nd_f hc
   refine AW.skip (AW.rg hE rfl (add_i64 rfl rfl (by omega) (mvD rfl (OL.nil ?_))))
   exact AW.again (x:=i) (i+1) (by omega) ⟨⟨by omega,fun j hj=>by rcases Nat.lt_or_ge j i with h|h;exact h2 j h;obtain rfl:j=i:=(by omega);exact hc⟩,Knows.app .rq3 .rq1,.nil⟩
 ·try simp only [dx9] at h9
  exact AW.exit (AW.sg hE rfl (mvD rfl (asD rfl (OL.nil (AW.ret (RetQ.r ⟨_,.tmp rfl .nil,.le (VLe.int ((orL_none fun j hj=>h2 j (by omega)).symm))⟩))))))
theorem orderA {x y:Arc9}:FSpec P F.automaton_order [vArc x,vArc y] (.d (dI (ordA x y))):=by
 refine FSpec.intro fn.automaton_order (by rfl) (by rfl) (nb9 (by rfl)) fun E hE=>(AW.sg hE rfl (bxA rfl rfl fun b2=>(bxA rfl rfl fun b3=>(asD rfl (OL.nil (AW.seq (AW.dg 1 [0,1,2,3,4,5,6,7,8,9,10,11,12,13,14,15,16,17] order_free hE rfl (by kernel_rfl) (OI.of_OL (os:=[_,_,_,_,_,_,_,_,_,_,_,_,_,_,_,_,_,_]) rfl ?_))))))))
 refine faP fd.Arc_0 rfl rfl (ldPC ce.int rfl rfl rfl (faP fd.Arc_0 rfl rfl (ldPC ce.int rfl rfl rfl (clv rfl (VLes.refl _) (cmp_Compare_int (x:=(x.f:Int)) (y:=(y.f:Int))) ?_))))
 rw [cmp_cI]
 refine faP fd.Arc_1 rfl rfl (ldPC ce.int rfl rfl rfl (faP fd.Arc_1 rfl rfl (ldPC ce.int rfl rfl rfl (clv rfl (VLes.refl _) (cmp_Compare_int (x:=(x.l:Int)) (y:=(y.l:Int))) ?_))))
 rw [cmp_cI]
 refine faP fd.Arc_2 rfl rfl (ldPC ce.int rfl rfl rfl (faP fd.Arc_2 rfl rfl (ldPC ce.int rfl rfl rfl (clv rfl (VLes.refl _) (cmp_Compare_int (x:=(x.t:Int)) (y:=(y.t:Int))) ?_))))
 rw [cmp_cI]
 refine ltN (ys:=[dI (cI x.f y.f),dI (cI x.l y.l),dI (cI x.t y.t)]) sl.ints rfl (pdC (VC.d _).vd (pdC (VC.d _).vd (pdC (VC.d _).vd pdN))) rfl (by decide) (by decide) (fun y hy=>by simp at hy;rcases hy with rfl|rfl|rfl <;> rfl) (clv rfl (VLes.refl _) (cmp_OrL (l:=[cI x.f y.f,cI x.l y.l,cI x.t y.t]) (show 3≤1099511627776 by decide)) ?_)
 rw [ord_or]
 exact asD rfl (OL.nil (AW.ret (RetQ.r ⟨_,.tmp rfl .nil,.le vR⟩)))
theorem insertA {l:List Arc9}{b n c:Nat}(hl:l.length=n)(hn:1≤n∧n≤20):FSpecM P F.slices_insertionSortCmpFunc_Arc [.osl 1000 b n c,.d (dI 0),.d (dI n),.fn F.automaton_order []] (mem1 1000 (rowA b c (l))) (.tup []) (mem1 1000 (rowA b c (sortG ltA (n-1) l))):=by
 refine FSpecM.intro fn.slices_insertionSortCmpFunc_Arc (by rfl) (by rfl) (nb9 (by rfl)) fun E hE=>(AW.sg hE rfl (mvD rfl (add_i64 rfl rfl (by omega) (asD rfl (OL.nil (AW.block ?_))))))
 refine AW.whileK (α:=Nat) [(0,_),(1,_),(2,_),(3,_)] [] (fun i=>[(8,.d (dI i))]) (fun i=>[(1000,rowA b c (sortG ltA (i-1) l))]) (fun i=>1≤i∧i≤n) (fun i=>n-i) 1 (.cons (knO rfl) (.cons (knD rfl) (.cons (knD rfl) (.cons (knF rfl) .nil)))) .nil ⟨⟨Nat.le_refl _,hn.1⟩,.rq1,.cons rfl .nil⟩ ?_
 rintro i ⟨h1,h2⟩
 have h1:1≤i:=h1
 have h2:i≤n:=h2
 refine AW.seq (AW.sg hE rfl (mvD rfl (mvD rfl (c_lss rfl rfl rfl (OL.nil (AW.cond rfl (fun h14=>?_) (fun h14=>?_)))))))
 ·try simp only [dx9] at h14
  refine AW.skip (AW.midK (α:=Unit) [(0,_),(1,_),(2,_),(3,_),(8,_)] [] (fun _u=>[]) (fun _u=>[(1000,rowA b c (sortG ltA i l))]) (fun _u=>True) (.cons (knO rfl) (.cons (knD rfl) (.cons (knD rfl) (.cons (knF rfl) (.cons (knD rfl) .nil))))) .nil ?_ ?_)
  ·refine AW.block (AW.sg hE rfl (mvD rfl (asD rfl (OL.nil (AW.block ?_)))))
   refine AW.whileK (α:=Nat × List Arc9) [(0,_),(1,_),(2,_),(3,_),(8,_)] [] (fun (j,u)=>[(9,.d (dI j))]) (fun (j,u)=>[(1000,rowA b c (u))]) (fun (j,u)=>j≤i∧u.length=n∧sinkG ltA j u=sortG ltA i l) (fun (j,u)=>j) (i,sortG ltA (i-1) l) (.cons (knO rfl) (.cons (knD rfl) (.cons (knD rfl) (.cons (knF rfl) (.cons (knD rfl) .nil))))) .nil ⟨⟨Nat.le_refl _,by rw [sortG_len];exact hl,by obtain ⟨q,rfl⟩:∃ q,i=q+1:=⟨i-1,by omega⟩;rfl⟩,.rq1,.cons rfl .nil⟩ ?_
   rintro ⟨j,u⟩ ⟨h3,hul,hs⟩
   have h3:j≤i:=h3
   have hul:u.length=n:=hul
   refine AW.seq (AW.seq (AW.dg 1 [0,1,2,3,4,5,6,7,8,9,10,11,12,13,14,15,16] order_free hE rfl (by kernel_rfl) (OI.of_OL (os:=[_,_,_,_,_,_,_,_,_,_,_,_,_,_,_,_,_]) rfl ?_)))
   refine mvD rfl (mvD rfl (c_gtr rfl rfl rfl (mvD rfl (OL.split 21 rfl (fun hj=>?_) (fun hj=>?_)))))
   ·have hj:(0:Int)<(j:Int):=of_decide_eq_true hj
    obtain ⟨j,rfl⟩:∃ q,j=q+1:=⟨j-1,by omega⟩
    refine OL.yes rfl (mvF rfl (OL.yes rfl (mvO rfl (OL.yes rfl (mvD rfl (OL.yes rfl (ixOn sl.Arcs rfl rfl (by omega) ?_)))))))
    refine OL.yes rfl (ldEA ag.Arc (by decide) rfl rfl (rowA_el (show j+1<u.length by omega)) (vs:=cellsArc (u.getD (j+1) default)) rfl (nb9 rfl) (OL.yes rfl (mvO rfl (OL.yes rfl (mvD rfl (OL.yes rfl (bo rfl rfl (bin_sub (c:=(j:Int)) (by omega) (wrap_i64 (by omega))) ?_)))))))
    refine OL.yes rfl (ixOn sl.Arcs rfl rfl (by omega) (OL.yes rfl (ldEA ag.Arc (by decide) rfl rfl (rowA_el (show j<u.length by omega)) (vs:=cellsArc (u.getD (j) default)) rfl (nb9 rfl) (OL.yes rfl (clv rfl (VLes.refl _) (orderA (x:=u.getD (j+1) default) (y:=u.getD j default)) (OL.yes rfl (c_lss rfl rfl rfl ?_)))))))
    refine pkT rfl rfl (OL.nil (AW.cond rfl (fun hk=>?_) (fun hk=>?_)))
    ·have hk:ltA (u.getD (j+1) default) (u.getD j default)=true:=hk
     refine AW.skip (AW.seq (AW.block (AW.dg 1 [0,1,2,3,4,5,6,7,8,9,10,11,12,13,14,15,16,17] order_free hE rfl (by kernel_rfl) (OI.of_OL (os:=[_,_,_,_,_,_,_,_,_,_,_,_,_,_,_,_,_,_]) rfl ?_))))
     refine mvO rfl (mvD rfl (mvO rfl (mvD rfl (bo rfl rfl (bin_sub (c:=(j:Int)) (by omega) (wrap_i64 (by omega))) (mvO rfl (mvD rfl (bo rfl rfl (bin_sub (c:=(j:Int)) (by omega) (wrap_i64 (by omega))) ?_)))))))
     refine ixOn sl.Arcs rfl rfl (by omega) (ldEA ag.Arc (by decide) rfl rfl (rowA_el (show j<u.length by omega)) (vs:=cellsArc (u.getD (j) default)) rfl (nb9 rfl) (mvO rfl (mvD rfl (ixOn sl.Arcs rfl rfl (by omega) (ldEA ag.Arc (by decide) rfl rfl (rowA_el (show j+1<u.length by omega)) (vs:=cellsArc (u.getD (j+1) default)) rfl (nb9 rfl) (ixOn sl.Arcs rfl rfl (by omega) (stE sz.Arc rfl (d:=dArc (u.getD j default)) vd_arc rfl rfl (by rw [lm9];omega) rfl ?_)))))))
     refine ixOn sl.Arcs rfl rfl (by omega) (stE sz.Arc rfl (d:=dArc (u.getD (j+1) default)) vd_arc rfl rfl (by rw [List.length_set,lm9];omega) swapG_map (OL.nil (AW.rg hE rfl (mvD rfl (bo rfl rfl (bin_sub (c:=(j:Int)) (by omega) (wrap_i64 (by omega))) (asD rfl (OL.nil ?_)))))))
     exact AW.again (x:=(j+1,u)) (j,swapG u j) (by (simp only [];omega)) ⟨⟨by omega,by rw [swapG_len];exact hul,by rw [← hs,sinkG,if_pos hk]⟩,Knows.app .rq5 .rq1,.cons rfl .nil⟩
    ·have hk:¬ ltA (u.getD (j+1) default) (u.getD j default)=true:=fun e=>of_decide_eq_false hk (of_decide_eq_true e)
     exact AW.exit (AW.reach () ⟨trivial,Knows.app .rq5 (.nil),.cons (by rw [← hs,sinkG,if_neg hk];rfl) .nil⟩)
   ·have hj:¬ (0:Int)<(j:Int):=of_decide_eq_false hj
    refine OL.nd rfl (OL.nd rfl (OL.nd rfl (OL.nd rfl (OL.nd rfl (OL.nd rfl (OL.nd rfl (OL.nd rfl ?_)))))))
    refine OL.nd rfl (OL.nd rfl (OL.nd rfl (OL.nd rfl (pkF rfl rfl (OL.nil (AW.cond rfl (fun hno=>absurd hno (by decide)) (fun _=>?_)))))))
    exact AW.exit (AW.reach () ⟨trivial,Knows.app .rq5 (.nil),.cons (by obtain rfl:j=0:=(by omega);rw [← hs];rfl) .nil⟩)
  rintro ⟨⟩ hφ
  exact AW.rg hE rfl (mvD rfl (add_i64 rfl rfl (by omega) (asD rfl (OL.nil (AW.again (x:=i) (i+1) (by omega) ⟨⟨by omega,by omega⟩,Knows.app .rq4 .rq1,.cons (by rw [Nat.add_sub_cancel];rfl) .nil⟩)))))
 ·try simp only [dx9] at h14
  refine AW.exit ?_
  obtain rfl:i=n:=by omega
  exact ⟨⟨_,.nil,_,.nil,rfl⟩,mem1_keep rfl⟩
end Go.Proofs.YtfbblpngcmjooaaGreatDoor
