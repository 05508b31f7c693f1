/-
  Walks of the law, part 1: automata out of plain numbers, letters (printed by mk2.py).
-/
import Derived.Test.YtmcoihfkniccdaaGreatDoorKWkT
import Derived.Test.YtmcoihfkniccdaaGreatDoorKMod91
set_option linter.unusedVariables false
set_option linter.unusedSimpArgs false
namespace Go.Proofs.YtmcoihfkniccdaaGreatDoor
open Go Go.AL
theorem modI_eq {k:Int}{n:Nat}(h:1≤n):(modI k n:Int)=AL.within k n:=by
 rw [modI_int k h]
 unfold AL.within
 rw [if_neg (by omega)]
theorem quo_t {a b:Int}(hb:b≠0):bin .quo (.int .i64 a) (.int .i64 b)=some (.int .i64 (IntKind.i64.wrap (a.tdiv b))):=by
 simp only [bin,true_and]
 rw [if_pos hb]
theorem sub_w {a b:Int}:bin .sub (.int .i64 a) (.int .i64 b)=some (.int .i64 (IntKind.i64.wrap (a-b))):=by simp [bin]
theorem numN_mod (v:Int):(modI v 13:Int)-6=numN v:=by
 have h:(modI v 13:Int)=v % 13:=modI_int (n:=13) v (by decide)
 unfold numN;rw [h]
theorem numD_mod (v:Int):1+(modI (IntKind.i64.wrap (v.tdiv 13)) 3:Int)=numD v:=by
 have h:(modI (IntKind.i64.wrap (v.tdiv 13)) 3:Int)=IntKind.i64.wrap (v.tdiv 13) % 3:=modI_int (n:=3) _ (by decide)
 unfold numD;rw [h]
abbrev vModelE (m:MModel)(e:Bool):V:=.ag [.d (dI m.st),.d (ints m.ini),.d (ints m.fin),.d (ints m.arcs),.d (dB e)]
def endT (l:List Int)(one i:Nat):List Rat:=(List.range i).map fun k=>endW9 l k one
theorem endT_len (l:List Int)(one i:Nat):(endT l one i).length=i:=by simp [endT]
theorem endT_succ (l:List Int)(one i:Nat):endT l one (i+1)=endT l one i++[endW9 l i one]:=by unfold endT;rw [List.range_succ,List.map_append];rfl
def arcT (m:MModel)(sym n g:Nat):List Arc9:=(List.range g).map (arcOf m.arcs sym n)
theorem arcT_len (m:MModel)(sym n g:Nat):(arcT m sym n g).length=g:=by simp [arcT]
theorem arcT_succ (m:MModel)(sym n g:Nat):arcT m sym n (g+1)=arcT m sym n g++[arcOf m.arcs sym n g]:=by unfold arcT;rw [List.range_succ,List.map_append];rfl
theorem groups_t {l:List Int}{g:Nat}(h1:4*g+3<l.length)(h2:4*g<40):g<groups l:=by unfold groups;omega
theorem groups_f {l:List Int}{g:Nat}(h:g≤groups l)(h1:¬(4*g+3<l.length) ∨ ¬ 4*g<40):g=groups l:=by unfold groups at *;omega
theorem r5Alpha {s:Nat}(hs:1≤s∧s≤32):FSpec P F.ref05_Alphabet [.d (dI s)] (.d (dB true)):=by
 refine FSpec.intro fn.ref05_Alphabet (by rfl) (by rfl) (nb9 (by rfl)) fun E hE=>(AW.sg hE rfl (asD rfl (OL.nil (AW.sg hE rfl (mvD rfl (c_geq rfl rfl (c:=true) (by exact decide_eq_true (by omega)) (mvD rfl ?_)))))))
 exact OL.yes rfl (mvD rfl (OL.yes rfl (c_leq rfl rfl (c:=true) (by exact decide_eq_true (by omega)) (pkT rfl rfl (asD rfl (OL.nil (AW.ret (RetQ.r ⟨_,.tmp rfl .nil,.le vR⟩))))))))
theorem r6In {v lo hi:Int}(h:lo≤v∧v≤hi):FSpec P F.ref06_In [.d (dI v),.d (dI lo),.d (dI hi)] (.d (dB true)):=by
 refine FSpec.intro fn.ref06_In (by rfl) (by rfl) (nb9 (by rfl)) fun E hE=>(AW.sg hE rfl (asD rfl (OL.nil (AW.sg hE rfl (mvD rfl (mvD rfl (c_geq rfl rfl (c:=true) (by exact decide_eq_true (by omega)) ?_)))))))
 refine mvD rfl (OL.yes rfl (mvD rfl (OL.yes rfl (mvD rfl (OL.yes rfl (c_leq rfl rfl (c:=true) (by exact decide_eq_true (by omega)) (pkT rfl rfl ?_)))))))
 exact asD rfl (OL.nil (AW.ret (RetQ.r ⟨_,.tmp rfl .nil,.le vR⟩)))
theorem ModI {k:Int}{n:Nat}(hn:1≤n∧n≤1000):FSpec P F.weightedmade_Mod [.d (dI k),.d (dI n)] (.d (dI (modI k n))):=by
 refine FSpec.intro fn.weightedmade_Mod (by rfl) (by rfl) (nb9 (by rfl)) fun E hE=>(AW.sg hE rfl (asD rfl (OL.nil (AW.sg hE rfl (mvD rfl (mvD rfl (bo rfl rfl (rem_t (by omega)) ?_)))))))
 have ht:=tmod_lt (v:=k) (m:=n) (by omega)
 refine asD rfl (OL.nil (AW.seq (AW.sg hE rfl (mvD rfl (c_lss rfl rfl rfl (OL.nil (AW.cond rfl (fun h=>?_) (fun h=>?_))))))))
 ·try simp only [dx9] at h
  refine AW.rg hE rfl (mvD rfl (mvD rfl (add_i64 rfl rfl (by omega) (asD rfl (OL.nil (AW.sg hE rfl (mvD rfl ?_)))))))
  exact asD rfl (OL.nil (AW.ret (RetQ.r ⟨_,.tmp rfl .nil,.le (VLe.int ((within_neg (by omega) h).trans (modI_eq hn.1).symm))⟩)))
 ·try simp only [dx9] at h
  exact AW.skip (AW.sg hE rfl (mvD rfl (asD rfl (OL.nil (AW.ret (RetQ.r ⟨_,.tmp rfl .nil,.le (VLe.int ((within_pos (by omega) h).trans (modI_eq hn.1).symm))⟩))))))
theorem NumberI {v:Int}:FSpec P F.weightedmade_Number [.d (dI v)] (vQ (numQ v)):=by
 have h1:=numN_le v
 have h2:=numD_le v
 refine FSpec.intro fn.weightedmade_Number (by rfl) (by rfl) (nb9 (by rfl)) fun E hE=>(AW.sg hE rfl (al z.Rat rfl fun b2=>(OL.nil (AW.sg hE rfl (mvD rfl (clv rfl vL (ModI (k:=v) (n:=13) (by decide)) (bo rfl rfl (bin_sub (c:=numN v) (numN_mod v) (wrap_i64 (by omega))) ?_)))))))
 refine mvD rfl (bo rfl rfl (quo_t (by decide)) (clv rfl vL (ModI (k:=IntKind.i64.wrap (v.tdiv 13)) (n:=3) (by decide)) (bo rfl rfl (bin_add (c:=numD v) (numD_mod v) (wrap_i64 (by omega))) (clv rfl vL (ref_OfQ (n:=numN v) (d:=numD v) (by omega) (by omega) (by omega)) ?_))))
 rw [show ((numN v:Int):Rat) / ((numD v:Int):Rat)=numQ v from rfl]
 exact sto sz.Rat rfl rfl rfl rfl rfl (nb9 rfl) (cells2:=[_,_,_]) rfl (OL.nil (AW.ret (RetQ.r ⟨_,.cellA rfl rfl ag.Rat (nb9 rfl) .nil,.ag (.cons (.le vR) (.cons (.le vR) (.cons (.le vR) .nil)))⟩)))
theorem WeightI {v:Int}:FSpec P F.weightedmade_Weight [vRing,.d (dI v)] (vW (numQ v)):=by
 refine FSpec.intro fn.weightedmade_Weight (by rfl) (by rfl) (nb9 (by rfl)) fun E hE=>(AW.sg hE rfl (bxA rfl rfl fun b2=>(al z.Weight rfl fun b4=>(OL.nil (AW.seq (AW.sg hE rfl (faP fd.Ring_0 rfl rfl ?_)))))))
 refine ldPC ce.int rfl rfl rfl (OL.nil (AW.block (AW.sg hE rfl (c_eql rfl rfl (c:=true) (by exact decide_eq_true (by omega)) (asD rfl (OL.nil (cnT rfl ?_)))))))
 exact AW.sg hE rfl (mvD rfl (clv rfl vL (NumberI (v:=v)) (bd z.Weight pl.Weight (cs:=[_,_,_,_,_,_,_,_]) rfl (sto sz.Weight rfl rfl rfl rfl rfl (nb9 rfl) (cells2:=[_,_,_,_,_,_,_,_]) rfl (OL.nil (AW.ret (RetQ.r ⟨_,.cellA rfl rfl ag.Weight (nb9 rfl) .nil,.le vle_wq⟩)))))))
theorem endI {l:List Int}{i one:Nat}(nl:l.length≤9223372036854775807):FSpec P F.weightedmade_end [vRing,.d (ints l),.d (dI i),.d (dI one)] (vW (endW9 l i one)):=by
 refine FSpec.intro fn.weightedmade_end (by rfl) (by rfl) (nb9 (by rfl)) fun E hE=>(AW.sg hE rfl (bxA rfl rfl fun b4=>(al z.Weight rfl fun b8=>(OL.nil (AW.seq (AW.block (AW.sg hE rfl ?_)))))))
 refine mvD rfl (mvD rfl (lnL sl.ints rfl rfl (c_lss rfl rfl rfl (OL.split 13 rfl (fun hi=>?_) (fun hi=>?_)))))
 ·have hi:i<l.length:=by have:=dt9 hi;omega
  rw [show endW9 l i one=numQ (l.getD i 0) from if_pos hi]
  refine asD rfl (OL.nil (cnT rfl ?_))
  refine AW.seq (AW.dg 1 [0,1,2,3,4,5,6] order_free hE rfl (by kernel_rfl) (OI.of_OL (os:=[_,_,_,_,_,_,_]) rfl ?_))
  refine ldPA ag.Ring rfl rfl (vs:=[_,_]) rfl (nb9 rfl) (mvD rfl (mvD rfl (ixLn sl.ints 0 rfl rfl hi rfl rfl (ldRC ce.int rfl (clv rfl vL (WeightI (v:=l.getD i 0)) (sto sz.Weight rfl rfl rfl rfl rfl (nb9 rfl) (cells2:=[_,_,_,_,_,_,_,_]) rfl (OL.nil ?_)))))))
  exact AW.ret (RetQ.r ⟨_,.cellA rfl rfl ag.Weight (nb9 rfl) .nil,.ag (.cons (.le vR) (.cons (.le vR) (.cons (.le vR) (.cons (.le vR) (.cons (.le vR) (.cons (.le vR) (.cons (.le vR) (.cons (.le vR) .nil))))))))⟩)
 ·have hi:¬ i<l.length:=by have:=df9 hi;omega
  refine asD rfl (OL.nil (cnF rfl ?_))
  refine AW.sg hE rfl (mvD rfl (mvD rfl (c_eql rfl rfl rfl (OL.split 23 rfl (fun ho=>?_) (fun ho=>?_)))))
  ·have ho:i=one:=by have:=dt9 ho;omega
   rw [show endW9 l i one=1 from (if_neg hi).trans (if_pos ho)]
   refine asD rfl (OL.nil (cnT rfl ?_))
   refine AW.sg hE rfl (ldPA ag.Ring rfl rfl (vs:=[_,_]) rfl (nb9 rfl) (clv rfl .rq1 (r3One) (sto sz.Weight rfl rfl rfl rfl rfl (nb9 rfl) (cells2:=[_,_,_,_,_,_,_,_]) rfl (OL.nil ?_))))
   exact AW.ret (RetQ.r ⟨_,.cellA rfl rfl ag.Weight (nb9 rfl) .nil,.ag (.cons (.le vR) (.cons (.le vR) (.cons (.le vR) (.cons (.le vR) (.cons (.le vR) (.cons (.le vR) (.cons (.le vR) (.cons (.le vR) .nil))))))))⟩)
  ·have ho:¬ i=one:=by have:=df9 ho;omega
   rw [show endW9 l i one=0 from (if_neg hi).trans (if_neg ho)]
   refine asD rfl (OL.nil (cnF rfl ?_))
   refine AW.skip (AW.sg hE rfl (ldPA ag.Ring rfl rfl (vs:=[_,_]) rfl (nb9 rfl) (clv rfl .rq1 (r3Zero) (sto sz.Weight rfl rfl rfl rfl rfl (nb9 rfl) (cells2:=[_,_,_,_,_,_,_,_]) rfl (OL.nil ?_)))))
   exact AW.ret (RetQ.r ⟨_,.cellA rfl rfl ag.Weight (nb9 rfl) .nil,.ag (.cons (.le vR) (.cons (.le vR) (.cons (.le vR) (.cons (.le vR) (.cons (.le vR) (.cons (.le vR) (.cons (.le vR) (.cons (.le vR) .nil))))))))⟩)
set_option maxRecDepth 8000 in
set_option maxHeartbeats 3200000 in
theorem AutoI {m:MModel}{sym most:Nat}(hs:1≤sym∧sym≤32)(hm:1≤most∧most≤64)(n1:m.ini.length≤9223372036854775807)(n2:m.fin.length≤9223372036854775807)(n3:m.arcs.length≤9223372036854775807):FSpec P F.weightedmade_Model_Auto [vModelE m false,vRing,.d (dI sym),.d (dI most)] (vAu (autoOf m sym most)):=by
 have hst:=stOf_le (m:=m) hm.1
 refine FSpec.intro fn.weightedmade_Model_Auto (by rfl) (by rfl) (nb9 (by rfl)) fun E hE=>(AW.sg hE rfl (bxA rfl rfl fun b4=>(bxA rfl rfl fun b5=>(al z.Auto rfl fun b8=>(OL.nil (AW.sg hE rfl (faP fd.Model_0 rfl rfl ?_)))))))
 refine ldPC ce.int rfl rfl rfl (bo rfl rfl sub_w (mvD rfl (clv rfl vL (ModI (k:=IntKind.i64.wrap (m.st-1)) (n:=most) (by omega)) (bo rfl rfl (bin_add (c:=((stOf m most):Int)) (by unfold stOf;omega) (wrap_i64 (by omega))) (asD rfl (OL.nil (AW.sg hE rfl ?_)))))))
 refine ldPA ag.Ring rfl rfl (vs:=[_,_]) rfl (nb9 rfl) (mvD rfl (mvD rfl (bd2 (cs:=[_,_,_,_,_,_,_]) z.Auto pl.Auto (pvC (by exact evA rfl) (pvC (by exact evD rfl) (pvC (by exact evD rfl) (pvN)))) (by rfl) (al z.Auto rfl fun b10=>(sto sz.Auto rfl rfl rfl rfl rfl (nb9 rfl) (cells2:=[_,_,_,_,_,_,_]) rfl (OL.nil (AW.seq ?_)))))))
 refine AW.sg hE rfl (asD rfl (OL.nil (AW.block (AW.deadR 37 T.Weight 8 rfl (AW.deadR 49 T.Weight 8 rfl (AW.boxW 10 [.d (dI 1),.d (.sl []),.d (dI sym),.d (dI (stOf m most)),.osl 37 0 0 0,.osl 49 0 0 0,.mt] rfl (.cons vR (.cons vR (.cons vR (.cons vR (.cons vle_mtO (.cons vle_mtO .rq1)))))) ?_))))))
 refine AW.whileK (α:=Nat × Nat × Nat × Nat × Nat) [(2,_),(4,_),(5,_),(8,_),(9,_),(10,_)] [(4,_),(5,_),(8,_)] (fun (i,p1,c1,p2,c2)=>[(11,.d (dI i))]) (fun (i,p1,c1,p2,c2)=>[(10,.box b10 T.Auto [.d (dI 1),.d (.sl []),.d (dI sym),.d (dI (stOf m most)),.osl 37 p1 i c1,.osl 49 p2 i c2,.mt]),(37,.row p1 c1 T.Weight 8 ((endT m.ini 0 i).map dW)),(49,.row p2 c2 T.Weight 8 ((endT m.fin ((stOf m most)-1) i).map dW))]) (fun (i,p1,c1,p2,c2)=>i≤(stOf m most)) (fun (i,p1,c1,p2,c2)=>(stOf m most)-i) (0,0,0,0,0) (.cons (knD rfl) (.cons (knP rfl) (.cons (knP rfl) (.cons (knP rfl) (.cons (knD rfl) (.cons (knP rfl) .nil)))))) (.cons (owB rfl) (.cons (owB rfl) (.cons (owB rfl) .nil))) ⟨Nat.zero_le _,.rq1,.cons rfl (.cons rfl (.cons rfl .nil))⟩ ?_
 rintro ⟨i,p1,c1,p2,c2⟩ h1
 have h1:i≤(stOf m most):=h1
 have hl1:=endT_len m.ini 0 i
 have hl2:=endT_len m.fin ((stOf m most)-1) i
 refine AW.seq (AW.sg hE rfl (mvD rfl (mvD rfl (c_lss rfl rfl rfl (OL.nil (AW.cond rfl (fun h26=>?_) (fun h26=>?_)))))))
 ·try simp only [dx9] at h26
  refine AW.skip (AW.seq (AW.block (AW.seq (AW.dg 2 [0,1,2,3,4,5,6,7,8,9,10] order_free hE rfl (by kernel_rfl) (OI.of_OL (os:=[_,_,_,_,_,_,_,_,_,_,_]) rfl ?_)))))
  refine faP fd.Auto_3 rfl rfl (ldPC ce.Weights rfl rfl rfl (ldPA ag.Ring rfl rfl (vs:=[_,_]) rfl (nb9 rfl) (faP fd.Model_1 rfl rfl (ldPC ce.ints rfl rfl rfl (mvD rfl (clv rfl vL (endI (l:=m.ini) (i:=i) (one:=0) n1) (lt1 (y:=dW (endW9 m.ini i 0)) sl.Weights vd_w rfl (by decide) ?_)))))))
  refine apO sl.Weights rfl rfl rfl (by rw [lm9,hl1]) (VC.d _) (fun y hy=>by rw [ms9 hy];rfl) (by simp only [ls9];omega) (by simp only [ls9];omega) (.inr rfl) (ys:=(endT m.ini 0 (i+1)).map dW) (by rw [endT_succ,List.map_append];rfl) (n2:=i+1) rfl fun b37 c37=>?_
  refine faP fd.Auto_3 rfl rfl (sto sz.Weights rfl rfl rfl rfl rfl (nb9 rfl) (cells2:=[_,_,_,_,_,_,_]) rfl (OL.nil (AW.dg 2 [0,1,2,3,4,5,6,7,8,9,10,11,12] order_free hE rfl (by kernel_rfl) (OI.of_OL (os:=[_,_,_,_,_,_,_,_,_,_,_,_,_]) rfl ?_))))
  refine faP fd.Auto_4 rfl rfl (ldPC ce.Weights rfl rfl rfl (ldPA ag.Ring rfl rfl (vs:=[_,_]) rfl (nb9 rfl) (faP fd.Model_2 rfl rfl (ldPC ce.ints rfl rfl rfl (mvD rfl (mvD rfl (bo rfl rfl (bin_sub (c:=(((stOf m most)-1:Nat):Int)) (by omega) (wrap_i64 (by omega))) ?_)))))))
  refine clv rfl vL (endI (l:=m.fin) (i:=i) (one:=(stOf m most)-1) n2) (lt1 (y:=dW (endW9 m.fin i ((stOf m most)-1))) sl.Weights vd_w rfl (by decide) ?_)
  refine apO sl.Weights rfl rfl rfl (by rw [lm9,hl2]) (VC.d _) (fun y hy=>by rw [ms9 hy];rfl) (by simp only [ls9];omega) (by simp only [ls9];omega) (.inr rfl) (ys:=(endT m.fin ((stOf m most)-1) (i+1)).map dW) (by rw [endT_succ,List.map_append];rfl) (n2:=i+1) rfl fun b49 c49=>?_
  refine faP fd.Auto_4 rfl rfl (sto sz.Weights rfl rfl rfl rfl rfl (nb9 rfl) (cells2:=[_,_,_,_,_,_,_]) rfl (OL.nil (AW.rg hE rfl (mvD rfl (add_i64 rfl rfl (by omega) (asD rfl (OL.nil ?_)))))))
  exact AW.again (x:=(i,p1,c1,p2,c2)) (i+1,b37,c37,b49,c49) (by (simp only [];omega)) ⟨by omega,Knows.app .rq6 .rq1,Owns.app (.cons rfl (.cons rfl (.cons rfl .nil))) (.cons rfl (.cons rfl (.cons rfl .nil)))⟩
 ·try simp only [dx9] at h26
  refine AW.exit (AW.seq (AW.seq ?_))
  obtain rfl:i=(stOf m most):=by omega
  refine AW.rg hE rfl (asD rfl (OL.nil (AW.block (AW.deadR 111 T.Arc 11 rfl ?_))))
  refine AW.boxW 10 [.d (dI 1),.d (.sl []),.d (dI sym),.d (dI (stOf m most)),.osl 37 p1 (stOf m most) c1,.osl 49 p2 (stOf m most) c2,.osl 111 0 0 0] rfl (.cons vR (.cons vR (.cons vR (.cons vR (.cons vR (.cons vR (.cons vle_mtO .nil))))))) ?_
  refine AW.whileK (α:=Nat × Nat × Nat) [(2,_),(4,_),(5,_),(8,_),(9,_),(10,_)] [(4,_),(5,_),(8,_),(37,_),(49,_)] (fun (g,p3,c3)=>[(12,.d (dI ((4*g:Nat):Int)))]) (fun (g,p3,c3)=>[(10,.box b10 T.Auto [.d (dI 1),.d (.sl []),.d (dI sym),.d (dI (stOf m most)),.osl 37 p1 (stOf m most) c1,.osl 49 p2 (stOf m most) c2,.osl 111 p3 g c3]),(111,rowA p3 c3 (arcT m sym (stOf m most) g))]) (fun (g,p3,c3)=>g≤groups m.arcs) (fun (g,p3,c3)=>groups m.arcs-g) (0,0,0) (.cons (knD rfl) (.cons (knP rfl) (.cons (knP rfl) (.cons (knP rfl) (.cons (knD rfl) (.cons (knP rfl) .nil)))))) (.cons (owB rfl) (.cons (owB rfl) (.cons (owB rfl) (.cons (owR rfl) (.cons (owR rfl) .nil))))) ⟨Nat.zero_le _,.rq1,.cons rfl (.cons rfl .nil)⟩ ?_
  rintro ⟨g,p3,c3⟩ h4
  have h4:g≤groups m.arcs:=h4
  have h10:g≤10:=by unfold groups at h4;omega
  have hl3:=arcT_len m sym (stOf m most) g
  refine AW.seq (AW.sg hE rfl (mvD rfl (bo rfl rfl (bin_add (c:=((4*g+3:Nat):Int)) (by omega) (wrap_i64 (by omega))) (faP fd.Model_3 rfl rfl (ldPC ce.ints rfl rfl rfl (lnL sl.ints rfl rfl (c_lss rfl rfl rfl ?_)))))))
  refine OL.split 56 rfl (fun ha=>?_) (fun ha=>?_)
  ·have ha:4*g+3<m.arcs.length:=by have:=dt9 ha;omega
   refine mvD rfl (OL.yes rfl (mvD rfl (OL.yes rfl (c_lss rfl rfl rfl (OL.split 59 rfl (fun hb=>?_) (fun hb=>?_))))))
   ·have hb:4*g<40:=by have:=dt9 hb;omega
    have hg:=groups_t ha hb
    refine pkT rfl rfl (OL.nil (cnT rfl ?_))
    refine AW.skip (AW.seq (AW.block (AW.sg hE rfl (faP fd.Model_3 rfl rfl (ldPC ce.ints rfl rfl rfl (mvD rfl (bo rfl rfl (bin_add (c:=((4*g+1:Nat):Int)) (by omega) (wrap_i64 (by omega))) ?_)))))))
    refine ixLn sl.ints 0 rfl rfl (by omega) rfl rfl (ldRC ce.int rfl (mvD rfl (clv rfl vL (ModI (k:=m.arcs.getD (4*g+1) 0) (n:=sym) (by omega)) ?_)))
    have hmo:=modI_lt (m.arcs.getD (4*g+1) 0) hs.1
    refine bo rfl rfl (bin_add (c:=((1+modI (m.arcs.getD (4*g+1) 0) sym:Nat):Int)) (by omega) (wrap_i64 (by omega))) (asD rfl (OL.nil (AW.seq (AW.sg hE rfl (faP fd.Model_4 rfl rfl (ldPC ce.bool rfl rfl rfl (OL.nil ?_)))))))
    refine cnF rfl ?_
    refine AW.skip (AW.dg 2 [0,1,2,3,4,5,6,7,8,9,10,11,12,13,14,15,16,17,18,19,20,21,22,23,24,25,26,27,28,29,30] order_free hE rfl (by kernel_rfl) (OI.of_OL (os:=[_,_,_,_,_,_,_,_,_,_,_,_,_,_,_,_,_,_,_,_,_,_,_,_,_,_,_,_,_,_,_]) rfl ?_))
    refine faP fd.Auto_5 rfl rfl (ldPC ce.Arcs rfl rfl rfl (faP fd.Model_3 rfl rfl (ldPC ce.ints rfl rfl rfl (mvD rfl (ixLn sl.ints 0 rfl rfl (by omega) rfl rfl (ldRC ce.int rfl (mvD rfl ?_)))))))
    refine clv rfl vL (ModI (k:=m.arcs.getD (4*g) 0) (n:=(stOf m most)) (by omega)) (mvD rfl (faP fd.Model_3 rfl rfl (ldPC ce.ints rfl rfl rfl (mvD rfl (bo rfl rfl (bin_add (c:=((4*g+2:Nat):Int)) (by omega) (wrap_i64 (by omega))) (ixLn sl.ints 0 rfl rfl (by omega) rfl rfl (ldRC ce.int rfl ?_)))))))
    refine mvD rfl (clv rfl vL (ModI (k:=m.arcs.getD (4*g+2) 0) (n:=(stOf m most)) (by omega)) (ldPA ag.Ring rfl rfl (vs:=[_,_]) rfl (nb9 rfl) (faP fd.Model_3 rfl rfl (ldPC ce.ints rfl rfl rfl (mvD rfl (bo rfl rfl (bin_add (c:=((4*g+3:Nat):Int)) (by omega) (wrap_i64 (by omega))) (ixLn sl.ints 0 rfl rfl (by omega) rfl rfl ?_)))))))
    refine ldRC ce.int rfl (clv rfl vL (WeightI (v:=m.arcs.getD (4*g+3) 0)) (bd2 (cs:=[_,_,_,_,_,_,_,_,_,_,_]) z.Arc pl.Arc (pvC (by exact evD rfl) (pvC (by exact evD rfl) (pvC (by exact evD rfl) (pvC (by exact evA rfl) (pvN))))) (by rfl) (lt1 (y:=dArc (arcOf m.arcs sym (stOf m most) g)) sl.Arcs (vd_arc (x:=(arcOf m.arcs sym (stOf m most) g))) rfl (by decide) ?_)))
    refine apO sl.Arcs rfl rfl rfl (by rw [lm9,hl3]) (VC.d _) (fun y hy=>by rw [ms9 hy];rfl) (by simp only [ls9];omega) (by simp only [ls9];omega) (.inr rfl) (ys:=(arcT m sym (stOf m most) (g+1)).map dArc) (by rw [arcT_succ,List.map_append];rfl) (n2:=g+1) rfl fun b111 c111=>?_
    refine faP fd.Auto_5 rfl rfl (sto sz.Arcs rfl rfl rfl rfl rfl (nb9 rfl) (cells2:=[_,_,_,_,_,_,_]) rfl (OL.nil (AW.rg hE rfl (mvD rfl (add_i64 rfl rfl (by omega) (asD rfl (OL.nil ?_)))))))
    exact AW.again (x:=(g,p3,c3)) (g+1,b111,c111) (by (simp only [];omega)) ⟨by omega,Knows.app .rq6 (.cons (VLe.int (by omega)) .nil),Owns.app (.cons rfl (.cons rfl (.cons rfl (.cons rfl (.cons rfl .nil))))) (.cons rfl (.cons rfl .nil))⟩
   ·have hb:¬ 4*g<40:=by have:=df9 hb;omega
    obtain rfl:g=groups m.arcs:=groups_f h4 (.inr hb)
    refine pkT rfl rfl (OL.nil (cnF rfl ?_))
    refine AW.exit (AW.seq ?_)
    have hw1:=endT_len m.ini 0 (stOf m most)
    have hw2:=endT_len m.fin ((stOf m most)-1) (stOf m most)
    have hw3:=arcT_len m sym (stOf m most) (groups m.arcs)
    refine AW.freeze 37 rfl (AW.boxW 10 [.d (dI 1),.d (.sl []),.d (dI sym),.d (dI (stOf m most)),.d (dWs (endT m.ini 0 (stOf m most))),.osl 49 p2 (stOf m most) c2,.osl 111 p3 (groups m.arcs) c3] rfl (.cons vR (.cons vR (.cons vR (.cons vR (.cons (frz_osl (by rw [lm9];exact hw1.symm) rfl) .rq2))))) ?_)
    refine AW.freeze 49 rfl (AW.boxW 10 [.d (dI 1),.d (.sl []),.d (dI sym),.d (dI (stOf m most)),.d (dWs (endT m.ini 0 (stOf m most))),.d (dWs (endT m.fin ((stOf m most)-1) (stOf m most))),.osl 111 p3 (groups m.arcs) c3] rfl (.cons vR (.cons vR (.cons vR (.cons vR (.cons vR (.cons (frz_osl (by rw [lm9];exact hw2.symm) rfl) .rq1)))))) ?_)
    refine AW.freeze 111 rfl (AW.boxW 10 [.d (dI 1),.d (.sl []),.d (dI sym),.d (dI (stOf m most)),.d (dWs (endT m.ini 0 (stOf m most))),.d (dWs (endT m.fin ((stOf m most)-1) (stOf m most))),.d (dArcs (arcT m sym (stOf m most) (groups m.arcs)))] rfl (.cons vR (.cons vR (.cons vR (.cons vR (.cons vR (.cons vR (.cons (frz_osl (by rw [lm9];exact hw3.symm) rfl) .nil))))))) ?_)
    refine AW.to [(8,.ptr 8 b8 0),(10,.ptr 10 b10 0)] [(8,.box b8 T.Auto [.d (dI 0),.mt,.d (dI 0),.d (dI 0),.mt,.mt,.mt]),(10,.box b10 T.Auto [.d (dI 1),.d (.sl []),.d (dI sym),.d (dI (stOf m most)),.d (dWs (endT m.ini 0 (stOf m most))),.d (dWs (endT m.fin ((stOf m most)-1) (stOf m most))),.d (dArcs (arcT m sym (stOf m most) (groups m.arcs)))])] (.cons VLe.ptr (.cons VLe.ptr .nil)) (.cons rfl (.cons rfl .nil)) ?_
    exact AW.rg hE rfl (ldPA ag.Auto rfl rfl (vs:=[_,_,_,_,_,_,_]) rfl (nb9 rfl) (sto sz.Auto rfl rfl rfl rfl rfl (nb9 rfl) (cells2:=[_,_,_,_,_,_,_]) rfl (OL.nil (AW.ret (RetQ.r ⟨_,.cellA rfl rfl ag.Auto (nb9 rfl) .nil,.ag (.cons (.le vR) (.cons (.le vR) (.cons (.le vR) (.cons (.le vR) (.cons (.le vR) (.cons (.le vR) (.cons (.le vR) .nil)))))))⟩)))))
  ·have ha:¬ 4*g+3<m.arcs.length:=by have:=df9 ha;omega
   obtain rfl:g=groups m.arcs:=groups_f h4 (.inl ha)
   refine mvD rfl (OL.nd rfl (OL.nd rfl (pkF rfl rfl (OL.nil (cnF rfl ?_)))))
   refine AW.exit (AW.seq ?_)
   have hw1:=endT_len m.ini 0 (stOf m most)
   have hw2:=endT_len m.fin ((stOf m most)-1) (stOf m most)
   have hw3:=arcT_len m sym (stOf m most) (groups m.arcs)
   refine AW.freeze 37 rfl (AW.boxW 10 [.d (dI 1),.d (.sl []),.d (dI sym),.d (dI (stOf m most)),.d (dWs (endT m.ini 0 (stOf m most))),.osl 49 p2 (stOf m most) c2,.osl 111 p3 (groups m.arcs) c3] rfl (.cons vR (.cons vR (.cons vR (.cons vR (.cons (frz_osl (by rw [lm9];exact hw1.symm) rfl) .rq2))))) ?_)
   refine AW.freeze 49 rfl (AW.boxW 10 [.d (dI 1),.d (.sl []),.d (dI sym),.d (dI (stOf m most)),.d (dWs (endT m.ini 0 (stOf m most))),.d (dWs (endT m.fin ((stOf m most)-1) (stOf m most))),.osl 111 p3 (groups m.arcs) c3] rfl (.cons vR (.cons vR (.cons vR (.cons vR (.cons vR (.cons (frz_osl (by rw [lm9];exact hw2.symm) rfl) .rq1)))))) ?_)
   refine AW.freeze 111 rfl (AW.boxW 10 [.d (dI 1),.d (.sl []),.d (dI sym),.d (dI (stOf m most)),.d (dWs (endT m.ini 0 (stOf m most))),.d (dWs (endT m.fin ((stOf m most)-1) (stOf m most))),.d (dArcs (arcT m sym (stOf m most) (groups m.arcs)))] rfl (.cons vR (.cons vR (.cons vR (.cons vR (.cons vR (.cons vR (.cons (frz_osl (by rw [lm9];exact hw3.symm) rfl) .nil))))))) ?_)
   refine AW.to [(8,.ptr 8 b8 0),(10,.ptr 10 b10 0)] [(8,.box b8 T.Auto [.d (dI 0),.mt,.d (dI 0),.d (dI 0),.mt,.mt,.mt]),(10,.box b10 T.Auto [.d (dI 1),.d (.sl []),.d (dI sym),.d (dI (stOf m most)),.d (dWs (endT m.ini 0 (stOf m most))),.d (dWs (endT m.fin ((stOf m most)-1) (stOf m most))),.d (dArcs (arcT m sym (stOf m most) (groups m.arcs)))])] (.cons VLe.ptr (.cons VLe.ptr .nil)) (.cons rfl (.cons rfl .nil)) ?_
   exact AW.rg hE rfl (ldPA ag.Auto rfl rfl (vs:=[_,_,_,_,_,_,_]) rfl (nb9 rfl) (sto sz.Auto rfl rfl rfl rfl rfl (nb9 rfl) (cells2:=[_,_,_,_,_,_,_]) rfl (OL.nil (AW.ret (RetQ.r ⟨_,.cellA rfl rfl ag.Auto (nb9 rfl) .nil,.ag (.cons (.le vR) (.cons (.le vR) (.cons (.le vR) (.cons (.le vR) (.cons (.le vR) (.cons (.le vR) (.cons (.le vR) .nil)))))))⟩)))))
end Go.Proofs.YtmcoihfkniccdaaGreatDoor
