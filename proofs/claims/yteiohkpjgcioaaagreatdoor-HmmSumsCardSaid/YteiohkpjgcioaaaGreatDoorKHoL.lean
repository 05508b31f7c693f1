/-
  The law HmmSums walked (printed by mk2.py).
-/
import Derived.Test.YteiohkpjgcioaaaGreatDoorKHoD
import Derived.Test.YteiohkpjgcioaaaGreatDoorKMixA
import Derived.Test.YteiohkpjgcioaaaGreatDoorKAlg45
import Derived.Test.YteiohkpjgcioaaaGreatDoorKMod37c
import Derived.Test.YteiohkpjgcioaaaGreatDoorKHxM
import Derived.Test.YteiohkpjgcioaaaGreatDoorKHxG
import Derived.Test.YteiohkpjgcioaaaGreatDoorKHmmB
import Derived.Test.YteiohkpjgcioaaaGreatDoorKMod120
set_option linter.unusedVariables false
set_option linter.unusedSimpArgs false
namespace Go.Proofs.YteiohkpjgcioaaaGreatDoor
open Go Go.AL
def ownT (n:Nat):List Int:=(List.range n).map fun i:Nat=>(i:Int)
theorem ownT_get {n i:Nat}(h:i<n):(ownT n).getD i 0=(i:Int):=map_getD_range _ _ h
section
variable {L:List Int}{cs cy most:Int}
theorem mix_st (h:1≤most∧most≤4):(mixHM L cs cy most).st≤most.toNat:=by
 have:=(chSt_range (cs:=cs) (most:=most) ⟨h.1,by omega⟩).2.1
 show chSt cs most≤most.toNat
 omega
theorem mix_sym:1≤(mixHM L cs cy most).sym∧(mixHM L cs cy most).sym≤3:=⟨(chSym_range cy).1,(chSym_range cy).2.1⟩
theorem mix_small (h:1≤most∧most≤4):sz (mixHM L cs cy most).empty≤9∧Small 9 (mixHM L cs cy most).ini∧(∀ i,Small 9 ((mixHM L cs cy most).trans.getD i []))∧Small 9 (mixHM L cs cy most).stop∧∀ i,Small 9 ((mixHM L cs cy most).emit.getD i []):=by
 have hm:=mix_ok (L:=L) (cs:=cs) (cy:=cy) (most:=most) ⟨h.1,by omega⟩
 have s2:=(chSt_range (cs:=cs) (most:=most) ⟨h.1,by omega⟩).2.1
 have hz:=shares_small L (chSt cs most+1) 0 (by omega) (by omega)
 have out:∀ (l:List (List Rat)) (i:Nat),¬ i<l.length→l.getD i []=[]:=fun l i hi=>getD_ge (by omega)
 refine ⟨Nat.le_trans (hz _ (getD_mem (by rw [shares_len];omega) _)) (by decide),fun q hq=>Nat.le_trans (hz q (List.mem_of_mem_take hq)) (by decide),fun i=>?_,fun q hq=>?_,fun i=>?_⟩
 ·show Small 9 ((mixMS L (chSt cs most) (chSym cy) (chSt cs most)).trans.getD i [])
  by_cases hi:i<chSt cs most
  ·exact (hm.rowT i hi).2.2.1.mono (by omega)
  ·rw [out _ _ (by rw [hm.lt];exact hi)];exact Small.nil
 ·obtain ⟨i,hi,rfl⟩:=mem_getD hq 0
  exact Nat.le_trans (hm.rowT i (by rw [← hm.ls];exact hi)).2.2.2.2.1 (by omega)
 ·show Small 9 ((mixMS L (chSt cs most) (chSym cy) (chSt cs most)).emit.getD i [])
  by_cases hi:i<chSt cs most
  ·exact (hm.rowE i hi).2.2.1.mono (by decide)
  ·rw [out _ _ (by rw [hm.le];exact hi)];exact Small.nil
theorem thB9 {n:Nat}(h:n≤4):thB 9 n≤1024:=Nat.le_trans (thB_mono h) (by decide)
theorem mix_emit {z:List Int}(h:1≤most∧most≤4)(hn:1≤(lefS (mixHM L cs cy most)).length)(tl:z.length=(lefS (mixHM L cs cy most)).length)(tr:∀ i,i<(lefS (mixHM L cs cy most)).length→0≤z.getD i 0∧z.getD i 0<(lefS (mixHM L cs cy most)).length)(tt:∀ i j,i<(lefS (mixHM L cs cy most)).length→j<i→z.getD i 0=z.getD j 0→(mixHM L cs cy most).emit.getD ((lefS (mixHM L cs cy most)).getD i 0) []=(mixHM L cs cy most).emit.getD ((lefS (mixHM L cs cy most)).getD j 0) []) :
  (emHM (mixHM L cs cy most) (ascO (mixHM L cs cy most)) z).Good (thB 9 (mixHM L cs cy most).st):=by
 obtain ⟨f,sm,_⟩:=mix_form (L:=L) (cs:=cs) (cy:=cy) (most:=most) ⟨h.1,by omega⟩
 obtain ⟨z1,z2,z3,z4,z5⟩:=mix_small (L:=L) (cs:=cs) (cy:=cy) h
 exact emHM_good f sm (mix_ord ⟨h.1,by omega⟩) z1 z2 z3 z4 z5 (by decide) (thB9 (Nat.le_trans (mix_st h) (by omega))) hn tl tr tt
end
structure SumOK (s:Nat) (a:Au) (f:List Int→Rat):Prop where
 nn:∀ w,0≤f w
 su:∀ k,sumK f s k≤1
 sz:∀ w,w.length≤4→Go.AL.sz (f w)≤16010000
theorem sumK_sz {f:List Int→Rat}{s k:Nat}(hk:k≤40)(hz:∀ w,w.length≤4→sz (f w)≤16010000):sz (sumK f s k)≤700000000:=by
 unfold sumK
 have h:=lsum_szA (f:=f) (C:=16010000) (l:=(uptoW s 5).take k) fun x hx=>hz x (by have:=(upto_in s 5 x (List.mem_of_mem_take hx)).1;omega)
 have h2:((uptoW s 5).take k).length≤40:=by rw [List.length_take];omega
 have h3:=Nat.mul_le_mul_right (16010000+1) h2
 omega
theorem SumAuto {L:List Int}{cs cy most:Int}(h:1≤most∧most≤4):∃ (a:Au) (f:List Int→Rat),FSpec P F.hmm_Automaton [vHM (mixHM L cs cy most)] (.tup [vAu a,.d (dI 0)])∧SumOK (mixHM L cs cy most).sym a f ∧
  ∀ w,InW (mixHM L cs cy most).sym w→w.length≤4→FSpec P F.weigh_Weight [vAu a,.d (ints w)] (.tup [vW (f w),.d (dI 0)]):=by
 obtain ⟨f,sm,td⟩:=mix_form (L:=L) (cs:=cs) (cy:=cy) (most:=most) ⟨h.1,by omega⟩
 obtain ⟨z1,z2,z3,z4,z5⟩:=mix_small (L:=L) (cs:=cs) (cy:=cy) h
 have rk:=mix_ranked (L:=L) (cs:=cs) (cy:=cy) (most:=most) ⟨h.1,by omega⟩
 have od:=mix_ord (L:=L) (cs:=cs) (cy:=cy) (most:=most) ⟨h.1,by omega⟩
 have st4:(mixHM L cs cy most).st≤4:=Nat.le_trans (mix_st h) (by omega)
 have ms:=mix_sym (L:=L) (cs:=cs) (cy:=cy) (most:=most)
 have gd:=fun z=>mix_emit (L:=L) (cs:=cs) (cy:=cy) (z:=z) h
 generalize mixHM L cs cy most=m at *
 have hv:=hmm_ValidS f sm rk td
 rcases Nat.eq_zero_or_pos (lefS m).length with h0|hn
 ·have hnil:lefS m=[]:=en9 h0
  refine ⟨oneAu m.sym,nilF,AutomatonNone (h:=m) hv (EmitNone f sm rk td hnil) rfl,⟨nil_nn,fun k=>nil_sum _ k,fun w _=>Nat.le_trans (nilF_sz w) (by decide)⟩,fun w hw hl=>?_⟩
  have r:=WeightS (a:=oneAu m.sym) (oneAu_ok ms.1) oneAu_sz (show m.sym≤32 by omega) (show 1≤64 by decide) (w:=w) hw (by omega)
   (fw_small (oneAu_ok ms.1) (Nat.zero_le _) hw (C:=1) (by decide) (fun k _ j=>by
    rcases Nat.eq_zero_or_pos j with rfl|hj
    ·rw [(oneAu_vec _).2];exact nilF_sz _
    ·rw [getD_ge (by rw [(oneAu_vec _).1];exact hj),sz_zero];decide) (fun s i j=>by show sz (entA [] s i j)≤1;rw [entA_nil,sz_zero];decide) (.one (by rw [sz_one];decide)) (show 1≤64 by decide))
  rw [oneAu_ser] at r
  exact r
 ·have hll:=lef_len (h:=m)
  have gE:(emHM m (ascO m) (ownT (lefS m).length)).Good (thB 9 m.st):=gd _ hn (by unfold ownT;rw [lm9,List.length_range]) (fun i hi=>by rw [ownT_get hi];omega) (fun i j hi hj e=>by rw [ownT_get hi,ownT_get (by omega)] at e;omega)
  have fE:=gE.form
  have na:(autoHM (emHM m (ascO m) (ownT (lefS m).length))).arcs.length≤64:=by
   have h1:=arF_len (g:=emHM m (ascO m) (ownT (lefS m).length)) (k:=(lefS m).length+1) (n:=4) (m:=3) (fun j hj=>by rw [rowHA_len fE (show j≤(lefS m).length by omega)];show (lefS m).length≤4;omega) (fun i=>by
    rcases Nat.lt_or_ge i (lefS m).length with hi|hi
    ·rw [fE.erow i hi];exact ms.2
    ·rw [getD_ge (by rw [fE.emit];exact hi)];exact Nat.zero_le _)
   show (arF _ ((lefS m).length+1)).length≤64
   have h2:=Nat.mul_le_mul_right (4*3) (show (lefS m).length+1≤5 by omega)
   omega
  refine ⟨normOf (autoHM (emHM m (ascO m) (ownT (lefS m).length))),likF (emHM m (ascO m) (ownT (lefS m).length)),AutomatonG (h0:=m) hv (EmitG f sm rk td od z1 z2 z3 z4 z5 (by decide) (Nat.le_trans (thB9 st4) (by decide)) hn) rfl gE.w na,⟨fun w=>lik_nn gE w,fun k=>lik_sum gE k,fun w hl=>lik_sz fE ⟨show (lefS m).length≤4 by omega,by omega⟩⟩,fun w hw hl=>?_⟩
  exact WeightHS (C:=4000000) gE.w na (w:=w) hw (by omega) (by decide) (by have:=thB9 st4;omega) fun k hk t j ht=>(fwd_szB fE (w:=w.take k) ⟨show (lefS m).length≤4 by omega,by rw [List.length_take];omega⟩ ht).get (by decide) j
theorem ref33_Whole {n:Int}(hn:-9223372036854775808≤n∧n≤9223372036854775807):FSpec P F.ref33_Whole [.d (dI n)] (vQ (n:Rat)):=by
 refine FSpec.intro fn.ref33_Whole (by rfl) (by rfl) (nb9 (by rfl)) fun E hE=>(AW.sg hE rfl (al z.Rat rfl fun b2=>(OL.nil (AW.sg hE rfl (mvD rfl (clv rfl .rq2 (ref_Make hn (by decide) (by decide)) ?_))))))
 rw [show (n:Rat) / ((1:Int):Rat)=(n:Rat) by rw [show ((1:Int):Rat)=1 from rfl];grind]
 refine mvT rfl (ex rfl rfl (ex rfl rfl (al z.Rat rfl fun b3=>(sto sz.Rat rfl rfl rfl rfl rfl (nb9 rfl) (cells2:=[_,_,_]) rfl (asD rfl (OL.nil (AW.sg hE rfl ?_)))))))
 exact ldPA ag.Rat rfl rfl (vs:=[_,_,_]) rfl (nb9 rfl) (sto sz.Rat rfl rfl rfl rfl rfl (nb9 rfl) (cells2:=[_,_,_]) rfl (OL.nil (AW.ret (RetQ.r ⟨_,.cellA rfl rfl ag.Rat (nb9 rfl) .nil,.ag (.cons (.le vR) (.cons (.le vR) (.cons (.le vR) .nil)))⟩))))
theorem ref33_Whole1:FSpec P F.ref33_Whole [.d (dI 1)] (vQ 1):=by
 have h:=ref33_Whole (n:=1) (by decide)
 rw [show ((1:Int):Rat)=1 from rfl] at h;exact h
theorem ref_half:FSpec P F.ref01_Make [.d (dI 1),.d (dI 2)] (.tup [vQ (1 / 2),.d (dI 0)]):=by
 have h:=ref_Make (n:=1) (d:=2) (by decide) (by decide) (by decide)
 rw [half_eq] at h;exact h
theorem lt3 {m:Nat}{ops:Array Oper}{K:S→Prop}{s:S}{dst:Option Nat}{ty:Nat}{pos:String}{after:Array Edge}{r:List Oper}{t e sz by_:Nat}{x x2 x3:Operand}{y y2 y3:D}(hT:SliceT P t e sz by_)(hx:VD (s.ev x) y)(hx2:VD (s.ev x2) y2)(hx3:VD (s.ev x3) y3)(hs:y.cells.length=sz∧y2.cells.length=sz∧y3.cells.length=sz)(h24:sz≤4194304)(h:OL P m ops K r (s.put dst (.d (.sl [y,y2,y3])))):OL P m ops K (⟨dst,.buildSlice t 3 #[(0,x),(1,x2),(2,x3)],ty,pos,after,none⟩ :: r) s:=OL.puren (.litD (xs:=[y,y2,y3]) hT rfl rfl (by omega) (by omega) (fun i p z hp hz=>by
 match i,hp,hz with
 | 0,hp,hz=>simp at hp hz;subst hp hz;exact hx
 | 1,hp,hz=>simp at hp hz;subst hp hz;exact hx2
 | 2,hp,hz=>simp at hp hz;subst hp hz;exact hx3
 | i+3,hp,hz=>simp at hp) (fun z hz=>by simp at hz;rcases hz with rfl|rfl|rfl;exact hs.1;exact hs.2.1;exact hs.2.2)) h
theorem eighth_q:((1:Int):Rat) / ((8:Int):Rat)=1 / 8:=by decide +kernel
theorem eighth_sz:sz (1 / 8)≤1:=by decide +kernel
theorem coinS_arcs:(autoHM coinS).arcs.length≤64:=by decide +kernel
theorem law33_halfQ {q:Rat}(hq:FSpec P F.ref01_Make [.d (dI 1),.d (dI 2)] (.tup [vQ q,.d (dI 0)])):FSpec P F.law33_half [] (vQ q):=by
 refine FSpec.intro fn.law33_half (by rfl) (by rfl) (nb9 (by rfl)) fun E hE=>(AW.sg hE rfl (al z.Rat rfl fun b0=>(OL.nil (AW.sg hE rfl (clv rfl vL (hq) (mvT rfl (ex rfl rfl ?_)))))))
 refine ex rfl rfl (al z.Rat rfl fun b1=>(sto sz.Rat rfl rfl rfl rfl rfl (nb9 rfl) (cells2:=[_,_,_]) rfl (asD rfl (OL.nil (AW.sg hE rfl (ldPA ag.Rat rfl rfl (vs:=[_,_,_]) rfl (nb9 rfl) (sto sz.Rat rfl rfl rfl rfl rfl (nb9 rfl) (cells2:=[_,_,_]) rfl ?_)))))))
 exact OL.nil (AW.ret (RetQ.r ⟨_,.cellA rfl rfl ag.Rat (nb9 rfl) .nil,.ag (.cons (.le vR) (.cons (.le vR) (.cons (.le vR) .nil)))⟩))
theorem law33_coinQ {q o:Rat}(hq:FSpec P F.law33_half [] (vQ q))(ho:FSpec P F.ref33_Whole [.d (dI 1)] (vQ o)):FSpec P F.law33_coin [] (vHM ⟨1,1,0,[o],[[q]],[q],[[o]],[false],[0]⟩):=by
 refine FSpec.intro fn.law33_coin (by rfl) (by rfl) (nb9 (by rfl)) fun E hE=>?_
 refine AW.sg hE rfl ?_
 refine al z.Hidden rfl fun b0=>?_
 refine OL.nil ?_
 refine AW.sg hE rfl ?_
 refine clv rfl vL (ho) ?_
 refine lt1 (y:=dQ _) sl.Rats vd_q rfl (by decide) ?_
 refine clv rfl (.nil) (hq) (lt1 (y:=dQ _) sl.Rats vd_q rfl (by decide) (lt1 sl.Ratss (VC.d _).vd rfl (by decide) (clv rfl (.nil) (hq) (lt1 (y:=dQ _) sl.Rats vd_q rfl (by decide) (clv rfl vL (ho) (lt1 (y:=dQ _) sl.Rats vd_q rfl (by decide) (lt1 sl.Ratss (VC.d _).vd rfl (by decide) ?_)))))))
 refine lt1 sl.bools (VC.d _).vd rfl (by decide) (lt1 sl.ints (VC.d _).vd rfl (by decide) ?_)
 refine bd2 (cs:=[_,_,_,_,_,_,_,_,_,_,_]) z.Hidden pl.Hidden (pvC (by exact evD rfl) (pvC (by exact evD rfl) (pvC (by exact evD rfl) (pvC (by exact evD rfl) (pvC (by exact evD rfl) (pvC (by exact evD rfl) (pvC (by exact evD rfl) (pvC (by exact evD rfl) (pvN))))))))) (by rfl) ?_
 refine sto sz.Hidden rfl rfl rfl rfl rfl (nb9 rfl) (cells2:=[_,_,_,_,_,_,_,_,_,_,_]) rfl (OL.nil ?_)
 exact AW.ret (RetQ.r ⟨_,.cellA rfl rfl ag.Hidden (nb9 rfl) .nil,.ag (.cons (.le vR) (.cons (.le vR) (.cons (.le (vle_of_eq (by show _=V.d (dB (ofQ 0).neg);rw [ofQ_zero]))) (.cons (.le (by show VLe _ (.d (u32s (ofQ 0).num));rw [ofQ_zero];exact VLe.mt)) (.cons (.le (by show VLe _ (.d (u32s (ofQ 0).den));rw [ofQ_zero];exact VLe.mt)) (.cons (.le vR) (.cons (.le vR) (.cons (.le vR) (.cons (.le vR) (.cons (.le vR) (.cons (.le vR) .nil)))))))))))⟩)
theorem law33_half:FSpec P F.law33_half [] (vQ (1 / 2)):=law33_halfQ ref_half
theorem law33_coin:FSpec P F.law33_coin [] (vHM coinS):=law33_coinQ law33_half ref33_Whole1
theorem law33_knownQ {a:Au}{h:HM}{p:Rat}(hc:FSpec P F.law33_coin [] (vHM h))(ha:FSpec P F.hmm_Automaton [vHM h] (.tup [vAu a,.d (dI 0)]))(hw:FSpec P F.weigh_Weight [vAu a,.d (ints [1,1,1])] (.tup [vW p,.d (dI 0)]))(hx:FSpec P F.ref01_Make [.d (dI 1),.d (dI 8)] (.tup [vQ p,.d (dI 0)]))(hp:FSpec P F.hmm_Plain [vHM h] (.d (dB true)))(zp:sz p≤68719476736):FSpec P F.law33_known [] (.d (dB true)):=by
 refine FSpec.intro fn.law33_known (by rfl) (by rfl) (nb9 (by rfl)) fun E hE=>(AW.sg hE rfl (asD rfl (OL.nil (AW.sg hE rfl (clv rfl (.nil) (hc) (clv rfl vL (ha) (mvT rfl ?_)))))))
 refine ex rfl rfl (ex rfl rfl (al z.Auto rfl fun b1=>(sto sz.Auto rfl rfl rfl rfl rfl (nb9 rfl) (cells2:=[_,_,_,_,_,_,_]) rfl (asD rfl (OL.nil (AW.sg hE rfl (ldPA ag.Auto rfl rfl (vs:=[_,_,_,_,_,_,_]) rfl (nb9 rfl) ?_)))))))
 refine lt3 (y:=dI 1) (y2:=dI 1) (y3:=dI 1) sl.ints (VC.d _).vd (VC.d _).vd (VC.d _).vd ⟨rfl,rfl,rfl⟩ (by decide) (clv rfl vL (hw) (mvT rfl (ex rfl rfl (ex rfl rfl (al z.Weight rfl fun b3=>(sto sz.Weight rfl rfl rfl rfl rfl (nb9 rfl) (cells2:=[_,_,_,_,_,_,_,_]) rfl (asD rfl ?_)))))))
 refine OL.nil (AW.sg hE rfl (clv rfl vL (hx) (mvT rfl (ex rfl rfl (ex rfl rfl (al z.Rat rfl fun b5=>(sto sz.Rat rfl rfl rfl rfl rfl (nb9 rfl) (cells2:=[_,_,_]) rfl ?_)))))))
 refine asD rfl (OL.nil (AW.sg hE rfl (mvD rfl (c_eql rfl rfl (c:=true) (by exact decide_eq_true (by omega)) (mvD rfl (OL.yes rfl (mvD rfl ?_)))))))
 refine OL.yes rfl (c_eql rfl rfl (c:=true) (by exact decide_eq_true (by omega)) (pkT rfl rfl (mvD rfl (OL.yes rfl (faP fd.Weight_0 rfl rfl (OL.yes rfl (ldPA ag.Rat rfl rfl (vs:=[_,_,_]) rfl (nb9 rfl) ?_)))))))
 refine OL.yes rfl (ldPA ag.Rat rfl rfl (vs:=[_,_,_]) rfl (nb9 rfl) (OL.yes rfl (clv rfl vL (ref_CompareQ (x:=p) (y:=p) zp zp) ?_)))
 rw [show cmpQ p p=0 from cmpQ_eq.2 rfl]
 refine OL.yes rfl (c_eql rfl rfl (c:=true) (by exact decide_eq_true (by omega)) (pkT rfl rfl (mvD rfl (OL.yes rfl (clv rfl (.nil) (hc) (OL.yes rfl (clv rfl vL (hp) ?_)))))))
 exact pkT rfl rfl (asD rfl (OL.nil (AW.ret (RetQ.r ⟨_,.tmp rfl .nil,.le vR⟩))))
theorem law33_known:FSpec P F.law33_known [] (.d (dB true)):=by
 have h8:=ref_Make (n:=1) (d:=8) (by decide) (by decide) (by decide)
 rw [eighth_q] at h8
 have hw:=WeightHS (h:=coinS) (C:=2) coinS_good coinS_arcs (w:=oneW 3) (oneW_in 3) (by decide) (by decide) (by decide) fun k hk t j ht=>by
  rw [oneW_take (by rw [oneW_len] at hk;exact hk)] at ht ⊢
  exact Nat.le_trans (coinS_fwd (by rw [oneW_len] at hk;exact hk) ht) (by decide)
 rw [coinS_lik] at hw
 exact law33_knownQ law33_coin (AutomatonG (h0:=coinS) (h:=coinS) (hmm_Valid_okW coinS_good) (EmitX coinS_good) rfl coinS_good coinS_arcs) hw h8 (hmm_Plain_okW coinS_good) (Nat.le_trans eighth_sz (by decide))
theorem within_small {v m:Int}(h:0≤v∧v<m):within v m=v:=by
 unfold within;rw [if_neg (by omega),Int.emod_eq_of_lt h.1 h.2]
theorem num_set {j:Nat}{suf:List Int}{x:Int}:(List.replicate (j+1) 0++suf).set j x=List.replicate j 0++x::suf:=by
 rw [List.replicate_succ',List.append_assoc,List.set_append_right _ _ (by rw [List.length_replicate];exact Nat.le_refl _),List.length_replicate,Nat.sub_self];rfl
theorem numDW_in {s:Nat}(hs:1≤s):∀ n k,InW s (numDW s n k)
 | 0,_=>fun x hx=>by cases hx
 | n + 1, k => fun x hx => by
  rcases mp9 hx with h|h
  ·exact numDW_in hs n _ x h
  ·rw [ms9 h]
   have:=Nat.mod_lt k hs
   omega
set_option maxRecDepth 6000 in
set_option maxHeartbeats 1600000 in
theorem NumberW {k s:Nat}(hs:1≤s∧s≤3)(hk:k<40):FSpec P F.world_Number [.d (dI k),.d (dI s)] (.d (ints (numW s k))):=by
 refine FSpec.intro fn.world_Number (by rfl) (by rfl) (nb9 (by rfl)) fun E hE=>(AW.sg hE rfl (asM rfl (OL.nil (AW.sg hE rfl (mvD rfl (clv rfl .rq2 (world_Within (v:=(k:Int)) (m:=400) (by decide)) ?_))))))
 rw [within_small (v:=(k:Int)) (m:=400) (by omega)]
 refine asD rfl (OL.nil (AW.midK (α:=Unit) [(1,_),(4,_)] [] (fun _u=>[(0,.d (dI k))]) (fun _u=>[]) (fun _u=>True) (.cons (knD rfl) (.cons (knM rfl) .nil)) .nil ?_ ?_))
 ·refine AW.sg hE rfl (mvD rfl (c_lss rfl rfl rfl (OL.nil (AW.cond rfl (fun c12=>?_) (fun c12=>?_)))))
  ·have c12:=c12
   refine AW.rg hE rfl (mvD rfl (clv rfl .rq2 (world_Within (v:=(k:Int)) (m:=60) (by decide)) ?_))
   rw [within_small (v:=(k:Int)) (m:=60) (by omega)]
   exact asD rfl (OL.nil (AW.reach () ⟨trivial,Knows.app .rq2 .rq1,.nil⟩))
  ·have c12:=c12
   exact AW.skip (AW.reach () ⟨trivial,Knows.app .rq2 .rq1,.nil⟩)
 rintro ⟨⟩ hφ
 refine AW.sg hE rfl (asD rfl (OL.nil (AW.sg hE rfl (asD rfl (OL.nil (AW.seq (AW.block ?_)))))))
 refine AW.whileK (α:=Nat × Nat × Nat × Nat) [(1,_),(4,_)] [] (fun (g,k2,z9,n)=>[(0,.d (dI k2)),(5,.d (dI z9)),(6,.d (dI n))]) (fun (g,k2,z9,n)=>[]) (fun (g,k2,z9,n)=>numA s g k2 z9 n=numA s 400 k 1 0∧k2≤g∧1≤z9∧z9≤120∧n+k2≤40) (fun (g,k2,z9,n)=>k2) (400,k,1,0) (.cons (knD rfl) (.cons (knM rfl) .nil)) .nil ⟨⟨rfl,by omega,by decide,by decide,by omega⟩,.rq3,.nil⟩ ?_
 rintro ⟨g,k2,z9,n⟩ ⟨h1,h2,h3,h4,h5⟩
 have h1:numA s g k2 z9 n=numA s 400 k 1 0:=h1
 have h2:k2≤g:=h2
 have h3:1≤z9:=h3
 have h4:z9≤120:=h4
 have h5:n+k2≤40:=h5
 refine AW.seq (AW.sg hE rfl (mvD rfl (mvD rfl (c_geq rfl rfl rfl (OL.nil (AW.cond rfl (fun hc=>?_) (fun hc=>?_)))))))
 ·have hc:z9≤k2:=by have:=dt9 hc;omega
  have hz:z9*s≤120:=Nat.le_trans (Nat.mul_le_mul (show z9≤40 by omega) hs.2) (by decide)
  refine AW.skip (AW.block (AW.sg hE rfl (mvD rfl (mvD rfl (bo rfl rfl (bin_sub (c:=((k2-z9:Nat):Int)) (by omega) (wrap_i64 (by omega))) (asD rfl (OL.nil ?_)))))))
  refine AW.sg hE rfl (mvD rfl (mvD rfl (bo rfl rfl (bin_mul (c:=((z9*s:Nat):Int)) (by rw [Int.natCast_mul]) (wrap_i64 (by omega))) (asD rfl (OL.nil (AW.rg hE rfl (mvD rfl ?_)))))))
  refine add_i64 rfl rfl (by omega) (asD rfl (OL.nil ?_))
  exact AW.again (x:=(g,k2,z9,n)) (g-1,k2-z9,z9*s,n+1) (by (simp only [];omega)) ⟨⟨by obtain ⟨q,rfl⟩:∃ q,g=q+1:=⟨g-1,by omega⟩;rw [Nat.add_sub_cancel,← h1,numA,if_pos hc],by omega,Nat.mul_pos h3 hs.1,hz,by omega⟩,Knows.app .rq2 .rq3,.nil⟩
 ·have hc:¬ z9≤k2:=by have:=df9 hc;omega
  refine AW.exit (AW.seq ?_)
  have hnum:numA s 400 k 1 0=(k2,n):=by rw [← h1];cases g with|zero=>rfl|succ g=>rw [numA,if_neg hc]
  have hN:numW s k=numDW s n k2:=by unfold numW;rw [hnum]
  refine AW.rg hE rfl (mvD rfl (mkL dI 0 sl.ints z.int (.cons (VC.d _) .nil) (n:=n) (cp:=n) rfl rfl (Nat.le_refl _) (by omega) (by omega) rfl fun b27=>(asO rfl (OL.nil (AW.seq (AW.sg hE rfl (mvD rfl ?_)))))))
  refine bo rfl rfl (bin_sub (c:=(n:Int)-1) rfl (wrap_i64 (by omega))) (asD rfl (OL.nil (AW.block ?_)))
  refine AW.whileK (α:=Nat × Nat × List Int) [(1,_),(4,_),(7,_)] [] (fun (j,k3,suf)=>[(8,.d (dI ((j:Int)-1))),(0,.d (dI k3))]) (fun (j,k3,suf)=>[(27,.row b27 n T.int 1 ((List.replicate j 0++suf).map dI))]) (fun (j,k3,suf)=>j+suf.length=n∧k3≤40∧numDW s j k3++suf=numDW s n k2) (fun (j,k3,suf)=>j) (n,k2,[]) (.cons (knD rfl) (.cons (knM rfl) (.cons (knO rfl) .nil))) .nil ⟨⟨rfl,by omega,List.append_nil _⟩,.rq2,.cons (by show some (Blk.row b27 n T.int 1 (List.map dI (List.replicate n 0)))=some (Blk.row b27 n T.int 1 (List.map dI (List.replicate n 0++[])));rw [List.append_nil]) .nil⟩ ?_
  rintro ⟨j,k3,suf⟩ ⟨h6,h7,h8⟩
  have h6:j+suf.length=n:=h6
  have h7:k3≤40:=h7
  have h8:numDW s j k3++suf=numDW s n k2:=h8
  refine AW.seq (AW.sg hE rfl (mvD rfl (c_geq rfl rfl rfl (OL.nil (AW.cond rfl (fun hj=>?_) (fun hj=>?_))))))
  ·have hj:(0:Int)≤(j:Int)-1:=dt9 hj
   obtain ⟨j,rfl⟩:∃ q,j=q+1:=⟨j-1,by omega⟩
   refine AW.skip (AW.seq (AW.block (AW.seq ?_)))
   have hd:=Nat.div_le_self k3 s
   have hm:=Nat.mod_lt k3 hs.1
   refine AW.rg hE rfl (mvO rfl (mvD rfl (mvD rfl (mvD rfl (bo rfl rfl (remN k3 s rfl hs.1) (bo rfl rfl (bin_add (c:=((1+k3 % s:Nat):Int)) (by omega) (wrap_i64 (by omega))) (ixO (i:=j) sl.ints rfl rfl (by omega) (by omega) (by omega) ?_)))))))
   refine stE sz.int rfl (VC.d _).vd rfl rfl (by rw [lm9,la9,List.length_replicate];omega) (es2:=(List.replicate j 0++((1+k3 % s:Nat):Int)::suf).map dI) (by rw [← num_set,List.map_set]) (OL.nil (AW.rg hE rfl (mvD rfl (mvD rfl (bo rfl rfl (quoN k3 s rfl (by omega) hs.1) (asD rfl (OL.nil ?_)))))))
   refine AW.rg hE rfl (mvD rfl (bo rfl rfl (bin_sub (c:=(j:Int)-1) (by omega) (wrap_i64 (by omega))) (asD rfl (OL.nil ?_))))
   exact AW.again (x:=(j+1,k3,suf)) (j,k3 / s,(((1+k3 % s:Nat):Int)::suf)) (by (simp only [];omega)) ⟨⟨by rw [List.length_cons];omega,by omega,by rw [← h8,numDW,List.append_assoc];rfl⟩,Knows.app .rq3 .rq2,.cons rfl .nil⟩
  ·have hj:¬ (0:Int)≤(j:Int)-1:=df9 hj
   refine AW.exit (AW.seq ?_)
   obtain rfl:j=0:=by omega
   have hfin:suf=numW s k:=by rw [hN,← h8];rfl
   refine AW.freeze 27 rfl (AW.to [(7,.d (ints (numW s k)))] [] (.cons (frz_osl (by rw [lm9,la9,List.length_replicate];omega) (by rw [← hfin];rfl)) .nil) .nil ?_)
   exact AW.rg hE rfl (mvD rfl (asD rfl (OL.nil (AW.ret (RetQ.r ⟨_,.tmp rfl .nil,.le vR⟩)))))
theorem numW_in {s k:Nat}(hs:1≤s):InW s (numW s k):=numDW_in hs _ _
set_option maxRecDepth 8000 in
set_option maxHeartbeats 3200000 in
theorem law33_HmmSumsQ {m:HM}{a:Au}{f:List Int→Rat}{L:List Int}{cs cy lv:Int}(hc:FSpec P F.world_Chain_Mixed [.ag [.d (dI cs),.d (dI cy),.d (ints L)],.d (dI 3)] (vHM m))(ha:FSpec P F.hmm_Automaton [vHM m] (.tup [vAu a,.d (dI 0)]))(so:SumOK m.sym a f)(hw:∀ w,InW m.sym w→w.length≤4→FSpec P F.weigh_Weight [vAu a,.d (ints w)] (.tup [vW (f w),.d (dI 0)]))(sy:1≤m.sym∧m.sym≤3):FSpec P F.law33_HmmSums [.ag [.d (dI cs),.d (dI cy),.d (ints L)],.d (dI lv)] (.d (dB true)):=by
 refine FSpec.intro fn.law33_HmmSums (by rfl) (by rfl) (nb9 (by rfl)) fun E hE=>(AW.sg hE rfl (bxA rfl rfl fun b2=>(asD rfl (OL.nil (AW.sg hE rfl (ldPA ag.Chain rfl rfl (vs:=[_,_,_]) rfl (nb9 rfl) (clv rfl vL (hc) ?_)))))))
 refine al z.Hidden rfl fun b5=>(sto sz.Hidden rfl rfl rfl rfl rfl (nb9 rfl) (cells2:=[_,_,_,_,_,_,_,_,_,_,_]) rfl (OL.nil (AW.sg hE rfl (ldPA ag.Hidden rfl rfl (vs:=[_,_,_,_,_,_,_,_,_,_,_]) rfl (nb9 rfl) (clv rfl vL (ha) (mvT rfl (ex rfl rfl ?_)))))))
 refine ex rfl rfl (al z.Auto rfl fun b6=>(sto sz.Auto rfl rfl rfl rfl rfl (nb9 rfl) (cells2:=[_,_,_,_,_,_,_]) rfl (asD rfl (OL.nil (AW.sg hE rfl (mvD rfl (clv rfl .rq2 (world_Within (v:=lv) (m:=4) (by decide)) ?_)))))))
 obtain ⟨n,hn⟩:∃ n:Nat,within lv 4=(n:Int):=⟨_,(Int.toNat_of_nonneg (within_range (by decide)).1).symm⟩
 have hn4:n<4:=by have:=(within_range (v:=lv) (m:=4) (by decide)).2;omega
 rw [hn]
 refine asD rfl (OL.nil (AW.sg hE rfl (bd z.Rat pl.Rat (cs:=[_,_,_]) rfl (bd z.Rat pl.Rat (cs:=[_,_,_]) rfl (al z.Rat rfl fun b8=>(al z.Rat rfl fun b9=>(sto sz.Rat rfl rfl rfl rfl rfl (nb9 rfl) (cells2:=[_,_,_]) rfl ?_)))))))
 refine sto sz.Rat rfl rfl rfl rfl rfl (nb9 rfl) (cells2:=[_,_,_]) rfl (OL.nil (AW.midK (α:=Nat) [(7,_),(8,_)] [] (fun k=>[]) (fun k=>[(8,.box b8 T.Rat (cellsQ (sumK f m.sym k)))]) (fun k=>k≤40) (.cons (knD rfl) (.cons (knP rfl) .nil)) .nil ?_ ?_))
 ·refine AW.sg hE rfl (asD rfl (OL.nil (AW.block (AW.boxW 8 (cellsQ 0) rfl vles_q (AW.boxW 9 (cellsQ 0) rfl vles_q ?_)))))
  refine AW.whileK (α:=Nat) [(1,_),(5,_),(6,_),(7,_),(8,_),(9,_)] [(5,_),(6,_)] (fun k=>[(10,.d (dI k))]) (fun k=>[(8,.box b8 T.Rat (cellsQ (sumK f m.sym k))),(9,.box b9 T.Rat (cellsQ (sumK f m.sym k)))]) (fun k=>k≤40) (fun k=>40-k) 0 (.cons (knD rfl) (.cons (knP rfl) (.cons (knP rfl) (.cons (knD rfl) (.cons (knP rfl) (.cons (knP rfl) .nil)))))) (.cons (owB rfl) (.cons (owB rfl) .nil)) ⟨Nat.zero_le _,.rq1,.cons rfl (.cons rfl .nil)⟩ ?_
  intro k h1
  have h1:k≤40:=h1
  have zs:=sumK_sz (s:=m.sym) h1 so.sz
  refine AW.seq (AW.sg hE rfl (mvD rfl (c_lss rfl rfl rfl (OL.nil (AW.cond rfl (fun hk=>?_) (fun hk=>?_))))))
  ·have hk:k<40:=by have:=dt9 hk;omega
   have zs2:=sumK_sz (s:=m.sym) (show k+1≤40 by omega) so.sz
   refine AW.skip (AW.seq (AW.block (AW.sg hE rfl (mvD rfl (faP fd.Hidden_0 rfl rfl (ldPC ce.int rfl rfl rfl (clv rfl vL (NumberW (k:=k) (s:=m.sym) sy hk) ?_)))))))
   refine asD rfl (OL.nil (AW.seq (AW.sg hE rfl (mvD rfl (lnL sl.ints rfl rfl (mvD rfl (c_gtr rfl rfl rfl ?_)))))))
   refine OL.nil (AW.cond rfl (fun hl=>?_) (fun hl=>?_))
   ·have hl:=hl
    exact AW.exit (AW.reach k ⟨h1,Knows.app .rq2 (.nil),.cons rfl .nil⟩)
   ·have hl:(numW m.sym k).length≤4:=by have:=df9 hl;omega
    have zw:=so.sz (numW m.sym k) hl
    have hss:(sumK f m.sym (k+1))=(sumK f m.sym k)+(f (numW m.sym k)):=sumK_succ sy.1 sy.2 hk hl
    have hge:(sumK f m.sym k)≤(sumK f m.sym (k+1)):=by rw [hss];have:=Rat.add_le_add_left (c:=(sumK f m.sym k)) |>.2 (so.nn (numW m.sym k));rwa [Rat.add_zero] at this
    refine AW.skip (AW.sg hE rfl (ldPA ag.Auto rfl rfl (vs:=[_,_,_,_,_,_,_]) rfl (nb9 rfl) (mvD rfl (clv rfl vL (hw (numW m.sym k) (numW_in sy.1) hl) (mvT rfl (ex rfl rfl (ex rfl rfl ?_)))))))
    refine al z.Weight rfl fun b12=>(sto sz.Weight rfl rfl rfl rfl rfl (nb9 rfl) (cells2:=[_,_,_,_,_,_,_,_]) rfl (asD rfl (OL.nil (AW.seq (AW.sg hE rfl (mvD rfl (c_neq rfl rfl (c:=false) (by exact cne_f (by omega)) ?_)))))))
    refine mvD rfl (OL.yes rfl (faP fd.Weight_0 rfl rfl (OL.yes rfl (ldPA ag.Rat rfl rfl (vs:=[_,_,_]) rfl (nb9 rfl) (OL.yes rfl (clv rfl vL (ref_SignQ (x:=(f (numW m.sym k))) (by omega)) (OL.yes rfl ?_)))))))
    refine c_lss rfl rfl (c:=false) (decide_eq_false (by have:=sgnQ_nonneg.2 (so.nn (numW m.sym k));omega)) (pkF rfl rfl (OL.nil (cnF rfl ?_)))
    refine AW.skip (AW.sg hE rfl (ldPA ag.Rat rfl rfl (vs:=[_,_,_]) rfl (nb9 rfl) (faP fd.Weight_0 rfl rfl (ldPA ag.Rat rfl rfl (vs:=[_,_,_]) rfl (nb9 rfl) (clv rfl vL (ref_AddQ (x:=(sumK f m.sym k)) (y:=(f (numW m.sym k))) (by omega) (by omega)) ?_)))))
    rw [← hss]
    refine sto sz.Rat rfl rfl rfl rfl rfl (nb9 rfl) (cells2:=[_,_,_]) rfl (OL.nil (AW.seq (AW.sg hE rfl (ldPA ag.Rat rfl rfl (vs:=[_,_,_]) rfl (nb9 rfl) (ldPA ag.Rat rfl rfl (vs:=[_,_,_]) rfl (nb9 rfl) (clv rfl vL (ref_CompareQ (x:=(sumK f m.sym (k+1))) (y:=(sumK f m.sym k)) (by omega) (by omega)) (c_lss rfl rfl (c:=false) (decide_eq_false fun e=>absurd (cmpQ_neg.1 e) (Rat.not_lt.2 hge)) ?_)))))))
    refine OL.nil (cnF rfl ?_)
    refine AW.skip (AW.rg hE rfl (ldPA ag.Rat rfl rfl (vs:=[_,_,_]) rfl (nb9 rfl) (sto sz.Rat rfl rfl rfl rfl rfl (nb9 rfl) (cells2:=[_,_,_]) rfl (OL.nil (AW.rg hE rfl (mvD rfl (add_i64 rfl rfl (by omega) ?_)))))))
    refine asD rfl (OL.nil ?_)
    exact AW.again (x:=k) (k+1) (by omega) ⟨by omega,Knows.app .rq6 .rq1,Owns.app (.cons rfl (.cons rfl .nil)) (.cons rfl (.cons rfl .nil))⟩
  ·have hk:¬ k<40:=by have:=df9 hk;omega
   exact AW.exit (AW.reach k ⟨h1,Knows.app .rq2 (.nil),.cons rfl .nil⟩)
 intro k h1
 have h1:k≤40:=h1
 have zs:=sumK_sz (s:=m.sym) h1 so.sz
 refine AW.seq (AW.dg 1 [0,1,2,3,4,5,6,7,8,9,10,11] order_free hE rfl (by kernel_rfl) (OI.of_OL (os:=[_,_,_,_,_,_,_,_,_,_,_,_]) rfl ?_))
 refine clv rfl (.nil) (law33_known) (mvD rfl (OL.yes rfl (mvD rfl (OL.yes rfl (c_eql rfl rfl (c:=true) (by exact decide_eq_true (by omega)) (pkT rfl rfl (mvD rfl ?_)))))))
 refine OL.yes rfl (ldPA ag.Rat rfl rfl (vs:=[_,_,_]) rfl (nb9 rfl) (OL.yes rfl (clv rfl vL (ref33_Whole1) (OL.yes rfl (clv rfl vL (ref_CompareQ (x:=(sumK f m.sym k)) (y:=1) (by omega) (by rw [sz_one];decide)) (OL.yes rfl (c_leq rfl rfl (c:=true) (decide_eq_true (cmpQ_le.2 (so.su k))) ?_)))))))
 exact pkT rfl rfl (asD rfl (OL.nil (AW.ret (RetQ.r ⟨_,.tmp rfl .nil,.le vR⟩))))
theorem law_HmmSums {L:List Int}{cs cy lv:Int}(nL:L.length≤9223372036854775807):FSpec P F.law33_HmmSums [.ag [.d (dI cs),.d (dI cy),.d (ints L)],.d (dI lv)] (.d (dB true)):=by
 have hc:=chain_Mixed (L:=L) (cs:=cs) (cy:=cy) (most:=3) (by decide) nL
 obtain ⟨a,f,ha,so,hw⟩:=SumAuto (L:=L) (cs:=cs) (cy:=cy) (most:=3) (by decide)
 exact law33_HmmSumsQ hc ha so hw mix_sym
end Go.Proofs.YteiohkpjgcioaaaGreatDoor
