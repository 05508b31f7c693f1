/-
  M, chapter 23: a row that is turned element by element; reductions step by step.
-/
import Derived.Test.YtmcoihfkniccdaaGreatDoorKWkJ
import Derived.Test.YtmcoihfkniccdaaGreatDoorKMod85
set_option linter.unusedVariables false
set_option linter.unusedSimpArgs false
namespace Go.Proofs.YtmcoihfkniccdaaGreatDoor
open Go Go.AL
def firstI (w:List Rat):Int:=if firstP w<w.length then (firstP w:Int) else -1
theorem first_at {w:List Rat}{i:Nat}(hi:i<w.length)(h:∀ j,j<i→w.getD j 0=0)(h0:w.getD i 0≠0):firstI w=(i:Int):=by
 have e:firstP w=i:=by
  rcases Nat.lt_trichotomy (firstP w) i with k|k|k
  ·exact absurd (h _ k) (firstP_nz (by omega))
  ·exact k
  ·exact absurd (firstP_before k) h0
 unfold firstI
 rw [e,if_pos hi]
theorem first_no {w:List Rat}(h:∀ j,j<w.length→w.getD j 0=0):firstI w = -1:=by
 unfold firstI
 rw [if_neg (by rw [firstP_all.2 h];exact Nat.lt_irrefl _)]
def numF (mi:Bool)(l:List Rat):List Rat:=l.map fun x=>if mi=true then -x else x
theorem numF_len (mi:Bool)(l:List Rat):(numF mi l).length=l.length:=by simp [numF]
theorem numF_get {mi:Bool}{l:List Rat}{i:Nat}(hi:i<l.length):(numF mi l).getD i 0=if mi=true then -(l.getD i 0) else l.getD i 0:=by
 unfold numF
 rw [gd9,List.getElem?_map,gd9,ge9 hi];rfl
theorem dot_succ {u v:List Rat}(i:Nat):dotM i (vf u) (vf v)+u.getD i 0*v.getD i 0=dotM (i+1) (vf u) (vf v):=rfl
theorem dot_skip {u v:List Rat}{i:Nat}(h:u.getD i 0=0):dotM (i+1) (vf u) (vf v)=dotM i (vf u) (vf v):=by rw [← dot_succ,h,Rat.zero_mul,Rat.add_zero]
theorem stepC_rep {m:Mach}{v:List Rat}{s:Nat}:stepC m v s 0 0=List.replicate m.n 0:=by
 rw [stepC_zero,List.map_const',List.length_range]
theorem rational_SubQ {x y:Rat}(hx:sz x≤68719476736)(hy:sz y≤68719476736):FSpec P F.rational_Sub [vQ x,vQ y] (vQ (x-y)):=by
 have h:=rational_Sub (x:=ofQ x) (y:=ofQ y) (ofQ_ok (by omega)) (ofQ_ok (by omega))
 rw [q_ofQ,q_ofQ] at h;exact h
theorem rational_DivQ {x y:Rat}(hx:sz x≤68719476736)(hy:sz y≤68719476736)(h0:y≠0):FSpec P F.rational_Div [vQ x,vQ y] (.tup [vQ (x / y),.d (dI 0)]):=by
 have h:=rational_Div (x:=ofQ x) (y:=ofQ y) (ofQ_ok (by omega)) (ofQ_ok (by omega))
 rw [q_ofQ,q_ofQ,if_neg h0,if_neg h0] at h;exact h
abbrev dRows (m:Mach)(L:List (List Int)):D:=.sl (L.map (dRow m))
theorem rational_NegQ {q:Rat}(hz:sz q≤68719476745):FSpec P F.rational_Neg [vQ q] (vQ (-q)):=by
 have sn:=sz_num q
 have sd:=sz_den q
 refine FSpec.intro fn.rational_Neg (by rfl) (by rfl) (nb9 (by rfl)) fun E hE=>(AW.sg hE rfl (bxA rfl rfl fun b1=>(al z.Rat rfl fun b2=>(OL.nil (AW.sg hE rfl (ldPA ag.Rat rfl rfl (vs:=[_,_,_]) rfl (nb9 rfl) (clv rfl vL (rational_of (ofQ_ok (q:=q) (by omega))) ?_)))))))
 rw [q_ofQ]
 refine clv rfl vL (fraction_negative) (clv rfl vL (fraction_rat (s:=!decide (q.num<0)) (n:=q.num.natAbs) (d:=q.den) (by omega) (by omega) q.den_nz) ?_)
 rw [← fr_neg,fr_ofQ]
 exact sto sz.Rat rfl rfl rfl rfl rfl (nb9 rfl) (cells2:=[_,_,_]) rfl (OL.nil (AW.ret (RetQ.r ⟨_,.cellA rfl rfl ag.Rat (nb9 rfl) .nil,.ag (.cons (.le vR) (.cons (.le vR) (.cons (.le vR) .nil)))⟩)))
theorem DotQ {u v:List Rat}{n:Nat}(hu:u.length=n)(hv:v.length=n)(n6:n≤6)(zu:∀ i,sz (u.getD i 0)≤5764801)(zv:∀ i,sz (v.getD i 0)≤5764801):FSpec P F.span_Dot [.d (dQs u),.d (dQs v)] (vQ (dotM n (vf u) (vf v))):=by
 subst hu
 refine FSpec.intro fn.span_Dot (by rfl) (by rfl) (nb9 (by rfl)) fun E hE=>(AW.sg hE rfl (al z.Rat rfl fun b4=>(OL.nil (AW.sg hE rfl (al z.Rat rfl fun b5=>(OL.nil (AW.seq ?_)))))))
 refine AW.sg hE rfl (mvD rfl (lnL sl.Rats rfl rfl (mvD rfl (OL.nil (AW.block (AW.boxW 5 (cellsQ 0) rfl vles_q ?_))))))
 refine AW.whileK (α:=Nat) [(1,_),(4,_),(5,_),(8,_),(9,_)] [(4,_)] (fun i=>[(10,.d (dI i))]) (fun i=>[(5,.box b5 T.Rat (cellsQ (dotM i (vf u) (vf v))))]) (fun i=>i≤u.length) (fun i=>u.length-i) 0 (.cons (knD rfl) (.cons (knP rfl) (.cons (knP rfl) (.cons (knD rfl) (.cons (knD rfl) .nil))))) (.cons (owB rfl) .nil) ⟨Nat.zero_le _,.rq1,.cons rfl .nil⟩ ?_
 intro i h1
 have h1:i≤u.length:=h1
 have zd:sz (dotM i (vf u) (vf v))≤69177619:=dot_sz (n:=i) (by omega) zu zv
 refine AW.sg hE rfl (c_lss rfl rfl rfl (OL.nil (AW.seq (AW.cond rfl (fun h11=>?_) (fun h11=>?_)))))
 ·try simp only [dx9] at h11
  refine AW.skip (AW.seq (AW.block (AW.seq ?_)))
  have zx:=zu i
  have zy:=zv i
  have zm:=sz_mul (u.getD i 0) (v.getD i 0)
  refine AW.rg hE rfl (mvD rfl (ixLn sl.Rats 0 rfl rfl (by omega) rfl rfl (ldRA ag.Rat rfl (vs:=[_,_,_]) rfl (nb9 rfl) (al z.Rat rfl fun b7=>(asD rfl (sto sz.Rat rfl rfl rfl rfl rfl (nb9 rfl) (cells2:=[_,_,_]) rfl (OL.nil ?_)))))))
  refine AW.sg hE rfl (ldPA ag.Rat rfl rfl (vs:=[_,_,_]) rfl (nb9 rfl) (clv rfl vL (rational_SignQ (x:=u.getD i 0) (by omega)) (c_neq rfl rfl rfl (OL.nil (AW.cond rfl (fun hx=>?_) (fun hx=>?_))))))
  ·have _hx:=hx
   refine AW.dg 1 [0,1,2,3,4,5,6,7,8] order_free hE rfl (by kernel_rfl) (OI.of_OL (os:=[_,_,_,_,_,_,_,_,_]) rfl ?_)
   refine ldPA ag.Rat rfl rfl (vs:=[_,_,_]) rfl (nb9 rfl) (ldPA ag.Rat rfl rfl (vs:=[_,_,_]) rfl (nb9 rfl) (mvD rfl (mvD rfl (ixLn sl.Rats 0 rfl rfl (by omega) rfl rfl (ldRA ag.Rat rfl (vs:=[_,_,_]) rfl (nb9 rfl) (clv rfl vL (rational_MulQ (x:=u.getD i 0) (y:=v.getD i 0) (by omega) (by omega)) (clv rfl vL (rational_AddQ (x:=dotM i (vf u) (vf v)) (y:=u.getD i 0*v.getD i 0) (by omega) (by omega)) ?_)))))))
   rw [dot_succ]
   exact sto sz.Rat rfl rfl rfl rfl rfl (nb9 rfl) (cells2:=[_,_,_]) rfl (OL.nil (AW.rg hE rfl (add_i64 rfl rfl (by omega) (mvD rfl (OL.nil (AW.again (x:=i) (i+1) (by omega) ⟨by omega,Knows.app .rq5 .rq1,Owns.app (.cons rfl .nil) (.cons rfl .nil)⟩))))))
  ·have hx:u.getD i 0=0:=sgnQ_eq.1 (nd_f hx)
   refine AW.skip (AW.rg hE rfl (add_i64 rfl rfl (by omega) (mvD rfl (OL.nil ?_))))
   exact AW.again (x:=i) (i+1) (by omega) ⟨by omega,Knows.app .rq5 .rq1,Owns.app (.cons rfl .nil) (.cons (by rw [dot_skip hx];rfl) .nil)⟩
 ·try simp only [dx9] at h11
  refine AW.exit (AW.seq ?_)
  obtain rfl:i=u.length:=by omega
  exact AW.rg hE rfl (ldPA ag.Rat rfl rfl (vs:=[_,_,_]) rfl (nb9 rfl) (sto sz.Rat rfl rfl rfl rfl rfl (nb9 rfl) (cells2:=[_,_,_]) rfl (OL.nil (AW.ret (RetQ.r ⟨_,.cellA rfl rfl ag.Rat (nb9 rfl) .nil,.ag (.cons (.le vR) (.cons (.le vR) (.cons (.le vR) .nil)))⟩)))))
theorem firstQ {w:List Rat}(nl:w.length≤1099511627776)(zw:∀ i,sz (w.getD i 0)≤68719476736):FSpec P F.span_first [.d (dQs w)] (.d (dI (firstI w))):=by
 refine FSpec.intro fn.span_first (by rfl) (by rfl) (nb9 (by rfl)) fun E hE=>(AW.sg hE rfl (asD rfl (OL.nil (AW.seq (AW.sg hE rfl (mvD rfl (lnL sl.Rats rfl rfl ?_)))))))
 refine mvD rfl (OL.nil (AW.block ?_))
 refine AW.whileK (α:=Nat) [(5,_),(6,_)] [] (fun i=>[(7,.d (dI i))]) (fun i=>[]) (fun i=>i≤w.length∧∀ j,j<i→w.getD j 0=0) (fun i=>w.length-i) 0 (.cons (knD rfl) (.cons (knD rfl) .nil)) .nil ⟨⟨Nat.zero_le _,fun j hj=>by omega⟩,.rq1,.nil⟩ ?_
 rintro i ⟨h1,h2⟩
 have h1:i≤w.length:=h1
 have h2:∀ j,j<i→w.getD j 0=0:=h2
 refine AW.sg hE rfl (c_lss rfl rfl rfl (OL.nil (AW.seq (AW.cond rfl (fun h8=>?_) (fun h8=>?_)))))
 ·try simp only [dx9] at h8
  refine AW.skip (AW.seq (AW.block (AW.seq ?_)))
  have zx:=zw i
  refine AW.rg hE rfl (mvD rfl (ixLn sl.Rats 0 rfl rfl (by omega) rfl rfl (ldRA ag.Rat rfl (vs:=[_,_,_]) rfl (nb9 rfl) (al z.Rat rfl fun b4=>(asD rfl (sto sz.Rat rfl rfl rfl rfl rfl (nb9 rfl) (cells2:=[_,_,_]) rfl (OL.nil ?_)))))))
  refine AW.sg hE rfl (ldPA ag.Rat rfl rfl (vs:=[_,_,_]) rfl (nb9 rfl) (clv rfl vL (rational_SignQ (x:=w.getD i 0) (by omega)) (c_neq rfl rfl rfl (OL.nil (AW.cond rfl (fun hx=>?_) (fun hx=>?_))))))
  ·have hx:w.getD i 0≠0:=fun e=>nd_t hx (sgnQ_eq.2 e)
   exact AW.sg hE rfl (mvD rfl (asD rfl (OL.nil (AW.ret (RetQ.r ⟨_,.tmp rfl .nil,.le (VLe.int ((first_at (by omega) h2 hx).symm))⟩)))))
  ·have hx:w.getD i 0=0:=sgnQ_eq.1 (nd_f hx)
   exact AW.skip (AW.rg hE rfl (add_i64 rfl rfl (by omega) (mvD rfl (OL.nil (AW.again (x:=i) (i+1) (by omega) ⟨⟨by omega,fun j hj=>by rcases Nat.lt_or_ge j i with h|h;exact h2 j h;obtain rfl:j=i:=(by omega);exact hx⟩,Knows.app .rq2 .rq1,.nil⟩)))))
 ·try simp only [dx9] at h8
  exact AW.exit (AW.sg hE rfl (asD rfl (OL.nil (AW.ret (RetQ.r ⟨_,.tmp rfl .nil,.le (VLe.int ((first_no fun j hj=>h2 j (by omega)).symm))⟩)))))
theorem numbersQ {l:List Rat}{mi:Bool}(nl:l.length≤64)(hz:∀ x,x ∈ l→sz x≤134217728):FSpec P F.rows_numbers [.d (dWs l),.d (dB mi)] (.d (dQs (numF mi l))):=by
 have hnl:=numF_len mi l
 refine FSpec.intro fn.rows_numbers (by rfl) (by rfl) (nb9 (by rfl)) fun E hE=>(AW.sg hE rfl (asM rfl (OL.nil (AW.sg hE rfl (mvD rfl (lnL sl.Weights rfl rfl (mkL dQ 0 sl.Rats z.Rat vcs_q0 rfl rfl (Nat.le_refl _) (by omega) (by omega) rfl fun b10=>?_)))))))
 refine asO rfl (OL.nil (AW.seq (AW.sg hE rfl (mvD rfl (lnL sl.Weights rfl rfl (mvD rfl (OL.nil ?_)))))))
 refine AW.block ?_
 refine AW.whileK (α:=Nat) [(1,_),(4,_),(5,_),(11,_),(12,_)] [] (fun i=>[(13,.d (dI i))]) (fun i=>[(10,.row b10 l.length T.Rat 3 ((fillF 0 (fun j=>(numF mi l).getD j 0) l.length i).map dQ))]) (fun i=>i≤l.length) (fun i=>l.length-i) 0 (.cons (knD rfl) (.cons (knM rfl) (.cons (knO rfl) (.cons (knD rfl) (.cons (knD rfl) .nil))))) .nil ⟨Nat.zero_le _,.rq1,.cons (by rw [fillF_zero];rfl) .nil⟩ ?_
 intro i h1
 have h1:i≤l.length:=h1
 have hfl:=fillF_len 0 (fun j=>(numF mi l).getD j 0) l.length i
 refine AW.sg hE rfl (c_lss rfl rfl rfl (OL.nil (AW.seq (AW.cond rfl (fun h14=>?_) (fun h14=>?_)))))
 ·try simp only [dx9] at h14
  refine AW.skip (AW.seq (AW.block (AW.seq ?_)))
  have hx:=hz _ (getD_mem (show i<l.length by omega) 0)
  refine AW.rg hE rfl (mvD rfl (ixLn sl.Weights 0 rfl rfl (by omega) rfl rfl (ldRA ag.Weight rfl (vs:=[_,_,_,_,_,_,_,_]) rfl (nb9 rfl) (al z.Weight rfl fun b7=>(asD rfl (sto sz.Weight rfl rfl rfl rfl rfl (nb9 rfl) (cells2:=[_,_,_,_,_,_,_,_]) rfl (OL.nil ?_)))))))
  refine AW.sg hE rfl (mvO rfl (mvD rfl (faP fd.Weight_0 rfl rfl (ldPA ag.Rat rfl rfl (vs:=[_,_,_]) rfl (nb9 rfl) (ixOn sl.Rats rfl rfl (by omega) (stE sz.Rat rfl (d:=dQ (l.getD i 0)) vd_q rfl rfl (by rw [lm9];omega) (es2:=((fillF 0 (fun j=>(numF mi l).getD j 0) l.length i).set i (l.getD i 0)).map dQ) (by rw [List.map_set]) (OL.nil ?_)))))))
  refine AW.sg hE rfl (mvD rfl (OL.nil (AW.cond rfl (fun hm=>?_) (fun hm=>?_))))
  ·have hm:mi=true:=hm
   have hv:(numF mi l).getD i 0 = -(l.getD i 0):=(numF_get (by omega)).trans (if_pos hm)
   refine AW.rg hE rfl (mvO rfl (mvD rfl (faP fd.Weight_0 rfl rfl (ldPA ag.Rat rfl rfl (vs:=[_,_,_]) rfl (nb9 rfl) (clv rfl vL (rational_NegQ (q:=l.getD i 0) (by omega)) (ixOn sl.Rats rfl rfl (by omega) ?_))))))
   refine stE sz.Rat rfl (d:=dQ (-(l.getD i 0))) vd_q rfl rfl (by rw [lm9,List.length_set];omega) (es2:=(fillF 0 (fun j=>(numF mi l).getD j 0) l.length (i+1)).map dQ) (by rw [← fillF_set (show i<l.length by omega),hv,← List.map_set,List.set_set]) ?_
   exact OL.nil (AW.rg hE rfl (add_i64 rfl rfl (by omega) (mvD rfl (OL.nil (AW.again (x:=i) (i+1) (by omega) ⟨by omega,Knows.app .rq5 .rq1,.cons rfl .nil⟩)))))
  ·have hm:mi=false:=hm
   have hv:(numF mi l).getD i 0=l.getD i 0:=(numF_get (by omega)).trans (if_neg (by rw [hm];exact Bool.false_ne_true))
   refine AW.skip (AW.rg hE rfl (add_i64 rfl rfl (by omega) (mvD rfl (OL.nil ?_))))
   exact AW.again (x:=i) (i+1) (by omega) ⟨by omega,Knows.app .rq5 .rq1,.cons (by rw [← fillF_set (show i<l.length by omega),hv];rfl) .nil⟩
 ·try simp only [dx9] at h14
  refine AW.exit (AW.seq ?_)
  obtain rfl:i=l.length:=by omega
  rw [fill_row hnl]
  refine AW.freeze 10 rfl (AW.to [(5,.d (dQs (numF mi l)))] [] (.cons (frz_osl (by rw [lm9];first|rfl|omega) rfl) .nil) .nil ?_)
  exact AW.rg hE rfl (mvD rfl (asD rfl (OL.nil (AW.ret (RetQ.r ⟨_,.tmp rfl .nil,.le vR⟩)))))
set_option maxHeartbeats 800000 in
theorem StepQ {m:Mach}{e s:Nat}{v:List Rat}(ok:m.Ok)(fl:m.Full)(z6:m.Sz e)(hv:v.length=m.n)(hs:s<m.k)(zv:∀ a,sz (v.getD a 0)≤5764801):FSpec P F.rows_Machine_Step [vMach m,.d (dQs v),.d (dI ((s:Int)+1))] (.d (dQs (stepM m v s))):=by
 have n6:=z6.n6
 have k4:=z6.k2
 have e24:=z6.e24
 have hml:m.mats.length=m.k:=rfl
 have hr:=fl.rows s hs
 refine FSpec.intro fn.rows_Machine_Step (by rfl) (by rfl) (nb9 (by rfl)) fun E hE=>(AW.sg hE rfl (bxA rfl rfl fun b3=>(asM rfl (OL.nil (AW.sg hE rfl (mvD rfl (lnL sl.Rats rfl rfl ?_)))))))
 refine mkL dQ 0 sl.Rats z.Rat vcs_q0 rfl rfl (Nat.le_refl _) (by omega) (by omega) rfl fun b14=>(asO rfl (OL.nil (AW.seq (AW.sg hE rfl (mvD rfl (lnL sl.Rats rfl rfl (mvD rfl ?_)))))))
 refine OL.nil (AW.block ?_)
 refine AW.whileK (α:=Nat) [(2,_),(3,_),(6,_),(7,_),(15,_),(16,_)] [(3,_)] (fun i=>[(17,.d (dI i))]) (fun i=>[(14,.row b14 v.length T.Rat 3 ((stepC m v s i 0).map dQ))]) (fun i=>i≤m.n) (fun i=>m.n-i) 0 (.cons (knD rfl) (.cons (knP rfl) (.cons (knM rfl) (.cons (knO rfl) (.cons (knD rfl) (.cons (knD rfl) .nil)))))) (.cons (owB rfl) .nil) ⟨Nat.zero_le _,.rq1,.cons (by rw [stepC_rep,← hv];rfl) .nil⟩ ?_
 intro i h1
 have h1:i≤m.n:=h1
 have hcl:=stepC_len m v s i 0
 refine AW.sg hE rfl (c_lss rfl rfl rfl (OL.nil (AW.seq (AW.cond rfl (fun h18=>?_) (fun h18=>?_)))))
 ·try simp only [dx9] at h18
  refine AW.skip (AW.seq (AW.block (AW.seq ?_)))
  have zx:=zv i
  refine AW.rg hE rfl (mvD rfl (ixLn sl.Rats 0 rfl rfl (by omega) rfl rfl (ldRA ag.Rat rfl (vs:=[_,_,_]) rfl (nb9 rfl) (al z.Rat rfl fun b9=>(asD rfl (sto sz.Rat rfl rfl rfl rfl rfl (nb9 rfl) (cells2:=[_,_,_]) rfl (OL.nil ?_)))))))
  refine AW.seq (AW.sg hE rfl (ldPA ag.Rat rfl rfl (vs:=[_,_,_]) rfl (nb9 rfl) (clv rfl vL (rational_SignQ (x:=v.getD i 0) (by omega)) (c_eql rfl rfl rfl (OL.nil (AW.cond rfl (fun hx=>?_) (fun hx=>?_)))))))
  ·have hx:v.getD i 0=0:=sgnQ_eq.1 (dt9 hx)
   refine AW.exit ?_
   first|(obtain rfl:j=m.n:=(by omega))|skip
   refine AW.rg hE rfl (add_i64 rfl rfl (by omega) (mvD rfl (OL.nil ?_)))
   exact AW.again (x:=i) (i+1) (by omega) ⟨by omega,Knows.app .rq6 .rq1,Owns.app (.cons rfl .nil) (.cons (by rw [stepC_skiprow hx];rfl) .nil)⟩
  ·have hcc:=fl.cols s hs i (by omega)
   refine AW.skip (AW.sg hE rfl (faP fd.Machine_2 rfl rfl (ldPC ce.Ratsss rfl rfl rfl (mvD rfl (bo rfl rfl (bin_sub (c:=(s:Int)) (by omega) (wrap_i64 (by omega))) (ixLn sl.Ratsss [] rfl rfl (by omega) rfl rfl (ldRC ce.Ratss rfl ?_)))))))
   refine mvD rfl (ixLn sl.Ratss [] rfl rfl (by omega) rfl rfl (ldRC ce.Rats rfl (lnL sl.Rats rfl rfl ?_)))
   rw [hcc]
   refine mvD rfl (OL.nil (AW.block ?_))
   refine AW.whileK (α:=Nat) [(2,_),(3,_),(6,_),(7,_),(9,_),(15,_),(16,_),(17,_),(33,_),(34,_)] [(3,_),(9,_)] (fun j=>[(35,.d (dI j))]) (fun j=>[(14,.row b14 v.length T.Rat 3 ((stepC m v s i j).map dQ))]) (fun j=>j≤m.n) (fun j=>m.n-j) 0 (.cons (knD rfl) (.cons (knP rfl) (.cons (knM rfl) (.cons (knO rfl) (.cons (knP rfl) (.cons (knD rfl) (.cons (knD rfl) (.cons (knD rfl) (.cons (knD rfl) (.cons (knD rfl) .nil)))))))))) (.cons (owB rfl) (.cons (owB rfl) .nil)) ⟨Nat.zero_le _,.rq1,.cons rfl .nil⟩ ?_
   intro j h2
   have h2:j≤m.n:=h2
   have hcl2:=stepC_len m v s i j
   have zc:=stepC_sz (s:=s) (j:=j) z6 zv (show i+1≤6 by omega) j
   have ze:=z6.ent s i j
   refine AW.sg hE rfl (c_lss rfl rfl rfl (OL.nil (AW.seq (AW.cond rfl (fun h36=>?_) (fun h36=>?_)))))
   ·try simp only [dx9] at h36
    refine AW.skip (AW.seq (AW.block (AW.sg hE rfl (mvD rfl (ixLn sl.Rats 0 rfl rfl (by omega) rfl rfl (ldRA ag.Rat rfl (vs:=[_,_,_]) rfl (nb9 rfl) (al z.Rat rfl fun b11=>?_)))))))
    refine asD rfl (sto sz.Rat rfl rfl rfl rfl rfl (nb9 rfl) (cells2:=[_,_,_]) rfl (OL.nil (AW.sg hE rfl (ldPA ag.Rat rfl rfl (vs:=[_,_,_]) rfl (nb9 rfl) (clv rfl vL (rational_SignQ (x:=entM m s i j) (by omega)) (c_neq rfl rfl rfl (OL.nil ?_)))))))
    refine AW.cond rfl (fun hy=>?_) (fun hy=>?_)
    ·have _hy:=hy
     have zm:=sz_mul (v.getD i 0) (entM m s i j)
     refine AW.dg 1 [0,1,2,3,4,5,6,7,8,9,10,11] order_free hE rfl (by kernel_rfl) (OI.of_OL (os:=[_,_,_,_,_,_,_,_,_,_,_,_]) rfl ?_)
     refine mvO rfl (mvD rfl (mvO rfl (mvD rfl (ixOn sl.Rats rfl rfl (by omega) (ldEAL ag.Rat 0 (by decide) rfl rfl (by omega) (vs:=[_,_,_]) rfl (nb9 rfl) (ldPA ag.Rat rfl rfl (vs:=[_,_,_]) rfl (nb9 rfl) (ldPA ag.Rat rfl rfl (vs:=[_,_,_]) rfl (nb9 rfl) ?_)))))))
     refine clv rfl vL (rational_MulQ (x:=v.getD i 0) (y:=entM m s i j) (by omega) (by omega)) (clv rfl vL (rational_AddQ (x:=(stepC m v s i j).getD j 0) (y:=v.getD i 0*entM m s i j) (by omega) (by omega)) (ixOn sl.Rats rfl rfl (by omega) (stE sz.Rat rfl (d:=dQ ((stepC m v s i j).getD j 0+v.getD i 0*entM m s i j)) vd_q rfl rfl (by rw [lm9];omega) (es2:=(stepC m v s i (j+1)).map dQ) (by rw [← stepC_set (show j<m.n by omega),List.map_set]) (OL.nil (AW.rg hE rfl (add_i64 rfl rfl (by omega) (mvD rfl ?_)))))))
     refine OL.nil ?_
     exact AW.again (x:=j) (j+1) (by omega) ⟨by omega,Knows.app .rq10 .rq1,Owns.app (.cons rfl (.cons rfl .nil)) (.cons rfl .nil)⟩
    ·have hy:entM m s i j=0:=sgnQ_eq.1 (nd_f hy)
     refine AW.skip (AW.rg hE rfl (add_i64 rfl rfl (by omega) (mvD rfl (OL.nil ?_))))
     exact AW.again (x:=j) (j+1) (by omega) ⟨by omega,Knows.app .rq10 .rq1,Owns.app (.cons rfl (.cons rfl .nil)) (.cons (by rw [stepC_skip (by omega) hy];rfl) .nil)⟩
   ·try simp only [dx9] at h36
    refine AW.exit ?_
    first|(obtain rfl:j=m.n:=(by omega))|skip
    refine AW.rg hE rfl (add_i64 rfl rfl (by omega) (mvD rfl (OL.nil ?_)))
    exact AW.again (x:=i) (i+1) (by omega) ⟨by omega,Knows.app .rq6 .rq1,Owns.app (.cons rfl .nil) (.cons (by rw [← stepC_row];rfl) .nil)⟩
 ·try simp only [dx9] at h18
  refine AW.exit (AW.seq ?_)
  obtain rfl:i=m.n:=by omega
  rw [stepC_all]
  have hsl:=stepM_len m v s
  refine AW.freeze 14 rfl (AW.to [(7,.d (dQs (stepM m v s)))] [] (.cons (frz_osl (by rw [lm9];first|rfl|omega) rfl) .nil) .nil ?_)
  exact AW.rg hE rfl (mvD rfl (asD rfl (OL.nil (AW.ret (RetQ.r ⟨_,.tmp rfl .nil,.le vR⟩)))))
theorem Views_1 {m:Mach}{e:Nat}{L:List (List Int)}{u:List Int}(ok:m.Ok)(z6:m.Sz e)(nl:L.length≤6)(hu:u.length≤6)(hL:∀ l,l ∈ L→l.length≤6):FSpec P F.rows_Machine_Views_1 [.d (dQs (vecM m u)),.ref [dRows (turnM m) L]] (.d (dQs (viewM m L u))):=by
 have n6:=z6.n6
 have hvl:(viewM m L u).length=L.length:=view_len
 refine FSpec.intro fn.rows_Machine_Views_1 (by rfl) (by rfl) (nb9 (by rfl)) fun E hE=>(AW.sg hE rfl (asM rfl (OL.nil (AW.sg hE rfl (ldRC ce.Rows rfl (lnL sl.Rows rfl rfl (mkL dQ 0 sl.Rats z.Rat vcs_q0 rfl rfl (Nat.le_refl _) (by omega) (by omega) rfl fun b9=>?_)))))))
 refine asO rfl (OL.nil (AW.seq (AW.sg hE rfl (ldRC ce.Rows rfl (lnL sl.Rows rfl rfl (mvD rfl (OL.nil ?_)))))))
 refine AW.block ?_
 refine AW.whileK (α:=Nat) [(0,_),(3,_),(4,_),(10,_),(11,_)] [] (fun i=>[(12,.d (dI i))]) (fun i=>[(9,.row b9 L.length T.Rat 3 ((fillF 0 (fun j=>(viewM m L u).getD j 0) L.length i).map dQ))]) (fun i=>i≤L.length) (fun i=>L.length-i) 0 (.cons (knD rfl) (.cons (knM rfl) (.cons (knO rfl) (.cons (knD rfl) (.cons (knD rfl) .nil))))) .nil ⟨Nat.zero_le _,.rq1,.cons (by rw [fillF_zero];rfl) .nil⟩ ?_
 intro i h1
 have h1:i≤L.length:=h1
 have hfl:=fillF_len 0 (fun j=>(viewM m L u).getD j 0) L.length i
 refine AW.sg hE rfl (c_lss rfl rfl rfl (OL.nil (AW.seq (AW.cond rfl (fun h13=>?_) (fun h13=>?_)))))
 ·try simp only [dx9] at h13
  refine AW.skip (AW.seq (AW.block (AW.sg hE rfl (mvD rfl (ixLn sl.Rows [] rfl rfl (by omega) rfl rfl (ldRA ag.Row rfl (vs:=[_,_]) rfl (nb9 rfl) (al z.Row rfl fun b6=>?_)))))))
  refine asD rfl (sto sz.Row rfl rfl rfl rfl rfl (nb9 rfl) (cells2:=[_,_]) rfl (OL.nil ?_))
  have hv:(fun j=>(viewM m L u).getD j 0) i=dotM m.n (vf (vecM m u)) (vf (vecM (turnM m) (L.getD i []))):=map_getD_range _ _ (by omega)
  refine AW.rg hE rfl (mvO rfl (mvD rfl (mvD rfl (faP fd.Row_1 rfl rfl (ldPC ce.Rats rfl rfl rfl (clv rfl vL (DotQ (u:=vecM m u) (v:=vecM (turnM m) (L.getD i [])) (n:=m.n) (vecM_len ok u) (vecM_len (turn_ok ok) _) n6 (vecM_sz z6 hu) (vecM_sz z6.turn (hL _ (getD_mem (by omega) [])))) ?_))))))
  rw [← hv]
  exact ixOn sl.Rats rfl rfl (by omega) (stE sz.Rat rfl (d:=dQ ((fun j=>(viewM m L u).getD j 0) i)) vd_q rfl rfl (by rw [lm9];omega) (es2:=(fillF 0 (fun j=>(viewM m L u).getD j 0) L.length (i+1)).map dQ) (by rw [← fillF_set (show i<L.length by omega),List.map_set]) (OL.nil (AW.rg hE rfl (add_i64 rfl rfl (by omega) (mvD rfl (OL.nil (AW.again (x:=i) (i+1) (by omega) ⟨by omega,Knows.app .rq5 .rq1,.cons rfl .nil⟩)))))))
 ·try simp only [dx9] at h13
  refine AW.exit (AW.seq ?_)
  obtain rfl:i=L.length:=by omega
  rw [fill_row hvl]
  refine AW.freeze 9 rfl (AW.to [(4,.d (dQs (viewM m L u)))] [] (.cons (frz_osl (by rw [lm9];first|rfl|omega) rfl) .nil) .nil ?_)
  exact AW.rg hE rfl (mvD rfl (asD rfl (OL.nil (AW.ret (RetQ.r ⟨_,.tmp rfl .nil,.le vR⟩)))))
end Go.Proofs.YtmcoihfkniccdaaGreatDoor
namespace Go.AL
open Go Go.BigFrame
def mixL (w:List Rat)(g:Nat→Rat)(i:Nat):List Rat:=(List.range w.length).map fun j=>if j<i then g j else w.getD j 0
section
variable {w:List Rat}{g:Nat→Rat}{i:Nat}
theorem mixL_len:(mixL w g i).length=w.length:=by simp [mixL]
theorem range_self (w:List Rat):((List.range w.length).map fun j=>w.getD j 0)=w:=by
 refine List.ext_getElem (by simp) fun j h1 h2=>?_
 simp only [List.getElem_map,List.getElem_range]
 rw [gd9,ge9 h2];rfl
theorem mixL_zero:mixL w g 0=w:=by
 have e:mixL w g 0=(List.range w.length).map fun j=>w.getD j 0:=List.map_congr_left fun j _=>if_neg (by omega)
 rw [e,range_self]
theorem mixL_get (hi:i<w.length):(mixL w g i).getD i 0=w.getD i 0:=by
 unfold mixL
 rw [map_getD_range _ _ hi,if_neg (Nat.lt_irrefl _)]
theorem mixL_set (hi:i<w.length):(mixL w g i).set i (g i)=mixL w g (i+1):=by
 refine List.ext_getElem (by rw [List.length_set,mixL_len,mixL_len]) fun j h1 h2=>?_
 rw [List.getElem_set]
 by_cases hj:i=j
 ·subst hj
  rw [if_pos rfl]
  simp only [mixL,List.getElem_map,List.getElem_range]
  rw [if_pos (by omega)]
 ·rw [if_neg hj]
  simp only [mixL,List.getElem_map,List.getElem_range]
  by_cases h:j<i
  ·rw [if_pos h,if_pos (by omega)]
  ·rw [if_neg h,if_neg (by omega)]
theorem mixL_all (h:∀ j,i≤j→j<w.length→g j=w.getD j 0):mixL w g i=(List.range w.length).map g:=by
 refine List.map_congr_left fun j hj=>?_
 split
 ·rfl
 ·exact (h j (by omega) (List.mem_range.1 hj)).symm
end
section
variable {r:SRow}{w t:List Rat}{rs:List SRow}{k n:Nat}
theorem redV_snoc:∀ (a:List SRow) (w:List Rat),redV (a++[r]) w=redStep (redV a w) r
 | [],_=>rfl
 | x::a,w=>by rw [List.cons_append,redV,redV,redV_snoc a]
theorem redC_snoc:∀ (a:List SRow) (w t:List Rat),redC (a++[r]) w t=addC (redC a w t) (qotR (redV a w) r) r.c
 | [],_,_=>rfl
 | x::a,w,t=>by rw [List.cons_append,redC,redC,redV,redC_snoc a]
theorem take_snocS (hk:k<rs.length):rs.take (k+1)=rs.take k++[rs.getD k default]:=by
 rw [List.take_succ_eq_append_getElem hk,gd9,ge9 hk];rfl
theorem redV_take (hk:k<rs.length):redV (rs.take (k+1)) w=redStep (redV (rs.take k) w) (rs.getD k default):=by rw [take_snocS hk,redV_snoc]
theorem redC_take (hk:k<rs.length):redC (rs.take (k+1)) w t=addC (redC (rs.take k) w t) (qotR (redV (rs.take k) w) (rs.getD k default)) (rs.getD k default).c:=by rw [take_snocS hk,redC_snoc]
theorem addC_zero (t c:List Rat):addC t 0 c=t:=by
 unfold addC
 have e:(fun i=>t.getD i 0+0*c.getD i 0)=fun i=>t.getD i 0:=by funext i;rw [Rat.zero_mul,Rat.add_zero]
 rw [e,range_self]
theorem getDS_mem (hk:k<rs.length):rs.getD k default ∈ rs:=getD_mem hk default
theorem getDS_get (hk:k<rs.length):rs[k]? = some (rs.getD k default):=by
 rw [gd9,ge9 hk];rfl
theorem four_pow_le {a:Nat}(h:a≤5):4 ^ a*(16777215+1)≤17179869184:=by
 have:=Nat.pow_le_pow_right (n:=4) (by decide) h
 have:=Nat.mul_le_mul_right (16777215+1) this
 omega
theorem SzR.bounds (z:SzR 16777215 rs)(hl:rs.length≤6)(hk:k<rs.length)(zv:∀ i,sz (w.getD i 0)≤16777215) :
  (∀ i,sz ((redV (rs.take k) w).getD i 0)≤17179869183)∧(∀ i,sz ((Go.AL.redC (rs.take k) w (List.replicate n 0)).getD i 0)≤17179869183)∧(∀ i,sz ((rs.getD k default).v.getD i 0)≤17179869183)∧∀ i,sz ((rs.getD k default).c.getD i 0)≤17179869183:=by
 have hb:=four_pow_le (show k≤5 by omega)
 have ht:(rs.take k).length=k:=by rw [List.length_take];omega
 have h1:=fun i=>(z.take k).red zv i
 have h2:=fun i=>(z.take k).redC (by decide) zv n i
 rw [ht] at h1 h2
 have h3:=z k _ (getDS_get hk)
 refine ⟨fun i=>?_,fun i=>?_,fun i=>?_,fun i=>?_⟩
 ·have:=h1 i;omega
 ·have:=h2 i;omega
 ·have:=h3.1 i;omega
 ·have:=h3.2 i;omega
theorem SzR.last (z:SzR 16777215 rs)(hl:rs.length≤6)(zv:∀ i,sz (w.getD i 0)≤16777215):(∀ i,sz ((redV rs w).getD i 0)≤68719476735)∧∀ i,sz ((takenS rs w).getD i 0)≤68719476735:=by
 have h4:4 ^ rs.length*(16777215+1)≤68719476736:=by
  have:=Nat.pow_le_pow_right (n:=4) (by decide) hl
  have:=Nat.mul_le_mul_right (16777215+1) this
  omega
 have h1:=fun i=>z.red zv i
 have h2:=fun i=>z.redC (by decide) zv rs.length i
 refine ⟨fun i=>?_,fun i=>?_⟩
 ·have:=h1 i;omega
 ·have:=h2 i
  unfold takenS;omega
theorem byS_get {i:Nat}(hi:i<rs.length):(byS rs w).getD i 0 = -((takenS rs w).getD i 0):=by
 have hl:=takenS_len rs w
 unfold byS
 rw [gd9,List.getElem?_append_left (by rw [lm9,hl];exact hi),List.getElem?_map,gd9,ge9 (by rw [hl];exact hi)];rfl
theorem byS_last:(byS rs w).getD rs.length 0=1:=by
 have hl:=takenS_len rs w
 unfold byS
 rw [gd9,List.getElem?_append_right (by rw [lm9,hl];exact Nat.le_refl _),lm9,hl,Nat.sub_self];rfl
end
end Go.AL
