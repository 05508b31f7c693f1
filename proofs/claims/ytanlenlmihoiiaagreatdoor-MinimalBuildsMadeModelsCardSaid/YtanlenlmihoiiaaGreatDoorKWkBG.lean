/-
  Walks of layer 22 of the specification: coordinates, and putting a vector into a basis (printed by mk2.py).
-/
import Derived.Test.YtanlenlmihoiiaaGreatDoorKWkBE
set_option maxRecDepth 8000
set_option maxHeartbeats 3200000
set_option linter.unusedVariables false
set_option linter.unusedSimpArgs false
namespace Go.Proofs.YtanlenlmihoiiaaGreatDoor
open Go Go.AL
noncomputable def y9 (vs:List (List Rat))(v:List Rat):List Rat:=(jm (dM vs.length vs vs.length) v (List.replicate vs.length 0)).map λx=>-x
theorem xX {vs:List (List Rat)}{v:List Rat}:(y9 vs v).length=vs.length:=by
 unfold y9;rw[dA,uP,List.length_replicate]
theorem QA {vs:List (List Rat)}{v:List Rat}(g:vV vs):bM (dM vs.length vs vs.length) v=bM (eG vs) v:=by
 unfold bM;rw[LH g (Nat.le_refl _),List.take_length]
theorem QB {v:List Rat}{n N:Nat}{rs:List bZ}(R:TJ n N rs)(hv:v.length=n)(n6:n<=6)(N6:N<=6)(zv:∀ i,sz (v.getD i 0)<=16777215):ai P F.tC [.d (.sl (rs.map dSK)),.d (dJ v),.d (dI N)] (.ag [.d (dJ (aO rs v)),.d (dJ (jm rs v (List.replicate N 0)))]):=by
 have hle:=R.le;refine ai.intro fn.tC (by rfl) (by rfl) (ay (by rfl)) λE hE=>(AW.sg hE rfl (al z.row rfl λb6=>(OL.nil (AW.seq (AW.dg 1 [0,1,2,3,4,5,6] ak hE rfl (by kernel_rfl) (OI.aK (os:=[_,_,_,_,_,_,_]) rfl ?_))))))
 refine aj rfl (bH rfl vL (NU (l:=v) (by omega) (λi=>Nat.le_trans (zv i) (by decide))) (aj rfl (mkD (z:=dQ 0) sl.bg z.Rat Dj rfl rfl (by omega) (by omega) (L6 (cs:=[_,_]) z.row pl.row (lI (uG rfl) (lI (uG rfl) LZ)) (by rfl) (al z.row rfl λb7=>(fA sz.row rfl rfl rfl rfl rfl (ay rfl) (cells2:=[_,_]) rfl (OL.nil ?_)))))))
 refine AW.seq (AW.seq ?_);rw[show List.replicate N (dQ 0)=(List.replicate N (0:Rat)).map dQ from List.map_replicate.symm]
 refine AW.rg hE rfl (aF rfl (OL.nil (AW.block ?_)));refine AW.aY (α:=Nat) [(0,_),(6,_),(7,_)] [(6,_)] (λk=>[(8,.d (dI k))]) (λk=>[(7,.box b7 T.row [.d (dJ (aO (rs.take k) v)),.d (dJ (jm (rs.take k) v (List.replicate N 0)))])]) (λk=>k<=rs.length) (λk=>rs.length-k) 0 (.cons (di rfl) (.cons (iw rfl) (.cons (iw rfl) .nil))) (.cons (je rfl) .nil) ⟨Nat.zero_le _,.dD,.cons rfl .nil⟩ ?_
 rintro k h1
 have h1:k<=rs.length:=h1;have hwl:(aO (rs.take k) v).length=v.length:=jk _ _;have htl:(jm (rs.take k) v (List.replicate N 0)).length=N:=by rw[uP,List.length_replicate]
 refine AW.seq (AW.sg hE rfl (aj rfl (aj rfl (fF sl.rows rfl rfl (bG rfl rfl rfl (OL.nil (AW.cond rfl (λh19=>?_) (λh19=>?_))))))))
 .try simp only[fD] at h19
  refine AW.skip (AW.seq (AW.block (AW.seq ?_)));have hkr:k<rs.length:=by omega
  obtain⟨zw,zt,zr,zc⟩:=R.bounds (w:=v) hkr zv;obtain⟨hp1,hp2,hp3⟩:=R.piv _ (pR hkr);have hrl:=R.len _ (pR hkr);have hcl:=R.cl _ (pR hkr);have zq:=O1 ((aO (rs.take k) v).getD (rs.getD k default).p 0) ((rs.getD k default).v.getD (rs.getD k default).p 0);have zq1:=zw (rs.getD k default).p;have zq2:=zr (rs.getD k default).p;have zqq:sz (fJ (aO (rs.take k) v) (rs.getD k default))<=34359738366:=Nat.le_trans zq (by omega)
  have hpl:CU (rs.getD k default).v=((rs.getD k default).p:Int):=(BA (by rw[<- hp1];omega)).trans (by rw[<- hp1])
  refine AW.rg hE rfl (aj rfl (aj rfl (dR sl.rows default rfl rfl hkr rfl rfl (Ov fd.Bj rfl rfl (iE ce.bg rfl (bH rfl vL (J3 (v:=(rs.getD k default).v) (by omega) (λi=>Nat.le_trans (zr i) (by decide))) ?_))))))
  rw[hpl];refine aF rfl (OL.nil (AW.seq (AW.dg 1 [0,1,2,3,4,5,6,7,8,9,10,11,12,13,14,15] ak hE rfl (by kernel_rfl) (OI.aK (os:=[_,_,_,_,_,_,_,_,_,_,_,_,_,_,_,_]) rfl ?_))))
  refine bC fd.Bj rfl rfl (aG ce.bg rfl rfl rfl (aj rfl (dR sl.bg 0 rfl rfl (by omega) rfl rfl (iD ag.Rat rfl (vs:=[_,_,_]) rfl (ay rfl) (aj rfl (aj rfl (dR sl.rows default rfl rfl hkr rfl rfl ?_)))))))
  refine Ov fd.Bj rfl rfl (iE ce.bg rfl (aj rfl (dR sl.bg 0 rfl rfl (by omega) rfl rfl (iD ag.Rat rfl (vs:=[_,_,_]) rfl (ay rfl) (bH rfl vL (Xy (x:=(aO (rs.take k) v).getD (rs.getD k default).p 0) (y:=(rs.getD k default).v.getD (rs.getD k default).p 0) (by omega) (by omega) hp3) ?_)))))
  rw[<- UX];refine al z.Rat rfl λb10=>(fA sz.Rat rfl rfl rfl rfl rfl (ay rfl) (cells2:=[_,_,_]) rfl (OL.nil (AW.dg 1 [0,1,2,3,4,5,6,7,8,9,10,11,12,13,14,15,16,17,18,19,20,21] ak hE rfl (by kernel_rfl) (OI.aK (os:=[_,_,_,_,_,_,_,_,_,_,_,_,_,_,_,_,_,_,_,_,_,_]) rfl ?_))))
  refine bC fd.Bj rfl rfl (aG ce.bg rfl rfl rfl (aj rfl (aj rfl (dR sl.rows default rfl rfl hkr rfl rfl (Ov fd.Bj rfl rfl (iE ce.bg rfl (aQ ag.Rat rfl rfl (vs:=[_,_,_]) rfl (ay rfl) ?_)))))));refine bH rfl vL (Va (v:=(aO (rs.take k) v)) (w:=(rs.getD k default).v) (c:=fJ (aO (rs.take k) v) (rs.getD k default)) (by omega) (by omega) zw zr zqq) (bC fd.Jt rfl rfl (aG ce.bg rfl rfl rfl (aj rfl (aj rfl (dR sl.rows default rfl rfl hkr rfl rfl (Ov fd.Jt rfl rfl (iE ce.bg rfl ?_)))))))
  refine aQ ag.Rat rfl rfl (vs:=[_,_,_]) rfl (ay rfl) (bH rfl vL (Va (v:=(jm (rs.take k) v (List.replicate N 0))) (w:=(rs.getD k default).c) (c:=fJ (aO (rs.take k) v) (rs.getD k default)) (by omega) (by omega) zt zc zqq) (bC fd.Bj rfl rfl (fA sz.bg rfl rfl rfl rfl rfl (ay rfl) (cells2:=[_,_]) rfl (bC fd.Jt rfl rfl (fA sz.bg rfl rfl rfl rfl rfl (ay rfl) (cells2:=[_,_]) rfl (OL.nil (AW.rg hE rfl ?_)))))))
  exact aj rfl (aI rfl rfl (by omega) (aF rfl (OL.nil (AW.again (x:=k) (k+1) (by omega) ⟨by omega,Knows.app .yU .dD,dL.app (.cons rfl .nil) (.cons (by rw[Ai hkr,TI hkr,<- Qg];rfl) .nil)⟩))))
 .try simp only[fD] at h19
  refine AW.exit (AW.seq ?_);obtain rfl:k=rs.length:=by omega
  rw[List.take_length];exact AW.rg hE rfl (aQ ag.row rfl rfl (vs:=[_,_]) rfl (ay rfl) (fA sz.row rfl rfl rfl rfl rfl (ay rfl) (cells2:=[_,_]) rfl (OL.nil (AW.ret (aP.r ⟨_,.dN rfl rfl ag.row (ay rfl) .nil,.ag (.cons (.le vR) (.cons (.le vR) .nil))⟩)))))
theorem XJ {vs:List (List Rat)}{n:Nat}(g:vV vs)(hl:∀ v,v ∈ vs->v.length=n)(n6:vs.length<=6)(nn:n<=6)(zv:∀ v,v ∈ vs->∀ i,sz (v.getD i 0)<=16777215)(n1:1<=n){v:List Rat}(hv:v.length=n)(zz:∀ i,sz (v.getD i 0)<=16777215):ai P F.BV [.d (.sl (vs.map dJ)),.d (dJ v)] (.d (dI 0)):=by
 refine ai.intro fn.BV (by rfl) (by rfl) (ay (by rfl)) λE hE=>(AW.sg hE rfl (aF rfl (OL.nil (AW.seq (AW.sg hE rfl (aj rfl (bH rfl vL (aI3 g hl n6 nn zv n1) ?_)))))))
 refine nt rfl (OL.nil (oH rfl ?_));refine AW.skip (AW.seq (AW.sg hE rfl (aj rfl (fF sl.bg rfl rfl (bG rfl rfl (c:=false) (by exact decide_eq_false (by omega)) (aj rfl (OL.yes rfl ?_)))))))
 refine aj rfl (OL.yes rfl (fF sl.bg rfl rfl (OL.yes rfl (jI rfl rfl (c:=false) (by exact decide_eq_false (by omega)) (oI rfl rfl (aj rfl (OL.yes rfl ?_)))))))
 refine aj rfl (OL.yes rfl (fF sl.dw rfl rfl (OL.yes rfl (jI rfl rfl rfl (OL.yes rfl (aj rfl (OL.split 20 rfl (λh0=>?_) (λh0=>?_))))))))
 .have h0:0<vs.length:=by have:=lK h0;omega
  have h00:=hl _ (getD_mem h0 []);refine OL.yes rfl (aj rfl (OL.yes rfl (fF sl.bg rfl rfl (OL.yes rfl (aj rfl (OL.yes rfl (dR (i:=0) sl.dw [] rfl rfl h0 rfl rfl ?_)))))));refine OL.yes rfl (iE ce.bg rfl (OL.yes rfl (fF sl.bg rfl rfl (OL.yes rfl (eX rfl rfl (c:=false) (kY (by rw[hv,h00])) (OL.yes rfl (oK rfl rfl ?_)))))))
  refine oI rfl rfl (OL.nil (oH rfl ?_));exact AW.skip (AW.sg hE rfl (aF rfl (OL.nil (AW.ret (aP.r ⟨_,.tmp rfl .nil,.le vR⟩)))))
 .skip
  refine OL.nd rfl (OL.nd rfl (OL.nd rfl (OL.nd rfl (OL.nd rfl (OL.nd rfl (OL.nd rfl (OL.yes rfl ?_)))))));refine oI rfl rfl (oI rfl rfl (OL.nil (oH rfl ?_)));exact AW.skip (AW.sg hE rfl (aF rfl (OL.nil (AW.ret (aP.r ⟨_,.tmp rfl .nil,.le vR⟩)))))
theorem ao7 {vs:List (List Rat)}{n:Nat}(g:vV vs)(hl:∀ v,v ∈ vs->v.length=n)(n6:vs.length<=6)(nn:n<=6)(zv:∀ v,v ∈ vs->∀ i,sz (v.getD i 0)<=16777215)(n1:1<=n){v:List Rat}(hv:v.length=n)(zz:∀ i,sz (v.getD i 0)<=16777215)(hg:bM (eG vs) v=true):ai P F.kQ [.d (.sl (vs.map dJ)),.d (dJ v)] (.mM [.d (.sl []),.d (dB false),.d (dI 0)]):=by
 have R:=Kv g hl n6 zv vs.length (Nat.le_refl _);have hkl:(dM vs.length vs vs.length).length=vs.length:=Aq _;have hle:=R.le;have hrl:(aO (dM vs.length vs vs.length) v).length=v.length:=jk _ _;obtain⟨zl,_⟩:=R.zr.last hle zz;have hcl:(jm (dM vs.length vs vs.length) v (List.replicate vs.length 0)).length=vs.length:=by rw[uP,List.length_replicate]
 have zc:∀ i,sz ((jm (dM vs.length vs vs.length) v (List.replicate vs.length 0)).getD i 0)<=68719476735:=λi=>by
  have h1:=Gp (B:=16777215) (dM vs.length vs vs.length) 0 v (List.replicate vs.length 0) (λk r hk=>by rw[Nat.zero_add];exact R.zr k r hk) (λi=>by rw[Nat.pow_zero,Nat.one_mul];have:=zz i;omega) (λi=>by rw[Nat.pow_zero,Nat.one_mul,wW,fH];decide) i
  have h4:=Nat.pow_le_pow_right (n:=4) (by decide) n6
  rw[Nat.zero_add,hkl] at h1;have h5:=Nat.mul_le_mul_right (16777215+1) h4;omega
 rw[<- QA g] at hg;refine ai.intro fn.kQ (by rfl) (by rfl) (ay (by rfl)) λE hE=>(AW.sg hE rfl (jK rfl (aF rfl (aF rfl (OL.nil (AW.seq (AW.sg hE rfl ?_)))))))
 refine aj rfl (aj rfl (bH rfl vL (XJ g hl n6 nn zv n1 hv zz) (aF rfl (OL.nil (AW.sg hE rfl (aj rfl (eX rfl rfl (c:=false) (kY rfl) ?_)))))));refine OL.nil (oH rfl ?_);refine AW.skip (AW.sg hE rfl (aj rfl (bH rfl vL (Vk g hl n6 nn zv) (Di rfl (ex rfl rfl (ex rfl rfl (aF rfl ?_)))))));refine aF rfl (OL.nil (AW.sg hE rfl (aj rfl (aj rfl (aj rfl (fF sl.dw rfl rfl (bH rfl vL (QB (v:=v) (N:=vs.length) R hv nn n6 zz) ?_)))))));refine al z.row rfl λb10=>(fA sz.row rfl rfl rfl rfl rfl (ay rfl) (cells2:=[_,_]) rfl (OL.nil (AW.seq (AW.sg hE rfl (bC fd.Bj rfl rfl (aG ce.bg rfl rfl rfl (bH rfl vL (J3 (v:=(aO (dM vs.length vs vs.length) v)) (by omega) (λj=>Nat.le_trans (zl j) (by decide))) ?_)))))))
 refine qX rfl rfl (c:=true) (decide_eq_true (Decidable.byContradiction λh=>by rw[Ec.1 (by omega)] at hg;cases hg)) (OL.nil (Hr rfl ?_))
 exact AW.sg hE rfl (jK rfl (aF rfl (aF rfl (OL.nil (AW.ret (aP.r ⟨_,.tmp rfl (.tmp rfl (.tmp rfl .nil)),_,.cons (.le (bW.mt)) (.cons (.le vR) (.cons (.le vR) .nil)),rfl⟩))))))
theorem TU {vs:List (List Rat)}{n:Nat}(g:vV vs)(hl:∀ v,v ∈ vs->v.length=n)(n6:vs.length<=6)(nn:n<=6)(zv:∀ v,v ∈ vs->∀ i,sz (v.getD i 0)<=16777215)(n1:1<=n){v:List Rat}(hv:v.length=n)(zz:∀ i,sz (v.getD i 0)<=16777215)(hg:bM (eG vs) v=false):ai P F.kQ [.d (.sl (vs.map dJ)),.d (dJ v)] (.mM [.d (dJ (y9 vs v)),.d (dB true),.d (dI 0)]):=by
 have R:=Kv g hl n6 zv vs.length (Nat.le_refl _);have hkl:(dM vs.length vs vs.length).length=vs.length:=Aq _;have hle:=R.le;have hrl:(aO (dM vs.length vs vs.length) v).length=v.length:=jk _ _;obtain⟨zl,_⟩:=R.zr.last hle zz;have hcl:(jm (dM vs.length vs vs.length) v (List.replicate vs.length 0)).length=vs.length:=by rw[uP,List.length_replicate]
 have zc:∀ i,sz ((jm (dM vs.length vs vs.length) v (List.replicate vs.length 0)).getD i 0)<=68719476735:=λi=>by
  have h1:=Gp (B:=16777215) (dM vs.length vs vs.length) 0 v (List.replicate vs.length 0) (λk r hk=>by rw[Nat.zero_add];exact R.zr k r hk) (λi=>by rw[Nat.pow_zero,Nat.one_mul];have:=zz i;omega) (λi=>by rw[Nat.pow_zero,Nat.one_mul,wW,fH];decide) i
  have h4:=Nat.pow_le_pow_right (n:=4) (by decide) n6
  rw[Nat.zero_add,hkl] at h1;have h5:=Nat.mul_le_mul_right (16777215+1) h4;omega
 rw[<- QA g] at hg;refine ai.intro fn.kQ (by rfl) (by rfl) (ay (by rfl)) λE hE=>(AW.sg hE rfl (jK rfl (aF rfl (aF rfl (OL.nil (AW.seq (AW.sg hE rfl ?_)))))))
 refine aj rfl (aj rfl (bH rfl vL (XJ g hl n6 nn zv n1 hv zz) (aF rfl (OL.nil (AW.sg hE rfl (aj rfl (eX rfl rfl (c:=false) (kY rfl) ?_)))))));refine OL.nil (oH rfl ?_);refine AW.skip (AW.sg hE rfl (aj rfl (bH rfl vL (Vk g hl n6 nn zv) (Di rfl (ex rfl rfl (ex rfl rfl (aF rfl ?_)))))));refine aF rfl (OL.nil (AW.sg hE rfl (aj rfl (aj rfl (aj rfl (fF sl.dw rfl rfl (bH rfl vL (QB (v:=v) (N:=vs.length) R hv nn n6 zz) ?_)))))));refine al z.row rfl λb10=>(fA sz.row rfl rfl rfl rfl rfl (ay rfl) (cells2:=[_,_]) rfl (OL.nil (AW.seq (AW.sg hE rfl (bC fd.Bj rfl rfl (aG ce.bg rfl rfl rfl (bH rfl vL (J3 (v:=(aO (dM vs.length vs vs.length) v)) (by omega) (λj=>Nat.le_trans (zl j) (by decide))) ?_)))))))
 refine qX rfl rfl (c:=false) (decide_eq_false (by have:=Ec.2 hg;omega)) (OL.nil (oH rfl ?_))
 refine AW.skip (AW.sg hE rfl (jK rfl (OL.nil (AW.seq (AW.seq (AW.own 11 48 T.Rat 3 rfl rfl (AW.rg hE rfl ?_)))))));refine aF rfl (OL.nil (AW.block ?_));refine AW.aY (α:=Nat × Nat × Nat) [(4,_),(5,_),(6,_),(10,_)] [(10,_)] (λ(i,bq,cq)=>[(11,.bI 48 bq i cq),(12,.d (dI i))]) (λ(i,bq,cq)=>[(48,.row bq cq T.Rat 3 (((y9 vs v).take i).map dQ))]) (λ(i,bq,cq)=>i<=vs.length) (λ(i,bq,cq)=>vs.length-i) (0,0,0) (.cons (xK rfl) (.cons (di rfl) (.cons (di rfl) (.cons (iw rfl) .nil)))) (.cons (je rfl) .nil) ⟨Nat.zero_le _,.iW,.cons rfl .nil⟩ ?_
 rintro⟨i,bq,cq⟩ h1
 have h1:i<=vs.length:=h1;refine AW.seq (AW.sg hE rfl (aj rfl (bC fd.Jt rfl rfl (aG ce.bg rfl rfl rfl (fF sl.bg rfl rfl ?_)))));rw[hcl];refine bG rfl rfl rfl (OL.nil (AW.cond rfl (λh37=>?_) (λh37=>?_)))
 .try simp only[fD] at h37
  refine AW.skip (AW.seq (AW.block ?_));have hi:i<vs.length:=by omega
  have zi:=zc i;refine AW.rg hE rfl (iU rfl (bC fd.Jt rfl rfl (aG ce.bg rfl rfl rfl (aj rfl (dR sl.bg 0 rfl rfl (by omega) rfl rfl (iD ag.Rat rfl (vs:=[_,_,_]) rfl (ay rfl) (bH rfl vL (ay1 (x:=(jm (dM vs.length vs vs.length) v (List.replicate vs.length 0)).getD i 0) (by omega)) ?_)))))))
  refine rF (y:=dQ (-((jm (dM vs.length vs vs.length) v (List.replicate vs.length 0)).getD i 0))) sl.bg BJ rfl (by decide) ?_
  refine xZ sl.bg rfl rfl rfl (by rw[dA,List.length_take,xX];omega) (VC.d _) (λy hy=>by rw[jJ hy];rfl) (by simp only[iY];omega) (by simp only[iY];omega) (.inr rfl) (ys:=((y9 vs v).take (i+1)).map dQ) (by rw[iL 0 (by rw[xX];exact hi),List.map_append];unfold y9;rw[bh7 (d:=0) (by omega)];rfl) (n2:=i+1) rfl λb48 c48=>?_
  refine pV rfl (OL.nil (AW.rg hE rfl (aj rfl (aI rfl rfl (by omega) (aF rfl (OL.nil ?_))))))
  exact AW.again (x:=(i,bq,cq)) (i+1,b48,c48) (by (simp only[];omega)) ⟨by omega,Knows.app .LV .iW,dL.app (.cons rfl .nil) (.cons rfl .nil)⟩
 .try simp only[fD] at h37
  refine AW.exit (AW.seq ?_);obtain rfl:i=vs.length:=by omega
  refine AW.rg hE rfl (iU rfl (pV rfl (aF rfl (aF rfl (OL.nil ?_)))));exact AW.ret (aP.r ⟨_,.tmp rfl (.tmp rfl (.tmp rfl .nil)),_,.cons (RO.all rfl rfl (by rw[dA,List.length_take,xX];omega) (by rw[List.take_of_length_le (by rw[xX];exact Nat.le_refl _)])) (.cons (.le vR) (.cons (.le vR) .nil)),rfl⟩)
theorem QC {l:List (List Rat)}(nl:l.length<=64)(hn:∀ v,v ∈ l->v.length<=64)(zl:∀ v,v ∈ l->∀ i,sz (v.getD i 0)<=68719476736):kU P F.zL [.d (.sl (l.map dJ))] l.length T.bg 1 (l.map dJ):=by
 refine kU.intro fn.zL (by rfl) (by rfl) (ay (by rfl)) 2 rfl λE hE=>(AW.sg hE rfl (jK rfl (OL.nil (AW.sg hE rfl (jK rfl (OL.nil (AW.seq ?_)))))))
 refine AW.seq (AW.own 3 18 T.bg 1 rfl rfl (AW.rg hE rfl (aF rfl (OL.nil (AW.block ?_)))));refine AW.aY (α:=Nat × Nat × Nat) [(0,_),(2,_)] [] (λ(i,bq,cq)=>[(3,.bI 18 bq i cq),(4,.d (dI i))]) (λ(i,bq,cq)=>[(18,.row bq cq T.bg 1 ((l.take i).map dJ))]) (λ(i,bq,cq)=>i<=l.length) (λ(i,bq,cq)=>l.length-i) (0,0,0) (.cons (di rfl) (.cons (xK rfl) .nil)) .nil ⟨Nat.zero_le _,.iW,.cons rfl .nil⟩ ?_
 rintro⟨i,bq,cq⟩ h1
 have h1:i<=l.length:=h1;refine AW.seq (AW.sg hE rfl (aj rfl (aj rfl (fF sl.dw rfl rfl (bG rfl rfl rfl (OL.nil (AW.cond rfl (λh8=>?_) (λh8=>?_))))))))
 .try simp only[fD] at h8
  refine AW.skip (AW.seq (AW.block ?_));have hi:i<l.length:=by omega
  have hv:=getD_mem hi [];refine AW.rg hE rfl (iU rfl (aj rfl (aj rfl (dR sl.dw [] rfl rfl hi rfl rfl (iE ce.bg rfl (bH rfl vL (NU (l:=l.getD i []) (hn _ hv) (zl _ hv)) (rF (y:=dJ (l.getD i [])) sl.dw (VC.d _).vd rfl (by decide) ?_)))))))
  refine xZ sl.dw rfl rfl rfl (by rw[dA,List.length_take];omega) (VC.d _) (λy hy=>by rw[jJ hy];rfl) (by simp only[iY];omega) (by simp only[iY];omega) (.inr rfl) (ys:=(l.take (i+1)).map dJ) (by rw[iL [] hi,List.map_append];rfl) (n2:=i+1) rfl λb18 c18=>?_
  exact pV rfl (OL.nil (AW.rg hE rfl (aj rfl (aI rfl rfl (by omega) (aF rfl (OL.nil (AW.again (x:=(i,bq,cq)) (i+1,b18,c18) (by (simp only[];omega)) ⟨by omega,Knows.app .iW .iW,.cons rfl .nil⟩)))))))
 .try simp only[fD] at h8
  refine AW.exit (AW.seq ?_);obtain rfl:i=l.length:=by omega
  have e9:l.take l.length=l:=List.take_length;exact AW.rg hE rfl (iU rfl (pV rfl (OL.nil (AW.ret ⟨.inr rfl,18,bq,cq,(l.take l.length).map dJ,rfl,rfl,by rw[e9,dA];exact Nat.le_refl _,by rw[e9];exact List.take_of_length_le (by rw[dA];exact Nat.le_refl _)⟩))))
theorem Zy {vs:List (List Rat)}{n:Nat}(g:vV vs)(hl:∀ v,v ∈ vs->v.length=n)(n6:vs.length<=6)(nn:n<=6)(zv:∀ v,v ∈ vs->∀ i,sz (v.getD i 0)<=16777215)(n1:1<=n){v:List Rat}(hv:v.length=n)(zz:∀ i,sz (v.getD i 0)<=16777215)(hg:bM (eG vs) v=true):ai P F.ql [.d (.sl (vs.map dJ)),.d (dJ v)] (.mM [.d (.sl ((vs++[v]).map dJ)),.d (dB true),.d (dI 0)]):=by
 refine ai.intro fn.ql (by rfl) (by rfl) (ay (by rfl)) λE hE=>(AW.sg hE rfl (jK rfl (aF rfl (aF rfl (OL.nil (AW.sg hE rfl (aj rfl ?_)))))))
 refine aj rfl (bH rfl vL (ao7 g hl n6 nn zv n1 hv zz hg) (Di rfl (ex rfl rfl (ex rfl rfl (ex rfl rfl (aF rfl (aF rfl ?_)))))));refine aF rfl (OL.nil (AW.seq (AW.sg hE rfl (aj rfl (eX rfl rfl (c:=false) (kY rfl) (OL.nil (oH rfl ?_)))))));refine AW.skip (AW.sg hE rfl (aj rfl (clR rfl .dD (QC (l:=vs) (by omega) (λw hw=>by rw[hl w hw];omega) (λw hw i=>Nat.le_trans (zv w hw i) (by decide))) rfl λb22 c22=>(pV rfl (OL.nil (AW.seq (AW.sg hE rfl ?_)))))))
 refine aj rfl (OL.nil (AW.cond rfl (λhno=>absurd hno ((by decide))) (λ_=>?_)))
 refine AW.skip (AW.sg hE rfl (iU rfl (aj rfl (bH rfl vL (NU (l:=v) (by omega) (λi=>Nat.le_trans (zz i) (by decide))) (rF (y:=dJ v) sl.dw (VC.d _).vd rfl (by decide) ?_)))))
 refine Yn sl.dw rfl rfl rfl (dA ..).symm (VC.d _) (λy hy=>by rw[jJ hy];rfl) (by simp only[iY];omega) (by simp only[iY];omega) (.inl rfl) (ys:=(vs++[v]).map dJ) (by rw[List.map_append];rfl) ?_
 exact aF rfl (aF rfl (aF rfl (OL.nil (AW.ret (aP.r ⟨_,.tmp rfl (.tmp rfl (.tmp rfl .nil)),_,.cons (.le vR) (.cons (.le vR) (.cons (.le vR) .nil)),rfl⟩)))))
theorem Zz {vs:List (List Rat)}{n:Nat}(g:vV vs)(hl:∀ v,v ∈ vs->v.length=n)(n6:vs.length<=6)(nn:n<=6)(zv:∀ v,v ∈ vs->∀ i,sz (v.getD i 0)<=16777215)(n1:1<=n){v:List Rat}(hv:v.length=n)(zz:∀ i,sz (v.getD i 0)<=16777215)(hg:bM (eG vs) v=false):ai P F.ql [.d (.sl (vs.map dJ)),.d (dJ v)] (.mM [.d (.sl (vs.map dJ)),.d (dB false),.d (dI 0)]):=by
 refine ai.intro fn.ql (by rfl) (by rfl) (ay (by rfl)) λE hE=>(AW.sg hE rfl (jK rfl (aF rfl (aF rfl (OL.nil (AW.sg hE rfl (aj rfl ?_)))))))
 refine aj rfl (bH rfl vL (TU g hl n6 nn zv n1 hv zz hg) (Di rfl (ex rfl rfl (ex rfl rfl (ex rfl rfl (aF rfl (aF rfl ?_)))))));refine aF rfl (OL.nil (AW.seq (AW.sg hE rfl (aj rfl (eX rfl rfl (c:=false) (kY rfl) (OL.nil (oH rfl ?_)))))));refine AW.skip (AW.sg hE rfl (aj rfl (bH rfl vL (kU.data (QC (l:=vs) (by omega) (λw hw=>by rw[hl w hw];omega) (λw hw i=>Nat.le_trans (zv w hw i) (by decide))) (dA ..).symm) (aF rfl (OL.nil (AW.seq (AW.sg hE rfl ?_)))))))
 refine aj rfl (OL.nil (AW.cond rfl (λ_=>?_) (λhno=>absurd hno ((by decide)))))
 exact AW.sg hE rfl (aj rfl (aF rfl (aF rfl (aF rfl (OL.nil (AW.ret (aP.r ⟨_,.tmp rfl (.tmp rfl (.tmp rfl .nil)),_,.cons (.le vR) (.cons (.le vR) (.cons (.le vR) .nil)),rfl⟩)))))))
