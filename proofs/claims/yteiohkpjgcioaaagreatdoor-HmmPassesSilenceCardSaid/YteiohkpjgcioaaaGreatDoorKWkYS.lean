/-
  Walks of the specification's layers 6 and 8: the weight of a word, for at most 64 arcs (printed by mk2.py).
-/
import Derived.Test.YteiohkpjgcioaaaGreatDoorKWkY
set_option maxRecDepth 8000
set_option maxHeartbeats 3200000
set_option linter.unusedVariables false
set_option linter.unusedSimpArgs false
namespace Go.Proofs.YteiohkpjgcioaaaGreatDoor
open Go Go.AL
structure Au.Ws (a:Au) (w:List Int):Prop where
 ok:a.Ok
 sz:a.Sz 134217728 64
 s2:a.sym<=32
 st:a.st<=64
 zz:VI a w
theorem au6 {l:List aT}(nl:l.length<=64)(hz:∀ x,x ∈ l->sz x.q<=134217728):kR P F.Ad [l7,.d (oW l)] (uT l).length T.mD 11 ((uT l).map iO):=by
 refine kR.intro fn.Ad (by rfl) (by rfl) (au (by rfl)) 4 rfl λE hE=>(AW.sg hE rfl (iC rfl rfl λb2=>(oq rfl (OL.nil (AW.sg hE rfl (oq rfl (OL.nil ?_)))))))
 refine AW.seq (AW.seq (AW.own 5 77 T.mD 11 rfl rfl (AW.rg hE rfl (ay rfl (OL.nil (AW.block ?_))))));refine AW.aK (α:=Nat × Nat × Nat) [(1,_),(2,_),(4,_)] [(2,_)] (λ(i,bq,cq)=>[(5,.bJ 77 bq (bW l i).length cq),(6,.d (dI i))]) (λ(i,bq,cq)=>[(77,rowA bq cq (bW l i))]) (λ(i,bq,cq)=>i<=l.length) (λ(i,bq,cq)=>l.length-i) (0,0,0) (.cons (bM rfl) (.cons (fG rfl) (.cons (zi rfl) .nil))) (.cons (iJ rfl) .nil) ⟨Nat.zero_le _,.dR,.cons rfl .nil⟩ ?_
 rintro⟨i,bq,cq⟩ h1
 have h1:i<=l.length:=h1;have hlo:=VR l i;have hzo:=MJ hz i;refine AW.seq (AW.sg hE rfl (ah rfl (ah rfl (eH sl.cZ rfl rfl (aN rfl rfl rfl (OL.nil (AW.cond rfl (λAO=>?_) (λAO=>?_))))))))
 .try simp only[bY] at AO
  refine AW.skip (AW.seq (AW.block (AW.sg hE rfl (ah rfl (ah rfl (bg sl.cZ default rfl rfl (by omega) rfl rfl (iU ag.mD rfl (vs:=[_,_,_,_,_,_,_,_,_,_,_]) rfl (au rfl) ?_)))))))
  refine al z.mD rfl λb7=>(dA sz.mD rfl rfl rfl rfl rfl (au rfl) (cells2:=[_,_,_,_,_,_,_,_,_,_,_]) rfl (OL.nil (AW.seq ?_)));have hxz:=hz (l.getD i default) (getD_mem (by omega) default)
  refine AW.rg hE rfl (aG ag.Ring rfl rfl (vs:=[_,_]) rfl (au rfl) (aF fd.wz rfl rfl (aG ag.aA rfl rfl (vs:=[_,_,_,_,_,_,_,_]) rfl (au rfl) (aY rfl vL (KQ (q:=(l.getD i default).q) (by omega)) (aF fd.wz rfl rfl (dA sz.aA rfl rfl rfl rfl rfl (au rfl) (cells2:=[_,_,_,_,_,_,_,_,_,_,_]) rfl (OL.nil ?_)))))))
  refine AW.sg hE rfl (ay rfl (OL.nil ?_));refine AW.AP (α:=Unit) [(1,_),(2,_),(4,_),(5,_),(6,_),(7,_)] [(2,_),(7,_),(77,_)] (λ_u=>[(8,.d (dI (qJ (bW l i) (l.getD i default))))]) (λ_u=>[]) (λ_u=>True) (.cons (bM rfl) (.cons (fG rfl) (.cons (zi rfl) (.cons (uH rfl) (.cons (bM rfl) (.cons (fG rfl) .nil)))))) (.cons (iJ rfl) (.cons (iJ rfl) (.cons (rH rfl) .nil))) ?_ ?_
  .refine AW.block ?_;refine AW.aK (α:=Nat) [(1,_),(2,_),(4,_),(5,_),(6,_),(7,_)] [(2,_),(7,_),(77,_)] (λk=>[(8,.d (dI k))]) (λk=>[]) (λk=>k<=(bW l i).length/\∀ j,j<k->iH ((bW l i).getD j default) (l.getD i default)<0) (λk=>(bW l i).length-k) 0 (.cons (bM rfl) (.cons (fG rfl) (.cons (zi rfl) (.cons (uH rfl) (.cons (bM rfl) (.cons (fG rfl) .nil)))))) (.cons (iJ rfl) (.cons (iJ rfl) (.cons (rH rfl) .nil))) ⟨⟨Nat.zero_le _,λj hj=>by omega⟩,.bC,.nil⟩ ?_
   rintro k ⟨h2,h3⟩
   have h2:k<=(bW l i).length:=h2;have h3:∀ j,j<k->iH ((bW l i).getD j default) (l.getD i default)<0:=h3;refine AW.seq (AW.seq (AW.dg 1 [0,1,2,3,4,5,6,7,8,9,10,11,12] aj hE rfl (by kernel_rfl) (OI.aP (os:=[_,_,_,_,_,_,_,_,_,_,_,_,_]) rfl ?_)))
   refine ah rfl (fQ rfl (WI sl.cZ rfl rfl (aN rfl rfl rfl (ah rfl (OL.split 30 rfl (λhk=>?_) (λhk=>?_))))))
   .have hk:k<(bW l i).length:=by have:=jC hk;omega
    refine OL.yes rfl (fQ rfl (OL.yes rfl (ah rfl (OL.yes rfl (dV sl.cZ rfl rfl (by omega) (OL.yes rfl (wS ag.mD (by decide) rfl rfl (iT (show k<(bW l i).length by omega)) (vs:=gI ((bW l i).getD k default)) rfl (au rfl) ?_)))))))
    refine OL.yes rfl (aG ag.mD rfl rfl (vs:=[_,_,_,_,_,_,_,_,_,_,_]) rfl (au rfl) (OL.yes rfl (aY rfl vL (Zr (x:=(bW l i).getD k default) (y:=(l.getD i default))) (OL.yes rfl (aN rfl rfl rfl (OL.split 37 rfl (λho=>?_) (λho=>?_)))))))
    .have ho:iH ((bW l i).getD k default) (l.getD i default)<0:=jC ho;refine iV rfl rfl (OL.nil (Hl rfl ?_));refine AW.skip (AW.block (AW.rg hE rfl (ah rfl (aB rfl rfl (by omega) (ay rfl (OL.nil ?_))))))
     exact AW.again (x:=k) (k+1) (by omega) ⟨⟨by omega,λj hj=>by rcases Nat.lt_or_ge j k with h|h;exact h3 j h;obtain rfl:j=k:=(by omega);exact ho⟩,Knows.app .Lj .bC,bn.app (.cons rfl (.cons rfl (.cons rfl .nil))) (.nil)⟩
    .have ho:¬ iH ((bW l i).getD k default) (l.getD i default)<0:=kK ho;refine iV rfl rfl (OL.nil (jD rfl ?_));refine AW.exit ?_;exact AW.reach () ⟨trivial,Knows.app .Lj (.cons (aZ.int (by rw[au4 h2 h3 (.inr ho)])) .nil),bn.app (.cons rfl (.cons rfl (.cons rfl .nil))) (.nil)⟩
   .have hk:(bW l i).length<=k:=by have:=kK hk;omega
    refine OL.nd rfl (OL.nd rfl (OL.nd rfl (OL.nd rfl (OL.nd rfl (OL.nd rfl (OL.nd rfl (eG rfl rfl ?_)))))));refine OL.nil (jD rfl ?_);refine AW.exit ?_;exact AW.reach () ⟨trivial,Knows.app .Lj (.cons (aZ.int (by rw[au4 h2 h3 (.inl (by omega))])) .nil),bn.app (.cons rfl (.cons rfl (.cons rfl .nil))) (.nil)⟩
  rintro⟨⟩ -
  have hat:(qJ (bW l i) (l.getD i default))<=(bW l i).length:=List.findIdx_le_length;refine AW.seq (AW.seq (AW.dg 1 [0,1,2,3,4,5,6,7,8,9,10,11,12] aj hE rfl (by kernel_rfl) (OI.aP (os:=[_,_,_,_,_,_,_,_,_,_,_,_,_]) rfl ?_)))
  refine ah rfl (fQ rfl (WI sl.cZ rfl rfl (aN rfl rfl rfl (ah rfl (OL.split 45 rfl (λha=>?_) (λha=>?_))))))
  .have ha:(qJ (bW l i) (l.getD i default))<(bW l i).length:=by have:=jC ha;omega
   refine OL.yes rfl (fQ rfl (OL.yes rfl (ah rfl (OL.yes rfl (dV sl.cZ rfl rfl (by omega) (OL.yes rfl (wS ag.mD (by decide) rfl rfl (iT (show (qJ (bW l i) (l.getD i default))<(bW l i).length by omega)) (vs:=gI ((bW l i).getD (qJ (bW l i) (l.getD i default)) default)) rfl (au rfl) ?_)))))))
   refine OL.yes rfl (aG ag.mD rfl rfl (vs:=[_,_,_,_,_,_,_,_,_,_,_]) rfl (au rfl) (OL.yes rfl (aY rfl vL (Zr (x:=((bW l i).getD (qJ (bW l i) (l.getD i default)) default)) (y:=(l.getD i default))) (OL.yes rfl (dm rfl rfl rfl (OL.split 52 rfl (λho=>?_) (λho=>?_)))))))
   .have ho:iH ((bW l i).getD (qJ (bW l i) (l.getD i default)) default) (l.getD i default)=0:=jC ho;have hyz:=hzo ((bW l i).getD (qJ (bW l i) (l.getD i default)) default) (getD_mem ha default);refine iV rfl rfl (OL.nil (Hl rfl ?_));refine AW.seq (AW.dg 1 [0,1,2,3,4,5,6,7,8,9,10,11,12,13] aj hE rfl (by kernel_rfl) (OI.aP (os:=[_,_,_,_,_,_,_,_,_,_,_,_,_,_]) rfl ?_))
    refine fQ rfl (ah rfl (aG ag.Ring rfl rfl (vs:=[_,_]) rfl (au rfl) (fQ rfl (ah rfl (dV sl.cZ rfl rfl (by omega) (faE fd.wz rfl rfl ?_))))))
    refine wS ag.aA (by decide) rfl rfl (iT ha) (vs:=[.d (dB (eU ((bW l i).getD (qJ (bW l i) (l.getD i default)) default).q).neg),.d (aC (eU ((bW l i).getD (qJ (bW l i) (l.getD i default)) default).q).num),.d (aC (eU ((bW l i).getD (qJ (bW l i) (l.getD i default)) default).q).den),.d (dI 0),.d (dB false),.d (dU 0),.d (.sl []),.d (.sl [])]) rfl (au rfl) ?_
    refine aF fd.wz rfl rfl (aG ag.aA rfl rfl (vs:=[_,_,_,_,_,_,_,_]) rfl (au rfl) (aY rfl vL (X0 (p:=((bW l i).getD (qJ (bW l i) (l.getD i default)) default).q) (q:=(l.getD i default).q) (by omega) (by omega)) (dV sl.cZ rfl rfl (by omega) (faE fd.wz rfl rfl ?_))))
    refine stF sz.aA rfl (d:=dW (((bW l i).getD (qJ (bW l i) (l.getD i default)) default).q+(l.getD i default).q)) G8 rfl rfl (iT ha) (by decide) (el2:=iO { ((bW l i).getD (qJ (bW l i) (l.getD i default)) default) with q:=((bW l i).getD (qJ (bW l i) (l.getD i default)) default).q+(l.getD i default).q }) rfl (es2:=((bW l i).set (qJ (bW l i) (l.getD i default)) { ((bW l i).getD (qJ (bW l i) (l.getD i default)) default) with q:=((bW l i).getD (qJ (bW l i) (l.getD i default)) default).q+(l.getD i default).q }).map iO) (by rw[List.map_set]) ?_
    refine OL.nil (AW.exit (AW.rg hE rfl (ah rfl (aB rfl rfl (by omega) (ay rfl (OL.nil ?_))))))
    exact AW.again (x:=(i,bq,cq)) (i+1,bq,cq) (by (simp only[];omega)) ⟨by omega,Knows.app .wL (.cons (by rw[uV (by omega),wG,if_pos ⟨ha,ho⟩,List.length_set];exact aZ.refl _) .bC),bn.app (.cons rfl .nil) (.cons (by rw[uV (by omega),wG,if_pos ⟨ha,ho⟩];rfl) .nil)⟩
   .have ho:¬ iH ((bW l i).getD (qJ (bW l i) (l.getD i default)) default) (l.getD i default)=0:=kK ho;have hin:wG (bW l i) (l.getD i default)=(bW l i).take (qJ (bW l i) (l.getD i default))++(l.getD i default)::(bW l i).drop (qJ (bW l i) (l.getD i default)):=if_neg (λe=>ho e.2);refine iV rfl rfl (OL.nil (jD rfl ?_));refine AW.skip ?_;have htk:((bW l i).take (qJ (bW l i) (l.getD i default))).length=(qJ (bW l i) (l.getD i default)):=by rw[List.length_take];omega
    have hdl:((bW l i).drop (qJ (bW l i) (l.getD i default))).length=(bW l i).length-(qJ (bW l i) (l.getD i default)):=List.length_drop;refine AW.freeze 77 rfl (AW.to [(1,.d (oW l)),(2,.ptr 2 b2 0),(4,.mt),(5,.d (oW (bW l i))),(6,.d (dI i)),(7,.ptr 7 b7 0),(8,.d (dI (qJ (bW l i) (l.getD i default))))] [(2,.box b2 T.Ring [.d (dI 1),.d (.sl [])]),(7,.box b7 T.mD (gI (l.getD i default)))] (.cons vR (.cons aZ.ptr (.cons vR (.cons (dP (by rw[dF]) rfl) (.cons vR (.cons aZ.ptr .bC)))))) (.cons rfl (.cons rfl .nil)) ?_)
    refine AW.dg 2 [0,1,2,4,5,7,8,9,3,6,10,11] aj hE rfl (by kernel_rfl) (OI.aP (os:=[_,_,_,_,_,_,_,_,_,_,_,_]) rfl ?_)
    refine ah rfl (ah rfl (ZY sl.cZ rfl rfl (λ_=>rfl) (by omega) (l2:=(bW l i).take (qJ (bW l i) (l.getD i default))) (by rw[Int.toNat_natCast]) (aG ag.mD rfl rfl (vs:=[_,_,_,_,_,_,_,_,_,_,_]) rfl (au rfl) (tC (y:=iO (l.getD i default)) sl.cZ tu rfl (by decide) (ah rfl (ah rfl (al0 sl.cZ rfl rfl (λ_=>rfl) (by omega) (l2:=(bW l i).drop (qJ (bW l i) (l.getD i default))) (by rw[Int.toNat_natCast]) ?_)))))))
    refine apM sl.cZ rfl rfl (VC.d _) Fz (by rw[dF,htk];omega) (by rw[dF,htk];omega) rfl λb70 c70=>?_
    refine yG sl.cZ rfl rfl rfl (by rw[dF]) (VC.d _) (λy hy=>by rw[qm hy];rfl) (by rw[dF,htk];simp only[nN];omega) (by rw[dF,htk];simp only[nN];omega) (.inl rfl) (ys:=((bW l i).take (qJ (bW l i) (l.getD i default))++[(l.getD i default)]).map iO) (by rw[List.map_append];rfl) (n2:=(qJ (bW l i) (l.getD i default))+1) (by rw[dF,htk];rfl) λb73 c73=>?_
    refine yG sl.cZ rfl rfl rfl (by rw[dF,jT,htk];rfl) (VC.d _) Fz (by rw[dF,hdl];omega) (by rw[dF,hdl];omega) (.inl rfl) (ys:=((bW l i).take (qJ (bW l i) (l.getD i default))++(l.getD i default)::(bW l i).drop (qJ (bW l i) (l.getD i default))).map iO) (by rw[<- List.map_append,List.append_assoc];rfl) (n2:=((bW l i).take (qJ (bW l i) (l.getD i default))++(l.getD i default)::(bW l i).drop (qJ (bW l i) (l.getD i default))).length) (by rw[dF,hdl,jT,List.length_cons,htk,hdl];omega) λb77 c77=>?_
    refine uj rfl (OL.nil (AW.rg hE rfl (ah rfl (aB rfl rfl (by omega) (ay rfl (OL.nil ?_))))))
    exact AW.again (x:=(i,bq,cq)) (i+1,b77,c77) (by (simp only[];omega)) ⟨by omega,Knows.app .wL (.cons (by rw[uV (by omega),hin];exact aZ.refl _) .bC),bn.app (.cons rfl .nil) (.cons (by rw[uV (by omega),hin];rfl) .nil)⟩
  .have ha:¬ (qJ (bW l i) (l.getD i default))<(bW l i).length:=by have:=kK ha;omega
   have hin:wG (bW l i) (l.getD i default)=(bW l i).take (qJ (bW l i) (l.getD i default))++(l.getD i default)::(bW l i).drop (qJ (bW l i) (l.getD i default)):=if_neg (λe=>ha e.1);refine OL.nd rfl (OL.nd rfl (OL.nd rfl (OL.nd rfl (OL.nd rfl (OL.nd rfl (OL.nd rfl (eG rfl rfl ?_)))))));refine OL.nil (jD rfl ?_);refine AW.skip ?_;have htk:((bW l i).take (qJ (bW l i) (l.getD i default))).length=(qJ (bW l i) (l.getD i default)):=by rw[List.length_take];omega
   have hdl:((bW l i).drop (qJ (bW l i) (l.getD i default))).length=(bW l i).length-(qJ (bW l i) (l.getD i default)):=List.length_drop;refine AW.freeze 77 rfl (AW.to [(1,.d (oW l)),(2,.ptr 2 b2 0),(4,.mt),(5,.d (oW (bW l i))),(6,.d (dI i)),(7,.ptr 7 b7 0),(8,.d (dI (qJ (bW l i) (l.getD i default))))] [(2,.box b2 T.Ring [.d (dI 1),.d (.sl [])]),(7,.box b7 T.mD (gI (l.getD i default)))] (.cons vR (.cons aZ.ptr (.cons vR (.cons (dP (by rw[dF]) rfl) (.cons vR (.cons aZ.ptr .bC)))))) (.cons rfl (.cons rfl .nil)) ?_)
   refine AW.dg 2 [0,1,2,4,5,7,8,9,3,6,10,11] aj hE rfl (by kernel_rfl) (OI.aP (os:=[_,_,_,_,_,_,_,_,_,_,_,_]) rfl ?_)
   refine ah rfl (ah rfl (ZY sl.cZ rfl rfl (λ_=>rfl) (by omega) (l2:=(bW l i).take (qJ (bW l i) (l.getD i default))) (by rw[Int.toNat_natCast]) (aG ag.mD rfl rfl (vs:=[_,_,_,_,_,_,_,_,_,_,_]) rfl (au rfl) (tC (y:=iO (l.getD i default)) sl.cZ tu rfl (by decide) (ah rfl (ah rfl (al0 sl.cZ rfl rfl (λ_=>rfl) (by omega) (l2:=(bW l i).drop (qJ (bW l i) (l.getD i default))) (by rw[Int.toNat_natCast]) ?_)))))))
   refine apM sl.cZ rfl rfl (VC.d _) Fz (by rw[dF,htk];omega) (by rw[dF,htk];omega) rfl λb70 c70=>?_
   refine yG sl.cZ rfl rfl rfl (by rw[dF]) (VC.d _) (λy hy=>by rw[qm hy];rfl) (by rw[dF,htk];simp only[nN];omega) (by rw[dF,htk];simp only[nN];omega) (.inl rfl) (ys:=((bW l i).take (qJ (bW l i) (l.getD i default))++[(l.getD i default)]).map iO) (by rw[List.map_append];rfl) (n2:=(qJ (bW l i) (l.getD i default))+1) (by rw[dF,htk];rfl) λb73 c73=>?_
   refine yG sl.cZ rfl rfl rfl (by rw[dF,jT,htk];rfl) (VC.d _) Fz (by rw[dF,hdl];omega) (by rw[dF,hdl];omega) (.inl rfl) (ys:=((bW l i).take (qJ (bW l i) (l.getD i default))++(l.getD i default)::(bW l i).drop (qJ (bW l i) (l.getD i default))).map iO) (by rw[<- List.map_append,List.append_assoc];rfl) (n2:=((bW l i).take (qJ (bW l i) (l.getD i default))++(l.getD i default)::(bW l i).drop (qJ (bW l i) (l.getD i default))).length) (by rw[dF,hdl,jT,List.length_cons,htk,hdl];omega) λb77 c77=>?_
   refine uj rfl (OL.nil (AW.rg hE rfl (ah rfl (aB rfl rfl (by omega) (ay rfl (OL.nil ?_))))))
   exact AW.again (x:=(i,bq,cq)) (i+1,b77,c77) (by (simp only[];omega)) ⟨by omega,Knows.app .wL (.cons (by rw[uV (by omega),hin];exact aZ.refl _) .bC),bn.app (.cons rfl .nil) (.cons (by rw[uV (by omega),hin];rfl) .nil)⟩
 .try simp only[bY] at AO
  refine AW.exit (AW.seq ?_);obtain rfl:i=l.length:=by omega
  refine AW.freeze 77 rfl (AW.to [(2,.ptr 2 b2 0),(4,.mt),(5,.d (oW (bW l l.length)))] [(2,.box b2 T.Ring [.d (dI 1),.d (.sl [])])] (.cons aZ.ptr (.cons vR (.cons (dP (by rw[dF]) rfl) .nil))) (.cons rfl .nil) ?_)
  refine AW.rg hE rfl (oq rfl (OL.nil (AW.seq (AW.seq (AW.own 9 98 T.mD 11 rfl rfl (AW.rg hE rfl (ay rfl ?_)))))));refine OL.nil (AW.block ?_);refine AW.aK (α:=Nat × Nat × Nat) [(2,_),(4,_),(5,_)] [(2,_)] (λ(k,bk,ck)=>[(9,.bJ 98 bk (QC ((bW l l.length).take k)).length ck),(10,.d (dI k))]) (λ(k,bk,ck)=>[(98,rowA bk ck (QC ((bW l l.length).take k)))]) (λ(k,bk,ck)=>k<=(bW l l.length).length) (λ(k,bk,ck)=>(bW l l.length).length-k) (0,0,0) (.cons (fG rfl) (.cons (zi rfl) (.cons (bM rfl) .nil))) (.cons (iJ rfl) .nil) ⟨Nat.zero_le _,.dR,.cons rfl .nil⟩ ?_
  rintro⟨k,bk,ck⟩ h5
  have h5:k<=(bW l l.length).length:=h5;have hnl:(QC ((bW l l.length).take k)).length<=k:=by unfold QC;refine Nat.le_trans (List.length_filter_le ..) ?_;rw[List.length_take];omega
  refine AW.seq (AW.sg hE rfl (ah rfl (ah rfl (eH sl.cZ rfl rfl (aN rfl rfl rfl (OL.nil (AW.cond rfl (λh81=>?_) (λh81=>?_))))))))
  .try simp only[bY] at h81
   refine AW.skip (AW.seq (AW.block (AW.seq ?_)));have hk9:k<(bW l l.length).length:=by omega
   have hyz:=MJ hz l.length _ (getD_mem hk9 default);have bl5:sz ((bW l l.length).getD k default).q<=68719476736:=by have:=Nat.mul_le_mul_right 134217730 (show l.length+1<=65 by omega);omega
   refine AW.dg 1 [0,1,2,3,4,5,6,7] aj hE rfl (by kernel_rfl) (OI.aP (os:=[_,_,_,_,_,_,_,_]) rfl ?_)
   refine aG ag.Ring rfl rfl (vs:=[_,_]) rfl (au rfl) (ah rfl (ah rfl (bg sl.cZ default rfl rfl hk9 rfl rfl (faR fd.wz rfl rfl (iU ag.aA rfl (vs:=[_,_,_,_,_,_,_,_]) rfl (au rfl) (aY rfl vL (au1 (q:=((bW l l.length).getD k default).q) bl5) (nt rfl ?_)))))));refine OL.nil (AW.cond rfl (λhq=>?_) (λhq=>?_))
   .have hq:((bW l l.length).getD k default).q≠0:=L6 hq;refine AW.rg hE rfl (fQ rfl (ah rfl (ah rfl (bg sl.cZ default rfl rfl hk9 rfl rfl (iU ag.mD rfl (vs:=[_,_,_,_,_,_,_,_,_,_,_]) rfl (au rfl) (tC (y:=iO ((bW l l.length).getD k default)) sl.cZ tu rfl (by decide) ?_))))))
    refine yG sl.cZ rfl rfl rfl (by rw[dF]) (VC.d _) (λy hy=>by rw[qm hy];rfl) (by simp;omega) (by simp;omega) (.inr rfl) (ys:=(QC ((bW l l.length).take k)++[(bW l l.length).getD k default]).map iO) (by rw[List.map_append];rfl) (n2:=(QC ((bW l l.length).take k)++[(bW l l.length).getD k default]).length) (by rw[jT];rfl) λb98 c98=>?_
    refine uj rfl (OL.nil (AW.rg hE rfl (ah rfl (aB rfl rfl (by omega) (ay rfl (OL.nil ?_))))))
    exact AW.again (x:=(k,bk,ck)) (k+1,b98,c98) (by (simp only[];omega)) ⟨by omega,Knows.app .wL (.cons (by rw[JI hk9,if_pos hq];exact aZ.refl _) .bC),bn.app (.cons rfl .nil) (.cons (by rw[JI hk9,if_pos hq];rfl) .nil)⟩
   .have hq:((bW l l.length).getD k default).q=0:=J3 hq;refine AW.skip (AW.rg hE rfl (ah rfl (aB rfl rfl (by omega) (ay rfl (OL.nil ?_)))))
    exact AW.again (x:=(k,bk,ck)) (k+1,bk,ck) (by (simp only[];omega)) ⟨by omega,Knows.app .wL (.cons (by rw[JI hk9,if_neg (λe=>e hq),List.append_nil];exact aZ.refl _) .bC),bn.app (.cons rfl .nil) (.cons (by rw[JI hk9,if_neg (λe=>e hq),List.append_nil];rfl) .nil)⟩
  .try simp only[bY] at h81
   refine AW.exit (AW.seq ?_);obtain rfl:k=(bW l l.length).length:=by omega
   have e9:QC ((bW l l.length).take (bW l l.length).length)=uT l:=by rw[<- au3,List.take_length]
   dsimp only
   rw[e9];exact AW.rg hE rfl (fQ rfl (uj rfl (OL.nil (AW.ret ⟨.inr rfl,98,bk,ck,(uT l).map iO,rfl,rfl,by rw[dF];exact Nat.le_refl _,List.take_of_length_le (by rw[dF];exact Nat.le_refl _)⟩))))
theorem Zv {l:List aT}(nl:l.length<=64)(hz:∀ x,x ∈ l->sz x.q<=134217728):ai P F.Ad [l7,.d (oW l)] (.d (oW (uT l))):=kR.data (au6 nl hz) (dF ..).symm
theorem Zw {a:Au}(h:a.Ok)(za:a.Sz 134217728 64)(s2:a.st<=64):ai P F.DC [Gx a] (Gx (kH a)):=by
 have e1:=h.ini;have e2:=h.fin;have e3:=za.num;refine ai.intro fn.DC (by rfl) (by rfl) (au (by rfl)) λE hE=>(AW.sg hE rfl (iC rfl rfl λb1=>(al z.Auto rfl λb2=>(OL.nil (AW.seq (AW.dg 1 [0,1,2,3,4,5,6,7,8,9,10,11,12,13,14,15,16,17,18,19,20,21,22,23] aj hE rfl (by kernel_rfl) (OI.aP (os:=[_,_,_,_,_,_,_,_,_,_,_,_,_,_,_,_,_,_,_,_,_,_,_,_]) rfl ?_)))))))
 refine aF fd.kU rfl rfl (aG ag.Ring rfl rfl (vs:=[_,_]) rfl (au rfl) (aY rfl .bC (aT1) (aF fd.D6 rfl rfl (ak ce.int rfl rfl rfl (aF fd.rD rfl rfl (ak ce.int rfl rfl rfl (aF fd.kU rfl rfl ?_)))))));refine aG ag.Ring rfl rfl (vs:=[_,_]) rfl (au rfl) (aF fd.xe rfl rfl (ak ce.aS rfl rfl rfl (aY rfl vL (au5 (l:=a.ini) (by omega) za.ini) (aF fd.kU rfl rfl (aG ag.Ring rfl rfl (vs:=[_,_]) rfl (au rfl) (aF fd.xg rfl rfl (ak ce.aS rfl rfl rfl ?_)))))))
 refine aY rfl vL (au5 (l:=a.fin) (by omega) za.fin) (aF fd.kU rfl rfl (aG ag.Ring rfl rfl (vs:=[_,_]) rfl (au rfl) (aF fd.lX rfl rfl (ak ce.cZ rfl rfl rfl (aY rfl vL (Zv (l:=a.aX) e3 za.arc) (WL (cs:=[_,_,_,_,_,_,_]) z.Auto pl.Auto (qA (by exact evA rfl) (qA (by exact AX rfl) (qA (by exact AX rfl) (qA (by exact AX rfl) (qA (by exact AX rfl) (qA (by exact AX rfl) (WJ))))))) (by rfl) (dA sz.Auto rfl rfl rfl rfl rfl (au rfl) (cells2:=[_,_,_,_,_,_,_]) rfl ?_)))))))
 exact OL.nil (AW.ret (aH.r ⟨_,.dD rfl rfl ag.Auto (au rfl) .nil,.ag (.cons (.le vR) (.cons (.le vR) (.cons (.le vR) (.cons (.le vR) (.cons (.le vR) (.cons (.le vR) (.cons (.le vR) .nil)))))))⟩))
theorem VS {a:Au}(h:a.Ok)(za:a.Sz 134217728 64)(s1:a.sym<=32)(s2:a.st<=64):ai P F.Ba [Gx a] (.d (dB true)):=by
 have e1:=h.ini;have e2:=h.fin;have e3:=za.num;have h0:=h.qR;refine ai.intro fn.Ba (by rfl) (by rfl) (au (by rfl)) λE hE=>(AW.sg hE rfl (iC rfl rfl λb1=>(ay rfl (OL.nil (AW.seq (AW.sg hE rfl (aF fd.kU rfl rfl ?_)))))))
 refine aG ag.Ring rfl rfl (vs:=[_,_]) rfl (au rfl) (aY rfl .bC (GK) (nt rfl (ah rfl (OL.yes rfl (aF fd.D6 rfl rfl (OL.yes rfl (ak ce.int rfl rfl rfl ?_)))))));refine OL.yes rfl (aY rfl vL (Zt (s:=a.sym) (by omega)) (OL.yes rfl (nt rfl (eG rfl rfl (ah rfl (OL.yes rfl (aF fd.rD rfl rfl ?_)))))))
 refine OL.yes rfl (ak ce.int rfl rfl rfl (OL.yes rfl (aY rfl vL (aH4 (v:=a.st) (lo:=0) (hi:=64) (by omega)) (OL.yes rfl (nt rfl (eG rfl rfl (ah rfl ?_)))))))
 refine OL.yes rfl (aF fd.kU rfl rfl (OL.yes rfl (aG ag.Ring rfl rfl (vs:=[_,_]) rfl (au rfl) (OL.yes rfl (aF fd.xe rfl rfl (OL.yes rfl (ak ce.aS rfl rfl rfl ?_)))))));refine OL.yes rfl (aF fd.rD rfl rfl (OL.yes rfl (ak ce.int rfl rfl rfl (OL.yes rfl (aY rfl (.cons vR (.cons vR (.cons (aZ.int (by omega)) .nil))) (QW (l:=a.ini) (by omega) za.ini) (OL.yes rfl (nt rfl ?_)))))))
 refine eG rfl rfl (ah rfl (OL.yes rfl (aF fd.kU rfl rfl (OL.yes rfl (aG ag.Ring rfl rfl (vs:=[_,_]) rfl (au rfl) (OL.yes rfl (aF fd.xg rfl rfl ?_)))))));refine OL.yes rfl (ak ce.aS rfl rfl rfl (OL.yes rfl (aF fd.rD rfl rfl (OL.yes rfl (ak ce.int rfl rfl rfl (OL.yes rfl (aY rfl (.cons vR (.cons vR (.cons (aZ.int (by omega)) .nil))) (QW (l:=a.fin) (by omega) za.fin) ?_)))))))
 refine OL.yes rfl (nt rfl (eG rfl rfl (ah rfl (OL.yes rfl (aF fd.lX rfl rfl (OL.yes rfl (ak ce.cZ rfl rfl rfl ?_)))))));refine OL.yes rfl (eH sl.cZ rfl rfl (OL.yes rfl (iI rfl rfl (c:=false) (by exact decide_eq_false (by omega)) (eG rfl rfl (OL.nil (jD rfl ?_))))))
 refine AW.skip (AW.seq (AW.sg hE rfl (ay rfl (OL.nil (AW.block (AW.aK (α:=Nat) [(1,_)] [(1,_)] (λi=>[(3,.d (dI i))]) (λi=>[]) (λi=>i<=a.aX.length) (λi=>a.aX.length-i) 0 (.cons (fG rfl) .nil) (.cons (iJ rfl) .nil) ⟨Nat.zero_le _,.bC,.nil⟩ ?_))))))
 rintro i h1
 have h1:i<=a.aX.length:=h1;refine AW.seq (AW.sg hE rfl (ah rfl (aF fd.lX rfl rfl (ak ce.cZ rfl rfl rfl (eH sl.cZ rfl rfl (aN rfl rfl rfl (OL.nil ?_)))))));refine AW.cond rfl (λh51=>?_) (λh51=>?_)
 .try simp only[bY] at h51
  refine AW.skip (AW.seq (AW.block (AW.seq ?_)));have hm:=getD_mem (l:=a.aX) (i:=i) (by omega) default
  have hx:=za.arc (a.aX.getD i default) hm;obtain⟨hx1,hx2,hx3,hx4⟩:=h.arc (a.aX.getD i default) hm;refine AW.rg hE rfl (aF fd.lX rfl rfl (ak ce.cZ rfl rfl rfl (ah rfl (bg sl.cZ default rfl rfl (by omega) rfl rfl (iU ag.mD rfl (vs:=[_,_,_,_,_,_,_,_,_,_,_]) rfl (au rfl) (al z.mD rfl λb4=>(dA sz.mD rfl rfl rfl rfl rfl (au rfl) (cells2:=[_,_,_,_,_,_,_,_,_,_,_]) rfl ?_)))))))
  refine OL.nil (AW.sg hE rfl (aF fd.LC rfl rfl (ak ce.int rfl rfl rfl (aF fd.rD rfl rfl (ak ce.int rfl rfl rfl (bo rfl rfl (dK (c:=(a.st:Int)-1) (by omega) (wrap_i64 (by omega))) (aY rfl vL (aH4 (v:=(a.aX.getD i default).f) (lo:=0) (hi:=(a.st:Int)-1) (by omega)) ?_)))))))
  refine nt rfl (ah rfl (OL.yes rfl (aF fd.Ht rfl rfl (OL.yes rfl (ak ce.int rfl rfl rfl (OL.yes rfl (aF fd.rD rfl rfl ?_)))))));refine OL.yes rfl (ak ce.int rfl rfl rfl (OL.yes rfl (bo rfl rfl (dK (c:=(a.st:Int)-1) (by omega) (wrap_i64 (by omega))) (OL.yes rfl (aY rfl vL (aH4 (v:=(a.aX.getD i default).t) (lo:=0) (hi:=(a.st:Int)-1) (by omega)) (OL.yes rfl (nt rfl ?_)))))))
  refine eG rfl rfl (ah rfl (OL.yes rfl (aF fd.Fb rfl rfl (OL.yes rfl (ak ce.int rfl rfl rfl (OL.yes rfl (aF fd.D6 rfl rfl ?_)))))));refine OL.yes rfl (ak ce.int rfl rfl rfl (OL.yes rfl (aY rfl vL (aH4 (v:=(a.aX.getD i default).l) (lo:=0) (hi:=a.sym) (by omega)) (OL.yes rfl (nt rfl (eG rfl rfl (ah rfl ?_)))))))
  refine OL.yes rfl (aF fd.kU rfl rfl (OL.yes rfl (aG ag.Ring rfl rfl (vs:=[_,_]) rfl (au rfl) (OL.yes rfl (aF fd.wz rfl rfl (OL.yes rfl (aG ag.aA rfl rfl (vs:=[_,_,_,_,_,_,_,_]) rfl (au rfl) ?_)))))));refine OL.yes rfl (aY rfl vL (Tt (q:=(a.aX.getD i default).q) (by omega)) (OL.yes rfl (nt rfl (eG rfl rfl (OL.nil (jD rfl ?_))))))
  exact AW.skip (AW.rg hE rfl (ah rfl (aB rfl rfl (by omega) (ay rfl (OL.nil (AW.again (x:=i) (i+1) (by omega) ⟨by omega,Knows.app .bC .bC,bn.app (.cons rfl .nil) (.nil)⟩))))))
 .try simp only[bY] at h51
  exact AW.exit (AW.sg hE rfl (ay rfl (OL.nil (AW.ret (aH.r ⟨_,.tmp rfl .nil,.le vR⟩)))))
theorem au7 {a:Au}{w:List Int}(f:Au.Ws a w):ai P F.Bd [Gx a] (.d (dB true)):=by
 have e3:=f.sz.num;have e4:=Gy a.aX;have hfo:∀ x,x ∈ uT a.aX->x.f<a.st/\x.t<a.st/\1<=x.l/\x.l<=a.sym:=f.ok.form.arc;refine ai.intro fn.Bd (by rfl) (by rfl) (au (by rfl)) λE hE=>(AW.sg hE rfl (iC rfl rfl λb1=>(ay rfl (OL.nil (AW.sg hE rfl (aF fd.kU rfl rfl (aG ag.Ring rfl rfl (vs:=[_,_]) rfl (au rfl) ?_)))))))
 refine aF fd.lX rfl rfl (ak ce.cZ rfl rfl rfl (aY rfl vL (Zv (l:=a.aX) e3 f.sz.arc) (ay rfl (OL.nil (AW.seq (AW.sg hE rfl (ay rfl ?_)))))));refine OL.nil (AW.block (AW.aK (α:=Nat) [(3,_)] [] (λi=>[(4,.d (dI i))]) (λi=>[]) (λi=>i<=(uT a.aX).length) (λi=>(uT a.aX).length-i) 0 (.cons (bM rfl) .nil) .nil ⟨Nat.zero_le _,.bC,.nil⟩ ?_))
 rintro i h1
 have h1:i<=(uT a.aX).length:=h1;refine AW.seq (AW.sg hE rfl (ah rfl (ah rfl (eH sl.cZ rfl rfl (aN rfl rfl rfl (OL.nil (AW.cond rfl (λh13=>?_) (λh13=>?_))))))))
 .try simp only[bY] at h13
  refine AW.skip (AW.seq (AW.block (AW.seq ?_)));have hx:=(hfo ((uT a.aX).getD i default) (getD_mem (by omega) default)).2.2.1
  refine AW.rg hE rfl (ah rfl (ah rfl (bg sl.cZ default rfl rfl (by omega) rfl rfl (faR fd.Fb rfl rfl (bP ce.int rfl (dm rfl rfl (c:=false) (by exact decide_eq_false (by omega)) (OL.nil ?_)))))))
  refine jD rfl ?_;exact AW.skip (AW.rg hE rfl (ah rfl (aB rfl rfl (by omega) (ay rfl (OL.nil (AW.again (x:=i) (i+1) (by omega) ⟨by omega,Knows.app .bC .bC,.nil⟩))))))
 .try simp only[bY] at h13
  exact AW.exit (AW.sg hE rfl (ay rfl (OL.nil (AW.ret (aH.r ⟨_,.tmp rfl .nil,.le vR⟩)))))
theorem au8 {a:Au}{w:List Int}(f:Au.Ws a w)(hw:G6 a.sym w)(hl:w.length<=256):ai P F.AZ [Gx a,.d (ints w)] (.d (dI 0)):=by
 have h0:=f.ok.qR;have s2:=f.s2;refine ai.intro fn.AZ (by rfl) (by rfl) (au (by rfl)) λE hE=>(AW.sg hE rfl (iC rfl rfl λb2=>(ay rfl (OL.nil (AW.seq (AW.block (AW.sg hE rfl ?_)))))))
 refine aG ag.Auto rfl rfl (vs:=[_,_,_,_,_,_,_]) rfl (au rfl) (aY rfl vL (VS (a:=a) f.ok f.sz f.s2 f.st) (nt rfl (ay rfl (OL.nil (jD rfl ?_)))));refine AW.sg hE rfl (aG ag.Auto rfl rfl (vs:=[_,_,_,_,_,_,_]) rfl (au rfl) (aY rfl vL (au7 f) (nt rfl (ay rfl (OL.nil (jD rfl ?_))))));refine AW.sg hE rfl (ah rfl (aF fd.D6 rfl rfl (ak ce.int rfl rfl rfl (aY rfl vL (aH6 (w:=w) (s:=a.sym) (by omega) hw (by omega)) (nt rfl (ay rfl (OL.nil ?_)))))))
 refine jD rfl ?_;exact AW.skip (AW.sg hE rfl (ay rfl (OL.nil (AW.ret (aH.r ⟨_,.tmp rfl .nil,.le vR⟩)))))
theorem aH8 {a:Au}{v:List Rat}{s:Nat}(ok:a.Ok)(hv:v.length=a.st)(zz:aS2 a v s)(s2:a.st<=64)(e3:a.aX.length<=64):ai P F.DF [Gx a,.d (yE v),.d (dI s)] (.d (yE (jo a.st v s a.aX))):=by
 skip
 refine ai.intro fn.DF (by rfl) (by rfl) (au (by rfl)) λE hE=>(AW.sg hE rfl (iC rfl rfl λb3=>(oq rfl (OL.nil (AW.sg hE rfl (aF fd.kU rfl rfl (aG ag.Ring rfl rfl (vs:=[_,_]) rfl (au rfl) ?_)))))))
 refine aF fd.rD rfl rfl (ak ce.int rfl rfl rfl (clR rfl .dR (aH7 (n:=a.st) s2) rfl λb14 c14=>(uj rfl (OL.nil (AW.seq (AW.sg hE rfl (ay rfl ?_)))))));refine OL.nil (AW.block ?_);refine AW.aK (α:=Nat) [(1,_),(2,_),(3,_),(6,_),(7,_)] [(3,_)] (λi=>[(8,.d (dI i))]) (λi=>[(14,.row b14 c14 T.aA 8 ((jo a.st v s (a.aX.take i)).map dW))]) (λi=>i<=a.aX.length) (λi=>a.aX.length-i) 0 (.cons (bM rfl) (.cons (bM rfl) (.cons (fG rfl) (.cons (zi rfl) (.cons (uH rfl) .nil))))) (.cons (iJ rfl) .nil) ⟨Nat.zero_le _,.bC,.cons rfl .nil⟩ ?_
 rintro i h1
 have h1:i<=a.aX.length:=h1;have hsl:(jo a.st v s (a.aX.take i)).length=a.st:=xw;refine AW.seq (AW.sg hE rfl (ah rfl (aF fd.lX rfl rfl (ak ce.cZ rfl rfl rfl (eH sl.cZ rfl rfl (aN rfl rfl rfl (OL.nil ?_)))))));refine AW.cond rfl (λh19=>?_) (λh19=>?_)
 .try simp only[bY] at h19
  refine AW.skip (AW.seq (AW.block (AW.seq ?_)));have hm:=getD_mem (l:=a.aX) (i:=i) (by omega) default
  obtain⟨hx1,hx2,hx3,hx4⟩:=ok.arc (a.aX.getD i default) hm;have hxz:=zz.zq (a.aX.getD i default) hm;have hz1:=zz.zv (a.aX.getD i default).f;have hz2:=zz.zs i (a.aX.getD i default).t;have hz3:=jZ (v.getD (a.aX.getD i default).f 0) (a.aX.getD i default).q;refine AW.rg hE rfl (aF fd.lX rfl rfl (ak ce.cZ rfl rfl rfl (ah rfl (bg sl.cZ default rfl rfl (by omega) rfl rfl (iU ag.mD rfl (vs:=[_,_,_,_,_,_,_,_,_,_,_]) rfl (au rfl) (al z.mD rfl λb9=>(dA sz.mD rfl rfl rfl rfl rfl (au rfl) (cells2:=[_,_,_,_,_,_,_,_,_,_,_]) rfl ?_)))))))
  refine OL.nil (AW.sg hE rfl (aF fd.Fb rfl rfl (ak ce.int rfl rfl rfl (ah rfl (dm rfl rfl rfl (OL.split 30 rfl (λhc=>?_) (λhc=>?_)))))))
  .have hc:(a.aX.getD i default).l=s:=by have:=jC hc;omega
   refine OL.nil (Hl rfl ?_);refine AW.dg 1 [0,1,2,3,4,5,6,7,8,9,10,11,12,13,14,15,16,17,18,19,20,21,22] aj hE rfl (by kernel_rfl) (OI.aP (os:=[_,_,_,_,_,_,_,_,_,_,_,_,_,_,_,_,_,_,_,_,_,_,_]) rfl ?_)
   refine fQ rfl (aF fd.Ht rfl rfl (ak ce.int rfl rfl rfl (aF fd.kU rfl rfl (aG ag.Ring rfl rfl (vs:=[_,_]) rfl (au rfl) (fQ rfl (aF fd.Ht rfl rfl (ak ce.int rfl rfl rfl ?_)))))));refine dV sl.aS rfl rfl (by omega) ?_
   refine wS ag.aA (by decide) rfl rfl (aH5 (show (a.aX.getD i default).t<(jo a.st v s (a.aX.take i)).length by omega)) (vs:=[.d (dB (eU ((jo a.st v s (a.aX.take i)).getD (a.aX.getD i default).t 0)).neg),.d (aC (eU ((jo a.st v s (a.aX.take i)).getD (a.aX.getD i default).t 0)).num),.d (aC (eU ((jo a.st v s (a.aX.take i)).getD (a.aX.getD i default).t 0)).den),.d (dI 0),.d (dB false),.d (dU 0),.d (.sl []),.d (.sl [])]) rfl (au rfl) ?_
   refine aF fd.kU rfl rfl (aG ag.Ring rfl rfl (vs:=[_,_]) rfl (au rfl) (ah rfl (aF fd.LC rfl rfl (ak ce.int rfl rfl rfl (bg sl.aS 0 rfl rfl (by omega) rfl rfl (iU ag.aA rfl (vs:=[_,_,_,_,_,_,_,_]) rfl (au rfl) (aF fd.wz rfl rfl ?_)))))))
   refine aG ag.aA rfl rfl (vs:=[_,_,_,_,_,_,_,_]) rfl (au rfl) (aY rfl vL (Zu (p:=v.getD (a.aX.getD i default).f 0) (q:=(a.aX.getD i default).q) (by omega) (by omega)) (aY rfl vL (X0 (p:=(jo a.st v s (a.aX.take i)).getD (a.aX.getD i default).t 0) (q:=v.getD (a.aX.getD i default).f 0*(a.aX.getD i default).q) (by omega) (by omega)) (dV sl.aS rfl rfl (by omega) ?_)))
   refine AA sz.aA rfl (d:=dW ((jo a.st v s (a.aX.take i)).getD (a.aX.getD i default).t 0+v.getD (a.aX.getD i default).f 0*(a.aX.getD i default).q)) G8 rfl rfl (by rw[dF];omega) (es2:=((jo a.st v s (a.aX.take i)).set (a.aX.getD i default).t ((jo a.st v s (a.aX.take i)).getD (a.aX.getD i default).t 0+v.getD (a.aX.getD i default).f 0*(a.aX.getD i default).q)).map dW) (by rw[List.map_set]) ?_
   refine OL.nil (AW.rg hE rfl (ah rfl (aB rfl rfl (by omega) (ay rfl (OL.nil ?_)))))
   exact AW.again (x:=i) (i+1) (by omega) ⟨by omega,Knows.app .y9 .bC,bn.app (.cons rfl .nil) (.cons (by rw[Ei (by omega),aT2 hc];rfl) .nil)⟩
  .have hc:¬ (a.aX.getD i default).l=s:=by have:=kK hc;omega
   refine OL.nil (jD rfl ?_);refine AW.skip (AW.rg hE rfl (ah rfl (aB rfl rfl (by omega) (ay rfl (OL.nil ?_)))))
   exact AW.again (x:=i) (i+1) (by omega) ⟨by omega,Knows.app .y9 .bC,bn.app (.cons rfl .nil) (.cons (by rw[Ei (by omega),aT3 hc];rfl) .nil)⟩
 .try simp only[bY] at h19
  refine AW.exit (AW.seq ?_);obtain rfl:i=a.aX.length:=by omega
  exact AW.rg hE rfl (fQ rfl (uj rfl (OL.nil (AW.ret (aH.r ⟨_,.tmp rfl .nil,RO.all rfl rfl (by rw[dF,xw]) (by rw[List.take_length])⟩)))))
theorem X4 {a:Au}{w:List Int}(f:Au.Ws a w)(hw:G6 a.sym w)(hl:w.length<=256):ai P F.xC [Gx a,.d (ints w)] (.jM [.d (yE (JE a w)),.d (dI 0)]):=by
 have h0:=f.ok.qR;refine ai.intro fn.xC (by rfl) (by rfl) (au (by rfl)) λE hE=>(AW.sg hE rfl (iC rfl rfl λb2=>(oq rfl (ay rfl (OL.nil (AW.seq (AW.sg hE rfl ?_)))))))
 refine aG ag.Auto rfl rfl (vs:=[_,_,_,_,_,_,_]) rfl (au rfl) (ah rfl (aY rfl vL (au8 f hw hl) (ay rfl (OL.nil (AW.sg hE rfl (ah rfl (bU rfl rfl (c:=false) (by exact eF (by omega)) ?_)))))))
 refine OL.nil (jD rfl ?_);refine AW.skip (AW.sg hE rfl (aG ag.Auto rfl rfl (vs:=[_,_,_,_,_,_,_]) rfl (au rfl) (aY rfl vL (Zw (a:=a) f.ok f.sz f.st) (fdC fc.xe rfl rfl (ay rfl (OL.nil (AW.seq ?_)))))));refine AW.sg hE rfl (ay rfl (OL.nil (AW.block ?_)));refine AW.aK (α:=Nat) [(1,_),(2,_),(4,_),(5,_)] [(2,_)] (λi=>[(7,.d (yE (JE a (w.take i)))),(8,.d (dI i))]) (λi=>[]) (λi=>i<=w.length) (λi=>w.length-i) 0 (.cons (bM rfl) (.cons (fG rfl) (.cons (zi rfl) (.cons (bM rfl) .nil)))) (.cons (iJ rfl) .nil) ⟨Nat.zero_le _,.dR,.nil⟩ ?_
 rintro i h1
 have h1:i<=w.length:=h1;refine AW.seq (AW.sg hE rfl (ah rfl (ah rfl (eH sl.ints rfl rfl (aN rfl rfl rfl (OL.nil (AW.cond rfl (λh21=>?_) (λh21=>?_))))))))
 .try simp only[bY] at h21
  refine AW.skip (AW.seq (AW.block ?_));have hx:=hw (w.getD i 0) (getD_mem (by omega) 0)
  refine AW.dg 1 [0,1,2,3,4,5,6,7] aj hE rfl (by kernel_rfl) (OI.aP (os:=[_,_,_,_,_,_,_,_]) rfl ?_)
  refine aG ag.Auto rfl rfl (vs:=[_,_,_,_,_,_,_]) rfl (au rfl) (ah rfl (ah rfl (ah rfl (bg sl.ints 0 rfl rfl (by omega) rfl rfl (bP ce.int rfl (aY rfl (.cons vR (.cons vR (.cons (aZ.int (by omega)) .nil))) (aH8 (a:=a) (v:=JE a (w.take i)) (s:=(w.getD i 0).toNat) f.ok (MI f.ok _) (f.zz.st i (by omega)) f.st f.sz.num) (ay rfl ?_)))))))
  refine OL.nil (AW.rg hE rfl (ah rfl (aB rfl rfl (by omega) (ay rfl (OL.nil ?_)))))
  exact AW.again (x:=i) (i+1) (by omega) ⟨by omega,Knows.app .CZ (.cons (by rw[VF (by omega)];exact aZ.refl _) .bC),bn.app (.cons rfl .nil) (.nil)⟩
 .try simp only[bY] at h21
  refine AW.exit (AW.seq ?_);obtain rfl:i=w.length:=by omega
  exact AW.rg hE rfl (ah rfl (ay rfl (ay rfl (OL.nil (AW.ret (aH.r ⟨_,.tmp rfl (.tmp rfl .nil),_,.cons (.le (by rw[List.take_length];exact aZ.refl _)) (.cons (.le vR) .nil),rfl⟩))))))
theorem aT4 {v u:List Rat}{n:Nat}(hv:v.length=n)(hu:u.length=n)(hn:n<=64)(zv:∀ i,sz (v.getD i 0)<=17179869184)(zu:∀ i,sz (u.getD i 0)<=17179869184)(zd:∀ i,i<=n->sz (EH v u i)<=17179869184):ai P F.F7 [l7,.d (yE v),.d (yE u)] (vW (EH v u n)):=by
 refine ai.intro fn.F7 (by rfl) (by rfl) (au (by rfl)) λE hE=>(AW.sg hE rfl (iC rfl rfl λb3=>(al z.aA rfl λb6=>(OL.nil (AW.sg hE rfl (aG ag.Ring rfl rfl (vs:=[_,_]) rfl (au rfl) (aY rfl vL (XZ) ?_)))))))
 refine al z.aA rfl λb7=>(dA sz.aA rfl rfl rfl rfl rfl (au rfl) (cells2:=[_,_,_,_,_,_,_,_]) rfl (OL.nil (AW.seq (AW.sg hE rfl (ay rfl (OL.nil (AW.block ?_)))))));refine AW.aK (α:=Nat) [(1,_),(2,_),(3,_),(6,_),(7,_)] [(3,_),(6,_)] (λi=>[(8,.d (dI i))]) (λi=>[(7,.box b7 T.aA [.d (dB (eU (EH v u i)).neg),.d (aC (eU (EH v u i)).num),.d (aC (eU (EH v u i)).den),.d (dI 0),.d (dB false),.d (dU 0),.d (.sl []),.d (.sl [])])]) (λi=>i<=n) (λi=>n-i) 0 (.cons (bM rfl) (.cons (bM rfl) (.cons (fG rfl) (.cons (fG rfl) (.cons (fG rfl) .nil))))) (.cons (iJ rfl) (.cons (iJ rfl) .nil)) ⟨Nat.zero_le _,.bC,.cons rfl .nil⟩ ?_
 rintro i h1
 have h1:i<=n:=h1;have z1:=zv i;have z2:=zu i;have z3:=jZ (v.getD i 0) (u.getD i 0);have z4:=zd i h1;refine AW.seq (AW.sg hE rfl (ah rfl (ah rfl (eH sl.aS rfl rfl (aN rfl rfl rfl (OL.split 14 rfl (λha=>?_) (λha=>?_)))))))
 .have ha:i<n:=by have:=jC ha;simp at this;omega
  refine ah rfl (OL.yes rfl (ah rfl (OL.yes rfl (ah rfl (OL.yes rfl (eH sl.aS rfl rfl (OL.yes rfl ?_)))))));refine aN rfl rfl (c:=true) (decide_eq_true (by omega)) (iV rfl rfl (OL.nil (Hl rfl ?_)))
  refine AW.skip (AW.seq (AW.block (AW.dg 1 [0,1,2,3,4,5,6,7,8,9,10,11,12,13] aj hE rfl (by kernel_rfl) (OI.aP (os:=[_,_,_,_,_,_,_,_,_,_,_,_,_,_]) rfl ?_))))
  refine aG ag.Ring rfl rfl (vs:=[_,_]) rfl (au rfl) (aG ag.aA rfl rfl (vs:=[_,_,_,_,_,_,_,_]) rfl (au rfl) (aG ag.Ring rfl rfl (vs:=[_,_]) rfl (au rfl) (ah rfl (ah rfl (bg sl.aS 0 rfl rfl (by omega) rfl rfl (iU ag.aA rfl (vs:=[_,_,_,_,_,_,_,_]) rfl (au rfl) (ah rfl ?_)))))))
  refine ah rfl (bg sl.aS 0 rfl rfl (by omega) rfl rfl (iU ag.aA rfl (vs:=[_,_,_,_,_,_,_,_]) rfl (au rfl) (aY rfl vL (Zu (p:=v.getD i 0) (q:=u.getD i 0) (by omega) (by omega)) (aY rfl vL (X0 (p:=(EH v u i)) (q:=v.getD i 0*u.getD i 0) (by omega) (by omega)) (dA sz.aA rfl rfl rfl rfl rfl (au rfl) (cells2:=[_,_,_,_,_,_,_,_]) rfl (OL.nil (AW.rg hE rfl ?_)))))))
  exact ah rfl (aB rfl rfl (by omega) (ay rfl (OL.nil (AW.again (x:=i) (i+1) (by omega) ⟨by omega,Knows.app .y9 .bC,bn.app (.cons rfl (.cons rfl .nil)) (.cons rfl .nil)⟩))))
 .have ha:¬ i<n:=by have:=kK ha;simp at this;omega
  obtain rfl:i=n:=by omega
  refine ah rfl (OL.nd rfl (OL.nd rfl (OL.nd rfl (OL.nd rfl (eG rfl rfl (OL.nil (jD rfl ?_)))))));refine AW.exit (AW.sg hE rfl (aG ag.aA rfl rfl (vs:=[_,_,_,_,_,_,_,_]) rfl (au rfl) (dA sz.aA rfl rfl rfl rfl rfl (au rfl) (cells2:=[_,_,_,_,_,_,_,_]) rfl (OL.nil ?_))));exact AW.ret (aH.r ⟨_,.dD rfl rfl ag.aA (au rfl) .nil,.ag (.cons (.le vR) (.cons (.le vR) (.cons (.le vR) (.cons (.le vR) (.cons (.le vR) (.cons (.le vR) (.cons (.le vR) (.cons (.le vR) .nil))))))))⟩)
theorem KR {a:Au}{w:List Int}(f:Au.Ws a w)(hw:G6 a.sym w)(hl:w.length<=256):ai P F.lu [Gx a,.d (ints w)] (.jM [vW (G7 a w),.d (dI 0)]):=by
 skip
 refine ai.intro fn.lu (by rfl) (by rfl) (au (by rfl)) λE hE=>(AW.sg hE rfl (iC rfl rfl λb2=>(al z.aA rfl λb4=>(ay rfl (OL.nil (AW.sg hE rfl (aG ag.Auto rfl rfl (vs:=[_,_,_,_,_,_,_]) rfl (au rfl) ?_)))))))
 refine ah rfl (aY rfl vL (X4 f hw hl) (BN rfl (ex rfl rfl (ex rfl rfl (ay rfl (ay rfl (OL.nil ?_)))))));refine AW.seq (AW.sg hE rfl (ah rfl (bU rfl rfl (c:=false) (by exact eF (by omega)) (OL.nil (jD rfl ?_)))))
 refine AW.skip (AW.sg hE rfl (aF fd.kU rfl rfl (aG ag.Ring rfl rfl (vs:=[_,_]) rfl (au rfl) (ah rfl (aF fd.xg rfl rfl (ak ce.aS rfl rfl rfl (aY rfl vL (aT4 (v:=JE a w) (u:=a.fin) (n:=a.st) (MI f.ok w) f.ok.fin f.st f.zz.zv f.zz.zf f.zz.zd) ?_)))))));rw[VG f.ok hw];refine dA sz.aA rfl rfl rfl rfl rfl (au rfl) (cells2:=[_,_,_,_,_,_,_,_]) rfl (ay rfl (OL.nil ?_));exact AW.ret (aH.r ⟨_,.dD rfl rfl ag.aA (au rfl) (.tmp rfl .nil),_,.cons (.ag (.cons (.le vR) (.cons (.le vR) (.cons (.le vR) (.cons (.le vR) (.cons (.le vR) (.cons (.le vR) (.cons (.le vR) (.cons (.le vR) .nil))))))))) (.cons (.le vR) .nil),rfl⟩)
