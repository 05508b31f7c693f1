/-
  Walks of packages automaton and weigh for at most 64 arcs: Tidy, Valid, Normal (printed by mk2.py).
-/
import Derived.Test.YteiohkpjgcioaaaGreatDoorKWkSA
import Derived.Test.YteiohkpjgcioaaaGreatDoorKWgA
set_option maxRecDepth 8000
set_option maxHeartbeats 1600000
set_option linter.unusedVariables false
set_option linter.unusedSimpArgs false
namespace Go.Proofs.YteiohkpjgcioaaaGreatDoor
open Go Go.AL
theorem ba3 {l:List aT}(nl:l.length<=64)(hl1:∀ x,x ∈ l->1<=x.l)(hz:∀ x,x ∈ l->sz x.q<=134217728):ai P F.vS [l7,.d (oW l)] (.d (oW (Bz l))):=by
 have hS:(dh l).length=l.length:=QL l;have hzS:∀ x,x ∈ dh l->sz x.q<=134217728:=λx hx=>hz x ((Eg l).mem_iff.1 hx);refine ai.intro fn.vS (by rfl) (by rfl) (au (by rfl)) λE hE=>(AW.sg hE rfl (iC rfl rfl λb2=>(oq rfl (OL.nil (AW.seq (AW.BV 2 [dI 1,.sl []] rfl (VCs.Uh [dI 1,.sl []]) (AW.to [(1,.d (oW l)),(2,JB),(4,.mt)] [] (.cons vR (.cons (aI (show V.WO 2 b2 [dI 1,.sl []] (.ptr 2 b2 0)=JB from E5)) .bC)) .nil ?_)))))))
 refine AW.rg hE rfl (ah rfl (clR rfl .bC (aF6 (by omega)) rfl λb11 c11=>(uj rfl (OL.nil (AW.seq (AW.rename 11 1000 rfl (AW.to [(2,JB),(4,.mt),(5,.bJ 1000 b11 l.length c11)] [(1000,rowA b11 c11 l)] (.cons vR (.cons vR (.cons aZ.bJ .nil))) (.cons rfl .nil) ?_)))))))
 refine AW.rg hE rfl (fQ rfl (OL.qo (v:=.jM []) (.mk (args':=[.bJ 1000 b11 l.length c11,.fn F.bK []]) rfl (.cons vR (.cons vR (.nil))) (bH (id:=1000) (blk:=rowA b11 c11 l) rfl) gy (ad4 rfl (by omega))) (OL.nil (AW.sg hE rfl (oq rfl (OL.nil (AW.seq ?_)))))))
 refine AW.seq (AW.own 6 59 T.mD 11 rfl rfl (AW.rg hE rfl (fQ rfl (WI sl.cZ rfl rfl (ah rfl (OL.nil (AW.block ?_)))))));refine AW.aK (α:=Nat × Nat × Nat) [(2,_),(4,_),(14,_),(15,_)] [(1000,_)] (λ(i,bq,cq)=>[(6,.bJ 59 bq (outA (dh l) i).length cq),(16,.d (dI i))]) (λ(i,bq,cq)=>[(59,rowA bq cq (outA (dh l) i))]) (λ(i,bq,cq)=>i<=l.length) (λ(i,bq,cq)=>l.length-i) (0,0,0) (.cons (knR rfl) (.cons (zi rfl) (.cons (uH rfl) (.cons (bM rfl) .nil)))) (.cons (rH rfl) .nil) ⟨Nat.zero_le _,.dR,.cons rfl .nil⟩ ?_
 rintro⟨i,bq,cq⟩ h1
 have h1:i<=l.length:=h1;have hlo:=JC (dh l) i;have hzo:=Tf hzS i;refine AW.sg hE rfl (aN rfl rfl rfl (OL.nil (AW.seq (AW.cond rfl (λh17=>?_) (λh17=>?_)))))
 .try simp only[bY] at h17
  refine AW.skip (AW.seq (AW.block (AW.sg hE rfl (dV sl.cZ rfl rfl (by omega) (wS ag.mD (by decide) rfl rfl (iT (show i<(dh l).length by omega)) (vs:=gI ((dh l).getD i default)) rfl (au rfl) (al z.mD rfl λb8=>(dA sz.mD rfl rfl rfl rfl rfl (au rfl) (cells2:=[_,_,_,_,_,_,_,_,_,_,_]) rfl ?_)))))))
  refine OL.nil (AW.seq (AW.sg hE rfl (fQ rfl (WI sl.cZ rfl rfl (ay rfl (OL.nil (AW.seq ?_)))))));have hxz:=hzS ((dh l).getD i default) (getD_mem (by omega) default)
  refine AW.dg 1 [0,1,2,3,4,5,6,7,8,9,10,11] aj hE rfl (by kernel_rfl) (OI.aP (os:=[_,_,_,_,_,_,_,_,_,_,_,_]) rfl ?_)
  refine ah rfl (iI rfl rfl rfl (ah rfl (OL.split 24 rfl (λhn=>?_) (λhn=>?_))))
  .have hn:0<(outA (dh l) i).length:=by have:=jC hn;omega
   have hyz:=hzo ((outA (dh l) i).getD ((outA (dh l) i).length-1) default) (getD_mem (by omega) default)
   refine OL.yes rfl (fQ rfl (OL.yes rfl (ah rfl (OL.yes rfl (bo rfl rfl (dK (c:=(((outA (dh l) i).length-1:Nat):Int)) (by omega) (wrap_i64 (by omega))) (OL.yes rfl (dV sl.cZ rfl rfl (by omega) ?_)))))))
   refine OL.yes rfl (wS ag.mD (by decide) rfl rfl (iT (show (outA (dh l) i).length-1<(outA (dh l) i).length by omega)) (vs:=gI ((outA (dh l) i).getD ((outA (dh l) i).length-1) default)) rfl (au rfl) (OL.yes rfl (aG ag.mD rfl rfl (vs:=[_,_,_,_,_,_,_,_,_,_,_]) rfl (au rfl) (OL.yes rfl (aY rfl vL (Ot (x:=((outA (dh l) i).getD ((outA (dh l) i).length-1) default)) (y:=((dh l).getD i default))) (OL.yes rfl (dm rfl rfl rfl ?_)))))))
   refine iV rfl rfl (OL.nil (AW.cond rfl (λhc=>?_) (λhc=>?_)))
   .have hc:iH ((outA (dh l) i).getD ((outA (dh l) i).length-1) default) ((dh l).getD i default)=0:=jC hc;refine AW.seq (AW.dg 1 [0,1,2,3,4,5,6,7,8,9,10,11,12,13,14,15] aj hE rfl (by kernel_rfl) (OI.aP (os:=[_,_,_,_,_,_,_,_,_,_,_,_,_,_,_,_]) rfl ?_))
    refine fQ rfl (ah rfl (bo rfl rfl (dK (c:=(((outA (dh l) i).length-1:Nat):Int)) (by omega) (wrap_i64 (by omega))) (iU ag.Ring rfl (vs:=[_,_]) rfl (au rfl) (fQ rfl (ah rfl (bo rfl rfl (dK (c:=(((outA (dh l) i).length-1:Nat):Int)) (by omega) (wrap_i64 (by omega))) (dV sl.cZ rfl rfl (by omega) ?_)))))))
    refine faE fd.wz rfl rfl ?_;refine wS ag.aA (by decide) rfl rfl (iT (show (outA (dh l) i).length-1<(outA (dh l) i).length by omega)) (vs:=[.d (dB (eU ((outA (dh l) i).getD ((outA (dh l) i).length-1) default).q).neg),.d (aC (eU ((outA (dh l) i).getD ((outA (dh l) i).length-1) default).q).num),.d (aC (eU ((outA (dh l) i).getD ((outA (dh l) i).length-1) default).q).den),.d (dI 0),.d (dB false),.d (dU 0),.d (.sl []),.d (.sl [])]) rfl (au rfl) ?_
    refine aF fd.wz rfl rfl (aG ag.aA rfl rfl (vs:=[_,_,_,_,_,_,_,_]) rfl (au rfl) (aY rfl vL (QG (p:=((outA (dh l) i).getD ((outA (dh l) i).length-1) default).q) (q:=((dh l).getD i default).q) (by omega) (by omega)) (dV sl.cZ rfl rfl (by omega) (faE fd.wz rfl rfl ?_))))
    refine stF sz.aA rfl (d:=dW (((outA (dh l) i).getD ((outA (dh l) i).length-1) default).q+((dh l).getD i default).q)) G8 rfl rfl (iT (show (outA (dh l) i).length-1<(outA (dh l) i).length by omega)) (by decide) (el2:=iO { ((outA (dh l) i).getD ((outA (dh l) i).length-1) default) with q:=((outA (dh l) i).getD ((outA (dh l) i).length-1) default).q+((dh l).getD i default).q }) rfl (es2:=((outA (dh l) i).set ((outA (dh l) i).length-1) { ((outA (dh l) i).getD ((outA (dh l) i).length-1) default) with q:=((outA (dh l) i).getD ((outA (dh l) i).length-1) default).q+((dh l).getD i default).q }).map iO) (by rw[List.map_set]) ?_
    refine OL.nil (AW.exit (AW.rg hE rfl (aB rfl rfl (by omega) (ah rfl (OL.nil ?_)))))
    exact AW.again (x:=(i,bq,cq)) (i+1,bq,cq) (by (simp only[];omega)) ⟨by omega,Knows.app .CZ (.cons (by rw[uU (by omega),jP,if_pos ⟨hn,hc⟩,List.length_set];exact aZ.refl _) .bC),bn.app (.cons rfl .nil) (.cons (by rw[uU (by omega),jP,if_pos ⟨hn,hc⟩];rfl) .nil)⟩
   .have hc:¬ iH ((outA (dh l) i).getD ((outA (dh l) i).length-1) default) ((dh l).getD i default)=0:=kK hc;refine AW.skip (AW.seq (AW.dg 1 [0,1,2,3,4,5,6,7] aj hE rfl (by kernel_rfl) (OI.aP (os:=[_,_,_,_,_,_,_,_]) rfl ?_)))
    refine iU ag.Ring rfl (vs:=[_,_]) rfl (au rfl) (aF fd.wz rfl rfl (aG ag.aA rfl rfl (vs:=[_,_,_,_,_,_,_,_]) rfl (au rfl) (iU ag.Ring rfl (vs:=[_,_]) rfl (au rfl) (aY rfl vL (QF) (aY rfl vL (QG (p:=((dh l).getD i default).q) (q:=0) (by omega) z0K) ?_)))))
    rw[Rat.add_zero];refine aF fd.wz rfl rfl (dA sz.aA rfl rfl rfl rfl rfl (au rfl) (cells2:=[_,_,_,_,_,_,_,_,_,_,_]) rfl (OL.nil (AW.rg hE rfl (fQ rfl (aG ag.mD rfl rfl (vs:=[_,_,_,_,_,_,_,_,_,_,_]) rfl (au rfl) (tC (y:=iO ((dh l).getD i default)) sl.cZ tu rfl (by decide) ?_))))))
    refine yG sl.cZ rfl rfl rfl (by rw[dF]) (VC.d _) (λy hy=>by rw[qm hy];rfl) (by simp;omega) (by simp;omega) (.inr rfl) (ys:=((outA (dh l) i)++[((dh l).getD i default)]).map iO) (by rw[List.map_append];rfl) (n2:=(outA (dh l) i).length+1) rfl λb2 c2=>?_
    refine uj rfl (OL.nil (AW.rg hE rfl (aB rfl rfl (by omega) (ah rfl (OL.nil ?_)))))
    exact AW.again (x:=(i,bq,cq)) (i+1,b2,c2) (by (simp only[];omega)) ⟨by omega,Knows.app .CZ (.cons (by rw[uU (by omega),jP,if_neg (λe=>hc e.2),jT];exact aZ.refl _) .bC),bn.app (.cons rfl .nil) (.cons (by rw[uU (by omega),jP,if_neg (λe=>hc e.2)];rfl) .nil)⟩
  .have hn:¬ 0<(outA (dh l) i).length:=λe=>kK hn (by omega)
   refine OL.nd rfl (OL.nd rfl (OL.nd rfl (OL.nd rfl (OL.nd rfl (OL.nd rfl (OL.nd rfl (OL.nd rfl ?_)))))));refine eG rfl rfl (OL.nil (jD rfl ?_));refine AW.skip (AW.seq (AW.dg 1 [0,1,2,3,4,5,6,7] aj hE rfl (by kernel_rfl) (OI.aP (os:=[_,_,_,_,_,_,_,_]) rfl ?_)))
   refine iU ag.Ring rfl (vs:=[_,_]) rfl (au rfl) (aF fd.wz rfl rfl (aG ag.aA rfl rfl (vs:=[_,_,_,_,_,_,_,_]) rfl (au rfl) (iU ag.Ring rfl (vs:=[_,_]) rfl (au rfl) (aY rfl vL (QF) (aY rfl vL (QG (p:=((dh l).getD i default).q) (q:=0) (by omega) z0K) ?_)))))
   rw[Rat.add_zero];refine aF fd.wz rfl rfl (dA sz.aA rfl rfl rfl rfl rfl (au rfl) (cells2:=[_,_,_,_,_,_,_,_,_,_,_]) rfl (OL.nil (AW.rg hE rfl (fQ rfl (aG ag.mD rfl rfl (vs:=[_,_,_,_,_,_,_,_,_,_,_]) rfl (au rfl) (tC (y:=iO ((dh l).getD i default)) sl.cZ tu rfl (by decide) ?_))))))
   refine yG sl.cZ rfl rfl rfl (by rw[dF]) (VC.d _) (λy hy=>by rw[qm hy];rfl) (by simp;omega) (by simp;omega) (.inr rfl) (ys:=((outA (dh l) i)++[((dh l).getD i default)]).map iO) (by rw[List.map_append];rfl) (n2:=(outA (dh l) i).length+1) rfl λb2 c2=>?_
   refine uj rfl (OL.nil (AW.rg hE rfl (aB rfl rfl (by omega) (ah rfl (OL.nil ?_)))))
   exact AW.again (x:=(i,bq,cq)) (i+1,b2,c2) (by (simp only[];omega)) ⟨by omega,Knows.app .CZ (.cons (by rw[uU (by omega),jP,if_neg (λe=>hn e.1),jT];exact aZ.refl _) .bC),bn.app (.cons rfl .nil) (.cons (by rw[uU (by omega),jP,if_neg (λe=>hn e.1)];rfl) .nil)⟩
 .try simp only[bY] at h17
  refine AW.exit (AW.seq ?_);obtain rfl:i=l.length:=by omega
  have ho:(outA (dh l) l.length).filter (λx=>!decide (x.q=0))=Bz l:=by
   rw[<- ar9 hl1];unfold QM QC;rw[FK (by rw[QL];omega)]
   congr 1;funext x;by_cases hx:x.q=0 <;> simp[hx]
  refine AW.RZ (by rw[hE];rfl) (SL.dG (fQ rfl (OL.nil ?_)))
  refine SL.dG (mkF (vs:=[_]) rfl (OL.nil ?_));refine SL.G5 rfl (SO.aZ9 (id:=59) (b:=bq) (n:=(outA (dh l) l.length).length) (c:=cq) (es:=(outA (dh l) l.length).map iO) (YT:=λs=>[s,.fn F.oP [JB]]) (show 63<E.n by rw[hE];exact Nat.le_of_ble_eq_true (by rfl)) rfl rfl (.cons aZ.bJ .bC) (aF5 (l:=(outA (dh l) l.length)) (p:=λx=>decide (x.q=0)) (λx hx=>aR8 (Nat.le_trans (hzo x hx) (by omega))) rfl (by omega)) λb63 c63=>?_)
  refine SL.dG (uj rfl (OL.nil ?_));rw[ho];refine AW.freeze 59 rfl (AW.to [(4,.d (oW (Bz l)))] [] (.cons (dP (by rw[dF]) (by rfl)) .nil) .nil ?_)
  exact AW.ret (aH.r ⟨_,.tmp rfl .nil,.le vR⟩)
theorem aS4 {a:Au}(h:a.Ok)(za:a.Sz 134217728 64)(s1:a.sym<=32)(s2:a.st<=64):ai P F.um [Gx a] (.d (dB true)):=by
 have e0:=h.qR;have e1:=h.ini;have e2:=h.fin;have e3:=za.num;refine ai.intro fn.um (by rfl) (by rfl) (au (by rfl)) λE hE=>(AW.sg hE rfl (iC rfl rfl λb1=>(ay rfl (OL.nil (AW.seq (AW.sg hE rfl (aF fd.kU rfl rfl ?_)))))))
 refine aG ag.Ring rfl rfl (vs:=[_,_]) rfl (au rfl) (aY rfl .bC (Oo) (nt rfl (ah rfl (OL.yes rfl (aF fd.D6 rfl rfl (OL.yes rfl (ak ce.int rfl rfl rfl ?_)))))));refine OL.yes rfl (aN rfl rfl (c:=false) (by exact decide_eq_false (by omega)) (eG rfl rfl (ah rfl (OL.yes rfl (aF fd.D6 rfl rfl (OL.yes rfl (ak ce.int rfl rfl rfl ?_)))))))
 refine OL.yes rfl (iI rfl rfl (c:=false) (by exact decide_eq_false (by omega)) (eG rfl rfl (ah rfl (OL.yes rfl (aF fd.rD rfl rfl (OL.yes rfl (ak ce.int rfl rfl rfl ?_)))))))
 refine OL.yes rfl (aN rfl rfl (c:=false) (by exact decide_eq_false (by omega)) (eG rfl rfl (ah rfl (OL.yes rfl (aF fd.rD rfl rfl (OL.yes rfl (ak ce.int rfl rfl rfl ?_)))))))
 refine OL.yes rfl (iI rfl rfl (c:=false) (by exact decide_eq_false (by omega)) (eG rfl rfl (ah rfl (OL.yes rfl (aF fd.xe rfl rfl (OL.yes rfl (ak ce.aS rfl rfl rfl ?_)))))))
 refine OL.yes rfl (eH sl.aS rfl rfl (OL.yes rfl (aF fd.rD rfl rfl (OL.yes rfl (ak ce.int rfl rfl rfl (OL.yes rfl (bU rfl rfl (c:=false) (by exact eF (by omega)) ?_)))))))
 refine eG rfl rfl (ah rfl (OL.yes rfl (aF fd.xg rfl rfl (OL.yes rfl (ak ce.aS rfl rfl rfl (OL.yes rfl (eH sl.aS rfl rfl ?_)))))));refine OL.yes rfl (aF fd.rD rfl rfl (OL.yes rfl (ak ce.int rfl rfl rfl (OL.yes rfl (bU rfl rfl (c:=false) (by exact eF (by omega)) (eG rfl rfl (ah rfl ?_)))))))
 refine OL.yes rfl (aF fd.lX rfl rfl (OL.yes rfl (ak ce.cZ rfl rfl rfl (OL.yes rfl (eH sl.cZ rfl rfl (OL.yes rfl (iI rfl rfl (c:=false) (by exact decide_eq_false (by omega)) ?_)))))))
 refine eG rfl rfl (OL.nil (jD rfl ?_));refine AW.skip (AW.seq (AW.seq (AW.BV 1 [dI 1,.sl [],dI a.sym,dI a.st,yE a.ini,yE a.fin,oW a.aX] rfl (VCs.Uh [dI 1,.sl [],dI a.sym,dI a.st,yE a.ini,yE a.fin,oW a.aX]) (AW.to [(1,rAu a),(2,.d (dB false))] [] (.cons (aI (show V.WO 1 b1 [dI 1,.sl [],dI a.sym,dI a.st,yE a.ini,yE a.fin,oW a.aX] (.ptr 1 b1 0)=rAu a from E5)) .bC) .nil (AW.rg hE rfl (faR fd.lX rfl rfl (bP ce.cZ rfl ?_)))))))
 refine mkF (vs:=[_]) rfl (aY rfl vL (OE (l:=a.aX) (f:=F.mZ) (caps:=[rAu a]) (p:=λ_=>false) (λx hx=>aF8 (h.arc x hx) (Nat.le_trans (za.arc x hx) (by decide))) (by omega)) ?_)
 rw[any_false λx _=>rfl];refine OL.nil (jD rfl ?_);refine AW.skip (AW.sg hE rfl (faR fd.kU rfl rfl (iU ag.Ring rfl (vs:=[_,_]) rfl (au rfl) (faR fd.xe rfl rfl (bP ce.aS rfl (aY rfl vL (Vy (l:=a.ini) (λx hx=>Nat.le_trans (za.ini x hx) (by decide)) (by omega)) (ah rfl ?_)))))))
 refine OL.yes rfl (faR fd.kU rfl rfl (OL.yes rfl (iU ag.Ring rfl (vs:=[_,_]) rfl (au rfl) (OL.yes rfl (faR fd.xg rfl rfl (OL.yes rfl (bP ce.aS rfl ?_)))))));exact OL.yes rfl (aY rfl vL (Vy (l:=a.fin) (λx hx=>Nat.le_trans (za.fin x hx) (by decide)) (by omega)) (iV rfl rfl (ay rfl (OL.nil (AW.ret (aH.r ⟨_,.tmp rfl .nil,.le vR⟩))))))
theorem Zk {a:Au}(h:a.Ok)(za:a.Sz 134217728 64)(s1:a.sym<=32)(s2:a.st<=64):ai P F.rY [Gx a] (.jM [Gx (fM a),.d (dI 0)]):=by
 have e0:=h.qR;have e1:=h.ini;have e2:=h.fin;have e3:=za.num;refine ai.intro fn.rY (by rfl) (by rfl) (au (by rfl)) λE hE=>(AW.sg hE rfl (iC rfl rfl λb1=>(al z.Auto rfl λb2=>(ay rfl (OL.nil (AW.seq (AW.sg hE rfl ?_)))))))
 refine aG ag.Auto rfl rfl (vs:=[_,_,_,_,_,_,_]) rfl (au rfl) (aY rfl .bC (aS4 h za s1 s2) (nt rfl (OL.nil (jD rfl ?_))));refine AW.skip (AW.seq (AW.dg 1 [0,1,2,3,4,5,6,7,8,9,10,11,12,13,14,15,16,17,18,19,20,21,22,23,24] aj hE rfl (by kernel_rfl) (OI.aP (os:=[_,_,_,_,_,_,_,_,_,_,_,_,_,_,_,_,_,_,_,_,_,_,_,_,_]) rfl ?_)))
 refine aF fd.kU rfl rfl (aG ag.Ring rfl rfl (vs:=[_,_]) rfl (au rfl) (aY rfl .bC (ba1) (aF fd.D6 rfl rfl (ak ce.int rfl rfl rfl (aF fd.rD rfl rfl (ak ce.int rfl rfl rfl (aF fd.kU rfl rfl ?_)))))));refine aG ag.Ring rfl rfl (vs:=[_,_]) rfl (au rfl) (aF fd.xe rfl rfl (ak ce.aS rfl rfl rfl (aY rfl vL (aM1 (l:=a.ini) (by omega) za.ini) (aF fd.kU rfl rfl (aG ag.Ring rfl rfl (vs:=[_,_]) rfl (au rfl) (aF fd.xg rfl rfl (ak ce.aS rfl rfl rfl ?_)))))))
 refine aY rfl vL (aM1 (l:=a.fin) (by omega) za.fin) (aF fd.kU rfl rfl (aG ag.Ring rfl rfl (vs:=[_,_]) rfl (au rfl) (aF fd.lX rfl rfl (ak ce.cZ rfl rfl rfl (aY rfl vL (ba3 (l:=a.aX) e3 (λx hx=>(h.arc x hx).2.2.1) za.arc) (WL (cs:=[_,_,_,_,_,_,_]) z.Auto pl.Auto (qA (by exact evA rfl) (qA (by exact AX rfl) (qA (by exact AX rfl) (qA (by exact AX rfl) (qA (by exact AX rfl) (qA (by exact AX rfl) (WJ))))))) (by rfl) (dA sz.Auto rfl rfl rfl rfl rfl (au rfl) (cells2:=[_,_,_,_,_,_,_]) rfl ?_)))))))
 refine ay rfl (OL.nil ?_);exact AW.ret (aH.r ⟨_,.dD rfl rfl ag.Auto (au rfl) (.tmp rfl .nil),_,.cons (.ag (.cons (.le vR) (.cons (.le vR) (.cons (.le vR) (.cons (.le vR) (.cons (.le vR) (.cons (.le vR) (.cons (.le vR) .nil)))))))) (.cons (.le vR) .nil),rfl⟩)
theorem aS5 {a:Au}(h:a.Ok)(za:a.Sz 134217728 64)(s1:a.sym<=32)(s2:a.st<=64){w:List Int}(hw:G6 a.sym w)(hl:w.length<=256):ai P F.Bc [Gx a,.d (ints w)] (.jM [Gx (fM a),.d (dI 0)]):=by
 have e0:=h.qR;have e1:=h.ini;have e2:=h.fin;have e3:=za.num;have tl:=CS a.aX;refine ai.intro fn.Bc (by rfl) (by rfl) (au (by rfl)) λE hE=>(AW.sg hE rfl (iC rfl rfl λb2=>(al z.Auto rfl λb4=>(ay rfl (OL.nil (AW.sg hE rfl (aG ag.Auto rfl rfl (vs:=[_,_,_,_,_,_,_]) rfl (au rfl) ?_)))))))
 refine aY rfl .bC (Zk h za s1 s2) (BN rfl (ex rfl rfl (ex rfl rfl (al z.Auto rfl λb6=>(dA sz.Auto rfl rfl rfl rfl rfl (au rfl) (cells2:=[_,_,_,_,_,_,_]) rfl (ay rfl (OL.nil ?_)))))));refine AW.seq (AW.block (AW.sg hE rfl (ah rfl (bU rfl rfl (c:=false) (by exact eF (by omega)) (ay rfl (OL.nil (jD rfl ?_)))))))
 refine AW.sg hE rfl (aF fd.lX rfl rfl (ak ce.cZ rfl rfl rfl (aY rfl vL (OE (l:=(fM a).aX) (f:=F.tN) (caps:=[]) (p:=λ_=>false) (λx hx=>aG1 (Iq h x hx)) (by show (Bz a.aX).length<=_;omega)) ?_)))
 rw[any_false λx _=>rfl];refine ay rfl (OL.nil (jD rfl ?_));refine AW.sg hE rfl (ah rfl (aF fd.D6 rfl rfl (ak ce.int rfl rfl rfl (aY rfl vL (Tm (s:=a.sym) hw hl ⟨e0,s1⟩) (nt rfl (ay rfl (OL.nil ?_)))))));refine jD rfl ?_;refine AW.skip (AW.sg hE rfl (aG ag.Auto rfl rfl (vs:=[_,_,_,_,_,_,_]) rfl (au rfl) (dA sz.Auto rfl rfl rfl rfl rfl (au rfl) (cells2:=[_,_,_,_,_,_,_]) rfl (ay rfl (OL.nil ?_)))));exact AW.ret (aH.r ⟨_,.dD rfl rfl ag.Auto (au rfl) (.tmp rfl .nil),_,.cons (.ag (.cons (.le vR) (.cons (.le vR) (.cons (.le vR) (.cons (.le vR) (.cons (.le vR) (.cons (.le vR) (.cons (.le vR) .nil)))))))) (.cons (.le vR) .nil),rfl⟩)
theorem as9 {a:Au}(h:a.Ok)(za:a.Sz 134217728 64)(s1:a.sym<=32)(s2:a.st<=64){w:List Int}(hw:G6 a.sym w)(hl:w.length<=256)(zz:VI (fM a) w):ai P F.xE [Gx a,.d (ints w)] (.jM [.d (yE (JE (fM a) w)),.d (dI 0)]):=by
 have e0:=h.qR;have e1:=h.ini;have e2:=h.fin;have e3:=za.num;have hn:=Gz h;have tl:=CS a.aX;have e4:(fM a).aX.length<=2048:=by show (Bz a.aX).length<=_;omega
 refine ai.intro fn.xE (by rfl) (by rfl) (au (by rfl)) λE hE=>(AW.sg hE rfl (iC rfl rfl λb2=>(oq rfl (ay rfl (OL.nil (AW.sg hE rfl (aG ag.Auto rfl rfl (vs:=[_,_,_,_,_,_,_]) rfl (au rfl) ?_)))))))
 refine ah rfl (aY rfl vL (aS5 h za s1 s2 hw hl) (BN rfl (ex rfl rfl (ex rfl rfl (dA sz.Auto rfl rfl rfl rfl rfl (au rfl) (cells2:=[_,_,_,_,_,_,_]) rfl (ay rfl (OL.nil ?_)))))));refine AW.seq (AW.sg hE rfl (ah rfl (bU rfl rfl (c:=false) (by exact eF (by omega)) (OL.nil (jD rfl ?_)))))
 refine AW.skip (AW.sg hE rfl (aF fd.xe rfl rfl (ak ce.aS rfl rfl rfl (ay rfl (OL.nil (AW.seq (AW.sg hE rfl ?_)))))));refine ah rfl (eH sl.ints rfl rfl (ah rfl (OL.nil (AW.block ?_))));refine AW.aK (α:=Nat) [(2,_),(4,_),(5,_),(21,_),(22,_)] [(2,_)] (λi=>[(7,.d (yE (JE (fM a) (w.take i)))),(23,.d (dI i))]) (λi=>[]) (λi=>i<=w.length) (λi=>w.length-i) 0 (.cons (fG rfl) (.cons (zi rfl) (.cons (bM rfl) (.cons (bM rfl) (.cons (bM rfl) .nil))))) (.cons (iJ rfl) .nil) ⟨Nat.zero_le _,.dR,.nil⟩ ?_
 rintro i h1
 have h1:i<=w.length:=h1;refine AW.sg hE rfl (aN rfl rfl rfl (OL.nil (AW.seq (AW.cond rfl (λP9=>?_) (λP9=>?_)))))
 .try simp only[bY] at P9
  refine AW.skip (AW.seq (AW.block (AW.seq ?_)));have hx:=hw (w.getD i 0) (getD_mem (by omega) 0)
  refine AW.rg hE rfl (bg sl.ints 0 rfl rfl (by omega) rfl rfl (bP ce.int rfl (ay rfl (OL.nil (AW.rg hE rfl (aG ag.Auto rfl rfl (vs:=[_,_,_,_,_,_,_]) rfl (au rfl) (ah rfl ?_)))))))
  refine ah rfl (aY rfl (.cons vR (.cons vR (.cons (aZ.int (by omega)) .nil))) (ba2 (a:=(fM a)) (v:=JE (fM a) (w.take i)) (s:=(w.getD i 0).toNat) hn (MI hn _) (zz.st i (by omega)) s2 e4) (ay rfl (OL.nil (AW.rg hE rfl (aB rfl rfl (by omega) (ah rfl (OL.nil ?_)))))))
  exact AW.again (x:=i) (i+1) (by omega) ⟨by omega,Knows.app .y9 (.cons (by rw[VF (by omega)];exact aZ.refl _) .bC),bn.app (.cons rfl .nil) (.nil)⟩
 .try simp only[bY] at P9
  refine AW.exit (AW.seq ?_);obtain rfl:i=w.length:=by omega
  exact AW.rg hE rfl (ah rfl (ay rfl (ay rfl (OL.nil (AW.ret (aH.r ⟨_,.tmp rfl (.tmp rfl .nil),_,.cons (.le (by rw[List.take_length];exact aZ.refl _)) (.cons (.le vR) .nil),rfl⟩))))))
theorem aG5 {a:Au}(h:a.Ok)(za:a.Sz 134217728 64)(s1:a.sym<=32)(s2:a.st<=64){w:List Int}(hw:G6 a.sym w)(hl:w.length<=256)(zz:VI (fM a) w):ai P F.rW [Gx a,.d (ints w)] (.jM [vW (G7 a w),.d (dI 0)]):=by
 have hn:=Gz h;have e9:EH (JE (fM a) w) a.fin a.st=G7 a w:=by
  have h9:=VG hn (u:=w) hw;rw[OJ] at h9;exact h9
 refine ai.intro fn.rW (by rfl) (by rfl) (au (by rfl)) λE hE=>(AW.sg hE rfl (iC rfl rfl λb2=>(al z.aA rfl λb4=>(ay rfl (OL.nil (AW.sg hE rfl (aG ag.Auto rfl rfl (vs:=[_,_,_,_,_,_,_]) rfl (au rfl) ?_)))))))
 refine ah rfl (aY rfl vL (as9 h za s1 s2 hw hl zz) (BN rfl (ex rfl rfl (ex rfl rfl (ay rfl (ay rfl (OL.nil ?_)))))));refine AW.seq (AW.sg hE rfl (ah rfl (bU rfl rfl (c:=false) (by exact eF (by omega)) (OL.nil (jD rfl ?_)))))
 refine AW.skip (AW.sg hE rfl (aF fd.kU rfl rfl (aG ag.Ring rfl rfl (vs:=[_,_]) rfl (au rfl) (ah rfl (aF fd.xg rfl rfl (ak ce.aS rfl rfl rfl (aY rfl vL (bk0 (v:=JE (fM a) w) (u:=a.fin) (n:=a.st) (MI hn w) h.fin s2 zz.zv zz.zf zz.zd) ?_)))))));rw[e9];refine dA sz.aA rfl rfl rfl rfl rfl (au rfl) (cells2:=[_,_,_,_,_,_,_,_]) rfl (ay rfl (OL.nil ?_));exact AW.ret (aH.r ⟨_,.dD rfl rfl ag.aA (au rfl) (.tmp rfl .nil),_,.cons (.ag (.cons (.le vR) (.cons (.le vR) (.cons (.le vR) (.cons (.le vR) (.cons (.le vR) (.cons (.le vR) (.cons (.le vR) (.cons (.le vR) .nil))))))))) (.cons (.le vR) .nil),rfl⟩)
