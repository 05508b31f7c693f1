/-
  Walks of the specification's chapter 33 on a model without silent states: the automaton (printed by mk2.py).
-/
import Derived.Test.YteiohkpjgcioaaaGreatDoorKHoN
set_option linter.unusedVariables false
set_option linter.unusedSimpArgs false
namespace Go.Proofs.YteiohkpjgcioaaaGreatDoor
open Go Go.AL
theorem aN1 {q:Rat}:VD (.ag [.d (dB (eU q).neg),.d (aC (eU q).num),.d (aC (eU q).den),.d (dI 0),.d (dB false),.d (dU 0),.mt,.mt]) (dW q):=VD.ag (.cons (VC.d _) (.cons (VC.d _) (.cons (VC.d _) (.cons (VC.d _) (.cons (VC.d _) (.cons (VC.d _) (.cons VC.mt (.cons VC.mt .nil))))))))
theorem ZE {x:aT}:VD (.ag [.d (dI x.f),.d (dI x.l),.d (dI x.t),.d (dB (eU x.q).neg),.d (aC (eU x.q).num),.d (aC (eU x.q).den),.d (dI 0),.d (dB false),.d (dU 0),.mt,.mt]) (iO x) :=
 VD.ag (.cons (VC.d _) (.cons (VC.d _) (.cons (VC.d _) (.cons (VC.d _) (.cons (VC.d _) (.cons (VC.d _) (.cons (VC.d _) (.cons (VC.d _) (.cons (VC.d _) (.cons VC.mt (.cons VC.mt .nil)))))))))))
theorem Wu {x:V}(h:x=.ag [.d (dI 1),.mt]):aZ x l7:=h ▸ aZ.ag (.cons vR (.cons aZ.mt .nil))
theorem MR {h:HM}{b B:Nat}(f:HM.yK b B h){i s k:Nat}(hi:i<=h.st)(hs:s<=h.sym)(hk:k<=h.st+1):(jR h i++yC h i s++BL h i s k).length<=6000:=by
 have n1:=f.st1;have s1:=f.sZ;rw[jT,jT,VW,VU,VT];have h1:=Nat.mul_le_mul (show i<=12 by omega) (Nat.mul_le_mul s1 (show h.st+1<=13 by omega))
 have h2:=Nat.mul_le_mul (show s<=32 by omega) (show h.st+1<=13 by omega)
 omega
def Q9:Nat->Option Nat
 | 26=>some 0
 | 27=>some 1
 | 28=>some 2
 | 29=>some 3
 | 30=>some 4
 | 31=>some 5
 | 32=>some 6
 | 33=>some 7
 | 34=>some 8
 | 35=>some 9
 | 8=>some 10
 | _=>none
theorem o6 {t i:Nat}(h:Q9 t=some i):t=[26,27,28,29,30,31,32,33,34,35,8].getD i 0:=by
 unfold Q9 at h
 split at h <;> first|(cases h;rfl)|cases h
noncomputable def bb7 (h:HM)(b1 b5:Nat)(t:Nat)(β:Nat->Nat × Nat):V :=
 match t with
 | 26=>.ag [.d (dI 1),.mt]
 | 27=>.ptr 1 b1 0
 | 28=>.d (dI h.sym)
 | 29=>.ag [.d (dI 1),.mt]
 | 30=>vW 1
 | 31=>.bJ 31 (β 31).1 1 1
 | 32=>.ag [.d (dI 1),.mt]
 | 33=>vW 1
 | 34=>.bJ 34 (β 34).1 1 1
 | 35=>.ag [.d (dI 1),.mt,.d (dI h.sym),.d (dI 1),.bJ 31 (β 31).1 1 1,.bJ 34 (β 34).1 1 1,.mt]
 | 8=>.ptr 8 (β 8).1 0
 | _=>.junk
noncomputable abbrev bb8 (h:HM)(b1 b5:Nat):List UR:=[⟨31,5,λβ=>.row (β 31).1 1 T.aA 8 [dW 1]⟩,⟨34,8,λβ=>.row (β 34).1 1 T.aA 8 [dW 1]⟩,⟨8,10,λβ=>.box (β 8).1 T.Auto [.d (dI 0),.mt,.d (dI 0),.d (dI 0),.mt,.mt,.mt]⟩]
theorem bb9 {p:Nat->Prop}(h0:p 0)(h1:p 1)(h2:p 2)(h3:p 3)(h4:p 4)(h5:p 5)(h6:p 6)(h7:p 7)(h8:p 8)(h9:p 9)(h10:p 10):∀ i,i<11->p i:=λi hi=>by
 have:i=0 \/ i=1 \/ i=2 \/ i=3 \/ i=4 \/ i=5 \/ i=6 \/ i=7 \/ i=8 \/ i=9 \/ i=10:=by omega
 rcases this with rfl|rfl|rfl|rfl|rfl|rfl|rfl|rfl|rfl|rfl|rfl <;> assumption
theorem ag6 {a:Au}(h:a.Ok)(za:a.Sz 134217728 64)(s1:a.sym<=32)(s2:a.st<=64):ai P F.yS [Gx a] (.jM [Gx (kH a),.d (dI 0)]):=by
 refine ai.intro fn.yS (by rfl) (by rfl) (au (by rfl)) λE hE=>(AW.sg hE rfl (iC rfl rfl λb1=>(al z.Auto rfl λb2=>(ay rfl (OL.nil (AW.seq (AW.sg hE rfl ?_)))))))
 refine aG ag.Auto rfl rfl (vs:=[_,_,_,_,_,_,_]) rfl (au rfl) (aY rfl .bC (VS (a:=a) h za s1 s2) (nt rfl (OL.nil (jD rfl ?_))));refine AW.skip (AW.sg hE rfl (aG ag.Auto rfl rfl (vs:=[_,_,_,_,_,_,_]) rfl (au rfl) (aY rfl .bC (Zw (a:=a) h za s2) (dA sz.Auto rfl rfl rfl rfl rfl (au rfl) (cells2:=[_,_,_,_,_,_,_]) rfl (ay rfl (OL.nil ?_))))));exact AW.ret (aH.r ⟨_,.dD rfl rfl ag.Auto (au rfl) (.tmp rfl .nil),_,.cons (.ag (.cons (.le vR) (.cons (.le vR) (.cons (.le vR) (.cons (.le vR) (.cons (.le vR) (.cons (.le vR) (.cons (.le vR) .nil)))))))) (.cons (.le vR) .nil),rfl⟩)
set_option maxRecDepth 16000 in
set_option maxHeartbeats 12800000 in
theorem TT {h:HM}{B:Nat}(g:HM.jK 1048576 B h)(hv:ai P F.je [uY h] (.d (dI 0)))(na:(bT h).aX.length<=64)(nr:(kJ h).aX.length<=64):ai P F.qw [uY h] (.jM [Gx (kH (kJ h)),.d (dI 0)]):=by
 have fo:=g.form;have n0:=fo.st0;have n1:=fo.st1;have s1:=fo.sZ;have hb1:=fo.b1;have hbB:=fo.bB;have e1:=fo.ini;have e2:=fo.trans;have e3:=fo.stop;have e4:=fo.emit;have nr2:(JU (jR h h.st)).length<=64:=nr;have hil:(kJ h).ini.length=h.st+1:=by show (1::List.replicate h.st (0:Rat)).length=_;rw[List.length_cons,List.length_replicate]
 have hfl:(kJ h).fin.length=h.st+1:=by show (h.empty::h.stop).length=_;rw[List.length_cons,e3]
 have hall:(jR h h.st).length<=6000:=by have:=MR fo (i:=h.st) (s:=0) (k:=0) (Nat.le_refl _) (Nat.zero_le _) (Nat.zero_le _);rw[jT,jT] at this;omega
 refine ai.intro fn.qw (by rfl) (by rfl) (au (by rfl)) λE hE=>(AW.sg hE rfl (iC rfl rfl λb1=>(al z.Auto rfl λb2=>(ay rfl (OL.nil (AW.seq (AW.sg hE rfl ?_)))))))
 refine aG ag.aU rfl rfl (vs:=[_,_,_,_,_,_,_,_,_,_,_]) rfl (au rfl) (aY rfl vL (hv) (ay rfl (OL.nil (AW.sg hE rfl (ah rfl (bU rfl rfl (c:=false) (by exact eF (by omega)) (OL.nil ?_)))))))
 refine jD rfl ?_;refine AW.skip (AW.sg hE rfl (bd z.Ring pl.Ring (cs:=[_,_]) rfl (al z.Ring rfl λb5=>(dA sz.Ring rfl rfl rfl rfl rfl (au rfl) (cells2:=[_,_]) rfl (OL.nil (AW.seq (AW.oz (by rw[hE];rfl) ?_)))))))
 refine SK.dG (aG ag.aU rfl rfl (vs:=[_,_,_,_,_,_,_,_,_,_,_]) rfl (au rfl) (OL.nil ?_));refine SK.G5 (SO.Ey (args':=[uY h]) (show 23<E.n by rw[hE];exact Nat.le_of_ble_eq_true (by rfl)) rfl .bC (Mc:=jm) (λ_ _ h=>by cases h) (Wq fo hv) (λ_ _ _ h=>h) ?_)
 rintro tz9 -
 refine SK.dG (BN rfl (OL.nil ?_));refine SK.dG (ex rfl rfl (OL.nil ?_));refine SK.dG (ex rfl rfl (OL.nil ?_));refine SK.dG (al z.aU rfl λb6=>(OL.nil ?_));refine SK.dG (dA sz.aU rfl rfl rfl rfl rfl (au rfl) (cells2:=[_,_,_,_,_,_,_,_,_,_,_]) rfl (OL.nil ?_));refine SK.dG (ay rfl (OL.nil ?_));refine SK.nil (AW.seq (AW.Dw (bb7 h b1 b5) Q9 (bb8 h b1 b5) 11 aj (by rw[hE];rfl) (by rfl) (by kernel_rfl) (by kernel_rfl) ?_ ?_))
 .refine bb9 ?_ ?_ ?_ ?_ ?_ ?_ ?_ ?_ ?_ ?_ ?_
  .exact λβ L c9=>⟨_,rfl,.inl (OG.aP (aG ag.Ring (id:=5) (b:=b5) (o:=0) ((vG rfl).trans rfl) ((uI (aV (show (5:Nat)≠31 by decide) (aV (show (5:Nat)≠34 by decide) (aV (show (5:Nat)≠8 by decide) rfl)))):_=some (.box b5 T.Ring [.d (dI 1),.mt])) (vs:=[_,_]) rfl (au rfl) ⟨β,lg (d:=26) (i:=0) rfl (λt ht=>o6 ht) (lt_size 12 c9.size rfl (by decide)) (gG (lt_size 12 c9.size rfl (by decide)) (by rfl))⟩))⟩
  .exact λβ L c9=>⟨_,rfl,.inl (OG.aP (aF fd.jL (b:=b1) (o:=0) (id:=1) ((vG rfl).trans rfl) rfl ⟨β,lg (d:=27) (i:=1) rfl (λt ht=>o6 ht) (lt_size 12 c9.size rfl (by decide)) (gG (lt_size 12 c9.size rfl (by decide)) (by rfl))⟩))⟩
  .exact λβ L c9=>⟨_,rfl,.inl (OG.aP (ak ce.int (id:=1) (b:=b1) (o:=0) (ig rfl (fH (j:=1) c9 (by kernel_rfl))) ((uI (aV (show (1:Nat)≠31 by decide) (aV (show (1:Nat)≠34 by decide) (aV (show (1:Nat)≠8 by decide) rfl)))):_=some (.box b1 T.aU (yQ h))) rfl ⟨β,lg (d:=28) (i:=2) rfl (λt ht=>o6 ht) (lt_size 12 c9.size rfl (by decide)) (gG (lt_size 12 c9.size rfl (by decide)) (by rfl))⟩))⟩
  .exact λβ L c9=>⟨_,rfl,.inl (OG.aP (aG ag.Ring (id:=5) (b:=b5) (o:=0) ((vG rfl).trans rfl) ((uI (aV (show (5:Nat)≠31 by decide) (aV (show (5:Nat)≠34 by decide) (aV (show (5:Nat)≠8 by decide) rfl)))):_=some (.box b5 T.Ring [.d (dI 1),.mt])) (vs:=[_,_]) rfl (au rfl) ⟨β,lg (d:=29) (i:=3) rfl (λt ht=>o6 ht) (lt_size 12 c9.size rfl (by decide)) (gG (lt_size 12 c9.size rfl (by decide)) (by rfl))⟩))⟩
  .exact λβ L c9=>⟨_,rfl,.inl (OG.aP (aY rfl (.cons (Wu (ig rfl (fH (j:=3) c9 (by kernel_rfl)))) .nil) aM5 ⟨β,lg (d:=30) (i:=4) rfl (λt ht=>o6 ht) (lt_size 12 c9.size rfl (by decide)) (gG (lt_size 12 c9.size rfl (by decide)) (by rfl))⟩))⟩
  .exact λβ L c9=>⟨_,rfl,.inl (OG.aP (ab2 (y:=dW 1) sl.aS (QU (ig rfl (fH (j:=4) c9 (by kernel_rfl))) G8) rfl (by decide) (uI (Dv (by exact c9.no) (aV (show (31:Nat)≠34 by decide) (aV (show (31:Nat)≠8 by decide) rfl)))) λb8=>⟨upd β 31 (b8,0),Du (d:=31) (i:=5) (x:=(b8,0)) rfl (λt ht=>o6 ht) (lt_size 12 c9.size rfl (by decide)) rfl (vH (lt_size 12 c9.size rfl (by decide)) rfl rfl rfl c9.no (by rfl) (List.forall_mem_cons.2 ⟨(by exact λ_ _=>rfl),(List.forall_mem_cons.2 ⟨(by exact λ_ _=>rfl),(λy hy=>absurd hy List.not_mem_nil)⟩)⟩)) (λt j ho hl=>by unfold Q9 at ho;split at ho <;> cases ho <;> first|rfl|(rw[c9.no] at hl;cases hl)|exact rV c9 (by kernel_rfl) hl)⟩))⟩
  .exact λβ L c9=>⟨_,rfl,.inl (OG.aP (aG ag.Ring (id:=5) (b:=b5) (o:=0) ((vG rfl).trans rfl) ((uI (aV (show (5:Nat)≠31 by decide) (aV (show (5:Nat)≠34 by decide) (aV (show (5:Nat)≠8 by decide) rfl)))):_=some (.box b5 T.Ring [.d (dI 1),.mt])) (vs:=[_,_]) rfl (au rfl) ⟨β,lg (d:=32) (i:=6) rfl (λt ht=>o6 ht) (lt_size 12 c9.size rfl (by decide)) (gG (lt_size 12 c9.size rfl (by decide)) (by rfl))⟩))⟩
  .exact λβ L c9=>⟨_,rfl,.inl (OG.aP (aY rfl (.cons (Wu (ig rfl (fH (j:=6) c9 (by kernel_rfl)))) .nil) aM5 ⟨β,lg (d:=33) (i:=7) rfl (λt ht=>o6 ht) (lt_size 12 c9.size rfl (by decide)) (gG (lt_size 12 c9.size rfl (by decide)) (by rfl))⟩))⟩
  .exact λβ L c9=>⟨_,rfl,.inl (OG.aP (ab2 (y:=dW 1) sl.aS (QU (ig rfl (fH (j:=7) c9 (by kernel_rfl))) G8) rfl (by decide) (uI (aV (show (34:Nat)≠31 by decide) (Dv (by exact c9.no) (aV (show (34:Nat)≠8 by decide) rfl)))) λb8=>⟨upd β 34 (b8,0),Du (d:=34) (i:=8) (x:=(b8,0)) rfl (λt ht=>o6 ht) (lt_size 12 c9.size rfl (by decide)) rfl (vI (lt_size 12 c9.size rfl (by decide)) (show (5:Nat)≠8 by decide) (.inl (show (31:Nat)≠34 by decide)) (by exact λ_=>rfl) (vH (lt_size 12 c9.size rfl (by decide)) rfl rfl rfl c9.no (by rfl) (List.forall_mem_cons.2 ⟨(by exact λ_ _=>rfl),(λy hy=>absurd hy List.not_mem_nil)⟩))) (λt j ho hl=>by unfold Q9 at ho;split at ho <;> cases ho <;> first|rfl|(rw[c9.no] at hl;cases hl)|exact rV c9 (by kernel_rfl) hl)⟩))⟩
  .exact λβ L c9=>⟨_,rfl,.inl (OG.aP (WL (cs:=[_,_,_,_,_,_,_]) z.Auto pl.Auto (qA (ig rfl (fH (j:=0) c9 (by kernel_rfl))) (qA (ig rfl (fH (j:=2) c9 (by kernel_rfl))) (qA rfl (qA (ig rfl (fH (j:=5) c9 (by kernel_rfl))) (qA (ig rfl (fH (j:=8) c9 (by kernel_rfl))) WJ))))) (by rfl) ⟨β,lg (d:=35) (i:=9) rfl (λt ht=>o6 ht) (lt_size 12 c9.size rfl (by decide)) (gG (lt_size 12 c9.size rfl (by decide)) (by rfl))⟩))⟩
  .exact λβ L c9=>⟨_,rfl,.inl (OG.aP (al z.Auto (uI (aV (show (8:Nat)≠31 by decide) (aV (show (8:Nat)≠34 by decide) (Dv (by exact c9.no) rfl)))) λb8=>⟨upd β 8 (b8,0),Du (d:=8) (i:=10) (x:=(b8,0)) rfl (λt ht=>o6 ht) (lt_size 12 c9.size rfl (by decide)) rfl (vI (lt_size 12 c9.size rfl (by decide)) (show (5:Nat)≠10 by decide) (.inl (show (31:Nat)≠8 by decide)) (by exact λ_=>rfl) (vI (lt_size 12 c9.size rfl (by decide)) (show (8:Nat)≠10 by decide) (.inl (show (34:Nat)≠8 by decide)) (by exact λ_=>rfl) (vH (lt_size 12 c9.size rfl (by decide)) rfl rfl rfl c9.no (by rfl) (λy hy=>absurd hy List.not_mem_nil)))) (λt j ho hl=>by unfold Q9 at ho;split at ho <;> cases ho <;> first|rfl|(rw[c9.no] at hl;cases hl)|exact rV c9 (by kernel_rfl) hl)⟩))⟩
 refine λβ L c9 hA=>⟨_,rfl,.inl (OG.aP (dA sz.Auto (ig rfl (hA 10 (by decide))) (ig rfl (hA 9 (by decide))) rfl (uI (aV (show (8:Nat)≠31 by decide) (aV (show (8:Nat)≠34 by decide) (yR (hA 10 (by decide)) rfl rfl)))) rfl (au rfl) (cells2:=[_,_,_,_,_,_,_]) rfl ?_))⟩
 refine OL.nil ?_;refine AW.to [(1,.ptr 1 b1 0),(2,.ptr 2 b2 0),(6,.ptr 6 b6 0),(7,.d (dI 0)),(8,.ptr 8 (β 8).1 0)] [(1,.box b1 T.aU (yQ h)),(2,.box b2 T.Auto [.d (dI 0),.mt,.d (dI 0),.d (dI 0),.mt,.mt,.mt]),(6,.box b6 T.aU [.d (dI h.sym),.d (dI h.st),.d (dB (eU h.empty).neg),.d (aC (eU h.empty).num),.d (aC (eU h.empty).den),.d (o9 h.ini),.d (J4 h.trans),.d (o9 h.stop),.d (J4 h.emit),.d (bools (List.replicate h.st false)),.d (ints tz9)]),(8,.box (β 8).1 T.Auto [.d (dI 1),.mt,.d (dI h.sym),.d (dI 1),.bJ 31 (β 31).1 1 1,.bJ 34 (β 34).1 1 1,.mt]),(31,.row (β 31).1 1 T.aA 8 [dW 1]),(34,.row (β 34).1 1 T.aA 8 [dW 1])] (.cons (aI (vJ ((vG rfl).trans rfl))) (.cons (aI (vJ ((vG rfl).trans rfl))) (.cons (aI (vJ ((vG rfl).trans rfl))) (.cons (aI (vJ ((vG rfl).trans rfl))) (.cons (aI (vJ (ig rfl (hA 10 (by decide))))) (.nil)))))) (.cons (rU (show (1:Nat)≠8 by decide) (uI (aV (show (1:Nat)≠31 by decide) (aV (show (1:Nat)≠34 by decide) (aV (show (1:Nat)≠8 by decide) rfl))))) (.cons (rU (show (2:Nat)≠8 by decide) (uI (aV (show (2:Nat)≠31 by decide) (aV (show (2:Nat)≠34 by decide) (aV (show (2:Nat)≠8 by decide) rfl))))) (.cons (rU (show (6:Nat)≠8 by decide) (uI (aV (show (6:Nat)≠31 by decide) (aV (show (6:Nat)≠34 by decide) (aV (show (6:Nat)≠8 by decide) rfl))))) (.cons Si (.cons (rU (show (31:Nat)≠8 by decide) (uI (yR (hA 5 (by decide)) rfl rfl))) (.cons (rU (show (34:Nat)≠8 by decide) (uI (aV (show (34:Nat)≠31 by decide) (yR (hA 8 (by decide)) rfl rfl)))) (.nil))))))) ?_
 generalize (β 8).1=b8;generalize (β 31).1=p1;generalize (β 34).1=p2;refine AW.rename 31 59 rfl (AW.rename 34 69 rfl (AW.vC 8 [.d (dI 1),.mt,.d (dI h.sym),.d (dI 1),.bJ 59 p1 1 1,.bJ 69 p2 1 1,.mt] rfl (.cons vR (.cons vR (.cons vR (.cons vR (.cons aZ.bJ (.cons aZ.bJ .bC)))))) (AW.seq (AW.sg hE rfl (ah rfl (bU rfl rfl (c:=false) (by exact eF (by omega)) (OL.nil ?_)))))))
 refine jD rfl ?_;refine AW.skip (AW.sg hE rfl (aF fd.xg rfl rfl (ak ce.aS rfl rfl rfl (aF fd.gZ rfl rfl (aG ag.Rat rfl rfl (vs:=[_,_,_]) rfl (au rfl) (bd z.aA pl.aA (cs:=[_,_,_,_,_,_,_,_]) rfl (Uj sl.aS rfl rfl (by omega) (by omega) rfl ?_)))))))
 refine AA sz.aA rfl (d:=dW h.empty) aN1 rfl rfl Nat.zero_lt_one (es2:=[dW h.empty]) rfl (OL.nil (AW.seq (AW.sg hE rfl (ay rfl (OL.nil (AW.block (AW.row0 101 T.mD 11 rfl ?_)))))));refine AW.vC 8 [.d (dI 1),.mt,.d (dI h.sym),.d (dI 1),.bJ 59 p1 1 1,.bJ 69 p2 1 1,.bJ 101 0 0 0] rfl (.cons vR (.cons vR (.cons vR (.cons vR (.cons vR (.cons vR (.cons aZ.Ub .nil))))))) ?_;refine AW.aK (α:=Nat × Nat × Nat × Nat × Nat × Nat × Nat) [(2,_),(3,_),(6,_),(8,_)] [(2,_),(6,_)] (λ(i,p1,c1,p2,c2,p3,c3)=>[(9,.d (dI i))]) (λ(i,p1,c1,p2,c2,p3,c3)=>[(8,.box b8 T.Auto [.d (dI 1),.mt,.d (dI h.sym),.d (dI (((i+1):Nat):Int)),.bJ 59 p1 (i+1) c1,.bJ 69 p2 (i+1) c2,.bJ 101 p3 (jR h i).length c3]),(59,.row p1 c1 T.aA 8 (((kJ h).ini.take (i+1)).map dW)),(69,.row p2 c2 T.aA 8 (((kJ h).fin.take (i+1)).map dW)),(101,.row p3 c3 T.mD 11 ((jR h i).map iO))]) (λ(i,p1,c1,p2,c2,p3,c3)=>i<=h.st) (λ(i,p1,c1,p2,c2,p3,c3)=>h.st-i) (0,p1,1,p2,1,0,0) (.cons (fG rfl) (.cons (Xr) (.cons (fG rfl) (.cons (fG rfl) .nil)))) (.cons (iJ rfl) (.cons (iJ rfl) .nil)) ⟨Nat.zero_le _,.bC,.cons rfl (.cons rfl (.cons rfl (.cons rfl .nil)))⟩ ?_
 rintro⟨i,p1,c1,p2,c2,p3,c3⟩ h1
 have h1:i<=h.st:=h1;refine AW.seq (AW.sg hE rfl (ah rfl (aF fd.bQ rfl rfl (ak ce.int rfl rfl rfl (aN rfl rfl rfl (OL.nil (AW.cond rfl (λh48=>?_) (λh48=>?_))))))))
 .try simp only[bY] at h48
  refine AW.skip (AW.seq (AW.block (AW.seq ?_)));have hi:i<h.st:=by omega
  have zx:=fo.zI.get hb1 i;have her:=fo.AQ i hi;refine AW.rg hE rfl (aF fd.rD rfl rfl (ak ce.int rfl rfl rfl (bo rfl rfl (dO (c:=((i+1+1:Nat):Int)) (by omega) (wrap_i64 (by omega))) (aF fd.rD rfl rfl (dA sz.int rfl rfl rfl rfl rfl (au rfl) (cells2:=[_,_,_,_,_,_,_]) rfl (OL.nil (AW.seq ?_)))))))
  refine AW.dg 2 [0,1,2,3,5,6,7,8,9,10,11,12,13,4,15,14,16,17,18] aj hE rfl (by kernel_rfl) (OI.aP (os:=[_,_,_,_,_,_,_,_,_,_,_,_,_,_,_,_,_,_,_]) rfl ?_)
  refine aF fd.xe rfl rfl (ak ce.aS rfl rfl rfl (bd z.aA pl.aA (cs:=[_,_,_,_,_,_,_,_]) rfl (tC (y:=dW 0) sl.aS at1 rfl (by decide) (aF fd.xg rfl rfl (ak ce.aS rfl rfl rfl (aF fd.jf rfl rfl (ak ce.aQ rfl rfl rfl ?_)))))))
  refine ah rfl (bg sl.aQ 0 rfl rfl (by omega) rfl rfl (iU ag.Rat rfl (vs:=[_,_,_]) rfl (au rfl) (bd z.aA pl.aA (cs:=[_,_,_,_,_,_,_,_]) rfl (tC (y:=dW (h.stop.getD i 0)) sl.aS aN1 rfl (by decide) ?_))))
  refine yG sl.aS rfl rfl rfl (by rw[dF,List.length_take];omega) (VC.d _) (λy hy=>by rw[qm hy];rfl) (by simp only[nN];omega) (by simp only[nN];omega) (.inr rfl) (ys:=((kJ h).ini.take (i+1+1)).map dW) (by rw[xu 0 (show i+1<(kJ h).ini.length by omega),show (kJ h).ini.getD (i+1) 0=0 from Ti (n:=h.st) (j:=i),List.map_append];rfl) (n2:=i+1+1) (rfl) λb59 c59=>?_
  refine aF fd.xe rfl rfl ?_;refine yG sl.aS rfl rfl rfl (by rw[dF,List.length_take];omega) (VC.d _) (λy hy=>by rw[qm hy];rfl) (by simp only[nN];omega) (by simp only[nN];omega) (.inr rfl) (ys:=((kJ h).fin.take (i+1+1)).map dW) (by rw[xu 0 (show i+1<(kJ h).fin.length by omega),List.map_append];rfl) (n2:=i+1+1) (rfl) λb69 c69=>?_
  refine dA sz.aS rfl rfl rfl rfl rfl (au rfl) (cells2:=[_,_,_,_,_,_,_]) rfl (aF fd.xg rfl rfl (dA sz.aS rfl rfl rfl rfl rfl (au rfl) (cells2:=[_,_,_,_,_,_,_]) rfl (OL.nil (AW.sg hE rfl (ay rfl (OL.nil (AW.block ?_)))))));refine AW.aK (α:=Nat × Nat × Nat) [(2,_),(3,_),(6,_),(8,_),(9,_)] [(2,_),(6,_),(59,_),(69,_)] (λ(s,q3,d3)=>[(10,.d (dI ((s+1:Nat):Int)))]) (λ(s,q3,d3)=>[(8,.box b8 T.Auto [.d (dI 1),.mt,.d (dI h.sym),.d (dI (((i+1+1):Nat):Int)),.bJ 59 b59 (i+1+1) c59,.bJ 69 b69 (i+1+1) c69,.bJ 101 q3 (jR h i++yC h i s).length d3]),(101,.row q3 d3 T.mD 11 ((jR h i++yC h i s).map iO))]) (λ(s,q3,d3)=>s<=h.sym) (λ(s,q3,d3)=>h.sym-s) (0,p3,c3) (.cons (fG rfl) (.cons (Xr) (.cons (fG rfl) (.cons (fG rfl) (.cons (bM rfl) .nil))))) (.cons (iJ rfl) (.cons (iJ rfl) (.cons (rH rfl) (.cons (rH rfl) .nil)))) ⟨Nat.zero_le _,.bC,.cons (by rw[show yC h i 0=[] from rfl,List.append_nil];rfl) (.cons (by rw[show yC h i 0=[] from rfl,List.append_nil];rfl) .nil)⟩ ?_
  rintro⟨s,q3,d3⟩ h2
  have h2:s<=h.sym:=h2;refine AW.seq (AW.sg hE rfl (ah rfl (aF fd.jL rfl rfl (ak ce.int rfl rfl rfl (x8 rfl rfl rfl (OL.nil (AW.cond rfl (λhs=>?_) (λhs=>?_))))))))
  .have hs:s<h.sym:=by have:=jC hs;omega
   have zy:=(fo.zM i).get hb1 s;have hal:=MR fo (i:=i) (s:=s) (k:=0) (by omega) h2 (Nat.zero_le _)
   have bx5:=MR fo (i:=i) (s:=s) (k:=1) (by omega) h2 (by omega)
   have bx6:(jR h i++yC h i s).length<=6000:=by have:=hal;rw[jT] at this;omega
   refine AW.skip (AW.seq (AW.block (AW.seq (AW.dg 2 [0,1,2,3,4,5,6,7,8,9,10,11,12,13,14,15,16,17,18,19,20,21,22,23,24,25] aj hE rfl (by kernel_rfl) (OI.aP (os:=[_,_,_,_,_,_,_,_,_,_,_,_,_,_,_,_,_,_,_,_,_,_,_,_,_,_]) rfl ?_)))))
   refine aF fd.lX rfl rfl (ak ce.cZ rfl rfl rfl (ah rfl (ah rfl (bo rfl rfl (dO (c:=((i+1:Nat):Int)) (by omega) (wrap_i64 (by omega))) (aF fd.fO rfl rfl (ak ce.aQ rfl rfl rfl (ah rfl ?_)))))))
   refine bg sl.aQ 0 rfl rfl (by omega) rfl rfl (iU ag.Rat rfl (vs:=[_,_,_]) rfl (au rfl) (aF fd.dS rfl rfl (ak ce.aW rfl rfl rfl (ah rfl (bg sl.aW [] rfl rfl (by omega) rfl rfl (bP ce.aQ rfl (ah rfl ?_)))))))
   refine bo rfl rfl (dK (c:=(s:Int)) (by omega) (wrap_i64 (by omega))) (bg sl.aQ 0 rfl rfl (by omega) rfl rfl (iU ag.Rat rfl (vs:=[_,_,_]) rfl (au rfl) (aY rfl vL (OY (x:=h.ini.getD i 0) (y:=(h.emit.getD i []).getD s 0) (by omega) (by omega)) (bd z.aA pl.aA (cs:=[_,_,_,_,_,_,_,_]) rfl (WL (cs:=[_,_,_,_,_,_,_,_,_,_,_]) z.mD pl.mD (qA (by exact AX rfl) (qA (by exact AX rfl) (qA (by exact AX rfl) (qA (by exact evA rfl) (WJ))))) (by rfl) ?_)))))
   refine tC (y:=iO (⟨0,s+1,i+1,h.ini.getD i 0*(h.emit.getD i []).getD s 0⟩:aT)) sl.cZ (ZE (x:=(⟨0,s+1,i+1,h.ini.getD i 0*(h.emit.getD i []).getD s 0⟩:aT))) rfl (by decide) ?_
   refine yG sl.cZ rfl rfl rfl (by rw[dF]) (VC.d _) (λy hy=>by rw[qm hy];rfl) (by simp only[nN];omega) (by simp only[nN];omega) (.inr rfl) (ys:=(jR h i++yC h i s++BL h i s 1).map iO) (by rw[CW,show BL h i s 0=[] from rfl,List.nil_append];exact KP (l:=(jR h i++yC h i s)) (x:=(⟨0,s+1,i+1,h.ini.getD i 0*(h.emit.getD i []).getD s 0⟩:aT))) (n2:=(jR h i++yC h i s++BL h i s 1).length) (by rw[CW,show BL h i s 0=[] from rfl,List.nil_append];exact GI (l:=(jR h i++yC h i s)) (x:=(⟨0,s+1,i+1,h.ini.getD i 0*(h.emit.getD i []).getD s 0⟩:aT)) (y:=iO (⟨0,s+1,i+1,h.ini.getD i 0*(h.emit.getD i []).getD s 0⟩:aT))) λbc7 bc8=>?_
   refine aF fd.lX rfl rfl (dA sz.cZ rfl rfl rfl rfl rfl (au rfl) (cells2:=[_,_,_,_,_,_,_]) rfl (OL.nil (AW.sg hE rfl (ay rfl (OL.nil (AW.block (AW.rename 101 137 rfl ?_)))))));refine AW.vC 8 [.d (dI 1),.mt,.d (dI h.sym),.d (dI ((i+1+1:Nat):Int)),.bJ 59 b59 (i+1+1) c59,.bJ 69 b69 (i+1+1) c69,.bJ 137 bc7 (jR h i++yC h i s++BL h i s 1).length bc8] rfl (.cons vR (.cons vR (.cons vR (.cons vR (.cons aZ.bJ (.cons aZ.bJ (.cons aZ.bJ .nil))))))) ?_;refine AW.aK (α:=Nat × Nat × Nat) [(2,_),(3,_),(6,_),(8,_),(9,_),(10,_)] [(2,_),(6,_),(59,_),(69,_)] (λ(j,r3,e3)=>[(11,.d (dI j))]) (λ(j,r3,e3)=>[(8,.box b8 T.Auto [.d (dI 1),.mt,.d (dI h.sym),.d (dI (((i+1+1):Nat):Int)),.bJ 59 b59 (i+1+1) c59,.bJ 69 b69 (i+1+1) c69,.bJ 137 r3 (jR h i++yC h i s++BL h i s (j+1)).length e3]),(137,.row r3 e3 T.mD 11 ((jR h i++yC h i s++BL h i s (j+1)).map iO))]) (λ(j,r3,e3)=>j<=h.st) (λ(j,r3,e3)=>h.st-j) (0,bc7,bc8) (.cons (fG rfl) (.cons (Xr) (.cons (fG rfl) (.cons (fG rfl) (.cons (bM rfl) (.cons (bM rfl) .nil)))))) (.cons (iJ rfl) (.cons (iJ rfl) (.cons (rH rfl) (.cons (rH rfl) .nil)))) ⟨Nat.zero_le _,.bC,.cons rfl (.cons rfl .nil)⟩ ?_
   rintro⟨j,r3,e3⟩ h3
   have h3:j<=h.st:=h3;refine AW.seq (AW.sg hE rfl (ah rfl (aF fd.bQ rfl rfl (ak ce.int rfl rfl rfl (aN rfl rfl rfl (OL.nil (AW.cond rfl (λaV7=>?_) (λaV7=>?_))))))))
   .try simp only[bY] at aV7
    refine AW.skip (AW.seq (AW.block ?_));have hj:j<h.st:=by omega
    have htj:=fo.x9 j hj;have zt:=(fo.zT j).get hb1 i;have hal2:=MR fo (i:=i) (s:=s) (k:=j+1) (by omega) h2 (by omega)
    refine AW.dg 2 [0,1,2,3,4,5,6,7,8,9,10,11,12,13,14,15,16,17,18,19,20,21,22,23,24,25,26,27,28,29,30] aj hE rfl (by kernel_rfl) (OI.aP (os:=[_,_,_,_,_,_,_,_,_,_,_,_,_,_,_,_,_,_,_,_,_,_,_,_,_,_,_,_,_,_,_]) rfl ?_)
    refine aF fd.lX rfl rfl (ak ce.cZ rfl rfl rfl (ah rfl (bo rfl rfl (dO (c:=((j+1:Nat):Int)) (by omega) (wrap_i64 (by omega))) (ah rfl (ah rfl (bo rfl rfl (dO (c:=((i+1:Nat):Int)) (by omega) (wrap_i64 (by omega))) (aF fd.fD rfl rfl ?_)))))))
    refine ak ce.aW rfl rfl rfl (ah rfl (bg sl.aW [] rfl rfl (by omega) rfl rfl (bP ce.aQ rfl (ah rfl (bg sl.aQ 0 rfl rfl (by omega) rfl rfl (iU ag.Rat rfl (vs:=[_,_,_]) rfl (au rfl) (aF fd.dS rfl rfl ?_)))))))
    refine ak ce.aW rfl rfl rfl (ah rfl (bg sl.aW [] rfl rfl (by omega) rfl rfl (bP ce.aQ rfl (ah rfl (bo rfl rfl (dK (c:=(s:Int)) (by omega) (wrap_i64 (by omega))) (bg sl.aQ 0 rfl rfl (by omega) rfl rfl (iU ag.Rat rfl (vs:=[_,_,_]) rfl (au rfl) ?_)))))))
    refine aY rfl vL (OY (x:=(h.trans.getD j []).getD i 0) (y:=(h.emit.getD i []).getD s 0) (by omega) (by omega)) (bd z.aA pl.aA (cs:=[_,_,_,_,_,_,_,_]) rfl (WL (cs:=[_,_,_,_,_,_,_,_,_,_,_]) z.mD pl.mD (qA (by exact AX rfl) (qA (by exact AX rfl) (qA (by exact AX rfl) (qA (by exact evA rfl) (WJ))))) (by rfl) (tC (y:=iO (⟨j+1,s+1,i+1,(h.trans.getD j []).getD i 0*(h.emit.getD i []).getD s 0⟩:aT)) sl.cZ (ZE (x:=(⟨j+1,s+1,i+1,(h.trans.getD j []).getD i 0*(h.emit.getD i []).getD s 0⟩:aT))) rfl (by decide) ?_)))
    refine yG sl.cZ rfl rfl rfl (by rw[dF]) (VC.d _) (λy hy=>by rw[qm hy];rfl) (by simp only[nN];omega) (by simp only[nN];omega) (.inr rfl) (ys:=(jR h i++yC h i s++BL h i s (j+1+1)).map iO) (by rw[CW (k:=j+1),<- List.append_assoc];exact KP (l:=(jR h i++yC h i s++BL h i s (j+1))) (x:=(⟨j+1,s+1,i+1,(h.trans.getD j []).getD i 0*(h.emit.getD i []).getD s 0⟩:aT))) (n2:=(jR h i++yC h i s++BL h i s (j+1+1)).length) (by rw[CW (k:=j+1),<- List.append_assoc];exact GI (l:=(jR h i++yC h i s++BL h i s (j+1))) (x:=(⟨j+1,s+1,i+1,(h.trans.getD j []).getD i 0*(h.emit.getD i []).getD s 0⟩:aT)) (y:=iO (⟨j+1,s+1,i+1,(h.trans.getD j []).getD i 0*(h.emit.getD i []).getD s 0⟩:aT))) λbo8 bo9=>?_
    refine aF fd.lX rfl rfl (dA sz.cZ rfl rfl rfl rfl rfl (au rfl) (cells2:=[_,_,_,_,_,_,_]) rfl (OL.nil (AW.rg hE rfl (ah rfl (aB rfl rfl (by omega) (ay rfl (OL.nil ?_)))))))
    exact AW.again (x:=(j,r3,e3)) (j+1,bo8,bo9) (by (simp only[];omega)) ⟨by omega,Knows.app .Lj .bC,bn.app (.cons rfl (.cons rfl (.cons rfl (.cons rfl .nil)))) (.cons rfl (.cons rfl .nil))⟩
   .try simp only[bY] at aV7
    refine AW.exit ?_;obtain rfl:j=h.st:=by omega
    refine AW.rename 137 101 rfl ?_;refine AW.vC 8 [.d (dI 1),.mt,.d (dI h.sym),.d (dI ((i+1+1:Nat):Int)),.bJ 59 b59 (i+1+1) c59,.bJ 69 b69 (i+1+1) c69,.bJ 101 r3 (jR h i++yC h i s++BL h i s (h.st+1)).length e3] rfl (.cons vR (.cons vR (.cons vR (.cons vR (.cons aZ.bJ (.cons aZ.bJ (.cons aZ.bJ .nil))))))) ?_;refine AW.rg hE rfl (ah rfl (bo rfl rfl (dO (c:=((s+1+1:Nat):Int)) (by omega) (wrap_i64 (by omega))) (ay rfl (OL.nil ?_))))
    exact AW.again (x:=(s,q3,d3)) (s+1,r3,e3) (by (simp only[];omega)) ⟨by omega,Knows.app .y9 .bC,bn.app (.cons rfl (.cons rfl (.cons rfl (.cons rfl .nil)))) (.cons (by rw[GL,<- List.append_assoc];rfl) (.cons (by rw[GL,<- List.append_assoc];rfl) .nil))⟩
  .have hs:¬ s<h.sym:=by have:=kK hs;omega
   refine AW.exit ?_;obtain rfl:s=h.sym:=by omega
   refine AW.rg hE rfl (ah rfl (aB rfl rfl (by omega) (ay rfl (OL.nil ?_))))
   exact AW.again (x:=(i,p1,c1,p2,c2,p3,c3)) (i+1,b59,c59,b69,c69,q3,d3) (by (simp only[];omega)) ⟨by omega,Knows.app .CZ .bC,bn.app (.cons rfl (.cons rfl .nil)) (.cons (by rw[GN];rfl) (.cons rfl (.cons rfl (.cons (by rw[GN];rfl) .nil))))⟩
 .try simp only[bY] at h48
  refine AW.exit (AW.seq ?_);obtain rfl:i=h.st:=by omega
  refine AW.freeze 59 rfl (AW.vC 8 [.d (dI 1),.d (.sl []),.d (dI h.sym),.d (dI ((h.st+1:Nat):Int)),.d (yE (kJ h).ini),.bJ 69 p2 (h.st+1) c2,.bJ 101 p3 (jR h h.st).length c3] rfl (.cons vR (.cons aZ.mt (.cons vR (.cons vR (.cons (dP (by rw[dF,List.length_take];omega) (by rw[List.take_of_length_le (by omega)])) .dR))))) ?_)
  refine AW.freeze 69 rfl (AW.vC 8 [.d (dI 1),.d (.sl []),.d (dI h.sym),.d (dI ((h.st+1:Nat):Int)),.d (yE (kJ h).ini),.d (yE (kJ h).fin),.bJ 101 p3 (jR h h.st).length c3] rfl (.cons vR (.cons vR (.cons vR (.cons vR (.cons vR (.cons (dP (by rw[dF,List.length_take];omega) (by rw[List.take_of_length_le (by omega)])) .bC)))))) ?_)
  refine AW.freeze 101 rfl (AW.vC 8 [.d (dI 1),.d (.sl []),.d (dI h.sym),.d (dI ((h.st+1:Nat):Int)),.d (yE (kJ h).ini),.d (yE (kJ h).fin),.d (oW (jR h h.st))] rfl (.cons vR (.cons vR (.cons vR (.cons vR (.cons vR (.cons vR (.cons (dP (dF ..).symm rfl) .nil))))))) ?_);refine AW.rg hE rfl (oq rfl (OL.nil (AW.seq (AW.sg hE rfl (ay rfl (OL.nil (AW.block ?_)))))));refine AW.own 12 162 T.mD 11 rfl rfl ?_;refine AW.aK (α:=Nat × Nat × Nat) [(2,_),(3,_),(8,_)] [(2,_),(8,_)] (λ(i,p,c)=>[(12,.bJ 162 p (JU ((jR h h.st).take i)).length c),(13,.d (dI i))]) (λ(i,p,c)=>[(162,.row p c T.mD 11 ((JU ((jR h h.st).take i)).map iO))]) (λ(i,p,c)=>i<=(jR h h.st).length) (λ(i,p,c)=>(jR h h.st).length-i) (0,0,0) (.cons (fG rfl) (.cons (Xr) (.cons (fG rfl) .nil))) (.cons (iJ rfl) (.cons (iJ rfl) .nil)) ⟨Nat.zero_le _,.dR,.cons rfl .nil⟩ ?_
  rintro⟨i,p,c⟩ h4
  have h4:i<=(jR h h.st).length:=h4;have hnl:=Zx (l:=(jR h h.st).take i);rw[List.length_take] at hnl;refine AW.seq (AW.sg hE rfl (ah rfl (aF fd.lX rfl rfl (ak ce.cZ rfl rfl rfl (eH sl.cZ rfl rfl (aN rfl rfl rfl (OL.nil ?_)))))));refine AW.cond rfl (λaV8=>?_) (λaV8=>?_)
  .try simp only[bY] at aV8
   refine AW.skip (AW.seq (AW.block (AW.seq ?_)));have hi:i<(jR h h.st).length:=by omega
   obtain⟨i9,hi9,s9,hs9,k9,hk9,ex9⟩:=O0 (getD_mem hi (default:aT));have zq9:sz ((jR h h.st).getD i default).q<=2097152:=by
    rw[ex9];have q1:=(FO fo k9).get hb1 i9;have q2:=(fo.zM i9).get hb1 s9;have q3:=jZ ((eY h k9).getD i9 0) (EN h i9 s9);show sz ((eY h k9).getD i9 0*EN h i9 s9)<=2097152
    unfold EN at q3 ⊢;omega
   refine AW.rg hE rfl (aF fd.lX rfl rfl (ak ce.cZ rfl rfl rfl (ah rfl (bg sl.cZ default rfl rfl (by omega) rfl rfl (faR fd.wz rfl rfl (faR fd.iP rfl rfl (iU ag.Rat rfl (vs:=[_,_,_]) rfl (au rfl) ?_)))))))
   refine aY rfl vL (Gl (x:=((jR h h.st).getD i default).q) (by omega)) (bU rfl rfl rfl (OL.nil (AW.cond rfl (λhz=>?_) (λhz=>?_))))
   .have hz:((jR h h.st).getD i default).q≠0:=λe=>by rw[I7.2 e] at hz;simp at hz
    have hts:JU ((jR h h.st).take (i+1))=(JU ((jR h h.st).take i))++[((jR h h.st).getD i default)]:=by rw[cu hi default,X5 hz]
    refine AW.rg hE rfl (fQ rfl (aF fd.lX rfl rfl (ak ce.cZ rfl rfl rfl (ah rfl (bg sl.cZ default rfl rfl (by omega) rfl rfl (iU ag.mD rfl (vs:=[_,_,_,_,_,_,_,_,_,_,_]) rfl (au rfl) (tC (y:=iO ((jR h h.st).getD i default)) sl.cZ tu rfl (by decide) ?_)))))))
    refine yG sl.cZ rfl rfl rfl (by rw[dF]) (VC.d _) (λy hy=>by rw[qm hy];rfl) (by simp only[nN];omega) (by simp only[nN];omega) (.inr rfl) (ys:=(JU ((jR h h.st).take (i+1))).map iO) (by rw[hts,List.map_append];rfl) (n2:=(JU ((jR h h.st).take (i+1))).length) (by rw[hts];exact GI (l:=(JU ((jR h h.st).take i))) (x:=((jR h h.st).getD i default)) (y:=iO ((jR h h.st).getD i default))) λbp0 c162=>?_
    refine uj rfl (OL.nil (AW.rg hE rfl (ah rfl (aB rfl rfl (by omega) (ay rfl (OL.nil ?_))))))
    exact AW.again (x:=(i,p,c)) (i+1,bp0,c162) (by (simp only[];omega)) ⟨by omega,Knows.app .wL (.cons (by rw[hts];exact aZ.refl _) .bC),bn.app (.cons rfl (.cons rfl .nil)) (.cons rfl .nil)⟩
   .have hz:((jR h h.st).getD i default).q=0:=I7.1 (by simpa using hz)
    have hts:JU ((jR h h.st).take (i+1))=(JU ((jR h h.st).take i)):=by rw[cu hi default,X6 hz]
    refine AW.skip (AW.rg hE rfl (ah rfl (aB rfl rfl (by omega) (ay rfl (OL.nil ?_)))))
    exact AW.again (x:=(i,p,c)) (i+1,p,c) (by (simp only[];omega)) ⟨by omega,Knows.app .wL (.cons (by rw[hts];exact aZ.refl _) .bC),bn.app (.cons rfl (.cons rfl .nil)) (.cons (by rw[hts];rfl) .nil)⟩
  .try simp only[bY] at aV8
   refine AW.exit (AW.seq ?_);obtain rfl:i=(jR h h.st).length:=by omega
   refine AW.freeze 162 rfl (AW.to [(12,.d (oW (kJ h).aX)),(2,_),(8,_)] [(2,_),(8,_)] (.cons (dP (dF ..).symm (by rw[List.take_length];rfl)) (by repeat (first|exact Knows.nil|refine Knows.cons (fG rfl) ?_))) (by repeat (first|exact bn.nil|refine bn.cons (iJ rfl) ?_)) ?_)
   refine AW.rg hE rfl (ah rfl (aF fd.lX rfl rfl (dA sz.cZ rfl rfl rfl rfl rfl (au rfl) (cells2:=[_,_,_,_,_,_,_]) rfl (OL.nil (AW.seq (AW.sg hE rfl (ah rfl ?_)))))));refine eH sl.cZ rfl rfl (iI rfl rfl (c:=false) (decide_eq_false (by omega)) (OL.nil (jD rfl ?_)))
   refine AW.skip (AW.sg hE rfl (aG ag.Auto rfl rfl (vs:=[_,_,_,_,_,_,_]) rfl (au rfl) (aY rfl vL (ag6 (a:=kJ h) (VX g) (VY g na nr) s1 (by show h.st+1<=64;omega)) (BN rfl (ex rfl rfl (ex rfl rfl (dA sz.Auto rfl rfl rfl rfl rfl (au rfl) (cells2:=[_,_,_,_,_,_,_]) rfl ?_)))))))
   refine OL.nil (AW.sg hE rfl (aG ag.Auto rfl rfl (vs:=[_,_,_,_,_,_,_]) rfl (au rfl) (dA sz.Auto rfl rfl rfl rfl rfl (au rfl) (cells2:=[_,_,_,_,_,_,_]) rfl (ay rfl (OL.nil ?_)))));exact AW.ret (aH.r ⟨_,.dD rfl rfl ag.Auto (au rfl) (.tmp rfl .nil),_,.cons (.ag (.cons (.le vR) (.cons (.le vR) (.cons (.le vR) (.cons (.le vR) (.cons (.le vR) (.cons (.le vR) (.cons (.le vR) .nil)))))))) (.cons (.le vR) .nil),rfl⟩)
