/-
  The law HmmPassesSilence walked (printed by mk2.py).
-/
import Derived.Test.YteiohkpjgcioaaaGreatDoorKMixA
import Derived.Test.YteiohkpjgcioaaaGreatDoorKHoO
set_option maxRecDepth 16000
set_option maxHeartbeats 6400000
set_option linter.unusedVariables false
set_option linter.unusedSimpArgs false
namespace Go.Proofs.YteiohkpjgcioaaaGreatDoor
open Go Go.AL
def WB (n:Nat):List Int:=(List.range n).map λi:Nat=>(i:Int)
theorem Pv {n i:Nat}(h:i<n):(WB n).getD i 0=(i:Int):=dM _ _ h
section
variable {L:List Int}{cs cy most:Int}
theorem ay2 (h:1<=most/\most<=4):(kQ L cs cy most).st<=most.toNat:=by
 have:=(zX (cs:=cs) (most:=most) ⟨h.1,by omega⟩).2.1
 show aJ cs most<=most.toNat
 omega
theorem aJ4:1<=(kQ L cs cy most).sym/\(kQ L cs cy most).sym<=3:=⟨(yg cy).1,(yg cy).2.1⟩
theorem Ri (h:1<=most/\most<=4):sz (kQ L cs cy most).empty<=9/\Small 9 (kQ L cs cy most).ini/\(∀ i,Small 9 ((kQ L cs cy most).trans.getD i []))/\Small 9 (kQ L cs cy most).stop/\∀ i,Small 9 ((kQ L cs cy most).emit.getD i []):=by
 have hm:=TW (L:=L) (cs:=cs) (cy:=cy) (most:=most) ⟨h.1,by omega⟩
 have s2:=(zX (cs:=cs) (most:=most) ⟨h.1,by omega⟩).2.1
 have hz:=rQ L (aJ cs most+1) 0 (by omega) (by omega)
 have out:∀ (l:List (List Rat)) (i:Nat),¬ i<l.length->l.getD i []=[]:=λl i hi=>vF (by omega)
 refine⟨Nat.le_trans (hz _ (getD_mem (by rw[jd];omega) _)) (by decide),λq hq=>Nat.le_trans (hz q (List.mem_of_mem_take hq)) (by decide),λi=>?_,λq hq=>?_,λi=>?_⟩
 .show Small 9 ((bf L (aJ cs most) (aO cy) (aJ cs most)).trans.getD i [])
  by_cases hi:i<aJ cs most
  .exact (hm.rowT i hi).2.2.1.mono (by omega)
  .rw[out _ _ (by rw[hm.lt];exact hi)];exact Small.nil
 .obtain⟨i,hi,rfl⟩:=BU hq 0;exact Nat.le_trans (hm.rowT i (by rw[<- hm.ls];exact hi)).2.2.2.2.1 (by omega)
 .show Small 9 ((bf L (aJ cs most) (aO cy) (aJ cs most)).emit.getD i [])
  by_cases hi:i<aJ cs most
  .exact (hm.UL i hi).2.2.1.mono (by decide)
  .rw[out _ _ (by rw[hm.le];exact hi)];exact Small.nil
theorem bd0 {n:Nat}(h:n<=4):O4 9 n<=1024:=Nat.le_trans (Aw h) (by decide)
theorem ay3 {z:List Int}(h:1<=most/\most<=4)(hn:1<=(bD (kQ L cs cy most)).length)(tl:z.length=(bD (kQ L cs cy most)).length)(tr:∀ i,i<(bD (kQ L cs cy most)).length->0<=z.getD i 0/\z.getD i 0<(bD (kQ L cs cy most)).length)(tt:∀ i j,i<(bD (kQ L cs cy most)).length->j<i->z.getD i 0=z.getD j 0->(kQ L cs cy most).emit.getD ((bD (kQ L cs cy most)).getD i 0) []=(kQ L cs cy most).emit.getD ((bD (kQ L cs cy most)).getD j 0) []) :
  (kW (kQ L cs cy most) (CY (kQ L cs cy most)) z).Good (O4 9 (kQ L cs cy most).st):=by
 obtain⟨f,sm,_⟩:=Wy (L:=L) (cs:=cs) (cy:=cy) (most:=most) ⟨h.1,by omega⟩
 obtain⟨z1,z2,z3,z4,z5⟩:=Ri (L:=L) (cs:=cs) (cy:=cy) h;exact af9 f sm (ZJ ⟨h.1,by omega⟩) z1 z2 z3 z4 z5 (by decide) (bd0 (Nat.le_trans (ay2 h) (by omega))) hn tl tr tt
end
structure bs1 (s:Nat) (a:Au) (f:List Int->Rat):Prop where
 nn:∀ w,0<=f w
 su:∀ k,bp1 f s k<=1
 sz:∀ w,w.length<=4->Go.AL.sz (f w)<=16010000
theorem jv.any {α:Type}{f:Nat}{args:List V}{M:Mem}{M':α->Mem}{res:α->V}{φ:α->Prop}(h:jv P f args M res M' φ):jv P f args M res M' (λ_=>True) :=
 ⟨h.1,λF w vals hS hv=>(h.2 F w vals hS hv).mono λe w' h=>by obtain⟨x,_,r⟩:=h;exact⟨x,trivial,r⟩⟩
section
variable {h:HM}{b B:Nat}
theorem IB (g:HM.jK b B h)(hb:b<=1048576):h.oh:=by
 have f:=g.form;have hB:B<=1048576:=Nat.le_trans f.bB hb;exact⟨f.qR,f.sZ,f.st0,f.st1,f.ini,f.trans,f.x9,f.stop,f.emit,λi hi=>by rw[f.AQ i hi,f.sil i];rfl,f.yJ,f.ties,f.tie,Nat.le_trans f.zE hB,f.zI.mono hB,f.zS.mono hB,λi=>(f.zT i).mono hB,λi=>(f.zM i).mono hB,g.pE,g.pI,g.pS,g.pT,g.pM⟩
theorem KW (g:HM.jK b B h):h.Me:=⟨g.sI,g.sT,λi hi _=>g.sM i hi⟩
theorem KX (g:HM.jK b B h):h.ql:=⟨λ_=>0,λi j _ _ si=>by rw[g.form.sil i] at si;cases si⟩
theorem KY (g:HM.jK b B h):h.PZ:=λi j hi hj _ _ e=>g.tied i j hi hj e
theorem JS (g:HM.jK b B h)(hb:b<=1048576):ai P F.je [uY h] (.d (dI 0)):=FV (IB g hb) (KW g) (KX g) (KY g)
theorem Px (g:HM.jK b B h)(hb:b<=1048576):ai P F.wZ [uY h] (.d (dI 0)):=En (IB g hb) (KW g) (KX g) (KY g)
end
theorem ah0:He FN []:=by
 refine⟨λk=>⟨λh=>(by cases h),λh=>?_⟩,λu i v e=>?_,Nat.zero_le _⟩
 .obtain⟨h1,h2⟩:=h;have h1:k<1:=h1;obtain rfl:k=0:=by omega
  cases h2
 .have h:=congrArg List.length e;rw[jT,List.length_cons,List.length_nil] at h;omega
theorem lt3 {m:Nat}{ops:Array Oper}{K:S->Prop}{s:S}{dst:Option Nat}{ty:Nat}{pos:String}{after:Array Edge}{r:List Oper}{t e sz dX:Nat}{x x2 x3:Operand}{y y2 y3:D}(hT:bI P t e sz dX)(hx:VD (s.ev x) y)(hx2:VD (s.ev x2) y2)(hx3:VD (s.ev x3) y3)(hs:y.cells.length=sz/\y2.cells.length=sz/\y3.cells.length=sz)(P9:sz<=4194304)(h:OL P m ops K r (s.put dst (.d (.sl [y,y2,y3])))):OL P m ops K (⟨dst,.buildSlice t 3 #[(0,x),(1,x2),(2,x3)],ty,pos,after,none⟩:: r) s:=OL.Qb (.WT (xs:=[y,y2,y3]) hT rfl rfl (by omega) (by omega) (λi p z hp hz=>by
 match i,hp,hz with
 | 0,hp,hz=>simp at hp hz;subst hp hz;exact hx
 | 1,hp,hz=>simp at hp hz;subst hp hz;exact hx2
 | 2,hp,hz=>simp at hp hz;subst hp hz;exact hx3
 | i+3,hp,hz=>simp at hp) (λz hz=>by simp at hz;rcases hz with rfl|rfl|rfl;exact hs.1;exact hs.2.1;exact hs.2.2)) h
theorem ay4:((1:Int):Rat) / ((8:Int):Rat)=1 / 8:=by decide +kernel
theorem ah1:sz (1 / 8)<=1:=by decide +kernel
theorem Py:(bT FN).aX.length<=64:=by decide +kernel
theorem Ym {h:HM}{B:Nat}(g:h.am6 B):ai P F.BZ [uY h] (.d (dB true)):=by
 have f:=g.form;have e1:=f.ini;have e2:=f.trans;have e3:=f.stop;have e4:=f.emit;have e5:=f.ties;have e6:=f.yJ;have s0:=f.qR;have s1:=f.sZ;have n0:=f.st0;have n1:=f.st1;have b1:=f.b1;have bB:=f.bB;refine ai.intro fn.BZ (by rfl) (by rfl) (au (by rfl)) λE hE=>(AW.sg hE rfl (iC rfl rfl λb1=>(ay rfl (OL.nil (AW.sg hE rfl (aG ag.aU rfl rfl (vs:=[_,_,_,_,_,_,_,_,_,_,_]) rfl (au rfl) (aY rfl .bC (Px (by assumption) (by decide)) ?_)))))))
 refine dm rfl rfl (c:=true) (by exact decide_eq_true (by omega)) (ah rfl (OL.yes rfl (aF fd.bZ rfl rfl (OL.yes rfl (ak ce.bools rfl rfl rfl (OL.yes rfl (aY rfl .dR (J8 (by omega)) ?_)))))))
 rw[f.silent,any_false λx hx=>by rw[(List.mem_replicate.1 hx).2];rfl]
 exact OL.yes rfl (nt rfl (iV rfl rfl (ay rfl (OL.nil (AW.ret (aH.r ⟨_,.tmp rfl .nil,.le vR⟩))))))
theorem TY {h:HM}{B:Nat}(g:h.Good B):ai P F.pK [uY h] (.d (dB true)):=by
 have f:=g.form;have e1:=f.ini;have e2:=f.trans;have e3:=f.stop;have e4:=f.emit;have e5:=f.ties;have e6:=f.yJ;have s0:=f.qR;have s1:=f.sZ;have n0:=f.st0;have n1:=f.st1;have hb1:=f.b1;have bB:=f.bB;refine ai.intro fn.pK (by rfl) (by rfl) (au (by rfl)) λE hE=>(AW.sg hE rfl (iC rfl rfl λb1=>(ay rfl (OL.nil (AW.seq (AW.sg hE rfl (aG ag.aU rfl rfl (vs:=[_,_,_,_,_,_,_,_,_,_,_]) rfl (au rfl) ?_)))))))
 refine aY rfl vL (JS g (by decide)) (bU rfl rfl (c:=false) (by exact eF (by omega)) (OL.nil (jD rfl ?_)))
 refine AW.skip (AW.seq (AW.sg hE rfl (ay rfl (OL.nil (AW.block (AW.aK (α:=Nat) [(1,_)] [(1,_)] (λi=>[(3,.d (dI i))]) (λi=>[]) (λi=>i<=h.st) (λi=>h.st-i) 0 (.cons (fG rfl) .nil) (.cons (iJ rfl) .nil) ⟨Nat.zero_le _,.bC,.nil⟩ ?_))))));intro i h1;refine AW.seq (AW.sg hE rfl (ah rfl (aF fd.bQ rfl rfl (ak ce.int rfl rfl rfl (aN rfl rfl rfl (OL.nil (AW.cond rfl (λh10=>?_) (λh10=>?_))))))))
 .try simp only[bY] at h10
  refine AW.skip (AW.seq (AW.block (AW.sg hE rfl (aF fd.bZ rfl rfl (ak ce.bools rfl rfl rfl (ah rfl (bg sl.bools false rfl rfl (by omega) rfl rfl ?_)))))))
  refine bP ce.bool rfl ?_;rw[f.sil i];refine OL.nil (jD rfl ?_);exact AW.skip (AW.rg hE rfl (ah rfl (aB rfl rfl (by omega) (ay rfl (OL.nil (AW.again (x:=i) (i+1) (by omega) ⟨by omega,Knows.app .bC .bC,bn.app (.cons rfl .nil) (.nil)⟩))))))
 .try simp only[bY] at h10
  exact AW.exit (AW.sg hE rfl (ay rfl (OL.nil (AW.ret (aH.r ⟨_,.tmp rfl .nil,.le vR⟩)))))
theorem WC {q:Rat}(hq:ai P F.uJ [.d (dI 1),.d (dI 2)] (.jM [vQ q,.d (dI 0)])):ai P F.qZ [] (vQ q):=by
 refine ai.intro fn.qZ (by rfl) (by rfl) (au (by rfl)) λE hE=>(AW.sg hE rfl (al z.Rat rfl λb0=>(OL.nil (AW.sg hE rfl (aY rfl vL (hq) (BN rfl (ex rfl rfl ?_)))))))
 refine ex rfl rfl (al z.Rat rfl λb1=>(dA sz.Rat rfl rfl rfl rfl rfl (au rfl) (cells2:=[_,_,_]) rfl (ay rfl (OL.nil (AW.sg hE rfl (aG ag.Rat rfl rfl (vs:=[_,_,_]) rfl (au rfl) (dA sz.Rat rfl rfl rfl rfl rfl (au rfl) (cells2:=[_,_,_]) rfl ?_)))))));exact OL.nil (AW.ret (aH.r ⟨_,.dD rfl rfl ag.Rat (au rfl) .nil,.ag (.cons (.le vR) (.cons (.le vR) (.cons (.le vR) .nil)))⟩))
theorem WE {q o:Rat}(hq:ai P F.qZ [] (vQ q))(ho:ai P F.pO [.d (dI 1)] (vQ o)):ai P F.qY [] (uY ⟨1,1,0,[o],[[q]],[q],[[o]],[false],[0]⟩):=by
 refine ai.intro fn.qY (by rfl) (by rfl) (au (by rfl)) λE hE=>?_
 refine AW.sg hE rfl ?_;refine al z.aU rfl λb0=>?_;refine OL.nil ?_;refine AW.sg hE rfl ?_;refine aY rfl vL (ho) ?_;refine tC (y:=dQ _) sl.aQ Dp rfl (by decide) ?_
 refine aY rfl (.nil) (hq) (tC (y:=dQ _) sl.aQ Dp rfl (by decide) (tC sl.aW (VC.d _).vd rfl (by decide) (aY rfl (.nil) (hq) (tC (y:=dQ _) sl.aQ Dp rfl (by decide) (aY rfl vL (ho) (tC (y:=dQ _) sl.aQ Dp rfl (by decide) (tC sl.aW (VC.d _).vd rfl (by decide) ?_)))))))
 refine tC sl.bools (VC.d _).vd rfl (by decide) (tC sl.ints (VC.d _).vd rfl (by decide) ?_)
 refine WL (cs:=[_,_,_,_,_,_,_,_,_,_,_]) z.aU pl.aU (qA (by exact AX rfl) (qA (by exact AX rfl) (qA (by exact AX rfl) (qA (by exact AX rfl) (qA (by exact AX rfl) (qA (by exact AX rfl) (qA (by exact AX rfl) (qA (by exact AX rfl) (WJ))))))))) (by rfl) ?_
 refine dA sz.aU rfl rfl rfl rfl rfl (au rfl) (cells2:=[_,_,_,_,_,_,_,_,_,_,_]) rfl (OL.nil ?_);exact AW.ret (aH.r ⟨_,.dD rfl rfl ag.aU (au rfl) .nil,.ag (.cons (.le vR) (.cons (.le vR) (.cons (.le (aI (by show _=V.d (dB (eU 0).neg);rw[qp]))) (.cons (.le (by show aZ _ (.d (aC (eU 0).num));rw[qp];exact aZ.mt)) (.cons (.le (by show aZ _ (.d (aC (eU 0).den));rw[qp];exact aZ.mt)) (.cons (.le vR) (.cons (.le vR) (.cons (.le vR) (.cons (.le vR) (.cons (.le vR) (.cons (.le vR) .nil)))))))))))⟩)
theorem qZ:ai P F.qZ [] (vQ (1 / 2)):=WC ax2
theorem qY:ai P F.qY [] (uY FN):=WE qZ Ep
theorem Ua {a:Au}{h:HM}{p:Rat}(hc:ai P F.qY [] (uY h))(ha:ai P F.jU [uY h] (.jM [Gx a,.d (dI 0)]))(hw:ai P F.rW [Gx a,.d (ints [1,1,1])] (.jM [vW p,.d (dI 0)]))(hx:ai P F.uJ [.d (dI 1),.d (dI 8)] (.jM [vQ p,.d (dI 0)]))(hp:ai P F.BZ [uY h] (.d (dB true)))(zp:sz p<=68719476736):ai P F.pJ [] (.d (dB true)):=by
 refine ai.intro fn.pJ (by rfl) (by rfl) (au (by rfl)) λE hE=>(AW.sg hE rfl (ay rfl (OL.nil (AW.sg hE rfl (aY rfl (.nil) (hc) (aY rfl vL (ha) (BN rfl ?_)))))))
 refine ex rfl rfl (ex rfl rfl (al z.Auto rfl λb1=>(dA sz.Auto rfl rfl rfl rfl rfl (au rfl) (cells2:=[_,_,_,_,_,_,_]) rfl (ay rfl (OL.nil (AW.sg hE rfl (aG ag.Auto rfl rfl (vs:=[_,_,_,_,_,_,_]) rfl (au rfl) ?_)))))));refine lt3 (y:=dI 1) (y2:=dI 1) (y3:=dI 1) sl.ints (VC.d _).vd (VC.d _).vd (VC.d _).vd ⟨rfl,rfl,rfl⟩ (by decide) (aY rfl vL (hw) (BN rfl (ex rfl rfl (ex rfl rfl (al z.aA rfl λb3=>(dA sz.aA rfl rfl rfl rfl rfl (au rfl) (cells2:=[_,_,_,_,_,_,_,_]) rfl (ay rfl ?_)))))))
 refine OL.nil (AW.sg hE rfl (aY rfl vL (hx) (BN rfl (ex rfl rfl (ex rfl rfl (al z.Rat rfl λb5=>(dA sz.Rat rfl rfl rfl rfl rfl (au rfl) (cells2:=[_,_,_]) rfl ?_)))))));refine ay rfl (OL.nil (AW.sg hE rfl (ah rfl (dm rfl rfl (c:=true) (by exact decide_eq_true (by omega)) (ah rfl (OL.yes rfl (ah rfl ?_)))))))
 refine OL.yes rfl (dm rfl rfl (c:=true) (by exact decide_eq_true (by omega)) (iV rfl rfl (ah rfl (OL.yes rfl (aF fd.iP rfl rfl (OL.yes rfl (aG ag.Rat rfl rfl (vs:=[_,_,_]) rfl (au rfl) ?_)))))))
 refine OL.yes rfl (aG ag.Rat rfl rfl (vs:=[_,_,_]) rfl (au rfl) (OL.yes rfl (aY rfl vL (sJ (x:=p) (y:=p) zp zp) ?_)));rw[show NE p p=0 from yO.2 rfl]
 refine OL.yes rfl (dm rfl rfl (c:=true) (by exact decide_eq_true (by omega)) (iV rfl rfl (ah rfl (OL.yes rfl (aY rfl (.nil) (hc) (OL.yes rfl (aY rfl vL (hp) ?_)))))))
 exact iV rfl rfl (ay rfl (OL.nil (AW.ret (aH.r ⟨_,.tmp rfl .nil,.le vR⟩))))
theorem pJ:ai P F.pJ [] (.d (dB true)):=by
 have h8:=Cj (n:=1) (d:=8) (by decide) (by decide) (by decide)
 rw[ay4] at h8;have hw:=at7 (h:=FN) (C:=2) jQ Py (w:=PX 3) (aG8 3) (by decide) (by decide) (by decide) λk hk t j ht=>by
  rw[ae2 (by rw[OM] at hk;exact hk)] at ht ⊢
  exact Nat.le_trans (ae6 (by rw[OM] at hk;exact hk) ht) (by decide)
 rw[ae4] at hw;exact Ua qY (OU (h0:=FN) (h:=FN) (Px jQ (by decide)) (jv.any (ax1 (h:=FN) (O:=[]) (B:=1) (IB jQ (by decide)) (KW jQ) (KX jQ) (KY jQ) ah0 jQ.form.zE jQ.form.zI jQ.form.zT jQ.form.zS jQ.form.zM (by decide) (by decide) (by decide))) rfl jQ Py) hw h8 (Ym jQ) (Nat.le_trans ah1 (by decide))
def wK (l:List Int)(sym most:Nat):List Int:=(l.take most).map λv=>1+within v sym
theorem Rj (l:List Int)(sym most:Nat):(wK l sym most).length<=most:=by simp[wK];omega
theorem ay5 {h:HM}{l:List Int}{most:Nat}(hs:1<=h.sym)(hm:most<=256):J9 h (wK l h.sym most):=by
 refine⟨Nat.le_trans (Rj ..) hm,λx hx=>?_⟩;obtain⟨v,_,rfl⟩:=Az hx;have:=mJ (v:=v) (m:=(h.sym:Int)) (by omega)
 omega
theorem qW {l:List Int}{sym most:Nat}(hs:1<=sym/\sym<=1000)(hm:most<=1000):ai P F.qW [.d (ints l),.d (dI sym),.d (dI most)] (.d (ints (wK l sym most))):=by
 refine ai.intro fn.qW (by rfl) (by rfl) (au (by rfl)) λE hE=>(AW.sg hE rfl (oq rfl (OL.nil (AW.sg hE rfl (oq rfl (OL.nil (AW.seq ?_)))))))
 refine AW.sg hE rfl (ay rfl (OL.nil (AW.own 7 29 T.int 1 rfl rfl (AW.block ?_))));refine AW.aK (α:=Nat × Nat × Nat) [(0,_),(1,_),(2,_),(6,_)] [] (λ(i,b,c)=>[(7,.bJ 29 b i c),(8,.d (dI i))]) (λ(i,b,c)=>[(29,.row b c T.int 1 ((wK l sym i).map dI))]) (λ(i,b,c)=>i<=l.length/\i<=most) (λ(i,b,c)=>most-i) (0,0,0) (.cons (bM rfl) (.cons (bM rfl) (.cons (bM rfl) (.cons (zi rfl) .nil)))) .nil ⟨⟨Nat.zero_le _,Nat.zero_le _⟩,.dR,.cons rfl .nil⟩ ?_
 rintro⟨i,b,c⟩ ⟨h1,h2⟩
 have h1:i<=l.length:=h1;have h2:i<=most:=h2;have hcl:(wK l sym i).length=i:=by simp[wK];omega
 refine AW.seq (AW.sg hE rfl (ah rfl (ah rfl (eH sl.ints rfl rfl (aN rfl rfl rfl (ah rfl (OL.split 13 rfl (λg13=>?_) (λg13=>?_))))))))
 .try simp only[bY] at g13
  refine OL.yes rfl (ah rfl (OL.yes rfl (ah rfl (OL.yes rfl (aN rfl rfl rfl (iV rfl rfl (OL.nil ?_)))))));refine AW.cond rfl (λhc=>?_) (λhc=>?_)
  .try simp only[bY] at hc
   refine AW.skip (AW.seq (AW.block (AW.rg hE rfl (fQ rfl (ah rfl (ah rfl (bg sl.ints 0 rfl rfl (by omega) rfl rfl ?_)))))))
   refine bP ce.int rfl (ah rfl (aY rfl vL (jw (by omega)) ?_))
   have hwr:=mJ (v:=l.getD i 0) (m:=(sym:Int)) (by omega)
   refine aB rfl rfl (by omega) (tC sl.ints (VC.d _).vd rfl (by decide) ?_)
   refine yG sl.ints rfl rfl rfl (by rw[dF,hcl]) (VC.d _) (by simp[D.cells]) (by simp;omega) (by simp;omega) (.inr rfl) (ys:=(wK l sym (i+1)).map dI) (by unfold wK;rw[cu (by omega) 0,List.map_append,List.map_append];rfl) (n2:=i+1) (by simp) λb2 c2=>?_
   exact uj rfl (OL.nil (AW.rg hE rfl (ah rfl (aB rfl rfl (by omega) (ay rfl (OL.nil (AW.again (x:=(i,b,c)) (i+1,b2,c2) (by (simp only[];omega)) ⟨⟨by omega,by omega⟩,Knows.app .CZ .dR,.cons rfl .nil⟩)))))))
  .try simp only[bY] at hc
   refine AW.exit (AW.seq ?_);have he:wK l sym i=wK l sym most:=by unfold wK;rcases Nat.lt_or_ge i l.length with h|h;(obtain rfl:i=most:=(by omega));rfl;rw[List.take_of_length_le (by omega),List.take_of_length_le (by omega)]
   refine AW.freeze 29 rfl (AW.to [(7,.d (ints (wK l sym most)))] [] (.cons (dP (by rw[dF,hcl]) (by rw[he])) .nil) .nil ?_)
   exact AW.rg hE rfl (ah rfl (ay rfl (OL.nil (AW.ret (aH.r ⟨_,.tmp rfl .nil,.le vR⟩)))))
 .try simp only[bY] at g13
  refine OL.nd rfl (OL.nd rfl (OL.nd rfl (eG rfl rfl (OL.nil (jD rfl ?_)))));refine AW.exit (AW.seq ?_);have he:wK l sym i=wK l sym most:=by unfold wK;rcases Nat.lt_or_ge i l.length with h|h;(obtain rfl:i=most:=(by omega));rfl;rw[List.take_of_length_le (by omega),List.take_of_length_le (by omega)]
  refine AW.freeze 29 rfl (AW.to [(7,.d (ints (wK l sym most)))] [] (.cons (dP (by rw[dF,hcl]) (by rw[he])) .nil) .nil ?_)
  exact AW.rg hE rfl (ah rfl (ay rfl (OL.nil (AW.ret (aH.r ⟨_,.tmp rfl .nil,.le vR⟩)))))
theorem ah2 {h:HM}{B C:Nat}(g:HM.jK 1048576 B h)(na:(bT h).aX.length<=64){w:List Int}(hw:G6 h.sym w)(hl:w.length<=256)(hC:1<=C/\C<=100000000)(hB:B+B<=C)
  (hf:∀ k,k<=w.length->∀ t j,t<(w.take k).length->sz ((yw h (w.take k) t).getD j 0)<=C):ai P F.lu [Gx (fM (bT h)),.d (ints w)] (.jM [vW (BJ h w),.d (dI 0)]):=by
 have ok:=GH g;have nk:=Gz ok;have he:∀ s i j,sz (gV (bT h).aX s i j)<=C:=λs i j=>Nat.le_trans (Ir g s i j) hB;have z:=Em g na;have st:(bT h).st<=64:=by have:=g.form.st1;show h.st+1<=64;omega
 have zn:(fM (bT h)).Sz 134217728 64:=⟨z.ini,z.fin,λx hx=>Nat.le_trans (OX ok he hx) (by omega),Nat.le_trans (CS _) na⟩
 have zz:VI (fM (bT h)) w:=OV ok na hw hC (λk hk j=>Tn g hC.1 (λx hx=>hw x (List.mem_of_mem_take hx)) (hf k hk) j) he ((Ej g).mono (by omega)) st
 have e:G7 (fM (bT h)) w=BJ h w:=by rw[OJ];exact JH g hw
 have r:=KR (a:=fM (bT h)) (w:=w) ⟨nk,zn,g.form.sZ,st,zz⟩ hw hl;rw[e] at r;exact r
theorem ay6 {m:HM}{z:List Int}(f:m.oh)(td:m.PZ)(t:H7 m z):∀ i j,i<(bD m).length->j<i->z.getD i 0=z.getD j 0->m.emit.getD ((bD m).getD i 0) []=m.emit.getD ((bD m).getD j 0) []:=λi j hi hj e=>by
 have h:=t.2.2 i j hi hj e;obtain⟨ki,si⟩:=xW hi;obtain⟨kj,sj⟩:=xW (show j<(bD m).length by omega)
 have t1:=(f.tie _ ki).1;have t2:=(f.tie _ kj).1;unfold Iy at h;have ht:m.ties.getD ((bD m).getD i 0) 0=m.ties.getD ((bD m).getD j 0) 0:=by omega
 rcases Nat.lt_trichotomy ((bD m).getD i 0) ((bD m).getD j 0) with c|c|c
 .exact (td _ _ kj c sj si ht.symm).symm
 .rw[c]
 .exact td _ _ ki c si sj ht
theorem WG {m:HM}{a:Au}{q:Rat}{w L l:List Int}{cs cy:Int}(hc:ai P F.kM [.ag [.d (dI cs),.d (dI cy),.d (ints L)],.d (dI 4)] (uY m))(hwd:ai P F.qW [.d (ints l),.d (dI m.sym),.d (dI 4)] (.d (ints w)))(ha:ai P F.jU [uY m] (.jM [Gx a,.d (dI 0)]))(hx:ai P F.lu [Gx a,.d (ints w)] (.jM [vW q,.d (dI 0)]))(ah3:ai P F.je [uY m] (.d (dI 0)))(hem:ai P F.jV [uY m] (.jM [.ag [.d (dI 0),.d (dI 0),.d (dB false),.mt,.mt,.mt,.mt,.mt,.mt,.mt,.mt],.d (dI 1)])):ai P F.fZ [.ag [.d (dI cs),.d (dI cy),.d (ints L)],.d (ints l)] (.d (dB true)):=by
 refine ai.intro fn.fZ (by rfl) (by rfl) (au (by rfl)) λE hE=>(AW.sg hE rfl (iC rfl rfl λb2=>(ay rfl (OL.nil (AW.sg hE rfl (aG ag.Chain rfl rfl (vs:=[_,_,_]) rfl (au rfl) (aY rfl vL (hc) ?_)))))))
 refine al z.aU rfl λb5=>(dA sz.aU rfl rfl rfl rfl rfl (au rfl) (cells2:=[_,_,_,_,_,_,_,_,_,_,_]) rfl (OL.nil (AW.sg hE rfl (ah rfl (aF fd.jL rfl rfl (ak ce.int rfl rfl rfl (aY rfl vL (hwd) ?_)))))));refine ay rfl (OL.nil (AW.sg hE rfl (aG ag.aU rfl rfl (vs:=[_,_,_,_,_,_,_,_,_,_,_]) rfl (au rfl) (aY rfl vL (ha) (BN rfl (ex rfl rfl (ex rfl rfl ?_)))))));refine al z.Auto rfl λb7=>(dA sz.Auto rfl rfl rfl rfl rfl (au rfl) (cells2:=[_,_,_,_,_,_,_]) rfl (ay rfl (OL.nil (AW.sg hE rfl (aG ag.Auto rfl rfl (vs:=[_,_,_,_,_,_,_]) rfl (au rfl) (ah rfl (aY rfl vL (hx) ?_)))))));refine BN rfl (ex rfl rfl (ex rfl rfl (al z.aA rfl λb9=>(dA sz.aA rfl rfl rfl rfl rfl (au rfl) (cells2:=[_,_,_,_,_,_,_,_]) rfl (ay rfl (OL.nil (AW.sg hE rfl ?_)))))));refine aG ag.aU rfl rfl (vs:=[_,_,_,_,_,_,_,_,_,_,_]) rfl (au rfl) (aY rfl vL (hem) (BN rfl (ex rfl rfl (ex rfl rfl (al z.aU rfl λb11=>(dA sz.aU rfl rfl rfl rfl rfl (au rfl) (cells2:=[_,_,_,_,_,_,_,_,_,_,_]) rfl (ay rfl ?_)))))));refine OL.nil (AW.seq (AW.sg hE rfl (ah rfl (bU rfl rfl (c:=false) (by exact eF (by omega)) (ah rfl (OL.yes rfl (ah rfl ?_)))))))
 refine OL.yes rfl (bU rfl rfl (c:=false) (by exact eF (by omega)) (eG rfl rfl (ah rfl (OL.yes rfl (aG ag.aU rfl rfl (vs:=[_,_,_,_,_,_,_,_,_,_,_]) rfl (au rfl) (OL.yes rfl (aY rfl vL (ah3) ?_)))))))
 refine OL.yes rfl (bU rfl rfl (c:=false) (by exact eF (by omega)) (eG rfl rfl (OL.nil (jD rfl ?_))))
 refine AW.skip (AW.seq (AW.sg hE rfl (ah rfl (bU rfl rfl (c:=true) (by exact Eu (by omega)) (OL.nil (Hl rfl ?_))))))
 refine AW.sg hE rfl (aY rfl (.nil) (pJ) (ah rfl (OL.yes rfl (ah rfl (OL.yes rfl (dm rfl rfl (c:=true) (by exact decide_eq_true (by omega)) (iV rfl rfl ?_)))))))
 exact ay rfl (OL.nil (AW.ret (aH.r ⟨_,.tmp rfl .nil,.le vR⟩)))
theorem aJ5 {m:HM}{a:Au}{q:Rat}{w L l:List Int}{cs cy:Int}(hc:ai P F.kM [.ag [.d (dI cs),.d (dI cy),.d (ints L)],.d (dI 4)] (uY m))(hwd:ai P F.qW [.d (ints l),.d (dI m.sym),.d (dI 4)] (.d (ints w)))(ha:ai P F.jU [uY m] (.jM [Gx a,.d (dI 0)]))(hx:ai P F.lu [Gx a,.d (ints w)] (.jM [vW q,.d (dI 0)]))(ah3:ai P F.je [uY m] (.d (dI 0))){O:List Nat}(hem:jv P F.jV [uY m] jm (λz:List Int=>.jM [uY (kW m O z),.d (dI 0)]) (λ_=>jm) (λz=>H7 m z))(hz:∀ z,H7 m z->∃ b,ai P F.qw [uY (kW m O z)] (.jM [Gx b,.d (dI 0)])/\ai P F.lu [Gx b,.d (ints w)] (.jM [vW q,.d (dI 0)])/\ai P F.pK [uY (kW m O z)] (.d (dB true)))(zq:sz q<=68719476736):ai P F.fZ [.ag [.d (dI cs),.d (dI cy),.d (ints L)],.d (ints l)] (.d (dB true)):=by
 refine ai.intro fn.fZ (by rfl) (by rfl) (au (by rfl)) λE hE=>(AW.sg hE rfl (iC rfl rfl λb2=>(ay rfl (OL.nil (AW.sg hE rfl (aG ag.Chain rfl rfl (vs:=[_,_,_]) rfl (au rfl) (aY rfl vL (hc) ?_)))))))
 refine al z.aU rfl λb5=>(dA sz.aU rfl rfl rfl rfl rfl (au rfl) (cells2:=[_,_,_,_,_,_,_,_,_,_,_]) rfl (OL.nil (AW.sg hE rfl (ah rfl (aF fd.jL rfl rfl (ak ce.int rfl rfl rfl (aY rfl vL (hwd) ?_)))))));refine ay rfl (OL.nil (AW.sg hE rfl (aG ag.aU rfl rfl (vs:=[_,_,_,_,_,_,_,_,_,_,_]) rfl (au rfl) (aY rfl vL (ha) (BN rfl (ex rfl rfl (ex rfl rfl ?_)))))));refine al z.Auto rfl λb7=>(dA sz.Auto rfl rfl rfl rfl rfl (au rfl) (cells2:=[_,_,_,_,_,_,_]) rfl (ay rfl (OL.nil (AW.sg hE rfl (aG ag.Auto rfl rfl (vs:=[_,_,_,_,_,_,_]) rfl (au rfl) (ah rfl (aY rfl vL (hx) ?_)))))));refine BN rfl (ex rfl rfl (ex rfl rfl (al z.aA rfl λb9=>(dA sz.aA rfl rfl rfl rfl rfl (au rfl) (cells2:=[_,_,_,_,_,_,_,_]) rfl (ay rfl (OL.nil (AW.seq ?_)))))));refine AW.oz (by rw[hE];rfl) (SK.dG (aG ag.aU rfl rfl (vs:=[_,_,_,_,_,_,_,_,_,_,_]) rfl (au rfl) (OL.nil ?_)))
 refine SK.G5 (SO.Ey (args':=[uY m]) (show 36<E.n by rw[hE];exact Nat.le_of_ble_eq_true (by rfl)) rfl .bC (Mc:=jm) (λ_ _ h=>by cases h) hem (λ_ _ _ h=>h) ?_)
 rintro zt hz9
 obtain⟨b,hb,hp,hpl⟩:=hz zt hz9;refine SK.dG (BN rfl (OL.nil ?_));refine SK.dG (ex rfl rfl (OL.nil ?_));refine SK.dG (ex rfl rfl (OL.nil ?_));refine SK.dG (al z.aU rfl λb11=>(OL.nil ?_));refine SK.dG (dA sz.aU rfl rfl rfl rfl rfl (au rfl) (cells2:=[_,_,_,_,_,_,_,_,_,_,_]) rfl (OL.nil ?_));refine SK.dG (ay rfl (OL.nil ?_));refine SK.nil (AW.seq (AW.sg hE rfl (ah rfl (bU rfl rfl (c:=false) (by exact eF (by omega)) (ah rfl (OL.yes rfl (ah rfl ?_)))))))
 refine OL.yes rfl (bU rfl rfl (c:=false) (by exact eF (by omega)) (eG rfl rfl (ah rfl (OL.yes rfl (aG ag.aU rfl rfl (vs:=[_,_,_,_,_,_,_,_,_,_,_]) rfl (au rfl) (OL.yes rfl (aY rfl vL (ah3) ?_)))))))
 refine OL.yes rfl (bU rfl rfl (c:=false) (by exact eF (by omega)) (eG rfl rfl (OL.nil (jD rfl ?_))))
 refine AW.skip (AW.seq (AW.sg hE rfl (ah rfl (bU rfl rfl (c:=false) (by exact eF (by omega)) (OL.nil (jD rfl ?_))))))
 refine AW.skip (AW.sg hE rfl (aG ag.aU rfl rfl (vs:=[_,_,_,_,_,_,_,_,_,_,_]) rfl (au rfl) (aY rfl vL (hb) (BN rfl (ex rfl rfl (ex rfl rfl (al z.Auto rfl λb13=>?_)))))));refine dA sz.Auto rfl rfl rfl rfl rfl (au rfl) (cells2:=[_,_,_,_,_,_,_]) rfl (ay rfl (OL.nil (AW.sg hE rfl (aG ag.Auto rfl rfl (vs:=[_,_,_,_,_,_,_]) rfl (au rfl) (ah rfl (aY rfl vL (hp) (BN rfl ?_)))))));refine ex rfl rfl (ex rfl rfl (al z.aA rfl λb15=>(dA sz.aA rfl rfl rfl rfl rfl (au rfl) (cells2:=[_,_,_,_,_,_,_,_]) rfl (ay rfl (OL.nil (AW.sg hE rfl (aY rfl (.nil) (pJ) ?_)))))));refine ah rfl (OL.yes rfl (ah rfl (OL.yes rfl (dm rfl rfl (c:=true) (by exact decide_eq_true (by omega)) (iV rfl rfl (ah rfl (OL.yes rfl ?_)))))))
 refine ah rfl (OL.yes rfl (dm rfl rfl (c:=true) (by exact decide_eq_true (by omega)) (iV rfl rfl (ah rfl (OL.yes rfl (aG ag.aU rfl rfl (vs:=[_,_,_,_,_,_,_,_,_,_,_]) rfl (au rfl) (OL.yes rfl ?_)))))))
 refine aY rfl vL (hpl) (iV rfl rfl (ah rfl (OL.yes rfl (aF fd.iP rfl rfl (OL.yes rfl (aG ag.Rat rfl rfl (vs:=[_,_,_]) rfl (au rfl) (OL.yes rfl ?_)))))));refine aF fd.iP rfl rfl (OL.yes rfl (aG ag.Rat rfl rfl (vs:=[_,_,_]) rfl (au rfl) (OL.yes rfl (aY rfl vL (sJ (x:=q) (y:=q) zq zq) ?_))));rw[show NE q q=0 from yO.2 rfl]
 exact OL.yes rfl (dm rfl rfl (c:=true) (by exact decide_eq_true (by omega)) (iV rfl rfl (ay rfl (OL.nil (AW.ret (aH.r ⟨_,.tmp rfl .nil,.le vR⟩))))))
theorem FW {L l:List Int}{cs cy:Int}(nL:L.length<=9223372036854775807):ai P F.fZ [.ag [.d (dI cs),.d (dI cy),.d (ints L)],.d (ints l)] (.d (dB true)):=by
 have hc:=WA (L:=L) (cs:=cs) (cy:=cy) (most:=4) (by decide) nL
 have h4:(1:Int)<=4/\(4:Int)<=4:=by decide
 obtain⟨f,sm,td⟩:=Wy (L:=L) (cs:=cs) (cy:=cy) (most:=4) (by decide)
 obtain⟨z1,z2,z3,z4,z5⟩:=Ri (L:=L) (cs:=cs) (cy:=cy) h4;have rk:=Yl (L:=L) (cs:=cs) (cy:=cy) (most:=4) (by decide)
 have od:=ZJ (L:=L) (cs:=cs) (cy:=cy) (most:=4) (by decide)
 have st4:(kQ L cs cy 4).st<=4:=ay2 h4;have ms:=aJ4 (L:=L) (cs:=cs) (cy:=cy) (most:=4);have gd:=λz=>ay3 (L:=L) (cs:=cs) (cy:=cy) (z:=z) h4;generalize kQ L cs cy 4=m at *;have hv:=En f sm rk td;have ah3:=FV f sm rk td;have hwd:=qW (l:=l) (sym:=m.sym) (most:=4) ⟨ms.1,by omega⟩ (by decide)
 have wk:=ay5 (h:=m) (l:=l) (most:=4) ms.1 (by decide)
 have hl:(wK l m.sym 4).length<=4:=Rj ..;generalize wK l m.sym 4=w at *;have hw:G6 m.sym w:=λx hx=>wk.2 x hx;rcases Nat.eq_zero_or_pos (bD m).length with h0|hn
 .have hnil:bD m=[]:=KZ h0;have hem:=ax7 f sm rk td hnil;have zz:VI (fM (EF m.sym)) w:=OV (Wv ms.1) (Nat.zero_le _) hw (C:=1) (by decide) (λk _ j=>by
   rcases Nat.eq_zero_or_pos j with rfl|hj
   .rw[(Rf _).2];exact aJ3 _
   .rw[vF (by rw[(Rf _).1];exact hj),gJ];decide) (λs i j=>by show sz (gV [] s i j)<=1;rw[Ap,gJ];decide) (.one (by rw[Ig];decide)) (show 1<=64 by decide)
  have r:=KR (a:=EF m.sym) (w:=w) ⟨Wv ms.1,ax6,show m.sym<=32 by omega,show 1<=64 by decide,zz⟩ hw (by omega)
  exact WG hc hwd (P6 (h:=m) hv hem rfl) r ah3 hem
 .have hll:=MN (h:=m);have gE:(kW m (CY m) (WB (bD m).length)).Good (O4 9 m.st):=gd _ hn (by unfold WB;rw[dF,List.length_range]) (λi hi=>by rw[Pv hi];omega) (λi j hi hj e=>by rw[Pv hi,Pv (by omega)] at e;omega)
  have fE:=gE.form;have na:(bT (kW m (CY m) (WB (bD m).length))).aX.length<=64:=by
   have h1:=Zo (g:=kW m (CY m) (WB (bD m).length)) (k:=(bD m).length+1) (n:=4) (m:=3) (λj hj=>by rw[CV fE (show j<=(bD m).length by omega)];show (bD m).length<=4;omega) (λi=>by
    rcases Nat.lt_or_ge i (bD m).length with hi|hi
    .rw[fE.AQ i hi];exact ms.2
    .rw[vF (by rw[fE.emit];exact hi)];exact Nat.zero_le _)
   show (Md _ ((bD m).length+1)).length<=64
   have h2:=Nat.mul_le_mul_right (4*3) (show (bD m).length+1<=5 by omega)
   omega
  have t9:=bd0 st4;have hB:O4 9 m.st+O4 9 m.st<=4000000:=by omega
  have ha:=OU (h0:=m) (h:=kW m (CY m) (WB (bD m).length)) hv (jv.any (ax1 f sm rk td od z1 z2 z3 z4 z5 (by decide) (Nat.le_trans t9 (by decide)) hn)) rfl gE.w na
  have hx:=ah2 (C:=4000000) gE.w na (w:=w) hw (by omega) (by decide) hB λk hk t j ht=>(SB fE (w:=w.take k) ⟨show (bD m).length<=4 by omega,by rw[List.length_take];omega⟩ ht).get (by decide) j
  refine aJ5 hc hwd ha hx ah3 (ax1 f sm rk td od z1 z2 z3 z4 z5 (by decide) (Nat.le_trans t9 (by decide)) hn) (λz tz=>?_) (Nat.le_trans (aQ3 fE ⟨show (bD m).length<=4 by omega,by omega⟩) (by decide))
  have gz:(kW m (CY m) z).Good (O4 9 m.st):=gd z hn tz.1 tz.2.1 (ay6 f td tz);have fz:=gz.form;have na2:(bT (kW m (CY m) z)).aX.length<=64:=na;have nr:(kJ (kW m (CY m) z)).aX.length<=64:=by
   have h1:=ae9 (g:=kW m (CY m) z);have h2:(bD m).length*(m.sym*((bD m).length+1))<=4*(3*5):=Nat.mul_le_mul (by omega) (Nat.mul_le_mul ms.2 (by omega))
   exact Nat.le_trans h1 (Nat.le_trans h2 (by decide))
  have e:BJ (kW m (CY m) z) w=BJ (kW m (CY m) (WB (bD m).length)) w:=by
   rw[<- JH gz (show G6 (kW m (CY m) z).sym w from hw),<- JH gE (show G6 (kW m (CY m) (WB (bD m).length)).sym w from hw)]
   rfl
  have hp:=af4 (C:=4000000) gz.w na2 nr (w:=w) hw (by omega) (by decide) hB λk hk t j ht=>(SB fz (w:=w.take k) ⟨show (bD m).length<=4 by omega,by rw[List.length_take];omega⟩ ht).get (by decide) j
  rw[e] at hp;exact⟨_,TT gz.w (JS gz (by decide)) na2 nr,hp,TY gz⟩
