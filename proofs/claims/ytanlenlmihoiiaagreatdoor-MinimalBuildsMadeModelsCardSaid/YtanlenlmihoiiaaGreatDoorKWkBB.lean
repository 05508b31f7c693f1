/-
  Walks of package minimal, part 2: the suffixes (printed by mk2.py).
-/
import Derived.Test.YtanlenlmihoiiaaGreatDoorKWkBA
set_option linter.unusedVariables false
set_option linter.unusedSimpArgs false
namespace Go.Proofs.YtanlenlmihoiiaaGreatDoor
open Go Go.AL
noncomputable abbrev qK (t:bV)(w:List Int):D:=.ag [ints w,dJ (bF t w.reverse)]
theorem af6 {t:bV}{w:List Int}:VD (.ag [.d (ints w),.d (dJ (bF t w.reverse))]) (qK t w):=VD.ag (.cons (VC.d _) (.cons (VC.d _) .nil))
theorem aV5 {t:bV}{L:List (List Int)}{i:Nat}(hi:i<L.length):(L.map (qK t))[i]? = some (qK t (L.getD i [])):=by
 rw[List.getElem?_map,jh,lQ hi];rfl
def muL (n:Nat)(K Lv:List (List Int)):Nat:=2*(n-K.length)+(if Lv=[] then 0 else 1)
theorem aV6 {n k:Nat}{K kept Lv:List (List Int)}(h:Lv≠[])(hle:(K++kept).length<=n):muL n (K++kept) (gW k kept)<muL n K Lv:=by
 unfold muL;rw[if_neg h];rw[jd] at hle ⊢;cases kept with
 | nil =>
  have e:gW k []=[]:=by
   unfold gW;rw[List.flatMap_eq_nil_iff];exact λ_ _=>rfl
  rw[e,if_pos rfl,List.length_nil];omega
 | cons x r =>
  rw[List.length_cons] at hle ⊢
  split <;> omega
theorem Gs {k:Nat}{K:List (List Int)}:gW (k+1) K=gW k K++K.map λr=>((k+1:Nat):Int)::r:=by
 unfold gW;rw[List.range_succ,List.flatMap_append,List.flatMap_cons,List.flatMap_nil,List.append_nil]
theorem Qs {k:Nat}{K:List (List Int)}:(gW k K).length=k*K.length:=by
 induction k with
 | zero=>rw[Nat.zero_mul];rfl
 | succ k ih=>rw[Gs,jd,ih,dA,Nat.succ_mul]
theorem aV7 {k n B l i:Nat}{f:List Int->List Rat}{Lv kept K:List (List Int)}{rs:List bZ}(h:Gq k n B f l Lv i kept K rs)(hi:i<Lv.length):(Lv.getD i []).length<=n:=by
 have hm:Lv.getD i [] ∈ Lv:=getD_mem hi [];have h1:=h.s.sp.le;have h2:=h.s.len;cases hc:Lv.getD i [] with
 | nil=>exact Nat.zero_le _
 | cons s u =>
  have h3:=h.lv.tail _ hm s u hc;have h4:=pY h.s.ord (λu hu hne=>by
   cases u with
   | nil=>exact absurd rfl hne
   | cons s u=>exact⟨u,h.s.tail s u hu,rfl⟩) u h3
  rw[List.length_cons];omega
def TQ:Nat->Option Nat
 | 72=>some 0
 | 73=>some 1
 | 74=>some 2
 | 75=>some 3
 | 76=>some 4
 | 77=>some 5
 | 78=>some 6
 | 79=>some 7
 | 80=>some 8
 | 81=>some 9
 | 82=>some 10
 | 83=>some 11
 | 84=>some 12
 | 85=>some 13
 | _=>none
theorem kT {t i:Nat}(h:TQ t=some i):t=[72,73,74,75,76,77,78,79,80,81,82,83,84,85].getD i 0:=by
 unfold TQ at h
 split at h <;> first|(cases h;rfl)|cases h
noncomputable def bs5 (tm:bV)(R W2:List Int)(X:List (List Int))(z9:Int)(b16 bn cn:Nat)(t:Nat)(β:Nat->Nat × Nat):V :=
 match t with
 | 72=>.bI 85 bn X.length cn
 | 73=>.d (dI z9)
 | 74=>.bI 74 (β 74).1 1 1
 | 75=>.ptr 16 b16 0
 | 76=>.d (ints R)
 | 77=>.d (ints W2)
 | 78=>wZ tm
 | 79=>.ptr 16 b16 1
 | 80=>.d (dJ (bF tm R.reverse))
 | 81=>.d (dI z9)
 | 82=>.d (dJ (bF tm W2.reverse))
 | 83=>.ag [.d (ints W2),.d (dJ (bF tm W2.reverse))]
 | 84=>.d (.sl [qK tm W2])
 | 85=>.bI 85 (β 85).1 (X.length+1) (β 85).2
 | _=>.junk
noncomputable abbrev bs6 (tm:bV)(R W2:List Int)(X:List (List Int))(z9:Int)(b16 bn cn:Nat):List Nj:=[⟨85,13,λβ=>.row (β 85).1 (β 85).2 T.Row 2 (X.map (qK tm)++[qK tm W2])⟩,⟨74,5,λβ=>jL⟩,⟨74,2,λβ=>.row (β 74).1 1 T.int 1 [dI z9]⟩]
theorem bs7 {p:Nat->Prop}(h0:p 0)(h1:p 1)(h2:p 2)(h3:p 3)(h4:p 4)(h5:p 5)(h6:p 6)(h7:p 7)(h8:p 8)(h9:p 9)(h10:p 10)(h11:p 11)(h12:p 12)(h13:p 13):∀ i,i<14->p i:=λi hi=>by
 have:i=0 \/ i=1 \/ i=2 \/ i=3 \/ i=4 \/ i=5 \/ i=6 \/ i=7 \/ i=8 \/ i=9 \/ i=10 \/ i=11 \/ i=12 \/ i=13:=by omega
 rcases this with rfl|rfl|rfl|rfl|rfl|rfl|rfl|rfl|rfl|rfl|rfl|rfl|rfl|rfl <;> assumption
set_option maxRecDepth 8000 in
set_option maxHeartbeats 12800000 in
theorem ao1 {a:Au}{s:Nat}(t:Au.Take a s)(s1:1<=s)(s4:s<=4)(st4:a.st<=4):ai P F.sU [yV a] (.mM [.d (.sl ((FB (ah [a])).map ints)),.d (dI 0)]):=by
 obtain⟨ok,fl,z6,hn⟩:=JD t s4;have hst1:=t.st1;have hsz:aS [a]=a.st:=kG;have hk:(ah [a]).k=a.sym:=xE;have hs:a.sym=s:=t.fit.sym;have hT:Nu (aA (ah [a])):=C9 (iH ok) z6.turn;have n4:(ah [a]).n<=4:=by omega
 obtain⟨hl4,hl5,_⟩:=hT.len (show (aA (ah [a])).n<=6 from Nat.le_trans n4 (by decide))
 have hl4:(bL (aA (ah [a]))).length<=(ah [a]).n:=hl4;obtain⟨z9,hz9,_⟩:=hT.inv;have hsf:=Ee ok hz9;have htn:(aA (ah [a])).n=(ah [a]).n:=rfl;refine ai.intro fn.sU (by rfl) (by rfl) (ay (by rfl)) λE hE=>(AW.sg hE rfl (iO rfl rfl λb1=>(jK rfl (aF rfl (OL.nil (AW.seq (AW.sg hE rfl ?_)))))))
 refine aQ ag.Auto rfl rfl (vs:=[_,_,_,_,_,_,_]) rfl (ay rfl) (rF (y:=dAu a) sl.uI SE rfl (by decide) (bH rfl vL (Y5 (l:=[a]) (s:=s) (an1 t.fit) ⟨Nat.le_of_ble_eq_true rfl,Nat.le_of_ble_eq_true rfl⟩) (aF rfl (OL.nil (AW.sg hE rfl (aj rfl (eX rfl rfl (c:=false) (by exact kY (by omega)) ?_)))))))
 refine OL.nil (oH rfl ?_);refine AW.skip (AW.seq (AW.sO (by rw[hE];rfl) (SK.gV (aQ ag.Auto rfl rfl (vs:=[_,_,_,_,_,_,_]) rfl (ay rfl) (OL.nil ?_)))))
 refine SK.gV (rF (y:=dAu a) sl.uI SE rfl (by decide) (OL.nil ?_))
 refine SK.gV (bH rfl .dD (OfQ (l:=[a]) (by rw[show (([a]:List Au).getD 0 default).sym=s from t.fit.sym];exact an1 t.fit) ⟨Nat.le_of_ble_eq_true rfl,Nat.le_of_ble_eq_true rfl⟩ (by omega) (by omega)) (OL.nil ?_))
 refine SK.gV (bH rfl .dD (ae3 (m:=(ah [a])) fl (by omega) (by omega) (by omega)) (OL.nil ?_))
 refine SK.gV (bd z.Space pl.Space (cs:=[_,_,_]) rfl (OL.nil ?_));refine SK.gV (iO rfl rfl λb28=>OL.nil ?_);refine SK.gV (al z.Machine rfl λb5=>OL.nil ?_);refine SK.gV (fA sz.Machine rfl rfl rfl rfl rfl (ay rfl) (cells2:=[_,_,_]) rfl (OL.nil ?_));refine SK.gV (asP rfl (OL.nil ?_));refine SK.nil (AW.seq (AW.sO (by rw[hE];rfl) (SK.gV (aQ ag.Machine rfl rfl (vs:=[_,_,_]) rfl (ay rfl) (OL.nil ?_)))))
 refine SK.Hu (SO.Jo (args':=[wZ (aA (ah [a]))]) (show 30<E.n by rw[hE];exact Nat.le_of_ble_eq_true (by rfl)) rfl vL (Mc:=jH) (λ_ _ h=>by cases h) (aE1 (m:=(aA (ah [a]))) (iH ok) (DZ _) z6.turn (by omega)) (λ_ _ _ h=>h) ?_)
 rintro y1 hI1
 have hI1:gu (aA (aA (ah [a]))) 16777215 [] y1:=hI1;rw[hI1.bas];refine SK.gV (asF rfl (OL.nil ?_));refine SK.nil (AW.sg hE rfl (jK rfl (OL.nil (AW.seq (AW.own 8 58 T.ints 1 rfl rfl (AW.rg hE rfl (bC fd.Aa rfl rfl ?_)))))));refine aG ce.bg rfl rfl rfl (bd z.Row pl.Row (cs:=[_,_]) rfl (rF (y:=qK (aA (ah [a])) []) sl.Rows (VD.ag (.cons (by exact VC.mt) (.cons (VC.d _) .nil))) rfl (by decide) (aF rfl (OL.nil (AW.seq (AW.block (AW.rename 28 1000 rfl ?_)))))))
 refine AW.rf 1001 T.bg 1 rfl (AW.rf 1002 T.bg 1 rfl (AW.rf 1003 T.int 1 rfl (AW.oZ 1000 [.bI 1001 0 0 0,.bI 1002 0 0 0,.bI 1003 0 0 0] rfl (.cons jB (.cons jB (.cons jB .nil))) ?_)));refine AW.aY (α:=Nat × List (List Int) × List (List Int) × List bZ × NP × Nat × Nat) [(1,_),(2,_),(3,_),(5,_),(7,_)] [(1,_),(5,_)] (λ(l,Lv,K,rs,B,bw,cw)=>[(6,.ptr 1000 b28 0),(8,.bI 58 bw K.length cw),(9,.d (.sl (Lv.map (qK (aA (ah [a]))))))]) (λ(l,Lv,K,rs,B,bw,cw)=>[(1000,boxS b28 B rs),(1001,P6 B rs),(1002,zh B rs),(1003,rowP B rs),(58,.row bw cw T.ints 1 (K.map ints))]) (λ(l,Lv,K,rs,B,bw,cw)=>Ff (ah [a]).k (bL (aA (ah [a]))).length 16777215 (oL (ah [a])) l Lv K rs/\Lv.length<=64) (λ(l,Lv,K,rs,B,bw,cw)=>muL (bL (aA (ah [a]))).length K Lv) (0,[[]],[],[],default,0,0) (.cons (iw rfl) (.cons (xK rfl) (.cons (di rfl) (.cons (iw rfl) (.cons (KF rfl) .nil))))) (.cons (je rfl) (.cons (je rfl) .nil)) ⟨⟨Ff.start,Nat.le_of_ble_eq_true rfl⟩,.cons (bW.ptr) .iW,.cons rfl (.cons rfl (.cons rfl (.cons rfl (.cons rfl .nil))))⟩ ?_
 rintro⟨l,Lv,K,rs,B,bw,cw⟩ ⟨hO,hvl⟩
 have hO:Ff (ah [a]).k (bL (aA (ah [a]))).length 16777215 (oL (ah [a])) l Lv K rs:=hO;have hvl:Lv.length<=64:=hvl;have hKn:K.length<=(bL (aA (ah [a]))).length:=by have:=hO.s.sp.le;have:=hO.s.len;omega
 refine AW.seq (AW.sg hE rfl (aj rfl (fF sl.Rows rfl rfl (jI rfl rfl rfl (OL.nil (AW.cond rfl (λhv=>?_) (λhv=>?_)))))))
 .have hv:0<Lv.length:=by have:=lK hv;omega
  refine AW.skip (AW.block (AW.sg hE rfl (jK rfl (jK rfl (OL.nil (AW.seq (AW.seq ?_)))))));refine AW.own 10 53 T.Row 2 rfl rfl (AW.rg hE rfl (aj rfl (fF sl.Rows rfl rfl (aj rfl (OL.nil (AW.block ?_))))));refine AW.aY (α:=Nat × List (List Int) × List bZ × NP × Nat × Nat × Nat × Nat) [(1,_),(2,_),(3,_),(5,_),(6,_),(7,_),(9,_),(11,_),(38,_),(39,_)] [(1,_),(5,_)] (λ(i,kept,zD,B2,bk,ck,bw2,cw2)=>[(8,.bI 58 bw2 (K++kept).length cw2),(10,.bI 53 bk kept.length ck),(40,.d (dI i))]) (λ(i,kept,zD,B2,bk,ck,bw2,cw2)=>[(1000,boxS b28 B2 zD),(1001,P6 B2 zD),(1002,zh B2 zD),(1003,rowP B2 zD),(58,.row bw2 cw2 T.ints 1 ((K++kept).map ints)),(53,.row bk ck T.Row 2 (kept.map (qK (aA (ah [a])))))]) (λ(i,kept,zD,B2,bk,ck,bw2,cw2)=>Gq (ah [a]).k (bL (aA (ah [a]))).length 16777215 (oL (ah [a])) l Lv i kept (K++kept) zD/\i<=Lv.length) (λ(i,kept,zD,B2,bk,ck,bw2,cw2)=>Lv.length-i) (0,[],rs,B,0,0,bw,cw) (.cons (iw rfl) (.cons (xK rfl) (.cons (di rfl) (.cons (iw rfl) (.cons (iw rfl) (.cons (KF rfl) (.cons (di rfl) (.cons (xK rfl) (.cons (di rfl) (.cons (di rfl) .nil)))))))))) (.cons (je rfl) (.cons (je rfl) .nil)) ⟨⟨by rw[List.append_nil];exact hO.begin,Nat.zero_le _⟩,.cons (by rw[List.append_nil];exact bW.refl _) .iW,.cons rfl (.cons rfl (.cons rfl (.cons rfl (.cons (by rw[List.append_nil];rfl) (.cons rfl .nil)))))⟩ ?_
  rintro⟨i,kept,zD,B2,bk,ck,bw2,cw2⟩ ⟨hS,h3⟩
  have hS:Gq (ah [a]).k (bL (aA (ah [a]))).length 16777215 (oL (ah [a])) l Lv i kept (K++kept) zD:=hS;have h3:i<=Lv.length:=h3;have bs8:(K++kept).length<=(bL (aA (ah [a]))).length:=by have:=hS.s.sp.le;have:=hS.s.len;omega
  have hkn:kept.length<=(bL (aA (ah [a]))).length:=by rw[jd] at bs8;omega
  refine AW.sg hE rfl (bG rfl rfl rfl (OL.nil (AW.seq (AW.cond rfl (λh41=>?_) (λh41=>?_)))))
  .try simp only[fD] at h41
   refine AW.skip (AW.seq (AW.block (AW.seq ?_)));have hi:i<Lv.length:=by omega
   have hcl:=aV7 hS hi;have hfl:(oL (ah [a]) (Lv.getD i [])).length=(bL (aA (ah [a]))).length:=fU;have hcz:∀ j,sz ((oL (ah [a]) (Lv.getD i [])).getD j 0)<=16777215:=λj=>ug z6.turn (by rw[List.length_reverse];omega) hl5 j
   refine AW.rg hE rfl (dR sl.Rows [] rfl rfl hi rfl rfl (iD ag.Row rfl (vs:=[_,_]) rfl (ay rfl) (al z.Row rfl λb13=>(fA sz.Row rfl rfl rfl rfl rfl (ay rfl) (cells2:=[_,_]) rfl (OL.nil (AW.seq (AW.sO (by rw[hE];rfl) ?_)))))))
   refine SK.gV (Ym rfl (OL.nil ?_));refine SK.gV (QU rfl (OL.nil ?_));refine SK.gV (bC fd.Me rfl rfl (OL.nil ?_));refine SK.gV (aG ce.bg rfl rfl (v:=.d (dJ (bF (aA (ah [a])) (Lv.getD i []).reverse))) rfl (OL.nil ?_));refine SK.gV (bH rfl vL (UW (m:=(aA (ah [a]))) (L:=bL (aA (ah [a]))) (u:=(Lv.getD i []).reverse) (iH ok) z6.turn (by omega) (by rw[List.length_reverse];omega) (λl hl=>Nat.le_succ_of_le (hl5 l hl))) (OL.nil ?_))
   refine SK.Hu (SO.Jo (args':=[.ptr 1000 b28 0,.d (dJ (oL (ah [a]) (Lv.getD i [])))]) (show 49<E.n by rw[hE];exact Nat.le_of_ble_eq_true (by rfl)) rfl vL (Mc:=spM b28 B2 zD) (λid blk hk=>oh (l:=X7 b28 B2 zD) (.cons rfl (.cons rfl (.cons rfl (.cons rfl trivial)))) id blk hk) (be6 (b:=b28) (B:=B2) hS.s.sp hfl (by omega) hcz) (λx _ id hk=>P7 id hk) ?_)
   rintro B3 -
   refine SK.nil (AW.cond rfl (λhg=>?_) (λhg=>?_))
   .have hg:bM zD (oL (ah [a]) (Lv.getD i []))=true:=hg;rw[show uK zD (oL (ah [a]) (Lv.getD i []))=zD++[newR zD (oL (ah [a]) (Lv.getD i []))] from if_pos hg]
    refine AW.dg 2 [0,1,2,4,5,6,7,3,8,9,10] ak hE rfl (by kernel_rfl) (OI.aK (os:=[_,_,_,_,_,_,_,_,_,_,_]) rfl ?_)
    refine iU rfl (aQ ag.Row rfl rfl (vs:=[_,_]) rfl (ay rfl) (rF (y:=qK (aA (ah [a])) (Lv.getD i [])) sl.Rows af6 rfl (by decide) (iU rfl (bC fd.ab3 rfl rfl (aG ce.ints rfl rfl rfl (rF (y:=ints (Lv.getD i [])) sl.gB (VC.d _).vd rfl (by decide) ?_))))))
    refine xZ sl.Rows rfl rfl rfl (dA ..).symm (VC.d _) (λy hy=>by rw[jJ hy];rfl) (by simp only[iY];omega) (by simp only[iY];omega) (.inr rfl) (ys:=(kept++[(Lv.getD i [])]).map (qK (aA (ah [a])))) (by rw[List.map_append];rfl) (n2:=(kept++[(Lv.getD i [])]).length) (by rw[jd];rfl) λb53 c53=>?_
    refine xZ sl.gB rfl rfl rfl (dA ..).symm (VC.d _) (λy hy=>by rw[jJ hy];rfl) (by simp only[iY];omega) (by simp only[iY];omega) (.inr rfl) (ys:=((K++kept)++[(Lv.getD i [])]).map ints) (by rw[List.map_append (l₂:=[(Lv.getD i [])])];rfl) (n2:=((K++kept)++[(Lv.getD i [])]).length) (by rw[jd (bs:=[_])];rfl) λb58 c58=>?_
    refine pV rfl (pV rfl (OL.nil (AW.rg hE rfl (aI rfl rfl (by omega) (aj rfl (OL.nil ?_))))))
    exact AW.again (x:=(i,kept,zD,B2,bk,ck,bw2,cw2)) (i+1,kept++[(Lv.getD i [])],zD++[newR zD (oL (ah [a]) (Lv.getD i []))],B3,b53,c53,b58,c58) (by (simp only[];omega)) ⟨⟨by rw[<- List.append_assoc];exact hS.yes hi hfl (by decide) hcz hg,by omega⟩,Knows.app .Um (.cons (by rw[<- List.append_assoc];exact bW.refl _) .iW),dL.app (.cons rfl (.cons rfl .nil)) (.cons rfl (.cons rfl (.cons rfl (.cons rfl (.cons (by rw[<- List.append_assoc];rfl) (.cons rfl .nil))))))⟩
   .have hg:bM zD (oL (ah [a]) (Lv.getD i []))=false:=hg;rw[show uK zD (oL (ah [a]) (Lv.getD i []))=zD from if_neg (by rw[hg];exact Bool.false_ne_true)]
    refine AW.skip (AW.rg hE rfl (aI rfl rfl (by omega) (aj rfl (OL.nil ?_))))
    exact AW.again (x:=(i,kept,zD,B2,bk,ck,bw2,cw2)) (i+1,kept,zD,B3,bk,ck,bw2,cw2) (by (simp only[];omega)) ⟨⟨hS.no hi hfl hg,by omega⟩,Knows.app .Um .yU,dL.app (.cons rfl (.cons rfl .nil)) (.cons rfl (.cons rfl (.cons rfl (.cons rfl (.cons rfl (.cons rfl .nil))))))⟩
  .try simp only[fD] at h41
   refine AW.exit (AW.seq (AW.seq ?_));obtain rfl:i=Lv.length:=by omega
   have hO2:Ff (ah [a]).k (bL (aA (ah [a]))).length 16777215 (oL (ah [a])) (l+1) (gW a.sym kept) (K++kept) zD:=by
    have h9:=hS.done hsf;rw[show gW (ah [a]).k kept=gW a.sym kept by rw[hk]] at h9
    exact h9
   have bE2:(gW a.sym kept).length<=64:=by
    rw[Qs];have:=Nat.mul_le_mul (show a.sym<=4 by omega) (show kept.length<=4 by omega)
    omega
   refine AW.own 11 85 T.Row 2 rfl rfl (AW.rg hE rfl (aF rfl (OL.nil (AW.block ?_))));refine AW.aY (α:=Nat × Nat × Nat) [(1,_),(2,_),(3,_),(5,_),(6,_),(7,_),(8,_),(9,_),(10,_)] [(1,_),(5,_),(53,_),(58,_),(1000,_),(1001,_),(1002,_),(1003,_)] (λ(s9,bm,cm)=>[(11,.bI 85 bm (gW s9 kept).length cm),(14,.d (dI ((s9:Int)+1)))]) (λ(s9,bm,cm)=>[(85,.row bm cm T.Row 2 ((gW s9 kept).map (qK (aA (ah [a])))))]) (λ(s9,bm,cm)=>s9<=a.sym) (λ(s9,bm,cm)=>a.sym-s9) (0,0,0) (.cons (iw rfl) (.cons (xK rfl) (.cons (di rfl) (.cons (iw rfl) (.cons (iw rfl) (.cons (KF rfl) (.cons (zA rfl) (.cons (di rfl) (.cons (zA rfl) .nil))))))))) (.cons (je rfl) (.cons (je rfl) (.cons (qZ rfl) (.cons (qZ rfl) (.cons (je rfl) (.cons (qZ rfl) (.cons (qZ rfl) (.cons (qZ rfl) .nil)))))))) ⟨Nat.zero_le _,.cons vR (.cons (bW.int (by omega)) .nil),.cons rfl .nil⟩ ?_
   rintro⟨s9,bm,cm⟩ h4
   have h4:s9<=a.sym:=h4;refine AW.seq (AW.sg hE rfl (aj rfl (bC fd.lX rfl rfl (aG ce.int rfl rfl rfl (yM rfl rfl rfl (OL.nil (AW.cond rfl (λh63=>?_) (λh63=>?_))))))))
   .try simp only[fD] at h63
    refine AW.skip (AW.seq (AW.block (AW.seq ?_)));have hsk:s9<a.sym:=by omega
    have hlw:=Qs (k:=s9) (K:=kept);have hlm:=Nat.mul_le_mul (show s9<=4 by omega) (show kept.length<=4 by omega)
    refine AW.rg hE rfl (iU rfl (Vq sl.Rows rfl rfl (aj rfl (OL.nil (AW.block ?_)))));refine AW.aY (α:=Nat × Nat × Nat) [(1,_),(2,_),(3,_),(5,_),(6,_),(7,_),(8,_),(9,_),(10,_),(14,_),(66,_),(67,_)] [(1,_),(5,_),(53,_),(58,_),(1000,_),(1001,_),(1002,_),(1003,_)] (λ(i,bn,cn)=>[(11,.bI 85 bn (gW s9 kept++(kept.take i).map (λr=>((s9+1:Nat):Int)::r)).length cn),(68,.d (dI i))]) (λ(i,bn,cn)=>[(85,.row bn cn T.Row 2 ((gW s9 kept++(kept.take i).map (λr=>((s9+1:Nat):Int)::r)).map (qK (aA (ah [a])))))]) (λ(i,bn,cn)=>i<=kept.length) (λ(i,bn,cn)=>kept.length-i) (0,bm,cm) (.cons (iw rfl) (.cons (xK rfl) (.cons (di rfl) (.cons (iw rfl) (.cons (iw rfl) (.cons (KF rfl) (.cons (zA rfl) (.cons (di rfl) (.cons (zA rfl) (.cons (di rfl) (.cons (zA rfl) (.cons (di rfl) .nil)))))))))))) (.cons (je rfl) (.cons (je rfl) (.cons (qZ rfl) (.cons (qZ rfl) (.cons (je rfl) (.cons (qZ rfl) (.cons (qZ rfl) (.cons (qZ rfl) .nil)))))))) ⟨Nat.zero_le _,.cons (by rw[List.take_zero,List.map_nil,List.append_nil];exact bW.refl _) .dD,.cons (by rw[List.take_zero,List.map_nil,List.append_nil];rfl) .nil⟩ ?_
    rintro⟨i,bn,cn⟩ h5
    have h5:i<=kept.length:=h5;have hxl:(gW s9 kept++(kept.take i).map (λr=>((s9+1:Nat):Int)::r)).length=s9*kept.length+i:=by rw[jd,hlw,dA,List.length_take];omega
    refine AW.sg hE rfl (bG rfl rfl rfl (OL.nil (AW.seq (AW.cond rfl (λh69=>?_) (λh69=>?_)))))
    .try simp only[fD] at h69
     refine AW.skip (AW.seq (AW.block (AW.seq ?_)));have hi:i<kept.length:=by omega
     have hRm:=(hS.km (kept.getD i [])).1 (getD_mem hi []);have hRw:iV (ah [a]).k (kept.getD i []):=hS.s.vF _ hRm.1;have hR4:(kept.getD i []).length<(K++kept).length:=pY hS.s.ord (λu hu hne=>by
      cases u with
      | nil=>exact absurd rfl hne
      | cons s u=>exact⟨u,hS.s.tail s u hu,rfl⟩) _ hRm.1
     have hstep:ai P F.kN [wZ (aA (ah [a])),.d (dJ (bF (aA (ah [a])) (kept.getD i []).reverse)),.d (dI ((s9:Int)+1))] (.d (dJ (bF (aA (ah [a])) (((s9+1:Nat):Int)::(kept.getD i [])).reverse))):=by
      rw[List.reverse_cons,Qa];exact aC1 (v:=bF (aA (ah [a])) (kept.getD i []).reverse) (iH ok) (DZ _) z6.turn (jl (iH ok) _) (by rw[kX];omega) (jY z6.turn (by rw[List.length_reverse];omega))
     have htk:(kept.take (i+1)).map (λr=>((s9+1:Nat):Int)::r)=(kept.take i).map (λr=>((s9+1:Nat):Int)::r)++[(((s9+1:Nat):Int)::(kept.getD i []))]:=by rw[iL [] hi,List.map_append];rfl
     have hx1:(gW s9 kept++(kept.take (i+1)).map (λr=>((s9+1:Nat):Int)::r)).length=(gW s9 kept++(kept.take i).map (λr=>((s9+1:Nat):Int)::r)).length+1:=by rw[htk,<- List.append_assoc,jd (bs:=[_])];rfl
     have hx2:(gW s9 kept++(kept.take i).map (λr=>((s9+1:Nat):Int)::r)).map (qK (aA (ah [a])))++[qK (aA (ah [a])) (((s9+1:Nat):Int)::(kept.getD i []))]=(gW s9 kept++(kept.take (i+1)).map (λr=>((s9+1:Nat):Int)::r)).map (qK (aA (ah [a]))):=by rw[htk,<- List.append_assoc,List.map_append (l₂:=[_])];rfl
     refine AW.rg hE rfl (jv sl.Rows rfl rfl hi (Ht ag.Row (by decide) rfl rfl (aV5 hi) (vs:=[.d (ints (kept.getD i [])),.d (dJ (bF (aA (ah [a])) (kept.getD i []).reverse))]) rfl (ay rfl) (al z.Row rfl λb16=>(fA sz.Row rfl rfl rfl rfl rfl (ay rfl) (cells2:=[_,_]) rfl (OL.nil ?_)))))
     refine AW.sN (bs5 (aA (ah [a])) (kept.getD i []) (((s9+1:Nat):Int)::(kept.getD i [])) (gW s9 kept++(kept.take i).map (λr=>((s9+1:Nat):Int)::r)) ((s9:Int)+1) b16 bn cn) TQ (bs6 (aA (ah [a])) (kept.getD i []) (((s9+1:Nat):Int)::(kept.getD i [])) (gW s9 kept++(kept.take i).map (λr=>((s9+1:Nat):Int)::r)) ((s9:Int)+1) b16 bn cn) 14 ak (by rw[hE];rfl) (by rfl) (by kernel_rfl) (by kernel_rfl) ?_ ?_
     .refine bs7 ?_ ?_ ?_ ?_ ?_ ?_ ?_ ?_ ?_ ?_ ?_ ?_ ?_ ?_
      .exact λβ L c9=>⟨_,rfl,.inl (OG.aK (iU ((bT rfl).trans rfl) ⟨β,bY (d:=72) (i:=0) rfl (λt ht=>kT ht) (lt_size 15 c9.size rfl (by decide)) (aX (lt_size 15 c9.size rfl (by decide)) (by rfl))⟩))⟩
      .exact λβ L c9=>⟨_,rfl,.inl (OG.aK (aj (y:=dI ((s9:Int)+1)) ((bT rfl).trans rfl) ⟨β,bY (d:=73) (i:=1) rfl (λt ht=>kT ht) (lt_size 15 c9.size rfl (by decide)) (aX (lt_size 15 c9.size rfl (by decide)) (by rfl))⟩))⟩
      .exact λβ L c9=>⟨_,rfl,.inl (OG.aK (aN3 (y:=dI ((s9:Int)+1)) sl.ints (WZ (bK rfl (aU (j:=1) c9 (by kernel_rfl))) (VC.d _).vd) rfl (by decide) (gI (aB (show (74:Nat)≠85 by decide) (wB (by exact vg c9 (by kernel_rfl)) (wB (by exact c9.no) rfl)))) λb8=>⟨upd β 74 (b8,0),Dk (d:=74) (i:=2) (x:=(b8,0)) rfl (λt ht=>kT ht) (lt_size 15 c9.size rfl (by decide)) rfl (AY (lt_size 15 c9.size rfl (by decide)) (show (13:Nat)≠2 by decide) (.inl (show (85:Nat)≠74 by decide)) (by exact λ_=>rfl) (AY (lt_size 15 c9.size rfl (by decide)) (show (5:Nat)≠2 by decide) (.inr (vg c9 (by kernel_rfl))) (by exact λ_=>rfl) (rU (lt_size 15 c9.size rfl (by decide)) rfl rfl rfl c9.no (by rfl) (λy hy=>absurd hy List.not_mem_nil)))) (λt j ho hl=>by unfold TQ at ho;split at ho <;> cases ho <;> first|rfl|(rw[c9.no] at hl;cases hl)|exact qL c9 (by kernel_rfl) hl)⟩))⟩
      .exact λβ L c9=>⟨_,rfl,.inl (OG.aK (bC (b:=b16) (o:=0) (id:=16) fd.ab3 ((bT rfl).trans rfl) rfl ⟨β,bY (d:=75) (i:=3) rfl (λt ht=>kT ht) (lt_size 15 c9.size rfl (by decide)) (aX (lt_size 15 c9.size rfl (by decide)) (by rfl))⟩))⟩
      .exact λβ L c9=>⟨_,rfl,.inl (OG.aK (aG ce.ints (bK rfl (aU (j:=3) c9 (by kernel_rfl))) ((gI (aB (show (16:Nat)≠85 by decide) (aB (show (16:Nat)≠74 by decide) (aB (show (16:Nat)≠74 by decide) rfl)))):_=some (.box b16 T.Row [.d (ints (kept.getD i [])),.d (dJ (bF (aA (ah [a])) (kept.getD i []).reverse))])) (v:=.d (ints (kept.getD i []))) rfl ⟨β,bY (d:=76) (i:=4) rfl (λt ht=>kT ht) (lt_size 15 c9.size rfl (by decide)) (aX (lt_size 15 c9.size rfl (by decide)) (by rfl))⟩))⟩
      .exact λβ L c9=>⟨_,rfl,.inl (OG.aK (Yn sl.ints rfl (bK rfl (aU (j:=2) c9 (by kernel_rfl))) (gI (aB (show (74:Nat)≠85 by decide) (wB (by exact c9.no) (uS (aU (j:=2) c9 (by kernel_rfl)) rfl rfl)))) rfl (W9 (bK rfl (aU (j:=4) c9 (by kernel_rfl))) (VC.d _)) Qo (by rw[dA];omega) (by rw[dA];omega) (.inl (gI (aB (show (77:Nat)≠85 by decide) (aB (show (77:Nat)≠74 by decide) (aB (show (77:Nat)≠74 by decide) rfl))))) (ys:=(((s9+1:Nat):Int)::(kept.getD i [])).map dI) rfl ⟨upd β 77 (0,0),Dk (d:=77) (i:=5) (x:=(0,0)) rfl (λt ht=>kT ht) (lt_size 15 c9.size rfl (by decide)) rfl (Eq.trans (AY (lt_size 15 c9.size rfl (by decide)) (show (13:Nat)≠5 by decide) (.inl (show (85:Nat)≠74 by decide)) (by exact λ_=>rfl) (rU (lt_size 15 c9.size rfl (by decide)) rfl rfl rfl c9.no (by rfl) (List.forall_mem_cons.2 ⟨(λ_ hne=>absurd rfl hne),(λy hy=>absurd hy List.not_mem_nil)⟩))) (SV (by decide) (gI (aB (show (77:Nat)≠85 by decide) (aB (show (77:Nat)≠74 by decide) (aB (show (77:Nat)≠74 by decide) rfl))))).symm) (λt j ho hl=>by unfold TQ at ho;split at ho <;> cases ho <;> first|rfl|(rw[c9.no] at hl;cases hl)|exact qL c9 (by kernel_rfl) hl)⟩))⟩
      .exact λβ L c9=>⟨_,rfl,.inl (OG.aK (aQ ag.Machine ((bT rfl).trans rfl) ((gI (aB (show (5:Nat)≠85 by decide) (aB (show (5:Nat)≠74 by decide) (aB (show (5:Nat)≠74 by decide) rfl)))):_=some (.box b5 T.Machine [.d (dJ (aA (ah [a])).ini),.d (dJ (aA (ah [a])).fin),.d (.sl ((aA (ah [a])).jb.map qg))])) (vs:=[_,_,_]) rfl (ay rfl) ⟨β,bY (d:=78) (i:=6) rfl (λt ht=>kT ht) (lt_size 15 c9.size rfl (by decide)) (aX (lt_size 15 c9.size rfl (by decide)) (by rfl))⟩))⟩
      .exact λβ L c9=>⟨_,rfl,.inl (OG.aK (bC (b:=b16) (o:=0) (id:=16) fd.Me ((bT rfl).trans rfl) rfl ⟨β,bY (d:=79) (i:=7) rfl (λt ht=>kT ht) (lt_size 15 c9.size rfl (by decide)) (aX (lt_size 15 c9.size rfl (by decide)) (by rfl))⟩))⟩
      .exact λβ L c9=>⟨_,rfl,.inl (OG.aK (aG ce.bg (bK rfl (aU (j:=7) c9 (by kernel_rfl))) ((gI (aB (show (16:Nat)≠85 by decide) (aB (show (16:Nat)≠74 by decide) (aB (show (16:Nat)≠74 by decide) rfl)))):_=some (.box b16 T.Row [.d (ints (kept.getD i [])),.d (dJ (bF (aA (ah [a])) (kept.getD i []).reverse))])) (v:=.d (dJ (bF (aA (ah [a])) (kept.getD i []).reverse))) rfl ⟨β,bY (d:=80) (i:=8) rfl (λt ht=>kT ht) (lt_size 15 c9.size rfl (by decide)) (aX (lt_size 15 c9.size rfl (by decide)) (by rfl))⟩))⟩
      .exact λβ L c9=>⟨_,rfl,.inl (OG.aK (aj (y:=dI ((s9:Int)+1)) ((bT rfl).trans rfl) ⟨β,bY (d:=81) (i:=9) rfl (λt ht=>kT ht) (lt_size 15 c9.size rfl (by decide)) (aX (lt_size 15 c9.size rfl (by decide)) (by rfl))⟩))⟩
      .exact λβ L c9=>⟨_,rfl,.inl (OG.aK (bH rfl (.cons (au (bK rfl (aU (j:=6) c9 (by kernel_rfl)))) (.cons (au (bK rfl (aU (j:=8) c9 (by kernel_rfl)))) (.cons (au (bK rfl (aU (j:=9) c9 (by kernel_rfl)))) .nil))) hstep ⟨β,bY (d:=82) (i:=10) rfl (λt ht=>kT ht) (lt_size 15 c9.size rfl (by decide)) (aX (lt_size 15 c9.size rfl (by decide)) (by rfl))⟩))⟩
      .exact λβ L c9=>⟨_,rfl,.inl (OG.aK (L6 (cs:=[_,_]) z.Row pl.Row (lI (bK rfl (aU (j:=5) c9 (by kernel_rfl))) (lI (bK rfl (aU (j:=10) c9 (by kernel_rfl))) LZ)) (by rfl) ⟨β,bY (d:=83) (i:=11) rfl (λt ht=>kT ht) (lt_size 15 c9.size rfl (by decide)) (aX (lt_size 15 c9.size rfl (by decide)) (by rfl))⟩))⟩
      .exact λβ L c9=>⟨_,rfl,.inl (OG.aK (rF (y:=qK (aA (ah [a])) (((s9+1:Nat):Int)::(kept.getD i []))) sl.Rows (WZ (bK rfl (aU (j:=11) c9 (by kernel_rfl))) af6) rfl (by decide) ⟨β,bY (d:=84) (i:=12) rfl (λt ht=>kT ht) (lt_size 15 c9.size rfl (by decide)) (aX (lt_size 15 c9.size rfl (by decide)) (by rfl))⟩))⟩
      .exact λβ L c9=>⟨_,rfl,.inl (OG.aK (xZ sl.Rows rfl (bK rfl (aU (j:=0) c9 (by kernel_rfl))) ((gI (wB (by exact c9.no) (aB (show (85:Nat)≠74 by decide) (aB (show (85:Nat)≠74 by decide) rfl)))):_=some (.row bn cn T.Row 2 ((gW s9 kept++(kept.take i).map (λr=>((s9+1:Nat):Int)::r)).map (qK (aA (ah [a])))))) (dA ..).symm (W9 (bK rfl (aU (j:=12) c9 (by kernel_rfl))) (VC.d _)) (λy hy=>by rw[jJ hy];rfl) (by simp only[iY];omega) (by simp only[iY];omega) (.inr rfl) (ys:=(gW s9 kept++(kept.take i).map (λr=>((s9+1:Nat):Int)::r)).map (qK (aA (ah [a])))++[qK (aA (ah [a])) (((s9+1:Nat):Int)::(kept.getD i []))]) rfl (n2:=(gW s9 kept++(kept.take i).map (λr=>((s9+1:Nat):Int)::r)).length+1) rfl λb8 c8=>⟨upd β 85 (b8,c8),Dk (d:=85) (i:=13) (x:=(b8,c8)) rfl (λt ht=>kT ht) (lt_size 15 c9.size rfl (by decide)) rfl (Eq.trans (rU (lt_size 15 c9.size rfl (by decide)) rfl rfl rfl c9.no (by rfl) (List.forall_mem_cons.2 ⟨(by exact λ_ _=>rfl),(List.forall_mem_cons.2 ⟨(by exact λ_ _=>rfl),(λy hy=>absurd hy List.not_mem_nil)⟩)⟩)) (Gu _ _ _ _).symm) (λt j ho hl=>by unfold TQ at ho;split at ho <;> cases ho <;> first|rfl|(rw[c9.no] at hl;cases hl)|exact qL c9 (by kernel_rfl) hl)⟩))⟩
     refine λβ L c9 hA=>⟨_,rfl,.inl (OG.aK (pV (bK rfl (hA 13 (by decide))) ?_))⟩
     refine OL.nil ?_;refine AW.to ([(1,.ptr 1 b1 0),(2,.mt),(3,.d (dI 0)),(5,.ptr 5 b5 0),(6,.ptr 1000 b28 0),(7,.fn F.gy [.ref [Gj (aA (aA (ah [a]))) (bL (aA (ah [a])))]]),(8,.bI 58 bw2 (K++kept).length cw2),(9,.d (.sl (Lv.map (qK (aA (ah [a])))))),(10,.bI 53 bk kept.length ck),(14,.d (dI ((s9:Int)+1))),(66,.bI 53 bk kept.length ck),(67,.d (dI kept.length)),(68,.d (dI i))]++[(11,.bI 85 (β 85).1 (gW s9 kept++(kept.take (i+1)).map (λr=>((s9+1:Nat):Int)::r)).length (β 85).2)]) ([(1,.box b1 T.Auto [.d (dI 1),.d (.sl []),.d (dI a.sym),.d (dI a.st),.d (qG a.ini),.d (qG a.fin),.d (jW a.aN)]),(5,.box b5 T.Machine [.d (dJ (aA (ah [a])).ini),.d (dJ (aA (ah [a])).fin),.d (.sl ((aA (ah [a])).jb.map qg))]),(1000,boxS b28 B2 zD),(1001,P6 B2 zD),(1002,zh B2 zD),(1003,rowP B2 zD),(58,.row bw2 cw2 T.ints 1 ((K++kept).map ints)),(53,.row bk ck T.Row 2 (kept.map (qK (aA (ah [a])))))]++[(85,.row (β 85).1 (β 85).2 T.Row 2 ((gW s9 kept++(kept.take (i+1)).map (λr=>((s9+1:Nat):Int)::r)).map (qK (aA (ah [a])))))]) (Knows.app (.cons (au (nD (by decide) ((bT rfl).trans rfl))) (.cons (au (nD (by decide) ((bT rfl).trans rfl))) (.cons (au (nD (by decide) ((bT rfl).trans rfl))) (.cons (au (nD (by decide) ((bT rfl).trans rfl))) (.cons (au (nD (by decide) ((bT rfl).trans rfl))) (.cons (au (nD (by decide) ((bT rfl).trans rfl))) (.cons (au (nD (by decide) ((bT rfl).trans rfl))) (.cons (au (nD (by decide) ((bT rfl).trans rfl))) (.cons (au (nD (by decide) ((bT rfl).trans rfl))) (.cons (au (nD (by decide) ((bT rfl).trans rfl))) (.cons (au (nD (by decide) ((bT rfl).trans rfl))) (.cons (au (nD (by decide) ((bT rfl).trans rfl))) (.cons (au (nD (by decide) ((bT rfl).trans rfl))) (.nil)))))))))))))) (.cons (by rw[hx1];exact au VZ) .nil)) (dL.app (.cons (put_mem (gI (aB (show (1:Nat)≠85 by decide) (aB (show (1:Nat)≠74 by decide) (aB (show (1:Nat)≠74 by decide) rfl))))) (.cons (put_mem (gI (aB (show (5:Nat)≠85 by decide) (aB (show (5:Nat)≠74 by decide) (aB (show (5:Nat)≠74 by decide) rfl))))) (.cons (put_mem (gI (aB (show (1000:Nat)≠85 by decide) (aB (show (1000:Nat)≠74 by decide) (aB (show (1000:Nat)≠74 by decide) rfl))))) (.cons (put_mem (gI (aB (show (1001:Nat)≠85 by decide) (aB (show (1001:Nat)≠74 by decide) (aB (show (1001:Nat)≠74 by decide) rfl))))) (.cons (put_mem (gI (aB (show (1002:Nat)≠85 by decide) (aB (show (1002:Nat)≠74 by decide) (aB (show (1002:Nat)≠74 by decide) rfl))))) (.cons (put_mem (gI (aB (show (1003:Nat)≠85 by decide) (aB (show (1003:Nat)≠74 by decide) (aB (show (1003:Nat)≠74 by decide) rfl))))) (.cons (put_mem (gI (aB (show (58:Nat)≠85 by decide) (aB (show (58:Nat)≠74 by decide) (aB (show (58:Nat)≠74 by decide) rfl))))) (.cons (put_mem (gI (aB (show (53:Nat)≠85 by decide) (aB (show (53:Nat)≠74 by decide) (aB (show (53:Nat)≠74 by decide) rfl))))) (.nil))))))))) (.cons ((put_mem (gI (uS (hA 13 (by decide)) rfl rfl))).trans (by rw[hx2])) .nil)) ?_
     generalize (β 85).1=b3;generalize (β 85).2=c3;refine AW.rg hE rfl (aI rfl rfl (by omega) (aj rfl (OL.nil ?_)))
     exact AW.again (x:=(i,bn,cn)) (i+1,b3,c3) (by (simp only[];omega)) ⟨by omega,Knows.app .a99 .iW,dL.app (.cons rfl (.cons rfl (.cons rfl (.cons rfl (.cons rfl (.cons rfl (.cons rfl (.cons rfl .nil)))))))) (.cons rfl .nil)⟩
    .try simp only[fD] at h69
     refine AW.exit ?_;obtain rfl:i=kept.length:=by omega
     refine AW.rg hE rfl (aj rfl (aI rfl rfl (by omega) (aF rfl (OL.nil ?_))))
     exact AW.again (x:=(s9,bm,cm)) (s9+1,bn,cn) (by (simp only[];omega)) ⟨by omega,Knows.app .rq9 (.cons (by rw[Gs];exact au (by show V.bI 85 bn (gW s9 kept++(kept.take kept.length).map (λr=>((s9+1:Nat):Int)::r)).length cn=_;rw[List.take_length])) (.cons (bW.int (by omega)) .nil)),dL.app (.cons rfl (.cons rfl (.cons rfl (.cons rfl (.cons rfl (.cons rfl (.cons rfl (.cons rfl .nil)))))))) (.cons (by rw[Gs];show some (iF.row bn cn T.Row 2 ((gW s9 kept++(kept.take kept.length).map (λr=>((s9+1:Nat):Int)::r)).map (qK (aA (ah [a])))))=_;rw[List.take_length]) .nil)⟩
   .try simp only[fD] at h63
    refine AW.exit ?_;obtain rfl:s9=a.sym:=by omega
    refine AW.freeze 85 rfl (AW.to [(1,.ptr 1 b1 0),(2,.mt),(3,.d (dI 0)),(5,.ptr 5 b5 0),(6,.ptr 1000 b28 0),(7,.fn F.gy [.ref [Gj (aA (aA (ah [a]))) (bL (aA (ah [a])))]]),(8,.bI 58 bw2 (K++kept).length cw2),(11,.d (.sl ((gW a.sym kept).map (qK (aA (ah [a]))))))] [(1,.box b1 T.Auto [.d (dI 1),.d (.sl []),.d (dI a.sym),.d (dI a.st),.d (qG a.ini),.d (qG a.fin),.d (jW a.aN)]),(5,.box b5 T.Machine [.d (dJ (aA (ah [a])).ini),.d (dJ (aA (ah [a])).fin),.d (.sl ((aA (ah [a])).jb.map qg))]),(1000,boxS b28 B2 zD),(1001,P6 B2 zD),(1002,zh B2 zD),(1003,rowP B2 zD),(58,.row bw2 cw2 T.ints 1 ((K++kept).map ints))] (.cons vR (.cons vR (.cons vR (.cons vR (.cons vR (.cons vR (.cons vR (.cons (dP (dA ..).symm rfl) (.nil))))))))) (.cons rfl (.cons rfl (.cons rfl (.cons rfl (.cons rfl (.cons rfl (.cons rfl (.nil)))))))) ?_);refine AW.rg hE rfl (aj rfl (aF rfl (OL.nil ?_)));exact AW.again (x:=(l,Lv,K,rs,B,bw,cw)) (l+1,gW a.sym kept,(K++kept),zD,B2,bw2,cw2) (by exact aV6 (λe=>by rw[e] at hv;cases hv) bs8) ⟨⟨hO2,bE2⟩,Knows.app .Ky .yU,dL.app (.cons rfl (.cons rfl .nil)) (.cons rfl (.cons rfl (.cons rfl (.cons rfl (.cons rfl .nil)))))⟩
 .have hv:Lv.length=0:=by have:=nZ hv;omega
  obtain rfl:Lv=[]:=Hl hv;have hfin:FB (ah [a])=K:=NV (Ff.fin ok (by omega) hz9 hO)
  exact AW.exit (AW.sg hE rfl (iU rfl (pV rfl (aF rfl (OL.nil (AW.ret (aP.r ⟨_,.tmp rfl (.tmp rfl .nil),_,.cons (RO.all rfl rfl (dA ..).symm (by rw[hfin])) (.cons (.le vR) .nil),rfl⟩)))))))
