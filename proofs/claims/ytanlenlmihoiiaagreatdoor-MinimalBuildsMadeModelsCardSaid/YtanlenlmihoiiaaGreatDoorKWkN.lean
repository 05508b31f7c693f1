/-
  Walks of package rows, part 3: the search along words (printed by mk2.py).
-/
import Derived.Test.YtanlenlmihoiiaaGreatDoorKWkM
set_option linter.unusedVariables false
set_option linter.unusedSimpArgs false
namespace Go.Proofs.YtanlenlmihoiiaaGreatDoor
open Go Go.AL
structure KM (α:Type) where
 b0:α->iF
 b1:α->iF
 b2:α->iF
 b3:α->iF
 b4:α->iF
 b5:α->iF
 b6:α->iF
 b7:α->iF
abbrev kmL {α:Type}(k:KM α)(y:α):List (Nat × iF):=[(1000,k.b0 y),(1001,k.b1 y),(1002,k.b2 y),(1003,k.b3 y),(1004,k.b4 y),(1005,k.b5 y),(1006,k.b6 y),(1007,k.b7 y)]
def kmM {α:Type}(k:KM α)(y:α):Mem:=lk none ((kmL k y).map λp=>(p.1,some p.2))
theorem P9 {α:Type}{k:KM α}{y y2:α}(id:Nat)(h:kmM k y id=none):kmM k y2 id=none:=by
 unfold kmM at *;simp only[kmL,List.map_cons,List.map_nil,lk] at h ⊢
 repeat (split at h;· cases h)
 simp only[*,if_false]
theorem aC9 {m:bV}{w:List Int}:VD (ak9 m w) (y5 m w):=VD.ag (.cons (VC.d _) (.cons (VC.d _) .nil))
theorem Xc {U:List D}{d:D}{R:List D}{b e c:Nat}:some (iF.row b (U.length+(c+1)) e 2 (U++d::R))=some (iF.row b ((U++[d]).length+c) e 2 ((U++[d])++R)):=by
 rw[List.append_assoc,jd,show U.length + [d].length+c=U.length+(c+1) by rw[iY];omega];rfl
theorem be7 {U:List D}{d:D}{R:List D}:(U++d::R)[U.length]? = some d:=by
 rw[List.getElem?_append_right (Nat.le_refl _),Nat.sub_self];rfl
theorem Qa {m:bV}{w:List Int}{s:Nat}:bF m (w++[((s+1:Nat):Int)])=stepM m (bF m w) s:=by
 rw[mY,Int.toNat_natCast,Nat.add_sub_cancel]
theorem xU (s:Nat)(w:List Int):cu (s+1) w=cu s w++[w++[((s+1:Nat):Int)]]:=by
 unfold cu;rw[List.range_succ,List.map_append];rfl
theorem Aj (s:Nat)(w:List Int):(cu s w).length=s:=by simp[cu]
theorem SV {f:Nat->Option iF}{d e:Nat}{b:Option iF}(hne:e≠d)(h:f e=none):upd (upd f d b) e none=upd f d b:=am5 hne h
def qO (k:Nat)(o:Nat):Nat:=if k % 2=0 then o else 0
def qP (k:Nat)(U:List D):List D:=if k % 2=0 then U else []
theorem La {k:Nat}{U:List D}:(qP k U).length=qO k U.length:=by unfold qP qO;split <;> rfl
theorem aD0 {k:Nat}{U R:List D}:(if k % 2=0 then U++R else (U++R).drop U.length)=qP k U++R:=by
 unfold qP
 split
 .rfl
 .rw[List.drop_append_of_le_length (Nat.le_refl _),List.drop_length,List.nil_append]
def SX:Nat->Option Nat
 | 30=>some 0
 | 31=>some 1
 | 32=>some 2
 | 33=>some 3
 | 34=>some 4
 | 35=>some 5
 | 36=>some 6
 | 37=>some 7
 | 38=>some 8
 | 39=>some 9
 | 40=>some 10
 | 41=>some 11
 | 42=>some 12
 | 43=>some 13
 | 44=>some 14
 | _=>none
theorem jT {t i:Nat}(h:SX t=some i):t=[30,31,32,33,34,35,36,37,38,39,40,41,42,43,44].getD i 0:=by
 unfold SX at h
 split at h <;> first|(cases h;rfl)|cases h
noncomputable def bq1 (m:bV)(w:List Int)(U R:List D)(s b b5 n c:Nat)(t:Nat)(β:Nat->Nat × Nat):V :=
 match t with
 | 30=>.xu 44 b 2 U.length n c
 | 31=>.ptr 5 b5 0
 | 32=>.d (ints w)
 | 33=>.bI 33 (β 33).1 w.length (β 33).2
 | 34=>.d (dI ((s:Int)+1))
 | 35=>.d (.sl [dI ((s:Int)+1)])
 | 36=>.d (ints (w++[((s+1:Nat):Int)]))
 | 37=>wZ m
 | 38=>.ptr 5 b5 1
 | 39=>.d (dJ (bF m w))
 | 40=>.d (dI ((s:Int)+1))
 | 41=>.d (dJ (bF m (w++[((s+1:Nat):Int)])))
 | 42=>ak9 m (w++[((s+1:Nat):Int)])
 | 43=>.d (.sl [y5 m (w++[((s+1:Nat):Int)])])
 | 44=>.xu 44 (β 44).1 2 (qO (β 44).2 U.length) (n+1) ((β 44).2 / 2)
 | _=>.junk
noncomputable abbrev bq2 (m:bV)(w:List Int)(U R:List D)(s b b5 n c:Nat):List Nj:=[⟨44,14,λβ=>.row (β 44).1 (qO (β 44).2 U.length+(β 44).2 / 2) T.Row 2 (qP (β 44).2 U++(R++[y5 m (w++[((s+1:Nat):Int)])]))⟩,⟨33,6,λβ=>jL⟩,⟨33,3,λβ=>.row (β 33).1 (β 33).2 T.int 1 (w.map dI)⟩]
theorem bq3 {p:Nat->Prop}(h0:p 0)(h1:p 1)(h2:p 2)(h3:p 3)(h4:p 4)(h5:p 5)(h6:p 6)(h7:p 7)(h8:p 8)(h9:p 9)(h10:p 10)(h11:p 11)(h12:p 12)(h13:p 13)(CO:p 14):∀ i,i<15->p i:=λi hi=>by
 have:i=0 \/ i=1 \/ i=2 \/ i=3 \/ i=4 \/ i=5 \/ i=6 \/ i=7 \/ i=8 \/ i=9 \/ i=10 \/ i=11 \/ i=12 \/ i=13 \/ i=14:=by omega
 rcases this with rfl|rfl|rfl|rfl|rfl|rfl|rfl|rfl|rfl|rfl|rfl|rfl|rfl|rfl|rfl <;> assumption
set_option maxRecDepth 8000 in
set_option maxHeartbeats 6400000 in
theorem Xd {m:bV}{e:Nat}{α:Type}{k:KM α}{I:List (List Int)->α->Prop}{μ:List (List Int)->α->Nat}{f:Nat}{caps:List V}{y0:α}(ok:m.Ok)(fl:m.Full)(z6:m.Sz e)
  (hI:∀ Q y,I Q y->(∀ q,q ∈ Q->q.length<=6)/\Q.length<=μ Q y)
  (hf:∀ w Q y,I (w::Q) y->jA P f (ak9 m w::caps) (kmM k y) (λz:Bool × α=>.d (dB z.1)) (λz=>kmM k z.2) (λz=>(z.1=true->I (Q++cu m.k w) z.2/\μ (Q++cu m.k w) z.2<μ (w::Q) y)/\(z.1=false->I Q z.2/\μ Q z.2<μ (w::Q) y)))
  (h0:I [[]] y0) (hm:μ [[]] y0<=1000):jA P F.nG [wZ m,.fn f caps] (kmM k y0) (λ_:α=>.mM []) (λy=>kmM k y) (λy=>I [] y):=by
 have hml:m.jb.length=m.k:=rfl;have k4:=z6.k2;refine jA.intro fn.nG (by rfl) (by rfl) (ay (by rfl)) λE hE=>(AW.sg hE rfl (iO rfl rfl λb2=>(OL.nil (AW.sg hE rfl (bC fd.Aa rfl rfl (aG ce.bg rfl rfl rfl (L6 (cs:=[_,_]) z.Row pl.Row (lI (by exact evM rfl) (lI (uG rfl) LZ)) (by rfl) ?_)))))))
 refine aN3 (y:=y5 m []) sl.Rows (VD.ag (.cons (by exact VC.mt) (.cons (VC.d _) .nil))) rfl (by decide) rfl λb10=>(pV rfl (OL.nil (AW.block (AW.rename 10 44 rfl ?_))))
 refine AW.aY (α:=α × List (List Int) × List D × Nat × Nat) [(1,_),(2,_)] [(2,_)] (λ(y,Q,P0,d0,c0)=>[(4,.xu 44 d0 2 P0.length Q.length c0)]) (λ(y,Q,P0,d0,c0)=>[(44,.row d0 (P0.length+c0) T.Row 2 (P0++Q.map (y5 m))),(1000,k.b0 y),(1001,k.b1 y),(1002,k.b2 y),(1003,k.b3 y),(1004,k.b4 y),(1005,k.b5 y),(1006,k.b6 y),(1007,k.b7 y)]) (λ(y,Q,P0,d0,c0)=>I Q y/\μ Q y<=1000) (λ(y,Q,P0,d0,c0)=>μ Q y) (y0,[[]],[],b10,1) (.cons (KF rfl) (.cons (iw rfl) .nil)) (.cons (je rfl) .nil) ⟨⟨h0,hm⟩,.cons OQ .nil,.cons rfl (.cons rfl (.cons rfl (.cons rfl (.cons rfl (.cons rfl (.cons rfl (.cons rfl (.cons rfl .nil))))))))⟩ ?_
 rintro⟨y,Q,P0,d0,c0⟩ ⟨hIQ,hm1⟩
 have hIQ:I Q y:=hIQ;have hm1:μ Q y<=1000:=hm1;obtain⟨hq6,hqm⟩:=hI Q y hIQ;refine AW.seq (AW.sg hE rfl (mvB rfl (lnB sl.Rows rfl rfl (jI rfl rfl rfl (OL.nil (AW.cond rfl (λhQ=>?_) (λhQ=>?_)))))))
 .have hQ:0<Q.length:=by have:=lK hQ;omega
  refine AW.skip (AW.block (AW.seq (AW.rowLen 44 rfl λhcl=>?_)));rw[jd,dA] at hcl;obtain⟨c0,rfl⟩:∃ c9,c0=c9+1:=⟨c0-1,by omega⟩
  obtain⟨w,Q,rfl⟩:∃ w Q9,Q=w::Q9:=(match Q,hQ with|w::Q9,_=>⟨w,Q9,rfl⟩)
  have hw6:=hq6 w pU;refine AW.rg hE rfl (mvB rfl (bb7 (n:=0) sl.Rows rfl rfl (by omega) (i:=P0.length) rfl (Ht ag.Row (by decide) rfl rfl be7 (vs:=[.d (ints w),.d (dJ (bF m w))]) rfl (ay rfl) (al z.Row rfl λb5=>(fA sz.Row rfl rfl rfl rfl rfl (ay rfl) (cells2:=[_,_]) rfl (OL.nil (AW.sg hE rfl ?_)))))))
  refine mvB rfl (bb6 (l:=1) sl.Rows rfl rfl (by omega) (o2:=P0.length+1) rfl (n2:=Q.length) rfl (asB rfl (OL.nil (AW.seq (AW.seq (AW.sO (by rw[hE];rfl) (SK.gV (QU rfl (OL.nil ?_)))))))))
  refine SK.gV (aQ ag.Row rfl rfl (vs:=[.d (ints w),.d (dJ (bF m w))]) rfl (ay rfl) (OL.nil ?_));refine SK.Hu (SO.Jo (args':=ak9 m w::caps) (show 21<E.n by rw[hE];exact Nat.le_of_ble_eq_true (by rfl)) rfl (.cons vR vL) (Mc:=kmM k y) (λid blk hk=>oh (l:=kmL k y) (.cons rfl (.cons rfl (.cons rfl (.cons rfl (.cons rfl (.cons rfl (.cons rfl (.cons rfl trivial)))))))) id blk hk) (hf w Q y hIQ) (λx _ id hk=>P9 id hk) ?_)
  rintro⟨bz,y2⟩ ⟨hzt,hzf⟩
  have hzt:bz=true->_:=hzt;have hzf:bz=false->_:=hzf;refine SK.gV (nt rfl (OL.nil ?_));refine SK.nil (AW.cond rfl (λhb9=>?_) (λhb9=>?_))
  .have _h:=hb9;refine AW.exit ?_;have hz:=hzf (by simpa using hb9)
   exact AW.again (x:=(y,w::Q,P0,d0,c0+1)) (y2,Q,P0++[y5 m w],d0,c0) (by exact hz.2) ⟨⟨hz.1,by have h9:μ Q y2<μ (w::Q) y:=hz.2;omega⟩,Knows.app .iW (.cons (by rw[jd];exact bW.refl _) .nil),dL.app (.cons rfl .nil) (.cons Xc (.cons rfl (.cons rfl (.cons rfl (.cons rfl (.cons rfl (.cons rfl (.cons rfl (.cons rfl .nil)))))))))⟩
  .have hz:=hzt (by simpa using hb9)
   have hqk:=(hI _ _ hz.1).2;have hzm:=hz.2;rw[jd,Aj] at hqk;refine AW.skip (AW.sg hE rfl (aF rfl (OL.nil (AW.block ?_))));refine AW.aY (α:=Nat × List D × Nat × Nat) [(1,_),(2,_),(5,_)] [(2,_),(5,_)] (λ(s,U,b,c)=>[(4,.xu 44 b 2 U.length (Q++cu s w).length c),(6,.d (dI ((s:Int)+1)))]) (λ(s,U,b,c)=>[(44,.row b (U.length+c) T.Row 2 (U++(Q++cu s w).map (y5 m))),(1000,k.b0 y2),(1001,k.b1 y2),(1002,k.b2 y2),(1003,k.b3 y2),(1004,k.b4 y2),(1005,k.b5 y2),(1006,k.b6 y2),(1007,k.b7 y2)]) (λ(s,U,b,c)=>s<=m.k) (λ(s,U,b,c)=>m.k-s) (0,P0++[y5 m w],d0,c0) (.cons (KF rfl) (.cons (iw rfl) (.cons (iw rfl) .nil))) (.cons (je rfl) (.cons (je rfl) .nil)) ⟨Nat.zero_le _,.cons (by rw[jd,show cu 0 w=[] from rfl,List.append_nil];exact bW.refl _) (.cons (bW.int (by omega)) .nil),.cons (by rw[show cu 0 w=[] from rfl,List.append_nil];exact Xc) (.cons rfl (.cons rfl (.cons rfl (.cons rfl (.cons rfl (.cons rfl (.cons rfl (.cons rfl .nil))))))))⟩ ?_
   rintro⟨s,U,b,c⟩ h1
   have h1:s<=m.k:=h1;refine AW.seq (AW.sg hE rfl (aj rfl (bC fd.o7 rfl rfl (aG ce.jF rfl rfl rfl (fF sl.jF rfl rfl (yM rfl rfl rfl (OL.nil ?_)))))));refine AW.cond rfl (λh27=>?_) (λh27=>?_)
   .try simp only[fD] at h27
    refine AW.skip (AW.seq (AW.block ?_));have hsk:s<m.k:=by omega
    have hkl:(Q++cu (s+1) w).length=(Q++cu s w).length+1:=by rw[xU,<- List.append_assoc,jd];rfl
    have hkm:(Q++cu s w).map (y5 m)++[y5 m (w++[((s+1:Nat):Int)])]=(Q++cu (s+1) w).map (y5 m):=by rw[xU,<- List.append_assoc];exact (List.map_append (f:=y5 m) (l₁:=(Q++cu s w)) (l₂:=[(w++[((s+1:Nat):Int)])])).symm
    have hqs:(Q++cu s w).length<=1000:=by rw[jd,Aj];omega
    have MN:U.length+(Q++cu s w).length=(U++(Q++cu s w).map (y5 m)).length:=by rw[show (U++(Q++cu s w).map (y5 m)).length=U.length+((Q++cu s w).map (y5 m)).length from jd,dA]
    refine AW.sN (bq1 m w U ((Q++cu s w).map (y5 m)) s b b5 (Q++cu s w).length c) SX (bq2 m w U ((Q++cu s w).map (y5 m)) s b b5 (Q++cu s w).length c) 15 ak (by rw[hE];rfl) (by rfl) (by kernel_rfl) (by kernel_rfl) ?_ ?_
    .refine bq3 ?_ ?_ ?_ ?_ ?_ ?_ ?_ ?_ ?_ ?_ ?_ ?_ ?_ ?_ ?_
     .exact λβ L c9=>⟨_,rfl,.inl (OG.aK (mvB ((bT rfl).trans rfl) ⟨β,bY (d:=30) (i:=0) rfl (λt ht=>jT ht) (lt_size 16 c9.size rfl (by decide)) (aX (lt_size 16 c9.size rfl (by decide)) (by rfl))⟩))⟩
     .exact λβ L c9=>⟨_,rfl,.inl (OG.aK (bC (b:=b5) (o:=0) (id:=5) fd.ab3 ((bT rfl).trans rfl) rfl ⟨β,bY (d:=31) (i:=1) rfl (λt ht=>jT ht) (lt_size 16 c9.size rfl (by decide)) (aX (lt_size 16 c9.size rfl (by decide)) (by rfl))⟩))⟩
     .exact λβ L c9=>⟨_,rfl,.inl (OG.aK (aG ce.ints (bK rfl (aU (j:=1) c9 (by kernel_rfl))) ((gI (aB (show (5:Nat)≠44 by decide) (aB (show (5:Nat)≠33 by decide) (aB (show (5:Nat)≠33 by decide) rfl)))):_=some (.box b5 T.Row [.d (ints w),.d (dJ (bF m w))])) (v:=.d (ints w)) rfl ⟨β,bY (d:=32) (i:=2) rfl (λt ht=>jT ht) (lt_size 16 c9.size rfl (by decide)) (aX (lt_size 16 c9.size rfl (by decide)) (by rfl))⟩))⟩
     .exact λβ L c9=>⟨_,rfl,.inl (OG.aK (clR rfl (.cons (au (bK rfl (aU (j:=2) c9 (by kernel_rfl)))) .nil) (MK (l:=w) (by omega)) (gI (aB (show (33:Nat)≠44 by decide) (wB (by exact vg c9 (by kernel_rfl)) (wB (by exact c9.no) rfl)))) λb8 c8=>⟨upd β 33 (b8,c8),Dk (d:=33) (i:=3) (x:=(b8,c8)) rfl (λt ht=>jT ht) (lt_size 16 c9.size rfl (by decide)) rfl (AY (lt_size 16 c9.size rfl (by decide)) (show (14:Nat)≠3 by decide) (.inl (show (44:Nat)≠33 by decide)) (by exact λ_=>rfl) (AY (lt_size 16 c9.size rfl (by decide)) (show (6:Nat)≠3 by decide) (.inr (vg c9 (by kernel_rfl))) (by exact λ_=>rfl) (rU (lt_size 16 c9.size rfl (by decide)) rfl rfl rfl c9.no (by rfl) (λy hy=>absurd hy List.not_mem_nil)))) (λt j ho hl=>by unfold SX at ho;split at ho <;> cases ho <;> first|rfl|(rw[c9.no] at hl;cases hl)|exact qL c9 (by kernel_rfl) hl)⟩))⟩
     .exact λβ L c9=>⟨_,rfl,.inl (OG.aK (aj (y:=dI ((s:Int)+1)) ((bT rfl).trans rfl) ⟨β,bY (d:=34) (i:=4) rfl (λt ht=>jT ht) (lt_size 16 c9.size rfl (by decide)) (aX (lt_size 16 c9.size rfl (by decide)) (by rfl))⟩))⟩
     .exact λβ L c9=>⟨_,rfl,.inl (OG.aK (rF (y:=dI ((s:Int)+1)) sl.ints (WZ (bK rfl (aU (j:=4) c9 (by kernel_rfl))) (VC.d _).vd) rfl (by decide) ⟨β,bY (d:=35) (i:=5) rfl (λt ht=>jT ht) (lt_size 16 c9.size rfl (by decide)) (aX (lt_size 16 c9.size rfl (by decide)) (by rfl))⟩))⟩
     .exact λβ L c9=>⟨_,rfl,.inl (OG.aK (Yn sl.ints rfl (bK rfl (aU (j:=3) c9 (by kernel_rfl))) (gI (aB (show (33:Nat)≠44 by decide) (wB (by exact c9.no) (uS (aU (j:=3) c9 (by kernel_rfl)) rfl rfl)))) (by rw[dA]) (W9 (bK rfl (aU (j:=5) c9 (by kernel_rfl))) (VC.d _)) (λy hy=>by rw[jJ hy];rfl) (by simp only[iY];omega) (by simp only[iY];omega) (.inl (gI (aB (show (36:Nat)≠44 by decide) (aB (show (36:Nat)≠33 by decide) (aB (show (36:Nat)≠33 by decide) rfl))))) (ys:=(w++[((s+1:Nat):Int)]).map dI) (by rw[List.map_append];rfl) ⟨upd β 36 (0,0),Dk (d:=36) (i:=6) (x:=(0,0)) rfl (λt ht=>jT ht) (lt_size 16 c9.size rfl (by decide)) rfl (Eq.trans (AY (lt_size 16 c9.size rfl (by decide)) (show (14:Nat)≠6 by decide) (.inl (show (44:Nat)≠33 by decide)) (by exact λ_=>rfl) (rU (lt_size 16 c9.size rfl (by decide)) rfl rfl rfl c9.no (by rfl) (List.forall_mem_cons.2 ⟨(λ_ hne=>absurd rfl hne),(λy hy=>absurd hy List.not_mem_nil)⟩))) (SV (by decide) (gI (aB (show (36:Nat)≠44 by decide) (aB (show (36:Nat)≠33 by decide) (aB (show (36:Nat)≠33 by decide) rfl))))).symm) (λt j ho hl=>by unfold SX at ho;split at ho <;> cases ho <;> first|rfl|(rw[c9.no] at hl;cases hl)|exact qL c9 (by kernel_rfl) hl)⟩))⟩
     .exact λβ L c9=>⟨_,rfl,.inl (OG.aK (aQ ag.Machine ((bT rfl).trans rfl) ((gI (aB (show (2:Nat)≠44 by decide) (aB (show (2:Nat)≠33 by decide) (aB (show (2:Nat)≠33 by decide) rfl)))):_=some (.box b2 T.Machine [.d (dJ m.ini),.d (dJ m.fin),.d (.sl (m.jb.map qg))])) (vs:=[_,_,_]) rfl (ay rfl) ⟨β,bY (d:=37) (i:=7) rfl (λt ht=>jT ht) (lt_size 16 c9.size rfl (by decide)) (aX (lt_size 16 c9.size rfl (by decide)) (by rfl))⟩))⟩
     .exact λβ L c9=>⟨_,rfl,.inl (OG.aK (bC (b:=b5) (o:=0) (id:=5) fd.Me ((bT rfl).trans rfl) rfl ⟨β,bY (d:=38) (i:=8) rfl (λt ht=>jT ht) (lt_size 16 c9.size rfl (by decide)) (aX (lt_size 16 c9.size rfl (by decide)) (by rfl))⟩))⟩
     .exact λβ L c9=>⟨_,rfl,.inl (OG.aK (aG ce.bg (bK rfl (aU (j:=8) c9 (by kernel_rfl))) ((gI (aB (show (5:Nat)≠44 by decide) (aB (show (5:Nat)≠33 by decide) (aB (show (5:Nat)≠33 by decide) rfl)))):_=some (.box b5 T.Row [.d (ints w),.d (dJ (bF m w))])) (v:=.d (dJ (bF m w))) rfl ⟨β,bY (d:=39) (i:=9) rfl (λt ht=>jT ht) (lt_size 16 c9.size rfl (by decide)) (aX (lt_size 16 c9.size rfl (by decide)) (by rfl))⟩))⟩
     .exact λβ L c9=>⟨_,rfl,.inl (OG.aK (aj (y:=dI ((s:Int)+1)) ((bT rfl).trans rfl) ⟨β,bY (d:=40) (i:=10) rfl (λt ht=>jT ht) (lt_size 16 c9.size rfl (by decide)) (aX (lt_size 16 c9.size rfl (by decide)) (by rfl))⟩))⟩
     .exact λβ L c9=>⟨_,rfl,.inl (OG.aK (bH rfl (.cons (au (bK rfl (aU (j:=7) c9 (by kernel_rfl)))) (.cons (au (bK rfl (aU (j:=9) c9 (by kernel_rfl)))) (.cons (au (bK rfl (aU (j:=10) c9 (by kernel_rfl)))) .nil))) (show ai P F.kN [wZ m,.d (dJ (bF m w)),.d (dI ((s:Int)+1))] (.d (dJ (bF m (w++[((s+1:Nat):Int)])))) by rw[Qa];exact aC1 (v:=bF m w) ok fl z6 (jl ok w) hsk (jY z6 hw6)) ⟨β,bY (d:=41) (i:=11) rfl (λt ht=>jT ht) (lt_size 16 c9.size rfl (by decide)) (aX (lt_size 16 c9.size rfl (by decide)) (by rfl))⟩))⟩
     .exact λβ L c9=>⟨_,rfl,.inl (OG.aK (L6 (cs:=[_,_]) z.Row pl.Row (lI (bK rfl (aU (j:=6) c9 (by kernel_rfl))) (lI (bK rfl (aU (j:=11) c9 (by kernel_rfl))) LZ)) (by rfl) ⟨β,bY (d:=42) (i:=12) rfl (λt ht=>jT ht) (lt_size 16 c9.size rfl (by decide)) (aX (lt_size 16 c9.size rfl (by decide)) (by rfl))⟩))⟩
     .exact λβ L c9=>⟨_,rfl,.inl (OG.aK (rF (y:=y5 m (w++[((s+1:Nat):Int)])) sl.Rows (WZ (bK rfl (aU (j:=12) c9 (by kernel_rfl))) aC9) rfl (by decide) ⟨β,bY (d:=43) (i:=13) rfl (λt ht=>jT ht) (lt_size 16 c9.size rfl (by decide)) (aX (lt_size 16 c9.size rfl (by decide)) (by rfl))⟩))⟩
     .exact λβ L c9=>⟨_,rfl,.inl (OG.aK (apB sl.Rows rfl (bK rfl (aU (j:=0) c9 (by kernel_rfl))) ((gI (wB (by exact c9.no) (aB (show (44:Nat)≠33 by decide) (aB (show (44:Nat)≠33 by decide) rfl)))):_=some (.row b (U.length+c) T.Row 2 (U++(Q++cu s w).map (y5 m)))) MN (W9 (bK rfl (aU (j:=13) c9 (by kernel_rfl))) (VC.d _)) (λy hy=>by rw[jJ hy];rfl) (by simp only[iY];omega) (by simp only[iY];omega) (.inr rfl) λb9 k9=>(by rw[aD0,List.append_assoc];exact⟨upd β 44 (b9,k9),Dk (d:=44) (i:=14) (x:=(b9,k9)) rfl (λt ht=>jT ht) (lt_size 16 c9.size rfl (by decide)) rfl (Eq.trans (rU (lt_size 16 c9.size rfl (by decide)) rfl rfl rfl c9.no (by rfl) (List.forall_mem_cons.2 ⟨(by exact λ_ _=>rfl),(List.forall_mem_cons.2 ⟨(by exact λ_ _=>rfl),(λy hy=>absurd hy List.not_mem_nil)⟩)⟩)) (Gu _ _ _ _).symm) (λt j ho hl=>by unfold SX at ho;split at ho <;> cases ho <;> first|rfl|(rw[c9.no] at hl;cases hl)|exact qL c9 (by kernel_rfl) hl)⟩)))⟩
    refine λβ L c9 hA=>⟨_,rfl,.inl (OG.aK (asB (bK rfl (hA 14 (by decide))) ?_))⟩
    refine OL.nil ?_;refine AW.to ([(1,.fn f caps),(2,.ptr 2 b2 0),(5,.ptr 5 b5 0),(6,.d (dI ((s:Int)+1)))]++[(4,.xu 44 (β 44).1 2 (qP (β 44).2 U).length (Q++cu (s+1) w).length ((β 44).2 / 2))]) ([(2,.box b2 T.Machine [.d (dJ m.ini),.d (dJ m.fin),.d (.sl (m.jb.map qg))]),(5,.box b5 T.Row [.d (ints w),.d (dJ (bF m w))]),(1000,k.b0 y2),(1001,k.b1 y2),(1002,k.b2 y2),(1003,k.b3 y2),(1004,k.b4 y2),(1005,k.b5 y2),(1006,k.b6 y2),(1007,k.b7 y2)]++[(44,.row (β 44).1 ((qP (β 44).2 U).length+(β 44).2 / 2) T.Row 2 (qP (β 44).2 U++(Q++cu (s+1) w).map (y5 m)))]) (Knows.app (.cons (au (nD (by decide) ((bT rfl).trans rfl))) (.cons (au (nD (by decide) ((bT rfl).trans rfl))) (.cons (au (nD (by decide) ((bT rfl).trans rfl))) (.cons (au (nD (by decide) ((bT rfl).trans rfl))) (.nil))))) (.cons (by rw[La,hkl];exact au VZ) .nil)) (dL.app (.cons (put_mem (gI (aB (show (2:Nat)≠44 by decide) (aB (show (2:Nat)≠33 by decide) (aB (show (2:Nat)≠33 by decide) rfl))))) (.cons (put_mem (gI (aB (show (5:Nat)≠44 by decide) (aB (show (5:Nat)≠33 by decide) (aB (show (5:Nat)≠33 by decide) rfl))))) (.cons (put_mem (gI (aB (show (1000:Nat)≠44 by decide) (aB (show (1000:Nat)≠33 by decide) (aB (show (1000:Nat)≠33 by decide) rfl))))) (.cons (put_mem (gI (aB (show (1001:Nat)≠44 by decide) (aB (show (1001:Nat)≠33 by decide) (aB (show (1001:Nat)≠33 by decide) rfl))))) (.cons (put_mem (gI (aB (show (1002:Nat)≠44 by decide) (aB (show (1002:Nat)≠33 by decide) (aB (show (1002:Nat)≠33 by decide) rfl))))) (.cons (put_mem (gI (aB (show (1003:Nat)≠44 by decide) (aB (show (1003:Nat)≠33 by decide) (aB (show (1003:Nat)≠33 by decide) rfl))))) (.cons (put_mem (gI (aB (show (1004:Nat)≠44 by decide) (aB (show (1004:Nat)≠33 by decide) (aB (show (1004:Nat)≠33 by decide) rfl))))) (.cons (put_mem (gI (aB (show (1005:Nat)≠44 by decide) (aB (show (1005:Nat)≠33 by decide) (aB (show (1005:Nat)≠33 by decide) rfl))))) (.cons (put_mem (gI (aB (show (1006:Nat)≠44 by decide) (aB (show (1006:Nat)≠33 by decide) (aB (show (1006:Nat)≠33 by decide) rfl))))) (.cons (put_mem (gI (aB (show (1007:Nat)≠44 by decide) (aB (show (1007:Nat)≠33 by decide) (aB (show (1007:Nat)≠33 by decide) rfl))))) (.nil))))))))))) (.cons ((put_mem (gI (uS (hA 14 (by decide)) rfl rfl))).trans (by rw[La,hkm])) .nil)) ?_
    generalize qP (β 44).2 U=P3;generalize (β 44).1=b3;generalize (β 44).2 / 2=c3;refine AW.rg hE rfl (aj rfl (aI rfl rfl (by omega) (aF rfl (OL.nil ?_))))
    exact AW.again (x:=(s,U,b,c)) (s+1,P3,b3,c3) (by (simp only[];omega)) ⟨by omega,Knows.app .yU (.cons vR (.cons (bW.int (by omega)) .nil)),dL.app (.cons rfl (.cons rfl .nil)) (.cons rfl (.cons rfl (.cons rfl (.cons rfl (.cons rfl (.cons rfl (.cons rfl (.cons rfl (.cons rfl .nil)))))))))⟩
   .try simp only[fD] at h27
    refine AW.exit ?_;obtain rfl:s=m.k:=(by omega)
    exact AW.again (x:=(y,w::Q,P0,d0,c0+1)) (y2,Q++cu m.k w,U,b,c) (by exact hz.2) ⟨⟨hz.1,by have h9:μ (Q++cu m.k w) y2<μ (w::Q) y:=hz.2;omega⟩,Knows.app .iW .dD,dL.app (.cons rfl .nil) (.cons rfl (.cons rfl (.cons rfl (.cons rfl (.cons rfl (.cons rfl (.cons rfl (.cons rfl (.cons rfl .nil)))))))))⟩
 .have hQ:Q.length=0:=by have:=nZ hQ;omega
  obtain rfl:Q=[]:=Hl hQ;exact AW.exit (⟨y,hIQ,⟨[],.nil,[],.nil,rfl⟩,λid blk hk=>oh (l:=kmL k y) (.cons rfl (.cons rfl (.cons rfl (.cons rfl (.cons rfl (.cons rfl (.cons rfl (.cons rfl trivial)))))))) id blk hk⟩)
