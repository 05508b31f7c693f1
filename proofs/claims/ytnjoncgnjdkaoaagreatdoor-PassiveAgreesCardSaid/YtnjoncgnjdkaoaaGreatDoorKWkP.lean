/-
  Walks of package equal, part 2: the first difference, the rank (printed by mk2.py).
-/
import Derived.Test.YtnjoncgnjdkaoaaGreatDoorKWkM
set_option maxRecDepth 8000
set_option maxHeartbeats 6400000
set_option linter.unusedVariables false
set_option linter.unusedSimpArgs false
namespace Go.Proofs.YtnjoncgnjdkaoaaGreatDoor
open Go Go.AL
structure KM (α:Type) where
 b0:α->iE
 b1:α->iE
 b2:α->iE
 b3:α->iE
 b4:α->iE
 b5:α->iE
 b6:α->iE
 b7:α->iE
abbrev kmL {α:Type}(k:KM α)(y:α):List (Nat × iE):=[(1000,k.b0 y),(1001,k.b1 y),(1002,k.b2 y),(1003,k.b3 y),(1004,k.b4 y),(1005,k.b5 y),(1006,k.b6 y),(1007,k.b7 y)]
def Xb {α:Type}(k:KM α)(y:α):Mem:=lk none ((kmL k y).map λp=>(p.1,some p.2))
theorem U5 {α:Type}{k:KM α}{y y2:α}(id:Nat)(h:Xb k y id=none):Xb k y2 id=none:=by
 unfold Xb at *;simp only[kmL,List.map_cons,List.map_nil,lk] at h ⊢
 repeat (split at h;· cases h)
 simp only[*,if_false]
theorem aT4 {m:dP}{w:List Int}:VD (WB m w) (BN m w):=VD.ag (.cons (VC.d _) (.cons (VC.d _) .nil))
theorem U6 {U:List D}{d:D}{R:List D}{b e c:Nat}:some (iE.row b (U.length+(c+1)) e 2 (U++d::R))=some (iE.row b ((U++[d]).length+c) e 2 ((U++[d])++R)):=by
 rw[List.append_assoc,jG,show U.length + [d].length+c=U.length+(c+1) by rw[oU];omega];rfl
theorem bp9 {U:List D}{d:D}{R:List D}:(U++d::R)[U.length]? = some d:=by
 rw[List.getElem?_append_right (Nat.le_refl _),Nat.sub_self];rfl
theorem aq0 {m:dP}{w:List Int}{s:Nat}:bP m (w++[((s+1:Nat):Int)])=stepM m (bP m w) s:=by
 rw[lm,Int.toNat_natCast,Nat.add_sub_cancel]
theorem Oi (s:Nat)(w:List Int):cu (s+1) w=cu s w++[w++[((s+1:Nat):Int)]]:=by
 unfold cu;rw[List.range_succ,List.map_append];rfl
theorem Qr (s:Nat)(w:List Int):(cu s w).length=s:=by simp[cu]
theorem Qs {f:Nat->Option iE}{d e:Nat}{b:Option iE}(hne:e≠d)(h:f e=none):upd (upd f d b) e none=upd f d b:=ZY hne h
def qO (k:Nat)(o:Nat):Nat:=if k % 2=0 then o else 0
def qP (k:Nat)(U:List D):List D:=if k % 2=0 then U else []
theorem aq1 {k:Nat}{U:List D}:(qP k U).length=qO k U.length:=by unfold qP qO;split <;> rfl
theorem be5 {k:Nat}{U R:List D}:(if k % 2=0 then U++R else (U++R).drop U.length)=qP k U++R:=by
 unfold qP
 split
 .rfl
 .rw[List.drop_append_of_le_length (Nat.le_refl _),List.drop_length,List.nil_append]
def Qu:Nat->Option Nat
 | 30=>some 0
 | 31=>some 1
 | 32=>some 2
 | 33=>some 3
 | 34=>some 4
 | 35=>some 5
 | 36=>some 6
 | 37=>some 7
 | 38=>some 8
 | 39=>some 9
 | 40=>some 10
 | 41=>some 11
 | 42=>some 12
 | 43=>some 13
 | 44=>some 14
 | _=>none
theorem jL {t i:Nat}(h:Qu t=some i):t=[30,31,32,33,34,35,36,37,38,39,40,41,42,43,44].getD i 0:=by
 unfold Qu at h
 split at h <;> first|(cases h;rfl)|cases h
noncomputable def be6 (m:dP)(w:List Int)(U R:List D)(s b b5 n c:Nat)(t:Nat)(β:Nat->Nat × Nat):V :=
 match t with
 | 30=>.xI 44 b 2 U.length n c
 | 31=>.ptr 5 b5 0
 | 32=>.d (ints w)
 | 33=>.bF 33 (β 33).1 w.length (β 33).2
 | 34=>.d (dI ((s:Int)+1))
 | 35=>.d (.sl [dI ((s:Int)+1)])
 | 36=>.d (ints (w++[((s+1:Nat):Int)]))
 | 37=>Ic m
 | 38=>.ptr 5 b5 1
 | 39=>.d (iQ (bP m w))
 | 40=>.d (dI ((s:Int)+1))
 | 41=>.d (iQ (bP m (w++[((s+1:Nat):Int)])))
 | 42=>WB m (w++[((s+1:Nat):Int)])
 | 43=>.d (.sl [BN m (w++[((s+1:Nat):Int)])])
 | 44=>.xI 44 (β 44).1 2 (qO (β 44).2 U.length) (n+1) ((β 44).2 / 2)
 | _=>.junk
noncomputable abbrev be7 (m:dP)(w:List Int)(U R:List D)(s b b5 n c:Nat):List Ko:=[⟨44,14,λβ=>.row (β 44).1 (qO (β 44).2 U.length+(β 44).2 / 2) T.Row 2 (qP (β 44).2 U++(R++[BN m (w++[((s+1:Nat):Int)])]))⟩,⟨33,6,λβ=>jA⟩,⟨33,3,λβ=>.row (β 33).1 (β 33).2 T.int 1 (w.map dI)⟩]
theorem be8 {p:Nat->Prop}(h0:p 0)(h1:p 1)(h2:p 2)(h3:p 3)(h4:p 4)(h5:p 5)(h6:p 6)(h7:p 7)(h8:p 8)(h9:p 9)(h10:p 10)(h11:p 11)(h12:p 12)(h13:p 13)(Bf:p 14):∀ i,i<15->p i:=λi hi=>by
 have:i=0 \/ i=1 \/ i=2 \/ i=3 \/ i=4 \/ i=5 \/ i=6 \/ i=7 \/ i=8 \/ i=9 \/ i=10 \/ i=11 \/ i=12 \/ i=13 \/ i=14:=by omega
 rcases this with rfl|rfl|rfl|rfl|rfl|rfl|rfl|rfl|rfl|rfl|rfl|rfl|rfl|rfl|rfl <;> assumption
theorem aq2 {m:dP}{e:Nat}{α:Type}{k:KM α}{I:List (List Int)->α->Prop}{μ:List (List Int)->α->Nat}{f:Nat}{caps:List V}{y0:α}(ok:m.Ok)(fl:m.Full)(z6:m.Sz e)
  (hI:∀ Q y,I Q y->(∀ q,q ∈ Q->q.length<=6)/\Q.length<=μ Q y)
  (hf:∀ w Q y,I (w::Q) y->jw P f (WB m w::caps) (Xb k y) (λz:Bool × α=>.d (dB z.1)) (λz=>Xb k z.2) (λz=>(z.1=true->I (Q++cu m.k w) z.2/\μ (Q++cu m.k w) z.2<μ (w::Q) y)/\(z.1=false->I Q z.2/\μ Q z.2<μ (w::Q) y)))
  (h0:I [[]] y0) (hm:μ [[]] y0<=1000):jw P F.mX [Ic m,.fn f caps] (Xb k y0) (λ_:α=>.jS []) (λy=>Xb k y) (λy=>I [] y):=by
 have hml:m.qL.length=m.k:=rfl;have k4:=z6.k2;refine jw.intro fn.mX (by rfl) (by rfl) (aB (by rfl)) λE hE=>(AW.sg hE rfl (iI rfl rfl λb2=>(OL.nil (AW.sg hE rfl (aW fd.wS rfl rfl (aG ce.bQ rfl rfl rfl (VX (cs:=[_,_]) z.Row pl.Row (ve (by exact evM rfl) (ve (DV rfl) VW)) (by rfl) ?_)))))))
 refine aO8 (y:=BN m []) sl.Rows (VD.ag (.cons (by exact VC.mt) (.cons (VC.d _) .nil))) rfl (by decide) rfl λb10=>(tJ rfl (OL.nil (AW.block (AW.rename 10 44 rfl ?_))))
 refine AW.aV (α:=α × List (List Int) × List D × Nat × Nat) [(1,_),(2,_)] [(2,_)] (λ(y,Q,P0,d0,c0)=>[(4,.xI 44 d0 2 P0.length Q.length c0)]) (λ(y,Q,P0,d0,c0)=>[(44,.row d0 (P0.length+c0) T.Row 2 (P0++Q.map (BN m))),(1000,k.b0 y),(1001,k.b1 y),(1002,k.b2 y),(1003,k.b3 y),(1004,k.b4 y),(1005,k.b5 y),(1006,k.b6 y),(1007,k.b7 y)]) (λ(y,Q,P0,d0,c0)=>I Q y/\μ Q y<=1000) (λ(y,Q,P0,d0,c0)=>μ Q y) (y0,[[]],[],b10,1) (.cons (LH rfl) (.cons (gB rfl) .nil)) (.cons (iR rfl) .nil) ⟨⟨h0,hm⟩,.cons ah0 .nil,.cons rfl (.cons rfl (.cons rfl (.cons rfl (.cons rfl (.cons rfl (.cons rfl (.cons rfl (.cons rfl .nil))))))))⟩ ?_
 rintro⟨y,Q,P0,d0,c0⟩ ⟨hIQ,hm1⟩
 have hIQ:I Q y:=hIQ;have hm1:μ Q y<=1000:=hm1;obtain⟨hq6,hqm⟩:=hI Q y hIQ;refine AW.seq (AW.sg hE rfl (mvB rfl (lnB sl.Rows rfl rfl (iO rfl rfl rfl (OL.nil (AW.cond rfl (λhQ=>?_) (λhQ=>?_)))))))
 .have hQ:0<Q.length:=by have:=lq hQ;omega
  refine AW.skip (AW.block (AW.seq (AW.rowLen 44 rfl λhcl=>?_)));rw[jG,dJ] at hcl;obtain⟨c0,rfl⟩:∃ c9,c0=c9+1:=⟨c0-1,by omega⟩
  obtain⟨w,Q,rfl⟩:∃ w Q9,Q=w::Q9:=(match Q,hQ with|w::Q9,_=>⟨w,Q9,rfl⟩)
  have hw6:=hq6 w uZ;refine AW.rg hE rfl (mvB rfl (bm0 (n:=0) sl.Rows rfl rfl (by omega) (i:=P0.length) rfl (FK ag.Row (by decide) rfl rfl bp9 (vs:=[.d (ints w),.d (iQ (bP m w))]) rfl (aB rfl) (al z.Row rfl λb5=>(eH sz.Row rfl rfl rfl rfl rfl (aB rfl) (cells2:=[_,_]) rfl (OL.nil (AW.sg hE rfl ?_)))))))
  refine mvB rfl (bl9 (l:=1) sl.Rows rfl rfl (by omega) (o2:=P0.length+1) rfl (n2:=Q.length) rfl (asB rfl (OL.nil (AW.seq (AW.seq (AW.vC (by rw[hE];rfl) (SK.fM (Ky rfl (OL.nil ?_)))))))))
  refine SK.fM (aO ag.Row rfl rfl (vs:=[.d (ints w),.d (iQ (bP m w))]) rfl (aB rfl) (OL.nil ?_));refine SK.IY (SO.JF (args':=WB m w::caps) (show 21<E.n by rw[hE];exact Nat.le_of_ble_eq_true (by rfl)) rfl (.cons vR vL) (Mc:=Xb k y) (λid blk hk=>mr (l:=kmL k y) (.cons rfl (.cons rfl (.cons rfl (.cons rfl (.cons rfl (.cons rfl (.cons rfl (.cons rfl trivial)))))))) id blk hk) (hf w Q y hIQ) (λx _ id hk=>U5 id hk) ?_)
  rintro⟨bz,y2⟩ ⟨hzt,hzf⟩
  have hzt:bz=true->_:=hzt;have hzf:bz=false->_:=hzf;refine SK.fM (nt rfl (OL.nil ?_));refine SK.nil (AW.cond rfl (λhb9=>?_) (λhb9=>?_))
  .have _h:=hb9;refine AW.exit ?_;have hz:=hzf (by simpa using hb9)
   exact AW.again (x:=(y,w::Q,P0,d0,c0+1)) (y2,Q,P0++[BN m w],d0,c0) (by exact hz.2) ⟨⟨hz.1,by have h9:μ Q y2<μ (w::Q) y:=hz.2;omega⟩,Knows.app .iq (.cons (by rw[jG];exact bG.refl _) .nil),dw.app (.cons rfl .nil) (.cons U6 (.cons rfl (.cons rfl (.cons rfl (.cons rfl (.cons rfl (.cons rfl (.cons rfl (.cons rfl .nil)))))))))⟩
  .have hz:=hzt (by simpa using hb9)
   have hqk:=(hI _ _ hz.1).2;have hzm:=hz.2;rw[jG,Qr] at hqk;refine AW.skip (AW.sg hE rfl (aF rfl (OL.nil (AW.block ?_))));refine AW.aV (α:=Nat × List D × Nat × Nat) [(1,_),(2,_),(5,_)] [(2,_),(5,_)] (λ(s,U,b,c)=>[(4,.xI 44 b 2 U.length (Q++cu s w).length c),(6,.d (dI ((s:Int)+1)))]) (λ(s,U,b,c)=>[(44,.row b (U.length+c) T.Row 2 (U++(Q++cu s w).map (BN m))),(1000,k.b0 y2),(1001,k.b1 y2),(1002,k.b2 y2),(1003,k.b3 y2),(1004,k.b4 y2),(1005,k.b5 y2),(1006,k.b6 y2),(1007,k.b7 y2)]) (λ(s,U,b,c)=>s<=m.k) (λ(s,U,b,c)=>m.k-s) (0,P0++[BN m w],d0,c0) (.cons (LH rfl) (.cons (gB rfl) (.cons (gB rfl) .nil))) (.cons (iR rfl) (.cons (iR rfl) .nil)) ⟨Nat.zero_le _,.cons (by rw[jG,show cu 0 w=[] from rfl,List.append_nil];exact bG.refl _) (.cons (bG.int (by omega)) .nil),.cons (by rw[show cu 0 w=[] from rfl,List.append_nil];exact U6) (.cons rfl (.cons rfl (.cons rfl (.cons rfl (.cons rfl (.cons rfl (.cons rfl (.cons rfl .nil))))))))⟩ ?_
   rintro⟨s,U,b,c⟩ h1
   have h1:s<=m.k:=h1;refine AW.seq (AW.sg hE rfl (ai rfl (aW fd.uT rfl rfl (aG ce.mG rfl rfl rfl (fJ sl.mG rfl rfl (xN rfl rfl rfl (OL.nil ?_)))))));refine AW.cond rfl (λh27=>?_) (λh27=>?_)
   .try simp only[dX] at h27
    refine AW.skip (AW.seq (AW.block ?_));have hsk:s<m.k:=by omega
    have hkl:(Q++cu (s+1) w).length=(Q++cu s w).length+1:=by rw[Oi,<- List.append_assoc,jG];rfl
    have hkm:(Q++cu s w).map (BN m)++[BN m (w++[((s+1:Nat):Int)])]=(Q++cu (s+1) w).map (BN m):=by rw[Oi,<- List.append_assoc];exact (List.map_append (f:=BN m) (l₁:=(Q++cu s w)) (l₂:=[(w++[((s+1:Nat):Int)])])).symm
    have hqs:(Q++cu s w).length<=1000:=by rw[jG,Qr];omega
    have bf0:U.length+(Q++cu s w).length=(U++(Q++cu s w).map (BN m)).length:=by rw[show (U++(Q++cu s w).map (BN m)).length=U.length+((Q++cu s w).map (BN m)).length from jG,dJ]
    refine AW.rU (be6 m w U ((Q++cu s w).map (BN m)) s b b5 (Q++cu s w).length c) Qu (be7 m w U ((Q++cu s w).map (BN m)) s b b5 (Q++cu s w).length c) 15 ay (by rw[hE];rfl) (by rfl) (by kernel_rfl) (by kernel_rfl) ?_ ?_
    .refine be8 ?_ ?_ ?_ ?_ ?_ ?_ ?_ ?_ ?_ ?_ ?_ ?_ ?_ ?_ ?_
     .exact λβ L c9=>⟨_,rfl,.inl (OG.aK (mvB ((bV rfl).trans rfl) ⟨β,di (d:=30) (i:=0) rfl (λt ht=>jL ht) (lt_size 16 c9.size rfl (by decide)) (aZ (lt_size 16 c9.size rfl (by decide)) (by rfl))⟩))⟩
     .exact λβ L c9=>⟨_,rfl,.inl (OG.aK (aW (b:=b5) (o:=0) (id:=5) fd.aK1 ((bV rfl).trans rfl) rfl ⟨β,di (d:=31) (i:=1) rfl (λt ht=>jL ht) (lt_size 16 c9.size rfl (by decide)) (aZ (lt_size 16 c9.size rfl (by decide)) (by rfl))⟩))⟩
     .exact λβ L c9=>⟨_,rfl,.inl (OG.aK (aG ce.ints (bI rfl (aQ (j:=1) c9 (by kernel_rfl))) ((fP (ak (show (5:Nat)≠44 by decide) (ak (show (5:Nat)≠33 by decide) (ak (show (5:Nat)≠33 by decide) rfl)))):_=some (.box b5 T.Row [.d (ints w),.d (iQ (bP m w))])) (v:=.d (ints w)) rfl ⟨β,di (d:=32) (i:=2) rfl (λt ht=>jL ht) (lt_size 16 c9.size rfl (by decide)) (aZ (lt_size 16 c9.size rfl (by decide)) (by rfl))⟩))⟩
     .exact λβ L c9=>⟨_,rfl,.inl (OG.aK (clR rfl (.cons (au (bI rfl (aQ (j:=2) c9 (by kernel_rfl)))) .nil) (Eu (l:=w) (by omega)) (fP (ak (show (33:Nat)≠44 by decide) (nX (by exact gW c9 (by kernel_rfl)) (nX (by exact c9.no) rfl)))) λb8 c8=>⟨upd β 33 (b8,c8),CP (d:=33) (i:=3) (x:=(b8,c8)) rfl (λt ht=>jL ht) (lt_size 16 c9.size rfl (by decide)) rfl (lH (lt_size 16 c9.size rfl (by decide)) (show (14:Nat)≠3 by decide) (.inl (show (44:Nat)≠33 by decide)) (by exact λ_=>rfl) (lH (lt_size 16 c9.size rfl (by decide)) (show (6:Nat)≠3 by decide) (.inr (gW c9 (by kernel_rfl))) (by exact λ_=>rfl) (o6 (lt_size 16 c9.size rfl (by decide)) rfl rfl rfl c9.no (by rfl) (λy hy=>absurd hy List.not_mem_nil)))) (λt j ho hl=>by unfold Qu at ho;split at ho <;> cases ho <;> first|rfl|(rw[c9.no] at hl;cases hl)|exact rV c9 (by kernel_rfl) hl)⟩))⟩
     .exact λβ L c9=>⟨_,rfl,.inl (OG.aK (ai (y:=dI ((s:Int)+1)) ((bV rfl).trans rfl) ⟨β,di (d:=34) (i:=4) rfl (λt ht=>jL ht) (lt_size 16 c9.size rfl (by decide)) (aZ (lt_size 16 c9.size rfl (by decide)) (by rfl))⟩))⟩
     .exact λβ L c9=>⟨_,rfl,.inl (OG.aK (zX (y:=dI ((s:Int)+1)) sl.ints (ap8 (bI rfl (aQ (j:=4) c9 (by kernel_rfl))) (VC.d _).vd) rfl (by decide) ⟨β,di (d:=35) (i:=5) rfl (λt ht=>jL ht) (lt_size 16 c9.size rfl (by decide)) (aZ (lt_size 16 c9.size rfl (by decide)) (by rfl))⟩))⟩
     .exact λβ L c9=>⟨_,rfl,.inl (OG.aK (ad7 sl.ints rfl (bI rfl (aQ (j:=3) c9 (by kernel_rfl))) (fP (ak (show (33:Nat)≠44 by decide) (nX (by exact c9.no) (uo (aQ (j:=3) c9 (by kernel_rfl)) rfl rfl)))) (by rw[dJ]) (ap9 (bI rfl (aQ (j:=5) c9 (by kernel_rfl))) (VC.d _)) (λy hy=>by rw[lW hy];rfl) (by simp only[oU];omega) (by simp only[oU];omega) (.inl (fP (ak (show (36:Nat)≠44 by decide) (ak (show (36:Nat)≠33 by decide) (ak (show (36:Nat)≠33 by decide) rfl))))) (ys:=(w++[((s+1:Nat):Int)]).map dI) (by rw[List.map_append];rfl) ⟨upd β 36 (0,0),CP (d:=36) (i:=6) (x:=(0,0)) rfl (λt ht=>jL ht) (lt_size 16 c9.size rfl (by decide)) rfl (Eq.trans (lH (lt_size 16 c9.size rfl (by decide)) (show (14:Nat)≠6 by decide) (.inl (show (44:Nat)≠33 by decide)) (by exact λ_=>rfl) (o6 (lt_size 16 c9.size rfl (by decide)) rfl rfl rfl c9.no (by rfl) (List.forall_mem_cons.2 ⟨(λ_ hne=>absurd rfl hne),(λy hy=>absurd hy List.not_mem_nil)⟩))) (Qs (by decide) (fP (ak (show (36:Nat)≠44 by decide) (ak (show (36:Nat)≠33 by decide) (ak (show (36:Nat)≠33 by decide) rfl))))).symm) (λt j ho hl=>by unfold Qu at ho;split at ho <;> cases ho <;> first|rfl|(rw[c9.no] at hl;cases hl)|exact rV c9 (by kernel_rfl) hl)⟩))⟩
     .exact λβ L c9=>⟨_,rfl,.inl (OG.aK (aO ag.Machine ((bV rfl).trans rfl) ((fP (ak (show (2:Nat)≠44 by decide) (ak (show (2:Nat)≠33 by decide) (ak (show (2:Nat)≠33 by decide) rfl)))):_=some (.box b2 T.Machine [.d (iQ m.ini),.d (iQ m.fin),.d (.sl (m.qL.map vz))])) (vs:=[_,_,_]) rfl (aB rfl) ⟨β,di (d:=37) (i:=7) rfl (λt ht=>jL ht) (lt_size 16 c9.size rfl (by decide)) (aZ (lt_size 16 c9.size rfl (by decide)) (by rfl))⟩))⟩
     .exact λβ L c9=>⟨_,rfl,.inl (OG.aK (aW (b:=b5) (o:=0) (id:=5) fd.ah1 ((bV rfl).trans rfl) rfl ⟨β,di (d:=38) (i:=8) rfl (λt ht=>jL ht) (lt_size 16 c9.size rfl (by decide)) (aZ (lt_size 16 c9.size rfl (by decide)) (by rfl))⟩))⟩
     .exact λβ L c9=>⟨_,rfl,.inl (OG.aK (aG ce.bQ (bI rfl (aQ (j:=8) c9 (by kernel_rfl))) ((fP (ak (show (5:Nat)≠44 by decide) (ak (show (5:Nat)≠33 by decide) (ak (show (5:Nat)≠33 by decide) rfl)))):_=some (.box b5 T.Row [.d (ints w),.d (iQ (bP m w))])) (v:=.d (iQ (bP m w))) rfl ⟨β,di (d:=39) (i:=9) rfl (λt ht=>jL ht) (lt_size 16 c9.size rfl (by decide)) (aZ (lt_size 16 c9.size rfl (by decide)) (by rfl))⟩))⟩
     .exact λβ L c9=>⟨_,rfl,.inl (OG.aK (ai (y:=dI ((s:Int)+1)) ((bV rfl).trans rfl) ⟨β,di (d:=40) (i:=10) rfl (λt ht=>jL ht) (lt_size 16 c9.size rfl (by decide)) (aZ (lt_size 16 c9.size rfl (by decide)) (by rfl))⟩))⟩
     .exact λβ L c9=>⟨_,rfl,.inl (OG.aK (bJ rfl (.cons (au (bI rfl (aQ (j:=7) c9 (by kernel_rfl)))) (.cons (au (bI rfl (aQ (j:=9) c9 (by kernel_rfl)))) (.cons (au (bI rfl (aQ (j:=10) c9 (by kernel_rfl)))) .nil))) (show aj P F.nJ [Ic m,.d (iQ (bP m w)),.d (dI ((s:Int)+1))] (.d (iQ (bP m (w++[((s+1:Nat):Int)])))) by rw[aq0];exact bc4 (v:=bP m w) ok fl z6 (wo ok w) hsk (Fp z6 hw6)) ⟨β,di (d:=41) (i:=11) rfl (λt ht=>jL ht) (lt_size 16 c9.size rfl (by decide)) (aZ (lt_size 16 c9.size rfl (by decide)) (by rfl))⟩))⟩
     .exact λβ L c9=>⟨_,rfl,.inl (OG.aK (VX (cs:=[_,_]) z.Row pl.Row (ve (bI rfl (aQ (j:=6) c9 (by kernel_rfl))) (ve (bI rfl (aQ (j:=11) c9 (by kernel_rfl))) VW)) (by rfl) ⟨β,di (d:=42) (i:=12) rfl (λt ht=>jL ht) (lt_size 16 c9.size rfl (by decide)) (aZ (lt_size 16 c9.size rfl (by decide)) (by rfl))⟩))⟩
     .exact λβ L c9=>⟨_,rfl,.inl (OG.aK (zX (y:=BN m (w++[((s+1:Nat):Int)])) sl.Rows (ap8 (bI rfl (aQ (j:=12) c9 (by kernel_rfl))) aT4) rfl (by decide) ⟨β,di (d:=43) (i:=13) rfl (λt ht=>jL ht) (lt_size 16 c9.size rfl (by decide)) (aZ (lt_size 16 c9.size rfl (by decide)) (by rfl))⟩))⟩
     .exact λβ L c9=>⟨_,rfl,.inl (OG.aK (apB sl.Rows rfl (bI rfl (aQ (j:=0) c9 (by kernel_rfl))) ((fP (nX (by exact c9.no) (ak (show (44:Nat)≠33 by decide) (ak (show (44:Nat)≠33 by decide) rfl)))):_=some (.row b (U.length+c) T.Row 2 (U++(Q++cu s w).map (BN m)))) bf0 (ap9 (bI rfl (aQ (j:=13) c9 (by kernel_rfl))) (VC.d _)) (λy hy=>by rw[lW hy];rfl) (by simp only[oU];omega) (by simp only[oU];omega) (.inr rfl) λb9 k9=>(by rw[be5,List.append_assoc];exact⟨upd β 44 (b9,k9),CP (d:=44) (i:=14) (x:=(b9,k9)) rfl (λt ht=>jL ht) (lt_size 16 c9.size rfl (by decide)) rfl (Eq.trans (o6 (lt_size 16 c9.size rfl (by decide)) rfl rfl rfl c9.no (by rfl) (List.forall_mem_cons.2 ⟨(by exact λ_ _=>rfl),(List.forall_mem_cons.2 ⟨(by exact λ_ _=>rfl),(λy hy=>absurd hy List.not_mem_nil)⟩)⟩)) (Kw _ _ _ _).symm) (λt j ho hl=>by unfold Qu at ho;split at ho <;> cases ho <;> first|rfl|(rw[c9.no] at hl;cases hl)|exact rV c9 (by kernel_rfl) hl)⟩)))⟩
    refine λβ L c9 hA=>⟨_,rfl,.inl (OG.aK (asB (bI rfl (hA 14 (by decide))) ?_))⟩
    refine OL.nil ?_;refine AW.to ([(1,.fn f caps),(2,.ptr 2 b2 0),(5,.ptr 5 b5 0),(6,.d (dI ((s:Int)+1)))]++[(4,.xI 44 (β 44).1 2 (qP (β 44).2 U).length (Q++cu (s+1) w).length ((β 44).2 / 2))]) ([(2,.box b2 T.Machine [.d (iQ m.ini),.d (iQ m.fin),.d (.sl (m.qL.map vz))]),(5,.box b5 T.Row [.d (ints w),.d (iQ (bP m w))]),(1000,k.b0 y2),(1001,k.b1 y2),(1002,k.b2 y2),(1003,k.b3 y2),(1004,k.b4 y2),(1005,k.b5 y2),(1006,k.b6 y2),(1007,k.b7 y2)]++[(44,.row (β 44).1 ((qP (β 44).2 U).length+(β 44).2 / 2) T.Row 2 (qP (β 44).2 U++(Q++cu (s+1) w).map (BN m)))]) (Knows.app (.cons (au (gV (by decide) ((bV rfl).trans rfl))) (.cons (au (gV (by decide) ((bV rfl).trans rfl))) (.cons (au (gV (by decide) ((bV rfl).trans rfl))) (.cons (au (gV (by decide) ((bV rfl).trans rfl))) (.nil))))) (.cons (by rw[aq1,hkl];exact au LX) .nil)) (dw.app (.cons (put_mem (fP (ak (show (2:Nat)≠44 by decide) (ak (show (2:Nat)≠33 by decide) (ak (show (2:Nat)≠33 by decide) rfl))))) (.cons (put_mem (fP (ak (show (5:Nat)≠44 by decide) (ak (show (5:Nat)≠33 by decide) (ak (show (5:Nat)≠33 by decide) rfl))))) (.cons (put_mem (fP (ak (show (1000:Nat)≠44 by decide) (ak (show (1000:Nat)≠33 by decide) (ak (show (1000:Nat)≠33 by decide) rfl))))) (.cons (put_mem (fP (ak (show (1001:Nat)≠44 by decide) (ak (show (1001:Nat)≠33 by decide) (ak (show (1001:Nat)≠33 by decide) rfl))))) (.cons (put_mem (fP (ak (show (1002:Nat)≠44 by decide) (ak (show (1002:Nat)≠33 by decide) (ak (show (1002:Nat)≠33 by decide) rfl))))) (.cons (put_mem (fP (ak (show (1003:Nat)≠44 by decide) (ak (show (1003:Nat)≠33 by decide) (ak (show (1003:Nat)≠33 by decide) rfl))))) (.cons (put_mem (fP (ak (show (1004:Nat)≠44 by decide) (ak (show (1004:Nat)≠33 by decide) (ak (show (1004:Nat)≠33 by decide) rfl))))) (.cons (put_mem (fP (ak (show (1005:Nat)≠44 by decide) (ak (show (1005:Nat)≠33 by decide) (ak (show (1005:Nat)≠33 by decide) rfl))))) (.cons (put_mem (fP (ak (show (1006:Nat)≠44 by decide) (ak (show (1006:Nat)≠33 by decide) (ak (show (1006:Nat)≠33 by decide) rfl))))) (.cons (put_mem (fP (ak (show (1007:Nat)≠44 by decide) (ak (show (1007:Nat)≠33 by decide) (ak (show (1007:Nat)≠33 by decide) rfl))))) (.nil))))))))))) (.cons ((put_mem (fP (uo (hA 14 (by decide)) rfl rfl))).trans (by rw[aq1,hkm])) .nil)) ?_
    generalize qP (β 44).2 U=P3;generalize (β 44).1=b3;generalize (β 44).2 / 2=c3;refine AW.rg hE rfl (ai rfl (aI rfl rfl (by omega) (aF rfl (OL.nil ?_))))
    exact AW.again (x:=(s,U,b,c)) (s+1,P3,b3,c3) (by (simp only[];omega)) ⟨by omega,Knows.app .Ah (.cons vR (.cons (bG.int (by omega)) .nil)),dw.app (.cons rfl (.cons rfl .nil)) (.cons rfl (.cons rfl (.cons rfl (.cons rfl (.cons rfl (.cons rfl (.cons rfl (.cons rfl (.cons rfl .nil)))))))))⟩
   .try simp only[dX] at h27
    refine AW.exit ?_;obtain rfl:s=m.k:=(by omega)
    exact AW.again (x:=(y,w::Q,P0,d0,c0+1)) (y2,Q++cu m.k w,U,b,c) (by exact hz.2) ⟨⟨hz.1,by have h9:μ (Q++cu m.k w) y2<μ (w::Q) y:=hz.2;omega⟩,Knows.app .iq .bZ,dw.app (.cons rfl .nil) (.cons rfl (.cons rfl (.cons rfl (.cons rfl (.cons rfl (.cons rfl (.cons rfl (.cons rfl (.cons rfl .nil)))))))))⟩
 .have hQ:Q.length=0:=by have:=nS hQ;omega
  obtain rfl:Q=[]:=IK hQ;exact AW.exit (⟨y,hIQ,⟨[],.nil,[],.nil,rfl⟩,λid blk hk=>mr (l:=kmL k y) (.cons rfl (.cons rfl (.cons rfl (.cons rfl (.cons rfl (.cons rfl (.cons rfl (.cons rfl trivial)))))))) id blk hk⟩)
theorem U7 {α:Type}{P:Program}{f:Nat}{args:List V}{M:Mem}{res:α->V}{M':α->Mem}{φ ψ:α->Prop}(h:jw P f args M res M' φ)(hi:∀ x,φ x->ψ x):jw P f args M res M' ψ :=
 ⟨h.1,λF w vals hS hv=>(h.2 F w vals hS hv).mono λe w' ⟨x,hx,r⟩=>⟨x,hi x hx,r⟩⟩
abbrev DSs:=DSt × EH
def kD (b bs bf bw:Nat):KM DSs:=⟨λy=>boxS b y.2 y.1.rs,λy=>bc5 y.2 y.1.rs,λy=>J3 y.2 y.1.rs,λy=>rowP y.2 y.1.rs,λ_=>.box bs T.Eg [.ptr 1000 b 0],λy=>.box bf T.bool [.d (dB y.1.o.isSome)],λy=>.box bw T.ints [.d (ints (y.1.o.getD []))],λ_=>.row 0 0 T.bQ 1 []⟩
theorem Yr {m:dP}{w u:List Int}{rs:List bW}:keepD m w ⟨some u,rs⟩ = (false,⟨some u,rs⟩):=if_pos rfl
theorem Yt {m:dP}{w:List Int}{rs:List bW}(h:wV m w≠0):keepD m w ⟨none,rs⟩ = (false,⟨some w,rs⟩):=by
 unfold keepD;rw[if_neg (λx=>by cases x),if_pos h]
theorem Yu {m:dP}{w:List Int}{rs:List bW}(h:wV m w=0):keepD m w ⟨none,rs⟩ = (bM rs (bP m w),⟨none,wB rs (bP m w)⟩):=by
 unfold keepD;rw[if_neg (λx=>by cases x),if_neg (λx=>x h)]
abbrev Qv (m:dP):V:=.ref [iQ m.ini,iQ m.fin,.sl (m.qL.map vz)]
theorem aq3 {m:dP}{e b bs bf bw:Nat}{w:List Int}{rs:List bW}{B:EH}{u:List Int}:jw P F.jU [WB m w,.ptr 1005 bf 0,Qv m,.ptr 1006 bw 0,.ptr 1004 bs 0] (Xb (kD b bs bf bw) ((⟨some u,rs⟩,B):DSs)) (λz:Bool × DSs=>.d (dB z.1)) (λz=>Xb (kD b bs bf bw) z.2) (λz=>z.1=(keepD m w ⟨some u,rs⟩).1/\z.2.1=(keepD m w ⟨some u,rs⟩).2):=by
 refine jw.intro fn.jU (by rfl) (by rfl) (aB (by rfl)) λE hE=>(AW.sg hE rfl (iI rfl rfl λb5=>(aF rfl (OL.nil (AW.seq (AW.sg hE rfl (aG ce.bool rfl rfl (v:=.d (dB true)) rfl ?_)))))))
 refine nt rfl (ai rfl (OL.nd rfl (OL.nd rfl (OL.nd rfl (OL.nd rfl (OL.nd rfl (OL.nd rfl ?_)))))));refine OL.nd rfl (kL rfl rfl (OL.nil (qW rfl ?_)));refine AW.skip (AW.sg hE rfl (aG ce.bool rfl rfl (v:=.d (dB true)) rfl (nt rfl (ai rfl (OL.nd rfl (OL.nd rfl (OL.nd rfl ?_)))))));refine OL.nd rfl (kL rfl rfl (aF rfl (OL.nil ?_)));exact AW.ret ⟨(false,(⟨some u,rs⟩,B)),⟨(congrArg Prod.fst Yr).symm,(congrArg Prod.snd Yr).symm⟩,⟨_,.tmp rfl .nil,.le vR⟩,λid blk hk=>mr (l:=kmL (kD b bs bf bw) (⟨some u,rs⟩,B)) (.cons rfl (.cons rfl (.cons rfl (.cons rfl (.cons rfl (.cons rfl (.cons rfl (.cons rfl trivial)))))))) id blk hk⟩
theorem aq4 {m:dP}{e b bs bf bw:Nat}{w:List Int}{rs:List bW}{B:EH}(ok:m.Ok)(z6:m.Sz e)(sp:uK m.n 16777215 rs)(hw:w.length<=6):jw P F.jU [WB m w,.ptr 1005 bf 0,Qv m,.ptr 1006 bw 0,.ptr 1004 bs 0] (Xb (kD b bs bf bw) ((⟨none,rs⟩,B):DSs)) (λz:Bool × DSs=>.d (dB z.1)) (λz=>Xb (kD b bs bf bw) z.2) (λz=>z.1=(keepD m w ⟨none,rs⟩).1/\z.2.1=(keepD m w ⟨none,rs⟩).2):=by
 have zd:sz (wV m w)<=68719476736:=Nat.le_trans (Rw z6.n6 (Fp z6 hw) z6.fin) (by have:=z6.e24;omega)
 refine jw.intro fn.jU (by rfl) (by rfl) (aB (by rfl)) λE hE=>(AW.sg hE rfl (iI rfl rfl λb5=>(aF rfl (OL.nil (AW.seq (AW.sg hE rfl (aG ce.bool rfl rfl (v:=.d (dB false)) rfl ?_)))))))
 refine nt rfl (ai rfl (OL.yes rfl (aW fd.ah1 rfl rfl (OL.yes rfl (aG ce.bQ rfl rfl rfl (OL.yes rfl (Vp fd.BH rfl rfl ?_)))))));refine OL.yes rfl (iH ce.bQ rfl (OL.yes rfl (bJ rfl vL (bn9 (u:=bP m w) (v:=m.fin) (n:=m.n) (wo ok w) ok.fin z6.n6 (Fp z6 hw) (λi=>Nat.le_trans (z6.fin i) (by have:=z6.e24;omega))) ?_)))
 rw[show vZ m.n (vf (bP m w)) (vf m.fin)=wV m w from rfl]
 refine OL.yes rfl (bJ rfl vL (gY (x:=wV m w) zd) (OL.yes rfl (eG rfl rfl rfl (OL.split 16 rfl (λhn=>?_) (λhn=>?_)))))
 .have hn:wV m w≠0:=λx=>D7 hn (lS.2 x);refine oC rfl rfl (OL.nil (Ot rfl ?_));refine AW.rg hE rfl (aW fd.aK1 rfl rfl (aG ce.ints rfl rfl (v:=.d (ints w)) rfl (eH sz.ints rfl rfl rfl rfl rfl (aB rfl) rfl (eH sz.bool rfl rfl rfl rfl rfl (aB rfl) rfl (OL.nil (AW.seq (AW.vC (by rw[hE];rfl) ?_)))))))
  refine SK.fM (aG ce.bool rfl rfl (v:=.d (dB true)) rfl (OL.nil ?_));refine SK.fM (nt rfl (OL.nil ?_));refine SK.fM (ai (y:=dB false) rfl (OL.nil ?_));refine SK.fM (OL.nd rfl (OL.nil ?_));refine SK.fM (OL.nd rfl (OL.nil ?_));refine SK.fM (OL.nd rfl (OL.nil ?_));refine SK.fM (OL.nd rfl (OL.nil ?_));refine SK.fM (kL rfl rfl (OL.nil ?_));refine SK.fM (aF (y:=dB false) rfl (OL.nil ?_));refine SK.nil ?_;exact AW.ret ⟨(false,(⟨some w,rs⟩,B)),⟨(congrArg Prod.fst (Yt hn)).symm,(congrArg Prod.snd (Yt hn)).symm⟩,⟨_,.tmp rfl .nil,.le vR⟩,λid blk hk=>mr (l:=kmL (kD b bs bf bw) (⟨some w,rs⟩,B)) (.cons rfl (.cons rfl (.cons rfl (.cons rfl (.cons rfl (.cons rfl (.cons rfl (.cons rfl trivial)))))))) id blk hk⟩
 .have hn:wV m w=0:=lS.1 (Bc hn);refine oC rfl rfl (OL.nil (qW rfl ?_));refine AW.skip (AW.seq (AW.vC (by rw[hE];rfl) (SK.fM (aG ce.bool rfl rfl (v:=.d (dB false)) rfl (OL.nil ?_)))))
  refine SK.fM (nt rfl (OL.nil ?_));refine SK.fM (ai (y:=dB true) rfl (OL.nil ?_));refine SK.fM (OL.yes rfl (aG ce.Eg rfl rfl (v:=.ptr 1000 b 0) rfl (OL.nil ?_)));refine SK.fM (OL.yes rfl (aW fd.ah1 rfl rfl (OL.nil ?_)));refine SK.fM (OL.yes rfl (aG ce.bQ rfl rfl (v:=.d (iQ (bP m w))) rfl (OL.nil ?_)));refine SK.a18 rfl (SO.JF (args':=[.ptr 1000 b 0,.d (iQ (bP m w))]) (show 26<E.n by rw[hE];exact Nat.le_of_ble_eq_true (by rfl)) rfl vL (Mc:=spM b B rs) (λid blk hk=>mr (l:=spL b B rs) (.cons rfl (.cons rfl (.cons rfl (.cons rfl trivial)))) id blk hk) (bo2 (b:=b) (B:=B) sp (wo ok w) z6.n6 (λi=>Nat.le_trans (Fp z6 hw i) (by decide))) (λx _ id hk=>al7 id hk) ?_)
  rintro B2 -
  refine SK.fM (oC rfl rfl (OL.nil ?_));refine SK.fM (aF (y:=dB (bM rs (bP m w))) rfl (OL.nil ?_));refine SK.nil ?_;exact AW.ret ⟨(bM rs (bP m w),(⟨none,wB rs (bP m w)⟩,B2)),⟨(congrArg Prod.fst (Yu hn)).symm,(congrArg Prod.snd (Yu hn)).symm⟩,⟨_,.tmp rfl .nil,.le vR⟩,λid blk hk=>mr (l:=kmL (kD b bs bf bw) (⟨none,wB rs (bP m w)⟩,B2)) (.cons rfl (.cons rfl (.cons rfl (.cons rfl (.cons rfl (.cons rfl (.cons rfl (.cons rfl trivial)))))))) id blk hk⟩
theorem aq5 {m:dP}{e b bs bf bw:Nat}{w:List Int}{y:DSt}{B:EH}(ok:m.Ok)(z6:m.Sz e)(sp:uK m.n 16777215 y.rs)(hw:w.length<=6):jw P F.jU [WB m w,.ptr 1005 bf 0,Qv m,.ptr 1006 bw 0,.ptr 1004 bs 0] (Xb (kD b bs bf bw) ((y,B):DSs)) (λz:Bool × DSs=>.d (dB z.1)) (λz=>Xb (kD b bs bf bw) z.2) (λz=>z.1=(keepD m w y).1/\z.2.1=(keepD m w y).2):=by
 obtain⟨o,rs⟩:=y;cases o with
 | some u=>exact aq3 (e:=e)
 | none=>exact aq4 ok z6 sp hw
theorem aF7 {m:dP}{e:Nat}(ok:m.Ok)(fl:m.Full)(z6:m.Sz e):jw P F.yE [Ic m] jO (λ_:Unit=>.jS [.d (ints ((sJ m).getD [])),.d (dB (sJ m).isSome)]) (λ_=>jO) (λ_=>True):=by
 have n6:=z6.n6;have k4:=z6.k2;refine jw.intro fn.yE (by rfl) (by rfl) (aB (by rfl)) λE hE=>(AW.sg hE rfl (iI rfl rfl λb1=>(al z.ints rfl λb2=>(al z.bool rfl λb3=>(OL.nil (AW.sg hE rfl (bd z.Space pl.Space (cs:=[_,_,_]) rfl ?_)))))))
 refine iI rfl rfl λb6=>(al z.Eg rfl λb4=>(eH sz.Eg rfl rfl rfl rfl rfl (aB rfl) (cells2:=[_]) rfl (OL.nil (AW.seq (AW.rename 6 1000 rfl (AW.xQ 1001 T.bQ 1 rfl (AW.xQ 1002 T.bQ 1 rfl ?_)))))));refine AW.xQ 1003 T.int 1 rfl (AW.xO 1000 [.bF 1001 0 0 0,.bF 1002 0 0 0,.bF 1003 0 0 0] rfl (.cons oL (.cons oL (.cons oL .nil))) (AW.rename 4 1004 rfl (AW.xO 1004 [.ptr 1000 b6 0] rfl (.cons bG.ptr .nil) (AW.rename 3 1005 rfl (AW.rename 2 1006 rfl (AW.xO 1006 [.d (ints [])] rfl (.cons bG.mt .nil) (AW.xQ 1007 T.bQ 1 rfl ?_)))))));refine AW.Bq 1 [iQ m.ini,iQ m.fin,.sl (m.qL.map vz)] rfl (VCs.Sr [iQ m.ini,iQ m.fin,.sl (m.qL.map vz)]) ?_;refine AW.to [(1,Qv m),(2,.ptr 1006 b2 0),(3,.ptr 1005 b3 0),(4,.ptr 1004 b4 0)] (kmL (kD b6 b4 b3 b2) ((⟨none,[]⟩,(default:EH)):DSs)) (.cons (au (show V.Vq 1 b1 [iQ m.ini,iQ m.fin,.sl (m.qL.map vz)] (.ptr 1 b1 0)=Qv m from Ec)) (.cons bG.ptr (.cons bG.ptr (.cons bG.ptr .nil)))) (.cons rfl (.cons rfl (.cons rfl (.cons rfl (.cons rfl (.cons rfl (.cons rfl (.cons rfl (.nil))))))))) ?_
 refine AW.vC (by rw[hE];rfl) (SK.fM (jH ag.Machine rfl (vs:=[_,_,_]) rfl (aB rfl) (OL.nil ?_)))
 refine SK.fM (mkF (vs:=[_,_,_,_]) rfl (OL.nil ?_));refine SK.IY (SO.JF (args':=[Ic m,.fn F.jU [.ptr 1005 b3 0,Qv m,.ptr 1006 b2 0,.ptr 1004 b4 0]]) (show 9<E.n by rw[hE];exact Nat.le_of_ble_eq_true (by rfl)) rfl vL (Mc:=Xb (kD b6 b4 b3 b2) ((⟨none,[]⟩,(default:EH)):DSs)) (λid blk hk=>mr (l:=kmL (kD b6 b4 b3 b2) ((⟨none,[]⟩,(default:EH)):DSs)) (.cons rfl (.cons rfl (.cons rfl (.cons rfl (.cons rfl (.cons rfl (.cons rfl (.cons rfl trivial)))))))) id blk hk)
  (aq2 (m:=m) (k:=kD b6 b4 b3 b2) (I:=λQ y=>Jd m 16777215 Q y.1) (μ:=λQ y=>muD m Q y.1) ok fl z6 (λQ y hI=>⟨hI.len,aR1 m Q y.1⟩)
   (λw Q y hI=>U7 (aq5 (y:=y.1) (B:=y.2) ok z6 hI.sp (hI.len w uZ)) λz hz=>by
    have h9:=hI.next ok n6 (by decide) (λi=>Nat.le_trans (Fp z6 (hI.len w uZ) i) (by decide))
    rw[<- hz.1,<- hz.2] at h9;exact h9) (Jd.start m 16777215) (by
     show [([]:List Int)].length+(m.k+1)*(m.n-0)<=1000
     have h9:=Nat.mul_le_mul (show m.k+1<=5 by omega) (show m.n-0<=6 by omega)
     rw[oU];omega)) (λx _ id hk=>U5 id hk) ?_)
 rintro⟨y,B⟩ hI
 have hI:Jd m 16777215 [] y:=hI;have ho:=hI.done;obtain⟨o,rs⟩:=y;obtain rfl:o=sJ m:=ho;refine SK.nil (AW.seq (AW.Tv ay (by rw[hE];rfl) (OT.node [0,1] (os:=[_,_]) (by kernel_rfl) (by decide) rfl ⟨?_,?_,trivial⟩)))
 .refine aG ce.ints rfl rfl (v:=.d (ints ((sJ m).getD []))) rfl (OL.nil (OT.node [1,2] (os:=[_,_]) (by kernel_rfl) (by decide) rfl ⟨?_,?_,trivial⟩))
  .refine aG ce.bool rfl rfl (v:=.d (dB (sJ m).isSome)) rfl (OL.nil (OT.node [2] (os:=[_]) (by kernel_rfl) (by decide) rfl ⟨?_,trivial⟩))
   refine eH sz.ints rfl rfl rfl rfl rfl (aB rfl) (cells2:=[_]) rfl (OL.nil (OT.node [3] (os:=[_]) (by kernel_rfl) (by decide) rfl ⟨?_,trivial⟩))
   refine eH sz.bool rfl rfl rfl rfl rfl (aB rfl) (cells2:=[_]) rfl (OL.nil (OT.leaf (by kernel_rfl) ?_))
   exact AW.ret ⟨(),trivial,⟨_,.cellC rfl rfl ce.ints rfl (.cellC rfl rfl ce.bool rfl .nil),_,.cons (.le vR) (.cons (.le vR) .nil),rfl⟩,λ_ _ h=>by cases h⟩
  .refine eH sz.ints rfl rfl rfl rfl rfl (aB rfl) (cells2:=[_]) rfl (OL.nil (OT.node [1] (os:=[_]) (by kernel_rfl) (by decide) rfl ⟨?_,trivial⟩))
   refine aG ce.bool rfl rfl (v:=.d (dB (sJ m).isSome)) rfl (OL.nil (OT.node [3] (os:=[_]) (by kernel_rfl) (by decide) rfl ⟨?_,trivial⟩))
   refine eH sz.bool rfl rfl rfl rfl rfl (aB rfl) (cells2:=[_]) rfl (OL.nil (OT.leaf (by kernel_rfl) ?_))
   exact AW.ret ⟨(),trivial,⟨_,.cellC rfl rfl ce.ints rfl (.cellC rfl rfl ce.bool rfl .nil),_,.cons (.le vR) (.cons (.le vR) .nil),rfl⟩,λ_ _ h=>by cases h⟩
 .refine aG ce.bool rfl rfl (v:=.d (dB (sJ m).isSome)) rfl (OL.nil (OT.node [0] (os:=[_]) (by kernel_rfl) (by decide) rfl ⟨?_,trivial⟩))
  refine aG ce.ints rfl rfl (v:=.d (ints ((sJ m).getD []))) rfl (OL.nil (OT.node [2] (os:=[_]) (by kernel_rfl) (by decide) rfl ⟨?_,trivial⟩))
  refine eH sz.ints rfl rfl rfl rfl rfl (aB rfl) (cells2:=[_]) rfl (OL.nil (OT.node [3] (os:=[_]) (by kernel_rfl) (by decide) rfl ⟨?_,trivial⟩))
  refine eH sz.bool rfl rfl rfl rfl rfl (aB rfl) (cells2:=[_]) rfl (OL.nil (OT.leaf (by kernel_rfl) ?_))
  exact AW.ret ⟨(),trivial,⟨_,.cellC rfl rfl ce.ints rfl (.cellC rfl rfl ce.bool rfl .nil),_,.cons (.le vR) (.cons (.le vR) .nil),rfl⟩,λ_ _ h=>by cases h⟩
