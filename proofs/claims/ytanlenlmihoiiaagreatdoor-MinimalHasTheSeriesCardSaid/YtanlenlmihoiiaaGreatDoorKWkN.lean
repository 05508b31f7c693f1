/-
  Walks of package rows, part 3: the search along words (printed by mk2.py).
-/
import Derived.Test.YtanlenlmihoiiaaGreatDoorKWkM
set_option linter.unusedVariables false
set_option linter.unusedSimpArgs false
namespace Go.Proofs.YtanlenlmihoiiaaGreatDoor
open Go Go.AL
structure KM (α:Type) where
 b0:α->iI
 b1:α->iI
 b2:α->iI
 b3:α->iI
 b4:α->iI
 b5:α->iI
 b6:α->iI
 b7:α->iI
abbrev kmL {α:Type}(k:KM α)(y:α):List (Nat × iI):=[(1000,k.b0 y),(1001,k.b1 y),(1002,k.b2 y),(1003,k.b3 y),(1004,k.b4 y),(1005,k.b5 y),(1006,k.b6 y),(1007,k.b7 y)]
def kmM {α:Type}(k:KM α)(y:α):Mem:=lk none ((kmL k y).map λp=>(p.1,some p.2))
theorem O7 {α:Type}{k:KM α}{y y2:α}(id:Nat)(h:kmM k y id=none):kmM k y2 id=none:=by
 unfold kmM at *;simp only[kmL,List.map_cons,List.map_nil,lk] at h ⊢
 repeat (split at h;· cases h)
 simp only[*,if_false]
theorem aB2 {m:bQ}{w:List Int}:VD (ah8 m w) (yH m w):=VD.ag (.cons (VC.d _) (.cons (VC.d _) .nil))
theorem Wi {U:List D}{d:D}{R:List D}{b e c:Nat}:some (iI.row b (U.length+(c+1)) e 2 (U++d::R))=some (iI.row b ((U++[d]).length+c) e 2 ((U++[d])++R)):=by
 rw[List.append_assoc,jd,show U.length + [d].length+c=U.length+(c+1) by rw[kC];omega];rfl
theorem bq6 {U:List D}{d:D}{R:List D}:(U++d::R)[U.length]? = some d:=by
 rw[List.getElem?_append_right (Nat.le_refl _),Nat.sub_self];rfl
theorem Wj {m:bQ}{w:List Int}{s:Nat}:aZ m (w++[((s+1:Nat):Int)])=stepM m (aZ m w) s:=by
 rw[iq,Int.toNat_natCast,Nat.add_sub_cancel]
theorem xA (s:Nat)(w:List Int):dD (s+1) w=dD s w++[w++[((s+1:Nat):Int)]]:=by
 unfold dD;rw[List.range_succ,List.map_append];rfl
theorem zo (s:Nat)(w:List Int):(dD s w).length=s:=by simp[dD]
theorem aj7 {f:Nat->Option iI}{d e:Nat}{b:Option iI}(hne:e≠d)(h:f e=none):upd (upd f d b) e none=upd f d b:=aj6 hne h
def qO (k:Nat)(o:Nat):Nat:=if k % 2=0 then o else 0
def qP (k:Nat)(U:List D):List D:=if k % 2=0 then U else []
theorem Ud {k:Nat}{U:List D}:(qP k U).length=qO k U.length:=by unfold qP qO;split <;> rfl
theorem aZ6 {k:Nat}{U R:List D}:(if k % 2=0 then U++R else (U++R).drop U.length)=qP k U++R:=by
 unfold qP
 split
 .rfl
 .rw[List.drop_append_of_le_length (Nat.le_refl _),List.drop_length,List.nil_append]
def Rt:Nat->Option Nat
 | 30=>some 0
 | 31=>some 1
 | 32=>some 2
 | 33=>some 3
 | 34=>some 4
 | 35=>some 5
 | 36=>some 6
 | 37=>some 7
 | 38=>some 8
 | 39=>some 9
 | 40=>some 10
 | 41=>some 11
 | 42=>some 12
 | 43=>some 13
 | 44=>some 14
 | _=>none
theorem jV {t i:Nat}(h:Rt t=some i):t=[30,31,32,33,34,35,36,37,38,39,40,41,42,43,44].getD i 0:=by
 unfold Rt at h
 split at h <;> first|(cases h;rfl)|cases h
noncomputable def bq7 (m:bQ)(w:List Int)(U R:List D)(s b b5 n c:Nat)(t:Nat)(β:Nat->Nat × Nat):V :=
 match t with
 | 30=>.xE 44 b 2 U.length n c
 | 31=>.ptr 5 b5 0
 | 32=>.d (ints w)
 | 33=>.bK 33 (β 33).1 w.length (β 33).2
 | 34=>.d (dI ((s:Int)+1))
 | 35=>.d (.sl [dI ((s:Int)+1)])
 | 36=>.d (ints (w++[((s+1:Nat):Int)]))
 | 37=>uD m
 | 38=>.ptr 5 b5 1
 | 39=>.d (gm (aZ m w))
 | 40=>.d (dI ((s:Int)+1))
 | 41=>.d (gm (aZ m (w++[((s+1:Nat):Int)])))
 | 42=>ah8 m (w++[((s+1:Nat):Int)])
 | 43=>.d (.sl [yH m (w++[((s+1:Nat):Int)])])
 | 44=>.xE 44 (β 44).1 2 (qO (β 44).2 U.length) (n+1) ((β 44).2 / 2)
 | _=>.junk
noncomputable abbrev bq8 (m:bQ)(w:List Int)(U R:List D)(s b b5 n c:Nat):List Oc:=[⟨44,14,λβ=>.row (β 44).1 (qO (β 44).2 U.length+(β 44).2 / 2) T.Row 2 (qP (β 44).2 U++(R++[yH m (w++[((s+1:Nat):Int)])]))⟩,⟨33,6,λβ=>jY⟩,⟨33,3,λβ=>.row (β 33).1 (β 33).2 T.int 1 (w.map dI)⟩]
theorem bq9 {p:Nat->Prop}(h0:p 0)(h1:p 1)(h2:p 2)(h3:p 3)(h4:p 4)(h5:p 5)(h6:p 6)(h7:p 7)(h8:p 8)(h9:p 9)(h10:p 10)(h11:p 11)(h12:p 12)(h13:p 13)(Dp:p 14):∀ i,i<15->p i:=λi hi=>by
 have:i=0 \/ i=1 \/ i=2 \/ i=3 \/ i=4 \/ i=5 \/ i=6 \/ i=7 \/ i=8 \/ i=9 \/ i=10 \/ i=11 \/ i=12 \/ i=13 \/ i=14:=by omega
 rcases this with rfl|rfl|rfl|rfl|rfl|rfl|rfl|rfl|rfl|rfl|rfl|rfl|rfl|rfl|rfl <;> assumption
set_option maxRecDepth 8000 in
set_option maxHeartbeats 6400000 in
theorem Wl {m:bQ}{e:Nat}{α:Type}{k:KM α}{I:List (List Int)->α->Prop}{μ:List (List Int)->α->Nat}{f:Nat}{caps:List V}{y0:α}(ok:m.Ok)(fl:m.Full)(z6:m.Sz e)
  (hI:∀ Q y,I Q y->(∀ q,q ∈ Q->q.length<=6)/\Q.length<=μ Q y)
  (hf:∀ w Q y,I (w::Q) y->jD P f (ah8 m w::caps) (kmM k y) (λz:Bool × α=>.d (dB z.1)) (λz=>kmM k z.2) (λz=>(z.1=true->I (Q++dD m.k w) z.2/\μ (Q++dD m.k w) z.2<μ (w::Q) y)/\(z.1=false->I Q z.2/\μ Q z.2<μ (w::Q) y)))
  (h0:I [[]] y0) (hm:μ [[]] y0<=1000):jD P F.nM [uD m,.fn f caps] (kmM k y0) (λ_:α=>.oM []) (λy=>kmM k y) (λy=>I [] y):=by
 have hml:m.gV.length=m.k:=rfl;have k4:=z6.k2;refine jD.intro fn.nM (by rfl) (by rfl) (au (by rfl)) λE hE=>(AW.sg hE rfl (iG rfl rfl λb2=>(OL.nil (AW.sg hE rfl (aV fd.sV rfl rfl (aA ce.bF rfl rfl rfl (Ko (cs:=[_,_]) z.Row pl.Row (jR (by exact evM rfl) (jR (rq rfl) J9)) (by rfl) ?_)))))))
 refine ba7 (y:=yH m []) sl.Rows (VD.ag (.cons (by exact VC.mt) (.cons (VC.d _) .nil))) rfl (by decide) rfl λb10=>(uf rfl (OL.nil (AW.block (AW.rename 10 44 rfl ?_))))
 refine AW.aX (α:=α × List (List Int) × List D × Nat × Nat) [(1,_),(2,_)] [(2,_)] (λ(y,Q,P0,d0,c0)=>[(4,.xE 44 d0 2 P0.length Q.length c0)]) (λ(y,Q,P0,d0,c0)=>[(44,.row d0 (P0.length+c0) T.Row 2 (P0++Q.map (yH m))),(1000,k.b0 y),(1001,k.b1 y),(1002,k.b2 y),(1003,k.b3 y),(1004,k.b4 y),(1005,k.b5 y),(1006,k.b6 y),(1007,k.b7 y)]) (λ(y,Q,P0,d0,c0)=>I Q y/\μ Q y<=1000) (λ(y,Q,P0,d0,c0)=>μ Q y) (y0,[[]],[],b10,1) (.cons (N7 rfl) (.cons (iF rfl) .nil)) (.cons (jc rfl) .nil) ⟨⟨h0,hm⟩,.cons Vj .nil,.cons rfl (.cons rfl (.cons rfl (.cons rfl (.cons rfl (.cons rfl (.cons rfl (.cons rfl (.cons rfl .nil))))))))⟩ ?_
 rintro⟨y,Q,P0,d0,c0⟩ ⟨hIQ,hm1⟩
 have hIQ:I Q y:=hIQ;have hm1:μ Q y<=1000:=hm1;obtain⟨hq6,hqm⟩:=hI Q y hIQ;refine AW.seq (AW.sg hE rfl (mvB rfl (lnB sl.Rows rfl rfl (kS rfl rfl rfl (OL.nil (AW.cond rfl (λhQ=>?_) (λhQ=>?_)))))))
 .have hQ:0<Q.length:=by have:=mX hQ;omega
  refine AW.skip (AW.block (AW.seq (AW.rowLen 44 rfl λhcl=>?_)));rw[jd,dL] at hcl;obtain⟨c0,rfl⟩:∃ c9,c0=c9+1:=⟨c0-1,by omega⟩
  obtain⟨w,Q,rfl⟩:∃ w Q9,Q=w::Q9:=(match Q,hQ with|w::Q9,_=>⟨w,Q9,rfl⟩)
  have hw6:=hq6 w rY;refine AW.rg hE rfl (mvB rfl (bm6 (n:=0) sl.Rows rfl rfl (by omega) (i:=P0.length) rfl (GZ ag.Row (by decide) rfl rfl bq6 (vs:=[.d (ints w),.d (gm (aZ m w))]) rfl (au rfl) (al z.Row rfl λb5=>(eG sz.Row rfl rfl rfl rfl rfl (au rfl) (cells2:=[_,_]) rfl (OL.nil (AW.sg hE rfl ?_)))))))
  refine mvB rfl (bm5 (l:=1) sl.Rows rfl rfl (by omega) (o2:=P0.length+1) rfl (n2:=Q.length) rfl (asB rfl (OL.nil (AW.seq (AW.seq (AW.yP (by rw[hE];rfl) (SK.jK (Qv rfl (OL.nil ?_)))))))))
  refine SK.jK (aQ ag.Row rfl rfl (vs:=[.d (ints w),.d (gm (aZ m w))]) rfl (au rfl) (OL.nil ?_));refine SK.G6 (SO.Og (args':=ah8 m w::caps) (show 21<E.n by rw[hE];exact Nat.le_of_ble_eq_true (by rfl)) rfl (.cons vR vL) (Mc:=kmM k y) (λid blk hk=>oz (l:=kmL k y) (.cons rfl (.cons rfl (.cons rfl (.cons rfl (.cons rfl (.cons rfl (.cons rfl (.cons rfl trivial)))))))) id blk hk) (hf w Q y hIQ) (λx _ id hk=>O7 id hk) ?_)
  rintro⟨bz,y2⟩ ⟨hzt,hzf⟩
  have hzt:bz=true->_:=hzt;have hzf:bz=false->_:=hzf;refine SK.jK (nt rfl (OL.nil ?_));refine SK.nil (AW.cond rfl (λhb9=>?_) (λhb9=>?_))
  .have _h:=hb9;refine AW.exit ?_;have hz:=hzf (by simpa using hb9)
   exact AW.again (x:=(y,w::Q,P0,d0,c0+1)) (y2,Q,P0++[yH m w],d0,c0) (by exact hz.2) ⟨⟨hz.1,by have h9:μ Q y2<μ (w::Q) y:=hz.2;omega⟩,Knows.app .jm (.cons (by rw[jd];exact bV.refl _) .nil),dP.app (.cons rfl .nil) (.cons Wi (.cons rfl (.cons rfl (.cons rfl (.cons rfl (.cons rfl (.cons rfl (.cons rfl (.cons rfl .nil)))))))))⟩
  .have hz:=hzt (by simpa using hb9)
   have hqk:=(hI _ _ hz.1).2;have hzm:=hz.2;rw[jd,zo] at hqk;refine AW.skip (AW.sg hE rfl (aG rfl (OL.nil (AW.block ?_))));refine AW.aX (α:=Nat × List D × Nat × Nat) [(1,_),(2,_),(5,_)] [(2,_),(5,_)] (λ(s,U,b,c)=>[(4,.xE 44 b 2 U.length (Q++dD s w).length c),(6,.d (dI ((s:Int)+1)))]) (λ(s,U,b,c)=>[(44,.row b (U.length+c) T.Row 2 (U++(Q++dD s w).map (yH m))),(1000,k.b0 y2),(1001,k.b1 y2),(1002,k.b2 y2),(1003,k.b3 y2),(1004,k.b4 y2),(1005,k.b5 y2),(1006,k.b6 y2),(1007,k.b7 y2)]) (λ(s,U,b,c)=>s<=m.k) (λ(s,U,b,c)=>m.k-s) (0,P0++[yH m w],d0,c0) (.cons (N7 rfl) (.cons (iF rfl) (.cons (iF rfl) .nil))) (.cons (jc rfl) (.cons (jc rfl) .nil)) ⟨Nat.zero_le _,.cons (by rw[jd,show dD 0 w=[] from rfl,List.append_nil];exact bV.refl _) (.cons (bV.int (by omega)) .nil),.cons (by rw[show dD 0 w=[] from rfl,List.append_nil];exact Wi) (.cons rfl (.cons rfl (.cons rfl (.cons rfl (.cons rfl (.cons rfl (.cons rfl (.cons rfl .nil))))))))⟩ ?_
   rintro⟨s,U,b,c⟩ h1
   have h1:s<=m.k:=h1;refine AW.seq (AW.sg hE rfl (aj rfl (aV fd.jI rfl rfl (aA ce.fZ rfl rfl rfl (fO sl.fZ rfl rfl (Aw rfl rfl rfl (OL.nil ?_)))))));refine AW.cond rfl (λh27=>?_) (λh27=>?_)
   .try simp only[fG] at h27
    refine AW.skip (AW.seq (AW.block ?_));have hsk:s<m.k:=by omega
    have hkl:(Q++dD (s+1) w).length=(Q++dD s w).length+1:=by rw[xA,<- List.append_assoc,jd];rfl
    have hkm:(Q++dD s w).map (yH m)++[yH m (w++[((s+1:Nat):Int)])]=(Q++dD (s+1) w).map (yH m):=by rw[xA,<- List.append_assoc];exact (List.map_append (f:=yH m) (l₁:=(Q++dD s w)) (l₂:=[(w++[((s+1:Nat):Int)])])).symm
    have hqs:(Q++dD s w).length<=1000:=by rw[jd,zo];omega
    have Rq:U.length+(Q++dD s w).length=(U++(Q++dD s w).map (yH m)).length:=by rw[show (U++(Q++dD s w).map (yH m)).length=U.length+((Q++dD s w).map (yH m)).length from jd,dL]
    refine AW.vX (bq7 m w U ((Q++dD s w).map (yH m)) s b b5 (Q++dD s w).length c) Rt (bq8 m w U ((Q++dD s w).map (yH m)) s b b5 (Q++dD s w).length c) 15 ak (by rw[hE];rfl) (by rfl) (by kernel_rfl) (by kernel_rfl) ?_ ?_
    .refine bq9 ?_ ?_ ?_ ?_ ?_ ?_ ?_ ?_ ?_ ?_ ?_ ?_ ?_ ?_ ?_
     .exact λβ L c9=>⟨_,rfl,.inl (OG.aP (mvB ((di rfl).trans rfl) ⟨β,cu (d:=30) (i:=0) rfl (λt ht=>jV ht) (lt_size 16 c9.size rfl (by decide)) (bg (lt_size 16 c9.size rfl (by decide)) (by rfl))⟩))⟩
     .exact λβ L c9=>⟨_,rfl,.inl (OG.aP (aV (b:=b5) (o:=0) (id:=5) fd.bm7 ((di rfl).trans rfl) rfl ⟨β,cu (d:=31) (i:=1) rfl (λt ht=>jV ht) (lt_size 16 c9.size rfl (by decide)) (bg (lt_size 16 c9.size rfl (by decide)) (by rfl))⟩))⟩
     .exact λβ L c9=>⟨_,rfl,.inl (OG.aP (aA ce.ints (bT rfl (aY (j:=1) c9 (by kernel_rfl))) ((iY (aH (show (5:Nat)≠44 by decide) (aH (show (5:Nat)≠33 by decide) (aH (show (5:Nat)≠33 by decide) rfl)))):_=some (.box b5 T.Row [.d (ints w),.d (gm (aZ m w))])) (v:=.d (ints w)) rfl ⟨β,cu (d:=32) (i:=2) rfl (λt ht=>jV ht) (lt_size 16 c9.size rfl (by decide)) (bg (lt_size 16 c9.size rfl (by decide)) (by rfl))⟩))⟩
     .exact λβ L c9=>⟨_,rfl,.inl (OG.aP (clR rfl (.cons (aC (bT rfl (aY (j:=2) c9 (by kernel_rfl)))) .nil) (VP (l:=w) (by omega)) (iY (aH (show (33:Nat)≠44 by decide) (DC (by exact Ib c9 (by kernel_rfl)) (DC (by exact c9.no) rfl)))) λb8 c8=>⟨upd β 33 (b8,c8),Dz (d:=33) (i:=3) (x:=(b8,c8)) rfl (λt ht=>jV ht) (lt_size 16 c9.size rfl (by decide)) rfl (BR (lt_size 16 c9.size rfl (by decide)) (show (14:Nat)≠3 by decide) (.inl (show (44:Nat)≠33 by decide)) (by exact λ_=>rfl) (BR (lt_size 16 c9.size rfl (by decide)) (show (6:Nat)≠3 by decide) (.inr (Ib c9 (by kernel_rfl))) (by exact λ_=>rfl) (vV (lt_size 16 c9.size rfl (by decide)) rfl rfl rfl c9.no (by rfl) (λy hy=>absurd hy List.not_mem_nil)))) (λt j ho hl=>by unfold Rt at ho;split at ho <;> cases ho <;> first|rfl|(rw[c9.no] at hl;cases hl)|exact sF c9 (by kernel_rfl) hl)⟩))⟩
     .exact λβ L c9=>⟨_,rfl,.inl (OG.aP (aj (y:=dI ((s:Int)+1)) ((di rfl).trans rfl) ⟨β,cu (d:=34) (i:=4) rfl (λt ht=>jV ht) (lt_size 16 c9.size rfl (by decide)) (bg (lt_size 16 c9.size rfl (by decide)) (by rfl))⟩))⟩
     .exact λβ L c9=>⟨_,rfl,.inl (OG.aP (xG (y:=dI ((s:Int)+1)) sl.ints (aA0 (bT rfl (aY (j:=4) c9 (by kernel_rfl))) (VC.d _).vd) rfl (by decide) ⟨β,cu (d:=35) (i:=5) rfl (λt ht=>jV ht) (lt_size 16 c9.size rfl (by decide)) (bg (lt_size 16 c9.size rfl (by decide)) (by rfl))⟩))⟩
     .exact λβ L c9=>⟨_,rfl,.inl (OG.aP (aq6 sl.ints rfl (bT rfl (aY (j:=3) c9 (by kernel_rfl))) (iY (aH (show (33:Nat)≠44 by decide) (DC (by exact c9.no) (vU (aY (j:=3) c9 (by kernel_rfl)) rfl rfl)))) (by rw[dL]) (aA1 (bT rfl (aY (j:=5) c9 (by kernel_rfl))) (VC.d _)) (λy hy=>by rw[lV hy];rfl) (by simp only[kC];omega) (by simp only[kC];omega) (.inl (iY (aH (show (36:Nat)≠44 by decide) (aH (show (36:Nat)≠33 by decide) (aH (show (36:Nat)≠33 by decide) rfl))))) (ys:=(w++[((s+1:Nat):Int)]).map dI) (by rw[List.map_append];rfl) ⟨upd β 36 (0,0),Dz (d:=36) (i:=6) (x:=(0,0)) rfl (λt ht=>jV ht) (lt_size 16 c9.size rfl (by decide)) rfl (Eq.trans (BR (lt_size 16 c9.size rfl (by decide)) (show (14:Nat)≠6 by decide) (.inl (show (44:Nat)≠33 by decide)) (by exact λ_=>rfl) (vV (lt_size 16 c9.size rfl (by decide)) rfl rfl rfl c9.no (by rfl) (List.forall_mem_cons.2 ⟨(λ_ hne=>absurd rfl hne),(λy hy=>absurd hy List.not_mem_nil)⟩))) (aj7 (by decide) (iY (aH (show (36:Nat)≠44 by decide) (aH (show (36:Nat)≠33 by decide) (aH (show (36:Nat)≠33 by decide) rfl))))).symm) (λt j ho hl=>by unfold Rt at ho;split at ho <;> cases ho <;> first|rfl|(rw[c9.no] at hl;cases hl)|exact sF c9 (by kernel_rfl) hl)⟩))⟩
     .exact λβ L c9=>⟨_,rfl,.inl (OG.aP (aQ ag.Machine ((di rfl).trans rfl) ((iY (aH (show (2:Nat)≠44 by decide) (aH (show (2:Nat)≠33 by decide) (aH (show (2:Nat)≠33 by decide) rfl)))):_=some (.box b2 T.Machine [.d (gm m.ini),.d (gm m.fin),.d (.sl (m.gV.map kN))])) (vs:=[_,_,_]) rfl (au rfl) ⟨β,cu (d:=37) (i:=7) rfl (λt ht=>jV ht) (lt_size 16 c9.size rfl (by decide)) (bg (lt_size 16 c9.size rfl (by decide)) (by rfl))⟩))⟩
     .exact λβ L c9=>⟨_,rfl,.inl (OG.aP (aV (b:=b5) (o:=0) (id:=5) fd.QJ ((di rfl).trans rfl) rfl ⟨β,cu (d:=38) (i:=8) rfl (λt ht=>jV ht) (lt_size 16 c9.size rfl (by decide)) (bg (lt_size 16 c9.size rfl (by decide)) (by rfl))⟩))⟩
     .exact λβ L c9=>⟨_,rfl,.inl (OG.aP (aA ce.bF (bT rfl (aY (j:=8) c9 (by kernel_rfl))) ((iY (aH (show (5:Nat)≠44 by decide) (aH (show (5:Nat)≠33 by decide) (aH (show (5:Nat)≠33 by decide) rfl)))):_=some (.box b5 T.Row [.d (ints w),.d (gm (aZ m w))])) (v:=.d (gm (aZ m w))) rfl ⟨β,cu (d:=39) (i:=9) rfl (λt ht=>jV ht) (lt_size 16 c9.size rfl (by decide)) (bg (lt_size 16 c9.size rfl (by decide)) (by rfl))⟩))⟩
     .exact λβ L c9=>⟨_,rfl,.inl (OG.aP (aj (y:=dI ((s:Int)+1)) ((di rfl).trans rfl) ⟨β,cu (d:=40) (i:=10) rfl (λt ht=>jV ht) (lt_size 16 c9.size rfl (by decide)) (bg (lt_size 16 c9.size rfl (by decide)) (by rfl))⟩))⟩
     .exact λβ L c9=>⟨_,rfl,.inl (OG.aP (bP rfl (.cons (aC (bT rfl (aY (j:=7) c9 (by kernel_rfl)))) (.cons (aC (bT rfl (aY (j:=9) c9 (by kernel_rfl)))) (.cons (aC (bT rfl (aY (j:=10) c9 (by kernel_rfl)))) .nil))) (show ai P F.nK [uD m,.d (gm (aZ m w)),.d (dI ((s:Int)+1))] (.d (gm (aZ m (w++[((s+1:Nat):Int)])))) by rw[Wj];exact aZ4 (v:=aZ m w) ok fl z6 (lu ok w) hsk (mV z6 hw6)) ⟨β,cu (d:=41) (i:=11) rfl (λt ht=>jV ht) (lt_size 16 c9.size rfl (by decide)) (bg (lt_size 16 c9.size rfl (by decide)) (by rfl))⟩))⟩
     .exact λβ L c9=>⟨_,rfl,.inl (OG.aP (Ko (cs:=[_,_]) z.Row pl.Row (jR (bT rfl (aY (j:=6) c9 (by kernel_rfl))) (jR (bT rfl (aY (j:=11) c9 (by kernel_rfl))) J9)) (by rfl) ⟨β,cu (d:=42) (i:=12) rfl (λt ht=>jV ht) (lt_size 16 c9.size rfl (by decide)) (bg (lt_size 16 c9.size rfl (by decide)) (by rfl))⟩))⟩
     .exact λβ L c9=>⟨_,rfl,.inl (OG.aP (xG (y:=yH m (w++[((s+1:Nat):Int)])) sl.Rows (aA0 (bT rfl (aY (j:=12) c9 (by kernel_rfl))) aB2) rfl (by decide) ⟨β,cu (d:=43) (i:=13) rfl (λt ht=>jV ht) (lt_size 16 c9.size rfl (by decide)) (bg (lt_size 16 c9.size rfl (by decide)) (by rfl))⟩))⟩
     .exact λβ L c9=>⟨_,rfl,.inl (OG.aP (apB sl.Rows rfl (bT rfl (aY (j:=0) c9 (by kernel_rfl))) ((iY (DC (by exact c9.no) (aH (show (44:Nat)≠33 by decide) (aH (show (44:Nat)≠33 by decide) rfl)))):_=some (.row b (U.length+c) T.Row 2 (U++(Q++dD s w).map (yH m)))) Rq (aA1 (bT rfl (aY (j:=13) c9 (by kernel_rfl))) (VC.d _)) (λy hy=>by rw[lV hy];rfl) (by simp only[kC];omega) (by simp only[kC];omega) (.inr rfl) λb9 k9=>(by rw[aZ6,List.append_assoc];exact⟨upd β 44 (b9,k9),Dz (d:=44) (i:=14) (x:=(b9,k9)) rfl (λt ht=>jV ht) (lt_size 16 c9.size rfl (by decide)) rfl (Eq.trans (vV (lt_size 16 c9.size rfl (by decide)) rfl rfl rfl c9.no (by rfl) (List.forall_mem_cons.2 ⟨(by exact λ_ _=>rfl),(List.forall_mem_cons.2 ⟨(by exact λ_ _=>rfl),(λy hy=>absurd hy List.not_mem_nil)⟩)⟩)) (IU _ _ _ _).symm) (λt j ho hl=>by unfold Rt at ho;split at ho <;> cases ho <;> first|rfl|(rw[c9.no] at hl;cases hl)|exact sF c9 (by kernel_rfl) hl)⟩)))⟩
    refine λβ L c9 hA=>⟨_,rfl,.inl (OG.aP (asB (bT rfl (hA 14 (by decide))) ?_))⟩
    refine OL.nil ?_;refine AW.to ([(1,.fn f caps),(2,.ptr 2 b2 0),(5,.ptr 5 b5 0),(6,.d (dI ((s:Int)+1)))]++[(4,.xE 44 (β 44).1 2 (qP (β 44).2 U).length (Q++dD (s+1) w).length ((β 44).2 / 2))]) ([(2,.box b2 T.Machine [.d (gm m.ini),.d (gm m.fin),.d (.sl (m.gV.map kN))]),(5,.box b5 T.Row [.d (ints w),.d (gm (aZ m w))]),(1000,k.b0 y2),(1001,k.b1 y2),(1002,k.b2 y2),(1003,k.b3 y2),(1004,k.b4 y2),(1005,k.b5 y2),(1006,k.b6 y2),(1007,k.b7 y2)]++[(44,.row (β 44).1 ((qP (β 44).2 U).length+(β 44).2 / 2) T.Row 2 (qP (β 44).2 U++(Q++dD (s+1) w).map (yH m)))]) (Knows.app (.cons (aC (MV (by decide) ((di rfl).trans rfl))) (.cons (aC (MV (by decide) ((di rfl).trans rfl))) (.cons (aC (MV (by decide) ((di rfl).trans rfl))) (.cons (aC (MV (by decide) ((di rfl).trans rfl))) (.nil))))) (.cons (by rw[Ud,hkl];exact aC av1) .nil)) (dP.app (.cons (put_mem (iY (aH (show (2:Nat)≠44 by decide) (aH (show (2:Nat)≠33 by decide) (aH (show (2:Nat)≠33 by decide) rfl))))) (.cons (put_mem (iY (aH (show (5:Nat)≠44 by decide) (aH (show (5:Nat)≠33 by decide) (aH (show (5:Nat)≠33 by decide) rfl))))) (.cons (put_mem (iY (aH (show (1000:Nat)≠44 by decide) (aH (show (1000:Nat)≠33 by decide) (aH (show (1000:Nat)≠33 by decide) rfl))))) (.cons (put_mem (iY (aH (show (1001:Nat)≠44 by decide) (aH (show (1001:Nat)≠33 by decide) (aH (show (1001:Nat)≠33 by decide) rfl))))) (.cons (put_mem (iY (aH (show (1002:Nat)≠44 by decide) (aH (show (1002:Nat)≠33 by decide) (aH (show (1002:Nat)≠33 by decide) rfl))))) (.cons (put_mem (iY (aH (show (1003:Nat)≠44 by decide) (aH (show (1003:Nat)≠33 by decide) (aH (show (1003:Nat)≠33 by decide) rfl))))) (.cons (put_mem (iY (aH (show (1004:Nat)≠44 by decide) (aH (show (1004:Nat)≠33 by decide) (aH (show (1004:Nat)≠33 by decide) rfl))))) (.cons (put_mem (iY (aH (show (1005:Nat)≠44 by decide) (aH (show (1005:Nat)≠33 by decide) (aH (show (1005:Nat)≠33 by decide) rfl))))) (.cons (put_mem (iY (aH (show (1006:Nat)≠44 by decide) (aH (show (1006:Nat)≠33 by decide) (aH (show (1006:Nat)≠33 by decide) rfl))))) (.cons (put_mem (iY (aH (show (1007:Nat)≠44 by decide) (aH (show (1007:Nat)≠33 by decide) (aH (show (1007:Nat)≠33 by decide) rfl))))) (.nil))))))))))) (.cons ((put_mem (iY (vU (hA 14 (by decide)) rfl rfl))).trans (by rw[Ud,hkm])) .nil)) ?_
    generalize qP (β 44).2 U=P3;generalize (β 44).1=b3;generalize (β 44).2 / 2=c3;refine AW.rg hE rfl (aj rfl (aJ rfl rfl (by omega) (aG rfl (OL.nil ?_))))
    exact AW.again (x:=(s,U,b,c)) (s+1,P3,b3,c3) (by (simp only[];omega)) ⟨by omega,Knows.app .yI (.cons vR (.cons (bV.int (by omega)) .nil)),dP.app (.cons rfl (.cons rfl .nil)) (.cons rfl (.cons rfl (.cons rfl (.cons rfl (.cons rfl (.cons rfl (.cons rfl (.cons rfl (.cons rfl .nil)))))))))⟩
   .try simp only[fG] at h27
    refine AW.exit ?_;obtain rfl:s=m.k:=(by omega)
    exact AW.again (x:=(y,w::Q,P0,d0,c0+1)) (y2,Q++dD m.k w,U,b,c) (by exact hz.2) ⟨⟨hz.1,by have h9:μ (Q++dD m.k w) y2<μ (w::Q) y:=hz.2;omega⟩,Knows.app .jm .dw,dP.app (.cons rfl .nil) (.cons rfl (.cons rfl (.cons rfl (.cons rfl (.cons rfl (.cons rfl (.cons rfl (.cons rfl (.cons rfl .nil)))))))))⟩
 .have hQ:Q.length=0:=by have:=oN hQ;omega
  obtain rfl:Q=[]:=EQ hQ;exact AW.exit (⟨y,hIQ,⟨[],.nil,[],.nil,rfl⟩,λid blk hk=>oz (l:=kmL k y) (.cons rfl (.cons rfl (.cons rfl (.cons rfl (.cons rfl (.cons rfl (.cons rfl (.cons rfl trivial)))))))) id blk hk⟩)
