/-
  Walks of package rows, part 3: the search along words (printed by mk2.py).
-/
import Derived.Test.YtmcoihfkniccdaaGreatDoorKWkM
set_option linter.unusedVariables false
set_option linter.unusedSimpArgs false
namespace Go.Proofs.YtmcoihfkniccdaaGreatDoor
open Go Go.AL
structure KM (α:Type) where
 b0:α→Blk
 b1:α→Blk
 b2:α→Blk
 b3:α→Blk
 b4:α→Blk
 b5:α→Blk
 b6:α→Blk
 b7:α→Blk
abbrev kmL {α:Type}(k:KM α)(y:α):List (Nat × Blk):=[(1000,k.b0 y),(1001,k.b1 y),(1002,k.b2 y),(1003,k.b3 y),(1004,k.b4 y),(1005,k.b5 y),(1006,k.b6 y),(1007,k.b7 y)]
def kmM {α:Type}(k:KM α)(y:α):Mem:=lk none ((kmL k y).map fun p=>(p.1,some p.2))
theorem kmM_none {α:Type}{k:KM α}{y y2:α}(id:Nat)(h:kmM k y id=none):kmM k y2 id=none:=by
 unfold kmM at *
 simp only [kmL,List.map_cons,List.map_nil,lk] at h ⊢
 repeat (split at h;· cases h)
 simp only [*,if_false]
theorem vd_row {m:Mach}{w:List Int}:VD (vRow m w) (dRow m w):=VD.ag (.cons (VC.d _) (.cons (VC.d _) .nil))
theorem qrow_pop {U:List D}{d:D}{R:List D}{b e c:Nat}:some (Blk.row b (U.length+(c+1)) e 2 (U++d::R))=some (Blk.row b ((U++[d]).length+c) e 2 ((U++[d])++R)):=by
 rw [List.append_assoc,la9,show U.length + [d].length+c=U.length+(c+1) by rw [ls9];omega];rfl
theorem q_at {U:List D}{d:D}{R:List D}:(U++d::R)[U.length]? = some d:=by
 rw [List.getElem?_append_right (Nat.le_refl _),Nat.sub_self];rfl
theorem vecM_kid {m:Mach}{w:List Int}{s:Nat}:vecM m (w++[((s+1:Nat):Int)])=stepM m (vecM m w) s:=by
 rw [vecM_snoc,Int.toNat_natCast,Nat.add_sub_cancel]
theorem kidsW_succ (s:Nat)(w:List Int):kidsW (s+1) w=kidsW s w++[w++[((s+1:Nat):Int)]]:=by
 unfold kidsW
 rw [List.range_succ,List.map_append];rfl
theorem kidsW_len (s:Nat)(w:List Int):(kidsW s w).length=s:=by simp [kidsW]
theorem upd_noneB {f:Nat→Option Blk}{d e:Nat}{b:Option Blk}(hne:e≠d)(h:f e=none):upd (upd f d b) e none=upd f d b:=upd_noneM hne h
def qO (k:Nat)(o:Nat):Nat:=if k % 2=0 then o else 0
def qP (k:Nat)(U:List D):List D:=if k % 2=0 then U else []
theorem qP_len {k:Nat}{U:List D}:(qP k U).length=qO k U.length:=by unfold qP qO;split <;> rfl
theorem qP_es {k:Nat}{U R:List D}:(if k % 2=0 then U++R else (U++R).drop U.length)=qP k U++R:=by
 unfold qP
 split
 ·rfl
 ·rw [List.drop_append_of_le_length (Nat.le_refl _),List.drop_length,List.nil_append]
def ownEx:Nat→Option Nat
 | 30=>some 0
 | 31=>some 1
 | 32=>some 2
 | 33=>some 3
 | 34=>some 4
 | 35=>some 5
 | 36=>some 6
 | 37=>some 7
 | 38=>some 8
 | 39=>some 9
 | 40=>some 10
 | 41=>some 11
 | 42=>some 12
 | 43=>some 13
 | 44=>some 14
 | _=>none
theorem ownEx_inj {t i:Nat}(h:ownEx t=some i):t=[30,31,32,33,34,35,36,37,38,39,40,41,42,43,44].getD i 0:=by
 unfold ownEx at h
 split at h <;> first|(cases h;rfl)|cases h
noncomputable def valEx (m:Mach)(w:List Int)(U R:List D)(s b b5 n c:Nat)(t:Nat)(β:Nat→Nat × Nat):V :=
 match t with
 | 30=>.osb 44 b 2 U.length n c
 | 31=>.ptr 5 b5 0
 | 32=>.d (ints w)
 | 33=>.osl 33 (β 33).1 w.length (β 33).2
 | 34=>.d (dI ((s:Int)+1))
 | 35=>.d (.sl [dI ((s:Int)+1)])
 | 36=>.d (ints (w++[((s+1:Nat):Int)]))
 | 37=>vMach m
 | 38=>.ptr 5 b5 1
 | 39=>.d (dQs (vecM m w))
 | 40=>.d (dI ((s:Int)+1))
 | 41=>.d (dQs (vecM m (w++[((s+1:Nat):Int)])))
 | 42=>vRow m (w++[((s+1:Nat):Int)])
 | 43=>.d (.sl [dRow m (w++[((s+1:Nat):Int)])])
 | 44=>.osb 44 (β 44).1 2 (qO (β 44).2 U.length) (n+1) ((β 44).2 / 2)
 | _=>.junk
noncomputable abbrev telEx (m:Mach)(w:List Int)(U R:List D)(s b b5 n c:Nat):List Tell:=[⟨44,14,fun β=>.row (β 44).1 (qO (β 44).2 U.length+(β 44).2 / 2) T.Row 2 (qP (β 44).2 U++(R++[dRow m (w++[((s+1:Nat):Int)])]))⟩,⟨33,6,fun β=>deadBlk⟩,⟨33,3,fun β=>.row (β 33).1 (β 33).2 T.int 1 (w.map dI)⟩]
theorem casEx {p:Nat→Prop}(h0:p 0)(h1:p 1)(h2:p 2)(h3:p 3)(h4:p 4)(h5:p 5)(h6:p 6)(h7:p 7)(h8:p 8)(h9:p 9)(h10:p 10)(h11:p 11)(h12:p 12)(h13:p 13)(h14:p 14):∀ i,i<15→p i:=fun i hi=>by
 have:i=0 ∨ i=1 ∨ i=2 ∨ i=3 ∨ i=4 ∨ i=5 ∨ i=6 ∨ i=7 ∨ i=8 ∨ i=9 ∨ i=10 ∨ i=11 ∨ i=12 ∨ i=13 ∨ i=14:=by omega
 rcases this with rfl|rfl|rfl|rfl|rfl|rfl|rfl|rfl|rfl|rfl|rfl|rfl|rfl|rfl|rfl <;> assumption
set_option maxRecDepth 8000 in
set_option maxHeartbeats 6400000 in
theorem ExploreQ {m:Mach}{e:Nat}{α:Type}{k:KM α}{I:List (List Int)→α→Prop}{μ:List (List Int)→α→Nat}{f:Nat}{caps:List V}{y0:α}(ok:m.Ok)(fl:m.Full)(z6:m.Sz e)
  (hI:∀ Q y,I Q y→(∀ q,q ∈ Q→q.length≤6)∧Q.length≤μ Q y)
  (hf:∀ w Q y,I (w::Q) y→FSpecE P f (vRow m w::caps) (kmM k y) (fun z:Bool × α=>.d (dB z.1)) (fun z=>kmM k z.2) (fun z=>(z.1=true→I (Q++kidsW m.k w) z.2∧μ (Q++kidsW m.k w) z.2<μ (w::Q) y)∧(z.1=false→I Q z.2∧μ Q z.2<μ (w::Q) y)))
  (h0:I [[]] y0) (hm:μ [[]] y0≤1000):FSpecE P F.rows_Machine_Explore [vMach m,.fn f caps] (kmM k y0) (fun _:α=>.tup []) (fun y=>kmM k y) (fun y=>I [] y):=by
 have hml:m.mats.length=m.k:=rfl
 have k4:=z6.k2
 refine FSpecE.intro fn.rows_Machine_Explore (by rfl) (by rfl) (nb9 (by rfl)) fun E hE=>(AW.sg hE rfl (bxA rfl rfl fun b2=>(OL.nil (AW.sg hE rfl (faP fd.Machine_0 rfl rfl (ldPC ce.Rats rfl rfl rfl (bd2 (cs:=[_,_]) z.Row pl.Row (pvC (by exact evM rfl) (pvC (evD rfl) pvN)) (by rfl) ?_)))))))
 refine lt1O (y:=dRow m []) sl.Rows (VD.ag (.cons (by exact VC.mt) (.cons (VC.d _) .nil))) rfl (by decide) rfl fun b10=>(asO rfl (OL.nil (AW.block (AW.rename 10 44 rfl ?_))))
 refine AW.whileK (α:=α × List (List Int) × List D × Nat × Nat) [(1,_),(2,_)] [(2,_)] (fun (y,Q,P0,d0,c0)=>[(4,.osb 44 d0 2 P0.length Q.length c0)]) (fun (y,Q,P0,d0,c0)=>[(44,.row d0 (P0.length+c0) T.Row 2 (P0++Q.map (dRow m))),(1000,k.b0 y),(1001,k.b1 y),(1002,k.b2 y),(1003,k.b3 y),(1004,k.b4 y),(1005,k.b5 y),(1006,k.b6 y),(1007,k.b7 y)]) (fun (y,Q,P0,d0,c0)=>I Q y∧μ Q y≤1000) (fun (y,Q,P0,d0,c0)=>μ Q y) (y0,[[]],[],b10,1) (.cons (knF rfl) (.cons (knP rfl) .nil)) (.cons (owB rfl) .nil) ⟨⟨h0,hm⟩,.cons vle_osb0 .nil,.cons rfl (.cons rfl (.cons rfl (.cons rfl (.cons rfl (.cons rfl (.cons rfl (.cons rfl (.cons rfl .nil))))))))⟩ ?_
 rintro ⟨y,Q,P0,d0,c0⟩ ⟨hIQ,hm1⟩
 have hIQ:I Q y:=hIQ
 have hm1:μ Q y≤1000:=hm1
 obtain ⟨hq6,hqm⟩:=hI Q y hIQ
 refine AW.seq (AW.sg hE rfl (mvB rfl (lnB sl.Rows rfl rfl (c_gtr rfl rfl rfl (OL.nil (AW.cond rfl (fun hQ=>?_) (fun hQ=>?_)))))))
 ·have hQ:0<Q.length:=by have:=dt9 hQ;omega
  refine AW.skip (AW.block (AW.seq (AW.rowLen 44 rfl fun hcl=>?_)))
  rw [la9,lm9] at hcl
  obtain ⟨c0,rfl⟩:∃ c9,c0=c9+1:=⟨c0-1,by omega⟩
  obtain ⟨w,Q,rfl⟩:∃ w Q9,Q=w::Q9:=(match Q,hQ with|w::Q9,_=>⟨w,Q9,rfl⟩)
  have hw6:=hq6 w mc9
  refine AW.rg hE rfl (mvB rfl (ixBn (n:=0) sl.Rows rfl rfl (by omega) (i:=P0.length) rfl (ldEA ag.Row (by decide) rfl rfl q_at (vs:=[.d (ints w),.d (dQs (vecM m w))]) rfl (nb9 rfl) (al z.Row rfl fun b5=>(sto sz.Row rfl rfl rfl rfl rfl (nb9 rfl) (cells2:=[_,_]) rfl (OL.nil (AW.sg hE rfl ?_)))))))
  refine mvB rfl (slBB (l:=1) sl.Rows rfl rfl (by omega) (o2:=P0.length+1) rfl (n2:=Q.length) rfl (asB rfl (OL.nil (AW.seq (AW.seq (AW.regionK (by rw [hE];rfl) (SK.ofOL (mvF rfl (OL.nil ?_)))))))))
  refine SK.ofOL (ldPA ag.Row rfl rfl (vs:=[.d (ints w),.d (dQs (vecM m w))]) rfl (nb9 rfl) (OL.nil ?_))
  refine SK.ofSO (SO.callE (args':=vRow m w::caps) (show 21<E.n by rw [hE];exact Nat.le_of_ble_eq_true (by rfl)) rfl (.cons vR vL) (Mc:=kmM k y) (fun id blk hk=>lk_own (l:=kmL k y) (.cons rfl (.cons rfl (.cons rfl (.cons rfl (.cons rfl (.cons rfl (.cons rfl (.cons rfl trivial)))))))) id blk hk) (hf w Q y hIQ) (fun x _ id hk=>kmM_none id hk) ?_)
  rintro ⟨bz,y2⟩ ⟨hzt,hzf⟩
  have hzt:bz=true→_:=hzt
  have hzf:bz=false→_:=hzf
  refine SK.ofOL (nt rfl (OL.nil ?_))
  refine SK.nil (AW.cond rfl (fun hb9=>?_) (fun hb9=>?_))
  ·have _h:=hb9
   refine AW.exit ?_
   have hz:=hzf (by simpa using hb9)
   exact AW.again (x:=(y,w::Q,P0,d0,c0+1)) (y2,Q,P0++[dRow m w],d0,c0) (by exact hz.2) ⟨⟨hz.1,by have h9:μ Q y2<μ (w::Q) y:=hz.2;omega⟩,Knows.app .rq2 (.cons (by rw [la9];exact VLe.refl _) .nil),Owns.app (.cons rfl .nil) (.cons qrow_pop (.cons rfl (.cons rfl (.cons rfl (.cons rfl (.cons rfl (.cons rfl (.cons rfl (.cons rfl .nil)))))))))⟩
  ·have hz:=hzt (by simpa using hb9)
   have hqk:=(hI _ _ hz.1).2
   have hzm:=hz.2
   rw [la9,kidsW_len] at hqk
   refine AW.skip (AW.sg hE rfl (asD rfl (OL.nil (AW.block ?_))))
   refine AW.whileK (α:=Nat × List D × Nat × Nat) [(1,_),(2,_),(5,_)] [(2,_),(5,_)] (fun (s,U,b,c)=>[(4,.osb 44 b 2 U.length (Q++kidsW s w).length c),(6,.d (dI ((s:Int)+1)))]) (fun (s,U,b,c)=>[(44,.row b (U.length+c) T.Row 2 (U++(Q++kidsW s w).map (dRow m))),(1000,k.b0 y2),(1001,k.b1 y2),(1002,k.b2 y2),(1003,k.b3 y2),(1004,k.b4 y2),(1005,k.b5 y2),(1006,k.b6 y2),(1007,k.b7 y2)]) (fun (s,U,b,c)=>s≤m.k) (fun (s,U,b,c)=>m.k-s) (0,P0++[dRow m w],d0,c0) (.cons (knF rfl) (.cons (knP rfl) (.cons (knP rfl) .nil))) (.cons (owB rfl) (.cons (owB rfl) .nil)) ⟨Nat.zero_le _,.cons (by rw [la9,show kidsW 0 w=[] from rfl,List.append_nil];exact VLe.refl _) (.cons (VLe.int (by omega)) .nil),.cons (by rw [show kidsW 0 w=[] from rfl,List.append_nil];exact qrow_pop) (.cons rfl (.cons rfl (.cons rfl (.cons rfl (.cons rfl (.cons rfl (.cons rfl (.cons rfl .nil))))))))⟩ ?_
   rintro ⟨s,U,b,c⟩ h1
   have h1:s≤m.k:=h1
   refine AW.seq (AW.sg hE rfl (mvD rfl (faP fd.Machine_2 rfl rfl (ldPC ce.Ratsss rfl rfl rfl (lnL sl.Ratsss rfl rfl (c_leq rfl rfl rfl (OL.nil ?_)))))))
   refine AW.cond rfl (fun h27=>?_) (fun h27=>?_)
   ·try simp only [dx9] at h27
    refine AW.skip (AW.seq (AW.block ?_))
    have hsk:s<m.k:=by omega
    have hkl:(Q++kidsW (s+1) w).length=(Q++kidsW s w).length+1:=by rw [kidsW_succ,← List.append_assoc,la9];rfl
    have hkm:(Q++kidsW s w).map (dRow m)++[dRow m (w++[((s+1:Nat):Int)])]=(Q++kidsW (s+1) w).map (dRow m):=by rw [kidsW_succ,← List.append_assoc];exact (List.map_append (f:=dRow m) (l₁:=(Q++kidsW s w)) (l₂:=[(w++[((s+1:Nat):Int)])])).symm
    have hqs:(Q++kidsW s w).length≤1000:=by rw [la9,kidsW_len];omega
    have hlen9:U.length+(Q++kidsW s w).length=(U++(Q++kidsW s w).map (dRow m)).length:=by rw [show (U++(Q++kidsW s w).map (dRow m)).length=U.length+((Q++kidsW s w).map (dRow m)).length from la9,lm9]
    refine AW.region_planT (valEx m w U ((Q++kidsW s w).map (dRow m)) s b b5 (Q++kidsW s w).length c) ownEx (telEx m w U ((Q++kidsW s w).map (dRow m)) s b b5 (Q++kidsW s w).length c) 15 order_free (by rw [hE];rfl) (by rfl) (by kernel_rfl) (by kernel_rfl) ?_ ?_
    ·refine casEx ?_ ?_ ?_ ?_ ?_ ?_ ?_ ?_ ?_ ?_ ?_ ?_ ?_ ?_ ?_
     ·exact fun β L c9=>⟨_,rfl,.inl (OG.of_OL (mvB ((pG_old rfl).trans rfl) ⟨β,pG_put (d:=30) (i:=0) rfl (fun t ht=>ownEx_inj ht) (lt_size 16 c9.size rfl (by decide)) (mfT_same (lt_size 16 c9.size rfl (by decide)) (by rfl))⟩))⟩
     ·exact fun β L c9=>⟨_,rfl,.inl (OG.of_OL (faP (b:=b5) (o:=0) (id:=5) fd.Row_0 ((pG_old rfl).trans rfl) rfl ⟨β,pG_put (d:=31) (i:=1) rfl (fun t ht=>ownEx_inj ht) (lt_size 16 c9.size rfl (by decide)) (mfT_same (lt_size 16 c9.size rfl (by decide)) (by rfl))⟩))⟩
     ·exact fun β L c9=>⟨_,rfl,.inl (OG.of_OL (ldPC ce.ints (pG_new rfl (come_dep (j:=1) c9 (by kernel_rfl))) ((pG_M (mfT_skip (show (5:Nat)≠44 by decide) (mfT_skip (show (5:Nat)≠33 by decide) (mfT_skip (show (5:Nat)≠33 by decide) rfl)))):_=some (.box b5 T.Row [.d (ints w),.d (dQs (vecM m w))])) (v:=.d (ints w)) rfl ⟨β,pG_put (d:=32) (i:=2) rfl (fun t ht=>ownEx_inj ht) (lt_size 16 c9.size rfl (by decide)) (mfT_same (lt_size 16 c9.size rfl (by decide)) (by rfl))⟩))⟩
     ·exact fun β L c9=>⟨_,rfl,.inl (OG.of_OL (clR rfl (.cons (vle_of_eq (pG_new rfl (come_dep (j:=2) c9 (by kernel_rfl)))) .nil) (clone_intsR (l:=w) (by omega)) (pG_M (mfT_skip (show (33:Nat)≠44 by decide) (mfT_no (by exact come_lateT c9 (by kernel_rfl)) (mfT_no (by exact c9.no) rfl)))) fun b8 c8=>⟨upd β 33 (b8,c8),pG_set (d:=33) (i:=3) (x:=(b8,c8)) rfl (fun t ht=>ownEx_inj ht) (lt_size 16 c9.size rfl (by decide)) rfl (mfT_pass (lt_size 16 c9.size rfl (by decide)) (show (14:Nat)≠3 by decide) (.inl (show (44:Nat)≠33 by decide)) (by exact fun _=>rfl) (mfT_pass (lt_size 16 c9.size rfl (by decide)) (show (6:Nat)≠3 by decide) (.inr (come_lateT c9 (by kernel_rfl))) (by exact fun _=>rfl) (mfT_here (lt_size 16 c9.size rfl (by decide)) rfl rfl rfl c9.no (by rfl) (fun y hy=>absurd hy List.not_mem_nil)))) (fun t j ho hl=>by unfold ownEx at ho;split at ho <;> cases ho <;> first|rfl|(rw [c9.no] at hl;cases hl)|exact come_notT c9 (by kernel_rfl) hl)⟩))⟩
     ·exact fun β L c9=>⟨_,rfl,.inl (OG.of_OL (mvD (y:=dI ((s:Int)+1)) ((pG_old rfl).trans rfl) ⟨β,pG_put (d:=34) (i:=4) rfl (fun t ht=>ownEx_inj ht) (lt_size 16 c9.size rfl (by decide)) (mfT_same (lt_size 16 c9.size rfl (by decide)) (by rfl))⟩))⟩
     ·exact fun β L c9=>⟨_,rfl,.inl (OG.of_OL (lt1 (y:=dI ((s:Int)+1)) sl.ints (vd_to (pG_new rfl (come_dep (j:=4) c9 (by kernel_rfl))) (VC.d _).vd) rfl (by decide) ⟨β,pG_put (d:=35) (i:=5) rfl (fun t ht=>ownEx_inj ht) (lt_size 16 c9.size rfl (by decide)) (mfT_same (lt_size 16 c9.size rfl (by decide)) (by rfl))⟩))⟩
     ·exact fun β L c9=>⟨_,rfl,.inl (OG.of_OL (apOD sl.ints rfl (pG_new rfl (come_dep (j:=3) c9 (by kernel_rfl))) (pG_M (mfT_skip (show (33:Nat)≠44 by decide) (mfT_no (by exact c9.no) (mfT_yes (come_dep (j:=3) c9 (by kernel_rfl)) rfl rfl)))) (by rw [lm9]) (vc_to (pG_new rfl (come_dep (j:=5) c9 (by kernel_rfl))) (VC.d _)) (fun y hy=>by rw [ms9 hy];rfl) (by simp only [ls9];omega) (by simp only [ls9];omega) (.inl (pG_M (mfT_skip (show (36:Nat)≠44 by decide) (mfT_skip (show (36:Nat)≠33 by decide) (mfT_skip (show (36:Nat)≠33 by decide) rfl))))) (ys:=(w++[((s+1:Nat):Int)]).map dI) (by rw [List.map_append];rfl) ⟨upd β 36 (0,0),pG_set (d:=36) (i:=6) (x:=(0,0)) rfl (fun t ht=>ownEx_inj ht) (lt_size 16 c9.size rfl (by decide)) rfl (Eq.trans (mfT_pass (lt_size 16 c9.size rfl (by decide)) (show (14:Nat)≠6 by decide) (.inl (show (44:Nat)≠33 by decide)) (by exact fun _=>rfl) (mfT_here (lt_size 16 c9.size rfl (by decide)) rfl rfl rfl c9.no (by rfl) (List.forall_mem_cons.2 ⟨(fun _ hne=>absurd rfl hne),(fun y hy=>absurd hy List.not_mem_nil)⟩))) (upd_noneB (by decide) (pG_M (mfT_skip (show (36:Nat)≠44 by decide) (mfT_skip (show (36:Nat)≠33 by decide) (mfT_skip (show (36:Nat)≠33 by decide) rfl))))).symm) (fun t j ho hl=>by unfold ownEx at ho;split at ho <;> cases ho <;> first|rfl|(rw [c9.no] at hl;cases hl)|exact come_notT c9 (by kernel_rfl) hl)⟩))⟩
     ·exact fun β L c9=>⟨_,rfl,.inl (OG.of_OL (ldPA ag.Machine ((pG_old rfl).trans rfl) ((pG_M (mfT_skip (show (2:Nat)≠44 by decide) (mfT_skip (show (2:Nat)≠33 by decide) (mfT_skip (show (2:Nat)≠33 by decide) rfl)))):_=some (.box b2 T.Machine [.d (dQs m.ini),.d (dQs m.fin),.d (.sl (m.mats.map dQss))])) (vs:=[_,_,_]) rfl (nb9 rfl) ⟨β,pG_put (d:=37) (i:=7) rfl (fun t ht=>ownEx_inj ht) (lt_size 16 c9.size rfl (by decide)) (mfT_same (lt_size 16 c9.size rfl (by decide)) (by rfl))⟩))⟩
     ·exact fun β L c9=>⟨_,rfl,.inl (OG.of_OL (faP (b:=b5) (o:=0) (id:=5) fd.Row_1 ((pG_old rfl).trans rfl) rfl ⟨β,pG_put (d:=38) (i:=8) rfl (fun t ht=>ownEx_inj ht) (lt_size 16 c9.size rfl (by decide)) (mfT_same (lt_size 16 c9.size rfl (by decide)) (by rfl))⟩))⟩
     ·exact fun β L c9=>⟨_,rfl,.inl (OG.of_OL (ldPC ce.Rats (pG_new rfl (come_dep (j:=8) c9 (by kernel_rfl))) ((pG_M (mfT_skip (show (5:Nat)≠44 by decide) (mfT_skip (show (5:Nat)≠33 by decide) (mfT_skip (show (5:Nat)≠33 by decide) rfl)))):_=some (.box b5 T.Row [.d (ints w),.d (dQs (vecM m w))])) (v:=.d (dQs (vecM m w))) rfl ⟨β,pG_put (d:=39) (i:=9) rfl (fun t ht=>ownEx_inj ht) (lt_size 16 c9.size rfl (by decide)) (mfT_same (lt_size 16 c9.size rfl (by decide)) (by rfl))⟩))⟩
     ·exact fun β L c9=>⟨_,rfl,.inl (OG.of_OL (mvD (y:=dI ((s:Int)+1)) ((pG_old rfl).trans rfl) ⟨β,pG_put (d:=40) (i:=10) rfl (fun t ht=>ownEx_inj ht) (lt_size 16 c9.size rfl (by decide)) (mfT_same (lt_size 16 c9.size rfl (by decide)) (by rfl))⟩))⟩
     ·exact fun β L c9=>⟨_,rfl,.inl (OG.of_OL (clv rfl (.cons (vle_of_eq (pG_new rfl (come_dep (j:=7) c9 (by kernel_rfl)))) (.cons (vle_of_eq (pG_new rfl (come_dep (j:=9) c9 (by kernel_rfl)))) (.cons (vle_of_eq (pG_new rfl (come_dep (j:=10) c9 (by kernel_rfl)))) .nil))) (show FSpec P F.rows_Machine_Step [vMach m,.d (dQs (vecM m w)),.d (dI ((s:Int)+1))] (.d (dQs (vecM m (w++[((s+1:Nat):Int)])))) by rw [vecM_kid];exact StepQ (v:=vecM m w) ok fl z6 (vecM_len ok w) hsk (vecM_sz z6 hw6)) ⟨β,pG_put (d:=41) (i:=11) rfl (fun t ht=>ownEx_inj ht) (lt_size 16 c9.size rfl (by decide)) (mfT_same (lt_size 16 c9.size rfl (by decide)) (by rfl))⟩))⟩
     ·exact fun β L c9=>⟨_,rfl,.inl (OG.of_OL (bd2 (cs:=[_,_]) z.Row pl.Row (pvC (pG_new rfl (come_dep (j:=6) c9 (by kernel_rfl))) (pvC (pG_new rfl (come_dep (j:=11) c9 (by kernel_rfl))) pvN)) (by rfl) ⟨β,pG_put (d:=42) (i:=12) rfl (fun t ht=>ownEx_inj ht) (lt_size 16 c9.size rfl (by decide)) (mfT_same (lt_size 16 c9.size rfl (by decide)) (by rfl))⟩))⟩
     ·exact fun β L c9=>⟨_,rfl,.inl (OG.of_OL (lt1 (y:=dRow m (w++[((s+1:Nat):Int)])) sl.Rows (vd_to (pG_new rfl (come_dep (j:=12) c9 (by kernel_rfl))) vd_row) rfl (by decide) ⟨β,pG_put (d:=43) (i:=13) rfl (fun t ht=>ownEx_inj ht) (lt_size 16 c9.size rfl (by decide)) (mfT_same (lt_size 16 c9.size rfl (by decide)) (by rfl))⟩))⟩
     ·exact fun β L c9=>⟨_,rfl,.inl (OG.of_OL (apB sl.Rows rfl (pG_new rfl (come_dep (j:=0) c9 (by kernel_rfl))) ((pG_M (mfT_no (by exact c9.no) (mfT_skip (show (44:Nat)≠33 by decide) (mfT_skip (show (44:Nat)≠33 by decide) rfl)))):_=some (.row b (U.length+c) T.Row 2 (U++(Q++kidsW s w).map (dRow m)))) hlen9 (vc_to (pG_new rfl (come_dep (j:=13) c9 (by kernel_rfl))) (VC.d _)) (fun y hy=>by rw [ms9 hy];rfl) (by simp only [ls9];omega) (by simp only [ls9];omega) (.inr rfl) fun b9 k9=>(by rw [qP_es,List.append_assoc];exact ⟨upd β 44 (b9,k9),pG_set (d:=44) (i:=14) (x:=(b9,k9)) rfl (fun t ht=>ownEx_inj ht) (lt_size 16 c9.size rfl (by decide)) rfl (Eq.trans (mfT_here (lt_size 16 c9.size rfl (by decide)) rfl rfl rfl c9.no (by rfl) (List.forall_mem_cons.2 ⟨(by exact fun _ _=>rfl),(List.forall_mem_cons.2 ⟨(by exact fun _ _=>rfl),(fun y hy=>absurd hy List.not_mem_nil)⟩)⟩)) (upd_upd _ _ _ _).symm) (fun t j ho hl=>by unfold ownEx at ho;split at ho <;> cases ho <;> first|rfl|(rw [c9.no] at hl;cases hl)|exact come_notT c9 (by kernel_rfl) hl)⟩)))⟩
    refine fun β L c9 hA=>⟨_,rfl,.inl (OG.of_OL (asB (pG_new rfl (hA 14 (by decide))) ?_))⟩
    refine OL.nil ?_
    refine AW.to ([(1,.fn f caps),(2,.ptr 2 b2 0),(5,.ptr 5 b5 0),(6,.d (dI ((s:Int)+1)))]++[(4,.osb 44 (β 44).1 2 (qP (β 44).2 U).length (Q++kidsW (s+1) w).length ((β 44).2 / 2))]) ([(2,.box b2 T.Machine [.d (dQs m.ini),.d (dQs m.fin),.d (.sl (m.mats.map dQss))]),(5,.box b5 T.Row [.d (ints w),.d (dQs (vecM m w))]),(1000,k.b0 y2),(1001,k.b1 y2),(1002,k.b2 y2),(1003,k.b3 y2),(1004,k.b4 y2),(1005,k.b5 y2),(1006,k.b6 y2),(1007,k.b7 y2)]++[(44,.row (β 44).1 ((qP (β 44).2 U).length+(β 44).2 / 2) T.Row 2 (qP (β 44).2 U++(Q++kidsW (s+1) w).map (dRow m)))]) (Knows.app (.cons (vle_of_eq (put_old (by decide) ((pG_old rfl).trans rfl))) (.cons (vle_of_eq (put_old (by decide) ((pG_old rfl).trans rfl))) (.cons (vle_of_eq (put_old (by decide) ((pG_old rfl).trans rfl))) (.cons (vle_of_eq (put_old (by decide) ((pG_old rfl).trans rfl))) (.nil))))) (.cons (by rw [qP_len,hkl];exact vle_of_eq put_new') .nil)) (Owns.app (.cons (put_mem (pG_M (mfT_skip (show (2:Nat)≠44 by decide) (mfT_skip (show (2:Nat)≠33 by decide) (mfT_skip (show (2:Nat)≠33 by decide) rfl))))) (.cons (put_mem (pG_M (mfT_skip (show (5:Nat)≠44 by decide) (mfT_skip (show (5:Nat)≠33 by decide) (mfT_skip (show (5:Nat)≠33 by decide) rfl))))) (.cons (put_mem (pG_M (mfT_skip (show (1000:Nat)≠44 by decide) (mfT_skip (show (1000:Nat)≠33 by decide) (mfT_skip (show (1000:Nat)≠33 by decide) rfl))))) (.cons (put_mem (pG_M (mfT_skip (show (1001:Nat)≠44 by decide) (mfT_skip (show (1001:Nat)≠33 by decide) (mfT_skip (show (1001:Nat)≠33 by decide) rfl))))) (.cons (put_mem (pG_M (mfT_skip (show (1002:Nat)≠44 by decide) (mfT_skip (show (1002:Nat)≠33 by decide) (mfT_skip (show (1002:Nat)≠33 by decide) rfl))))) (.cons (put_mem (pG_M (mfT_skip (show (1003:Nat)≠44 by decide) (mfT_skip (show (1003:Nat)≠33 by decide) (mfT_skip (show (1003:Nat)≠33 by decide) rfl))))) (.cons (put_mem (pG_M (mfT_skip (show (1004:Nat)≠44 by decide) (mfT_skip (show (1004:Nat)≠33 by decide) (mfT_skip (show (1004:Nat)≠33 by decide) rfl))))) (.cons (put_mem (pG_M (mfT_skip (show (1005:Nat)≠44 by decide) (mfT_skip (show (1005:Nat)≠33 by decide) (mfT_skip (show (1005:Nat)≠33 by decide) rfl))))) (.cons (put_mem (pG_M (mfT_skip (show (1006:Nat)≠44 by decide) (mfT_skip (show (1006:Nat)≠33 by decide) (mfT_skip (show (1006:Nat)≠33 by decide) rfl))))) (.cons (put_mem (pG_M (mfT_skip (show (1007:Nat)≠44 by decide) (mfT_skip (show (1007:Nat)≠33 by decide) (mfT_skip (show (1007:Nat)≠33 by decide) rfl))))) (.nil))))))))))) (.cons ((put_mem (pG_M (mfT_yes (hA 14 (by decide)) rfl rfl))).trans (by rw [qP_len,hkm])) .nil)) ?_
    generalize qP (β 44).2 U=P3
    generalize (β 44).1=b3
    generalize (β 44).2 / 2=c3
    refine AW.rg hE rfl (mvD rfl (add_i64 rfl rfl (by omega) (asD rfl (OL.nil ?_))))
    exact AW.again (x:=(s,U,b,c)) (s+1,P3,b3,c3) (by (simp only [];omega)) ⟨by omega,Knows.app .rq3 (.cons vR (.cons (VLe.int (by omega)) .nil)),Owns.app (.cons rfl (.cons rfl .nil)) (.cons rfl (.cons rfl (.cons rfl (.cons rfl (.cons rfl (.cons rfl (.cons rfl (.cons rfl (.cons rfl .nil)))))))))⟩
   ·try simp only [dx9] at h27
    refine AW.exit ?_
    obtain rfl:s=m.k:=(by omega)
    exact AW.again (x:=(y,w::Q,P0,d0,c0+1)) (y2,Q++kidsW m.k w,U,b,c) (by exact hz.2) ⟨⟨hz.1,by have h9:μ (Q++kidsW m.k w) y2<μ (w::Q) y:=hz.2;omega⟩,Knows.app .rq2 .rq1,Owns.app (.cons rfl .nil) (.cons rfl (.cons rfl (.cons rfl (.cons rfl (.cons rfl (.cons rfl (.cons rfl (.cons rfl (.cons rfl .nil)))))))))⟩
 ·have hQ:Q.length=0:=by have:=df9 hQ;omega
  obtain rfl:Q=[]:=en9 hQ
  exact AW.exit (⟨y,hIQ,⟨[],.nil,[],.nil,rfl⟩,fun id blk hk=>lk_own (l:=kmL k y) (.cons rfl (.cons rfl (.cons rfl (.cons rfl (.cons rfl (.cons rfl (.cons rfl (.cons rfl trivial)))))))) id blk hk⟩)
end Go.Proofs.YtmcoihfkniccdaaGreatDoor
