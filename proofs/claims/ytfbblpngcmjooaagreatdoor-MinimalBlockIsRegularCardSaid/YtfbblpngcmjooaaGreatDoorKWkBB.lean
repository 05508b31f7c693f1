/-
  Walks of package minimal, part 2: the suffixes (printed by mk2.py).
-/
import Derived.Test.YtfbblpngcmjooaaGreatDoorKWkBA
set_option linter.unusedVariables false
set_option linter.unusedSimpArgs false
namespace Go.Proofs.YtfbblpngcmjooaaGreatDoor
open Go Go.AL
noncomputable abbrev dRowS (t:Mach)(w:List Int):D:=.ag [ints w,dQs (vecM t w.reverse)]
theorem vd_rowS {t:Mach}{w:List Int}:VD (.ag [.d (ints w),.d (dQs (vecM t w.reverse))]) (dRowS t w):=VD.ag (.cons (VC.d _) (.cons (VC.d _) .nil))
theorem rowS_el {t:Mach}{L:List (List Int)}{i:Nat}(hi:i<L.length):(L.map (dRowS t))[i]? = some (dRowS t (L.getD i [])):=by
 rw [List.getElem?_map,gd9,ge9 hi];rfl
def muL (n:Nat)(K Lv:List (List Int)):Nat:=2*(n-K.length)+(if Lv=[] then 0 else 1)
theorem muL_dec {n k:Nat}{K kept Lv:List (List Int)}(h:Lv≠[])(hle:(K++kept).length≤n):muL n (K++kept) (levelW k kept)<muL n K Lv:=by
 unfold muL
 rw [if_neg h]
 rw [la9] at hle ⊢
 cases kept with
 | nil =>
  have e:levelW k []=[]:=by
   unfold levelW
   rw [List.flatMap_eq_nil_iff]
   exact fun _ _=>rfl
  rw [e,if_pos rfl,List.length_nil]
  omega
 | cons x r =>
  rw [List.length_cons] at hle ⊢
  split <;> omega
theorem levelW_succ {k:Nat}{K:List (List Int)}:levelW (k+1) K=levelW k K++K.map fun r=>((k+1:Nat):Int)::r:=by
 unfold levelW
 rw [List.range_succ,List.flatMap_append,List.flatMap_cons,List.flatMap_nil,List.append_nil]
theorem levelW_len {k:Nat}{K:List (List Int)}:(levelW k K).length=k*K.length:=by
 induction k with
 | zero=>rw [Nat.zero_mul];rfl
 | succ k ih=>rw [levelW_succ,la9,ih,lm9,Nat.succ_mul]
theorem lev_len {k n B l i:Nat}{f:List Int→List Rat}{Lv kept K:List (List Int)}{rs:List SRow}(h:SufI k n B f l Lv i kept K rs)(hi:i<Lv.length):(Lv.getD i []).length≤n:=by
 have hm:Lv.getD i [] ∈ Lv:=getD_mem hi []
 have h1:=h.s.sp.le
 have h2:=h.s.len
 cases hc:Lv.getD i [] with
 | nil=>exact Nat.zero_le _
 | cons s u =>
  have h3:=h.lv.tail _ hm s u hc
  have h4:=short_words h.s.ord (fun u hu hne=>by
   cases u with
   | nil=>exact absurd rfl hne
   | cons s u=>exact ⟨u,h.s.tail s u hu,rfl⟩) u h3
  rw [List.length_cons]
  omega
def ownSf:Nat→Option Nat
 | 72=>some 0
 | 73=>some 1
 | 74=>some 2
 | 75=>some 3
 | 76=>some 4
 | 77=>some 5
 | 78=>some 6
 | 79=>some 7
 | 80=>some 8
 | 81=>some 9
 | 82=>some 10
 | 83=>some 11
 | 84=>some 12
 | 85=>some 13
 | _=>none
theorem ownSf_inj {t i:Nat}(h:ownSf t=some i):t=[72,73,74,75,76,77,78,79,80,81,82,83,84,85].getD i 0:=by
 unfold ownSf at h
 split at h <;> first|(cases h;rfl)|cases h
noncomputable def valSf (tm:Mach)(R W2:List Int)(X:List (List Int))(z9:Int)(b16 bn cn:Nat)(t:Nat)(β:Nat→Nat × Nat):V :=
 match t with
 | 72=>.osl 85 bn X.length cn
 | 73=>.d (dI z9)
 | 74=>.osl 74 (β 74).1 1 1
 | 75=>.ptr 16 b16 0
 | 76=>.d (ints R)
 | 77=>.d (ints W2)
 | 78=>vMach tm
 | 79=>.ptr 16 b16 1
 | 80=>.d (dQs (vecM tm R.reverse))
 | 81=>.d (dI z9)
 | 82=>.d (dQs (vecM tm W2.reverse))
 | 83=>.ag [.d (ints W2),.d (dQs (vecM tm W2.reverse))]
 | 84=>.d (.sl [dRowS tm W2])
 | 85=>.osl 85 (β 85).1 (X.length+1) (β 85).2
 | _=>.junk
noncomputable abbrev telSf (tm:Mach)(R W2:List Int)(X:List (List Int))(z9:Int)(b16 bn cn:Nat):List Tell:=[⟨85,13,fun β=>.row (β 85).1 (β 85).2 T.Row 2 (X.map (dRowS tm)++[dRowS tm W2])⟩,⟨74,5,fun β=>deadBlk⟩,⟨74,2,fun β=>.row (β 74).1 1 T.int 1 [dI z9]⟩]
theorem casSf {p:Nat→Prop}(h0:p 0)(h1:p 1)(h2:p 2)(h3:p 3)(h4:p 4)(h5:p 5)(h6:p 6)(h7:p 7)(h8:p 8)(h9:p 9)(h10:p 10)(h11:p 11)(h12:p 12)(h13:p 13):∀ i,i<14→p i:=fun i hi=>by
 have:i=0 ∨ i=1 ∨ i=2 ∨ i=3 ∨ i=4 ∨ i=5 ∨ i=6 ∨ i=7 ∨ i=8 ∨ i=9 ∨ i=10 ∨ i=11 ∨ i=12 ∨ i=13:=by omega
 rcases this with rfl|rfl|rfl|rfl|rfl|rfl|rfl|rfl|rfl|rfl|rfl|rfl|rfl|rfl <;> assumption
set_option maxRecDepth 8000 in
set_option maxHeartbeats 12800000 in
theorem SuffixesA {a:Au}{s:Nat}(t:Au.Take a s)(s1:1≤s)(s4:s≤4)(st4:a.st≤4):FSpec P F.minimal_Suffixes [vAu a] (.tup [.d (.sl ((sufM (machL [a])).map ints)),.d (dI 0)]):=by
 obtain ⟨ok,fl,z6,hn⟩:=mach1 t s4
 have hst1:=t.st1
 have hsz:sizeL [a]=a.st:=size_one
 have hk:(machL [a]).k=a.sym:=k_one
 have hs:a.sym=s:=t.fit.sym
 have hT:BasT (turnM (machL [a])):=basT_of (turn_ok ok) z6.turn
 have n4:(machL [a]).n≤4:=by omega
 obtain ⟨hl4,hl5,_⟩:=hT.len (show (turnM (machL [a])).n≤6 from Nat.le_trans n4 (by decide))
 have hl4:(bL (turnM (machL [a]))).length≤(machL [a]).n:=hl4
 obtain ⟨z9,hz9,_⟩:=hT.inv
 have hsf:=stepF_col ok hz9
 have htn:(turnM (machL [a])).n=(machL [a]).n:=rfl
 refine FSpec.intro fn.minimal_Suffixes (by rfl) (by rfl) (nb9 (by rfl)) fun E hE=>(AW.sg hE rfl (bxA rfl rfl fun b1=>(asM rfl (asD rfl (OL.nil (AW.seq (AW.sg hE rfl ?_)))))))
 refine ldPA ag.Auto rfl rfl (vs:=[_,_,_,_,_,_,_]) rfl (nb9 rfl) (lt1 (y:=dAu a) sl.Autos vd_au rfl (by decide) (clv rfl (VLes.refl _) (CheckA (l:=[a]) (s:=s) (fit1 t.fit) ⟨Nat.le_of_ble_eq_true rfl,Nat.le_of_ble_eq_true rfl⟩) (asD rfl (OL.nil (AW.sg hE rfl (mvD rfl (c_neq rfl rfl (c:=false) (by exact cne_f (by omega)) ?_)))))))
 refine OL.nil (AW.cond rfl (fun hno=>absurd hno (by decide)) (fun _=>?_))
 refine AW.skip (AW.seq (AW.regionK (by rw [hE];rfl) (SK.ofOL (ldPA ag.Auto rfl rfl (vs:=[_,_,_,_,_,_,_]) rfl (nb9 rfl) (OL.nil ?_)))))
 refine SK.ofOL (lt1 (y:=dAu a) sl.Autos vd_au rfl (by decide) (OL.nil ?_))
 refine SK.ofOL (clv rfl .rq1 (OfQ (l:=[a]) (by rw [show (([a]:List Au).getD 0 default).sym=s from t.fit.sym];exact fit1 t.fit) ⟨Nat.le_of_ble_eq_true rfl,Nat.le_of_ble_eq_true rfl⟩ (by omega) (by omega)) (OL.nil ?_))
 refine SK.ofOL (clv rfl .rq1 (TurnedQ (m:=(machL [a])) fl (by omega) (by omega) (by omega)) (OL.nil ?_))
 refine SK.ofOL (bd z.Space pl.Space (cs:=[_,_,_]) rfl (OL.nil ?_))
 refine SK.ofOL (bxA rfl rfl fun b28=>OL.nil ?_)
 refine SK.ofOL (al z.Machine rfl fun b5=>OL.nil ?_)
 refine SK.ofOL (sto sz.Machine rfl rfl rfl rfl rfl (nb9 rfl) (cells2:=[_,_,_]) rfl (OL.nil ?_))
 refine SK.ofOL (asP rfl (OL.nil ?_))
 refine SK.nil (AW.seq (AW.regionK (by rw [hE];rfl) (SK.ofOL (ldPA ag.Machine rfl rfl (vs:=[_,_,_]) rfl (nb9 rfl) (OL.nil ?_)))))
 refine SK.ofSO (SO.callE (args':=[vMach (turnM (machL [a]))]) (show 30<E.n by rw [hE];exact Nat.le_of_ble_eq_true (by rfl)) rfl (VLes.refl _) (Mc:=noMem) (fun _ _ h=>by cases h) (ViewsQ (m:=(turnM (machL [a]))) (turn_ok ok) (turn_full _) z6.turn (by omega)) (fun _ _ _ h=>h) ?_)
 rintro y1 hI1
 have hI1:InvS (turnM (turnM (machL [a]))) 16777215 [] y1:=hI1
 rw [hI1.bas]
 refine SK.ofOL (asF rfl (OL.nil ?_))
 refine SK.nil (AW.sg hE rfl (asM rfl (OL.nil (AW.seq (AW.own 8 58 T.ints 1 rfl rfl (AW.rg hE rfl (faP fd.Machine_0 rfl rfl ?_)))))))
 refine ldPC ce.Rats rfl rfl rfl (bd z.Row pl.Row (cs:=[_,_]) rfl (lt1 (y:=dRowS (turnM (machL [a])) []) sl.Rows (VD.ag (.cons (by exact VC.mt) (.cons (VC.d _) .nil))) rfl (by decide) (asD rfl (OL.nil (AW.seq (AW.block (AW.rename 28 1000 rfl ?_)))))))
 refine AW.deadR 1001 T.Rats 1 rfl (AW.deadR 1002 T.Rats 1 rfl (AW.deadR 1003 T.int 1 rfl (AW.boxW 1000 [.osl 1001 0 0 0,.osl 1002 0 0 0,.osl 1003 0 0 0] rfl (.cons vle_mtO (.cons vle_mtO (.cons vle_mtO .nil))) ?_)))
 refine AW.whileK (α:=Nat × List (List Int) × List (List Int) × List SRow × SpB × Nat × Nat) [(1,_),(2,_),(3,_),(5,_),(7,_)] [(1,_),(5,_)] (fun (l,Lv,K,rs,B,bw,cw)=>[(6,.ptr 1000 b28 0),(8,.osl 58 bw K.length cw),(9,.d (.sl (Lv.map (dRowS (turnM (machL [a]))))))]) (fun (l,Lv,K,rs,B,bw,cw)=>[(1000,boxS b28 B rs),(1001,rowV B rs),(1002,rowC B rs),(1003,rowP B rs),(58,.row bw cw T.ints 1 (K.map ints))]) (fun (l,Lv,K,rs,B,bw,cw)=>SufO (machL [a]).k (bL (turnM (machL [a]))).length 16777215 (colW (machL [a])) l Lv K rs∧Lv.length≤64) (fun (l,Lv,K,rs,B,bw,cw)=>muL (bL (turnM (machL [a]))).length K Lv) (0,[[]],[],[],default,0,0) (.cons (knP rfl) (.cons (knM rfl) (.cons (knD rfl) (.cons (knP rfl) (.cons (knF rfl) .nil))))) (.cons (owB rfl) (.cons (owB rfl) .nil)) ⟨⟨SufO.start,Nat.le_of_ble_eq_true rfl⟩,.cons (VLe.ptr) .rq2,.cons rfl (.cons rfl (.cons rfl (.cons rfl (.cons rfl .nil))))⟩ ?_
 rintro ⟨l,Lv,K,rs,B,bw,cw⟩ ⟨hO,hvl⟩
 have hO:SufO (machL [a]).k (bL (turnM (machL [a]))).length 16777215 (colW (machL [a])) l Lv K rs:=hO
 have hvl:Lv.length≤64:=hvl
 have hKn:K.length≤(bL (turnM (machL [a]))).length:=by have:=hO.s.sp.le;have:=hO.s.len;omega
 refine AW.seq (AW.sg hE rfl (mvD rfl (lnL sl.Rows rfl rfl (c_gtr rfl rfl rfl (OL.nil (AW.cond rfl (fun hv=>?_) (fun hv=>?_)))))))
 ·have hv:0<Lv.length:=by have:=of_decide_eq_true hv;omega
  refine AW.skip (AW.block (AW.sg hE rfl (asM rfl (asM rfl (OL.nil (AW.seq (AW.seq ?_)))))))
  refine AW.own 10 53 T.Row 2 rfl rfl (AW.rg hE rfl (mvD rfl (lnL sl.Rows rfl rfl (mvD rfl (OL.nil (AW.block ?_))))))
  refine AW.whileK (α:=Nat × List (List Int) × List SRow × SpB × Nat × Nat × Nat × Nat) [(1,_),(2,_),(3,_),(5,_),(6,_),(7,_),(9,_),(11,_),(38,_),(39,_)] [(1,_),(5,_)] (fun (i,kept,rs2,B2,bk,ck,bw2,cw2)=>[(8,.osl 58 bw2 (K++kept).length cw2),(10,.osl 53 bk kept.length ck),(40,.d (dI i))]) (fun (i,kept,rs2,B2,bk,ck,bw2,cw2)=>[(1000,boxS b28 B2 rs2),(1001,rowV B2 rs2),(1002,rowC B2 rs2),(1003,rowP B2 rs2),(58,.row bw2 cw2 T.ints 1 ((K++kept).map ints)),(53,.row bk ck T.Row 2 (kept.map (dRowS (turnM (machL [a])))))]) (fun (i,kept,rs2,B2,bk,ck,bw2,cw2)=>SufI (machL [a]).k (bL (turnM (machL [a]))).length 16777215 (colW (machL [a])) l Lv i kept (K++kept) rs2∧i≤Lv.length) (fun (i,kept,rs2,B2,bk,ck,bw2,cw2)=>Lv.length-i) (0,[],rs,B,0,0,bw,cw) (.cons (knP rfl) (.cons (knM rfl) (.cons (knD rfl) (.cons (knP rfl) (.cons (knP rfl) (.cons (knF rfl) (.cons (knD rfl) (.cons (knM rfl) (.cons (knD rfl) (.cons (knD rfl) .nil)))))))))) (.cons (owB rfl) (.cons (owB rfl) .nil)) ⟨⟨by rw [List.append_nil];exact hO.begin,Nat.zero_le _⟩,.cons (by rw [List.append_nil];exact VLe.refl _) .rq2,.cons rfl (.cons rfl (.cons rfl (.cons rfl (.cons (by rw [List.append_nil];rfl) (.cons rfl .nil)))))⟩ ?_
  rintro ⟨i,kept,rs2,B2,bk,ck,bw2,cw2⟩ ⟨hS,h3⟩
  have hS:SufI (machL [a]).k (bL (turnM (machL [a]))).length 16777215 (colW (machL [a])) l Lv i kept (K++kept) rs2:=hS
  have h3:i≤Lv.length:=h3
  have hKn2:(K++kept).length≤(bL (turnM (machL [a]))).length:=by have:=hS.s.sp.le;have:=hS.s.len;omega
  have hkn:kept.length≤(bL (turnM (machL [a]))).length:=by rw [la9] at hKn2;omega
  refine AW.sg hE rfl (c_lss rfl rfl rfl (OL.nil (AW.seq (AW.cond rfl (fun h41=>?_) (fun h41=>?_)))))
  ·try simp only [dx9] at h41
   refine AW.skip (AW.seq (AW.block (AW.seq ?_)))
   have hi:i<Lv.length:=by omega
   have hcl:=lev_len hS hi
   have hfl:(colW (machL [a]) (Lv.getD i [])).length=(bL (turnM (machL [a]))).length:=view_len
   have hcz:∀ j,sz ((colW (machL [a]) (Lv.getD i [])).getD j 0)≤16777215:=fun j=>view_sz16 z6.turn (by rw [List.length_reverse];omega) hl5 j
   refine AW.rg hE rfl (ixLn sl.Rows [] rfl rfl hi rfl rfl (ldRA ag.Row rfl (vs:=[_,_]) rfl (nb9 rfl) (al z.Row rfl fun b13=>(sto sz.Row rfl rfl rfl rfl rfl (nb9 rfl) (cells2:=[_,_]) rfl (OL.nil (AW.seq (AW.regionK (by rw [hE];rfl) ?_)))))))
   refine SK.ofOL (mvP rfl (OL.nil ?_))
   refine SK.ofOL (mvF rfl (OL.nil ?_))
   refine SK.ofOL (faP fd.Row_1 rfl rfl (OL.nil ?_))
   refine SK.ofOL (ldPC ce.Rats rfl rfl (v:=.d (dQs (vecM (turnM (machL [a])) (Lv.getD i []).reverse))) rfl (OL.nil ?_))
   refine SK.ofOL (clv rfl (VLes.refl _) (Views_1 (m:=(turnM (machL [a]))) (L:=bL (turnM (machL [a]))) (u:=(Lv.getD i []).reverse) (turn_ok ok) z6.turn (by omega) (by rw [List.length_reverse];omega) (fun l hl=>Nat.le_succ_of_le (hl5 l hl))) (OL.nil ?_))
   refine SK.ofSO (SO.callE (args':=[.ptr 1000 b28 0,.d (dQs (colW (machL [a]) (Lv.getD i [])))]) (show 49<E.n by rw [hE];exact Nat.le_of_ble_eq_true (by rfl)) rfl (VLes.refl _) (Mc:=spM b28 B2 rs2) (fun id blk hk=>lk_own (l:=spL b28 B2 rs2) (.cons rfl (.cons rfl (.cons rfl (.cons rfl trivial)))) id blk hk) (AddS (b:=b28) (B:=B2) hS.s.sp hfl (by omega) hcz) (fun x _ id hk=>spM_none id hk) ?_)
   rintro B3 -
   refine SK.nil (AW.cond rfl (fun hg=>?_) (fun hg=>?_))
   ·have hg:growsS rs2 (colW (machL [a]) (Lv.getD i []))=true:=hg
    rw [show addS rs2 (colW (machL [a]) (Lv.getD i []))=rs2++[newR rs2 (colW (machL [a]) (Lv.getD i []))] from if_pos hg]
    refine AW.dg 2 [0,1,2,4,5,6,7,3,8,9,10] order_free hE rfl (by kernel_rfl) (OI.of_OL (os:=[_,_,_,_,_,_,_,_,_,_,_]) rfl ?_)
    refine mvO rfl (ldPA ag.Row rfl rfl (vs:=[_,_]) rfl (nb9 rfl) (lt1 (y:=dRowS (turnM (machL [a])) (Lv.getD i [])) sl.Rows vd_rowS rfl (by decide) (mvO rfl (faP fd.Row_0 rfl rfl (ldPC ce.ints rfl rfl rfl (lt1 (y:=ints (Lv.getD i [])) sl.intss (VC.d _).vd rfl (by decide) ?_))))))
    refine apO sl.Rows rfl rfl rfl (lm9 ..).symm (VC.d _) (fun y hy=>by rw [List.mem_singleton.1 hy];rfl) (by simp only [ls9];omega) (by simp only [ls9];omega) (.inr rfl) (ys:=(kept++[(Lv.getD i [])]).map (dRowS (turnM (machL [a])))) (by rw [List.map_append];rfl) (n2:=(kept++[(Lv.getD i [])]).length) (by rw [la9];rfl) fun b53 c53=>?_
    refine apO sl.intss rfl rfl rfl (lm9 ..).symm (VC.d _) (fun y hy=>by rw [List.mem_singleton.1 hy];rfl) (by simp only [ls9];omega) (by simp only [ls9];omega) (.inr rfl) (ys:=((K++kept)++[(Lv.getD i [])]).map ints) (by rw [List.map_append (l₂:=[(Lv.getD i [])])];rfl) (n2:=((K++kept)++[(Lv.getD i [])]).length) (by rw [la9 (bs:=[_])];rfl) fun b58 c58=>?_
    refine asO rfl (asO rfl (OL.nil (AW.rg hE rfl (add_i64 rfl rfl (by omega) (mvD rfl (OL.nil ?_))))))
    exact AW.again (x:=(i,kept,rs2,B2,bk,ck,bw2,cw2)) (i+1,kept++[(Lv.getD i [])],rs2++[newR rs2 (colW (machL [a]) (Lv.getD i []))],B3,b53,c53,b58,c58) (by (simp only [];omega)) ⟨⟨by rw [← List.append_assoc];exact hS.yes hi hfl (by decide) hcz hg,by omega⟩,Knows.app .rq10 (.cons (by rw [← List.append_assoc];exact VLe.refl _) .rq2),Owns.app (.cons rfl (.cons rfl .nil)) (.cons rfl (.cons rfl (.cons rfl (.cons rfl (.cons (by rw [← List.append_assoc];rfl) (.cons rfl .nil))))))⟩
   ·have hg:growsS rs2 (colW (machL [a]) (Lv.getD i []))=false:=hg
    rw [show addS rs2 (colW (machL [a]) (Lv.getD i []))=rs2 from if_neg (by rw [hg];exact Bool.false_ne_true)]
    refine AW.skip (AW.rg hE rfl (add_i64 rfl rfl (by omega) (mvD rfl (OL.nil ?_))))
    exact AW.again (x:=(i,kept,rs2,B2,bk,ck,bw2,cw2)) (i+1,kept,rs2,B3,bk,ck,bw2,cw2) (by (simp only [];omega)) ⟨⟨hS.no hi hfl hg,by omega⟩,Knows.app .rq10 .rq3,Owns.app (.cons rfl (.cons rfl .nil)) (.cons rfl (.cons rfl (.cons rfl (.cons rfl (.cons rfl (.cons rfl .nil))))))⟩
  ·try simp only [dx9] at h41
   refine AW.exit (AW.seq (AW.seq ?_))
   obtain rfl:i=Lv.length:=by omega
   have hO2:SufO (machL [a]).k (bL (turnM (machL [a]))).length 16777215 (colW (machL [a])) (l+1) (levelW a.sym kept) (K++kept) rs2:=by
    have h9:=hS.done hsf
    rw [show levelW (machL [a]).k kept=levelW a.sym kept by rw [hk]] at h9
    exact h9
   have hlv9:(levelW a.sym kept).length≤64:=by
    rw [levelW_len]
    have:=Nat.mul_le_mul (show a.sym≤4 by omega) (show kept.length≤4 by omega)
    omega
   refine AW.own 11 85 T.Row 2 rfl rfl (AW.rg hE rfl (asD rfl (OL.nil (AW.block ?_))))
   refine AW.whileK (α:=Nat × Nat × Nat) [(1,_),(2,_),(3,_),(5,_),(6,_),(7,_),(8,_),(9,_),(10,_)] [(1,_),(5,_),(53,_),(58,_),(1000,_),(1001,_),(1002,_),(1003,_)] (fun (s9,bm,cm)=>[(11,.osl 85 bm (levelW s9 kept).length cm),(14,.d (dI ((s9:Int)+1)))]) (fun (s9,bm,cm)=>[(85,.row bm cm T.Row 2 ((levelW s9 kept).map (dRowS (turnM (machL [a])))))]) (fun (s9,bm,cm)=>s9≤a.sym) (fun (s9,bm,cm)=>a.sym-s9) (0,0,0) (.cons (knP rfl) (.cons (knM rfl) (.cons (knD rfl) (.cons (knP rfl) (.cons (knP rfl) (.cons (knF rfl) (.cons (knO rfl) (.cons (knD rfl) (.cons (knO rfl) .nil))))))))) (.cons (owB rfl) (.cons (owB rfl) (.cons (owR rfl) (.cons (owR rfl) (.cons (owB rfl) (.cons (owR rfl) (.cons (owR rfl) (.cons (owR rfl) .nil)))))))) ⟨Nat.zero_le _,.cons vR (.cons (VLe.int (by omega)) .nil),.cons rfl .nil⟩ ?_
   rintro ⟨s9,bm,cm⟩ h4
   have h4:s9≤a.sym:=h4
   refine AW.seq (AW.sg hE rfl (mvD rfl (faP fd.Auto_1 rfl rfl (ldPC ce.int rfl rfl rfl (c_leq rfl rfl rfl (OL.nil (AW.cond rfl (fun h63=>?_) (fun h63=>?_))))))))
   ·try simp only [dx9] at h63
    refine AW.skip (AW.seq (AW.block (AW.seq ?_)))
    have hsk:s9<a.sym:=by omega
    have hlw:=levelW_len (k:=s9) (K:=kept)
    have hlm:=Nat.mul_le_mul (show s9≤4 by omega) (show kept.length≤4 by omega)
    refine AW.rg hE rfl (mvO rfl (lnO sl.Rows rfl rfl (mvD rfl (OL.nil (AW.block ?_)))))
    refine AW.whileK (α:=Nat × Nat × Nat) [(1,_),(2,_),(3,_),(5,_),(6,_),(7,_),(8,_),(9,_),(10,_),(14,_),(66,_),(67,_)] [(1,_),(5,_),(53,_),(58,_),(1000,_),(1001,_),(1002,_),(1003,_)] (fun (i,bn,cn)=>[(11,.osl 85 bn (levelW s9 kept++(kept.take i).map (fun r=>((s9+1:Nat):Int)::r)).length cn),(68,.d (dI i))]) (fun (i,bn,cn)=>[(85,.row bn cn T.Row 2 ((levelW s9 kept++(kept.take i).map (fun r=>((s9+1:Nat):Int)::r)).map (dRowS (turnM (machL [a])))))]) (fun (i,bn,cn)=>i≤kept.length) (fun (i,bn,cn)=>kept.length-i) (0,bm,cm) (.cons (knP rfl) (.cons (knM rfl) (.cons (knD rfl) (.cons (knP rfl) (.cons (knP rfl) (.cons (knF rfl) (.cons (knO rfl) (.cons (knD rfl) (.cons (knO rfl) (.cons (knD rfl) (.cons (knO rfl) (.cons (knD rfl) .nil)))))))))))) (.cons (owB rfl) (.cons (owB rfl) (.cons (owR rfl) (.cons (owR rfl) (.cons (owB rfl) (.cons (owR rfl) (.cons (owR rfl) (.cons (owR rfl) .nil)))))))) ⟨Nat.zero_le _,.cons (by rw [List.take_zero,List.map_nil,List.append_nil];exact VLe.refl _) .rq1,.cons (by rw [List.take_zero,List.map_nil,List.append_nil];rfl) .nil⟩ ?_
    rintro ⟨i,bn,cn⟩ h5
    have h5:i≤kept.length:=h5
    have hxl:(levelW s9 kept++(kept.take i).map (fun r=>((s9+1:Nat):Int)::r)).length=s9*kept.length+i:=by rw [la9,hlw,lm9,List.length_take];omega
    refine AW.sg hE rfl (c_lss rfl rfl rfl (OL.nil (AW.seq (AW.cond rfl (fun h69=>?_) (fun h69=>?_)))))
    ·try simp only [dx9] at h69
     refine AW.skip (AW.seq (AW.block (AW.seq ?_)))
     have hi:i<kept.length:=by omega
     have hRm:=(hS.km (kept.getD i [])).1 (getD_mem hi [])
     have hRw:InW (machL [a]).k (kept.getD i []):=hS.s.inW _ hRm.1
     have hR4:(kept.getD i []).length<(K++kept).length:=short_words hS.s.ord (fun u hu hne=>by
      cases u with
      | nil=>exact absurd rfl hne
      | cons s u=>exact ⟨u,hS.s.tail s u hu,rfl⟩) _ hRm.1
     have hstep:FSpec P F.rows_Machine_Step [vMach (turnM (machL [a])),.d (dQs (vecM (turnM (machL [a])) (kept.getD i []).reverse)),.d (dI ((s9:Int)+1))] (.d (dQs (vecM (turnM (machL [a])) (((s9+1:Nat):Int)::(kept.getD i [])).reverse))):=by
      rw [List.reverse_cons,vecM_kid]
      exact StepQ (v:=vecM (turnM (machL [a])) (kept.getD i []).reverse) (turn_ok ok) (turn_full _) z6.turn (vecM_len (turn_ok ok) _) (by rw [turn_k];omega) (vecM_sz z6.turn (by rw [List.length_reverse];omega))
     have htk:(kept.take (i+1)).map (fun r=>((s9+1:Nat):Int)::r)=(kept.take i).map (fun r=>((s9+1:Nat):Int)::r)++[(((s9+1:Nat):Int)::(kept.getD i []))]:=by rw [take_snoc9 [] hi,List.map_append];rfl
     have hx1:(levelW s9 kept++(kept.take (i+1)).map (fun r=>((s9+1:Nat):Int)::r)).length=(levelW s9 kept++(kept.take i).map (fun r=>((s9+1:Nat):Int)::r)).length+1:=by rw [htk,← List.append_assoc,la9 (bs:=[_])];rfl
     have hx2:(levelW s9 kept++(kept.take i).map (fun r=>((s9+1:Nat):Int)::r)).map (dRowS (turnM (machL [a])))++[dRowS (turnM (machL [a])) (((s9+1:Nat):Int)::(kept.getD i []))]=(levelW s9 kept++(kept.take (i+1)).map (fun r=>((s9+1:Nat):Int)::r)).map (dRowS (turnM (machL [a]))):=by rw [htk,← List.append_assoc,List.map_append (l₂:=[_])];rfl
     refine AW.rg hE rfl (ixOn sl.Rows rfl rfl hi (ldEA ag.Row (by decide) rfl rfl (rowS_el hi) (vs:=[.d (ints (kept.getD i [])),.d (dQs (vecM (turnM (machL [a])) (kept.getD i []).reverse))]) rfl (nb9 rfl) (al z.Row rfl fun b16=>(sto sz.Row rfl rfl rfl rfl rfl (nb9 rfl) (cells2:=[_,_]) rfl (OL.nil ?_)))))
     refine AW.region_planT (valSf (turnM (machL [a])) (kept.getD i []) (((s9+1:Nat):Int)::(kept.getD i [])) (levelW s9 kept++(kept.take i).map (fun r=>((s9+1:Nat):Int)::r)) ((s9:Int)+1) b16 bn cn) ownSf (telSf (turnM (machL [a])) (kept.getD i []) (((s9+1:Nat):Int)::(kept.getD i [])) (levelW s9 kept++(kept.take i).map (fun r=>((s9+1:Nat):Int)::r)) ((s9:Int)+1) b16 bn cn) 14 order_free (by rw [hE];rfl) (by rfl) (by kernel_rfl) (by kernel_rfl) ?_ ?_
     ·refine casSf ?_ ?_ ?_ ?_ ?_ ?_ ?_ ?_ ?_ ?_ ?_ ?_ ?_ ?_
      ·exact fun β L c9=>⟨_,rfl,.inl (OG.of_OL (mvO ((pG_old rfl).trans rfl) ⟨β,pG_put (d:=72) (i:=0) rfl (fun t ht=>ownSf_inj ht) (lt_size 15 c9.size rfl (by decide)) (mfT_same (lt_size 15 c9.size rfl (by decide)) (by rfl))⟩))⟩
      ·exact fun β L c9=>⟨_,rfl,.inl (OG.of_OL (mvD (y:=dI ((s9:Int)+1)) ((pG_old rfl).trans rfl) ⟨β,pG_put (d:=73) (i:=1) rfl (fun t ht=>ownSf_inj ht) (lt_size 15 c9.size rfl (by decide)) (mfT_same (lt_size 15 c9.size rfl (by decide)) (by rfl))⟩))⟩
      ·exact fun β L c9=>⟨_,rfl,.inl (OG.of_OL (lt1O (y:=dI ((s9:Int)+1)) sl.ints (vd_to (pG_new rfl (come_dep (j:=1) c9 (by kernel_rfl))) (VC.d _).vd) rfl (by decide) (pG_M (mfT_skip (show (74:Nat)≠85 by decide) (mfT_no (by exact come_lateT c9 (by kernel_rfl)) (mfT_no (by exact c9.no) rfl)))) fun b8=>⟨upd β 74 (b8,0),pG_set (d:=74) (i:=2) (x:=(b8,0)) rfl (fun t ht=>ownSf_inj ht) (lt_size 15 c9.size rfl (by decide)) rfl (mfT_pass (lt_size 15 c9.size rfl (by decide)) (show (13:Nat)≠2 by decide) (.inl (show (85:Nat)≠74 by decide)) (by exact fun _=>rfl) (mfT_pass (lt_size 15 c9.size rfl (by decide)) (show (5:Nat)≠2 by decide) (.inr (come_lateT c9 (by kernel_rfl))) (by exact fun _=>rfl) (mfT_here (lt_size 15 c9.size rfl (by decide)) rfl rfl rfl c9.no (by rfl) (fun y hy=>absurd hy List.not_mem_nil)))) (fun t j ho hl=>by unfold ownSf at ho;split at ho <;> cases ho <;> first|rfl|(rw [c9.no] at hl;cases hl)|exact come_notT c9 (by kernel_rfl) hl)⟩))⟩
      ·exact fun β L c9=>⟨_,rfl,.inl (OG.of_OL (faP (b:=b16) (o:=0) (id:=16) fd.Row_0 ((pG_old rfl).trans rfl) rfl ⟨β,pG_put (d:=75) (i:=3) rfl (fun t ht=>ownSf_inj ht) (lt_size 15 c9.size rfl (by decide)) (mfT_same (lt_size 15 c9.size rfl (by decide)) (by rfl))⟩))⟩
      ·exact fun β L c9=>⟨_,rfl,.inl (OG.of_OL (ldPC ce.ints (pG_new rfl (come_dep (j:=3) c9 (by kernel_rfl))) ((pG_M (mfT_skip (show (16:Nat)≠85 by decide) (mfT_skip (show (16:Nat)≠74 by decide) (mfT_skip (show (16:Nat)≠74 by decide) rfl)))):_=some (.box b16 T.Row [.d (ints (kept.getD i [])),.d (dQs (vecM (turnM (machL [a])) (kept.getD i []).reverse))])) (v:=.d (ints (kept.getD i []))) rfl ⟨β,pG_put (d:=76) (i:=4) rfl (fun t ht=>ownSf_inj ht) (lt_size 15 c9.size rfl (by decide)) (mfT_same (lt_size 15 c9.size rfl (by decide)) (by rfl))⟩))⟩
      ·exact fun β L c9=>⟨_,rfl,.inl (OG.of_OL (apOD sl.ints rfl (pG_new rfl (come_dep (j:=2) c9 (by kernel_rfl))) (pG_M (mfT_skip (show (74:Nat)≠85 by decide) (mfT_no (by exact c9.no) (mfT_yes (come_dep (j:=2) c9 (by kernel_rfl)) rfl rfl)))) rfl (vc_to (pG_new rfl (come_dep (j:=4) c9 (by kernel_rfl))) (VC.d _)) ints_len (by rw [lm9];omega) (by rw [lm9];omega) (.inl (pG_M (mfT_skip (show (77:Nat)≠85 by decide) (mfT_skip (show (77:Nat)≠74 by decide) (mfT_skip (show (77:Nat)≠74 by decide) rfl))))) (ys:=(((s9+1:Nat):Int)::(kept.getD i [])).map dI) rfl ⟨upd β 77 (0,0),pG_set (d:=77) (i:=5) (x:=(0,0)) rfl (fun t ht=>ownSf_inj ht) (lt_size 15 c9.size rfl (by decide)) rfl (Eq.trans (mfT_pass (lt_size 15 c9.size rfl (by decide)) (show (13:Nat)≠5 by decide) (.inl (show (85:Nat)≠74 by decide)) (by exact fun _=>rfl) (mfT_here (lt_size 15 c9.size rfl (by decide)) rfl rfl rfl c9.no (by rfl) (List.forall_mem_cons.2 ⟨(fun _ hne=>absurd rfl hne),(fun y hy=>absurd hy List.not_mem_nil)⟩))) (upd_noneB (by decide) (pG_M (mfT_skip (show (77:Nat)≠85 by decide) (mfT_skip (show (77:Nat)≠74 by decide) (mfT_skip (show (77:Nat)≠74 by decide) rfl))))).symm) (fun t j ho hl=>by unfold ownSf at ho;split at ho <;> cases ho <;> first|rfl|(rw [c9.no] at hl;cases hl)|exact come_notT c9 (by kernel_rfl) hl)⟩))⟩
      ·exact fun β L c9=>⟨_,rfl,.inl (OG.of_OL (ldPA ag.Machine ((pG_old rfl).trans rfl) ((pG_M (mfT_skip (show (5:Nat)≠85 by decide) (mfT_skip (show (5:Nat)≠74 by decide) (mfT_skip (show (5:Nat)≠74 by decide) rfl)))):_=some (.box b5 T.Machine [.d (dQs (turnM (machL [a])).ini),.d (dQs (turnM (machL [a])).fin),.d (.sl ((turnM (machL [a])).mats.map dQss))])) (vs:=[_,_,_]) rfl (nb9 rfl) ⟨β,pG_put (d:=78) (i:=6) rfl (fun t ht=>ownSf_inj ht) (lt_size 15 c9.size rfl (by decide)) (mfT_same (lt_size 15 c9.size rfl (by decide)) (by rfl))⟩))⟩
      ·exact fun β L c9=>⟨_,rfl,.inl (OG.of_OL (faP (b:=b16) (o:=0) (id:=16) fd.Row_1 ((pG_old rfl).trans rfl) rfl ⟨β,pG_put (d:=79) (i:=7) rfl (fun t ht=>ownSf_inj ht) (lt_size 15 c9.size rfl (by decide)) (mfT_same (lt_size 15 c9.size rfl (by decide)) (by rfl))⟩))⟩
      ·exact fun β L c9=>⟨_,rfl,.inl (OG.of_OL (ldPC ce.Rats (pG_new rfl (come_dep (j:=7) c9 (by kernel_rfl))) ((pG_M (mfT_skip (show (16:Nat)≠85 by decide) (mfT_skip (show (16:Nat)≠74 by decide) (mfT_skip (show (16:Nat)≠74 by decide) rfl)))):_=some (.box b16 T.Row [.d (ints (kept.getD i [])),.d (dQs (vecM (turnM (machL [a])) (kept.getD i []).reverse))])) (v:=.d (dQs (vecM (turnM (machL [a])) (kept.getD i []).reverse))) rfl ⟨β,pG_put (d:=80) (i:=8) rfl (fun t ht=>ownSf_inj ht) (lt_size 15 c9.size rfl (by decide)) (mfT_same (lt_size 15 c9.size rfl (by decide)) (by rfl))⟩))⟩
      ·exact fun β L c9=>⟨_,rfl,.inl (OG.of_OL (mvD (y:=dI ((s9:Int)+1)) ((pG_old rfl).trans rfl) ⟨β,pG_put (d:=81) (i:=9) rfl (fun t ht=>ownSf_inj ht) (lt_size 15 c9.size rfl (by decide)) (mfT_same (lt_size 15 c9.size rfl (by decide)) (by rfl))⟩))⟩
      ·exact fun β L c9=>⟨_,rfl,.inl (OG.of_OL (clv rfl (.cons (vle_of_eq (pG_new rfl (come_dep (j:=6) c9 (by kernel_rfl)))) (.cons (vle_of_eq (pG_new rfl (come_dep (j:=8) c9 (by kernel_rfl)))) (.cons (vle_of_eq (pG_new rfl (come_dep (j:=9) c9 (by kernel_rfl)))) .nil))) hstep ⟨β,pG_put (d:=82) (i:=10) rfl (fun t ht=>ownSf_inj ht) (lt_size 15 c9.size rfl (by decide)) (mfT_same (lt_size 15 c9.size rfl (by decide)) (by rfl))⟩))⟩
      ·exact fun β L c9=>⟨_,rfl,.inl (OG.of_OL (bd2 (cs:=[_,_]) z.Row pl.Row (pvC (pG_new rfl (come_dep (j:=5) c9 (by kernel_rfl))) (pvC (pG_new rfl (come_dep (j:=10) c9 (by kernel_rfl))) pvN)) (by rfl) ⟨β,pG_put (d:=83) (i:=11) rfl (fun t ht=>ownSf_inj ht) (lt_size 15 c9.size rfl (by decide)) (mfT_same (lt_size 15 c9.size rfl (by decide)) (by rfl))⟩))⟩
      ·exact fun β L c9=>⟨_,rfl,.inl (OG.of_OL (lt1 (y:=dRowS (turnM (machL [a])) (((s9+1:Nat):Int)::(kept.getD i []))) sl.Rows (vd_to (pG_new rfl (come_dep (j:=11) c9 (by kernel_rfl))) vd_rowS) rfl (by decide) ⟨β,pG_put (d:=84) (i:=12) rfl (fun t ht=>ownSf_inj ht) (lt_size 15 c9.size rfl (by decide)) (mfT_same (lt_size 15 c9.size rfl (by decide)) (by rfl))⟩))⟩
      ·exact fun β L c9=>⟨_,rfl,.inl (OG.of_OL (apO sl.Rows rfl (pG_new rfl (come_dep (j:=0) c9 (by kernel_rfl))) ((pG_M (mfT_no (by exact c9.no) (mfT_skip (show (85:Nat)≠74 by decide) (mfT_skip (show (85:Nat)≠74 by decide) rfl)))):_=some (.row bn cn T.Row 2 ((levelW s9 kept++(kept.take i).map (fun r=>((s9+1:Nat):Int)::r)).map (dRowS (turnM (machL [a])))))) (lm9 ..).symm (vc_to (pG_new rfl (come_dep (j:=12) c9 (by kernel_rfl))) (VC.d _)) (fun y hy=>by rw [List.mem_singleton.1 hy];rfl) (by simp only [ls9];omega) (by simp only [ls9];omega) (.inr rfl) (ys:=(levelW s9 kept++(kept.take i).map (fun r=>((s9+1:Nat):Int)::r)).map (dRowS (turnM (machL [a])))++[dRowS (turnM (machL [a])) (((s9+1:Nat):Int)::(kept.getD i []))]) rfl (n2:=(levelW s9 kept++(kept.take i).map (fun r=>((s9+1:Nat):Int)::r)).length+1) rfl fun b8 c8=>⟨upd β 85 (b8,c8),pG_set (d:=85) (i:=13) (x:=(b8,c8)) rfl (fun t ht=>ownSf_inj ht) (lt_size 15 c9.size rfl (by decide)) rfl (Eq.trans (mfT_here (lt_size 15 c9.size rfl (by decide)) rfl rfl rfl c9.no (by rfl) (List.forall_mem_cons.2 ⟨(by exact fun _ _=>rfl),(List.forall_mem_cons.2 ⟨(by exact fun _ _=>rfl),(fun y hy=>absurd hy List.not_mem_nil)⟩)⟩)) (upd_upd _ _ _ _).symm) (fun t j ho hl=>by unfold ownSf at ho;split at ho <;> cases ho <;> first|rfl|(rw [c9.no] at hl;cases hl)|exact come_notT c9 (by kernel_rfl) hl)⟩))⟩
     refine fun β L c9 hA=>⟨_,rfl,.inl (OG.of_OL (asO (pG_new rfl (hA 13 (by decide))) ?_))⟩
     refine OL.nil ?_
     refine AW.to ([(1,.ptr 1 b1 0),(2,.mt),(3,.d (dI 0)),(5,.ptr 5 b5 0),(6,.ptr 1000 b28 0),(7,.fn F.rows_Machine_Views_1 [.ref [dRows (turnM (turnM (machL [a]))) (bL (turnM (machL [a])))]]),(8,.osl 58 bw2 (K++kept).length cw2),(9,.d (.sl (Lv.map (dRowS (turnM (machL [a])))))),(10,.osl 53 bk kept.length ck),(14,.d (dI ((s9:Int)+1))),(66,.osl 53 bk kept.length ck),(67,.d (dI kept.length)),(68,.d (dI i))]++[(11,.osl 85 (β 85).1 (levelW s9 kept++(kept.take (i+1)).map (fun r=>((s9+1:Nat):Int)::r)).length (β 85).2)]) ([(1,.box b1 T.Auto [.d (dI 1),.d (.sl []),.d (dI a.sym),.d (dI a.st),.d (dWs a.ini),.d (dWs a.fin),.d (dArcs a.arcs)]),(5,.box b5 T.Machine [.d (dQs (turnM (machL [a])).ini),.d (dQs (turnM (machL [a])).fin),.d (.sl ((turnM (machL [a])).mats.map dQss))]),(1000,boxS b28 B2 rs2),(1001,rowV B2 rs2),(1002,rowC B2 rs2),(1003,rowP B2 rs2),(58,.row bw2 cw2 T.ints 1 ((K++kept).map ints)),(53,.row bk ck T.Row 2 (kept.map (dRowS (turnM (machL [a])))))]++[(85,.row (β 85).1 (β 85).2 T.Row 2 ((levelW s9 kept++(kept.take (i+1)).map (fun r=>((s9+1:Nat):Int)::r)).map (dRowS (turnM (machL [a])))))]) (Knows.app (.cons (vle_of_eq (put_old (by decide) ((pG_old rfl).trans rfl))) (.cons (vle_of_eq (put_old (by decide) ((pG_old rfl).trans rfl))) (.cons (vle_of_eq (put_old (by decide) ((pG_old rfl).trans rfl))) (.cons (vle_of_eq (put_old (by decide) ((pG_old rfl).trans rfl))) (.cons (vle_of_eq (put_old (by decide) ((pG_old rfl).trans rfl))) (.cons (vle_of_eq (put_old (by decide) ((pG_old rfl).trans rfl))) (.cons (vle_of_eq (put_old (by decide) ((pG_old rfl).trans rfl))) (.cons (vle_of_eq (put_old (by decide) ((pG_old rfl).trans rfl))) (.cons (vle_of_eq (put_old (by decide) ((pG_old rfl).trans rfl))) (.cons (vle_of_eq (put_old (by decide) ((pG_old rfl).trans rfl))) (.cons (vle_of_eq (put_old (by decide) ((pG_old rfl).trans rfl))) (.cons (vle_of_eq (put_old (by decide) ((pG_old rfl).trans rfl))) (.cons (vle_of_eq (put_old (by decide) ((pG_old rfl).trans rfl))) (.nil)))))))))))))) (.cons (by rw [hx1];exact vle_of_eq put_new') .nil)) (Owns.app (.cons (put_mem (pG_M (mfT_skip (show (1:Nat)≠85 by decide) (mfT_skip (show (1:Nat)≠74 by decide) (mfT_skip (show (1:Nat)≠74 by decide) rfl))))) (.cons (put_mem (pG_M (mfT_skip (show (5:Nat)≠85 by decide) (mfT_skip (show (5:Nat)≠74 by decide) (mfT_skip (show (5:Nat)≠74 by decide) rfl))))) (.cons (put_mem (pG_M (mfT_skip (show (1000:Nat)≠85 by decide) (mfT_skip (show (1000:Nat)≠74 by decide) (mfT_skip (show (1000:Nat)≠74 by decide) rfl))))) (.cons (put_mem (pG_M (mfT_skip (show (1001:Nat)≠85 by decide) (mfT_skip (show (1001:Nat)≠74 by decide) (mfT_skip (show (1001:Nat)≠74 by decide) rfl))))) (.cons (put_mem (pG_M (mfT_skip (show (1002:Nat)≠85 by decide) (mfT_skip (show (1002:Nat)≠74 by decide) (mfT_skip (show (1002:Nat)≠74 by decide) rfl))))) (.cons (put_mem (pG_M (mfT_skip (show (1003:Nat)≠85 by decide) (mfT_skip (show (1003:Nat)≠74 by decide) (mfT_skip (show (1003:Nat)≠74 by decide) rfl))))) (.cons (put_mem (pG_M (mfT_skip (show (58:Nat)≠85 by decide) (mfT_skip (show (58:Nat)≠74 by decide) (mfT_skip (show (58:Nat)≠74 by decide) rfl))))) (.cons (put_mem (pG_M (mfT_skip (show (53:Nat)≠85 by decide) (mfT_skip (show (53:Nat)≠74 by decide) (mfT_skip (show (53:Nat)≠74 by decide) rfl))))) (.nil))))))))) (.cons ((put_mem (pG_M (mfT_yes (hA 13 (by decide)) rfl rfl))).trans (by rw [hx2])) .nil)) ?_
     generalize (β 85).1=b3
     generalize (β 85).2=c3
     refine AW.rg hE rfl (add_i64 rfl rfl (by omega) (mvD rfl (OL.nil ?_)))
     exact AW.again (x:=(i,bn,cn)) (i+1,b3,c3) (by (simp only [];omega)) ⟨by omega,Knows.app .rq12 .rq2,Owns.app (.cons rfl (.cons rfl (.cons rfl (.cons rfl (.cons rfl (.cons rfl (.cons rfl (.cons rfl .nil)))))))) (.cons rfl .nil)⟩
    ·try simp only [dx9] at h69
     refine AW.exit ?_
     obtain rfl:i=kept.length:=by omega
     refine AW.rg hE rfl (mvD rfl (add_i64 rfl rfl (by omega) (asD rfl (OL.nil ?_))))
     exact AW.again (x:=(s9,bm,cm)) (s9+1,bn,cn) (by (simp only [];omega)) ⟨by omega,Knows.app .rq9 (.cons (by rw [levelW_succ];exact vle_of_eq (by show V.osl 85 bn (levelW s9 kept++(kept.take kept.length).map (fun r=>((s9+1:Nat):Int)::r)).length cn=_;rw [List.take_length])) (.cons (VLe.int (by omega)) .nil)),Owns.app (.cons rfl (.cons rfl (.cons rfl (.cons rfl (.cons rfl (.cons rfl (.cons rfl (.cons rfl .nil)))))))) (.cons (by rw [levelW_succ];show some (Blk.row bn cn T.Row 2 ((levelW s9 kept++(kept.take kept.length).map (fun r=>((s9+1:Nat):Int)::r)).map (dRowS (turnM (machL [a])))))=_;rw [List.take_length]) .nil)⟩
   ·try simp only [dx9] at h63
    refine AW.exit ?_
    obtain rfl:s9=a.sym:=by omega
    refine AW.freeze 85 rfl (AW.to [(1,.ptr 1 b1 0),(2,.mt),(3,.d (dI 0)),(5,.ptr 5 b5 0),(6,.ptr 1000 b28 0),(7,.fn F.rows_Machine_Views_1 [.ref [dRows (turnM (turnM (machL [a]))) (bL (turnM (machL [a])))]]),(8,.osl 58 bw2 (K++kept).length cw2),(11,.d (.sl ((levelW a.sym kept).map (dRowS (turnM (machL [a]))))))] [(1,.box b1 T.Auto [.d (dI 1),.d (.sl []),.d (dI a.sym),.d (dI a.st),.d (dWs a.ini),.d (dWs a.fin),.d (dArcs a.arcs)]),(5,.box b5 T.Machine [.d (dQs (turnM (machL [a])).ini),.d (dQs (turnM (machL [a])).fin),.d (.sl ((turnM (machL [a])).mats.map dQss))]),(1000,boxS b28 B2 rs2),(1001,rowV B2 rs2),(1002,rowC B2 rs2),(1003,rowP B2 rs2),(58,.row bw2 cw2 T.ints 1 ((K++kept).map ints))] (.cons vR (.cons vR (.cons vR (.cons vR (.cons vR (.cons vR (.cons vR (.cons (frz_osl (lm9 ..).symm rfl) (.nil))))))))) (.cons rfl (.cons rfl (.cons rfl (.cons rfl (.cons rfl (.cons rfl (.cons rfl (.nil)))))))) ?_)
    refine AW.rg hE rfl (mvD rfl (asD rfl (OL.nil ?_)))
    exact AW.again (x:=(l,Lv,K,rs,B,bw,cw)) (l+1,levelW a.sym kept,(K++kept),rs2,B2,bw2,cw2) (by exact muL_dec (fun e=>by rw [e] at hv;cases hv) hKn2) ⟨⟨hO2,hlv9⟩,Knows.app .rq5 .rq3,Owns.app (.cons rfl (.cons rfl .nil)) (.cons rfl (.cons rfl (.cons rfl (.cons rfl (.cons rfl .nil)))))⟩
 ·have hv:Lv.length=0:=by have:=of_decide_eq_false hv;omega
  obtain rfl:Lv=[]:=List.eq_nil_of_length_eq_zero hv
  have hfin:sufM (machL [a])=K:=sufM_eq (SufO.fin ok (by omega) hz9 hO)
  exact AW.exit (AW.sg hE rfl (mvO rfl (asO rfl (asD rfl (OL.nil (AW.ret (RetQ.r ⟨_,.tmp rfl (.tmp rfl .nil),_,.cons (RO.all rfl rfl (lm9 ..).symm (by rw [hfin])) (.cons (.le vR) .nil),rfl⟩)))))))
end Go.Proofs.YtfbblpngcmjooaaGreatDoor
