/-
  Walks of package hmm: Automaton of any model whose Emitting is known (printed by mk2.py).
-/
import Derived.Test.YteiohkpjgcioaaaGreatDoorKHxA
import Derived.Test.YteiohkpjgcioaaaGreatDoorKAlg32
import Derived.Test.YteiohkpjgcioaaaGreatDoorKMod120
set_option linter.unusedVariables false
set_option linter.unusedSimpArgs false
namespace Go.Proofs.YteiohkpjgcioaaaGreatDoor
open Go Go.AL
theorem vd_to {x y:V}{d:D}(h:x=y)(hd:VD y d):VD x d:=h ▸ hd
theorem vd_w0h:VD (.ag [.d (dB false),.mt,.mt,.d (dI 0),.d (dB false),.d (dU 0),.mt,.mt]) (dW 0):=by
 have e:dW 0=.ag [dB false,.sl [],.sl [],dI 0,dB false,dU 0,.sl [],.sl []]:=by unfold dW;rw [ofQ_zero];rfl
 rw [e]
 exact VD.ag (.cons (VC.d _) (.cons VC.mt (.cons VC.mt (.cons (VC.d _) (.cons (VC.d _) (.cons (VC.d _) (.cons VC.mt (.cons VC.mt .nil))))))))
theorem map_snocA {l:List Arc9}{x:Arc9}:l.map dArc++[dArc x]=(l++[x]).map dArc:=by rw [List.map_append];rfl
theorem len_snocA {l:List Arc9}{x:Arc9}{y:D}:l.length + [y].length=(l++[x]).length:=by rw [la9];rfl
theorem sgn_gtH {q:Rat}:0<sgnQ q ↔ 0<q:=by
 rw [← sgnQ_pos]
 have h:=sgnQ_cases q
 omega
theorem rowHA_small {h:HM}{b B:Nat}(f:HM.FormX b B h)(k:Nat):Small B (rowHA h k):=by
 unfold rowHA
 split
 ·exact f.zI
 ·exact f.zT _
theorem emit_len32 {h:HM}{b B:Nat}(f:HM.FormX b B h)(i:Nat):(h.emit.getD i []).length≤32:=by
 rcases Nat.lt_or_ge i h.st with hi|hi
 ·rw [f.erow i hi];exact f.sym1
 ·rw [getD_ge (by rw [f.emit];exact hi)];exact Nat.zero_le _
theorem arcs_all {h:HM}{b B:Nat}(f:HM.FormX b B h){k i:Nat}(hk:k≤h.st)(hi:i≤h.st){p:Rat}{e:List Rat}{s:Nat}(hs:s≤32):(arF h k++arI h k i++arE p k i e s).length≤6000:=by
 have h1:=arF_len (g:=h) (k:=k) (n:=12) (m:=32) (fun j hj=>by rw [rowHA_len f (by omega)];exact f.st1) (emit_len32 f)
 have h2:=arI_len (g:=h) (f:=k) (k:=i) (m:=32) fun j _=>emit_len32 f j
 have h3:=arE_len (p:=p) (f:=k) (i:=i) (e:=e) (k:=s)
 have h4:=f.st1
 have h5:=Nat.mul_le_mul_right (12*32) (show k≤12 by omega)
 have h6:=Nat.mul_le_mul_right 32 (show i≤12 by omega)
 rw [la9,la9]
 omega
theorem autoHM_szS {h:HM}{B:Nat}(g:HM.GoodX 1048576 B h)(na:(autoHM h).arcs.length≤64):(autoHM h).Sz 134217728 64:=by
 have hb:=g.form.bB
 exact ⟨autoHM_ini.mono (by decide),(autoHM_fin g).mono (by omega),fun x hx=>Nat.le_trans (autoHM_arc g hx) (by omega),na⟩
def ownM4:Nat→Option Nat
 | 21=>some 0
 | 22=>some 1
 | 23=>some 2
 | 24=>some 3
 | 25=>some 4
 | 26=>some 5
 | 27=>some 6
 | 28=>some 7
 | 29=>some 8
 | 30=>some 9
 | 5=>some 10
 | _=>none
theorem ownM4_inj {t i:Nat}(h:ownM4 t=some i):t=[21,22,23,24,25,26,27,28,29,30,5].getD i 0:=by
 unfold ownM4 at h
 split at h <;> first|(cases h;rfl)|cases h
noncomputable def valM4 (h0:HM)(b1:Nat)(t:Nat)(β:Nat→Nat × Nat):V :=
 match t with
 | 21=>.ag [.d (dI 1),.mt]
 | 22=>.ptr 1 b1 0
 | 23=>.d (dI h0.sym)
 | 24=>vQ 1
 | 25=>vW 1
 | 26=>.osl 26 (β 26).1 1 1
 | 27=>vQ 1
 | 28=>vW 1
 | 29=>.osl 29 (β 29).1 1 1
 | 30=>.ag [.d (dI 1),.mt,.d (dI h0.sym),.d (dI 1),.osl 26 (β 26).1 1 1,.osl 29 (β 29).1 1 1,.mt]
 | 5=>.ptr 5 (β 5).1 0
 | _=>.junk
noncomputable abbrev telM4 (h0:HM)(b1:Nat):List Tell:=[⟨26,5,fun β=>.row (β 26).1 1 T.Weight 8 [dW 1]⟩,⟨29,8,fun β=>.row (β 29).1 1 T.Weight 8 [dW 1]⟩,⟨5,10,fun β=>.box (β 5).1 T.Auto [.d (dI 0),.mt,.d (dI 0),.d (dI 0),.mt,.mt,.mt]⟩]
theorem casM4 {p:Nat→Prop}(h0:p 0)(h1:p 1)(h2:p 2)(h3:p 3)(h4:p 4)(h5:p 5)(h6:p 6)(h7:p 7)(h8:p 8)(h9:p 9)(h10:p 10):∀ i,i<11→p i:=fun i hi=>by
 have:i=0 ∨ i=1 ∨ i=2 ∨ i=3 ∨ i=4 ∨ i=5 ∨ i=6 ∨ i=7 ∨ i=8 ∨ i=9 ∨ i=10:=by omega
 rcases this with rfl|rfl|rfl|rfl|rfl|rfl|rfl|rfl|rfl|rfl|rfl <;> assumption
set_option maxRecDepth 16000 in
set_option maxHeartbeats 12800000 in
theorem AutomatonG {h0 h:HM}{B:Nat}(hv:FSpec P F.hmm_Valid [vHM h0] (.d (dI 0)))(hem:FSpecE P F.hmm_Emitting [vHM h0] noMem (fun z:List Int=>.tup [vHM ⟨h.sym,h.st,h.empty,h.ini,h.trans,h.stop,h.emit,List.replicate h.st false,z⟩,.d (dI 0)]) (fun _=>noMem) (fun _=>True))(hsy:h0.sym=h.sym)(g:HM.GoodX 1048576 B h)(na:(autoHM h).arcs.length≤64):FSpec P F.hmm_Automaton [vHM h0] (.tup [vAu (normOf (autoHM h)),.d (dI 0)]):=by
 have fo:=g.form
 have n0:=fo.st0
 have n1:=fo.st1
 have s1:=fo.sym1
 have hb1:=fo.b1
 have hbB:=fo.bB
 have e1:=fo.ini
 have e2:=fo.trans
 have e3:=fo.stop
 have e4:=fo.emit
 have na2:(arF h (h.st+1)).length≤64:=na
 have hil:(autoHM h).ini.length=h.st+1:=by show (1::List.replicate h.st (0:Rat)).length=_;rw [List.length_cons,List.length_replicate]
 have hfl:(autoHM h).fin.length=h.st+1:=by show (h.empty::h.stop).length=_;rw [List.length_cons,e3]
 refine FSpec.intro fn.hmm_Automaton (by rfl) (by rfl) (nb9 (by rfl)) fun E hE=>(AW.sg hE rfl (bxA rfl rfl fun b1=>(al z.Auto rfl fun b2=>(asD rfl (OL.nil (AW.seq (AW.sg hE rfl ?_)))))))
 refine ldPA ag.Hidden rfl rfl (vs:=[_,_,_,_,_,_,_,_,_,_,_]) rfl (nb9 rfl) (clv rfl vL (hv) (asD rfl (OL.nil (AW.sg hE rfl (mvD rfl (c_neq rfl rfl (c:=false) (by exact cne_f (by omega)) (OL.nil ?_)))))))
 refine cnF rfl ?_
 refine AW.skip (AW.seq (AW.region_planT (valM4 h0 b1) ownM4 (telM4 h0 b1) 11 order_free (by rw [hE];rfl) (by rfl) (by kernel_rfl) (by kernel_rfl) ?_ ?_))
 ·refine casM4 ?_ ?_ ?_ ?_ ?_ ?_ ?_ ?_ ?_ ?_ ?_
  ·exact fun β L c9=>⟨_,rfl,.inl (OG.of_OL (bd z.Ring pl.Ring (cs:=[_,_]) rfl ⟨β,pG_put (d:=21) (i:=0) rfl (fun t ht=>ownM4_inj ht) (lt_size 12 c9.size rfl (by decide)) (mfT_same (lt_size 12 c9.size rfl (by decide)) (by rfl))⟩))⟩
  ·exact fun β L c9=>⟨_,rfl,.inl (OG.of_OL (faP fd.Hidden_0 (b:=b1) (o:=0) (id:=1) ((pG_old rfl).trans rfl) rfl ⟨β,pG_put (d:=22) (i:=1) rfl (fun t ht=>ownM4_inj ht) (lt_size 12 c9.size rfl (by decide)) (mfT_same (lt_size 12 c9.size rfl (by decide)) (by rfl))⟩))⟩
  ·exact fun β L c9=>⟨_,rfl,.inl (OG.of_OL (ldPC ce.int (id:=1) (b:=b1) (o:=0) (pG_new rfl (come_dep (j:=1) c9 (by kernel_rfl))) ((pG_M (mfT_skip (show (1:Nat)≠26 by decide) (mfT_skip (show (1:Nat)≠29 by decide) (mfT_skip (show (1:Nat)≠5 by decide) rfl)))):_=some (.box b1 T.Hidden (cellsHM h0))) rfl ⟨β,pG_put (d:=23) (i:=2) rfl (fun t ht=>ownM4_inj ht) (lt_size 12 c9.size rfl (by decide)) (mfT_same (lt_size 12 c9.size rfl (by decide)) (by rfl))⟩))⟩
  ·exact fun β L c9=>⟨_,rfl,.inl (OG.of_OL (clv rfl .nil hmm_one ⟨β,pG_put (d:=24) (i:=3) rfl (fun t ht=>ownM4_inj ht) (lt_size 12 c9.size rfl (by decide)) (mfT_same (lt_size 12 c9.size rfl (by decide)) (by rfl))⟩))⟩
  ·exact fun β L c9=>⟨_,rfl,.inl (OG.of_OL (clv rfl (.cons (vle_of_eq (pG_new rfl (come_dep (j:=3) c9 (by kernel_rfl)))) .nil) (hmm_weightW (q:=1)) ⟨β,pG_put (d:=25) (i:=4) rfl (fun t ht=>ownM4_inj ht) (lt_size 12 c9.size rfl (by decide)) (mfT_same (lt_size 12 c9.size rfl (by decide)) (by rfl))⟩))⟩
  ·exact fun β L c9=>⟨_,rfl,.inl (OG.of_OL (lt1O (y:=dW 1) sl.Weights (vd_to (pG_new rfl (come_dep (j:=4) c9 (by kernel_rfl))) vd_w) rfl (by decide) (pG_M (mfT_no (by exact c9.no) (mfT_skip (show (26:Nat)≠29 by decide) (mfT_skip (show (26:Nat)≠5 by decide) rfl)))) fun b8=>⟨upd β 26 (b8,0),pG_set (d:=26) (i:=5) (x:=(b8,0)) rfl (fun t ht=>ownM4_inj ht) (lt_size 12 c9.size rfl (by decide)) rfl (mfT_here (lt_size 12 c9.size rfl (by decide)) rfl rfl rfl c9.no (by rfl) (List.forall_mem_cons.2 ⟨(by exact fun _ _=>rfl),(List.forall_mem_cons.2 ⟨(by exact fun _ _=>rfl),(fun y hy=>absurd hy List.not_mem_nil)⟩)⟩)) (fun t j ho hl=>by unfold ownM4 at ho;split at ho <;> cases ho <;> first|rfl|(rw [c9.no] at hl;cases hl)|exact come_notT c9 (by kernel_rfl) hl)⟩))⟩
  ·exact fun β L c9=>⟨_,rfl,.inl (OG.of_OL (clv rfl .nil hmm_one ⟨β,pG_put (d:=27) (i:=6) rfl (fun t ht=>ownM4_inj ht) (lt_size 12 c9.size rfl (by decide)) (mfT_same (lt_size 12 c9.size rfl (by decide)) (by rfl))⟩))⟩
  ·exact fun β L c9=>⟨_,rfl,.inl (OG.of_OL (clv rfl (.cons (vle_of_eq (pG_new rfl (come_dep (j:=6) c9 (by kernel_rfl)))) .nil) (hmm_weightW (q:=1)) ⟨β,pG_put (d:=28) (i:=7) rfl (fun t ht=>ownM4_inj ht) (lt_size 12 c9.size rfl (by decide)) (mfT_same (lt_size 12 c9.size rfl (by decide)) (by rfl))⟩))⟩
  ·exact fun β L c9=>⟨_,rfl,.inl (OG.of_OL (lt1O (y:=dW 1) sl.Weights (vd_to (pG_new rfl (come_dep (j:=7) c9 (by kernel_rfl))) vd_w) rfl (by decide) (pG_M (mfT_skip (show (29:Nat)≠26 by decide) (mfT_no (by exact c9.no) (mfT_skip (show (29:Nat)≠5 by decide) rfl)))) fun b8=>⟨upd β 29 (b8,0),pG_set (d:=29) (i:=8) (x:=(b8,0)) rfl (fun t ht=>ownM4_inj ht) (lt_size 12 c9.size rfl (by decide)) rfl (mfT_pass (lt_size 12 c9.size rfl (by decide)) (show (5:Nat)≠8 by decide) (.inl (show (26:Nat)≠29 by decide)) (by exact fun _=>rfl) (mfT_here (lt_size 12 c9.size rfl (by decide)) rfl rfl rfl c9.no (by rfl) (List.forall_mem_cons.2 ⟨(by exact fun _ _=>rfl),(fun y hy=>absurd hy List.not_mem_nil)⟩))) (fun t j ho hl=>by unfold ownM4 at ho;split at ho <;> cases ho <;> first|rfl|(rw [c9.no] at hl;cases hl)|exact come_notT c9 (by kernel_rfl) hl)⟩))⟩
  ·exact fun β L c9=>⟨_,rfl,.inl (OG.of_OL (bd2 (cs:=[_,_,_,_,_,_,_]) z.Auto pl.Auto (pvC (pG_new rfl (come_dep (j:=0) c9 (by kernel_rfl))) (pvC (pG_new rfl (come_dep (j:=2) c9 (by kernel_rfl))) (pvC rfl (pvC (pG_new rfl (come_dep (j:=5) c9 (by kernel_rfl))) (pvC (pG_new rfl (come_dep (j:=8) c9 (by kernel_rfl))) pvN))))) (by rfl) ⟨β,pG_put (d:=30) (i:=9) rfl (fun t ht=>ownM4_inj ht) (lt_size 12 c9.size rfl (by decide)) (mfT_same (lt_size 12 c9.size rfl (by decide)) (by rfl))⟩))⟩
  ·exact fun β L c9=>⟨_,rfl,.inl (OG.of_OL (al z.Auto (pG_M (mfT_skip (show (5:Nat)≠26 by decide) (mfT_skip (show (5:Nat)≠29 by decide) (mfT_no (by exact c9.no) rfl)))) fun b8=>⟨upd β 5 (b8,0),pG_set (d:=5) (i:=10) (x:=(b8,0)) rfl (fun t ht=>ownM4_inj ht) (lt_size 12 c9.size rfl (by decide)) rfl (mfT_pass (lt_size 12 c9.size rfl (by decide)) (show (5:Nat)≠10 by decide) (.inl (show (26:Nat)≠5 by decide)) (by exact fun _=>rfl) (mfT_pass (lt_size 12 c9.size rfl (by decide)) (show (8:Nat)≠10 by decide) (.inl (show (29:Nat)≠5 by decide)) (by exact fun _=>rfl) (mfT_here (lt_size 12 c9.size rfl (by decide)) rfl rfl rfl c9.no (by rfl) (fun y hy=>absurd hy List.not_mem_nil)))) (fun t j ho hl=>by unfold ownM4 at ho;split at ho <;> cases ho <;> first|rfl|(rw [c9.no] at hl;cases hl)|exact come_notT c9 (by kernel_rfl) hl)⟩))⟩
 refine fun β L c9 hA=>⟨_,rfl,.inl (OG.of_OL (sto sz.Auto (pG_new rfl (hA 10 (by decide))) (pG_new rfl (hA 9 (by decide))) rfl (pG_M (mfT_skip (show (5:Nat)≠26 by decide) (mfT_skip (show (5:Nat)≠29 by decide) (mfT_yes (hA 10 (by decide)) rfl rfl)))) rfl (nb9 rfl) (cells2:=[_,_,_,_,_,_,_]) rfl ?_))⟩
 refine OL.nil ?_
 refine AW.to [(1,.ptr 1 b1 0),(2,.ptr 2 b2 0),(5,.ptr 5 (β 5).1 0)] [(1,.box b1 T.Hidden (cellsHM h0)),(2,.box b2 T.Auto [.d (dI 0),.mt,.d (dI 0),.d (dI 0),.mt,.mt,.mt]),(5,.box (β 5).1 T.Auto [.d (dI 1),.mt,.d (dI h0.sym),.d (dI 1),.osl 26 (β 26).1 1 1,.osl 29 (β 29).1 1 1,.mt]),(26,.row (β 26).1 1 T.Weight 8 [dW 1]),(29,.row (β 29).1 1 T.Weight 8 [dW 1])] (.cons (vle_of_eq (sto_rho ((pG_old rfl).trans rfl))) (.cons (vle_of_eq (sto_rho ((pG_old rfl).trans rfl))) (.cons (vle_of_eq (sto_rho (pG_new rfl (hA 10 (by decide))))) (.nil)))) (.cons (sto_old (show (1:Nat)≠5 by decide) (pG_M (mfT_skip (show (1:Nat)≠26 by decide) (mfT_skip (show (1:Nat)≠29 by decide) (mfT_skip (show (1:Nat)≠5 by decide) rfl))))) (.cons (sto_old (show (2:Nat)≠5 by decide) (pG_M (mfT_skip (show (2:Nat)≠26 by decide) (mfT_skip (show (2:Nat)≠29 by decide) (mfT_skip (show (2:Nat)≠5 by decide) rfl))))) (.cons sto_new (.cons (sto_old (show (26:Nat)≠5 by decide) (pG_M (mfT_yes (hA 5 (by decide)) rfl rfl))) (.cons (sto_old (show (29:Nat)≠5 by decide) (pG_M (mfT_skip (show (29:Nat)≠26 by decide) (mfT_yes (hA 8 (by decide)) rfl rfl)))) (.nil)))))) ?_
 generalize (β 5).1=b5
 generalize (β 26).1=p1
 generalize (β 29).1=p2
 refine AW.rename 26 65 rfl (AW.rename 29 76 rfl (AW.boxW 5 [.d (dI 1),.mt,.d (dI h.sym),.d (dI 1),.osl 65 p1 1 1,.osl 76 p2 1 1,.mt] rfl (.cons vR (.cons vR (.cons (vle_of_eq (by rw [hsy])) (.cons vR (.cons VLe.osl (.cons VLe.osl .rq1)))))) (AW.seq (AW.regionK (by rw [hE];rfl) (SK.ofOL (ldPA ag.Hidden rfl rfl (vs:=[_,_,_,_,_,_,_,_,_,_,_]) rfl (nb9 rfl) (OL.nil ?_)))))))
 refine SK.ofSO (SO.callE (args':=[vHM h0]) (show 33<E.n by rw [hE];exact Nat.le_of_ble_eq_true (by rfl)) rfl .rq1 (Mc:=noMem) (fun _ _ h=>by cases h) hem (fun _ _ _ h=>h) ?_)
 rintro tz9 -
 refine SK.ofOL (mvT rfl (OL.nil ?_))
 refine SK.ofOL (ex rfl rfl (OL.nil ?_))
 refine SK.ofOL (ex rfl rfl (OL.nil ?_))
 refine SK.ofOL (al z.Hidden rfl fun b6=>(OL.nil ?_))
 refine SK.ofOL (sto sz.Hidden rfl rfl rfl rfl rfl (nb9 rfl) (cells2:=[_,_,_,_,_,_,_,_,_,_,_]) rfl (OL.nil ?_))
 refine SK.ofOL (asD rfl (OL.nil ?_))
 refine SK.nil (AW.seq (AW.sg hE rfl (mvD rfl (c_neq rfl rfl (c:=false) (by exact cne_f (by omega)) (OL.nil (cnF rfl ?_))))))
 refine AW.skip (AW.seq (AW.dg 1 [0,1,2,3,4,5,6] order_free hE rfl (by kernel_rfl) (OI.of_OL (os:=[_,_,_,_,_,_,_]) rfl ?_)))
 refine faP fd.Auto_4 rfl rfl (ldPC ce.Weights rfl rfl rfl (faP fd.Hidden_2 rfl rfl (ldPA ag.Rat rfl rfl (vs:=[_,_,_]) rfl (nb9 rfl) (clv rfl vL (hmm_weightW (q:=h.empty)) (ixO sl.Weights rfl rfl (by omega) (by omega) rfl (stE sz.Weight rfl (d:=dW h.empty) vd_w rfl rfl Nat.zero_lt_one (es2:=[dW h.empty]) rfl (OL.nil ?_)))))))
 refine AW.seq (AW.sg hE rfl (asD rfl (OL.nil (AW.block (AW.row0 114 T.Arc 11 rfl (AW.boxW 5 [.d (dI 1),.mt,.d (dI h.sym),.d (dI 1),.osl 65 p1 1 1,.osl 76 p2 1 1,.osl 114 0 0 0] rfl (.cons vR (.cons vR (.cons vR (.cons vR (.cons vR (.cons vR (.cons VLe.mtO .nil))))))) ?_))))))
 refine AW.whileK (α:=Nat × Nat × Nat × Nat × Nat × Nat × Nat × Nat) [(2,_),(3,_),(5,_),(6,_)] [(2,_),(6,_)] (fun (f,n,p1,c1,p2,c2,p3,c3)=>[(8,.d (dI f))]) (fun (f,n,p1,c1,p2,c2,p3,c3)=>[(5,.box b5 T.Auto [.d (dI 1),.mt,.d (dI h.sym),.d (dI 1),.osl 65 p1 n c1,.osl 76 p2 n c2,.osl 114 p3 (arF h f).length c3]),(65,.row p1 c1 T.Weight 8 (((autoHM h).ini.take n).map dW)),(76,.row p2 c2 T.Weight 8 (((autoHM h).fin.take n).map dW)),(114,.row p3 c3 T.Arc 11 ((arF h f).map dArc))]) (fun (f,n,p1,c1,p2,c2,p3,c3)=>f≤h.st+1∧(f=0→n=1)∧(1≤f→n=f)) (fun (f,n,p1,c1,p2,c2,p3,c3)=>h.st+1-f) (0,1,p1,1,p2,1,0,0) (.cons (knP rfl) (.cons (knJ) (.cons (knP rfl) (.cons (knP rfl) .nil)))) (.cons (owB rfl) (.cons (owB rfl) .nil)) ⟨⟨Nat.zero_le _,fun _=>rfl,fun h=>absurd h (by decide)⟩,.rq1,.cons rfl (.cons rfl (.cons rfl (.cons rfl .nil)))⟩ ?_
 rintro ⟨f,n,p1,c1,p2,c2,p3,c3⟩ ⟨h1,hn0,hn1⟩
 have h1:f≤h.st+1:=h1
 have hn0:f=0→n=1:=hn0
 have hn1:1≤f→n=f:=hn1
 refine AW.seq (AW.sg hE rfl (mvD rfl (faP fd.Hidden_1 rfl rfl (ldPC ce.int rfl rfl rfl (c_leq rfl rfl rfl (OL.nil (AW.cond rfl (fun h48=>?_) (fun h48=>?_))))))))
 ·try simp only [dx9] at h48
  refine AW.skip (AW.seq (AW.block (AW.sg hE rfl (faP fd.Hidden_3 rfl rfl (ldPC ce.Rats rfl rfl rfl (asD rfl (OL.nil ?_)))))))
  refine AW.midK (α:=Nat × Nat × Nat × Nat) [(2,_),(3,_),(5,_),(6,_),(8,_)] [(2,_),(6,_),(114,_)] (fun (q1,d1,q2,d2)=>[(9,.d (dQs (rowHA h f)))]) (fun (q1,d1,q2,d2)=>[(5,.box b5 T.Auto [.d (dI 1),.mt,.d (dI h.sym),.d (dI 1),.osl 65 q1 (f+1) d1,.osl 76 q2 (f+1) d2,.osl 114 p3 (arF h f).length c3]),(65,.row q1 d1 T.Weight 8 (((autoHM h).ini.take (f+1)).map dW)),(76,.row q2 d2 T.Weight 8 (((autoHM h).fin.take (f+1)).map dW))]) (fun (q1,d1,q2,d2)=>True) (.cons (knP rfl) (.cons (knJ) (.cons (knP rfl) (.cons (knP rfl) (.cons (knD rfl) .nil))))) (.cons (owB rfl) (.cons (owB rfl) (.cons (owR rfl) .nil))) ?_ ?_
  ·refine AW.sg hE rfl (mvD rfl (c_gtr rfl rfl rfl (OL.nil (AW.cond rfl (fun h0=>?_) (fun h0=>?_)))))
   ·have h0:1≤f:=by have:=dt9 h0;omega
    obtain rfl:n=f:=hn1 h0
    refine AW.sg hE rfl (faP fd.Hidden_4 rfl rfl (ldPC ce.Ratss rfl rfl rfl (mvD rfl (bo rfl rfl (bin_sub (c:=((n-1:Nat):Int)) (by omega) (wrap_i64 (by omega))) (ixLn sl.Ratss [] rfl rfl (show n-1<h.trans.length by omega) rfl rfl (ldRC ce.Rats rfl (asD rfl ?_)))))))
    refine OL.nil (AW.dg 2 [0,1,2,3,5,6,7,8,9,10,11,12,4,13,14,16,15,17,18,19] order_free hE rfl (by kernel_rfl) (OI.of_OL (os:=[_,_,_,_,_,_,_,_,_,_,_,_,_,_,_,_,_,_,_,_]) rfl ?_))
    refine faP fd.Auto_3 rfl rfl (ldPC ce.Weights rfl rfl rfl (bd z.Weight pl.Weight (cs:=[_,_,_,_,_,_,_,_]) rfl (lt1 (y:=dW 0) sl.Weights vd_w0h rfl (by decide) (faP fd.Auto_4 rfl rfl (ldPC ce.Weights rfl rfl rfl (faP fd.Hidden_5 rfl rfl (ldPC ce.Rats rfl rfl rfl ?_)))))))
    refine mvD rfl (bo rfl rfl (bin_sub (c:=((n-1:Nat):Int)) (by omega) (wrap_i64 (by omega))) (ixLn sl.Rats 0 rfl rfl (show n-1<h.stop.length by omega) rfl rfl (ldRA ag.Rat rfl (vs:=[_,_,_]) rfl (nb9 rfl) ?_)))
    refine apO sl.Weights rfl rfl rfl (by rw [lm9,List.length_take];omega) (VC.d _) (fun y hy=>by rw [ms9 hy];rfl) (by simp only [ls9];omega) (by simp only [ls9];omega) (.inr rfl) (ys:=((autoHM h).ini.take (n+1)).map dW) (by rw [take_snoc9 0 (show n<(autoHM h).ini.length by omega),show (autoHM h).ini.getD n 0=0 from by obtain ⟨m,rfl⟩:=Nat.exists_eq_add_of_le h0;rw [Nat.add_comm 1 m];exact rep_get (n:=h.st) (j:=m),List.map_append];rfl) (n2:=n+1) (rfl) fun b65 c65=>?_
    refine clv rfl vL (hmm_weightW (q:=h.stop.getD (n-1) 0)) (lt1 (y:=dW (h.stop.getD (n-1) 0)) sl.Weights vd_w rfl (by decide) (faP fd.Auto_3 rfl rfl ?_))
    refine apO sl.Weights rfl rfl rfl (by rw [lm9,List.length_take];omega) (VC.d _) (fun y hy=>by rw [ms9 hy];rfl) (by simp only [ls9];omega) (by simp only [ls9];omega) (.inr rfl) (ys:=((autoHM h).fin.take (n+1)).map dW) (by rw [take_snoc9 0 (show n<(autoHM h).fin.length by omega),show (autoHM h).fin.getD n 0=h.stop.getD (n-1) 0 from by obtain ⟨m,rfl⟩:=Nat.exists_eq_add_of_le h0;rw [Nat.add_comm 1 m];rfl,List.map_append];rfl) (n2:=n+1) (rfl) fun b76 c76=>?_
    refine sto sz.Weights rfl rfl rfl rfl rfl (nb9 rfl) (cells2:=[_,_,_,_,_,_,_]) rfl (faP fd.Auto_4 rfl rfl (sto sz.Weights rfl rfl rfl rfl rfl (nb9 rfl) (cells2:=[_,_,_,_,_,_,_]) rfl (OL.nil ?_)))
    exact AW.reach (b65,c65,b76,c76) ⟨trivial,Knows.app .rq5 (.cons (by rw [rowHA,if_neg (by omega)];exact VLe.refl _) .nil),Owns.app (.cons rfl (.cons rfl (.cons rfl .nil))) (.cons rfl (.cons rfl (.cons rfl .nil)))⟩
   ·have h0:f=0:=by have:=df9 h0;omega
    obtain rfl:n=1:=hn0 h0
    refine AW.skip ?_
    subst h0
    exact AW.reach (p1,c1,p2,c2) ⟨trivial,Knows.app .rq5 .rq1,Owns.app (.cons rfl (.cons rfl (.cons rfl .nil))) (.cons rfl (.cons rfl (.cons rfl .nil)))⟩
  rintro ⟨q1,d1,q2,d2⟩ -
  have hrl:=rowHA_len fo (show f≤h.st by omega)
  refine AW.sg hE rfl (mvD rfl (lnL sl.Rats rfl rfl (mvD rfl (OL.nil (AW.block ?_)))))
  refine AW.whileK (α:=Nat × Nat × Nat) [(2,_),(3,_),(5,_),(6,_),(8,_),(79,_),(80,_)] [(2,_),(6,_),(65,_),(76,_)] (fun (i,q3,d3)=>[(81,.d (dI i))]) (fun (i,q3,d3)=>[(5,.box b5 T.Auto [.d (dI 1),.mt,.d (dI h.sym),.d (dI 1),.osl 65 q1 (f+1) d1,.osl 76 q2 (f+1) d2,.osl 114 q3 (arF h f++arI h f i).length d3]),(114,.row q3 d3 T.Arc 11 ((arF h f++arI h f i).map dArc))]) (fun (i,q3,d3)=>i≤h.st) (fun (i,q3,d3)=>h.st-i) (0,p3,c3) (.cons (knP rfl) (.cons (knJ) (.cons (knP rfl) (.cons (knP rfl) (.cons (knD rfl) (.cons (knD rfl) (.cons (knD rfl) .nil))))))) (.cons (owB rfl) (.cons (owB rfl) (.cons (owR rfl) (.cons (owR rfl) .nil)))) ⟨Nat.zero_le _,.rq1,.cons (by rw [show arI h f 0=[] from rfl,List.append_nil];rfl) (.cons (by rw [show arI h f 0=[] from rfl,List.append_nil];rfl) .nil)⟩ ?_
  rintro ⟨i,q3,d3⟩ h2
  have h2:i≤h.st:=h2
  refine AW.sg hE rfl (c_lss rfl rfl rfl (OL.nil (AW.seq (AW.cond rfl (fun h82=>?_) (fun h82=>?_)))))
  ·try simp only [dx9] at h82
   refine AW.skip (AW.seq (AW.block (AW.seq ?_)))
   have hi:i<h.st:=by omega
   have zx:=(rowHA_small fo f).get hb1 i
   have hel:=emit_len32 fo i
   refine AW.rg hE rfl (mvD rfl (ixLn sl.Rats 0 rfl rfl (by omega) rfl rfl (ldRA ag.Rat rfl (vs:=[_,_,_]) rfl (nb9 rfl) (al z.Rat rfl fun b11=>(asD rfl (sto sz.Rat rfl rfl rfl rfl rfl (nb9 rfl) (cells2:=[_,_,_]) rfl (OL.nil ?_)))))))
   refine AW.sg hE rfl (faP fd.Hidden_6 rfl rfl (ldPC ce.Ratss rfl rfl rfl (mvD rfl (ixLn sl.Ratss [] rfl rfl (show i<h.emit.length by omega) rfl rfl (ldRC ce.Rats rfl (lnL sl.Rats rfl rfl (mvD rfl ?_)))))))
   refine OL.nil (AW.block ?_)
   refine AW.whileK (α:=Nat × Nat × Nat) [(2,_),(3,_),(5,_),(6,_),(8,_),(10,_),(11,_),(79,_),(80,_),(81,_),(90,_),(91,_)] [(2,_),(6,_),(11,_),(65,_),(76,_)] (fun (s,r3,e3)=>[(92,.d (dI s))]) (fun (s,r3,e3)=>[(5,.box b5 T.Auto [.d (dI 1),.mt,.d (dI h.sym),.d (dI 1),.osl 65 q1 (f+1) d1,.osl 76 q2 (f+1) d2,.osl 114 r3 (arF h f++arI h f i++arE ((rowHA h f).getD i 0) f i (h.emit.getD i []) s).length e3]),(114,.row r3 e3 T.Arc 11 ((arF h f++arI h f i++arE ((rowHA h f).getD i 0) f i (h.emit.getD i []) s).map dArc))]) (fun (s,r3,e3)=>s≤(h.emit.getD i []).length) (fun (s,r3,e3)=>(h.emit.getD i []).length-s) (0,q3,d3) (.cons (knP rfl) (.cons (knJ) (.cons (knP rfl) (.cons (knP rfl) (.cons (knD rfl) (.cons (knD rfl) (.cons (knP rfl) (.cons (knD rfl) (.cons (knD rfl) (.cons (knD rfl) (.cons (knD rfl) (.cons (knD rfl) .nil)))))))))))) (.cons (owB rfl) (.cons (owB rfl) (.cons (owB rfl) (.cons (owR rfl) (.cons (owR rfl) .nil))))) ⟨Nat.zero_le _,.rq1,.cons (by rw [show arE ((rowHA h f).getD i 0) f i (h.emit.getD i []) 0=[] from rfl,List.append_nil];rfl) (.cons (by rw [show arE ((rowHA h f).getD i 0) f i (h.emit.getD i []) 0=[] from rfl,List.append_nil];rfl) .nil)⟩ ?_
   rintro ⟨s,r3,e3⟩ h3
   have h3:s≤(h.emit.getD i []).length:=h3
   have hal:=arcs_all fo (k:=f) (i:=i) (p:=((rowHA h f).getD i 0)) (e:=(h.emit.getD i [])) (s:=s) (by omega) h2 (by omega)
   refine AW.sg hE rfl (c_lss rfl rfl rfl (OL.nil (AW.seq (AW.cond rfl (fun h93=>?_) (fun h93=>?_)))))
   ·try simp only [dx9] at h93
    refine AW.skip (AW.seq (AW.block (AW.seq ?_)))
    have hs:s<(h.emit.getD i []).length:=by omega
    have zy:=(fo.zM i).get hb1 s
    have zxy:=sz_mul ((rowHA h f).getD i 0) ((h.emit.getD i []).getD s 0)
    refine AW.rg hE rfl (mvD rfl (ixLn sl.Rats 0 rfl rfl (by omega) rfl rfl (ldRA ag.Rat rfl (vs:=[_,_,_]) rfl (nb9 rfl) (al z.Rat rfl fun b13=>(asD rfl (sto sz.Rat rfl rfl rfl rfl rfl (nb9 rfl) (cells2:=[_,_,_]) rfl (OL.nil ?_)))))))
    refine AW.sg hE rfl (ldPA ag.Rat rfl rfl (vs:=[_,_,_]) rfl (nb9 rfl) (ldPA ag.Rat rfl rfl (vs:=[_,_,_]) rfl (nb9 rfl) (clv rfl vL (rational_MulQ (x:=((rowHA h f).getD i 0)) (y:=((h.emit.getD i []).getD s 0)) (by omega) (by omega)) (al z.Rat rfl fun b14=>(sto sz.Rat rfl rfl rfl rfl rfl (nb9 rfl) (cells2:=[_,_,_]) rfl (OL.nil (AW.sg hE rfl ?_)))))))
    refine ldPA ag.Rat rfl rfl (vs:=[_,_,_]) rfl (nb9 rfl) (clv rfl vL (rational_SignQ (x:=((rowHA h f).getD i 0)*((h.emit.getD i []).getD s 0)) (by omega)) (c_gtr rfl rfl rfl (OL.nil (AW.cond rfl (fun hp=>?_) (fun hp=>?_)))))
    ·have hp:0<((rowHA h f).getD i 0)*((h.emit.getD i []).getD s 0):=sgn_gtH.1 (dt9 hp)
     refine AW.dg 2 [0,1,2,3,4,5,6,7,8,9,10,11,12,13] order_free hE rfl (by kernel_rfl) (OI.of_OL (os:=[_,_,_,_,_,_,_,_,_,_,_,_,_,_]) rfl ?_)
     refine faP fd.Auto_5 rfl rfl (ldPC ce.Arcs rfl rfl rfl (mvD rfl (mvD rfl (bo rfl rfl (bin_add (c:=((s+1:Nat):Int)) (by omega) (wrap_i64 (by omega))) (mvD rfl (bo rfl rfl (bin_add (c:=((i+1:Nat):Int)) (by omega) (wrap_i64 (by omega))) (ldPA ag.Rat rfl rfl (vs:=[_,_,_]) rfl (nb9 rfl) ?_)))))))
     refine clv rfl vL (hmm_weightW (q:=((rowHA h f).getD i 0)*((h.emit.getD i []).getD s 0))) (bd2 (cs:=[_,_,_,_,_,_,_,_,_,_,_]) z.Arc pl.Arc (pvC (by exact evD rfl) (pvC (by exact evD rfl) (pvC (by exact evD rfl) (pvC (by exact evA rfl) (pvN))))) (by rfl) (lt1 (y:=dArc ⟨f,s+1,i+1,((rowHA h f).getD i 0)*((h.emit.getD i []).getD s 0)⟩) sl.Arcs (vd_arc (x:=⟨f,s+1,i+1,((rowHA h f).getD i 0)*((h.emit.getD i []).getD s 0)⟩)) rfl (by decide) ?_))
     refine apO sl.Arcs rfl rfl rfl (by rw [lm9]) (VC.d _) (fun y hy=>by rw [ms9 hy];rfl) (by simp only [ls9];omega) (by simp only [ls9];omega) (.inr rfl) (ys:=(arF h f++arI h f i++arE ((rowHA h f).getD i 0) f i (h.emit.getD i []) (s+1)).map dArc) (by rw [arE_succ,if_pos hp,← List.append_assoc];exact map_snocA) (n2:=(arF h f++arI h f i++arE ((rowHA h f).getD i 0) f i (h.emit.getD i []) (s+1)).length) (by rw [arE_succ,if_pos hp,← List.append_assoc];exact len_snocA) fun b114 c114=>?_
     refine faP fd.Auto_5 rfl rfl (sto sz.Arcs rfl rfl rfl rfl rfl (nb9 rfl) (cells2:=[_,_,_,_,_,_,_]) rfl (OL.nil (AW.rg hE rfl (add_i64 rfl rfl (by omega) (mvD rfl (OL.nil ?_))))))
     exact AW.again (x:=(s,r3,e3)) (s+1,b114,c114) (by (simp only [];omega)) ⟨by omega,Knows.app .rq12 .rq1,Owns.app (.cons rfl (.cons rfl (.cons rfl (.cons rfl (.cons rfl .nil))))) (.cons rfl (.cons rfl .nil))⟩
    ·have hp:¬ 0<((rowHA h f).getD i 0)*((h.emit.getD i []).getD s 0):=fun e=>df9 hp (sgn_gtH.2 e)
     refine AW.skip (AW.rg hE rfl (add_i64 rfl rfl (by omega) (mvD rfl (OL.nil ?_))))
     exact AW.again (x:=(s,r3,e3)) (s+1,r3,e3) (by (simp only [];omega)) ⟨by omega,Knows.app .rq12 .rq1,Owns.app (.cons rfl (.cons rfl (.cons rfl (.cons rfl (.cons rfl .nil))))) (.cons (by rw [arE_succ,if_neg hp,List.append_nil];rfl) (.cons (by rw [arE_succ,if_neg hp,List.append_nil];rfl) .nil))⟩
   ·try simp only [dx9] at h93
    refine AW.exit ?_
    obtain rfl:s=(h.emit.getD i []).length:=by omega
    refine AW.rg hE rfl (add_i64 rfl rfl (by omega) (mvD rfl (OL.nil ?_)))
    exact AW.again (x:=(i,q3,d3)) (i+1,r3,e3) (by (simp only [];omega)) ⟨by omega,Knows.app .rq7 .rq1,Owns.app (.cons rfl (.cons rfl (.cons rfl (.cons rfl .nil)))) (.cons (by rw [arI_succ,← List.append_assoc];rfl) (.cons (by rw [arI_succ,← List.append_assoc];rfl) .nil))⟩
  ·try simp only [dx9] at h82
   refine AW.exit ?_
   obtain rfl:i=h.st:=by omega
   rw [← hrl]
   refine AW.rg hE rfl (mvD rfl (add_i64 rfl rfl (by omega) (asD rfl (OL.nil ?_))))
   exact AW.again (x:=(f,n,p1,c1,p2,c2,p3,c3)) (f+1,f+1,q1,d1,q2,d2,q3,d3) (by (simp only [];omega)) ⟨⟨by omega,fun e=>absurd e (Nat.succ_ne_zero _),fun _=>rfl⟩,Knows.app .rq4 .rq1,Owns.app (.cons rfl (.cons rfl .nil)) (.cons (by rw [arF_succ];rfl) (.cons rfl (.cons rfl (.cons (by rw [arF_succ];rfl) .nil))))⟩
 ·try simp only [dx9] at h48
  refine AW.exit (AW.seq ?_)
  obtain rfl:f=h.st+1:=by omega
  obtain rfl:n=h.st+1:=hn1 (by omega)
  refine AW.rg hE rfl (faP fd.Auto_3 rfl rfl (ldPC ce.Weights rfl rfl rfl (lnO sl.Weights rfl rfl (faP fd.Auto_2 rfl rfl (sto sz.int rfl rfl rfl rfl rfl (nb9 rfl) (cells2:=[_,_,_,_,_,_,_]) rfl (OL.nil (AW.seq ?_)))))))
  refine AW.sg hE rfl (faP fd.Auto_5 rfl rfl (ldPC ce.Arcs rfl rfl rfl (lnO sl.Arcs rfl rfl (c_gtr rfl rfl (c:=false) (by exact decide_eq_false (by omega)) (OL.nil (cnF rfl ?_))))))
  refine AW.skip (AW.seq ?_)
  refine AW.freeze 65 rfl (AW.boxW 5 [.d (dI 1),.d (.sl []),.d (dI h.sym),.d (dI ((h.st+1:Nat):Int)),.d (dWs (autoHM h).ini),.osl 76 p2 (h.st+1) c2,.osl 114 p3 (arF h (h.st+1)).length c3] rfl (.cons vR (.cons VLe.mt (.cons vR (.cons vR (.cons (frz_osl (by rw [lm9,List.length_take];omega) (by rw [List.take_of_length_le (by omega)])) .rq2))))) ?_)
  refine AW.freeze 76 rfl (AW.boxW 5 [.d (dI 1),.d (.sl []),.d (dI h.sym),.d (dI ((h.st+1:Nat):Int)),.d (dWs (autoHM h).ini),.d (dWs (autoHM h).fin),.osl 114 p3 (arF h (h.st+1)).length c3] rfl (.cons vR (.cons vR (.cons vR (.cons vR (.cons vR (.cons (frz_osl (by rw [lm9,List.length_take];omega) (by rw [List.take_of_length_le (by omega)])) .rq1)))))) ?_)
  refine AW.freeze 114 rfl (AW.boxW 5 [.d (dI 1),.d (.sl []),.d (dI h.sym),.d (dI ((h.st+1:Nat):Int)),.d (dWs (autoHM h).ini),.d (dWs (autoHM h).fin),.d (dArcs (autoHM h).arcs)] rfl (.cons vR (.cons vR (.cons vR (.cons vR (.cons vR (.cons vR (.cons (frz_osl (lm9 ..).symm rfl) .nil))))))) ?_)
  refine AW.rg hE rfl (ldPA ag.Auto rfl rfl (vs:=[_,_,_,_,_,_,_]) rfl (nb9 rfl) (clv rfl vL (NormalS (a:=autoHM h) (autoHM_ok g) (autoHM_szS g na) s1 (by show h.st+1≤64;omega)) (ex rfl rfl (ex rfl rfl (sto sz.Auto rfl rfl rfl rfl rfl (nb9 rfl) (cells2:=[_,_,_,_,_,_,_]) rfl (asD rfl (OL.nil ?_)))))))
  exact AW.ret (RetQ.r ⟨_,.cellA rfl rfl ag.Auto (nb9 rfl) (.tmp rfl .nil),_,.cons (.ag (.cons (.le vR) (.cons (.le vR) (.cons (.le vR) (.cons (.le vR) (.cons (.le vR) (.cons (.le vR) (.cons (.le vR) .nil)))))))) (.cons (.le vR) .nil),rfl⟩)
theorem fw_small {a:Au}(h:a.Ok)(hn:a.arcs.length≤64){w:List Int}(hw:InW a.sym w){C:Nat}(hC:1≤C∧C≤100000000)(hv:∀ k,k≤w.length→∀ j,sz ((vecM (machL [a]) (w.take k)).getD j 0)≤C)(he:∀ s i j,sz (entA a.arcs s i j)≤C)(hf:Small C a.fin)(s2:a.st≤64):FwSz (normOf a) w:=by
 have hv2:∀ k,k≤w.length→∀ j,sz ((fwA (normOf a) (w.take k)).getD j 0)≤C:=fun k hk j=>by
  rw [fwA_vec (norm_ok h) (fun x hx=>hw x (List.mem_of_mem_take hx)),(norm_same a).mach1];exact hv k hk j
 have hq:∀ x,x ∈ (normOf a).arcs→sz x.q≤C:=fun x hx=>by
  rw [← entA_mem (tidy_asc a.arcs) hx (normOf_lab h x hx),entA_tidy];exact he ..
 have hl:(normOf a).arcs.length≤64:=Nat.le_trans (tidyA_len a.arcs) hn
 have hvw:∀ j,sz ((fwA (normOf a) w).getD j 0)≤C:=fun j=>by
  have:=hv2 w.length (Nat.le_refl _) j;rwa [List.take_length] at this
 refine ⟨fun k hk=>⟨fun j=>Nat.le_trans (hv2 k (by omega) j) (by omega),fun x hx=>Nat.le_trans (hq x hx) (by omega),fun i j=>?_⟩,fun j=>Nat.le_trans (hvw j) (by omega),fun j=>Nat.le_trans (hf.get hC.1 j) (by omega),fun i hi=>?_⟩
 ·have h1:=stepF_szG (v:=fwA (normOf a) (w.take k)) (n:=a.st) (s:=(w.getD k 0).toNat) (j:=j) (l:=(normOf a).arcs.take i) (B:=C) (C:=C) (N:=64) (hv2 k (by omega)) (fun x hx=>⟨((norm_ok h).arc x (List.mem_of_mem_take hx)).2.1,hq x (List.mem_of_mem_take hx)⟩) (by rw [List.length_take];omega) (by omega)
  exact Nat.le_trans h1 (by omega)
 ·unfold dotF
  have h1:=sumN_szC (f:=fun i=>(fwA (normOf a) w).getD i 0*(normOf a).fin.getD i 0) (C:=C+C) (n:=i) fun j _=>by
   have h2:=sz_mul ((fwA (normOf a) w).getD j 0) ((normOf a).fin.getD j 0)
   have h3:=hvw j
   have h4:sz ((normOf a).fin.getD j 0)≤C:=hf.get hC.1 j
   omega
  have h2:=Nat.mul_le_mul_right (C+C+1) (show i≤64 from Nat.le_trans hi s2)
  omega
theorem norm_small {a:Au}(h:a.Ok){C:Nat}(he:∀ s i j,sz (entA a.arcs s i j)≤C){x:Arc9}(hx:x ∈ (normOf a).arcs):sz x.q≤C:=by
 rw [← entA_mem (tidy_asc a.arcs) hx (normOf_lab h x hx),entA_tidy];exact he ..
theorem WeightHS {h:HM}{B C:Nat}(g:HM.GoodX 1048576 B h)(na:(autoHM h).arcs.length≤64){w:List Int}(hw:InW h.sym w)(hl:w.length≤256)(hC:1≤C∧C≤100000000)(hB:B+B≤C)
  (hf:∀ k,k≤w.length→∀ t j,t<(w.take k).length→sz ((fwdF h (w.take k) t).getD j 0)≤C):FSpec P F.weigh_Weight [vAu (normOf (autoHM h)),.d (ints w)] (.tup [vW (likF h w),.d (dI 0)]):=by
 have ok:=autoHM_ok g
 have nk:=norm_ok ok
 have he:∀ s i j,sz (entA (autoHM h).arcs s i j)≤C:=fun s i j=>Nat.le_trans (autoHM_ent g s i j) hB
 have z:=autoHM_szS g na
 have st:(autoHM h).st≤64:=by have:=g.form.st1;show h.st+1≤64;omega
 have zn:(normOf (autoHM h)).Sz 134217728 64:=⟨z.ini,z.fin,fun x hx=>Nat.le_trans (norm_small ok he hx) (by omega),Nat.le_trans (tidyA_len _) na⟩
 have e:serA (normOf (autoHM h)) w=likF h w:=by rw [ser_norm];exact ser_lik g hw
 have r:=WeightS (a:=normOf (autoHM h)) nk zn g.form.sym1 st (w:=w) hw hl (fw_small nk zn.num hw hC (fun k hk j=>by rw [(norm_same _).mach1];exact vecH_sz g hC.1 (fun x hx=>hw x (List.mem_of_mem_take hx)) (hf k hk) j) (fun s i j=>by show sz (entA (tidyA _) s i j)≤C;rw [entA_tidy];exact he s i j) ((autoHM_fin g).mono (by omega)) st)
 rw [e] at r
 exact r
end Go.Proofs.YteiohkpjgcioaaaGreatDoor
