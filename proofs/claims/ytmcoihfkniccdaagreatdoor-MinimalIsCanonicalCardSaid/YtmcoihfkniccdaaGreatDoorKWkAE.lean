/-
  Walks of layers 6 and 23 of the specification, part 5: normal forms with room, differences (printed by mk2.py).
-/
import Derived.Test.YtmcoihfkniccdaaGreatDoorKMod102
import Derived.Test.YtmcoihfkniccdaaGreatDoorKAlg44
set_option linter.unusedVariables false
set_option linter.unusedSimpArgs false
namespace Go.Proofs.YtmcoihfkniccdaaGreatDoor
open Go Go.AL
theorem neg1_r:((-1:Int):Rat) / ((1:Int):Rat) = -1:=by decide +kernel
abbrev FrB:=(Nat × Nat) × (Nat × Nat) × (Nat × Nat)
abbrev frL (a:Au)(x:FrB):List (Nat × Blk):=[(14,.row x.1.1 x.1.2 T.Weight 8 (a.ini.map dW)),(19,.row x.2.1.1 x.2.1.2 T.Weight 8 (a.fin.map dW)),(24,.row x.2.2.1 x.2.2.2 T.Arc 11 ((formA a.arcs).map dArc))]
def frM (a:Au)(x:FrB):Mem:=lk none ((frL a x).map fun p=>(p.1,some p.2))
abbrev frV (a:Au)(x:FrB):List V:=[.d (dI 1),.d (.sl []),.d (dI a.sym),.d (dI a.st),.osl 14 x.1.1 a.ini.length x.1.2,.osl 19 x.2.1.1 a.fin.length x.2.1.2,.osl 24 x.2.2.1 (formA a.arcs).length x.2.2.2]
def ownFm:Nat→Option Nat
 | 3=>some 0
 | 4=>some 1
 | 5=>some 2
 | 6=>some 3
 | 7=>some 4
 | 8=>some 5
 | 9=>some 6
 | 10=>some 7
 | 11=>some 8
 | 12=>some 9
 | 13=>some 10
 | 14=>some 11
 | 15=>some 12
 | 16=>some 13
 | 17=>some 14
 | 18=>some 15
 | 19=>some 16
 | 20=>some 17
 | 21=>some 18
 | 22=>some 19
 | 23=>some 20
 | 24=>some 21
 | 25=>some 22
 | _=>none
theorem ownFm_inj {t i:Nat}(h:ownFm t=some i):t=[3,4,5,6,7,8,9,10,11,12,13,14,15,16,17,18,19,20,21,22,23,24,25].getD i 0:=by
 unfold ownFm at h
 split at h <;> first|(cases h;rfl)|cases h
noncomputable def valFm (a:Au)(b1:Nat)(t:Nat)(β:Nat→Nat × Nat):V :=
 match t with
 | 3=>.ptr 1 b1 0
 | 4=>vRing
 | 5=>vRing
 | 6=>.ptr 1 b1 2
 | 7=>.d (dI a.sym)
 | 8=>.ptr 1 b1 3
 | 9=>.d (dI a.st)
 | 10=>.ptr 1 b1 0
 | 11=>vRing
 | 12=>.ptr 1 b1 4
 | 13=>.d (dWs a.ini)
 | 14=>.osl 14 (β 14).1 a.ini.length (β 14).2
 | 15=>.ptr 1 b1 0
 | 16=>vRing
 | 17=>.ptr 1 b1 5
 | 18=>.d (dWs a.fin)
 | 19=>.osl 19 (β 19).1 a.fin.length (β 19).2
 | 20=>.ptr 1 b1 0
 | 21=>vRing
 | 22=>.ptr 1 b1 6
 | 23=>.d (dArcs a.arcs)
 | 24=>.osl 24 (β 24).1 (formA a.arcs).length (β 24).2
 | 25=>.ag [.d (dI 1),.d (.sl []),.d (dI a.sym),.d (dI a.st),.osl 14 (β 14).1 a.ini.length (β 14).2,.osl 19 (β 19).1 a.fin.length (β 19).2,.osl 24 (β 24).1 (formA a.arcs).length (β 24).2]
 | _=>.junk
noncomputable abbrev telFm (a:Au)(b1:Nat):List Tell:=[⟨24,21,fun β=>.row (β 24).1 (β 24).2 T.Arc 11 ((formA a.arcs).map dArc)⟩,⟨19,16,fun β=>.row (β 19).1 (β 19).2 T.Weight 8 (a.fin.map dW)⟩,⟨14,11,fun β=>.row (β 14).1 (β 14).2 T.Weight 8 (a.ini.map dW)⟩]
theorem casFm {p:Nat→Prop}(h0:p 0)(h1:p 1)(h2:p 2)(h3:p 3)(h4:p 4)(h5:p 5)(h6:p 6)(h7:p 7)(h8:p 8)(h9:p 9)(h10:p 10)(h11:p 11)(h12:p 12)(h13:p 13)(h14:p 14)(h15:p 15)(h16:p 16)(h17:p 17)(h18:p 18)(h19:p 19)(h20:p 20)(h21:p 21)(h22:p 22):∀ i,i<23→p i:=fun i hi=>by
 have:i=0 ∨ i=1 ∨ i=2 ∨ i=3 ∨ i=4 ∨ i=5 ∨ i=6 ∨ i=7 ∨ i=8 ∨ i=9 ∨ i=10 ∨ i=11 ∨ i=12 ∨ i=13 ∨ i=14 ∨ i=15 ∨ i=16 ∨ i=17 ∨ i=18 ∨ i=19 ∨ i=20 ∨ i=21 ∨ i=22:=by omega
 rcases this with rfl|rfl|rfl|rfl|rfl|rfl|rfl|rfl|rfl|rfl|rfl|rfl|rfl|rfl|rfl|rfl|rfl|rfl|rfl|rfl|rfl|rfl|rfl <;> assumption
set_option maxRecDepth 8000 in
set_option maxHeartbeats 6400000 in
theorem r6FormA {a:Au}(h:a.Ok)(za:a.Sz 134217728 20)(s2:a.st≤64):FSpecE P F.ref06_Form [vAu a] noMem (fun x:FrB=>.ag (frV a x)) (frM a) (fun _=>True):=by
 have e1:=h.ini
 have e2:=h.fin
 have e3:=za.num
 refine FSpecE.intro fn.ref06_Form (by rfl) (by rfl) (nb9 (by rfl)) fun E hE=>(AW.sg hE rfl (bxA rfl rfl fun b1=>(al z.Auto rfl fun b2=>(OL.nil (AW.seq (AW.region_planT (valFm a b1) ownFm (telFm a b1) 23 order_free (by rw [hE];rfl) (by rfl) (by kernel_rfl) (by kernel_rfl) ?_ ?_))))))
 ·refine casFm ?_ ?_ ?_ ?_ ?_ ?_ ?_ ?_ ?_ ?_ ?_ ?_ ?_ ?_ ?_ ?_ ?_ ?_ ?_ ?_ ?_ ?_ ?_
  ·exact fun β L c9=>⟨_,rfl,.inl (OG.of_OL (faP (b:=b1) (o:=0) (id:=1) fd.Auto_0 ((pG_old rfl).trans rfl) rfl ⟨β,pG_put (d:=3) (i:=0) rfl (fun t ht=>ownFm_inj ht) (lt_size 24 c9.size rfl (by decide)) (mfT_same (lt_size 24 c9.size rfl (by decide)) (by rfl))⟩))⟩
  ·exact fun β L c9=>⟨_,rfl,.inl (OG.of_OL (ldPA ag.Ring (pG_new rfl (come_dep (j:=0) c9 (by kernel_rfl))) ((pG_M (mfT_skip (show (1:Nat)≠24 by decide) (mfT_skip (show (1:Nat)≠19 by decide) (mfT_skip (show (1:Nat)≠14 by decide) rfl)))):_=some (.box b1 T.Auto [.d (dI 1),.d (.sl []),.d (dI a.sym),.d (dI a.st),.d (dWs a.ini),.d (dWs a.fin),.d (dArcs a.arcs)])) (vs:=[_,_]) rfl (nb9 rfl) ⟨β,pG_put (d:=4) (i:=1) rfl (fun t ht=>ownFm_inj ht) (lt_size 24 c9.size rfl (by decide)) (mfT_same (lt_size 24 c9.size rfl (by decide)) (by rfl))⟩))⟩
  ·exact fun β L c9=>⟨_,rfl,.inl (OG.of_OL (clv rfl (.cons (vle_of_eq (pG_new rfl (come_dep (j:=1) c9 (by kernel_rfl)))) .nil) r6ring ⟨β,pG_put (d:=5) (i:=2) rfl (fun t ht=>ownFm_inj ht) (lt_size 24 c9.size rfl (by decide)) (mfT_same (lt_size 24 c9.size rfl (by decide)) (by rfl))⟩))⟩
  ·exact fun β L c9=>⟨_,rfl,.inl (OG.of_OL (faP (b:=b1) (o:=0) (id:=1) fd.Auto_1 ((pG_old rfl).trans rfl) rfl ⟨β,pG_put (d:=6) (i:=3) rfl (fun t ht=>ownFm_inj ht) (lt_size 24 c9.size rfl (by decide)) (mfT_same (lt_size 24 c9.size rfl (by decide)) (by rfl))⟩))⟩
  ·exact fun β L c9=>⟨_,rfl,.inl (OG.of_OL (ldPC ce.int (pG_new rfl (come_dep (j:=3) c9 (by kernel_rfl))) ((pG_M (mfT_skip (show (1:Nat)≠24 by decide) (mfT_skip (show (1:Nat)≠19 by decide) (mfT_skip (show (1:Nat)≠14 by decide) rfl)))):_=some (.box b1 T.Auto [.d (dI 1),.d (.sl []),.d (dI a.sym),.d (dI a.st),.d (dWs a.ini),.d (dWs a.fin),.d (dArcs a.arcs)])) (v:=.d (dI a.sym)) rfl ⟨β,pG_put (d:=7) (i:=4) rfl (fun t ht=>ownFm_inj ht) (lt_size 24 c9.size rfl (by decide)) (mfT_same (lt_size 24 c9.size rfl (by decide)) (by rfl))⟩))⟩
  ·exact fun β L c9=>⟨_,rfl,.inl (OG.of_OL (faP (b:=b1) (o:=0) (id:=1) fd.Auto_2 ((pG_old rfl).trans rfl) rfl ⟨β,pG_put (d:=8) (i:=5) rfl (fun t ht=>ownFm_inj ht) (lt_size 24 c9.size rfl (by decide)) (mfT_same (lt_size 24 c9.size rfl (by decide)) (by rfl))⟩))⟩
  ·exact fun β L c9=>⟨_,rfl,.inl (OG.of_OL (ldPC ce.int (pG_new rfl (come_dep (j:=5) c9 (by kernel_rfl))) ((pG_M (mfT_skip (show (1:Nat)≠24 by decide) (mfT_skip (show (1:Nat)≠19 by decide) (mfT_skip (show (1:Nat)≠14 by decide) rfl)))):_=some (.box b1 T.Auto [.d (dI 1),.d (.sl []),.d (dI a.sym),.d (dI a.st),.d (dWs a.ini),.d (dWs a.fin),.d (dArcs a.arcs)])) (v:=.d (dI a.st)) rfl ⟨β,pG_put (d:=9) (i:=6) rfl (fun t ht=>ownFm_inj ht) (lt_size 24 c9.size rfl (by decide)) (mfT_same (lt_size 24 c9.size rfl (by decide)) (by rfl))⟩))⟩
  ·exact fun β L c9=>⟨_,rfl,.inl (OG.of_OL (faP (b:=b1) (o:=0) (id:=1) fd.Auto_0 ((pG_old rfl).trans rfl) rfl ⟨β,pG_put (d:=10) (i:=7) rfl (fun t ht=>ownFm_inj ht) (lt_size 24 c9.size rfl (by decide)) (mfT_same (lt_size 24 c9.size rfl (by decide)) (by rfl))⟩))⟩
  ·exact fun β L c9=>⟨_,rfl,.inl (OG.of_OL (ldPA ag.Ring (pG_new rfl (come_dep (j:=7) c9 (by kernel_rfl))) ((pG_M (mfT_skip (show (1:Nat)≠24 by decide) (mfT_skip (show (1:Nat)≠19 by decide) (mfT_skip (show (1:Nat)≠14 by decide) rfl)))):_=some (.box b1 T.Auto [.d (dI 1),.d (.sl []),.d (dI a.sym),.d (dI a.st),.d (dWs a.ini),.d (dWs a.fin),.d (dArcs a.arcs)])) (vs:=[_,_]) rfl (nb9 rfl) ⟨β,pG_put (d:=11) (i:=8) rfl (fun t ht=>ownFm_inj ht) (lt_size 24 c9.size rfl (by decide)) (mfT_same (lt_size 24 c9.size rfl (by decide)) (by rfl))⟩))⟩
  ·exact fun β L c9=>⟨_,rfl,.inl (OG.of_OL (faP (b:=b1) (o:=0) (id:=1) fd.Auto_3 ((pG_old rfl).trans rfl) rfl ⟨β,pG_put (d:=12) (i:=9) rfl (fun t ht=>ownFm_inj ht) (lt_size 24 c9.size rfl (by decide)) (mfT_same (lt_size 24 c9.size rfl (by decide)) (by rfl))⟩))⟩
  ·exact fun β L c9=>⟨_,rfl,.inl (OG.of_OL (ldPC ce.Weights (pG_new rfl (come_dep (j:=9) c9 (by kernel_rfl))) ((pG_M (mfT_skip (show (1:Nat)≠24 by decide) (mfT_skip (show (1:Nat)≠19 by decide) (mfT_skip (show (1:Nat)≠14 by decide) rfl)))):_=some (.box b1 T.Auto [.d (dI 1),.d (.sl []),.d (dI a.sym),.d (dI a.st),.d (dWs a.ini),.d (dWs a.fin),.d (dArcs a.arcs)])) (v:=.d (dWs a.ini)) rfl ⟨β,pG_put (d:=13) (i:=10) rfl (fun t ht=>ownFm_inj ht) (lt_size 24 c9.size rfl (by decide)) (mfT_same (lt_size 24 c9.size rfl (by decide)) (by rfl))⟩))⟩
  ·exact fun β L c9=>⟨_,rfl,.inl (OG.of_OL (clR rfl (.cons (vle_of_eq (pG_new rfl (come_dep (j:=8) c9 (by kernel_rfl)))) (.cons (vle_of_eq (pG_new rfl (come_dep (j:=10) c9 (by kernel_rfl)))) .nil)) (r6takeR (l:=a.ini) (by omega) za.ini) (pG_M (mfT_skip (show (14:Nat)≠24 by decide) (mfT_skip (show (14:Nat)≠19 by decide) (mfT_no (by exact c9.no) rfl)))) fun b8 c8=>⟨upd β 14 (b8,c8),pG_set (d:=14) (i:=11) (x:=(b8,c8)) rfl (fun t ht=>ownFm_inj ht) (lt_size 24 c9.size rfl (by decide)) rfl (mfT_pass (lt_size 24 c9.size rfl (by decide)) (show (21:Nat)≠11 by decide) (.inl (show (24:Nat)≠14 by decide)) (by exact fun _=>rfl) (mfT_pass (lt_size 24 c9.size rfl (by decide)) (show (16:Nat)≠11 by decide) (.inl (show (19:Nat)≠14 by decide)) (by exact fun _=>rfl) (mfT_here (lt_size 24 c9.size rfl (by decide)) rfl rfl rfl c9.no (by rfl) (fun y hy=>absurd hy List.not_mem_nil)))) (fun t j ho hl=>by unfold ownFm at ho;split at ho <;> cases ho <;> first|rfl|(rw [c9.no] at hl;cases hl)|exact come_notT c9 (by kernel_rfl) hl)⟩))⟩
  ·exact fun β L c9=>⟨_,rfl,.inl (OG.of_OL (faP (b:=b1) (o:=0) (id:=1) fd.Auto_0 ((pG_old rfl).trans rfl) rfl ⟨β,pG_put (d:=15) (i:=12) rfl (fun t ht=>ownFm_inj ht) (lt_size 24 c9.size rfl (by decide)) (mfT_same (lt_size 24 c9.size rfl (by decide)) (by rfl))⟩))⟩
  ·exact fun β L c9=>⟨_,rfl,.inl (OG.of_OL (ldPA ag.Ring (pG_new rfl (come_dep (j:=12) c9 (by kernel_rfl))) ((pG_M (mfT_skip (show (1:Nat)≠24 by decide) (mfT_skip (show (1:Nat)≠19 by decide) (mfT_skip (show (1:Nat)≠14 by decide) rfl)))):_=some (.box b1 T.Auto [.d (dI 1),.d (.sl []),.d (dI a.sym),.d (dI a.st),.d (dWs a.ini),.d (dWs a.fin),.d (dArcs a.arcs)])) (vs:=[_,_]) rfl (nb9 rfl) ⟨β,pG_put (d:=16) (i:=13) rfl (fun t ht=>ownFm_inj ht) (lt_size 24 c9.size rfl (by decide)) (mfT_same (lt_size 24 c9.size rfl (by decide)) (by rfl))⟩))⟩
  ·exact fun β L c9=>⟨_,rfl,.inl (OG.of_OL (faP (b:=b1) (o:=0) (id:=1) fd.Auto_4 ((pG_old rfl).trans rfl) rfl ⟨β,pG_put (d:=17) (i:=14) rfl (fun t ht=>ownFm_inj ht) (lt_size 24 c9.size rfl (by decide)) (mfT_same (lt_size 24 c9.size rfl (by decide)) (by rfl))⟩))⟩
  ·exact fun β L c9=>⟨_,rfl,.inl (OG.of_OL (ldPC ce.Weights (pG_new rfl (come_dep (j:=14) c9 (by kernel_rfl))) ((pG_M (mfT_skip (show (1:Nat)≠24 by decide) (mfT_skip (show (1:Nat)≠19 by decide) (mfT_skip (show (1:Nat)≠14 by decide) rfl)))):_=some (.box b1 T.Auto [.d (dI 1),.d (.sl []),.d (dI a.sym),.d (dI a.st),.d (dWs a.ini),.d (dWs a.fin),.d (dArcs a.arcs)])) (v:=.d (dWs a.fin)) rfl ⟨β,pG_put (d:=18) (i:=15) rfl (fun t ht=>ownFm_inj ht) (lt_size 24 c9.size rfl (by decide)) (mfT_same (lt_size 24 c9.size rfl (by decide)) (by rfl))⟩))⟩
  ·exact fun β L c9=>⟨_,rfl,.inl (OG.of_OL (clR rfl (.cons (vle_of_eq (pG_new rfl (come_dep (j:=13) c9 (by kernel_rfl)))) (.cons (vle_of_eq (pG_new rfl (come_dep (j:=15) c9 (by kernel_rfl)))) .nil)) (r6takeR (l:=a.fin) (by omega) za.fin) (pG_M (mfT_skip (show (19:Nat)≠24 by decide) (mfT_no (by exact c9.no) (mfT_skip (show (19:Nat)≠14 by decide) rfl)))) fun b8 c8=>⟨upd β 19 (b8,c8),pG_set (d:=19) (i:=16) (x:=(b8,c8)) rfl (fun t ht=>ownFm_inj ht) (lt_size 24 c9.size rfl (by decide)) rfl (mfT_pass (lt_size 24 c9.size rfl (by decide)) (show (21:Nat)≠16 by decide) (.inl (show (24:Nat)≠19 by decide)) (by exact fun _=>rfl) (mfT_here (lt_size 24 c9.size rfl (by decide)) rfl rfl rfl c9.no (by rfl) (List.forall_mem_cons.2 ⟨(by exact fun _ _=>rfl),(fun y hy=>absurd hy List.not_mem_nil)⟩))) (fun t j ho hl=>by unfold ownFm at ho;split at ho <;> cases ho <;> first|rfl|(rw [c9.no] at hl;cases hl)|exact come_notT c9 (by kernel_rfl) hl)⟩))⟩
  ·exact fun β L c9=>⟨_,rfl,.inl (OG.of_OL (faP (b:=b1) (o:=0) (id:=1) fd.Auto_0 ((pG_old rfl).trans rfl) rfl ⟨β,pG_put (d:=20) (i:=17) rfl (fun t ht=>ownFm_inj ht) (lt_size 24 c9.size rfl (by decide)) (mfT_same (lt_size 24 c9.size rfl (by decide)) (by rfl))⟩))⟩
  ·exact fun β L c9=>⟨_,rfl,.inl (OG.of_OL (ldPA ag.Ring (pG_new rfl (come_dep (j:=17) c9 (by kernel_rfl))) ((pG_M (mfT_skip (show (1:Nat)≠24 by decide) (mfT_skip (show (1:Nat)≠19 by decide) (mfT_skip (show (1:Nat)≠14 by decide) rfl)))):_=some (.box b1 T.Auto [.d (dI 1),.d (.sl []),.d (dI a.sym),.d (dI a.st),.d (dWs a.ini),.d (dWs a.fin),.d (dArcs a.arcs)])) (vs:=[_,_]) rfl (nb9 rfl) ⟨β,pG_put (d:=21) (i:=18) rfl (fun t ht=>ownFm_inj ht) (lt_size 24 c9.size rfl (by decide)) (mfT_same (lt_size 24 c9.size rfl (by decide)) (by rfl))⟩))⟩
  ·exact fun β L c9=>⟨_,rfl,.inl (OG.of_OL (faP (b:=b1) (o:=0) (id:=1) fd.Auto_5 ((pG_old rfl).trans rfl) rfl ⟨β,pG_put (d:=22) (i:=19) rfl (fun t ht=>ownFm_inj ht) (lt_size 24 c9.size rfl (by decide)) (mfT_same (lt_size 24 c9.size rfl (by decide)) (by rfl))⟩))⟩
  ·exact fun β L c9=>⟨_,rfl,.inl (OG.of_OL (ldPC ce.Arcs (pG_new rfl (come_dep (j:=19) c9 (by kernel_rfl))) ((pG_M (mfT_skip (show (1:Nat)≠24 by decide) (mfT_skip (show (1:Nat)≠19 by decide) (mfT_skip (show (1:Nat)≠14 by decide) rfl)))):_=some (.box b1 T.Auto [.d (dI 1),.d (.sl []),.d (dI a.sym),.d (dI a.st),.d (dWs a.ini),.d (dWs a.fin),.d (dArcs a.arcs)])) (v:=.d (dArcs a.arcs)) rfl ⟨β,pG_put (d:=23) (i:=20) rfl (fun t ht=>ownFm_inj ht) (lt_size 24 c9.size rfl (by decide)) (mfT_same (lt_size 24 c9.size rfl (by decide)) (by rfl))⟩))⟩
  ·exact fun β L c9=>⟨_,rfl,.inl (OG.of_OL (clR rfl (.cons (vle_of_eq (pG_new rfl (come_dep (j:=18) c9 (by kernel_rfl)))) (.cons (vle_of_eq (pG_new rfl (come_dep (j:=20) c9 (by kernel_rfl)))) .nil)) (r6ArcsR (l:=a.arcs) e3 za.arc) (pG_M (mfT_no (by exact c9.no) (mfT_skip (show (24:Nat)≠19 by decide) (mfT_skip (show (24:Nat)≠14 by decide) rfl)))) fun b8 c8=>⟨upd β 24 (b8,c8),pG_set (d:=24) (i:=21) (x:=(b8,c8)) rfl (fun t ht=>ownFm_inj ht) (lt_size 24 c9.size rfl (by decide)) rfl (mfT_here (lt_size 24 c9.size rfl (by decide)) rfl rfl rfl c9.no (by rfl) (List.forall_mem_cons.2 ⟨(by exact fun _ _=>rfl),(List.forall_mem_cons.2 ⟨(by exact fun _ _=>rfl),(fun y hy=>absurd hy List.not_mem_nil)⟩)⟩)) (fun t j ho hl=>by unfold ownFm at ho;split at ho <;> cases ho <;> first|rfl|(rw [c9.no] at hl;cases hl)|exact come_notT c9 (by kernel_rfl) hl)⟩))⟩
  ·exact fun β L c9=>⟨_,rfl,.inl (OG.of_OL (bd2 (cs:=[_,_,_,_,_,_,_]) z.Auto pl.Auto (pvC (pG_new rfl (come_dep (j:=2) c9 (by kernel_rfl))) (pvC (pG_new rfl (come_dep (j:=4) c9 (by kernel_rfl))) (pvC (pG_new rfl (come_dep (j:=6) c9 (by kernel_rfl))) (pvC (pG_new rfl (come_dep (j:=11) c9 (by kernel_rfl))) (pvC (pG_new rfl (come_dep (j:=16) c9 (by kernel_rfl))) (pvC (pG_new rfl (come_dep (j:=21) c9 (by kernel_rfl))) pvN)))))) (by rfl) ⟨β,pG_put (d:=25) (i:=22) rfl (fun t ht=>ownFm_inj ht) (lt_size 24 c9.size rfl (by decide)) (mfT_same (lt_size 24 c9.size rfl (by decide)) (by rfl))⟩))⟩
 refine fun β L c9 hA=>⟨_,rfl,.inl (OG.of_OL (sto (id:=2) (b:=b2) (o:=0) (v:=.ag [.d (dI 1),.d (.sl []),.d (dI a.sym),.d (dI a.st),.osl 14 (β 14).1 a.ini.length (β 14).2,.osl 19 (β 19).1 a.fin.length (β 19).2,.osl 24 (β 24).1 (formA a.arcs).length (β 24).2]) sz.Auto ((pG_old rfl).trans rfl) (pG_new rfl (hA 22 (by decide))) rfl ((pG_M (mfT_skip (show (2:Nat)≠24 by decide) (mfT_skip (show (2:Nat)≠19 by decide) (mfT_skip (show (2:Nat)≠14 by decide) rfl)))):_=some (.box b2 T.Auto [.d (dI 0),.mt,.d (dI 0),.d (dI 0),.mt,.mt,.mt])) rfl (nb9 rfl) (cells2:=[.d (dI 1),.d (.sl []),.d (dI a.sym),.d (dI a.st),.osl 14 (β 14).1 a.ini.length (β 14).2,.osl 19 (β 19).1 a.fin.length (β 19).2,.osl 24 (β 24).1 (formA a.arcs).length (β 24).2]) rfl ?_))⟩
 refine OL.nil ?_
 refine AW.to [(2,.ptr 2 b2 0)] [(2,.box b2 T.Auto [.d (dI 1),.d (.sl []),.d (dI a.sym),.d (dI a.st),.osl 14 (β 14).1 a.ini.length (β 14).2,.osl 19 (β 19).1 a.fin.length (β 19).2,.osl 24 (β 24).1 (formA a.arcs).length (β 24).2]),(14,.row (β 14).1 (β 14).2 T.Weight 8 (a.ini.map dW)),(19,.row (β 19).1 (β 19).2 T.Weight 8 (a.fin.map dW)),(24,.row (β 24).1 (β 24).2 T.Arc 11 ((formA a.arcs).map dArc))] (.cons (vle_of_eq (sto_rho ((pG_old rfl).trans rfl))) .nil) (.cons sto_new (.cons (sto_old (by decide) (pG_M (mfT_skip (show (14:Nat)≠24 by decide) (mfT_skip (show (14:Nat)≠19 by decide) (mfT_yes (hA 11 (by decide)) rfl rfl))))) (.cons (sto_old (by decide) (pG_M (mfT_skip (show (19:Nat)≠24 by decide) (mfT_yes (hA 16 (by decide)) rfl rfl)))) (.cons (sto_old (by decide) (pG_M (mfT_yes (hA 21 (by decide)) rfl rfl))) .nil)))) ?_
 generalize β 14=p1
 generalize β 19=p2
 generalize β 24=p3
 exact AW.ret ⟨(p1,p2,p3),trivial,⟨_,.cellA rfl rfl ag.Auto (nb9 rfl) .nil,.le vR⟩,fun id blk hk=>lk_own (l:=frL a (p1,p2,p3)) (.cons rfl (.cons rfl (.cons rfl .nil))) id blk hk⟩
set_option maxRecDepth 8000 in
set_option maxHeartbeats 6400000 in
theorem r23difference {a b:Au}{s:Nat}(f:Au.Fit a s)(g:Au.Fit b s)(u:Au.Fit (scaleOf b (-1)) s):FSpec P F.ref23_difference [vAu a,vAu b] (vAu (diffRaw a b)):=by
 have hai:=f.ok.ini
 have haf:=f.ok.fin
 have hbi:=g.ok.ini
 have hbf:=g.ok.fin
 have hs1:=f.st
 have hs2:=g.st
 have hfa:=Nat.le_trans (formA_len a.arcs) f.sz.num
 have hfb:=Nat.le_trans (formA_len _) (Nat.le_trans (formA_len b.arcs) g.sz.num)
 have hml:=moved_len (formA (formA b.arcs)) a.st
 have hbx:∀ x,x ∈ (formA (formA b.arcs))→x.f<b.st∧x.t<b.st:=fun x hx=>⟨(g.ok.form.form.arc x hx).1,(g.ok.form.form.arc x hx).2.1⟩
 refine FSpec.intro fn.ref23_difference (by rfl) (by rfl) (nb9 (by rfl)) fun E hE=>(AW.sg hE rfl (bxA rfl rfl fun b2=>(bxA rfl rfl fun b3=>(al z.Auto rfl fun b4=>(OL.nil (AW.seq (AW.dg 1 [0,1,2,3,4,5,6,7] order_free hE rfl (by kernel_rfl) (OI.of_OL (os:=[_,_,_,_,_,_,_,_]) rfl ?_))))))))
 refine ldPA ag.Auto rfl rfl (vs:=[_,_,_,_,_,_,_]) rfl (nb9 rfl) (clv rfl .rq2 (ref_OfQ (n:=-1) (d:=1) (by decide) (by decide) (by decide)) ?_)
 rw [neg1_r]
 refine bd z.Weight pl.Weight (cs:=[_,_,_,_,_,_,_,_]) rfl (clv rfl (.cons vR (.cons (vle_wq) .nil)) (r15Scale (a:=b) (q:=-1) g (by rw [sz_neg,sz_one];decide)) (mvT rfl (ex rfl rfl (ex rfl rfl (sto sz.Auto rfl rfl rfl rfl rfl (nb9 rfl) (cells2:=[_,_,_,_,_,_,_]) rfl (OL.nil ?_))))))
 refine AW.midK (α:=FrB) [(2,_),(3,_),(4,_)] [(4,_)] (fun x=>[]) (fun x=>[(2,.box b2 T.Auto (frV a x)),(3,.box b3 T.Auto [.d (dI 1),.d (.sl []),.d (dI b.sym),.d (dI b.st),.d (dWs (b.ini.map fun x=>x * -1)),.d (dWs b.fin),.d (dArcs (formA (formA b.arcs)))]),(14,.row x.1.1 x.1.2 T.Weight 8 (a.ini.map dW)),(19,.row x.2.1.1 x.2.1.2 T.Weight 8 (a.fin.map dW)),(24,.row x.2.2.1 x.2.2.2 T.Arc 11 ((formA a.arcs).map dArc))]) (fun x=>True) (.cons (knP rfl) (.cons (knP rfl) (.cons (knP rfl) .nil))) (.cons (owB rfl) .nil) ?_ ?_
 ·refine AW.region_treeK order_free (by rw [hE];rfl) (OTK.node [0,2] (os:=[_,_]) (by kernel_rfl) (by decide) rfl ⟨?_,?_,trivial⟩)
  ·refine SG.ofOL (ldPA ag.Auto rfl rfl (vs:=[_,_,_,_,_,_,_]) rfl (nb9 rfl) (OL.nil (OTK.node [1,2] (os:=[_,_]) (by kernel_rfl) (by decide) rfl ⟨?_,?_,trivial⟩)))
   ·refine SG.ofSO (SO.callNews (args':=[vAu a]) (show 16<E.n by rw [hE];exact Nat.le_of_ble_eq_true (by rfl)) rfl vL (r6FormA f.ok f.sz f.st) ?_)
    rintro ⟨⟨p1,c1⟩,⟨p2,c2⟩,⟨p3,c3⟩⟩ -
    refine OTK.node [2] (os:=[_]) (by kernel_rfl) (by decide) rfl ⟨?_,trivial⟩
    refine SG.ofOL (ldPA ag.Auto rfl rfl (vs:=[_,_,_,_,_,_,_]) rfl (nb9 rfl) (OL.nil (OTK.node [3] (os:=[_]) (by kernel_rfl) (by decide) rfl ⟨?_,trivial⟩)))
    refine SG.ofOL (clv rfl vL (r6Form (a:=(scaleOf b (-1))) u.ok u.sz u.st) (OL.nil (OTK.node [4] (os:=[_]) (by kernel_rfl) (by decide) rfl ⟨?_,trivial⟩)))
    refine SG.ofOL (sto sz.Auto rfl rfl rfl rfl rfl (nb9 rfl) (cells2:=[_,_,_,_,_,_,_]) rfl (OL.nil (OTK.node [5] (os:=[_]) (by kernel_rfl) (by decide) rfl ⟨?_,trivial⟩)))
    exact SG.ofOL (sto sz.Auto rfl rfl rfl rfl rfl (nb9 rfl) (cells2:=[_,_,_,_,_,_,_]) rfl (OL.nil (OTK.leaf (by kernel_rfl) (AW.reach ((p1,c1),(p2,c2),(p3,c3)) ⟨trivial,Knows.app .rq3 (.nil),Owns.app (.cons rfl .nil) (.cons rfl (.cons rfl (.cons rfl (.cons rfl (.cons rfl .nil)))))⟩))))
   ·refine SG.ofOL (ldPA ag.Auto rfl rfl (vs:=[_,_,_,_,_,_,_]) rfl (nb9 rfl) (OL.nil (OTK.node [1] (os:=[_]) (by kernel_rfl) (by decide) rfl ⟨?_,trivial⟩)))
    refine SG.ofSO (SO.callNews (args':=[vAu a]) (show 16<E.n by rw [hE];exact Nat.le_of_ble_eq_true (by rfl)) rfl vL (r6FormA f.ok f.sz f.st) ?_)
    rintro ⟨⟨p1,c1⟩,⟨p2,c2⟩,⟨p3,c3⟩⟩ -
    refine OTK.node [3] (os:=[_]) (by kernel_rfl) (by decide) rfl ⟨?_,trivial⟩
    refine SG.ofOL (clv rfl vL (r6Form (a:=(scaleOf b (-1))) u.ok u.sz u.st) (OL.nil (OTK.node [4] (os:=[_]) (by kernel_rfl) (by decide) rfl ⟨?_,trivial⟩)))
    refine SG.ofOL (sto sz.Auto rfl rfl rfl rfl rfl (nb9 rfl) (cells2:=[_,_,_,_,_,_,_]) rfl (OL.nil (OTK.node [5] (os:=[_]) (by kernel_rfl) (by decide) rfl ⟨?_,trivial⟩)))
    exact SG.ofOL (sto sz.Auto rfl rfl rfl rfl rfl (nb9 rfl) (cells2:=[_,_,_,_,_,_,_]) rfl (OL.nil (OTK.leaf (by kernel_rfl) (AW.reach ((p1,c1),(p2,c2),(p3,c3)) ⟨trivial,Knows.app .rq3 (.nil),Owns.app (.cons rfl .nil) (.cons rfl (.cons rfl (.cons rfl (.cons rfl (.cons rfl .nil)))))⟩))))
  ·refine SG.ofOL (ldPA ag.Auto rfl rfl (vs:=[_,_,_,_,_,_,_]) rfl (nb9 rfl) (OL.nil (OTK.node [0] (os:=[_]) (by kernel_rfl) (by decide) rfl ⟨?_,trivial⟩)))
   refine SG.ofOL (ldPA ag.Auto rfl rfl (vs:=[_,_,_,_,_,_,_]) rfl (nb9 rfl) (OL.nil (OTK.node [1] (os:=[_]) (by kernel_rfl) (by decide) rfl ⟨?_,trivial⟩)))
   refine SG.ofSO (SO.callNews (args':=[vAu a]) (show 16<E.n by rw [hE];exact Nat.le_of_ble_eq_true (by rfl)) rfl vL (r6FormA f.ok f.sz f.st) ?_)
   rintro ⟨⟨p1,c1⟩,⟨p2,c2⟩,⟨p3,c3⟩⟩ -
   refine OTK.node [3] (os:=[_]) (by kernel_rfl) (by decide) rfl ⟨?_,trivial⟩
   refine SG.ofOL (clv rfl vL (r6Form (a:=(scaleOf b (-1))) u.ok u.sz u.st) (OL.nil (OTK.node [4] (os:=[_]) (by kernel_rfl) (by decide) rfl ⟨?_,trivial⟩)))
   refine SG.ofOL (sto sz.Auto rfl rfl rfl rfl rfl (nb9 rfl) (cells2:=[_,_,_,_,_,_,_]) rfl (OL.nil (OTK.node [5] (os:=[_]) (by kernel_rfl) (by decide) rfl ⟨?_,trivial⟩)))
   exact SG.ofOL (sto sz.Auto rfl rfl rfl rfl rfl (nb9 rfl) (cells2:=[_,_,_,_,_,_,_]) rfl (OL.nil (OTK.leaf (by kernel_rfl) (AW.reach ((p1,c1),(p2,c2),(p3,c3)) ⟨trivial,Knows.app .rq3 (.nil),Owns.app (.cons rfl .nil) (.cons rfl (.cons rfl (.cons rfl (.cons rfl (.cons rfl .nil)))))⟩))))
 rintro ⟨⟨p1,c1⟩,⟨p2,c2⟩,⟨p3,c3⟩⟩ -
 refine AW.seq (AW.dg 2 [0,1,2,3,4,5,6,7,8,9,10,11,12,14,15,16,17,19,20,13,18,21,22,23] order_free hE rfl (by kernel_rfl) (OI.of_OL (os:=[_,_,_,_,_,_,_,_,_,_,_,_,_,_,_,_,_,_,_,_,_,_,_,_]) rfl ?_))
 refine faP fd.Auto_0 rfl rfl (ldPA ag.Ring rfl rfl (vs:=[_,_]) rfl (nb9 rfl) (faP fd.Auto_1 rfl rfl (ldPC ce.int rfl rfl rfl (faP fd.Auto_2 rfl rfl (ldPC ce.int rfl rfl rfl (faP fd.Auto_2 rfl rfl (ldPC ce.int rfl rfl rfl ?_)))))))
 refine bo rfl rfl (bin_add (c:=((a.st+b.st:Nat):Int)) (by omega) (wrap_i64 (by omega))) (faP fd.Auto_3 rfl rfl (ldPC ce.Weights rfl rfl rfl (faP fd.Auto_3 rfl rfl (ldPC ce.Weights rfl rfl rfl (faP fd.Auto_4 rfl rfl (ldPC ce.Weights rfl rfl rfl (faP fd.Auto_4 rfl rfl ?_)))))))
 refine ldPC ce.Weights rfl rfl rfl (faP fd.Auto_5 rfl rfl (ldPC ce.Arcs rfl rfl rfl ?_))
 refine apOD sl.Weights rfl rfl rfl (lm9 ..).symm (VC.d _) ws_len (by rw [lm9,lm9];omega) (by rw [lm9,lm9];omega) (.inl rfl) (ys:=(a.ini++b.ini.map fun x=>x * -1).map dW) (by rw [List.map_append]) ?_
 refine apOD sl.Weights rfl rfl rfl (lm9 ..).symm (VC.d _) ws_len (by rw [lm9];omega) (by rw [lm9];omega) (.inl rfl) (ys:=(a.fin++b.fin).map dW) (by rw [List.map_append]) (bd2 (cs:=[_,_,_,_,_,_,_]) z.Auto pl.Auto (pvC (by exact evA rfl) (pvC (by exact evD rfl) (pvC (by exact evD rfl) (pvC (by exact evD rfl) (pvC (by exact evD rfl) (pvC (by exact evO rfl) (pvN))))))) (by rfl) (al z.Auto rfl fun b5=>(sto sz.Auto rfl rfl rfl rfl rfl (nb9 rfl) (cells2:=[_,_,_,_,_,_,_]) rfl (OL.nil (AW.seq (AW.seq ?_))))))
 refine AW.rename 24 71 rfl (AW.boxW 5 [.d (dI 1),.d (.sl []),.d (dI a.sym),.d (dI ((a.st+b.st:Nat):Int)),.d (dWs (a.ini++b.ini.map fun x=>x * -1)),.d (dWs (a.fin++b.fin)),.osl 71 p3 (formA a.arcs).length c3] rfl (.cons vR (.cons vR (.cons vR (.cons vR (.cons vR (.cons vR (.cons VLe.osl .nil))))))) ?_)
 refine AW.rg hE rfl (asD rfl (OL.nil (AW.block ?_)))
 refine AW.whileK (α:=Nat × Nat × Nat) [(2,_),(3,_),(4,_),(5,_)] [(2,_),(3,_),(4,_)] (fun (i,bq,cq)=>[(6,.d (dI i))]) (fun (i,bq,cq)=>[(5,.box b5 T.Auto [.d (dI 1),.d (.sl []),.d (dI a.sym),.d (dI ((a.st+b.st:Nat):Int)),.d (dWs (a.ini++b.ini.map fun x=>x * -1)),.d (dWs (a.fin++b.fin)),.osl 71 bq ((formA a.arcs).length+i) cq]),(71,.row bq cq T.Arc 11 ((formA a.arcs++(moved (formA (formA b.arcs)) a.st).take i).map dArc))]) (fun (i,bq,cq)=>i≤(formA (formA b.arcs)).length) (fun (i,bq,cq)=>(formA (formA b.arcs)).length-i) (0,p3,c3) (.cons (knP rfl) (.cons (knP rfl) (.cons (knP rfl) (.cons (knP rfl) .nil)))) (.cons (owB rfl) (.cons (owB rfl) (.cons (owB rfl) .nil))) ⟨Nat.zero_le _,.rq1,.cons rfl (.cons (by rw [show (moved (formA (formA b.arcs)) a.st).take 0=[] from rfl,List.append_nil (formA a.arcs)];rfl) .nil)⟩ ?_
 rintro ⟨i,bq,cq⟩ h1
 have h1:i≤(formA (formA b.arcs)).length:=h1
 refine AW.seq (AW.sg hE rfl (mvD rfl (faP fd.Auto_5 rfl rfl (ldPC ce.Arcs rfl rfl rfl (lnL sl.Arcs rfl rfl (c_lss rfl rfl rfl (OL.nil ?_)))))))
 refine AW.cond rfl (fun h45=>?_) (fun h45=>?_)
 ·try simp only [dx9] at h45
  refine AW.skip (AW.seq (AW.block (AW.seq ?_)))
  have hi:i<(formA (formA b.arcs)).length:=by omega
  have hxx:=hbx _ (getD_mem hi default)
  refine AW.rg hE rfl (faP fd.Auto_5 rfl rfl (ldPC ce.Arcs rfl rfl rfl (mvD rfl (ixLn sl.Arcs default rfl rfl (by omega) rfl rfl (ldRA ag.Arc rfl (vs:=[_,_,_,_,_,_,_,_,_,_,_]) rfl (nb9 rfl) (al z.Arc rfl fun b7=>(sto sz.Arc rfl rfl rfl rfl rfl (nb9 rfl) (cells2:=[_,_,_,_,_,_,_,_,_,_,_]) rfl ?_)))))))
  refine OL.nil (AW.rg hE rfl (faP fd.Auto_5 rfl rfl (ldPC ce.Arcs rfl rfl rfl (faP fd.Arc_0 rfl rfl (ldPC ce.int rfl rfl rfl (faP fd.Auto_2 rfl rfl (ldPC ce.int rfl rfl rfl ?_)))))))
  refine bo rfl rfl (bin_add (c:=((((formA (formA b.arcs)).getD i default).f+a.st:Nat):Int)) (by omega) (wrap_i64 (by omega))) (faP fd.Arc_1 rfl rfl (ldPC ce.int rfl rfl rfl (faP fd.Arc_2 rfl rfl (ldPC ce.int rfl rfl rfl (faP fd.Auto_2 rfl rfl (ldPC ce.int rfl rfl rfl (bo rfl rfl (bin_add (c:=((((formA (formA b.arcs)).getD i default).t+a.st:Nat):Int)) (by omega) (wrap_i64 (by omega))) ?_)))))))
  refine faP fd.Arc_3 rfl rfl (ldPA ag.Weight rfl rfl (vs:=[_,_,_,_,_,_,_,_]) rfl (nb9 rfl) (bd2 (cs:=[_,_,_,_,_,_,_,_,_,_,_]) z.Arc pl.Arc (pvC (by exact evD rfl) (pvC (by exact evD rfl) (pvC (by exact evD rfl) (pvC (by exact evA rfl) (pvN))))) (by rfl) ?_))
  refine lt1 (y:=dArc (⟨((formA (formA b.arcs)).getD i default).f+a.st,((formA (formA b.arcs)).getD i default).l,((formA (formA b.arcs)).getD i default).t+a.st,((formA (formA b.arcs)).getD i default).q⟩:Arc9)) sl.Arcs (vd_arc (x:=(⟨((formA (formA b.arcs)).getD i default).f+a.st,((formA (formA b.arcs)).getD i default).l,((formA (formA b.arcs)).getD i default).t+a.st,((formA (formA b.arcs)).getD i default).q⟩:Arc9))) rfl (by decide) ?_
  refine apO sl.Arcs rfl rfl rfl (by rw [lm9,la9,List.length_take];omega) (VC.d _) (fun y hy=>by rw [ms9 hy];rfl) (by simp only [ls9];omega) (by simp only [ls9];omega) (.inr rfl) (ys:=(formA a.arcs++(moved (formA (formA b.arcs)) a.st).take (i+1)).map dArc) (by rw [moved_snoc hi,← List.append_assoc,List.map_append (l₂:=[_])];rfl) (n2:=(formA a.arcs).length+(i+1)) rfl fun b71 c71=>?_
  refine faP fd.Auto_5 rfl rfl (sto sz.Arcs rfl rfl rfl rfl rfl (nb9 rfl) (cells2:=[_,_,_,_,_,_,_]) rfl (OL.nil (AW.rg hE rfl (mvD rfl (add_i64 rfl rfl (by omega) (asD rfl (OL.nil ?_)))))))
  exact AW.again (x:=(i,bq,cq)) (i+1,b71,c71) (by (simp only [];omega)) ⟨by omega,Knows.app .rq4 .rq1,Owns.app (.cons rfl (.cons rfl (.cons rfl .nil))) (.cons rfl (.cons rfl .nil))⟩
 ·try simp only [dx9] at h45
  refine AW.exit (AW.seq ?_)
  obtain rfl:i=(formA (formA b.arcs)).length:=by omega
  refine AW.freeze 71 rfl (AW.boxW 5 [.d (dI 1),.d (.sl []),.d (dI a.sym),.d (dI ((a.st+b.st:Nat):Int)),.d (dWs (a.ini++b.ini.map fun x=>x * -1)),.d (dWs (a.fin++b.fin)),.d (dArcs (formA a.arcs++moved (formA (formA b.arcs)) a.st))] rfl (.cons vR (.cons vR (.cons vR (.cons vR (.cons vR (.cons vR (.cons (frz_osl (by rw [lm9,la9,List.length_take];omega) (by rw [List.take_of_length_le (by omega)])) .nil))))))) ?_)
  exact AW.rg hE rfl (ldPA ag.Auto rfl rfl (vs:=[_,_,_,_,_,_,_]) rfl (nb9 rfl) (sto sz.Auto rfl rfl rfl rfl rfl (nb9 rfl) (cells2:=[_,_,_,_,_,_,_]) rfl (OL.nil (AW.ret (RetQ.r ⟨_,.cellA rfl rfl ag.Auto (nb9 rfl) .nil,.ag (.cons (.le vR) (.cons (.le vR) (.cons (.le vR) (.cons (.le vR) (.cons (.le vR) (.cons (.le vR) (.cons (.le vR) .nil)))))))⟩)))))
end Go.Proofs.YtmcoihfkniccdaaGreatDoor
