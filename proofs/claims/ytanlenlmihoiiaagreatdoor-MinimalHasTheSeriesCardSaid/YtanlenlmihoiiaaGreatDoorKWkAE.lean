/-
  Walks of layers 6 and 23 of the specification, part 5: normal forms with room, differences (printed by mk2.py).
-/
import Derived.Test.YtanlenlmihoiiaaGreatDoorKAlg44
set_option maxRecDepth 8000
set_option maxHeartbeats 6400000
set_option linter.unusedVariables false
set_option linter.unusedSimpArgs false
namespace Go.Proofs.YtanlenlmihoiiaaGreatDoor
open Go Go.AL
theorem aG9:((-1:Int):Rat) / ((1:Int):Rat) = -1:=by decide +kernel
abbrev FrB:=(Nat × Nat) × (Nat × Nat) × (Nat × Nat)
abbrev frL (a:Au)(x:FrB):List (Nat × iI):=[(14,.row x.1.1 x.1.2 T.ay 8 (a.ini.map dW)),(19,.row x.2.1.1 x.2.1.2 T.ay 8 (a.fin.map dW)),(24,.row x.2.2.1 x.2.2.2 T.mQ 11 ((bU a.aB).map jv))]
def frM (a:Au)(x:FrB):Mem:=lk none ((frL a x).map λp=>(p.1,some p.2))
abbrev frV (a:Au)(x:FrB):List V:=[.d (dI 1),.d (.sl []),.d (dI a.sym),.d (dI a.st),.bK 14 x.1.1 a.ini.length x.1.2,.bK 19 x.2.1.1 a.fin.length x.2.1.2,.bK 24 x.2.2.1 (bU a.aB).length x.2.2.2]
def SE:Nat->Option Nat
 | 3=>some 0
 | 4=>some 1
 | 5=>some 2
 | 6=>some 3
 | 7=>some 4
 | 8=>some 5
 | 9=>some 6
 | 10=>some 7
 | 11=>some 8
 | 12=>some 9
 | 13=>some 10
 | 14=>some 11
 | 15=>some 12
 | 16=>some 13
 | 17=>some 14
 | 18=>some 15
 | 19=>some 16
 | 20=>some 17
 | 21=>some 18
 | 22=>some 19
 | 23=>some 20
 | 24=>some 21
 | 25=>some 22
 | _=>none
theorem gy {t i:Nat}(h:SE t=some i):t=[3,4,5,6,7,8,9,10,11,12,13,14,15,16,17,18,19,20,21,22,23,24,25].getD i 0:=by
 unfold SE at h
 split at h <;> first|(cases h;rfl)|cases h
noncomputable def bu1 (a:Au)(b1:Nat)(t:Nat)(β:Nat->Nat × Nat):V :=
 match t with
 | 3=>.ptr 1 b1 0
 | 4=>jG
 | 5=>jG
 | 6=>.ptr 1 b1 2
 | 7=>.d (dI a.sym)
 | 8=>.ptr 1 b1 3
 | 9=>.d (dI a.st)
 | 10=>.ptr 1 b1 0
 | 11=>jG
 | 12=>.ptr 1 b1 4
 | 13=>.d (lC a.ini)
 | 14=>.bK 14 (β 14).1 a.ini.length (β 14).2
 | 15=>.ptr 1 b1 0
 | 16=>jG
 | 17=>.ptr 1 b1 5
 | 18=>.d (lC a.fin)
 | 19=>.bK 19 (β 19).1 a.fin.length (β 19).2
 | 20=>.ptr 1 b1 0
 | 21=>jG
 | 22=>.ptr 1 b1 6
 | 23=>.d (iL a.aB)
 | 24=>.bK 24 (β 24).1 (bU a.aB).length (β 24).2
 | 25=>.ag [.d (dI 1),.d (.sl []),.d (dI a.sym),.d (dI a.st),.bK 14 (β 14).1 a.ini.length (β 14).2,.bK 19 (β 19).1 a.fin.length (β 19).2,.bK 24 (β 24).1 (bU a.aB).length (β 24).2]
 | _=>.junk
noncomputable abbrev bu2 (a:Au)(b1:Nat):List Oc:=[⟨24,21,λβ=>.row (β 24).1 (β 24).2 T.mQ 11 ((bU a.aB).map jv)⟩,⟨19,16,λβ=>.row (β 19).1 (β 19).2 T.ay 8 (a.fin.map dW)⟩,⟨14,11,λβ=>.row (β 14).1 (β 14).2 T.ay 8 (a.ini.map dW)⟩]
theorem bu3 {p:Nat->Prop}(h0:p 0)(h1:p 1)(h2:p 2)(h3:p 3)(h4:p 4)(h5:p 5)(h6:p 6)(h7:p 7)(h8:p 8)(h9:p 9)(h10:p 10)(h11:p 11)(h12:p 12)(h13:p 13)(Dp:p 14)(h15:p 15)(h16:p 16)(h17:p 17)(h18:p 18)(h19:p 19)(h20:p 20)(h21:p 21)(h22:p 22):∀ i,i<23->p i:=λi hi=>by
 have:i=0 \/ i=1 \/ i=2 \/ i=3 \/ i=4 \/ i=5 \/ i=6 \/ i=7 \/ i=8 \/ i=9 \/ i=10 \/ i=11 \/ i=12 \/ i=13 \/ i=14 \/ i=15 \/ i=16 \/ i=17 \/ i=18 \/ i=19 \/ i=20 \/ i=21 \/ i=22:=by omega
 rcases this with rfl|rfl|rfl|rfl|rfl|rfl|rfl|rfl|rfl|rfl|rfl|rfl|rfl|rfl|rfl|rfl|rfl|rfl|rfl|rfl|rfl|rfl|rfl <;> assumption
theorem Uy {a:Au}(h:a.Ok)(za:a.Sz 134217728 20)(s2:a.st<=64):jD P F.rM [uY a] jA (λx:FrB=>.ag (frV a x)) (frM a) (λ_=>True):=by
 have e1:=h.ini;have e2:=h.fin;have e3:=za.num;refine jD.intro fn.rM (by rfl) (by rfl) (au (by rfl)) λE hE=>(AW.sg hE rfl (iG rfl rfl λb1=>(al z.Auto rfl λb2=>(OL.nil (AW.seq (AW.vX (bu1 a b1) SE (bu2 a b1) 23 ak (by rw[hE];rfl) (by rfl) (by kernel_rfl) (by kernel_rfl) ?_ ?_))))))
 .refine bu3 ?_ ?_ ?_ ?_ ?_ ?_ ?_ ?_ ?_ ?_ ?_ ?_ ?_ ?_ ?_ ?_ ?_ ?_ ?_ ?_ ?_ ?_ ?_
  .exact λβ L c9=>⟨_,rfl,.inl (OG.aP (aV (b:=b1) (o:=0) (id:=1) fd.gu ((di rfl).trans rfl) rfl ⟨β,cu (d:=3) (i:=0) rfl (λt ht=>gy ht) (lt_size 24 c9.size rfl (by decide)) (bg (lt_size 24 c9.size rfl (by decide)) (by rfl))⟩))⟩
  .exact λβ L c9=>⟨_,rfl,.inl (OG.aP (aQ ag.Ring (bT rfl (aY (j:=0) c9 (by kernel_rfl))) ((iY (aH (show (1:Nat)≠24 by decide) (aH (show (1:Nat)≠19 by decide) (aH (show (1:Nat)≠14 by decide) rfl)))):_=some (.box b1 T.Auto [.d (dI 1),.d (.sl []),.d (dI a.sym),.d (dI a.st),.d (lC a.ini),.d (lC a.fin),.d (iL a.aB)])) (vs:=[_,_]) rfl (au rfl) ⟨β,cu (d:=4) (i:=1) rfl (λt ht=>gy ht) (lt_size 24 c9.size rfl (by decide)) (bg (lt_size 24 c9.size rfl (by decide)) (by rfl))⟩))⟩
  .exact λβ L c9=>⟨_,rfl,.inl (OG.aP (bP rfl (.cons (aC (bT rfl (aY (j:=1) c9 (by kernel_rfl)))) .nil) YK ⟨β,cu (d:=5) (i:=2) rfl (λt ht=>gy ht) (lt_size 24 c9.size rfl (by decide)) (bg (lt_size 24 c9.size rfl (by decide)) (by rfl))⟩))⟩
  .exact λβ L c9=>⟨_,rfl,.inl (OG.aP (aV (b:=b1) (o:=0) (id:=1) fd.kZ ((di rfl).trans rfl) rfl ⟨β,cu (d:=6) (i:=3) rfl (λt ht=>gy ht) (lt_size 24 c9.size rfl (by decide)) (bg (lt_size 24 c9.size rfl (by decide)) (by rfl))⟩))⟩
  .exact λβ L c9=>⟨_,rfl,.inl (OG.aP (aA ce.int (bT rfl (aY (j:=3) c9 (by kernel_rfl))) ((iY (aH (show (1:Nat)≠24 by decide) (aH (show (1:Nat)≠19 by decide) (aH (show (1:Nat)≠14 by decide) rfl)))):_=some (.box b1 T.Auto [.d (dI 1),.d (.sl []),.d (dI a.sym),.d (dI a.st),.d (lC a.ini),.d (lC a.fin),.d (iL a.aB)])) (v:=.d (dI a.sym)) rfl ⟨β,cu (d:=7) (i:=4) rfl (λt ht=>gy ht) (lt_size 24 c9.size rfl (by decide)) (bg (lt_size 24 c9.size rfl (by decide)) (by rfl))⟩))⟩
  .exact λβ L c9=>⟨_,rfl,.inl (OG.aP (aV (b:=b1) (o:=0) (id:=1) fd.jf ((di rfl).trans rfl) rfl ⟨β,cu (d:=8) (i:=5) rfl (λt ht=>gy ht) (lt_size 24 c9.size rfl (by decide)) (bg (lt_size 24 c9.size rfl (by decide)) (by rfl))⟩))⟩
  .exact λβ L c9=>⟨_,rfl,.inl (OG.aP (aA ce.int (bT rfl (aY (j:=5) c9 (by kernel_rfl))) ((iY (aH (show (1:Nat)≠24 by decide) (aH (show (1:Nat)≠19 by decide) (aH (show (1:Nat)≠14 by decide) rfl)))):_=some (.box b1 T.Auto [.d (dI 1),.d (.sl []),.d (dI a.sym),.d (dI a.st),.d (lC a.ini),.d (lC a.fin),.d (iL a.aB)])) (v:=.d (dI a.st)) rfl ⟨β,cu (d:=9) (i:=6) rfl (λt ht=>gy ht) (lt_size 24 c9.size rfl (by decide)) (bg (lt_size 24 c9.size rfl (by decide)) (by rfl))⟩))⟩
  .exact λβ L c9=>⟨_,rfl,.inl (OG.aP (aV (b:=b1) (o:=0) (id:=1) fd.gu ((di rfl).trans rfl) rfl ⟨β,cu (d:=10) (i:=7) rfl (λt ht=>gy ht) (lt_size 24 c9.size rfl (by decide)) (bg (lt_size 24 c9.size rfl (by decide)) (by rfl))⟩))⟩
  .exact λβ L c9=>⟨_,rfl,.inl (OG.aP (aQ ag.Ring (bT rfl (aY (j:=7) c9 (by kernel_rfl))) ((iY (aH (show (1:Nat)≠24 by decide) (aH (show (1:Nat)≠19 by decide) (aH (show (1:Nat)≠14 by decide) rfl)))):_=some (.box b1 T.Auto [.d (dI 1),.d (.sl []),.d (dI a.sym),.d (dI a.st),.d (lC a.ini),.d (lC a.fin),.d (iL a.aB)])) (vs:=[_,_]) rfl (au rfl) ⟨β,cu (d:=11) (i:=8) rfl (λt ht=>gy ht) (lt_size 24 c9.size rfl (by decide)) (bg (lt_size 24 c9.size rfl (by decide)) (by rfl))⟩))⟩
  .exact λβ L c9=>⟨_,rfl,.inl (OG.aP (aV (b:=b1) (o:=0) (id:=1) fd.mg ((di rfl).trans rfl) rfl ⟨β,cu (d:=12) (i:=9) rfl (λt ht=>gy ht) (lt_size 24 c9.size rfl (by decide)) (bg (lt_size 24 c9.size rfl (by decide)) (by rfl))⟩))⟩
  .exact λβ L c9=>⟨_,rfl,.inl (OG.aP (aA ce.aS (bT rfl (aY (j:=9) c9 (by kernel_rfl))) ((iY (aH (show (1:Nat)≠24 by decide) (aH (show (1:Nat)≠19 by decide) (aH (show (1:Nat)≠14 by decide) rfl)))):_=some (.box b1 T.Auto [.d (dI 1),.d (.sl []),.d (dI a.sym),.d (dI a.st),.d (lC a.ini),.d (lC a.fin),.d (iL a.aB)])) (v:=.d (lC a.ini)) rfl ⟨β,cu (d:=13) (i:=10) rfl (λt ht=>gy ht) (lt_size 24 c9.size rfl (by decide)) (bg (lt_size 24 c9.size rfl (by decide)) (by rfl))⟩))⟩
  .exact λβ L c9=>⟨_,rfl,.inl (OG.aP (clR rfl (.cons (aC (bT rfl (aY (j:=8) c9 (by kernel_rfl)))) (.cons (aC (bT rfl (aY (j:=10) c9 (by kernel_rfl)))) .nil)) (Ns (l:=a.ini) (by omega) za.ini) (iY (aH (show (14:Nat)≠24 by decide) (aH (show (14:Nat)≠19 by decide) (DC (by exact c9.no) rfl)))) λb8 c8=>⟨upd β 14 (b8,c8),Dz (d:=14) (i:=11) (x:=(b8,c8)) rfl (λt ht=>gy ht) (lt_size 24 c9.size rfl (by decide)) rfl (BR (lt_size 24 c9.size rfl (by decide)) (show (21:Nat)≠11 by decide) (.inl (show (24:Nat)≠14 by decide)) (by exact λ_=>rfl) (BR (lt_size 24 c9.size rfl (by decide)) (show (16:Nat)≠11 by decide) (.inl (show (19:Nat)≠14 by decide)) (by exact λ_=>rfl) (vV (lt_size 24 c9.size rfl (by decide)) rfl rfl rfl c9.no (by rfl) (λy hy=>absurd hy List.not_mem_nil)))) (λt j ho hl=>by unfold SE at ho;split at ho <;> cases ho <;> first|rfl|(rw[c9.no] at hl;cases hl)|exact sF c9 (by kernel_rfl) hl)⟩))⟩
  .exact λβ L c9=>⟨_,rfl,.inl (OG.aP (aV (b:=b1) (o:=0) (id:=1) fd.gu ((di rfl).trans rfl) rfl ⟨β,cu (d:=15) (i:=12) rfl (λt ht=>gy ht) (lt_size 24 c9.size rfl (by decide)) (bg (lt_size 24 c9.size rfl (by decide)) (by rfl))⟩))⟩
  .exact λβ L c9=>⟨_,rfl,.inl (OG.aP (aQ ag.Ring (bT rfl (aY (j:=12) c9 (by kernel_rfl))) ((iY (aH (show (1:Nat)≠24 by decide) (aH (show (1:Nat)≠19 by decide) (aH (show (1:Nat)≠14 by decide) rfl)))):_=some (.box b1 T.Auto [.d (dI 1),.d (.sl []),.d (dI a.sym),.d (dI a.st),.d (lC a.ini),.d (lC a.fin),.d (iL a.aB)])) (vs:=[_,_]) rfl (au rfl) ⟨β,cu (d:=16) (i:=13) rfl (λt ht=>gy ht) (lt_size 24 c9.size rfl (by decide)) (bg (lt_size 24 c9.size rfl (by decide)) (by rfl))⟩))⟩
  .exact λβ L c9=>⟨_,rfl,.inl (OG.aP (aV (b:=b1) (o:=0) (id:=1) fd.o8 ((di rfl).trans rfl) rfl ⟨β,cu (d:=17) (i:=14) rfl (λt ht=>gy ht) (lt_size 24 c9.size rfl (by decide)) (bg (lt_size 24 c9.size rfl (by decide)) (by rfl))⟩))⟩
  .exact λβ L c9=>⟨_,rfl,.inl (OG.aP (aA ce.aS (bT rfl (aY (j:=14) c9 (by kernel_rfl))) ((iY (aH (show (1:Nat)≠24 by decide) (aH (show (1:Nat)≠19 by decide) (aH (show (1:Nat)≠14 by decide) rfl)))):_=some (.box b1 T.Auto [.d (dI 1),.d (.sl []),.d (dI a.sym),.d (dI a.st),.d (lC a.ini),.d (lC a.fin),.d (iL a.aB)])) (v:=.d (lC a.fin)) rfl ⟨β,cu (d:=18) (i:=15) rfl (λt ht=>gy ht) (lt_size 24 c9.size rfl (by decide)) (bg (lt_size 24 c9.size rfl (by decide)) (by rfl))⟩))⟩
  .exact λβ L c9=>⟨_,rfl,.inl (OG.aP (clR rfl (.cons (aC (bT rfl (aY (j:=13) c9 (by kernel_rfl)))) (.cons (aC (bT rfl (aY (j:=15) c9 (by kernel_rfl)))) .nil)) (Ns (l:=a.fin) (by omega) za.fin) (iY (aH (show (19:Nat)≠24 by decide) (DC (by exact c9.no) (aH (show (19:Nat)≠14 by decide) rfl)))) λb8 c8=>⟨upd β 19 (b8,c8),Dz (d:=19) (i:=16) (x:=(b8,c8)) rfl (λt ht=>gy ht) (lt_size 24 c9.size rfl (by decide)) rfl (BR (lt_size 24 c9.size rfl (by decide)) (show (21:Nat)≠16 by decide) (.inl (show (24:Nat)≠19 by decide)) (by exact λ_=>rfl) (vV (lt_size 24 c9.size rfl (by decide)) rfl rfl rfl c9.no (by rfl) (List.forall_mem_cons.2 ⟨(by exact λ_ _=>rfl),(λy hy=>absurd hy List.not_mem_nil)⟩))) (λt j ho hl=>by unfold SE at ho;split at ho <;> cases ho <;> first|rfl|(rw[c9.no] at hl;cases hl)|exact sF c9 (by kernel_rfl) hl)⟩))⟩
  .exact λβ L c9=>⟨_,rfl,.inl (OG.aP (aV (b:=b1) (o:=0) (id:=1) fd.gu ((di rfl).trans rfl) rfl ⟨β,cu (d:=20) (i:=17) rfl (λt ht=>gy ht) (lt_size 24 c9.size rfl (by decide)) (bg (lt_size 24 c9.size rfl (by decide)) (by rfl))⟩))⟩
  .exact λβ L c9=>⟨_,rfl,.inl (OG.aP (aQ ag.Ring (bT rfl (aY (j:=17) c9 (by kernel_rfl))) ((iY (aH (show (1:Nat)≠24 by decide) (aH (show (1:Nat)≠19 by decide) (aH (show (1:Nat)≠14 by decide) rfl)))):_=some (.box b1 T.Auto [.d (dI 1),.d (.sl []),.d (dI a.sym),.d (dI a.st),.d (lC a.ini),.d (lC a.fin),.d (iL a.aB)])) (vs:=[_,_]) rfl (au rfl) ⟨β,cu (d:=21) (i:=18) rfl (λt ht=>gy ht) (lt_size 24 c9.size rfl (by decide)) (bg (lt_size 24 c9.size rfl (by decide)) (by rfl))⟩))⟩
  .exact λβ L c9=>⟨_,rfl,.inl (OG.aP (aV (b:=b1) (o:=0) (id:=1) fd.fM ((di rfl).trans rfl) rfl ⟨β,cu (d:=22) (i:=19) rfl (λt ht=>gy ht) (lt_size 24 c9.size rfl (by decide)) (bg (lt_size 24 c9.size rfl (by decide)) (by rfl))⟩))⟩
  .exact λβ L c9=>⟨_,rfl,.inl (OG.aP (aA ce.bZ (bT rfl (aY (j:=19) c9 (by kernel_rfl))) ((iY (aH (show (1:Nat)≠24 by decide) (aH (show (1:Nat)≠19 by decide) (aH (show (1:Nat)≠14 by decide) rfl)))):_=some (.box b1 T.Auto [.d (dI 1),.d (.sl []),.d (dI a.sym),.d (dI a.st),.d (lC a.ini),.d (lC a.fin),.d (iL a.aB)])) (v:=.d (iL a.aB)) rfl ⟨β,cu (d:=23) (i:=20) rfl (λt ht=>gy ht) (lt_size 24 c9.size rfl (by decide)) (bg (lt_size 24 c9.size rfl (by decide)) (by rfl))⟩))⟩
  .exact λβ L c9=>⟨_,rfl,.inl (OG.aP (clR rfl (.cons (aC (bT rfl (aY (j:=18) c9 (by kernel_rfl)))) (.cons (aC (bT rfl (aY (j:=20) c9 (by kernel_rfl)))) .nil)) (ab7 (l:=a.aB) e3 za.arc) (iY (DC (by exact c9.no) (aH (show (24:Nat)≠19 by decide) (aH (show (24:Nat)≠14 by decide) rfl)))) λb8 c8=>⟨upd β 24 (b8,c8),Dz (d:=24) (i:=21) (x:=(b8,c8)) rfl (λt ht=>gy ht) (lt_size 24 c9.size rfl (by decide)) rfl (vV (lt_size 24 c9.size rfl (by decide)) rfl rfl rfl c9.no (by rfl) (List.forall_mem_cons.2 ⟨(by exact λ_ _=>rfl),(List.forall_mem_cons.2 ⟨(by exact λ_ _=>rfl),(λy hy=>absurd hy List.not_mem_nil)⟩)⟩)) (λt j ho hl=>by unfold SE at ho;split at ho <;> cases ho <;> first|rfl|(rw[c9.no] at hl;cases hl)|exact sF c9 (by kernel_rfl) hl)⟩))⟩
  .exact λβ L c9=>⟨_,rfl,.inl (OG.aP (Ko (cs:=[_,_,_,_,_,_,_]) z.Auto pl.Auto (jR (bT rfl (aY (j:=2) c9 (by kernel_rfl))) (jR (bT rfl (aY (j:=4) c9 (by kernel_rfl))) (jR (bT rfl (aY (j:=6) c9 (by kernel_rfl))) (jR (bT rfl (aY (j:=11) c9 (by kernel_rfl))) (jR (bT rfl (aY (j:=16) c9 (by kernel_rfl))) (jR (bT rfl (aY (j:=21) c9 (by kernel_rfl))) J9)))))) (by rfl) ⟨β,cu (d:=25) (i:=22) rfl (λt ht=>gy ht) (lt_size 24 c9.size rfl (by decide)) (bg (lt_size 24 c9.size rfl (by decide)) (by rfl))⟩))⟩
 refine λβ L c9 hA=>⟨_,rfl,.inl (OG.aP (eG (id:=2) (b:=b2) (o:=0) (v:=.ag [.d (dI 1),.d (.sl []),.d (dI a.sym),.d (dI a.st),.bK 14 (β 14).1 a.ini.length (β 14).2,.bK 19 (β 19).1 a.fin.length (β 19).2,.bK 24 (β 24).1 (bU a.aB).length (β 24).2]) sz.Auto ((di rfl).trans rfl) (bT rfl (hA 22 (by decide))) rfl ((iY (aH (show (2:Nat)≠24 by decide) (aH (show (2:Nat)≠19 by decide) (aH (show (2:Nat)≠14 by decide) rfl)))):_=some (.box b2 T.Auto [.d (dI 0),.mt,.d (dI 0),.d (dI 0),.mt,.mt,.mt])) rfl (au rfl) (cells2:=[.d (dI 1),.d (.sl []),.d (dI a.sym),.d (dI a.st),.bK 14 (β 14).1 a.ini.length (β 14).2,.bK 19 (β 19).1 a.fin.length (β 19).2,.bK 24 (β 24).1 (bU a.aB).length (β 24).2]) rfl ?_))⟩
 refine OL.nil ?_;refine AW.to [(2,.ptr 2 b2 0)] [(2,.box b2 T.Auto [.d (dI 1),.d (.sl []),.d (dI a.sym),.d (dI a.st),.bK 14 (β 14).1 a.ini.length (β 14).2,.bK 19 (β 19).1 a.fin.length (β 19).2,.bK 24 (β 24).1 (bU a.aB).length (β 24).2]),(14,.row (β 14).1 (β 14).2 T.ay 8 (a.ini.map dW)),(19,.row (β 19).1 (β 19).2 T.ay 8 (a.fin.map dW)),(24,.row (β 24).1 (β 24).2 T.mQ 11 ((bU a.aB).map jv))] (.cons (aC (gW ((di rfl).trans rfl))) .nil) (.cons MW (.cons (mM (by decide) (iY (aH (show (14:Nat)≠24 by decide) (aH (show (14:Nat)≠19 by decide) (vU (hA 11 (by decide)) rfl rfl))))) (.cons (mM (by decide) (iY (aH (show (19:Nat)≠24 by decide) (vU (hA 16 (by decide)) rfl rfl)))) (.cons (mM (by decide) (iY (vU (hA 21 (by decide)) rfl rfl))) .nil)))) ?_
 generalize β 14=p1;generalize β 19=p2;generalize β 24=p3;exact AW.ret ⟨(p1,p2,p3),trivial,⟨_,.dK rfl rfl ag.Auto (au rfl) .nil,.le vR⟩,λid blk hk=>oz (l:=frL a (p1,p2,p3)) (.cons rfl (.cons rfl (.cons rfl .nil))) id blk hk⟩
theorem Qp {a b:Au}{s:Nat}(f:Au.Fit a s)(g:Au.Fit b s)(u:Au.Fit (oq b (-1)) s):ai P F.sK [uY a,uY b] (uY (BB a b)):=by
 have hai:=f.ok.ini;have Xo:=f.ok.fin;have hbi:=g.ok.ini;have hbf:=g.ok.fin;have hs1:=f.st;have hs2:=g.st;have hfa:=Nat.le_trans (jJ a.aB) f.sz.num;have hfb:=Nat.le_trans (jJ _) (Nat.le_trans (jJ b.aB) g.sz.num);have hml:=CY (bU (bU b.aB)) a.st;have hbx:∀ x,x ∈ (bU (bU b.aB))->x.f<b.st/\x.t<b.st:=λx hx=>⟨(g.ok.form.form.arc x hx).1,(g.ok.form.form.arc x hx).2.1⟩;refine ai.intro fn.sK (by rfl) (by rfl) (au (by rfl)) λE hE=>(AW.sg hE rfl (iG rfl rfl λb2=>(iG rfl rfl λb3=>(al z.Auto rfl λb4=>(OL.nil (AW.seq (AW.dg 1 [0,1,2,3,4,5,6,7] ak hE rfl (by kernel_rfl) (OI.aP (os:=[_,_,_,_,_,_,_,_]) rfl ?_))))))))
 refine aQ ag.Auto rfl rfl (vs:=[_,_,_,_,_,_,_]) rfl (au rfl) (bP rfl .jm (GK (n:=-1) (d:=1) (by decide) (by decide) (by decide)) ?_)
 rw[aG9];refine bd z.ay pl.ay (cs:=[_,_,_,_,_,_,_,_]) rfl (bP rfl (.cons vR (.cons (FM) .nil)) (aE3 (a:=b) (q:=-1) g (by rw[EY,yG];decide)) (ES rfl (ex rfl rfl (ex rfl rfl (eG sz.Auto rfl rfl rfl rfl rfl (au rfl) (cells2:=[_,_,_,_,_,_,_]) rfl (OL.nil ?_))))))
 refine AW.XR (α:=FrB) [(2,_),(3,_),(4,_)] [(4,_)] (λx=>[]) (λx=>[(2,.box b2 T.Auto (frV a x)),(3,.box b3 T.Auto [.d (dI 1),.d (.sl []),.d (dI b.sym),.d (dI b.st),.d (lC (b.ini.map λx=>x * -1)),.d (lC b.fin),.d (iL (bU (bU b.aB)))]),(14,.row x.1.1 x.1.2 T.ay 8 (a.ini.map dW)),(19,.row x.2.1.1 x.2.1.2 T.ay 8 (a.fin.map dW)),(24,.row x.2.2.1 x.2.2.2 T.mQ 11 ((bU a.aB).map jv))]) (λx=>True) (.cons (iF rfl) (.cons (iF rfl) (.cons (iF rfl) .nil))) (.cons (jc rfl) .nil) ?_ ?_
 .refine AW.Ux ak (by rw[hE];rfl) (Le.node [0,2] (os:=[_,_]) (by kernel_rfl) (by decide) rfl ⟨?_,?_,trivial⟩)
  .refine SG.jK (aQ ag.Auto rfl rfl (vs:=[_,_,_,_,_,_,_]) rfl (au rfl) (OL.nil (Le.node [1,2] (os:=[_,_]) (by kernel_rfl) (by decide) rfl ⟨?_,?_,trivial⟩)))
   .refine SG.G6 (SO.JP (args':=[uY a]) (show 16<E.n by rw[hE];exact Nat.le_of_ble_eq_true (by rfl)) rfl vL (Uy f.ok f.sz f.st) ?_)
    rintro⟨⟨p1,c1⟩,⟨p2,c2⟩,⟨p3,c3⟩⟩ -
    refine Le.node [2] (os:=[_]) (by kernel_rfl) (by decide) rfl ⟨?_,trivial⟩
    refine SG.jK (aQ ag.Auto rfl rfl (vs:=[_,_,_,_,_,_,_]) rfl (au rfl) (OL.nil (Le.node [3] (os:=[_]) (by kernel_rfl) (by decide) rfl ⟨?_,trivial⟩)))
    refine SG.jK (bP rfl vL (Ir (a:=(oq b (-1))) u.ok u.sz u.st) (OL.nil (Le.node [4] (os:=[_]) (by kernel_rfl) (by decide) rfl ⟨?_,trivial⟩)))
    refine SG.jK (eG sz.Auto rfl rfl rfl rfl rfl (au rfl) (cells2:=[_,_,_,_,_,_,_]) rfl (OL.nil (Le.node [5] (os:=[_]) (by kernel_rfl) (by decide) rfl ⟨?_,trivial⟩)))
    exact SG.jK (eG sz.Auto rfl rfl rfl rfl rfl (au rfl) (cells2:=[_,_,_,_,_,_,_]) rfl (OL.nil (Le.leaf (by kernel_rfl) (AW.reach ((p1,c1),(p2,c2),(p3,c3)) ⟨trivial,Knows.app .yI (.nil),dP.app (.cons rfl .nil) (.cons rfl (.cons rfl (.cons rfl (.cons rfl (.cons rfl .nil)))))⟩))))
   .refine SG.jK (aQ ag.Auto rfl rfl (vs:=[_,_,_,_,_,_,_]) rfl (au rfl) (OL.nil (Le.node [1] (os:=[_]) (by kernel_rfl) (by decide) rfl ⟨?_,trivial⟩)))
    refine SG.G6 (SO.JP (args':=[uY a]) (show 16<E.n by rw[hE];exact Nat.le_of_ble_eq_true (by rfl)) rfl vL (Uy f.ok f.sz f.st) ?_)
    rintro⟨⟨p1,c1⟩,⟨p2,c2⟩,⟨p3,c3⟩⟩ -
    refine Le.node [3] (os:=[_]) (by kernel_rfl) (by decide) rfl ⟨?_,trivial⟩
    refine SG.jK (bP rfl vL (Ir (a:=(oq b (-1))) u.ok u.sz u.st) (OL.nil (Le.node [4] (os:=[_]) (by kernel_rfl) (by decide) rfl ⟨?_,trivial⟩)))
    refine SG.jK (eG sz.Auto rfl rfl rfl rfl rfl (au rfl) (cells2:=[_,_,_,_,_,_,_]) rfl (OL.nil (Le.node [5] (os:=[_]) (by kernel_rfl) (by decide) rfl ⟨?_,trivial⟩)))
    exact SG.jK (eG sz.Auto rfl rfl rfl rfl rfl (au rfl) (cells2:=[_,_,_,_,_,_,_]) rfl (OL.nil (Le.leaf (by kernel_rfl) (AW.reach ((p1,c1),(p2,c2),(p3,c3)) ⟨trivial,Knows.app .yI (.nil),dP.app (.cons rfl .nil) (.cons rfl (.cons rfl (.cons rfl (.cons rfl (.cons rfl .nil)))))⟩))))
  .refine SG.jK (aQ ag.Auto rfl rfl (vs:=[_,_,_,_,_,_,_]) rfl (au rfl) (OL.nil (Le.node [0] (os:=[_]) (by kernel_rfl) (by decide) rfl ⟨?_,trivial⟩)))
   refine SG.jK (aQ ag.Auto rfl rfl (vs:=[_,_,_,_,_,_,_]) rfl (au rfl) (OL.nil (Le.node [1] (os:=[_]) (by kernel_rfl) (by decide) rfl ⟨?_,trivial⟩)))
   refine SG.G6 (SO.JP (args':=[uY a]) (show 16<E.n by rw[hE];exact Nat.le_of_ble_eq_true (by rfl)) rfl vL (Uy f.ok f.sz f.st) ?_)
   rintro⟨⟨p1,c1⟩,⟨p2,c2⟩,⟨p3,c3⟩⟩ -
   refine Le.node [3] (os:=[_]) (by kernel_rfl) (by decide) rfl ⟨?_,trivial⟩
   refine SG.jK (bP rfl vL (Ir (a:=(oq b (-1))) u.ok u.sz u.st) (OL.nil (Le.node [4] (os:=[_]) (by kernel_rfl) (by decide) rfl ⟨?_,trivial⟩)))
   refine SG.jK (eG sz.Auto rfl rfl rfl rfl rfl (au rfl) (cells2:=[_,_,_,_,_,_,_]) rfl (OL.nil (Le.node [5] (os:=[_]) (by kernel_rfl) (by decide) rfl ⟨?_,trivial⟩)))
   exact SG.jK (eG sz.Auto rfl rfl rfl rfl rfl (au rfl) (cells2:=[_,_,_,_,_,_,_]) rfl (OL.nil (Le.leaf (by kernel_rfl) (AW.reach ((p1,c1),(p2,c2),(p3,c3)) ⟨trivial,Knows.app .yI (.nil),dP.app (.cons rfl .nil) (.cons rfl (.cons rfl (.cons rfl (.cons rfl (.cons rfl .nil)))))⟩))))
 rintro⟨⟨p1,c1⟩,⟨p2,c2⟩,⟨p3,c3⟩⟩ -
 refine AW.seq (AW.dg 2 [0,1,2,3,4,5,6,7,8,9,10,11,12,14,15,16,17,19,20,13,18,21,22,23] ak hE rfl (by kernel_rfl) (OI.aP (os:=[_,_,_,_,_,_,_,_,_,_,_,_,_,_,_,_,_,_,_,_,_,_,_,_]) rfl ?_))
 refine aV fd.gu rfl rfl (aQ ag.Ring rfl rfl (vs:=[_,_]) rfl (au rfl) (aV fd.kZ rfl rfl (aA ce.int rfl rfl rfl (aV fd.jf rfl rfl (aA ce.int rfl rfl rfl (aV fd.jf rfl rfl (aA ce.int rfl rfl rfl ?_)))))));refine bo rfl rfl (lG (c:=((a.st+b.st:Nat):Int)) (by omega) (wrap_i64 (by omega))) (aV fd.mg rfl rfl (aA ce.aS rfl rfl rfl (aV fd.mg rfl rfl (aA ce.aS rfl rfl rfl (aV fd.o8 rfl rfl (aA ce.aS rfl rfl rfl (aV fd.o8 rfl rfl ?_)))))))
 refine aA ce.aS rfl rfl rfl (aV fd.fM rfl rfl (aA ce.bZ rfl rfl rfl ?_));refine aq6 sl.aS rfl rfl rfl (dL ..).symm (VC.d _) aD8 (by rw[dL,dL];omega) (by rw[dL,dL];omega) (.inl rfl) (ys:=(a.ini++b.ini.map λx=>x * -1).map dW) (by rw[List.map_append]) ?_
 refine aq6 sl.aS rfl rfl rfl (dL ..).symm (VC.d _) aD8 (by rw[dL];omega) (by rw[dL];omega) (.inl rfl) (ys:=(a.fin++b.fin).map dW) (by rw[List.map_append]) (Ko (cs:=[_,_,_,_,_,_,_]) z.Auto pl.Auto (jR (by exact U7 rfl) (jR (by exact rq rfl) (jR (by exact rq rfl) (jR (by exact rq rfl) (jR (by exact rq rfl) (jR (by exact evO rfl) (J9))))))) (by rfl) (al z.Auto rfl λb5=>(eG sz.Auto rfl rfl rfl rfl rfl (au rfl) (cells2:=[_,_,_,_,_,_,_]) rfl (OL.nil (AW.seq (AW.seq ?_))))))
 refine AW.rename 24 71 rfl (AW.pV 5 [.d (dI 1),.d (.sl []),.d (dI a.sym),.d (dI ((a.st+b.st:Nat):Int)),.d (lC (a.ini++b.ini.map λx=>x * -1)),.d (lC (a.fin++b.fin)),.bK 71 p3 (bU a.aB).length c3] rfl (.cons vR (.cons vR (.cons vR (.cons vR (.cons vR (.cons vR (.cons bV.bK .nil))))))) ?_);refine AW.rg hE rfl (aG rfl (OL.nil (AW.block ?_)));refine AW.aX (α:=Nat × Nat × Nat) [(2,_),(3,_),(4,_),(5,_)] [(2,_),(3,_),(4,_)] (λ(i,bq,cq)=>[(6,.d (dI i))]) (λ(i,bq,cq)=>[(5,.box b5 T.Auto [.d (dI 1),.d (.sl []),.d (dI a.sym),.d (dI ((a.st+b.st:Nat):Int)),.d (lC (a.ini++b.ini.map λx=>x * -1)),.d (lC (a.fin++b.fin)),.bK 71 bq ((bU a.aB).length+i) cq]),(71,.row bq cq T.mQ 11 ((bU a.aB++(moved (bU (bU b.aB)) a.st).take i).map jv))]) (λ(i,bq,cq)=>i<=(bU (bU b.aB)).length) (λ(i,bq,cq)=>(bU (bU b.aB)).length-i) (0,p3,c3) (.cons (iF rfl) (.cons (iF rfl) (.cons (iF rfl) (.cons (iF rfl) .nil)))) (.cons (jc rfl) (.cons (jc rfl) (.cons (jc rfl) .nil))) ⟨Nat.zero_le _,.dw,.cons rfl (.cons (by rw[show (moved (bU (bU b.aB)) a.st).take 0=[] from rfl,List.append_nil (bU a.aB)];rfl) .nil)⟩ ?_
 rintro⟨i,bq,cq⟩ h1
 have h1:i<=(bU (bU b.aB)).length:=h1;refine AW.seq (AW.sg hE rfl (aj rfl (aV fd.fM rfl rfl (aA ce.bZ rfl rfl rfl (fO sl.bZ rfl rfl (bD rfl rfl rfl (OL.nil ?_)))))));refine AW.cond rfl (λh45=>?_) (λh45=>?_)
 .try simp only[fG] at h45
  refine AW.skip (AW.seq (AW.block (AW.seq ?_)));have hi:i<(bU (bU b.aB)).length:=by omega
  have hxx:=hbx _ (getD_mem hi default);refine AW.rg hE rfl (aV fd.fM rfl rfl (aA ce.bZ rfl rfl rfl (aj rfl (fD sl.bZ default rfl rfl (by omega) rfl rfl (iR ag.mQ rfl (vs:=[_,_,_,_,_,_,_,_,_,_,_]) rfl (au rfl) (al z.mQ rfl λb7=>(eG sz.mQ rfl rfl rfl rfl rfl (au rfl) (cells2:=[_,_,_,_,_,_,_,_,_,_,_]) rfl ?_)))))))
  refine OL.nil (AW.rg hE rfl (aV fd.fM rfl rfl (aA ce.bZ rfl rfl rfl (aV fd.Ff rfl rfl (aA ce.int rfl rfl rfl (aV fd.jf rfl rfl (aA ce.int rfl rfl rfl ?_)))))));refine bo rfl rfl (lG (c:=((((bU (bU b.aB)).getD i default).f+a.st:Nat):Int)) (by omega) (wrap_i64 (by omega))) (aV fd.Bj rfl rfl (aA ce.int rfl rfl rfl (aV fd.Cj rfl rfl (aA ce.int rfl rfl rfl (aV fd.jf rfl rfl (aA ce.int rfl rfl rfl (bo rfl rfl (lG (c:=((((bU (bU b.aB)).getD i default).t+a.st:Nat):Int)) (by omega) (wrap_i64 (by omega))) ?_)))))))
  refine aV fd.qG rfl rfl (aQ ag.ay rfl rfl (vs:=[_,_,_,_,_,_,_,_]) rfl (au rfl) (Ko (cs:=[_,_,_,_,_,_,_,_,_,_,_]) z.mQ pl.mQ (jR (by exact rq rfl) (jR (by exact rq rfl) (jR (by exact rq rfl) (jR (by exact U7 rfl) (J9))))) (by rfl) ?_))
  refine xG (y:=jv (⟨((bU (bU b.aB)).getD i default).f+a.st,((bU (bU b.aB)).getD i default).l,((bU (bU b.aB)).getD i default).t+a.st,((bU (bU b.aB)).getD i default).q⟩:bM)) sl.bZ (wO (x:=(⟨((bU (bU b.aB)).getD i default).f+a.st,((bU (bU b.aB)).getD i default).l,((bU (bU b.aB)).getD i default).t+a.st,((bU (bU b.aB)).getD i default).q⟩:bM))) rfl (by decide) ?_
  refine Am sl.bZ rfl rfl rfl (by rw[dL,jd,List.length_take];omega) (VC.d _) (λy hy=>by rw[lV hy];rfl) (by simp only[kC];omega) (by simp only[kC];omega) (.inr rfl) (ys:=(bU a.aB++(moved (bU (bU b.aB)) a.st).take (i+1)).map jv) (by rw[YN hi,<- List.append_assoc,List.map_append (l₂:=[_])];rfl) (n2:=(bU a.aB).length+(i+1)) rfl λb71 c71=>?_
  refine aV fd.fM rfl rfl (eG sz.bZ rfl rfl rfl rfl rfl (au rfl) (cells2:=[_,_,_,_,_,_,_]) rfl (OL.nil (AW.rg hE rfl (aj rfl (aJ rfl rfl (by omega) (aG rfl (OL.nil ?_)))))))
  exact AW.again (x:=(i,bq,cq)) (i+1,b71,c71) (by (simp only[];omega)) ⟨by omega,Knows.app .J5 .dw,dP.app (.cons rfl (.cons rfl (.cons rfl .nil))) (.cons rfl (.cons rfl .nil))⟩
 .try simp only[fG] at h45
  refine AW.exit (AW.seq ?_);obtain rfl:i=(bU (bU b.aB)).length:=by omega
  refine AW.freeze 71 rfl (AW.pV 5 [.d (dI 1),.d (.sl []),.d (dI a.sym),.d (dI ((a.st+b.st:Nat):Int)),.d (lC (a.ini++b.ini.map λx=>x * -1)),.d (lC (a.fin++b.fin)),.d (iL (bU a.aB++moved (bU (bU b.aB)) a.st))] rfl (.cons vR (.cons vR (.cons vR (.cons vR (.cons vR (.cons vR (.cons (dM (by rw[dL,jd,List.length_take];omega) (by rw[List.take_of_length_le (by omega)])) .nil))))))) ?_)
  exact AW.rg hE rfl (aQ ag.Auto rfl rfl (vs:=[_,_,_,_,_,_,_]) rfl (au rfl) (eG sz.Auto rfl rfl rfl rfl rfl (au rfl) (cells2:=[_,_,_,_,_,_,_]) rfl (OL.nil (AW.ret (aT.r ⟨_,.dK rfl rfl ag.Auto (au rfl) .nil,.ag (.cons (.le vR) (.cons (.le vR) (.cons (.le vR) (.cons (.le vR) (.cons (.le vR) (.cons (.le vR) (.cons (.le vR) .nil)))))))⟩)))))
