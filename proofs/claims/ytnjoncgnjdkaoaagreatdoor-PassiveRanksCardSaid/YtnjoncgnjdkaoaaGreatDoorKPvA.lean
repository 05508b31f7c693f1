/-
  Walks of package vectorspace (printed by mk2.py).
-/
import Derived.Test.YtnjoncgnjdkaoaaGreatDoorKMod129
set_option maxHeartbeats 6400000
set_option maxRecDepth 16000
set_option linter.unusedVariables false
set_option linter.unusedSimpArgs false
namespace Go.Proofs.YtnjoncgnjdkaoaaGreatDoor
open Go Go.AL
abbrev vsV (B:NZ)(rs:List bJ):iF:=.row B.b1 B.c1 T.bT 1 (rs.map λr=>iG (dK r))
abbrev vsC (B:NZ)(rs:List bJ):iF:=.row B.b2 B.c2 T.bT 1 (rs.map λr=>iG (lQ r))
abbrev P7 (b:Nat)(B:NZ)(rs:List bJ):iF:=.box b T.rP [.bH 1001 B.b1 rs.length B.c1,.bH 1002 B.b2 rs.length B.c2,.bH 1003 B.b3 rs.length B.c3]
abbrev Rn (b:Nat)(B:NZ)(rs:List bJ):List (Nat × iF):=[(1000,P7 b B rs),(1001,vsV B rs),(1002,vsC B rs),(1003,rowP B rs)]
def X7 (b:Nat)(B:NZ)(rs:List bJ):Mem:=lk none ((Rn b B rs).map λp=>(p.1,some p.2))
abbrev aY3 (b:Nat)(B:NZ)(rs:List bJ)(x:Nat)(l:List Rat):List (Nat × iF):=Rn b B rs++[(2000,.row x l.length T.Rat 3 (l.map dQ))]
def bg7 (b:Nat)(B:NZ)(rs:List bJ)(x:Nat)(l:List Rat):Mem:=lk none ((aY3 b B rs x l).map λp=>(p.1,some p.2))
theorem UF {b b2:Nat}{B B2:NZ}{rs rs2:List bJ}(id:Nat)(h:X7 b B rs id=none):X7 b2 B2 rs2 id=none:=by
 unfold X7 at *;simp only[Rn,List.map_cons,List.map_nil,lk] at h ⊢
 repeat (split at h;· cases h)
 simp only[*,if_false]
theorem Zx {a:List Rat}{g:Nat->Rat}{i:Nat}(hi:i<a.length)(h:g i=a.getD i 0):sN a g (i+1)=sN a g i:=by
 rw[<- Ej hi,h,<- Ei hi,Oj]
theorem aO0 {rs:List bJ}{v:List Rat}{i:Nat}(hi:i<rs.length):(lQ (newR rs v)).getD i 0 = -((bZ rs v).getD i 0)*(1 / (aQ rs v).getD (dV (aQ rs v)) 0):=by
 rw[Fh];show (TQ rs v).getD i 0 / _=_
 rw[X4 hi,Rat.div_def,Rat.div_def,Rat.one_mul];rfl
theorem aC0 {rs:List bJ}{v:List Rat}:(lQ (newR rs v)).getD rs.length 0=1 / (aQ rs v).getD (dV (aQ rs v)) 0:=by
 rw[Fh];show (TQ rs v).getD rs.length 0 / _=_
 rw[Uo];rfl
theorem aO1 {rs:List bJ}{v:List Rat}(i:Nat):(dK (newR rs v)).getD i 0=(aQ rs v).getD i 0*(1 / (aQ rs v).getD (dV (aQ rs v)) 0):=by
 rw[yC];show (aQ rs v).getD i 0 / _=_
 rw[Rat.div_def,Rat.div_def,Rat.one_mul];rfl
theorem al2 {rs:List bJ}{v:List Rat}:sN (aQ rs v) (λj=>(dK (newR rs v)).getD j 0) (aQ rs v).length=dK (newR rs v):=by
 rw[Em λj h1 h2=>by omega]
 have hl:(aQ rs v).length=(dK (newR rs v)).length:=(show (dK (newR rs v)).length=(aQ rs v).length from pq).symm
 rw[hl];exact Gj _
def UG:Nat->Option Nat
 | 11=>some 0
 | 12=>some 1
 | 13=>some 2
 | 14=>some 3
 | 15=>some 4
 | 16=>some 5
 | 17=>some 6
 | 18=>some 7
 | 19=>some 8
 | 4=>some 9
 | _=>none
theorem pz {t i:Nat}(h:UG t=some i):t=[11,12,13,14,15,16,17,18,19,4].getD i 0:=by
 unfold UG at h
 split at h <;> first|(cases h;rfl)|cases h
noncomputable def aY4 (v:List Rat)(b:Nat)(B:NZ)(rs:List bJ)(t:Nat)(β:Nat->Nat × Nat):V :=
 match t with
 | 11=>.d (iG v)
 | 12=>.d (dI v.length)
 | 13|4=>.bH 13 (β 13).1 v.length v.length
 | 14|15|16=>.ptr 1000 b 0
 | 17=>.bH 1001 B.b1 rs.length B.c1
 | 18=>.d (dI rs.length)
 | 19=>.bH 19 (β 19).1 rs.length rs.length
 | _=>.junk
noncomputable abbrev aY5 (v:List Rat)(b:Nat)(B:NZ)(rs:List bJ):List Og:=[⟨13,2,λβ=>.row (β 13).1 v.length T.Rat 3 ((List.replicate v.length 0).map dQ)⟩,⟨19,8,λβ=>.row (β 19).1 rs.length T.Rat 3 ((List.replicate rs.length 0).map dQ)⟩]
theorem aY6 {p:Nat->Prop}(h0:p 0)(h1:p 1)(h2:p 2)(h3:p 3)(h4:p 4)(h5:p 5)(h6:p 6)(h7:p 7)(h8:p 8)(h9:p 9):∀ i,i<10->p i:=λi hi=>by
 have:i=0 \/ i=1 \/ i=2 \/ i=3 \/ i=4 \/ i=5 \/ i=6 \/ i=7 \/ i=8 \/ i=9:=by omega
 rcases this with rfl|rfl|rfl|rfl|rfl|rfl|rfl|rfl|rfl|rfl <;> assumption
def al3:Nat->Option Nat
 | 61=>some 0
 | 62=>some 1
 | 63=>some 2
 | 64=>some 3
 | 65=>some 4
 | 66=>some 5
 | 67=>some 6
 | 68=>some 7
 | 69=>some 8
 | 70=>some 9
 | _=>none
theorem pF {t i:Nat}(h:al3 t=some i):t=[61,62,63,64,65,66,67,68,69,70].getD i 0:=by
 unfold al3 at h
 split at h <;> first|(cases h;rfl)|cases h
noncomputable def aY7 (v:List Rat)(b:Nat)(B:NZ)(rs:List bJ)(k b10 b19:Nat)(t:Nat)(β:Nat->Nat × Nat):V :=
 match t with
 | 61=>.bH 19 b19 rs.length rs.length
 | 62|63=>.ptr 1000 b 0
 | 64=>.ptr 1000 b 1
 | 65=>.bH 1002 B.b2 rs.length B.c2
 | 66=>.d (dI k)
 | 67=>.pY 1002 B.b2 1 k 0
 | 68=>.d (iG (lQ (rs.getD k default)))
 | 69=>vQ ((aQ (rs.take k) v).getD (rs.getD k default).p 0)
 | 70=>vQ (-((aQ (rs.take k) v).getD (rs.getD k default).p 0))
 | _=>.junk
noncomputable abbrev aY8 (v:List Rat)(b:Nat)(B:NZ)(rs:List bJ)(k b10 b19:Nat):List Og:=[]
theorem aY9 {p:Nat->Prop}(h0:p 0)(h1:p 1)(h2:p 2)(h3:p 3)(h4:p 4)(h5:p 5)(h6:p 6)(h7:p 7)(h8:p 8)(h9:p 9):∀ i,i<10->p i:=λi hi=>by
 have:i=0 \/ i=1 \/ i=2 \/ i=3 \/ i=4 \/ i=5 \/ i=6 \/ i=7 \/ i=8 \/ i=9:=by omega
 rcases this with rfl|rfl|rfl|rfl|rfl|rfl|rfl|rfl|rfl|rfl <;> assumption
theorem al4 {a b:List Rat}{c:Rat}{p q:Nat}(hl:b.length<=a.length)(na:a.length<=65536)(za:∀ i,sz (a.getD i 0)<=17179869183)(zb:∀ i,sz (b.getD i 0)<=34359738366)(zc:sz c<=17179869183):eF P F.pU [.bH 1000 p a.length q,.d (iG b),vQ c] (mem1 1000 (.row p q T.Rat 3 (a.map dQ))) (.jE []) (mem1 1000 (.row p q T.Rat 3 ((minL a b c).map dQ))):=by
 refine eF.intro fn.pU (by rfl) (by rfl) (aA (by rfl)) λE hE=>(AW.sg hE rfl (gW rfl rfl λb5=>(OL.nil (AW.sg hE rfl (ai rfl (fJ sl.bT rfl rfl (ai rfl ?_)))))))
 refine OL.nil (AW.block ?_);refine AW.aU (α:=Nat) [(0,_),(5,_),(8,_),(9,_)] [(5,_)] (λi=>[(10,.d (dI i))]) (λi=>[(1000,.row p q T.Rat 3 ((sN a (λj=>a.getD j 0-c*b.getD j 0) i).map dQ))]) (λi=>i<=b.length) (λi=>b.length-i) 0 (.cons (yO rfl) (.cons (iJ rfl) (.cons (bY rfl) (.cons (bY rfl) .nil)))) (.cons (kC rfl) .nil) ⟨Nat.zero_le _,.di,.cons (by rw[BF];rfl) .nil⟩ ?_
 intro i h1;have h1:i<=b.length:=h1;have hml:(sN a (λj=>a.getD j 0-c*b.getD j 0) i).length=a.length:=BD;refine AW.sg hE rfl (aX rfl rfl rfl (OL.nil (AW.seq (AW.cond rfl (λh11=>?_) (λh11=>?_)))))
 .try simp only[eG] at h11
  refine AW.skip (AW.seq (AW.block (AW.seq ?_)));have hi:i<b.length:=by omega
  have zx:=za i;have zy:=zb i;have zm:=lU c (b.getD i 0);refine AW.rg hE rfl (ai rfl (fM sl.bT 0 rfl rfl (by omega) rfl rfl (jS ag.Rat rfl (vs:=[_,_,_]) rfl (aA rfl) (al z.Rat rfl λb7=>(aC rfl (fG sz.Rat rfl rfl rfl rfl rfl (aA rfl) (cells2:=[_,_,_]) rfl (OL.nil ?_)))))))
  refine AW.sg hE rfl (aN ag.Rat rfl rfl (vs:=[_,_,_]) rfl (aA rfl) (bF rfl vL (qF (x:=b.getD i 0) (by omega)) (fC rfl rfl rfl (OL.nil (AW.cond rfl (λh0=>?_) (λh0=>?_))))))
  .have h0:b.getD i 0≠0:=λe=>DC h0 (lY.2 e);refine AW.dg 1 [0,1,2,3,4,5,6,7,8,9,10,11] au hE rfl (by kernel_rfl) (OI.aS (os:=[_,_,_,_,_,_,_,_,_,_,_,_]) rfl ?_)
   refine gU rfl (ai rfl (gU rfl (ai rfl (jk sl.bT rfl rfl (by omega) (FH ag.Rat 0 (by decide) rfl rfl (by omega) (vs:=[_,_,_]) rfl (aA rfl) ?_)))))
   rw[Ei (by omega)]
   refine aN ag.Rat rfl rfl (vs:=[_,_,_]) rfl (aA rfl) (aN ag.Rat rfl rfl (vs:=[_,_,_]) rfl (aA rfl) (bF rfl vL (wV (x:=c) (y:=b.getD i 0) (by omega) (by omega)) (bF rfl vL (Om (x:=a.getD i 0) (y:=c*b.getD i 0) (by omega) (by omega)) (jk sl.bT rfl rfl (by omega) (Oa sz.Rat rfl (d:=dQ ((λj=>a.getD j 0-c*b.getD j 0) i)) yP rfl rfl (by rw[dD];omega) (es2:=(sN a (λj=>a.getD j 0-c*b.getD j 0) (i+1)).map dQ) (by rw[<- Ej (show i<a.length by omega),List.map_set]) (OL.nil (AW.rg hE rfl ?_)))))))
   exact aH rfl rfl (by omega) (ai rfl (OL.nil (AW.again (x:=i) (i+1) (by omega) ⟨by omega,Knows.app .GL .di,dw.app (.cons rfl .nil) (.cons rfl .nil)⟩)))
  .have h0:b.getD i 0=0:=lY.1 (BV h0);refine AW.skip (AW.rg hE rfl (aH rfl rfl (by omega) (ai rfl (OL.nil ?_))))
   exact AW.again (x:=i) (i+1) (by omega) ⟨by omega,Knows.app .GL .di,dw.app (.cons rfl .nil) (.cons (by rw[Zx (g:=(λj=>a.getD j 0-c*b.getD j 0)) (show i<a.length by omega) (by show a.getD i 0-c*b.getD i 0=_;rw[h0,Rat.mul_zero,Rat.sub_eq_add_neg,Rat.neg_zero,Rat.add_zero])];rfl) .nil)⟩
 .try simp only[eG] at h11
  refine AW.exit ?_;obtain rfl:i=b.length:=by omega
  exact⟨⟨_,.nil,_,.nil,rfl⟩,bP rfl⟩
theorem aZ0 {b:Nat}{B:NZ}{rs:List bJ}:eF P F.kP [.ptr 1000 b 0] (X7 b B rs) (.d (dI rs.length)) (X7 b B rs):=by
 refine eF.intro fn.kP (by rfl) (by rfl) (aA (by rfl)) λE hE=>(AW.sg hE rfl (aC rfl (OL.nil (AW.sg hE rfl (DL rfl (N7 rfl (aV fd.y5 rfl rfl ?_)))))))
 exact aG ce.gB rfl rfl rfl (Iy sl.gB rfl rfl (aC rfl (OL.nil (AW.ret ⟨⟨_,.tmp rfl .nil,.le vR⟩,λid blk hk=>uI (l:=Rn b B rs) (.cons rfl (.cons rfl (.cons rfl (.cons rfl trivial)))) id blk hk⟩))))
theorem X8 {v:List Rat}{n b:Nat}{B:NZ}{rs:List bJ}(sp:pK n 16777215 rs)(r6:rs.length<=6)(hv:v.length=n)(nn:n<=65536)(zv:∀ i,sz (v.getD i 0)<=16777215):rJ P F.jB [.ptr 1000 b 0,.d (iG v)] (X7 b B rs) (λx:Nat=>.jE [.bH 2000 x v.length v.length,.d (iG (bZ rs v))]) (λx=>bg7 b B rs x (aQ rs v)) (λ_=>True):=by
 have bg8:=sp.ech.piv;have hlen:=sp.len;have hcl:=sp.cl;have hz:=sp.sz;refine rJ.intro fn.jB (by rfl) (by rfl) (aA (by rfl)) λE hE=>(AW.sg hE rfl (jg rfl (jg rfl (OL.nil (AW.seq (AW.xQ (aY4 v b B rs) UG (aY5 v b B rs) 10 au (by rw[hE];rfl) (by rfl) (by kernel_rfl) (by kernel_rfl) ?_ ?_))))))
 .refine aY6 ?_ ?_ ?_ ?_ ?_ ?_ ?_ ?_ ?_ ?_
  .exact λβ L c9=>⟨_,rfl,.inl (OG.aS (ai (y:=iG v) ((dY rfl).trans rfl) ⟨β,fE (d:=11) (i:=0) rfl (λt ht=>pz ht) (lt_size 11 c9.size rfl (by decide)) (bV (lt_size 11 c9.size rfl (by decide)) (by rfl))⟩))⟩
  .exact λβ L c9=>⟨_,rfl,.inl (OG.aS (fJ (l:=v) (f:=dQ) sl.bT rfl (dA rfl (bC (j:=0) c9 (by kernel_rfl))) ⟨β,fE (d:=12) (i:=1) rfl (λt ht=>pz ht) (lt_size 11 c9.size rfl (by decide)) (bV (lt_size 11 c9.size rfl (by decide)) (by rfl))⟩))⟩
  .exact λβ L c9=>⟨_,rfl,.inl (OG.aS (mkL dQ 0 sl.bT z.Rat IC (n:=v.length) (cp:=v.length) (k:=.i64) (k2:=.i64) (dA rfl (bC (j:=1) c9 (by kernel_rfl))) (dA rfl (bC (j:=1) c9 (by kernel_rfl))) (Nat.le_refl _) (by omega) (by omega) (kW (rH (by exact c9.no) (aI (show (13:Nat)≠19 by decide) rfl))) λb8=>⟨upd β 13 (b8,0),Lp (d:=13) (i:=2) (x:=(b8,0)) rfl (λt ht=>pz ht) (lt_size 11 c9.size rfl (by decide)) rfl (uJ (lt_size 11 c9.size rfl (by decide)) rfl rfl rfl c9.no (by rfl) (List.forall_mem_cons.2 ⟨(by exact λ_ _=>rfl),(λy hy=>absurd hy List.not_mem_nil)⟩)) (λt j ho hl=>by unfold UG at ho;split at ho <;> cases ho <;> first|rfl|(rw[c9.no] at hl;cases hl)|exact AV c9 (by kernel_rfl) hl)⟩))⟩
  .exact λβ L c9=>⟨_,rfl,.inl (OG.aS (DL (id:=1000) (b:=b) (o:=0) ((dY rfl).trans rfl) ⟨β,fE (d:=14) (i:=3) rfl (λt ht=>pz ht) (lt_size 11 c9.size rfl (by decide)) (bV (lt_size 11 c9.size rfl (by decide)) (by rfl))⟩))⟩
  .exact λβ L c9=>⟨_,rfl,.inl (OG.aS (N7 (id:=1000) (b:=b) (o:=0) (dA rfl (bC (j:=3) c9 (by kernel_rfl))) ⟨β,fE (d:=15) (i:=4) rfl (λt ht=>pz ht) (lt_size 11 c9.size rfl (by decide)) (bV (lt_size 11 c9.size rfl (by decide)) (by rfl))⟩))⟩
  .exact λβ L c9=>⟨_,rfl,.inl (OG.aS (aV (b:=b) (o:=0) (id:=1000) fd.y5 (dA rfl (bC (j:=4) c9 (by kernel_rfl))) rfl ⟨β,fE (d:=16) (i:=5) rfl (λt ht=>pz ht) (lt_size 11 c9.size rfl (by decide)) (bV (lt_size 11 c9.size rfl (by decide)) (by rfl))⟩))⟩
  .exact λβ L c9=>⟨_,rfl,.inl (OG.aS (aG ce.gB (dA rfl (bC (j:=5) c9 (by kernel_rfl))) ((kW (aI (show (1000:Nat)≠13 by decide) (aI (show (1000:Nat)≠19 by decide) rfl))):_=some (.box b T.rP [.bH 1001 B.b1 rs.length B.c1,.bH 1002 B.b2 rs.length B.c2,.bH 1003 B.b3 rs.length B.c3])) (v:=.bH 1001 B.b1 rs.length B.c1) rfl ⟨β,fE (d:=17) (i:=6) rfl (λt ht=>pz ht) (lt_size 11 c9.size rfl (by decide)) (bV (lt_size 11 c9.size rfl (by decide)) (by rfl))⟩))⟩
  .exact λβ L c9=>⟨_,rfl,.inl (OG.aS (Iy (id:=1001) (b:=B.b1) (n:=rs.length) (c:=B.c1) sl.gB rfl (dA rfl (bC (j:=6) c9 (by kernel_rfl))) ⟨β,fE (d:=18) (i:=7) rfl (λt ht=>pz ht) (lt_size 11 c9.size rfl (by decide)) (bV (lt_size 11 c9.size rfl (by decide)) (by rfl))⟩))⟩
  .exact λβ L c9=>⟨_,rfl,.inl (OG.aS (mkL dQ 0 sl.bT z.Rat IC (n:=rs.length) (cp:=rs.length) (k:=.i64) (k2:=.i64) (dA rfl (bC (j:=7) c9 (by kernel_rfl))) (dA rfl (bC (j:=7) c9 (by kernel_rfl))) (Nat.le_refl _) (by omega) (by omega) (kW (aI (show (19:Nat)≠13 by decide) (rH (by exact c9.no) rfl))) λb8=>⟨upd β 19 (b8,0),Lp (d:=19) (i:=8) (x:=(b8,0)) rfl (λt ht=>pz ht) (lt_size 11 c9.size rfl (by decide)) rfl (o6 (lt_size 11 c9.size rfl (by decide)) (show (2:Nat)≠8 by decide) (.inl (show (13:Nat)≠19 by decide)) (by exact λ_=>rfl) (uJ (lt_size 11 c9.size rfl (by decide)) rfl rfl rfl c9.no (by rfl) (λy hy=>absurd hy List.not_mem_nil))) (λt j ho hl=>by unfold UG at ho;split at ho <;> cases ho <;> first|rfl|(rw[c9.no] at hl;cases hl)|exact AV c9 (by kernel_rfl) hl)⟩))⟩
  .exact λβ L c9=>⟨_,rfl,.inl (OG.aS (oC (id:=13) (b:=(β 13).1) (n:=v.length) (c:=v.length) (dA rfl (bC (j:=2) c9 (by kernel_rfl))) ⟨β,fE (d:=4) (i:=9) rfl (λt ht=>pz ht) (lt_size 11 c9.size rfl (by decide)) (bV (lt_size 11 c9.size rfl (by decide)) (by rfl))⟩))⟩
 refine λβ L c9 hA=>⟨_,rfl,.inl (OG.aS (oC (id:=19) (b:=(β 19).1) (n:=rs.length) (c:=rs.length) (dA rfl (bC (j:=8) c9 (by kernel_rfl))) ?_))⟩
 refine OL.nil ?_;refine AW.to [(0,.ptr 1000 b 0),(1,.d (iG v)),(4,.bH 13 (β 13).1 v.length v.length),(5,.bH 19 (β 19).1 rs.length rs.length)] [(1000,.box b T.rP [.bH 1001 B.b1 rs.length B.c1,.bH 1002 B.b2 rs.length B.c2,.bH 1003 B.b3 rs.length B.c3]),(1001,vsV B rs),(1002,vsC B rs),(1003,rowP B rs),(13,.row (β 13).1 v.length T.Rat 3 ((List.replicate v.length 0).map dQ)),(19,.row (β 19).1 rs.length T.Rat 3 ((List.replicate rs.length 0).map dQ))] (.cons (aB (iL (by decide) ((dY rfl).trans rfl))) (.cons (aB (iL (by decide) ((dY rfl).trans rfl))) (.cons (aB (iL (by decide) (dA rfl (bC (j:=9) c9 (by kernel_rfl))))) (.cons (aB Tm) (.nil))))) (.cons (put_mem (kW (aI (show (1000:Nat)≠13 by decide) (aI (show (1000:Nat)≠19 by decide) rfl)))) (.cons (put_mem (kW (aI (show (1001:Nat)≠13 by decide) (aI (show (1001:Nat)≠19 by decide) rfl)))) (.cons (put_mem (kW (aI (show (1002:Nat)≠13 by decide) (aI (show (1002:Nat)≠19 by decide) rfl)))) (.cons (put_mem (kW (aI (show (1003:Nat)≠13 by decide) (aI (show (1003:Nat)≠19 by decide) rfl)))) (.cons (put_mem (kW (zO (bC (j:=2) c9 (by kernel_rfl)) rfl rfl))) (.cons (put_mem (kW (aI (show (19:Nat)≠13 by decide) (zO (bC (j:=8) c9 (by kernel_rfl)) rfl rfl)))) (.nil))))))) ?_
 generalize (β 13).1=b13;generalize (β 19).1=b19;refine AW.seq (AW.sg hE rfl (ai rfl (fJ sl.bT rfl rfl (ai rfl (OL.nil (AW.block ?_))))));refine AW.aU (α:=Nat) [(0,_),(4,_),(5,_),(20,_),(21,_)] [(1000,_),(1001,_),(1002,_),(1003,_)] (λi=>[(22,.d (dI i))]) (λi=>[(13,.row b13 v.length T.Rat 3 ((vg 0 (λj=>v.getD j 0) v.length i).map dQ)),(19,.row b19 rs.length T.Rat 3 ((List.replicate rs.length 0).map dQ))]) (λi=>i<=v.length) (λi=>v.length-i) 0 (.cons (iJ rfl) (.cons (yO rfl) (.cons (yO rfl) (.cons (bY rfl) (.cons (bY rfl) .nil))))) (.cons (kC rfl) (.cons (rY rfl) (.cons (rY rfl) (.cons (rY rfl) .nil)))) ⟨Nat.zero_le _,.di,.cons (by rw[F8];rfl) (.cons rfl .nil)⟩ ?_
 intro i h1;have h1:i<=v.length:=h1;have hfl:=ES 0 (λj=>v.getD j 0) v.length i;refine AW.sg hE rfl (aX rfl rfl rfl (OL.nil (AW.seq (AW.cond rfl (λh23=>?_) (λh23=>?_)))))
 .try simp only[eG] at h23
  refine AW.skip (AW.seq (AW.block (AW.seq ?_)));have zx:=zv i;refine AW.rg hE rfl (ai rfl (fM sl.bT 0 rfl rfl (by omega) rfl rfl (jS ag.Rat rfl (vs:=[_,_,_]) rfl (aA rfl) (al z.Rat rfl λb7=>(aC rfl (fG sz.Rat rfl rfl rfl rfl rfl (aA rfl) (cells2:=[_,_,_]) rfl (OL.nil ?_)))))))
  refine AW.sg hE rfl (aN ag.Rat rfl rfl (vs:=[_,_,_]) rfl (aA rfl) (bF rfl vL (xK (x:=v.getD i 0) (by omega)) (OL.nil (AW.cond rfl (λ_=>?_) (λhno=>absurd hno ((by decide)))))))
  refine AW.rg hE rfl (gU rfl (ai rfl (aN ag.Rat rfl rfl (vs:=[_,_,_]) rfl (aA rfl) (jk sl.bT rfl rfl (by omega) (Oa sz.Rat rfl (d:=dQ (v.getD i 0)) yP rfl rfl (by rw[dD];omega) (es2:=(vg 0 (λj=>v.getD j 0) v.length (i+1)).map dQ) (by rw[<- ET (show i<v.length by omega),List.map_set]) (OL.nil (AW.rg hE rfl ?_)))))))
  refine aH rfl rfl (by omega) (ai rfl (OL.nil ?_))
  exact AW.again (x:=i) (i+1) (by omega) ⟨by omega,Knows.app .Gs .di,dw.app (.cons rfl (.cons rfl (.cons rfl (.cons rfl .nil)))) (.cons rfl (.cons rfl .nil))⟩
 .try simp only[eG] at h23
  refine AW.exit (AW.seq (AW.seq ?_));obtain rfl:i=v.length:=by omega
  rw[TG rfl];refine AW.rg hE rfl (DL rfl (N7 rfl (aV fd.y5 rfl rfl (aG ce.gB rfl rfl rfl (Iy sl.gB rfl rfl (ai rfl (OL.nil ?_)))))));refine AW.block ?_;refine AW.aU (α:=Nat) [(0,_),(4,_),(5,_),(37,_),(38,_)] [(1000,_),(1001,_),(1002,_),(1003,_)] (λk=>[(39,.d (dI k))]) (λk=>[(13,.row b13 v.length T.Rat 3 ((aQ (rs.take k) v).map dQ)),(19,.row b19 rs.length T.Rat 3 ((tX (rs.take k) v (List.replicate rs.length 0)).map dQ))]) (λk=>k<=rs.length) (λk=>rs.length-k) 0 (.cons (iJ rfl) (.cons (yO rfl) (.cons (yO rfl) (.cons (yO rfl) (.cons (bY rfl) .nil))))) (.cons (kC rfl) (.cons (rY rfl) (.cons (rY rfl) (.cons (rY rfl) .nil)))) ⟨Nat.zero_le _,.di,.cons rfl (.cons rfl .nil)⟩ ?_;intro k h2;have h2:k<=rs.length:=h2;have hwl:(aQ (rs.take k) v).length=v.length:=kE _ _;have htl:(tX (rs.take k) v (List.replicate rs.length 0)).length=rs.length:=by rw[MC,List.length_replicate]
  refine AW.sg hE rfl (aX rfl rfl rfl (OL.nil (AW.seq (AW.cond rfl (λY6=>?_) (λY6=>?_)))))
  .try simp only[eG] at Y6
   refine AW.skip (AW.seq (AW.block (AW.seq ?_)));have hkr:k<rs.length:=by omega
   obtain⟨zw,zt,zr,zc⟩:=hz.bounds (w:=v) (n:=rs.length) (by omega) hkr zv
   obtain⟨hp1,hp2⟩:=bg8 _ (rq hkr);have hrl:=hlen _ (rq hkr);have hck:=hcl k _ (PL hkr);have zq1:=zw (rs.getD k default).p;have zu:=Nr zr;have zuc:=al1 zr zc;have hul:=pq (r:=(rs.getD k default));have br7:=Jc (r:=(rs.getD k default));have hr1:minL (aQ (rs.take k) v) (dK (rs.getD k default)) ((aQ (rs.take k) v).getD (rs.getD k default).p 0)=aQ (rs.take (k+1)) v:=by rw[BG hkr,aB7 hp2 (by omega)]
   have hr2:minL (tX (rs.take k) v (List.replicate rs.length 0)) (lQ (rs.getD k default)) (-((aQ (rs.take k) v).getD (rs.getD k default).p 0))=tX (rs.take (k+1)) v (List.replicate rs.length 0):=by rw[PK hkr,aB8 hp2]
   refine AW.rg hE rfl (ai rfl (jk sl.gB rfl rfl (by omega) (SH ce.bT default (by decide) rfl rfl hkr rfl (aC rfl (aC rfl (OL.nil (AW.sg hE rfl ?_)))))))
   refine gU rfl (DL rfl (N7 rfl (aV fd.LG rfl rfl (aG ce.ints rfl rfl rfl (ai rfl (jk sl.ints rfl rfl (by omega) (SH ce.int default (by decide) rfl rfl hkr rfl ?_)))))))
   refine jk sl.bT rfl rfl (by omega) (FH ag.Rat 0 (by decide) rfl rfl (by omega) (vs:=[_,_,_]) rfl (aA rfl) (al z.Rat rfl λb10=>(fG sz.Rat rfl rfl rfl rfl rfl (aA rfl) (cells2:=[_,_,_]) rfl (OL.nil (AW.seq (AW.sg hE rfl (aN ag.Rat rfl rfl (vs:=[_,_,_]) rfl (aA rfl) ?_)))))))
   refine bF rfl vL (qF (x:=(aQ (rs.take k) v).getD (rs.getD k default).p 0) (by omega)) (dG rfl rfl rfl (OL.nil (AW.cond rfl (λh0=>?_) (λh0=>?_))))
   .have h0:ou (aQ (rs.take k) v) (rs.getD k default)=0:=by rw[Wv,lY.1 (kK h0),Rat.div_def,Rat.zero_mul]
    refine AW.exit (AW.rg hE rfl (aH rfl rfl (by omega) (ai rfl (OL.nil ?_))))
    exact AW.again (x:=k) (k+1) (by omega) ⟨by omega,Knows.app .Gs .di,dw.app (.cons rfl (.cons rfl (.cons rfl (.cons rfl .nil)))) (.cons (by rw[BG (by omega),Hf h0];rfl) (.cons (by rw[PK (by omega),h0,Zl];rfl) .nil))⟩
   .have _h0:=h0;refine AW.skip (AW.seq ?_);have hmr:=al4 (a:=(aQ (rs.take k) v)) (b:=dK (rs.getD k default)) (c:=(aQ (rs.take k) v).getD (rs.getD k default).p 0) (p:=b13) (q:=v.length) (by omega) (by omega) zw zu (by omega)
    rw[hwl,hr1] at hmr;have hmt:=al4 (a:=(tX (rs.take k) v (List.replicate rs.length 0))) (b:=lQ (rs.getD k default)) (c:=-((aQ (rs.take k) v).getD (rs.getD k default).p 0)) (p:=b19) (q:=rs.length) (by omega) (by omega) zt zuc (by rw[IA];omega)
    rw[htl,hr2] at hmt;refine AW.rg hE rfl (gU rfl (ai rfl (aN ag.Rat rfl rfl (vs:=[_,_,_]) rfl (aA rfl) ?_)));refine OL.rV (v:=.jE []) (.mk (args':=[.bH 1000 b13 v.length v.length,.d (iG (dK (rs.getD k default))),vQ ((aQ (rs.take k) v).getD (rs.getD k default).p 0)]) rfl (.cons J8 .gy) (bP (id:=13) (blk:=.row b13 v.length T.Rat 3 ((aQ (rs.take k) v).map dQ)) rfl) iK (eF.DI hmr (.cons J8 .gy))) ?_;refine OL.nil (AW.xQ (aY7 v b B rs k b10 b19) al3 (aY8 v b B rs k b10 b19) 10 au (by rw[hE];rfl) (by rfl) (by kernel_rfl) (by kernel_rfl) ?_ ?_)
    .refine aY9 ?_ ?_ ?_ ?_ ?_ ?_ ?_ ?_ ?_ ?_
     .exact λβ L c9=>⟨_,rfl,.inl (OG.aS (gU (id:=19) (b:=b19) (n:=rs.length) (c:=rs.length) ((dY rfl).trans rfl) ⟨β,fE (d:=61) (i:=0) rfl (λt ht=>pF ht) (lt_size 11 c9.size rfl (by decide)) (bV (lt_size 11 c9.size rfl (by decide)) (by rfl))⟩))⟩
     .exact λβ L c9=>⟨_,rfl,.inl (OG.aS (DL (id:=1000) (b:=b) (o:=0) ((dY rfl).trans rfl) ⟨β,fE (d:=62) (i:=1) rfl (λt ht=>pF ht) (lt_size 11 c9.size rfl (by decide)) (bV (lt_size 11 c9.size rfl (by decide)) (by rfl))⟩))⟩
     .exact λβ L c9=>⟨_,rfl,.inl (OG.aS (N7 (id:=1000) (b:=b) (o:=0) (dA rfl (bC (j:=1) c9 (by kernel_rfl))) ⟨β,fE (d:=63) (i:=2) rfl (λt ht=>pF ht) (lt_size 11 c9.size rfl (by decide)) (bV (lt_size 11 c9.size rfl (by decide)) (by rfl))⟩))⟩
     .exact λβ L c9=>⟨_,rfl,.inl (OG.aS (aV (b:=b) (o:=0) (id:=1000) fd.LD (dA rfl (bC (j:=2) c9 (by kernel_rfl))) rfl ⟨β,fE (d:=64) (i:=3) rfl (λt ht=>pF ht) (lt_size 11 c9.size rfl (by decide)) (bV (lt_size 11 c9.size rfl (by decide)) (by rfl))⟩))⟩
     .exact λβ L c9=>⟨_,rfl,.inl (OG.aS (aG ce.gB (dA rfl (bC (j:=3) c9 (by kernel_rfl))) ((kW rfl):_=some (.box b T.rP [.bH 1001 B.b1 rs.length B.c1,.bH 1002 B.b2 rs.length B.c2,.bH 1003 B.b3 rs.length B.c3])) (v:=.bH 1002 B.b2 rs.length B.c2) rfl ⟨β,fE (d:=65) (i:=4) rfl (λt ht=>pF ht) (lt_size 11 c9.size rfl (by decide)) (bV (lt_size 11 c9.size rfl (by decide)) (by rfl))⟩))⟩
     .exact λβ L c9=>⟨_,rfl,.inl (OG.aS (ai (y:=dI k) ((dY rfl).trans rfl) ⟨β,fE (d:=66) (i:=5) rfl (λt ht=>pF ht) (lt_size 11 c9.size rfl (by decide)) (bV (lt_size 11 c9.size rfl (by decide)) (by rfl))⟩))⟩
     .exact λβ L c9=>⟨_,rfl,.inl (OG.aS (jk sl.gB (id:=1002) (b:=B.b2) (l:=rs.length) (c:=B.c2) (i:=k) (dA rfl (bC (j:=4) c9 (by kernel_rfl))) (dA rfl (bC (j:=5) c9 (by kernel_rfl))) hkr ⟨β,fE (d:=67) (i:=6) rfl (λt ht=>pF ht) (lt_size 11 c9.size rfl (by decide)) (bV (lt_size 11 c9.size rfl (by decide)) (by rfl))⟩))⟩
     .exact λβ L c9=>⟨_,rfl,.inl (OG.aS (SH ce.bT default (by decide) (dA rfl (bC (j:=6) c9 (by kernel_rfl))) ((kW rfl):_=some (vsC B rs)) hkr (d:=iG (lQ (rs.getD k default))) rfl ⟨β,fE (d:=68) (i:=7) rfl (λt ht=>pF ht) (lt_size 11 c9.size rfl (by decide)) (bV (lt_size 11 c9.size rfl (by decide)) (by rfl))⟩))⟩
     .exact λβ L c9=>⟨_,rfl,.inl (OG.aS (aN ag.Rat ((dY rfl).trans rfl) ((kW rfl):_=some (.box b10 T.Rat (Le ((aQ (rs.take k) v).getD (rs.getD k default).p 0)))) (vs:=[_,_,_]) rfl (aA rfl) ⟨β,fE (d:=69) (i:=8) rfl (λt ht=>pF ht) (lt_size 11 c9.size rfl (by decide)) (bV (lt_size 11 c9.size rfl (by decide)) (by rfl))⟩))⟩
     .exact λβ L c9=>⟨_,rfl,.inl (OG.aS (bF rfl (.cons (aB (dA rfl (bC (j:=8) c9 (by kernel_rfl)))) .nil) (FP (q:=(aQ (rs.take k) v).getD (rs.getD k default).p 0) (by omega)) ⟨β,fE (d:=70) (i:=9) rfl (λt ht=>pF ht) (lt_size 11 c9.size rfl (by decide)) (bV (lt_size 11 c9.size rfl (by decide)) (by rfl))⟩))⟩
    refine λβ L c9 hA=>⟨_,rfl,.inl (OG.aS (OL.rV (v:=.jE []) (.mk (args':=[.bH 1000 b19 rs.length rs.length,.d (iG (lQ (rs.getD k default))),vQ (-((aQ (rs.take k) v).getD (rs.getD k default).p 0))]) rfl (.cons (bG.trans (aB (dA rfl (hA 0 (by decide)))) J8) (.cons (aB (dA rfl (hA 7 (by decide)))) (.cons (aB (dA rfl (hA 9 (by decide)))) .nil))) (bP (id:=19) (blk:=.row b19 rs.length T.Rat 3 ((tX (rs.take k) v (List.replicate rs.length 0)).map dQ)) (kW rfl)) iK (eF.DI hmt (.cons J8 .gy))) ?_))⟩
    refine OL.nil ?_;refine AW.to [(0,.ptr 1000 b 0),(4,.bH 13 b13 v.length v.length),(5,.bH 19 b19 rs.length rs.length),(37,.bH 1001 B.b1 rs.length B.c1),(38,.d (dI rs.length)),(39,.d (dI k))] [(1000,.box b T.rP [.bH 1001 B.b1 rs.length B.c1,.bH 1002 B.b2 rs.length B.c2,.bH 1003 B.b3 rs.length B.c3]),(1001,vsV B rs),(1002,vsC B rs),(1003,rowP B rs),(13,.row b13 v.length T.Rat 3 ((aQ (rs.take (k+1)) v).map dQ)),(19,.row b19 rs.length T.Rat 3 ((tX (rs.take (k+1)) v (List.replicate rs.length 0)).map dQ))] (.cons (aB (iL (by decide) (qN ((dY rfl).trans rfl)))) (.cons (aB (iL (by decide) (qN ((dY rfl).trans rfl)))) (.cons (aB (iL (by decide) (qN ((dY rfl).trans rfl)))) (.cons (aB (iL (by decide) (qN ((dY rfl).trans rfl)))) (.cons (aB (iL (by decide) (qN ((dY rfl).trans rfl)))) (.cons (aB (iL (by decide) (qN ((dY rfl).trans rfl)))) (.nil))))))) (.cons rfl (.cons rfl (.cons rfl (.cons rfl (.cons rfl (.cons rfl .nil)))))) ?_
    refine AW.rg hE rfl (aH rfl rfl (by omega) (ai rfl (OL.nil ?_)))
    exact AW.again (x:=k) (k+1) (by omega) ⟨by omega,Knows.app .Gs .di,dw.app (.cons rfl (.cons rfl (.cons rfl (.cons rfl .nil)))) (.cons rfl (.cons rfl .nil))⟩
  .try simp only[eG] at Y6
   refine AW.exit (AW.seq ?_);obtain rfl:k=rs.length:=by omega
   have htk:tX (rs.take rs.length) v (List.replicate rs.length 0)=bZ rs v:=by rw[List.take_length];rfl
   rw[htk,List.take_length];rw[htk] at htl;rw[List.take_length] at hwl;refine AW.freeze 19 rfl (AW.to [(4,.bH 13 b13 v.length v.length),(5,.d (iG (bZ rs v)))] ((13,.row b13 v.length T.Rat 3 ((aQ rs v).map dQ))::Rn b B rs) (.cons vR (.cons (eH (by rw[dD];exact htl.symm) rfl) .nil)) (.cons rfl (.cons rfl (.cons rfl (.cons rfl (.cons rfl .nil))))) ?_)
   refine AW.rename 13 2000 rfl (AW.rg hE rfl (gU rfl (ai rfl (oC rfl (aC rfl (OL.nil ?_))))));exact AW.ret ⟨b13,trivial,⟨_,.tmp rfl (.tmp rfl .nil),_,.cons (.le bG.bH) (.cons (.le vR) .nil),rfl⟩,λid blk hk=>uI (l:=aY3 b B rs b13 (aQ rs v)) (.cons rfl (.cons rfl (.cons rfl (.cons rfl (.cons (by rw[hwl];rfl) trivial))))) id blk hk⟩
theorem aZ1 {v:List Rat}{n b:Nat}{B:NZ}{rs:List bJ}(sp:pK n 16777215 rs)(r6:rs.length<=6)(hv:v.length=n)(nn:n<=65536)(zv:∀ i,sz (v.getD i 0)<=16777215):rJ P F.lF [.ptr 1000 b 0,.d (iG v)] (X7 b B rs) (λ_:NZ=>.d (dB (bg rs v))) (λx=>X7 b x (vw rs v)) (λ_=>True):=by
 obtain⟨zl,zt⟩:=sp.sz.last (w:=v) r6 zv;have hvl:(aQ rs v).length=v.length:=kE _ _;have htl:=vX rs v;refine rJ.intro fn.lF (by rfl) (by rfl) (aA (by rfl)) λE hE=>(AW.sg hE rfl (aC rfl (OL.nil (AW.seq (AW.Ce (by rw[hE];rfl) (SK.jy (DL rfl (OL.nil ?_))))))))
 refine SK.jy (ai rfl (OL.nil ?_));refine SK.Ll (SO.ak0 (args':=[.ptr 1000 b 0,.d (iG v)]) (show 20<E.n by rw[hE];exact Nat.le_of_ble_eq_true (by rfl)) rfl vL (Mc:=X7 b B rs) (λid blk hk=>uI (l:=Rn b B rs) (.cons rfl (.cons rfl (.cons rfl (.cons rfl trivial)))) id blk hk) (X8 (b:=b) (B:=B) sp r6 hv nn zv) ?_)
 rintro x -
 refine SK.jy (yu rfl (OL.nil ?_));refine SK.jy (ex rfl rfl (OL.nil ?_));refine SK.jy (ex rfl rfl (OL.nil ?_));refine SK.jy (oC rfl (OL.nil ?_));refine SK.jy (aC rfl (OL.nil ?_));refine SK.nil (AW.seq (AW.seq ?_));refine AW.to [(0,.ptr 1000 b 0),(5,.bH 2000 x v.length v.length),(6,.d (iG (bZ rs v)))] ((2000,.row x v.length T.Rat 3 ((aQ rs v).map dQ))::Rn b B rs) .xf (.cons (by show some (iF.row x (aQ rs v).length T.Rat 3 ((aQ rs v).map dQ))=_;rw[hvl]) (.cons rfl (.cons rfl (.cons rfl (.cons rfl .nil))))) ?_
 refine AW.rg hE rfl (gU rfl (Iy sl.bT rfl rfl (ai rfl (OL.nil (AW.block ?_)))));refine AW.aU (α:=Nat) [(0,_),(5,_),(6,_),(23,_),(24,_)] [] (λi=>[(25,.d (dI i))]) (λi=>[(1000,P7 b B rs),(1001,vsV B rs),(1002,vsC B rs),(1003,rowP B rs),(2000,.row x v.length T.Rat 3 (((aQ rs v)).map dQ))]) (λi=>i<=v.length/\∀ j,j<i->(aQ rs v).getD j 0=0) (λi=>v.length-i) 0 (.cons (iJ rfl) (.cons (yO rfl) (.cons (bY rfl) (.cons (yO rfl) (.cons (bY rfl) .nil))))) .nil ⟨⟨Nat.zero_le _,λj hj=>by omega⟩,.di,.cons rfl (.cons rfl (.cons rfl (.cons rfl (.cons rfl .nil))))⟩ ?_
 rintro i ⟨h1,hb⟩
 have h1:i<=v.length:=h1;have hb:∀ j,j<i->(aQ rs v).getD j 0=0:=hb;refine AW.sg hE rfl (aX rfl rfl rfl (OL.nil (AW.seq (AW.cond rfl (λh26=>?_) (λh26=>?_)))))
 .try simp only[eG] at h26
  refine AW.skip (AW.seq (AW.block (AW.seq ?_)));have zx:=zl i;refine AW.rg hE rfl (ai rfl (jk sl.bT rfl rfl (by omega) (FH ag.Rat 0 (by decide) rfl rfl (by omega) (vs:=[_,_,_]) rfl (aA rfl) (al z.Rat rfl λb8=>(aC rfl (fG sz.Rat rfl rfl rfl rfl rfl (aA rfl) (cells2:=[_,_,_]) rfl (OL.nil ?_)))))))
  refine AW.seq (AW.sg hE rfl (aN ag.Rat rfl rfl (vs:=[_,_,_]) rfl (aA rfl) (bF rfl vL (qF (x:=((aQ rs v).getD i 0)) (by omega)) (dG rfl rfl rfl (OL.nil (AW.cond rfl (λhx=>?_) (λhx=>?_)))))))
  .have hx:((aQ rs v).getD i 0)=0:=lY.1 (kK hx);refine AW.exit (AW.rg hE rfl (aH rfl rfl (by omega) (ai rfl (OL.nil ?_))))
   exact AW.again (x:=i) (i+1) (by omega) ⟨⟨by omega,λj hj=>by rcases Nat.lt_or_ge j i with h|h;exact hb j h;obtain rfl:j=i:=(by omega);exact hx⟩,Knows.app .Gs .di,.cons rfl (.cons rfl (.cons rfl (.cons rfl (.cons rfl .nil))))⟩
  .have hx:((aQ rs v).getD i 0)≠0:=λe=>lD hx (lY.2 e);have hi:i<v.length:=by omega
   have hp:dV (aQ rs v)=i:=BH (by omega) hx hb
   have hg:bg rs v=true:=uw.2 (by omega)
   have hadd:vw rs v=rs++[newR rs v]:=if_pos hg;have zi:sz (1 / ((aQ rs v).getD i 0))<=68719476736:=Nat.le_trans (LW 1 ((aQ rs v).getD i 0)) (by rw[Ld];omega)
   have hnc:∀ k,k<rs.length->(lQ (newR rs v)).getD k 0 = -((bZ rs v).getD k 0)*(1 / ((aQ rs v).getD i 0)):=λk hk=>by rw[aO0 hk,hp]
   have bg9:(lQ (newR rs v)).getD rs.length 0=1 / ((aQ rs v).getD i 0):=by rw[aC0,hp]
   have hnv:∀ j,(dK (newR rs v)).getD j 0=(aQ rs v).getD j 0*(1 / ((aQ rs v).getD i 0)):=λj=>by rw[aO1,hp]
   have aZ2:(lQ (newR rs v)).length=rs.length+1:=by rw[Jc];exact Q5 rs v
   have bh0:(dK (newR rs v)).length=v.length:=by rw[pq];exact hvl
   refine AW.skip (AW.sg hE rfl (bF rfl .gy (D8 (n:=1) (d:=1) (by decide) (by decide) (by decide)) ?_))
   rw[q11];refine yu rfl (ex rfl rfl (ex rfl rfl (al z.Rat rfl λb9=>(fG sz.Rat rfl rfl rfl rfl rfl (aA rfl) (cells2:=[_,_,_]) rfl (aC rfl (OL.nil (AW.sg hE rfl ?_)))))));refine aN ag.Rat rfl rfl (vs:=[_,_,_]) rfl (aA rfl) (aN ag.Rat rfl rfl (vs:=[_,_,_]) rfl (aA rfl) (bF rfl vL (Oo (x:=1) (y:=((aQ rs v).getD i 0)) (by rw[Ld];decide) (by omega) hx) (yu rfl (ex rfl rfl (ex rfl rfl (al z.Rat rfl λb11=>(fG sz.Rat rfl rfl rfl rfl rfl (aA rfl) (cells2:=[_,_,_]) rfl ?_)))))))
   refine aC rfl (OL.nil (AW.sg hE rfl (DL rfl (N7 rfl (aV fd.y5 rfl rfl (aG ce.gB rfl rfl rfl (Iy sl.gB rfl rfl ?_)))))));refine bo rfl rfl (kM (c:=((rs.length+1:Nat):Int)) (by omega) (wrap_i64 (by omega))) (mkL dQ 0 sl.bT z.Rat IC rfl rfl (Nat.le_refl _) (by omega) (by omega) rfl λb49=>(oC rfl (OL.nil (AW.seq (AW.sg hE rfl (ai rfl (fJ sl.bT rfl rfl ?_)))))))
   rw[htl];refine ai rfl (OL.nil (AW.block ?_));refine AW.aU (α:=Nat) [(0,_),(5,_),(6,_),(7,_),(11,_),(13,_),(23,_),(24,_),(25,_),(50,_),(51,_)] [(11,_),(1000,_),(1001,_),(1002,_),(1003,_),(2000,_)] (λk=>[(52,.d (dI k))]) (λk=>[(49,.row b49 (rs.length+1) T.Rat 3 ((vg 0 (λj=>(lQ (newR rs v)).getD j 0) (rs.length+1) k).map dQ))]) (λk=>k<=rs.length) (λk=>rs.length-k) 0 (.cons (iJ rfl) (.cons (yO rfl) (.cons (bY rfl) (.cons (bY rfl) (.cons (iJ rfl) (.cons (yO rfl) (.cons (yO rfl) (.cons (bY rfl) (.cons (bY rfl) (.cons (bY rfl) (.cons (bY rfl) .nil))))))))))) (.cons (kC rfl) (.cons (kC rfl) (.cons (rY rfl) (.cons (rY rfl) (.cons (rY rfl) (.cons (rY rfl) .nil)))))) ⟨Nat.zero_le _,.di,.cons (by rw[F8];rfl) .nil⟩ ?_
   intro k h2;have h2:k<=rs.length:=h2;have hfl:=ES 0 (λj=>(lQ (newR rs v)).getD j 0) (rs.length+1) k;refine AW.sg hE rfl (aX rfl rfl rfl (OL.nil (AW.seq (AW.cond rfl (λh53=>?_) (λh53=>?_)))))
   .try simp only[eG] at h53
    refine AW.skip (AW.seq (AW.block (AW.seq ?_)));have hk:k<rs.length:=by omega
    have zy:=zt k;refine AW.rg hE rfl (ai rfl (fM sl.bT 0 rfl rfl (by omega) rfl rfl (jS ag.Rat rfl (vs:=[_,_,_]) rfl (aA rfl) (al z.Rat rfl λb15=>(aC rfl (fG sz.Rat rfl rfl rfl rfl rfl (aA rfl) (cells2:=[_,_,_]) rfl (OL.nil ?_)))))))
    refine AW.dg 1 [0,1,2,3,4,5,6,7] au hE rfl (by kernel_rfl) (OI.aS (os:=[_,_,_,_,_,_,_,_]) rfl ?_)
    refine gU rfl (ai rfl (aN ag.Rat rfl rfl (vs:=[_,_,_]) rfl (aA rfl) (bF rfl vL (FP (q:=(bZ rs v).getD k 0) (by omega)) (aN ag.Rat rfl rfl (vs:=[_,_,_]) rfl (aA rfl) (bF rfl vL (wV (x:=-((bZ rs v).getD k 0)) (y:=1 / ((aQ rs v).getD i 0)) (by rw[IA];omega) (by omega)) ?_)))))
    rw[<- hnc k hk];refine jk sl.bT rfl rfl (by omega) ?_
    refine Oa sz.Rat rfl (d:=dQ ((λj=>(lQ (newR rs v)).getD j 0) k)) yP rfl rfl (by rw[dD];omega) (es2:=(vg 0 (λj=>(lQ (newR rs v)).getD j 0) (rs.length+1) (k+1)).map dQ) (by rw[<- ET (show k<rs.length+1 by omega),List.map_set]) ?_
    refine OL.nil (AW.rg hE rfl (aH rfl rfl (by omega) (ai rfl (OL.nil ?_))))
    exact AW.again (x:=k) (k+1) (by omega) ⟨by omega,Knows.app .aJ6 .di,dw.app (.cons rfl (.cons rfl (.cons rfl (.cons rfl (.cons rfl (.cons rfl .nil)))))) (.cons rfl .nil)⟩
   .try simp only[eG] at h53
    refine AW.exit (AW.seq ?_);obtain rfl:k=rs.length:=by omega
    refine AW.dg 1 [0,1,2,3,4,5,6,7,8] au hE rfl (by kernel_rfl) (OI.aS (os:=[_,_,_,_,_,_,_,_,_]) rfl ?_)
    refine gU rfl (DL rfl (N7 rfl (aV fd.y5 rfl rfl (aG ce.gB rfl rfl rfl (Iy sl.gB rfl rfl (aN ag.Rat rfl rfl (vs:=[_,_,_]) rfl (aA rfl) (jk sl.bT rfl rfl (by omega) ?_)))))))
    refine Oa sz.Rat rfl (d:=dQ ((λj=>(lQ (newR rs v)).getD j 0) rs.length)) (by show VD (vQ (1 / ((aQ rs v).getD i 0))) (dQ ((lQ (newR rs v)).getD rs.length 0));rw[bg9];exact yP) rfl rfl (by rw[dD];omega) (es2:=(lQ (newR rs v)).map dQ) (by rw[<- List.map_set,ET (show rs.length<rs.length+1 by omega),TG aZ2]) ?_
    refine OL.nil (AW.seq (AW.sg hE rfl (gU rfl (Iy sl.bT rfl rfl (ai rfl (OL.nil (AW.block ?_)))))));refine AW.aU (α:=Nat) [(0,_),(5,_),(6,_),(7,_),(11,_),(13,_),(23,_),(24,_),(25,_),(74,_)] [(11,_),(49,_),(1000,_),(1001,_),(1002,_),(1003,_)] (λj=>[(75,.d (dI j))]) (λj=>[(2000,.row x v.length T.Rat 3 ((sN (aQ rs v) (λj=>(dK (newR rs v)).getD j 0) j).map dQ))]) (λj=>j<=v.length) (λj=>v.length-j) 0 (.cons (iJ rfl) (.cons (yO rfl) (.cons (bY rfl) (.cons (bY rfl) (.cons (iJ rfl) (.cons (yO rfl) (.cons (yO rfl) (.cons (bY rfl) (.cons (bY rfl) (.cons (bY rfl) .nil)))))))))) (.cons (kC rfl) (.cons (rY rfl) (.cons (kC rfl) (.cons (rY rfl) (.cons (rY rfl) (.cons (rY rfl) .nil)))))) ⟨Nat.zero_le _,.di,.cons (by rw[BF];rfl) .nil⟩ ?_
    intro j h3;have h3:j<=v.length:=h3;have hml:(sN (aQ rs v) (λj=>(dK (newR rs v)).getD j 0) j).length=v.length:=BD.trans hvl;refine AW.sg hE rfl (aX rfl rfl rfl (OL.nil (AW.seq (AW.cond rfl (λh76=>?_) (λh76=>?_)))))
    .try simp only[eG] at h76
     refine AW.skip (AW.seq (AW.block (AW.sg hE rfl (ai rfl (aC rfl (OL.nil ?_))))));have hj:j<v.length:=by omega
     have zj:=zl j;refine AW.dg 1 [0,1,2,3,4,5,6,7,8,9] au hE rfl (by kernel_rfl) (OI.aS (os:=[_,_,_,_,_,_,_,_,_,_]) rfl ?_)
     refine gU rfl (ai rfl (gU rfl (ai rfl (jk sl.bT rfl rfl (by omega) (FH ag.Rat 0 (by decide) rfl rfl (by omega) (vs:=[_,_,_]) rfl (aA rfl) ?_)))))
     rw[Ei (by omega)]
     refine aN ag.Rat rfl rfl (vs:=[_,_,_]) rfl (aA rfl) (bF rfl vL (wV (x:=(aQ rs v).getD j 0) (y:=1 / ((aQ rs v).getD i 0)) (by omega) (by omega)) ?_)
     rw[<- hnv j];refine jk sl.bT rfl rfl (by omega) ?_
     refine Oa sz.Rat rfl (d:=dQ ((λj=>(dK (newR rs v)).getD j 0) j)) yP rfl rfl (by rw[dD];omega) (es2:=(sN (aQ rs v) (λj=>(dK (newR rs v)).getD j 0) (j+1)).map dQ) (by rw[<- Ej (show j<(aQ rs v).length by omega),List.map_set]) ?_
     refine OL.nil (AW.rg hE rfl (aH rfl rfl (by omega) (ai rfl (OL.nil ?_))))
     exact AW.again (x:=j) (j+1) (by omega) ⟨by omega,Knows.app .aw0 .di,dw.app (.cons rfl (.cons rfl (.cons rfl (.cons rfl (.cons rfl (.cons rfl .nil)))))) (.cons rfl .nil)⟩
    .try simp only[eG] at h76
     refine AW.exit (AW.seq ?_);obtain rfl:j=v.length:=by omega
     have hmu:sN (aQ rs v) (λj=>(dK (newR rs v)).getD j 0) v.length=dK (newR rs v):=by rw[<- hvl];exact al2
     rw[hmu];refine AW.freeze 49 rfl (AW.to [(0,.ptr 1000 b 0),(5,.bH 2000 x v.length v.length),(7,.d (dI i)),(13,.d (iG (lQ (newR rs v))))] ((2000,.row x v.length T.Rat 3 ((dK (newR rs v)).map dQ))::Rn b B rs) (.cons bG.ptr (.cons vR (.cons vR (.cons (eH (by rw[dD];exact aZ2.symm) rfl) (.nil))))) (.cons rfl (.cons rfl (.cons rfl (.cons rfl (.cons rfl .nil))))) ?_)
     refine AW.freeze 2000 rfl (AW.to [(0,.ptr 1000 b 0),(5,.d (iG (dK (newR rs v)))),(7,.d (dI i)),(13,.d (iG (lQ (newR rs v))))] (Rn b B rs) (.cons bG.ptr (.cons (eH (by rw[dD];exact bh0.symm) rfl) (.cons vR (.cons vR (.nil))))) (.cons rfl (.cons rfl (.cons rfl (.cons rfl .nil)))) ?_)
     refine AW.dg 2 [0,1,2,3,4,5,6,7,8,10,11,12,13,14,15,17,18,19,20,21,22,9,16,23,24,25,26,27,28,29,30,31,32] au hE rfl (by kernel_rfl) (OI.aS (os:=[_,_,_,_,_,_,_,_,_,_,_,_,_,_,_,_,_,_,_,_,_,_,_,_,_,_,_,_,_,_,_,_,_]) rfl ?_)
     refine DL rfl (DL rfl (DL rfl (DL rfl (N7 rfl (aV fd.y5 rfl rfl (aG ce.gB rfl rfl rfl (ai rfl ?_)))))));refine xe (y:=iG (dK (newR rs v))) sl.gB (VC.d _).vd rfl (by decide) (DL rfl (N7 rfl (aV fd.LD rfl rfl (aG ce.gB rfl rfl rfl (ai rfl (xe (y:=iG (lQ (newR rs v))) sl.gB (VC.d _).vd rfl (by decide) (DL rfl ?_)))))))
     refine N7 rfl (aV fd.LG rfl rfl (aG ce.ints rfl rfl rfl (ai rfl (xe (y:=dI i) sl.ints (VC.d _).vd rfl (by decide) ?_))))
     refine zB sl.gB rfl rfl rfl (by rw[dD]) (VC.d _) (λy hy=>by rw[kJ hy];rfl) (by simp;omega) (by simp;omega) (.inl rfl) (ys:=(rs++[(newR rs v)]).map λr=>iG (dK r)) (by rw[List.map_append];rfl) (n2:=rs.length+1) rfl λb97 c97=>?_
     refine zB sl.gB rfl rfl rfl (by rw[dD]) (VC.d _) (λy hy=>by rw[kJ hy];rfl) (by simp;omega) (by simp;omega) (.inl rfl) (ys:=(rs++[(newR rs v)]).map λr=>iG (lQ r)) (by rw[List.map_append];rfl) (n2:=rs.length+1) rfl λZy Zz=>?_
     refine zB sl.ints rfl rfl rfl (by rw[dD]) (VC.d _) (λy hy=>by rw[kJ hy];rfl) (by simp;omega) (by simp;omega) (.inl rfl) (ys:=(rs++[(newR rs v)]).map λr=>dI r.p) (by rw[List.map_append];show _=_++[dI (dV (aQ rs v))];rw[hp]) (n2:=rs.length+1) rfl λZA ZB=>?_
     refine N7 rfl (aV fd.y5 rfl rfl (fG sz.gB rfl rfl rfl rfl rfl (aA rfl) rfl (N7 rfl (aV fd.LD rfl rfl (fG sz.gB rfl rfl rfl rfl rfl (aA rfl) rfl (N7 rfl (aV fd.LG rfl rfl ?_)))))));refine fG sz.ints rfl rfl rfl rfl rfl (aA rfl) rfl (OL.nil (AW.seq ?_));have hln:(rs++[newR rs v]).length=rs.length+1:=by rw[iU];rfl
     refine AW.to [] [(1000,.box b T.rP [.bH 97 b97 (rs.length+1) c97,.bH 104 Zy (rs.length+1) Zz,.bH 111 ZA (rs.length+1) ZB]),(97,.row b97 c97 T.bT 1 ((rs++[newR rs v]).map λr=>iG (dK r))),(104,.row Zy Zz T.bT 1 ((rs++[newR rs v]).map λr=>iG (lQ r))),(111,.row ZA ZB T.int 1 ((rs++[newR rs v]).map λr=>dI r.p))] .nil (.cons rfl (.cons rfl (.cons rfl (.cons rfl .nil)))) ?_;refine AW.rename 97 1001 rfl (AW.rename 104 1002 rfl (AW.rename 111 1003 rfl (AW.DX 1000 [.bH 1001 b97 (rs.length+1) c97,.bH 1002 Zy (rs.length+1) Zz,.bH 1003 ZA (rs.length+1) ZB] rfl (.cons bG.bH (.cons bG.bH (.cons bG.bH .nil))) ?_)));refine AW.rg hE rfl (aC rfl (OL.nil ?_));exact AW.ret ⟨⟨b97,c97,Zy,Zz,ZA,ZB⟩,trivial,⟨_,.tmp rfl .nil,.le (by rw[hg];exact bG.refl _)⟩,by rw[hadd];exact λid blk hk=>uI (l:=Rn b ⟨b97,c97,Zy,Zz,ZA,ZB⟩ (rs++[newR rs v])) (.cons (by show _=some (iF.box b T.rP [.bH 1001 b97 (rs++[newR rs v]).length c97,.bH 1002 Zy (rs++[newR rs v]).length Zz,.bH 1003 ZA (rs++[newR rs v]).length ZB]);rw[hln];rfl) (.cons rfl (.cons rfl (.cons rfl trivial)))) id blk hk⟩
 .try simp only[eG] at h26
  refine AW.exit (AW.seq ?_);have hg:bg rs v=false:=Ia.1 (λj hj=>hb j (by omega))
  have hadd:vw rs v=rs:=if_neg (by rw[hg];exact Bool.false_ne_true)
  exact AW.rg hE rfl (aC rfl (OL.nil (AW.ret ⟨B,trivial,⟨_,.tmp rfl .nil,.le (by rw[hg];exact bG.refl _)⟩,by rw[hadd];exact λid blk hk=>uI (l:=Rn b B rs) (.cons rfl (.cons rfl (.cons rfl (.cons rfl trivial)))) id blk hk⟩)))
theorem aO2 {v:List Rat}{n b:Nat}{B:NZ}{rs:List bJ}(sp:pK n 16777215 rs)(r6:rs.length<=6)(hv:v.length=n)(nn:n<=65536)(zv:∀ i,sz (v.getD i 0)<=16777215):eF P F.iw [.ptr 1000 b 0,.d (iG v)] (X7 b B rs) (.jE [.d (iG (if bg rs v=true then [] else bZ rs v)),.d (dB (!bg rs v))]) (X7 b B rs):=by
 obtain⟨zl,zt⟩:=sp.sz.last (w:=v) r6 zv;have hvl:(aQ rs v).length=v.length:=kE _ _;have htl:=vX rs v;refine eF.intro fn.iw (by rfl) (by rfl) (aA (by rfl)) λE hE=>(AW.sg hE rfl (jg rfl (aC rfl (OL.nil (AW.seq (AW.Ce (by rw[hE];rfl) (SK.jy (DL rfl (OL.nil ?_)))))))))
 refine SK.jy (ai rfl (OL.nil ?_));refine SK.Ll (SO.ak0 (args':=[.ptr 1000 b 0,.d (iG v)]) (show 13<E.n by rw[hE];exact Nat.le_of_ble_eq_true (by rfl)) rfl vL (Mc:=X7 b B rs) (λid blk hk=>uI (l:=Rn b B rs) (.cons rfl (.cons rfl (.cons rfl (.cons rfl trivial)))) id blk hk) (X8 (b:=b) (B:=B) sp r6 hv nn zv) ?_)
 rintro x -
 refine SK.jy (yu rfl (OL.nil ?_));refine SK.jy (ex rfl rfl (OL.nil ?_));refine SK.jy (ex rfl rfl (OL.nil ?_));refine SK.jy (oC rfl (OL.nil ?_));refine SK.jy (aC rfl (OL.nil ?_));refine SK.nil (AW.seq (AW.seq ?_));refine AW.to [(0,.ptr 1000 b 0),(6,.bH 2000 x v.length v.length),(7,.d (iG (bZ rs v)))] ((2000,.row x v.length T.Rat 3 ((aQ rs v).map dQ))::Rn b B rs) .xf (.cons (by show some (iF.row x (aQ rs v).length T.Rat 3 ((aQ rs v).map dQ))=_;rw[hvl]) (.cons rfl (.cons rfl (.cons rfl (.cons rfl .nil))))) ?_
 refine AW.rg hE rfl (gU rfl (Iy sl.bT rfl rfl (ai rfl (OL.nil (AW.block ?_)))));refine AW.aU (α:=Nat) [(7,_),(16,_),(17,_)] [] (λi=>[(18,.d (dI i))]) (λi=>[(1000,P7 b B rs),(1001,vsV B rs),(1002,vsC B rs),(1003,rowP B rs),(2000,.row x v.length T.Rat 3 (((aQ rs v)).map dQ))]) (λi=>i<=v.length/\∀ j,j<i->(aQ rs v).getD j 0=0) (λi=>v.length-i) 0 (.cons (bY rfl) (.cons (yO rfl) (.cons (bY rfl) .nil))) .nil ⟨⟨Nat.zero_le _,λj hj=>by omega⟩,.di,.cons rfl (.cons rfl (.cons rfl (.cons rfl (.cons rfl .nil))))⟩ ?_
 rintro i ⟨h1,hb⟩
 have h1:i<=v.length:=h1;have hb:∀ j,j<i->(aQ rs v).getD j 0=0:=hb;refine AW.sg hE rfl (aX rfl rfl rfl (OL.nil (AW.seq (AW.cond rfl (λh19=>?_) (λh19=>?_)))))
 .try simp only[eG] at h19
  refine AW.skip (AW.seq (AW.block (AW.seq ?_)));have zx:=zl i;refine AW.rg hE rfl (jk sl.bT rfl rfl (by omega) (FH ag.Rat 0 (by decide) rfl rfl (by omega) (vs:=[_,_,_]) rfl (aA rfl) (al z.Rat rfl λb9=>(fG sz.Rat rfl rfl rfl rfl rfl (aA rfl) (cells2:=[_,_,_]) rfl (OL.nil (AW.sg hE rfl (aN ag.Rat rfl rfl (vs:=[_,_,_]) rfl (aA rfl) ?_)))))))
  refine bF rfl vL (qF (x:=((aQ rs v).getD i 0)) (by omega)) (fC rfl rfl rfl (OL.nil (AW.cond rfl (λhx=>?_) (λhx=>?_))))
  .have hx:((aQ rs v).getD i 0)≠0:=λe=>DC hx (lY.2 e);have hi:i<v.length:=by omega
   have hp:dV (aQ rs v)=i:=BH (by omega) hx hb
   have hg:bg rs v=true:=uw.2 (by omega)
   exact AW.sg hE rfl (jg rfl (aC rfl (OL.nil (AW.ret ⟨⟨_,.tmp rfl (.tmp rfl .nil),_,.cons (.le (by rw[if_pos hg];exact bG.mt)) (.cons (.le (bG.bool (by rw[hg];rfl))) .nil),rfl⟩,λid blk hk=>uI (l:=Rn b B rs) (.cons rfl (.cons rfl (.cons rfl (.cons rfl trivial)))) id blk hk⟩))))
  .have hx:((aQ rs v).getD i 0)=0:=lY.1 (BV hx);refine AW.skip (AW.rg hE rfl (aH rfl rfl (by omega) (ai rfl (OL.nil ?_))))
   exact AW.again (x:=i) (i+1) (by omega) ⟨⟨by omega,λj hj=>by rcases Nat.lt_or_ge j i with h|h;exact hb j h;obtain rfl:j=i:=(by omega);exact hx⟩,Knows.app .xf .di,.cons rfl (.cons rfl (.cons rfl (.cons rfl (.cons rfl .nil))))⟩
 .try simp only[eG] at h19
  refine AW.exit (AW.seq ?_);have hg:bg rs v=false:=Ia.1 (λj hj=>hb j (by omega))
  refine AW.rg hE rfl (ai rfl (aC rfl (aC rfl (OL.nil ?_))));exact AW.ret ⟨⟨_,.tmp rfl (.tmp rfl .nil),_,.cons (.le (by rw[if_neg (by rw[hg];exact Bool.false_ne_true)];exact bG.refl _)) (.cons (.le (bG.bool (by rw[hg];rfl))) .nil),rfl⟩,λid blk hk=>uI (l:=Rn b B rs) (.cons rfl (.cons rfl (.cons rfl (.cons rfl trivial)))) id blk hk⟩
