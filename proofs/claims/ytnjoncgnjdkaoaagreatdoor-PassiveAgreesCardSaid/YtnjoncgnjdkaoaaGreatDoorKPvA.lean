/-
  Walks of package vectorspace (printed by mk2.py).
-/
import Derived.Test.YtnjoncgnjdkaoaaGreatDoorKWkL
import Derived.Test.YtnjoncgnjdkaoaaGreatDoorKMod129
set_option maxHeartbeats 6400000
set_option maxRecDepth 16000
set_option linter.unusedVariables false
set_option linter.unusedSimpArgs false
namespace Go.Proofs.YtnjoncgnjdkaoaaGreatDoor
open Go Go.AL
abbrev vsV (B:EH)(rs:List bW):iE:=.row B.b1 B.c1 T.bQ 1 (rs.map λr=>iQ (oJ r))
abbrev vsC (B:EH)(rs:List bW):iE:=.row B.b2 B.c2 T.bQ 1 (rs.map λr=>iQ (mg r))
abbrev UM (b:Nat)(B:EH)(rs:List bW):iE:=.box b T.vX [.bF 1001 B.b1 rs.length B.c1,.bF 1002 B.b2 rs.length B.c2,.bF 1003 B.b3 rs.length B.c3]
abbrev Vs (b:Nat)(B:EH)(rs:List bW):List (Nat × iE):=[(1000,UM b B rs),(1001,vsV B rs),(1002,vsC B rs),(1003,rowP B rs)]
def vsM (b:Nat)(B:EH)(rs:List bW):Mem:=lk none ((Vs b B rs).map λp=>(p.1,some p.2))
abbrev bd0 (b:Nat)(B:EH)(rs:List bW)(x:Nat)(l:List Rat):List (Nat × iE):=Vs b B rs++[(2000,.row x l.length T.Rat 3 (l.map dQ))]
def bo5 (b:Nat)(B:EH)(rs:List bW)(x:Nat)(l:List Rat):Mem:=lk none ((bd0 b B rs x l).map λp=>(p.1,some p.2))
theorem an4 {b b2:Nat}{B B2:EH}{rs Vr:List bW}(id:Nat)(h:vsM b B rs id=none):vsM b2 B2 Vr id=none:=by
 unfold vsM at *;simp only[Vs,List.map_cons,List.map_nil,lk] at h ⊢
 repeat (split at h;· cases h)
 simp only[*,if_false]
theorem ZP {a:List Rat}{g:Nat->Rat}{i:Nat}(hi:i<a.length)(h:g i=a.getD i 0):uY a g (i+1)=uY a g i:=by
 rw[<- EF hi,h,<- ED hi,FY]
theorem aS2 {rs:List bW}{v:List Rat}{i:Nat}(hi:i<rs.length):(mg (newR rs v)).getD i 0 = -((bY rs v).getD i 0)*(1 / (bg rs v).getD (iP (bg rs v)) 0):=by
 rw[FD];show (JQ rs v).getD i 0 / _=_
 rw[Rz hi,Rat.div_def,Rat.div_def,Rat.one_mul];rfl
theorem aE9 {rs:List bW}{v:List Rat}:(mg (newR rs v)).getD rs.length 0=1 / (bg rs v).getD (iP (bg rs v)) 0:=by
 rw[FD];show (JQ rs v).getD rs.length 0 / _=_
 rw[NI];rfl
theorem aS3 {rs:List bW}{v:List Rat}(i:Nat):(oJ (newR rs v)).getD i 0=(bg rs v).getD i 0*(1 / (bg rs v).getD (iP (bg rs v)) 0):=by
 rw[Jj];show (bg rs v).getD i 0 / _=_
 rw[Rat.div_def,Rat.div_def,Rat.one_mul];rfl
theorem an5 {rs:List bW}{v:List Rat}:uY (bg rs v) (λj=>(oJ (newR rs v)).getD j 0) (bg rs v).length=oJ (newR rs v):=by
 rw[EG λj h1 h2=>by omega]
 have hl:(bg rs v).length=(oJ (newR rs v)).length:=(show (oJ (newR rs v)).length=(bg rs v).length from FB).symm
 rw[hl];exact Gw _
def UN:Nat->Option Nat
 | 11=>some 0
 | 12=>some 1
 | 13=>some 2
 | 14=>some 3
 | 15=>some 4
 | 16=>some 5
 | 17=>some 6
 | 18=>some 7
 | 19=>some 8
 | 4=>some 9
 | _=>none
theorem qJ {t i:Nat}(h:UN t=some i):t=[11,12,13,14,15,16,17,18,19,4].getD i 0:=by
 unfold UN at h
 split at h <;> first|(cases h;rfl)|cases h
noncomputable def bd1 (v:List Rat)(b:Nat)(B:EH)(rs:List bW)(t:Nat)(β:Nat->Nat × Nat):V :=
 match t with
 | 11=>.d (iQ v)
 | 12=>.d (dI v.length)
 | 13|4=>.bF 13 (β 13).1 v.length v.length
 | 14|15|16=>.ptr 1000 b 0
 | 17=>.bF 1001 B.b1 rs.length B.c1
 | 18=>.d (dI rs.length)
 | 19=>.bF 19 (β 19).1 rs.length rs.length
 | _=>.junk
noncomputable abbrev bd3 (v:List Rat)(b:Nat)(B:EH)(rs:List bW):List Ko:=[⟨13,2,λβ=>.row (β 13).1 v.length T.Rat 3 ((List.replicate v.length 0).map dQ)⟩,⟨19,8,λβ=>.row (β 19).1 rs.length T.Rat 3 ((List.replicate rs.length 0).map dQ)⟩]
theorem bd4 {p:Nat->Prop}(h0:p 0)(h1:p 1)(h2:p 2)(h3:p 3)(h4:p 4)(h5:p 5)(h6:p 6)(h7:p 7)(h8:p 8)(h9:p 9):∀ i,i<10->p i:=λi hi=>by
 have:i=0 \/ i=1 \/ i=2 \/ i=3 \/ i=4 \/ i=5 \/ i=6 \/ i=7 \/ i=8 \/ i=9:=by omega
 rcases this with rfl|rfl|rfl|rfl|rfl|rfl|rfl|rfl|rfl|rfl <;> assumption
def an6:Nat->Option Nat
 | 61=>some 0
 | 62=>some 1
 | 63=>some 2
 | 64=>some 3
 | 65=>some 4
 | 66=>some 5
 | 67=>some 6
 | 68=>some 7
 | 69=>some 8
 | 70=>some 9
 | _=>none
theorem qK {t i:Nat}(h:an6 t=some i):t=[61,62,63,64,65,66,67,68,69,70].getD i 0:=by
 unfold an6 at h
 split at h <;> first|(cases h;rfl)|cases h
noncomputable def bd5 (v:List Rat)(b:Nat)(B:EH)(rs:List bW)(k b10 b19:Nat)(t:Nat)(β:Nat->Nat × Nat):V :=
 match t with
 | 61=>.bF 19 b19 rs.length rs.length
 | 62|63=>.ptr 1000 b 0
 | 64=>.ptr 1000 b 1
 | 65=>.bF 1002 B.b2 rs.length B.c2
 | 66=>.d (dI k)
 | 67=>.pW 1002 B.b2 1 k 0
 | 68=>.d (iQ (mg (rs.getD k default)))
 | 69=>vQ ((bg (rs.take k) v).getD (rs.getD k default).p 0)
 | 70=>vQ (-((bg (rs.take k) v).getD (rs.getD k default).p 0))
 | _=>.junk
noncomputable abbrev bd6 (v:List Rat)(b:Nat)(B:EH)(rs:List bW)(k b10 b19:Nat):List Ko:=[]
theorem bd7 {p:Nat->Prop}(h0:p 0)(h1:p 1)(h2:p 2)(h3:p 3)(h4:p 4)(h5:p 5)(h6:p 6)(h7:p 7)(h8:p 8)(h9:p 9):∀ i,i<10->p i:=λi hi=>by
 have:i=0 \/ i=1 \/ i=2 \/ i=3 \/ i=4 \/ i=5 \/ i=6 \/ i=7 \/ i=8 \/ i=9:=by omega
 rcases this with rfl|rfl|rfl|rfl|rfl|rfl|rfl|rfl|rfl|rfl <;> assumption
theorem an7 {a b:List Rat}{c:Rat}{p q:Nat}(hl:b.length<=a.length)(na:a.length<=65536)(za:∀ i,sz (a.getD i 0)<=17179869183)(zb:∀ i,sz (b.getD i 0)<=34359738366)(zc:sz c<=17179869183):eX P F.qQ [.bF 1000 p a.length q,.d (iQ b),vQ c] (mem1 1000 (.row p q T.Rat 3 (a.map dQ))) (.jS []) (mem1 1000 (.row p q T.Rat 3 ((minL a b c).map dQ))):=by
 refine eX.intro fn.qQ (by rfl) (by rfl) (aB (by rfl)) λE hE=>(AW.sg hE rfl (iI rfl rfl λb5=>(OL.nil (AW.sg hE rfl (ai rfl (fJ sl.bQ rfl rfl (ai rfl ?_)))))))
 refine OL.nil (AW.block ?_);refine AW.aV (α:=Nat) [(0,_),(5,_),(8,_),(9,_)] [(5,_)] (λi=>[(10,.d (dI i))]) (λi=>[(1000,.row p q T.Rat 3 ((uY a (λj=>a.getD j 0-c*b.getD j 0) i).map dQ))]) (λi=>i<=b.length) (λi=>b.length-i) 0 (.cons (yj rfl) (.cons (gB rfl) (.cons (bK rfl) (.cons (bK rfl) .nil)))) (.cons (iR rfl) .nil) ⟨Nat.zero_le _,.bZ,.cons (by rw[Fq];rfl) .nil⟩ ?_
 intro i h1;have h1:i<=b.length:=h1;have hml:(uY a (λj=>a.getD j 0-c*b.getD j 0) i).length=a.length:=BQ;refine AW.sg hE rfl (aY rfl rfl rfl (OL.nil (AW.seq (AW.cond rfl (λh11=>?_) (λh11=>?_)))))
 .try simp only[dX] at h11
  refine AW.skip (AW.seq (AW.block (AW.seq ?_)));have hi:i<b.length:=by omega
  have zx:=za i;have zy:=zb i;have zm:=mD c (b.getD i 0);refine AW.rg hE rfl (ai rfl (fO sl.bQ 0 rfl rfl (by omega) rfl rfl (jH ag.Rat rfl (vs:=[_,_,_]) rfl (aB rfl) (al z.Rat rfl λb7=>(aF rfl (eH sz.Rat rfl rfl rfl rfl rfl (aB rfl) (cells2:=[_,_,_]) rfl (OL.nil ?_)))))))
  refine AW.sg hE rfl (aO ag.Rat rfl rfl (vs:=[_,_,_]) rfl (aB rfl) (bJ rfl vL (gY (x:=b.getD i 0) (by omega)) (eG rfl rfl rfl (OL.nil (AW.cond rfl (λh0=>?_) (λh0=>?_))))))
  .have h0:b.getD i 0≠0:=λe=>D7 h0 (lS.2 e);refine AW.dg 1 [0,1,2,3,4,5,6,7,8,9,10,11] ay hE rfl (by kernel_rfl) (OI.aK (os:=[_,_,_,_,_,_,_,_,_,_,_,_]) rfl ?_)
   refine jq rfl (ai rfl (jq rfl (ai rfl (iM sl.bQ rfl rfl (by omega) (FT ag.Rat 0 (by decide) rfl rfl (by omega) (vs:=[_,_,_]) rfl (aB rfl) ?_)))))
   rw[ED (by omega)]
   refine aO ag.Rat rfl rfl (vs:=[_,_,_]) rfl (aB rfl) (aO ag.Rat rfl rfl (vs:=[_,_,_]) rfl (aB rfl) (bJ rfl vL (kY (x:=c) (y:=b.getD i 0) (by omega) (by omega)) (bJ rfl vL (FZ (x:=a.getD i 0) (y:=c*b.getD i 0) (by omega) (by omega)) (iM sl.bQ rfl rfl (by omega) (GI sz.Rat rfl (d:=dQ ((λj=>a.getD j 0-c*b.getD j 0) i)) xP rfl rfl (by rw[dJ];omega) (es2:=(uY a (λj=>a.getD j 0-c*b.getD j 0) (i+1)).map dQ) (by rw[<- EF (show i<a.length by omega),List.map_set]) (OL.nil (AW.rg hE rfl ?_)))))))
   exact aI rfl rfl (by omega) (ai rfl (OL.nil (AW.again (x:=i) (i+1) (by omega) ⟨by omega,Knows.app .Jz .bZ,dw.app (.cons rfl .nil) (.cons rfl .nil)⟩)))
  .have h0:b.getD i 0=0:=lS.1 (Bc h0);refine AW.skip (AW.rg hE rfl (aI rfl rfl (by omega) (ai rfl (OL.nil ?_))))
   exact AW.again (x:=i) (i+1) (by omega) ⟨by omega,Knows.app .Jz .bZ,dw.app (.cons rfl .nil) (.cons (by rw[ZP (g:=(λj=>a.getD j 0-c*b.getD j 0)) (show i<a.length by omega) (by show a.getD i 0-c*b.getD i 0=_;rw[h0,Rat.mul_zero,Rat.sub_eq_add_neg,Rat.neg_zero,Rat.add_zero])];rfl) .nil)⟩
 .try simp only[dX] at h11
  refine AW.exit ?_;obtain rfl:i=b.length:=by omega
  exact⟨⟨_,.nil,_,.nil,rfl⟩,dh rfl⟩
theorem Yk {v:List Rat}{n b:Nat}{B:EH}{rs:List bW}(sp:uK n 16777215 rs)(r6:rs.length<=6)(hv:v.length=n)(nn:n<=65536)(zv:∀ i,sz (v.getD i 0)<=16777215):jw P F.jP [.ptr 1000 b 0,.d (iQ v)] (vsM b B rs) (λx:Nat=>.jS [.bF 2000 x v.length v.length,.d (iQ (bY rs v))]) (λx=>bo5 b B rs x (bg rs v)) (λ_=>True):=by
 have aR8:=sp.ech.piv;have hlen:=sp.len;have hcl:=sp.cl;have hz:=sp.sz;refine jw.intro fn.jP (by rfl) (by rfl) (aB (by rfl)) λE hE=>(AW.sg hE rfl (oK rfl (oK rfl (OL.nil (AW.seq (AW.rU (bd1 v b B rs) UN (bd3 v b B rs) 10 ay (by rw[hE];rfl) (by rfl) (by kernel_rfl) (by kernel_rfl) ?_ ?_))))))
 .refine bd4 ?_ ?_ ?_ ?_ ?_ ?_ ?_ ?_ ?_ ?_
  .exact λβ L c9=>⟨_,rfl,.inl (OG.aK (ai (y:=iQ v) ((bV rfl).trans rfl) ⟨β,di (d:=11) (i:=0) rfl (λt ht=>qJ ht) (lt_size 11 c9.size rfl (by decide)) (aZ (lt_size 11 c9.size rfl (by decide)) (by rfl))⟩))⟩
  .exact λβ L c9=>⟨_,rfl,.inl (OG.aK (fJ (l:=v) (f:=dQ) sl.bQ rfl (bI rfl (aQ (j:=0) c9 (by kernel_rfl))) ⟨β,di (d:=12) (i:=1) rfl (λt ht=>qJ ht) (lt_size 11 c9.size rfl (by decide)) (aZ (lt_size 11 c9.size rfl (by decide)) (by rfl))⟩))⟩
  .exact λβ L c9=>⟨_,rfl,.inl (OG.aK (QM dQ 0 sl.bQ z.Rat Be (n:=v.length) (cp:=v.length) (k:=.i64) (k2:=.i64) (bI rfl (aQ (j:=1) c9 (by kernel_rfl))) (bI rfl (aQ (j:=1) c9 (by kernel_rfl))) (Nat.le_refl _) (by omega) (by omega) (fP (nX (by exact c9.no) (ak (show (13:Nat)≠19 by decide) rfl))) λb8=>⟨upd β 13 (b8,0),CP (d:=13) (i:=2) (x:=(b8,0)) rfl (λt ht=>qJ ht) (lt_size 11 c9.size rfl (by decide)) rfl (o6 (lt_size 11 c9.size rfl (by decide)) rfl rfl rfl c9.no (by rfl) (List.forall_mem_cons.2 ⟨(by exact λ_ _=>rfl),(λy hy=>absurd hy List.not_mem_nil)⟩)) (λt j ho hl=>by unfold UN at ho;split at ho <;> cases ho <;> first|rfl|(rw[c9.no] at hl;cases hl)|exact rV c9 (by kernel_rfl) hl)⟩))⟩
  .exact λβ L c9=>⟨_,rfl,.inl (OG.aK (Aa (id:=1000) (b:=b) (o:=0) ((bV rfl).trans rfl) ⟨β,di (d:=14) (i:=3) rfl (λt ht=>qJ ht) (lt_size 11 c9.size rfl (by decide)) (aZ (lt_size 11 c9.size rfl (by decide)) (by rfl))⟩))⟩
  .exact λβ L c9=>⟨_,rfl,.inl (OG.aK (Gf (id:=1000) (b:=b) (o:=0) (bI rfl (aQ (j:=3) c9 (by kernel_rfl))) ⟨β,di (d:=15) (i:=4) rfl (λt ht=>qJ ht) (lt_size 11 c9.size rfl (by decide)) (aZ (lt_size 11 c9.size rfl (by decide)) (by rfl))⟩))⟩
  .exact λβ L c9=>⟨_,rfl,.inl (OG.aK (aW (b:=b) (o:=0) (id:=1000) fd.BG (bI rfl (aQ (j:=4) c9 (by kernel_rfl))) rfl ⟨β,di (d:=16) (i:=5) rfl (λt ht=>qJ ht) (lt_size 11 c9.size rfl (by decide)) (aZ (lt_size 11 c9.size rfl (by decide)) (by rfl))⟩))⟩
  .exact λβ L c9=>⟨_,rfl,.inl (OG.aK (aG ce.fK (bI rfl (aQ (j:=5) c9 (by kernel_rfl))) ((fP (ak (show (1000:Nat)≠13 by decide) (ak (show (1000:Nat)≠19 by decide) rfl))):_=some (.box b T.vX [.bF 1001 B.b1 rs.length B.c1,.bF 1002 B.b2 rs.length B.c2,.bF 1003 B.b3 rs.length B.c3])) (v:=.bF 1001 B.b1 rs.length B.c1) rfl ⟨β,di (d:=17) (i:=6) rfl (λt ht=>qJ ht) (lt_size 11 c9.size rfl (by decide)) (aZ (lt_size 11 c9.size rfl (by decide)) (by rfl))⟩))⟩
  .exact λβ L c9=>⟨_,rfl,.inl (OG.aK (G5 (id:=1001) (b:=B.b1) (n:=rs.length) (c:=B.c1) sl.fK rfl (bI rfl (aQ (j:=6) c9 (by kernel_rfl))) ⟨β,di (d:=18) (i:=7) rfl (λt ht=>qJ ht) (lt_size 11 c9.size rfl (by decide)) (aZ (lt_size 11 c9.size rfl (by decide)) (by rfl))⟩))⟩
  .exact λβ L c9=>⟨_,rfl,.inl (OG.aK (QM dQ 0 sl.bQ z.Rat Be (n:=rs.length) (cp:=rs.length) (k:=.i64) (k2:=.i64) (bI rfl (aQ (j:=7) c9 (by kernel_rfl))) (bI rfl (aQ (j:=7) c9 (by kernel_rfl))) (Nat.le_refl _) (by omega) (by omega) (fP (ak (show (19:Nat)≠13 by decide) (nX (by exact c9.no) rfl))) λb8=>⟨upd β 19 (b8,0),CP (d:=19) (i:=8) (x:=(b8,0)) rfl (λt ht=>qJ ht) (lt_size 11 c9.size rfl (by decide)) rfl (lH (lt_size 11 c9.size rfl (by decide)) (show (2:Nat)≠8 by decide) (.inl (show (13:Nat)≠19 by decide)) (by exact λ_=>rfl) (o6 (lt_size 11 c9.size rfl (by decide)) rfl rfl rfl c9.no (by rfl) (λy hy=>absurd hy List.not_mem_nil))) (λt j ho hl=>by unfold UN at ho;split at ho <;> cases ho <;> first|rfl|(rw[c9.no] at hl;cases hl)|exact rV c9 (by kernel_rfl) hl)⟩))⟩
  .exact λβ L c9=>⟨_,rfl,.inl (OG.aK (tJ (id:=13) (b:=(β 13).1) (n:=v.length) (c:=v.length) (bI rfl (aQ (j:=2) c9 (by kernel_rfl))) ⟨β,di (d:=4) (i:=9) rfl (λt ht=>qJ ht) (lt_size 11 c9.size rfl (by decide)) (aZ (lt_size 11 c9.size rfl (by decide)) (by rfl))⟩))⟩
 refine λβ L c9 hA=>⟨_,rfl,.inl (OG.aK (tJ (id:=19) (b:=(β 19).1) (n:=rs.length) (c:=rs.length) (bI rfl (aQ (j:=8) c9 (by kernel_rfl))) ?_))⟩
 refine OL.nil ?_;refine AW.to [(0,.ptr 1000 b 0),(1,.d (iQ v)),(4,.bF 13 (β 13).1 v.length v.length),(5,.bF 19 (β 19).1 rs.length rs.length)] [(1000,.box b T.vX [.bF 1001 B.b1 rs.length B.c1,.bF 1002 B.b2 rs.length B.c2,.bF 1003 B.b3 rs.length B.c3]),(1001,vsV B rs),(1002,vsC B rs),(1003,rowP B rs),(13,.row (β 13).1 v.length T.Rat 3 ((List.replicate v.length 0).map dQ)),(19,.row (β 19).1 rs.length T.Rat 3 ((List.replicate rs.length 0).map dQ))] (.cons (au (gV (by decide) ((bV rfl).trans rfl))) (.cons (au (gV (by decide) ((bV rfl).trans rfl))) (.cons (au (gV (by decide) (bI rfl (aQ (j:=9) c9 (by kernel_rfl))))) (.cons (au LX) (.nil))))) (.cons (put_mem (fP (ak (show (1000:Nat)≠13 by decide) (ak (show (1000:Nat)≠19 by decide) rfl)))) (.cons (put_mem (fP (ak (show (1001:Nat)≠13 by decide) (ak (show (1001:Nat)≠19 by decide) rfl)))) (.cons (put_mem (fP (ak (show (1002:Nat)≠13 by decide) (ak (show (1002:Nat)≠19 by decide) rfl)))) (.cons (put_mem (fP (ak (show (1003:Nat)≠13 by decide) (ak (show (1003:Nat)≠19 by decide) rfl)))) (.cons (put_mem (fP (uo (aQ (j:=2) c9 (by kernel_rfl)) rfl rfl))) (.cons (put_mem (fP (ak (show (19:Nat)≠13 by decide) (uo (aQ (j:=8) c9 (by kernel_rfl)) rfl rfl)))) (.nil))))))) ?_
 generalize (β 13).1=b13;generalize (β 19).1=b19;refine AW.seq (AW.sg hE rfl (ai rfl (fJ sl.bQ rfl rfl (ai rfl (OL.nil (AW.block ?_))))));refine AW.aV (α:=Nat) [(0,_),(4,_),(5,_),(20,_),(21,_)] [(1000,_),(1001,_),(1002,_),(1003,_)] (λi=>[(22,.d (dI i))]) (λi=>[(13,.row b13 v.length T.Rat 3 ((kZ 0 (λj=>v.getD j 0) v.length i).map dQ)),(19,.row b19 rs.length T.Rat 3 ((List.replicate rs.length 0).map dQ))]) (λi=>i<=v.length) (λi=>v.length-i) 0 (.cons (gB rfl) (.cons (yj rfl) (.cons (yj rfl) (.cons (bK rfl) (.cons (bK rfl) .nil))))) (.cons (iR rfl) (.cons (lg rfl) (.cons (lg rfl) (.cons (lg rfl) .nil)))) ⟨Nat.zero_le _,.bZ,.cons (by rw[rF];rfl) (.cons rfl .nil)⟩ ?_
 intro i h1;have h1:i<=v.length:=h1;have hfl:=sF 0 (λj=>v.getD j 0) v.length i;refine AW.sg hE rfl (aY rfl rfl rfl (OL.nil (AW.seq (AW.cond rfl (λh23=>?_) (λh23=>?_)))))
 .try simp only[dX] at h23
  refine AW.skip (AW.seq (AW.block (AW.seq ?_)));have zx:=zv i;refine AW.rg hE rfl (ai rfl (fO sl.bQ 0 rfl rfl (by omega) rfl rfl (jH ag.Rat rfl (vs:=[_,_,_]) rfl (aB rfl) (al z.Rat rfl λb7=>(aF rfl (eH sz.Rat rfl rfl rfl rfl rfl (aB rfl) (cells2:=[_,_,_]) rfl (OL.nil ?_)))))))
  refine AW.sg hE rfl (aO ag.Rat rfl rfl (vs:=[_,_,_]) rfl (aB rfl) (bJ rfl vL (yu (x:=v.getD i 0) (by omega)) (OL.nil (AW.cond rfl (λ_=>?_) (λhno=>absurd hno ((by decide)))))))
  refine AW.rg hE rfl (jq rfl (ai rfl (aO ag.Rat rfl rfl (vs:=[_,_,_]) rfl (aB rfl) (iM sl.bQ rfl rfl (by omega) (GI sz.Rat rfl (d:=dQ (v.getD i 0)) xP rfl rfl (by rw[dJ];omega) (es2:=(kZ 0 (λj=>v.getD j 0) v.length (i+1)).map dQ) (by rw[<- pq (show i<v.length by omega),List.map_set]) (OL.nil (AW.rg hE rfl ?_)))))))
  refine aI rfl rfl (by omega) (ai rfl (OL.nil ?_))
  exact AW.again (x:=i) (i+1) (by omega) ⟨by omega,Knows.app .DR .bZ,dw.app (.cons rfl (.cons rfl (.cons rfl (.cons rfl .nil)))) (.cons rfl (.cons rfl .nil))⟩
 .try simp only[dX] at h23
  refine AW.exit (AW.seq (AW.seq ?_));obtain rfl:i=v.length:=by omega
  rw[En rfl];refine AW.rg hE rfl (Aa rfl (Gf rfl (aW fd.BG rfl rfl (aG ce.fK rfl rfl rfl (G5 sl.fK rfl rfl (ai rfl (OL.nil ?_)))))));refine AW.block ?_;refine AW.aV (α:=Nat) [(0,_),(4,_),(5,_),(37,_),(38,_)] [(1000,_),(1001,_),(1002,_),(1003,_)] (λk=>[(39,.d (dI k))]) (λk=>[(13,.row b13 v.length T.Rat 3 ((bg (rs.take k) v).map dQ)),(19,.row b19 rs.length T.Rat 3 ((ou (rs.take k) v (List.replicate rs.length 0)).map dQ))]) (λk=>k<=rs.length) (λk=>rs.length-k) 0 (.cons (gB rfl) (.cons (yj rfl) (.cons (yj rfl) (.cons (yj rfl) (.cons (bK rfl) .nil))))) (.cons (iR rfl) (.cons (lg rfl) (.cons (lg rfl) (.cons (lg rfl) .nil)))) ⟨Nat.zero_le _,.bZ,.cons rfl (.cons rfl .nil)⟩ ?_;intro k h2;have h2:k<=rs.length:=h2;have hwl:(bg (rs.take k) v).length=v.length:=pz _ _;have htl:(ou (rs.take k) v (List.replicate rs.length 0)).length=rs.length:=by rw[H6,List.length_replicate]
  refine AW.sg hE rfl (aY rfl rfl rfl (OL.nil (AW.seq (AW.cond rfl (λZj=>?_) (λZj=>?_)))))
  .try simp only[dX] at Zj
   refine AW.skip (AW.seq (AW.block (AW.seq ?_)));have hkr:k<rs.length:=by omega
   obtain⟨zw,zt,zr,zc⟩:=hz.bounds (w:=v) (n:=rs.length) (by omega) hkr zv
   obtain⟨hp1,hp2⟩:=aR8 _ (BR hkr);have hrl:=hlen _ (BR hkr);have hck:=hcl k _ (Je hkr);have zq1:=zw (rs.getD k default).p;have zu:=am6 zr;have zuc:=an2 zr zc;have hul:=FB (r:=(rs.getD k default));have bA7:=Jo (r:=(rs.getD k default));have hr1:minL (bg (rs.take k) v) (oJ (rs.getD k default)) ((bg (rs.take k) v).getD (rs.getD k default).p 0)=bg (rs.take (k+1)) v:=by rw[Fv hkr,aE7 hp2 (by omega)]
   have hr2:minL (ou (rs.take k) v (List.replicate rs.length 0)) (mg (rs.getD k default)) (-((bg (rs.take k) v).getD (rs.getD k default).p 0))=ou (rs.take (k+1)) v (List.replicate rs.length 0):=by rw[Fz hkr,aE8 hp2]
   refine AW.rg hE rfl (ai rfl (iM sl.fK rfl rfl (by omega) (J6 ce.bQ default (by decide) rfl rfl hkr rfl (aF rfl (aF rfl (OL.nil (AW.sg hE rfl ?_)))))))
   refine jq rfl (Aa rfl (Gf rfl (aW fd.Md rfl rfl (aG ce.ints rfl rfl rfl (ai rfl (iM sl.ints rfl rfl (by omega) (J6 ce.int default (by decide) rfl rfl hkr rfl ?_)))))))
   refine iM sl.bQ rfl rfl (by omega) (FT ag.Rat 0 (by decide) rfl rfl (by omega) (vs:=[_,_,_]) rfl (aB rfl) (al z.Rat rfl λb10=>(eH sz.Rat rfl rfl rfl rfl rfl (aB rfl) (cells2:=[_,_,_]) rfl (OL.nil (AW.seq (AW.sg hE rfl (aO ag.Rat rfl rfl (vs:=[_,_,_]) rfl (aB rfl) ?_)))))))
   refine bJ rfl vL (gY (x:=(bg (rs.take k) v).getD (rs.getD k default).p 0) (by omega)) (dR rfl rfl rfl (OL.nil (AW.cond rfl (λh0=>?_) (λh0=>?_))))
   .have h0:jZ (bg (rs.take k) v) (rs.getD k default)=0:=by rw[al8,lS.1 (lq h0),Rat.div_def,Rat.zero_mul]
    refine AW.exit (AW.rg hE rfl (aI rfl rfl (by omega) (ai rfl (OL.nil ?_))))
    exact AW.again (x:=k) (k+1) (by omega) ⟨by omega,Knows.app .DR .bZ,dw.app (.cons rfl (.cons rfl (.cons rfl (.cons rfl .nil)))) (.cons (by rw[Fv (by omega),Hz h0];rfl) (.cons (by rw[Fz (by omega),h0,P5];rfl) .nil))⟩
   .have _h0:=h0;refine AW.skip (AW.seq ?_);have hmr:=an7 (a:=(bg (rs.take k) v)) (b:=oJ (rs.getD k default)) (c:=(bg (rs.take k) v).getD (rs.getD k default).p 0) (p:=b13) (q:=v.length) (by omega) (by omega) zw zu (by omega)
    rw[hwl,hr1] at hmr;have hmt:=an7 (a:=(ou (rs.take k) v (List.replicate rs.length 0))) (b:=mg (rs.getD k default)) (c:=-((bg (rs.take k) v).getD (rs.getD k default).p 0)) (p:=b19) (q:=rs.length) (by omega) (by omega) zt zuc (by rw[IX];omega)
    rw[htl,hr2] at hmt;refine AW.rg hE rfl (jq rfl (ai rfl (aO ag.Rat rfl rfl (vs:=[_,_,_]) rfl (aB rfl) ?_)));refine OL.tH (v:=.jS []) (.mk (args':=[.bF 1000 b13 v.length v.length,.d (iQ (oJ (rs.getD k default))),vQ ((bg (rs.take k) v).getD (rs.getD k default).p 0)]) rfl (.cons KE .iq) (dh (id:=13) (blk:=.row b13 v.length T.Rat 3 ((bg (rs.take k) v).map dQ)) rfl) iT (eX.FM hmr (.cons KE .iq))) ?_;refine OL.nil (AW.rU (bd5 v b B rs k b10 b19) an6 (bd6 v b B rs k b10 b19) 10 ay (by rw[hE];rfl) (by rfl) (by kernel_rfl) (by kernel_rfl) ?_ ?_)
    .refine bd7 ?_ ?_ ?_ ?_ ?_ ?_ ?_ ?_ ?_ ?_
     .exact λβ L c9=>⟨_,rfl,.inl (OG.aK (jq (id:=19) (b:=b19) (n:=rs.length) (c:=rs.length) ((bV rfl).trans rfl) ⟨β,di (d:=61) (i:=0) rfl (λt ht=>qK ht) (lt_size 11 c9.size rfl (by decide)) (aZ (lt_size 11 c9.size rfl (by decide)) (by rfl))⟩))⟩
     .exact λβ L c9=>⟨_,rfl,.inl (OG.aK (Aa (id:=1000) (b:=b) (o:=0) ((bV rfl).trans rfl) ⟨β,di (d:=62) (i:=1) rfl (λt ht=>qK ht) (lt_size 11 c9.size rfl (by decide)) (aZ (lt_size 11 c9.size rfl (by decide)) (by rfl))⟩))⟩
     .exact λβ L c9=>⟨_,rfl,.inl (OG.aK (Gf (id:=1000) (b:=b) (o:=0) (bI rfl (aQ (j:=1) c9 (by kernel_rfl))) ⟨β,di (d:=63) (i:=2) rfl (λt ht=>qK ht) (lt_size 11 c9.size rfl (by decide)) (aZ (lt_size 11 c9.size rfl (by decide)) (by rfl))⟩))⟩
     .exact λβ L c9=>⟨_,rfl,.inl (OG.aK (aW (b:=b) (o:=0) (id:=1000) fd.L9 (bI rfl (aQ (j:=2) c9 (by kernel_rfl))) rfl ⟨β,di (d:=64) (i:=3) rfl (λt ht=>qK ht) (lt_size 11 c9.size rfl (by decide)) (aZ (lt_size 11 c9.size rfl (by decide)) (by rfl))⟩))⟩
     .exact λβ L c9=>⟨_,rfl,.inl (OG.aK (aG ce.fK (bI rfl (aQ (j:=3) c9 (by kernel_rfl))) ((fP rfl):_=some (.box b T.vX [.bF 1001 B.b1 rs.length B.c1,.bF 1002 B.b2 rs.length B.c2,.bF 1003 B.b3 rs.length B.c3])) (v:=.bF 1002 B.b2 rs.length B.c2) rfl ⟨β,di (d:=65) (i:=4) rfl (λt ht=>qK ht) (lt_size 11 c9.size rfl (by decide)) (aZ (lt_size 11 c9.size rfl (by decide)) (by rfl))⟩))⟩
     .exact λβ L c9=>⟨_,rfl,.inl (OG.aK (ai (y:=dI k) ((bV rfl).trans rfl) ⟨β,di (d:=66) (i:=5) rfl (λt ht=>qK ht) (lt_size 11 c9.size rfl (by decide)) (aZ (lt_size 11 c9.size rfl (by decide)) (by rfl))⟩))⟩
     .exact λβ L c9=>⟨_,rfl,.inl (OG.aK (iM sl.fK (id:=1002) (b:=B.b2) (l:=rs.length) (c:=B.c2) (i:=k) (bI rfl (aQ (j:=4) c9 (by kernel_rfl))) (bI rfl (aQ (j:=5) c9 (by kernel_rfl))) hkr ⟨β,di (d:=67) (i:=6) rfl (λt ht=>qK ht) (lt_size 11 c9.size rfl (by decide)) (aZ (lt_size 11 c9.size rfl (by decide)) (by rfl))⟩))⟩
     .exact λβ L c9=>⟨_,rfl,.inl (OG.aK (J6 ce.bQ default (by decide) (bI rfl (aQ (j:=6) c9 (by kernel_rfl))) ((fP rfl):_=some (vsC B rs)) hkr (d:=iQ (mg (rs.getD k default))) rfl ⟨β,di (d:=68) (i:=7) rfl (λt ht=>qK ht) (lt_size 11 c9.size rfl (by decide)) (aZ (lt_size 11 c9.size rfl (by decide)) (by rfl))⟩))⟩
     .exact λβ L c9=>⟨_,rfl,.inl (OG.aK (aO ag.Rat ((bV rfl).trans rfl) ((fP rfl):_=some (.box b10 T.Rat (LP ((bg (rs.take k) v).getD (rs.getD k default).p 0)))) (vs:=[_,_,_]) rfl (aB rfl) ⟨β,di (d:=69) (i:=8) rfl (λt ht=>qK ht) (lt_size 11 c9.size rfl (by decide)) (aZ (lt_size 11 c9.size rfl (by decide)) (by rfl))⟩))⟩
     .exact λβ L c9=>⟨_,rfl,.inl (OG.aK (bJ rfl (.cons (au (bI rfl (aQ (j:=8) c9 (by kernel_rfl)))) .nil) (xH (q:=(bg (rs.take k) v).getD (rs.getD k default).p 0) (by omega)) ⟨β,di (d:=70) (i:=9) rfl (λt ht=>qK ht) (lt_size 11 c9.size rfl (by decide)) (aZ (lt_size 11 c9.size rfl (by decide)) (by rfl))⟩))⟩
    refine λβ L c9 hA=>⟨_,rfl,.inl (OG.aK (OL.tH (v:=.jS []) (.mk (args':=[.bF 1000 b19 rs.length rs.length,.d (iQ (mg (rs.getD k default))),vQ (-((bg (rs.take k) v).getD (rs.getD k default).p 0))]) rfl (.cons (bG.trans (au (bI rfl (hA 0 (by decide)))) KE) (.cons (au (bI rfl (hA 7 (by decide)))) (.cons (au (bI rfl (hA 9 (by decide)))) .nil))) (dh (id:=19) (blk:=.row b19 rs.length T.Rat 3 ((ou (rs.take k) v (List.replicate rs.length 0)).map dQ)) (fP rfl)) iT (eX.FM hmt (.cons KE .iq))) ?_))⟩
    refine OL.nil ?_;refine AW.to [(0,.ptr 1000 b 0),(4,.bF 13 b13 v.length v.length),(5,.bF 19 b19 rs.length rs.length),(37,.bF 1001 B.b1 rs.length B.c1),(38,.d (dI rs.length)),(39,.d (dI k))] [(1000,.box b T.vX [.bF 1001 B.b1 rs.length B.c1,.bF 1002 B.b2 rs.length B.c2,.bF 1003 B.b3 rs.length B.c3]),(1001,vsV B rs),(1002,vsC B rs),(1003,rowP B rs),(13,.row b13 v.length T.Rat 3 ((bg (rs.take (k+1)) v).map dQ)),(19,.row b19 rs.length T.Rat 3 ((ou (rs.take (k+1)) v (List.replicate rs.length 0)).map dQ))] (.cons (au (gV (by decide) (jC ((bV rfl).trans rfl)))) (.cons (au (gV (by decide) (jC ((bV rfl).trans rfl)))) (.cons (au (gV (by decide) (jC ((bV rfl).trans rfl)))) (.cons (au (gV (by decide) (jC ((bV rfl).trans rfl)))) (.cons (au (gV (by decide) (jC ((bV rfl).trans rfl)))) (.cons (au (gV (by decide) (jC ((bV rfl).trans rfl)))) (.nil))))))) (.cons rfl (.cons rfl (.cons rfl (.cons rfl (.cons rfl (.cons rfl .nil)))))) ?_
    refine AW.rg hE rfl (aI rfl rfl (by omega) (ai rfl (OL.nil ?_)))
    exact AW.again (x:=k) (k+1) (by omega) ⟨by omega,Knows.app .DR .bZ,dw.app (.cons rfl (.cons rfl (.cons rfl (.cons rfl .nil)))) (.cons rfl (.cons rfl .nil))⟩
  .try simp only[dX] at Zj
   refine AW.exit (AW.seq ?_);obtain rfl:k=rs.length:=by omega
   have htk:ou (rs.take rs.length) v (List.replicate rs.length 0)=bY rs v:=by rw[List.take_length];rfl
   rw[htk,List.take_length];rw[htk] at htl;rw[List.take_length] at hwl;refine AW.freeze 19 rfl (AW.to [(4,.bF 13 b13 v.length v.length),(5,.d (iQ (bY rs v)))] ((13,.row b13 v.length T.Rat 3 ((bg rs v).map dQ))::Vs b B rs) (.cons vR (.cons (dL (by rw[dJ];exact htl.symm) rfl) .nil)) (.cons rfl (.cons rfl (.cons rfl (.cons rfl (.cons rfl .nil))))) ?_)
   refine AW.rename 13 2000 rfl (AW.rg hE rfl (jq rfl (ai rfl (tJ rfl (aF rfl (OL.nil ?_))))));exact AW.ret ⟨b13,trivial,⟨_,.tmp rfl (.tmp rfl .nil),_,.cons (.le bG.bF) (.cons (.le vR) .nil),rfl⟩,λid blk hk=>mr (l:=bd0 b B rs b13 (bg rs v)) (.cons rfl (.cons rfl (.cons rfl (.cons rfl (.cons (by rw[hwl];rfl) trivial))))) id blk hk⟩
theorem bo6 {v:List Rat}{n b:Nat}{B:EH}{rs:List bW}(sp:uK n 16777215 rs)(r6:rs.length<=6)(hv:v.length=n)(nn:n<=65536)(zv:∀ i,sz (v.getD i 0)<=16777215):jw P F.lT [.ptr 1000 b 0,.d (iQ v)] (vsM b B rs) (λ_:EH=>.d (dB (bM rs v))) (λx=>vsM b x (wB rs v)) (λ_=>True):=by
 obtain⟨zl,zt⟩:=sp.sz.last (w:=v) r6 zv;have hvl:(bg rs v).length=v.length:=pz _ _;have htl:=uI rs v;refine jw.intro fn.lT (by rfl) (by rfl) (aB (by rfl)) λE hE=>(AW.sg hE rfl (aF rfl (OL.nil (AW.seq (AW.vC (by rw[hE];rfl) (SK.fM (Aa rfl (OL.nil ?_))))))))
 refine SK.fM (ai rfl (OL.nil ?_));refine SK.IY (SO.al9 (args':=[.ptr 1000 b 0,.d (iQ v)]) (show 20<E.n by rw[hE];exact Nat.le_of_ble_eq_true (by rfl)) rfl vL (Mc:=vsM b B rs) (λid blk hk=>mr (l:=Vs b B rs) (.cons rfl (.cons rfl (.cons rfl (.cons rfl trivial)))) id blk hk) (Yk (b:=b) (B:=B) sp r6 hv nn zv) ?_)
 rintro x -
 refine SK.fM (zW rfl (OL.nil ?_));refine SK.fM (ex rfl rfl (OL.nil ?_));refine SK.fM (ex rfl rfl (OL.nil ?_));refine SK.fM (tJ rfl (OL.nil ?_));refine SK.fM (aF rfl (OL.nil ?_));refine SK.nil (AW.seq (AW.seq ?_));refine AW.to [(0,.ptr 1000 b 0),(5,.bF 2000 x v.length v.length),(6,.d (iQ (bY rs v)))] ((2000,.row x v.length T.Rat 3 ((bg rs v).map dQ))::Vs b B rs) .Ah (.cons (by show some (iE.row x (bg rs v).length T.Rat 3 ((bg rs v).map dQ))=_;rw[hvl]) (.cons rfl (.cons rfl (.cons rfl (.cons rfl .nil))))) ?_
 refine AW.rg hE rfl (jq rfl (G5 sl.bQ rfl rfl (ai rfl (OL.nil (AW.block ?_)))));refine AW.aV (α:=Nat) [(0,_),(5,_),(6,_),(23,_),(24,_)] [] (λi=>[(25,.d (dI i))]) (λi=>[(1000,UM b B rs),(1001,vsV B rs),(1002,vsC B rs),(1003,rowP B rs),(2000,.row x v.length T.Rat 3 (((bg rs v)).map dQ))]) (λi=>i<=v.length/\∀ j,j<i->(bg rs v).getD j 0=0) (λi=>v.length-i) 0 (.cons (gB rfl) (.cons (yj rfl) (.cons (bK rfl) (.cons (yj rfl) (.cons (bK rfl) .nil))))) .nil ⟨⟨Nat.zero_le _,λj hj=>by omega⟩,.bZ,.cons rfl (.cons rfl (.cons rfl (.cons rfl (.cons rfl .nil))))⟩ ?_
 rintro i ⟨h1,hb⟩
 have h1:i<=v.length:=h1;have hb:∀ j,j<i->(bg rs v).getD j 0=0:=hb;refine AW.sg hE rfl (aY rfl rfl rfl (OL.nil (AW.seq (AW.cond rfl (λh26=>?_) (λh26=>?_)))))
 .try simp only[dX] at h26
  refine AW.skip (AW.seq (AW.block (AW.seq ?_)));have zx:=zl i;refine AW.rg hE rfl (ai rfl (iM sl.bQ rfl rfl (by omega) (FT ag.Rat 0 (by decide) rfl rfl (by omega) (vs:=[_,_,_]) rfl (aB rfl) (al z.Rat rfl λb8=>(aF rfl (eH sz.Rat rfl rfl rfl rfl rfl (aB rfl) (cells2:=[_,_,_]) rfl (OL.nil ?_)))))))
  refine AW.seq (AW.sg hE rfl (aO ag.Rat rfl rfl (vs:=[_,_,_]) rfl (aB rfl) (bJ rfl vL (gY (x:=((bg rs v).getD i 0)) (by omega)) (dR rfl rfl rfl (OL.nil (AW.cond rfl (λhx=>?_) (λhx=>?_)))))))
  .have hx:((bg rs v).getD i 0)=0:=lS.1 (lq hx);refine AW.exit (AW.rg hE rfl (aI rfl rfl (by omega) (ai rfl (OL.nil ?_))))
   exact AW.again (x:=i) (i+1) (by omega) ⟨⟨by omega,λj hj=>by rcases Nat.lt_or_ge j i with h|h;exact hb j h;obtain rfl:j=i:=(by omega);exact hx⟩,Knows.app .DR .bZ,.cons rfl (.cons rfl (.cons rfl (.cons rfl (.cons rfl .nil))))⟩
  .have hx:((bg rs v).getD i 0)≠0:=λe=>nS hx (lS.2 e);have hi:i<v.length:=by omega
   have hp:iP (bg rs v)=i:=Qd (by omega) hx hb
   have hg:bM rs v=true:=EJ.2 (by omega)
   have hadd:wB rs v=rs++[newR rs v]:=if_pos hg;have zi:sz (1 / ((bg rs v).getD i 0))<=68719476736:=Nat.le_trans (MI 1 ((bg rs v).getD i 0)) (by rw[LM];omega)
   have hnc:∀ k,k<rs.length->(mg (newR rs v)).getD k 0 = -((bY rs v).getD k 0)*(1 / ((bg rs v).getD i 0)):=λk hk=>by rw[aS2 hk,hp]
   have bo8:(mg (newR rs v)).getD rs.length 0=1 / ((bg rs v).getD i 0):=by rw[aE9,hp]
   have hnv:∀ j,(oJ (newR rs v)).getD j 0=(bg rs v).getD j 0*(1 / ((bg rs v).getD i 0)):=λj=>by rw[aS3,hp]
   have aR7:(mg (newR rs v)).length=rs.length+1:=by rw[Jo];exact KI rs v
   have bo9:(oJ (newR rs v)).length=v.length:=by rw[FB];exact hvl
   refine AW.skip (AW.sg hE rfl (bJ rfl .iq (zJ (n:=1) (d:=1) (by decide) (by decide) (by decide)) ?_))
   rw[q11];refine zW rfl (ex rfl rfl (ex rfl rfl (al z.Rat rfl λb9=>(eH sz.Rat rfl rfl rfl rfl rfl (aB rfl) (cells2:=[_,_,_]) rfl (aF rfl (OL.nil (AW.sg hE rfl ?_)))))));refine aO ag.Rat rfl rfl (vs:=[_,_,_]) rfl (aB rfl) (aO ag.Rat rfl rfl (vs:=[_,_,_]) rfl (aB rfl) (bJ rfl vL (F5 (x:=1) (y:=((bg rs v).getD i 0)) (by rw[LM];decide) (by omega) hx) (zW rfl (ex rfl rfl (ex rfl rfl (al z.Rat rfl λb11=>(eH sz.Rat rfl rfl rfl rfl rfl (aB rfl) (cells2:=[_,_,_]) rfl ?_)))))))
   refine aF rfl (OL.nil (AW.sg hE rfl (Aa rfl (Gf rfl (aW fd.BG rfl rfl (aG ce.fK rfl rfl rfl (G5 sl.fK rfl rfl ?_)))))));refine bo rfl rfl (jB (c:=((rs.length+1:Nat):Int)) (by omega) (wrap_i64 (by omega))) (QM dQ 0 sl.bQ z.Rat Be rfl rfl (Nat.le_refl _) (by omega) (by omega) rfl λb49=>(tJ rfl (OL.nil (AW.seq (AW.sg hE rfl (ai rfl (fJ sl.bQ rfl rfl ?_)))))))
   rw[htl];refine ai rfl (OL.nil (AW.block ?_));refine AW.aV (α:=Nat) [(0,_),(5,_),(6,_),(7,_),(11,_),(13,_),(23,_),(24,_),(25,_),(50,_),(51,_)] [(11,_),(1000,_),(1001,_),(1002,_),(1003,_),(2000,_)] (λk=>[(52,.d (dI k))]) (λk=>[(49,.row b49 (rs.length+1) T.Rat 3 ((kZ 0 (λj=>(mg (newR rs v)).getD j 0) (rs.length+1) k).map dQ))]) (λk=>k<=rs.length) (λk=>rs.length-k) 0 (.cons (gB rfl) (.cons (yj rfl) (.cons (bK rfl) (.cons (bK rfl) (.cons (gB rfl) (.cons (yj rfl) (.cons (yj rfl) (.cons (bK rfl) (.cons (bK rfl) (.cons (bK rfl) (.cons (bK rfl) .nil))))))))))) (.cons (iR rfl) (.cons (iR rfl) (.cons (lg rfl) (.cons (lg rfl) (.cons (lg rfl) (.cons (lg rfl) .nil)))))) ⟨Nat.zero_le _,.bZ,.cons (by rw[rF];rfl) .nil⟩ ?_
   intro k h2;have h2:k<=rs.length:=h2;have hfl:=sF 0 (λj=>(mg (newR rs v)).getD j 0) (rs.length+1) k;refine AW.sg hE rfl (aY rfl rfl rfl (OL.nil (AW.seq (AW.cond rfl (λh53=>?_) (λh53=>?_)))))
   .try simp only[dX] at h53
    refine AW.skip (AW.seq (AW.block (AW.seq ?_)));have hk:k<rs.length:=by omega
    have zy:=zt k;refine AW.rg hE rfl (ai rfl (fO sl.bQ 0 rfl rfl (by omega) rfl rfl (jH ag.Rat rfl (vs:=[_,_,_]) rfl (aB rfl) (al z.Rat rfl λb15=>(aF rfl (eH sz.Rat rfl rfl rfl rfl rfl (aB rfl) (cells2:=[_,_,_]) rfl (OL.nil ?_)))))))
    refine AW.dg 1 [0,1,2,3,4,5,6,7] ay hE rfl (by kernel_rfl) (OI.aK (os:=[_,_,_,_,_,_,_,_]) rfl ?_)
    refine jq rfl (ai rfl (aO ag.Rat rfl rfl (vs:=[_,_,_]) rfl (aB rfl) (bJ rfl vL (xH (q:=(bY rs v).getD k 0) (by omega)) (aO ag.Rat rfl rfl (vs:=[_,_,_]) rfl (aB rfl) (bJ rfl vL (kY (x:=-((bY rs v).getD k 0)) (y:=1 / ((bg rs v).getD i 0)) (by rw[IX];omega) (by omega)) ?_)))))
    rw[<- hnc k hk];refine iM sl.bQ rfl rfl (by omega) ?_
    refine GI sz.Rat rfl (d:=dQ ((λj=>(mg (newR rs v)).getD j 0) k)) xP rfl rfl (by rw[dJ];omega) (es2:=(kZ 0 (λj=>(mg (newR rs v)).getD j 0) (rs.length+1) (k+1)).map dQ) (by rw[<- pq (show k<rs.length+1 by omega),List.map_set]) ?_
    refine OL.nil (AW.rg hE rfl (aI rfl rfl (by omega) (ai rfl (OL.nil ?_))))
    exact AW.again (x:=k) (k+1) (by omega) ⟨by omega,Knows.app .aN6 .bZ,dw.app (.cons rfl (.cons rfl (.cons rfl (.cons rfl (.cons rfl (.cons rfl .nil)))))) (.cons rfl .nil)⟩
   .try simp only[dX] at h53
    refine AW.exit (AW.seq ?_);obtain rfl:k=rs.length:=by omega
    refine AW.dg 1 [0,1,2,3,4,5,6,7,8] ay hE rfl (by kernel_rfl) (OI.aK (os:=[_,_,_,_,_,_,_,_,_]) rfl ?_)
    refine jq rfl (Aa rfl (Gf rfl (aW fd.BG rfl rfl (aG ce.fK rfl rfl rfl (G5 sl.fK rfl rfl (aO ag.Rat rfl rfl (vs:=[_,_,_]) rfl (aB rfl) (iM sl.bQ rfl rfl (by omega) ?_)))))))
    refine GI sz.Rat rfl (d:=dQ ((λj=>(mg (newR rs v)).getD j 0) rs.length)) (by show VD (vQ (1 / ((bg rs v).getD i 0))) (dQ ((mg (newR rs v)).getD rs.length 0));rw[bo8];exact xP) rfl rfl (by rw[dJ];omega) (es2:=(mg (newR rs v)).map dQ) (by rw[<- List.map_set,pq (show rs.length<rs.length+1 by omega),En aR7]) ?_
    refine OL.nil (AW.seq (AW.sg hE rfl (jq rfl (G5 sl.bQ rfl rfl (ai rfl (OL.nil (AW.block ?_)))))));refine AW.aV (α:=Nat) [(0,_),(5,_),(6,_),(7,_),(11,_),(13,_),(23,_),(24,_),(25,_),(74,_)] [(11,_),(49,_),(1000,_),(1001,_),(1002,_),(1003,_)] (λj=>[(75,.d (dI j))]) (λj=>[(2000,.row x v.length T.Rat 3 ((uY (bg rs v) (λj=>(oJ (newR rs v)).getD j 0) j).map dQ))]) (λj=>j<=v.length) (λj=>v.length-j) 0 (.cons (gB rfl) (.cons (yj rfl) (.cons (bK rfl) (.cons (bK rfl) (.cons (gB rfl) (.cons (yj rfl) (.cons (yj rfl) (.cons (bK rfl) (.cons (bK rfl) (.cons (bK rfl) .nil)))))))))) (.cons (iR rfl) (.cons (lg rfl) (.cons (iR rfl) (.cons (lg rfl) (.cons (lg rfl) (.cons (lg rfl) .nil)))))) ⟨Nat.zero_le _,.bZ,.cons (by rw[Fq];rfl) .nil⟩ ?_
    intro j h3;have h3:j<=v.length:=h3;have hml:(uY (bg rs v) (λj=>(oJ (newR rs v)).getD j 0) j).length=v.length:=BQ.trans hvl;refine AW.sg hE rfl (aY rfl rfl rfl (OL.nil (AW.seq (AW.cond rfl (λh76=>?_) (λh76=>?_)))))
    .try simp only[dX] at h76
     refine AW.skip (AW.seq (AW.block (AW.sg hE rfl (ai rfl (aF rfl (OL.nil ?_))))));have hj:j<v.length:=by omega
     have zj:=zl j;refine AW.dg 1 [0,1,2,3,4,5,6,7,8,9] ay hE rfl (by kernel_rfl) (OI.aK (os:=[_,_,_,_,_,_,_,_,_,_]) rfl ?_)
     refine jq rfl (ai rfl (jq rfl (ai rfl (iM sl.bQ rfl rfl (by omega) (FT ag.Rat 0 (by decide) rfl rfl (by omega) (vs:=[_,_,_]) rfl (aB rfl) ?_)))))
     rw[ED (by omega)]
     refine aO ag.Rat rfl rfl (vs:=[_,_,_]) rfl (aB rfl) (bJ rfl vL (kY (x:=(bg rs v).getD j 0) (y:=1 / ((bg rs v).getD i 0)) (by omega) (by omega)) ?_)
     rw[<- hnv j];refine iM sl.bQ rfl rfl (by omega) ?_
     refine GI sz.Rat rfl (d:=dQ ((λj=>(oJ (newR rs v)).getD j 0) j)) xP rfl rfl (by rw[dJ];omega) (es2:=(uY (bg rs v) (λj=>(oJ (newR rs v)).getD j 0) (j+1)).map dQ) (by rw[<- EF (show j<(bg rs v).length by omega),List.map_set]) ?_
     refine OL.nil (AW.rg hE rfl (aI rfl rfl (by omega) (ai rfl (OL.nil ?_))))
     exact AW.again (x:=j) (j+1) (by omega) ⟨by omega,Knows.app .VJ .bZ,dw.app (.cons rfl (.cons rfl (.cons rfl (.cons rfl (.cons rfl (.cons rfl .nil)))))) (.cons rfl .nil)⟩
    .try simp only[dX] at h76
     refine AW.exit (AW.seq ?_);obtain rfl:j=v.length:=by omega
     have hmu:uY (bg rs v) (λj=>(oJ (newR rs v)).getD j 0) v.length=oJ (newR rs v):=by rw[<- hvl];exact an5
     rw[hmu];refine AW.freeze 49 rfl (AW.to [(0,.ptr 1000 b 0),(5,.bF 2000 x v.length v.length),(7,.d (dI i)),(13,.d (iQ (mg (newR rs v))))] ((2000,.row x v.length T.Rat 3 ((oJ (newR rs v)).map dQ))::Vs b B rs) (.cons bG.ptr (.cons vR (.cons vR (.cons (dL (by rw[dJ];exact aR7.symm) rfl) (.nil))))) (.cons rfl (.cons rfl (.cons rfl (.cons rfl (.cons rfl .nil))))) ?_)
     refine AW.freeze 2000 rfl (AW.to [(0,.ptr 1000 b 0),(5,.d (iQ (oJ (newR rs v)))),(7,.d (dI i)),(13,.d (iQ (mg (newR rs v))))] (Vs b B rs) (.cons bG.ptr (.cons (dL (by rw[dJ];exact bo9.symm) rfl) (.cons vR (.cons vR (.nil))))) (.cons rfl (.cons rfl (.cons rfl (.cons rfl .nil)))) ?_)
     refine AW.dg 2 [0,1,2,3,4,5,6,7,8,10,11,12,13,14,15,17,18,19,20,21,22,9,16,23,24,25,26,27,28,29,30,31,32] ay hE rfl (by kernel_rfl) (OI.aK (os:=[_,_,_,_,_,_,_,_,_,_,_,_,_,_,_,_,_,_,_,_,_,_,_,_,_,_,_,_,_,_,_,_,_]) rfl ?_)
     refine Aa rfl (Aa rfl (Aa rfl (Aa rfl (Gf rfl (aW fd.BG rfl rfl (aG ce.fK rfl rfl rfl (ai rfl ?_)))))));refine zX (y:=iQ (oJ (newR rs v))) sl.fK (VC.d _).vd rfl (by decide) (Aa rfl (Gf rfl (aW fd.L9 rfl rfl (aG ce.fK rfl rfl rfl (ai rfl (zX (y:=iQ (mg (newR rs v))) sl.fK (VC.d _).vd rfl (by decide) (Aa rfl ?_)))))))
     refine Gf rfl (aW fd.Md rfl rfl (aG ce.ints rfl rfl rfl (ai rfl (zX (y:=dI i) sl.ints (VC.d _).vd rfl (by decide) ?_))))
     refine Ce sl.fK rfl rfl rfl (by rw[dJ]) (VC.d _) (λy hy=>by rw[lW hy];rfl) (by simp;omega) (by simp;omega) (.inl rfl) (ys:=(rs++[(newR rs v)]).map λr=>iQ (oJ r)) (by rw[List.map_append];rfl) (n2:=rs.length+1) rfl λb97 c97=>?_
     refine Ce sl.fK rfl rfl rfl (by rw[dJ]) (VC.d _) (λy hy=>by rw[lW hy];rfl) (by simp;omega) (by simp;omega) (.inl rfl) (ys:=(rs++[(newR rs v)]).map λr=>iQ (mg r)) (by rw[List.map_append];rfl) (n2:=rs.length+1) rfl λZQ ZR=>?_
     refine Ce sl.ints rfl rfl rfl (by rw[dJ]) (VC.d _) (λy hy=>by rw[lW hy];rfl) (by simp;omega) (by simp;omega) (.inl rfl) (ys:=(rs++[(newR rs v)]).map λr=>dI r.p) (by rw[List.map_append];show _=_++[dI (iP (bg rs v))];rw[hp]) (n2:=rs.length+1) rfl λZT ZU=>?_
     refine Gf rfl (aW fd.BG rfl rfl (eH sz.fK rfl rfl rfl rfl rfl (aB rfl) rfl (Gf rfl (aW fd.L9 rfl rfl (eH sz.fK rfl rfl rfl rfl rfl (aB rfl) rfl (Gf rfl (aW fd.Md rfl rfl ?_)))))));refine eH sz.ints rfl rfl rfl rfl rfl (aB rfl) rfl (OL.nil (AW.seq ?_));have hln:(rs++[newR rs v]).length=rs.length+1:=by rw[jG];rfl
     refine AW.to [] [(1000,.box b T.vX [.bF 97 b97 (rs.length+1) c97,.bF 104 ZQ (rs.length+1) ZR,.bF 111 ZT (rs.length+1) ZU]),(97,.row b97 c97 T.bQ 1 ((rs++[newR rs v]).map λr=>iQ (oJ r))),(104,.row ZQ ZR T.bQ 1 ((rs++[newR rs v]).map λr=>iQ (mg r))),(111,.row ZT ZU T.int 1 ((rs++[newR rs v]).map λr=>dI r.p))] .nil (.cons rfl (.cons rfl (.cons rfl (.cons rfl .nil)))) ?_;refine AW.rename 97 1001 rfl (AW.rename 104 1002 rfl (AW.rename 111 1003 rfl (AW.xO 1000 [.bF 1001 b97 (rs.length+1) c97,.bF 1002 ZQ (rs.length+1) ZR,.bF 1003 ZT (rs.length+1) ZU] rfl (.cons bG.bF (.cons bG.bF (.cons bG.bF .nil))) ?_)));refine AW.rg hE rfl (aF rfl (OL.nil ?_));exact AW.ret ⟨⟨b97,c97,ZQ,ZR,ZT,ZU⟩,trivial,⟨_,.tmp rfl .nil,.le (by rw[hg];exact bG.refl _)⟩,by rw[hadd];exact λid blk hk=>mr (l:=Vs b ⟨b97,c97,ZQ,ZR,ZT,ZU⟩ (rs++[newR rs v])) (.cons (by show _=some (iE.box b T.vX [.bF 1001 b97 (rs++[newR rs v]).length c97,.bF 1002 ZQ (rs++[newR rs v]).length ZR,.bF 1003 ZT (rs++[newR rs v]).length ZU]);rw[hln];rfl) (.cons rfl (.cons rfl (.cons rfl trivial)))) id blk hk⟩
 .try simp only[dX] at h26
  refine AW.exit (AW.seq ?_);have hg:bM rs v=false:=Io.1 (λj hj=>hb j (by omega))
  have hadd:wB rs v=rs:=if_neg (by rw[hg];exact Bool.false_ne_true)
  exact AW.rg hE rfl (aF rfl (OL.nil (AW.ret ⟨B,trivial,⟨_,.tmp rfl .nil,.le (by rw[hg];exact bG.refl _)⟩,by rw[hadd];exact λid blk hk=>mr (l:=Vs b B rs) (.cons rfl (.cons rfl (.cons rfl (.cons rfl trivial)))) id blk hk⟩)))
theorem aS4 {v:List Rat}{n b:Nat}{B:EH}{rs:List bW}(sp:uK n 16777215 rs)(r6:rs.length<=6)(hv:v.length=n)(nn:n<=65536)(zv:∀ i,sz (v.getD i 0)<=16777215):eX P F.iG [.ptr 1000 b 0,.d (iQ v)] (vsM b B rs) (.jS [.d (iQ (if bM rs v=true then [] else bY rs v)),.d (dB (!bM rs v))]) (vsM b B rs):=by
 obtain⟨zl,zt⟩:=sp.sz.last (w:=v) r6 zv;have hvl:(bg rs v).length=v.length:=pz _ _;have htl:=uI rs v;refine eX.intro fn.iG (by rfl) (by rfl) (aB (by rfl)) λE hE=>(AW.sg hE rfl (oK rfl (aF rfl (OL.nil (AW.seq (AW.vC (by rw[hE];rfl) (SK.fM (Aa rfl (OL.nil ?_)))))))))
 refine SK.fM (ai rfl (OL.nil ?_));refine SK.IY (SO.al9 (args':=[.ptr 1000 b 0,.d (iQ v)]) (show 13<E.n by rw[hE];exact Nat.le_of_ble_eq_true (by rfl)) rfl vL (Mc:=vsM b B rs) (λid blk hk=>mr (l:=Vs b B rs) (.cons rfl (.cons rfl (.cons rfl (.cons rfl trivial)))) id blk hk) (Yk (b:=b) (B:=B) sp r6 hv nn zv) ?_)
 rintro x -
 refine SK.fM (zW rfl (OL.nil ?_));refine SK.fM (ex rfl rfl (OL.nil ?_));refine SK.fM (ex rfl rfl (OL.nil ?_));refine SK.fM (tJ rfl (OL.nil ?_));refine SK.fM (aF rfl (OL.nil ?_));refine SK.nil (AW.seq (AW.seq ?_));refine AW.to [(0,.ptr 1000 b 0),(6,.bF 2000 x v.length v.length),(7,.d (iQ (bY rs v)))] ((2000,.row x v.length T.Rat 3 ((bg rs v).map dQ))::Vs b B rs) .Ah (.cons (by show some (iE.row x (bg rs v).length T.Rat 3 ((bg rs v).map dQ))=_;rw[hvl]) (.cons rfl (.cons rfl (.cons rfl (.cons rfl .nil))))) ?_
 refine AW.rg hE rfl (jq rfl (G5 sl.bQ rfl rfl (ai rfl (OL.nil (AW.block ?_)))));refine AW.aV (α:=Nat) [(7,_),(16,_),(17,_)] [] (λi=>[(18,.d (dI i))]) (λi=>[(1000,UM b B rs),(1001,vsV B rs),(1002,vsC B rs),(1003,rowP B rs),(2000,.row x v.length T.Rat 3 (((bg rs v)).map dQ))]) (λi=>i<=v.length/\∀ j,j<i->(bg rs v).getD j 0=0) (λi=>v.length-i) 0 (.cons (bK rfl) (.cons (yj rfl) (.cons (bK rfl) .nil))) .nil ⟨⟨Nat.zero_le _,λj hj=>by omega⟩,.bZ,.cons rfl (.cons rfl (.cons rfl (.cons rfl (.cons rfl .nil))))⟩ ?_
 rintro i ⟨h1,hb⟩
 have h1:i<=v.length:=h1;have hb:∀ j,j<i->(bg rs v).getD j 0=0:=hb;refine AW.sg hE rfl (aY rfl rfl rfl (OL.nil (AW.seq (AW.cond rfl (λh19=>?_) (λh19=>?_)))))
 .try simp only[dX] at h19
  refine AW.skip (AW.seq (AW.block (AW.seq ?_)));have zx:=zl i;refine AW.rg hE rfl (iM sl.bQ rfl rfl (by omega) (FT ag.Rat 0 (by decide) rfl rfl (by omega) (vs:=[_,_,_]) rfl (aB rfl) (al z.Rat rfl λb9=>(eH sz.Rat rfl rfl rfl rfl rfl (aB rfl) (cells2:=[_,_,_]) rfl (OL.nil (AW.sg hE rfl (aO ag.Rat rfl rfl (vs:=[_,_,_]) rfl (aB rfl) ?_)))))))
  refine bJ rfl vL (gY (x:=((bg rs v).getD i 0)) (by omega)) (eG rfl rfl rfl (OL.nil (AW.cond rfl (λhx=>?_) (λhx=>?_))))
  .have hx:((bg rs v).getD i 0)≠0:=λe=>D7 hx (lS.2 e);have hi:i<v.length:=by omega
   have hp:iP (bg rs v)=i:=Qd (by omega) hx hb
   have hg:bM rs v=true:=EJ.2 (by omega)
   exact AW.sg hE rfl (oK rfl (aF rfl (OL.nil (AW.ret ⟨⟨_,.tmp rfl (.tmp rfl .nil),_,.cons (.le (by rw[if_pos hg];exact bG.mt)) (.cons (.le (bG.bool (by rw[hg];rfl))) .nil),rfl⟩,λid blk hk=>mr (l:=Vs b B rs) (.cons rfl (.cons rfl (.cons rfl (.cons rfl trivial)))) id blk hk⟩))))
  .have hx:((bg rs v).getD i 0)=0:=lS.1 (Bc hx);refine AW.skip (AW.rg hE rfl (aI rfl rfl (by omega) (ai rfl (OL.nil ?_))))
   exact AW.again (x:=i) (i+1) (by omega) ⟨⟨by omega,λj hj=>by rcases Nat.lt_or_ge j i with h|h;exact hb j h;obtain rfl:j=i:=(by omega);exact hx⟩,Knows.app .Ah .bZ,.cons rfl (.cons rfl (.cons rfl (.cons rfl (.cons rfl .nil))))⟩
 .try simp only[dX] at h19
  refine AW.exit (AW.seq ?_);have hg:bM rs v=false:=Io.1 (λj hj=>hb j (by omega))
  refine AW.rg hE rfl (ai rfl (aF rfl (aF rfl (OL.nil ?_))));exact AW.ret ⟨⟨_,.tmp rfl (.tmp rfl .nil),_,.cons (.le (by rw[if_neg (by rw[hg];exact Bool.false_ne_true)];exact bG.refl _)) (.cons (.le (bG.bool (by rw[hg];rfl))) .nil),rfl⟩,λid blk hk=>mr (l:=Vs b B rs) (.cons rfl (.cons rfl (.cons rfl (.cons rfl trivial)))) id blk hk⟩
