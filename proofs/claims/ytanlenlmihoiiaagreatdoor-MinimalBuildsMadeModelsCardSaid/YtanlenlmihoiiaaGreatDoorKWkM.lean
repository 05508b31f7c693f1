/-
  Walks of package rows, part 2: the machine of the turned words (printed by mk2.py).
-/
import Derived.Test.YtanlenlmihoiiaaGreatDoorKWkL
set_option linter.unusedVariables false
set_option linter.unusedSimpArgs false
namespace Go.Proofs.YtanlenlmihoiiaaGreatDoor
open Go Go.AL
theorem WZ {x y:V}{d:D}(h:x=y)(hd:VD y d):VD x d:=h ▸ hd
theorem W9 {x y:V}{d:D}(h:x=y)(hd:VC y d):VC x d:=h ▸ hd
abbrev am2:D:=.sc (.slice none 0 0)
theorem raw.bg:(P.info? T.bg).bind (λi=>i.zero.map λz=>z.cells.toList)=some [.slice none 0 0]:=by kernel_rfl
def hdA (i b c:Nat):D:=if i=0 then am2 else Ho b i c
theorem aC2 (b c:Nat):hdA 0 b c=am2:=rfl
theorem UY {i b c:Nat}(h:0<i):hdA i b c=Ho b i c:=if_neg (by omega)
theorem am3 (i b c:Nat):(hdA i b c).cells=[hdA i b c]:=by unfold hdA;split <;> rfl
theorem aS4 (id:Nat){i b c:Nat}(h0:i=0->c=0)(h1:i<=c):bW (.d (hdA i b c)) (.bI id b i c):=by
 by_cases h:i=0
 .subst h;rw[h0 rfl];intro F v hs;rw[iJ hs];exact .bI (λe=>absurd e (Nat.lt_irrefl 0)) (Nat.le_refl 0)
 .rw[UY (by omega)];exact Dt id h1
theorem aC3 {α:Type}{l:List α}{i:Nat}{x:α}(h:l[i]? = some x):l.set i x=l:=by
 refine List.ext_getElem? λk=>?_;rw[List.getElem?_set]
 split
 .rename_i e;subst e;rw[h]
  split
  .rfl
  .rename_i e;rw[List.getElem?_eq_none (by omega)] at h;cases h
 .rfl
theorem aC4 {l:List Rat}{n:Nat}(h:l.length=n):((l.take n).map dQ).take n=l.map dQ:=by
 rw[List.take_of_length_le (l:=l) (by omega),List.take_of_length_le (by rw[dA];omega)]
def rE (m:bV)(s i:Nat):List Rat:=((aA m).jb.getD s []).getD i []
theorem Xa {m:bV}{s i:Nat}(hs:s<m.k)(hi:i<m.n):rE m s i=(List.range m.n).map λj=>((m.jb.getD s []).getD j []).getD i 0:=by
 unfold rE;rw[PW hs];unfold Ig;rw[aT _ _ hi]
theorem SS {m:bV}{s i:Nat}(hs:s<m.k)(hi:i<m.n):(rE m s i).length=m.n:=by rw[Xa hs hi];simp
theorem am4 {m:bV}{s i j:Nat}(hs:s<m.k)(hi:i<m.n)(hj:j<m.n):(rE m s i).getD j 0=((m.jb.getD s []).getD j []).getD i 0:=by
 rw[Xa hs hi,aT _ _ hj]
def rowT (m:bV)(s i:Nat):List D:=nT am2 (λi=>dJ (rE m s i)) m.n i
theorem JO (m:bV)(s i:Nat):(rowT m s i).length=m.n:=vM ..
theorem aS5 {m:bV}{s i:Nat}(hi:i<m.n):(rowT m s i)[i]? = some am2:=by
 unfold rowT nT;rw[List.getElem?_map,List.getElem?_range hi,Option.map_some,if_neg (Nat.lt_irrefl i)]
theorem aC5 {m:bV}{s i:Nat}(hi:i<m.n):(rowT m s i).set i (dJ (rE m s i))=rowT m s (i+1):=qU (g:=λi=>dJ (rE m s i)) hi
theorem P8 {α:Type}{l:List α}{n:Nat}(d:α)(h:l.length=n):((List.range n).map λi=>l.getD i d)=l:=by
 subst h;refine List.ext_getElem (by simp) λj h1 h2=>?_
 simp only[List.getElem_map,List.getElem_range];rw[jh,lQ h2];rfl
theorem aC6 {m:bV}{s:Nat}(hs:s<m.k):rowT m s m.n=((aA m).jb.getD s []).map dJ:=by
 have hl:((aA m).jb.getD s []).length=m.n:=(DZ m).rows s (by rw[kX];exact hs)
 unfold rowT;rw[DN]
 conv=>rhs;rw[<- P8 [] hl,List.map_map]
 rfl
def HY (m:bV)(s:Nat):List D:=nT (qg []) (λs=>qg ((aA m).jb.getD s [])) m.k s
theorem Xb (m:bV)(s:Nat):(HY m s).length=m.k:=vM ..
theorem aC7 {m:bV}{s:Nat}(hs:s<m.k):(HY m s).set s (qg ((aA m).jb.getD s []))=HY m (s+1):=qU (g:=λs=>qg ((aA m).jb.getD s [])) hs
theorem aC8 (m:bV):HY m m.k=(aA m).jb.map qg:=by
 have hl:(aA m).jb.length=m.k:=kX;unfold HY;rw[DN]
 conv=>rhs;rw[<- P8 [] hl,List.map_map]
 rfl
theorem ae0:VCs [.mt] (qg []).cells:=.cons VC.mt .nil
theorem am5 {f:Nat->Option iF}{d e:Nat}{b:Option iF}(hne:e≠d)(h:f e=none):upd (upd f d b) e none=upd f d b:=by
 funext t;by_cases ht:t=e
 .subst ht;rw[upd_same,upd_ne _ _ hne,h]
 .rw[upd_ne _ _ ht]
abbrev Y7 (x:Rat):List D:=[dB (fZ x).neg,aH (fZ x).num,aH (fZ x).den]
def ae1:Nat->Option Nat
 | 25=>some 0
 | 26=>some 1
 | 27=>some 2
 | 28=>some 3
 | 29=>some 4
 | 30=>some 5
 | 31=>some 6
 | _=>none
theorem xR {t i:Nat}(h:ae1 t=some i):t=[25,26,27,28,29,30,31].getD i 0:=by
 unfold ae1 at h
 split at h <;> first|(cases h;rfl)|cases h
noncomputable def bp3 (m:bV)(b3 b15 s:Nat)(t:Nat)(β:Nat->Nat × Nat):V :=
 match t with
 | 25=>.ptr 3 b3 2
 | 26=>.bI 15 b15 m.k m.k
 | 27=>.d (dI s)
 | 28=>.d (qg (m.jb.getD s []))
 | 29=>.d (dI m.n)
 | 30=>.bI 30 (β 30).1 m.n m.n
 | 31=>.mJ 15 b15 1 s 0
 | _=>.junk
noncomputable abbrev bp4 (m:bV)(b3 b15 s:Nat):List Nj:=[⟨30,5,λβ=>.row (β 30).1 m.n T.bg 1 (List.replicate m.n am2)⟩]
theorem bp5 {p:Nat->Prop}(h0:p 0)(h1:p 1)(h2:p 2)(h3:p 3)(h4:p 4)(h5:p 5)(h6:p 6):∀ i,i<7->p i:=λi hi=>by
 have:i=0 \/ i=1 \/ i=2 \/ i=3 \/ i=4 \/ i=5 \/ i=6:=by omega
 rcases this with rfl|rfl|rfl|rfl|rfl|rfl|rfl <;> assumption
def ae2:Nat->Option Nat
 | 42=>some 0
 | 43=>some 1
 | 44=>some 2
 | 45=>some 3
 | 46=>some 4
 | 47=>some 5
 | 48=>some 6
 | 49=>some 7
 | 50=>some 8
 | 51=>some 9
 | 52=>some 10
 | 53=>some 11
 | 54=>some 12
 | 55=>some 13
 | 56=>some 14
 | 57=>some 15
 | 58=>some 16
 | 59=>some 17
 | 60=>some 18
 | 61=>some 19
 | 62=>some 20
 | 63=>some 21
 | 64=>some 22
 | 65=>some 23
 | _=>none
theorem fQ {t i:Nat}(h:ae2 t=some i):t=[42,43,44,45,46,47,48,49,50,51,52,53,54,55,56,57,58,59,60,61,62,63,64,65].getD i 0:=by
 unfold ae2 at h
 split at h <;> first|(cases h;rfl)|cases h
noncomputable def bp6 (m:bV)(b3 b15 JM s i j q c:Nat)(t:Nat)(β:Nat->Nat × Nat):V :=
 match t with
 | 42=>.ptr 3 b3 2
 | 43=>.bI 15 b15 m.k m.k
 | 44=>.d (dI s)
 | 45=>.mJ 15 b15 1 s 0
 | 46=>.bI 30 JM m.n m.n
 | 47=>.d (dI i)
 | 48=>.ptr 3 b3 2
 | 49=>.bI 15 b15 m.k m.k
 | 50=>.d (dI s)
 | 51=>.mJ 15 b15 1 s 0
 | 52=>.bI 30 JM m.n m.n
 | 53=>.d (dI i)
 | 54=>.mJ 30 JM 1 i 0
 | 55=>.bI 64 q j c
 | 56=>.d (qg (m.jb.getD s []))
 | 57=>.d (dI j)
 | 58=>.ref [dJ ((m.jb.getD s []).getD j [])]
 | 59=>.d (dJ ((m.jb.getD s []).getD j []))
 | 60=>.d (dI i)
 | 61=>.ref (Y7 ((rE m s i).getD j 0))
 | 62=>vQ ((rE m s i).getD j 0)
 | 63=>.d (.sl [dQ ((rE m s i).getD j 0)])
 | 64=>.bI 64 (β 64).1 (j+1) (β 64).2
 | 65=>.mJ 30 JM 1 i 0
 | _=>.junk
noncomputable abbrev bp7 (m:bV)(b3 b15 JM s i j q c:Nat):List Nj:=[⟨64,22,λβ=>.row (β 64).1 (β 64).2 T.Rat 3 (((rE m s i).take j).map dQ++[dQ ((rE m s i).getD j 0)])⟩]
theorem bp8 {p:Nat->Prop}(h0:p 0)(h1:p 1)(h2:p 2)(h3:p 3)(h4:p 4)(h5:p 5)(h6:p 6)(h7:p 7)(h8:p 8)(h9:p 9)(h10:p 10)(h11:p 11)(h12:p 12)(h13:p 13)(CO:p 14)(h15:p 15)(h16:p 16)(h17:p 17)(h18:p 18)(h19:p 19)(h20:p 20)(h21:p 21)(h22:p 22)(h23:p 23):∀ i,i<24->p i:=λi hi=>by
 have:i=0 \/ i=1 \/ i=2 \/ i=3 \/ i=4 \/ i=5 \/ i=6 \/ i=7 \/ i=8 \/ i=9 \/ i=10 \/ i=11 \/ i=12 \/ i=13 \/ i=14 \/ i=15 \/ i=16 \/ i=17 \/ i=18 \/ i=19 \/ i=20 \/ i=21 \/ i=22 \/ i=23:=by omega
 rcases this with rfl|rfl|rfl|rfl|rfl|rfl|rfl|rfl|rfl|rfl|rfl|rfl|rfl|rfl|rfl|rfl|rfl|rfl|rfl|rfl|rfl|rfl|rfl|rfl <;> assumption
set_option maxRecDepth 8000 in
set_option maxHeartbeats 6400000 in
theorem ae3 {m:bV}(fl:m.Full)(n1:1<=m.n)(n64:m.n<=64)(k64:m.k<=64):ai P F.oM [wZ m] (wZ (aA m)):=by
 have hml:m.jb.length=m.k:=rfl;refine ai.intro fn.oM (by rfl) (by rfl) (ay (by rfl)) λE hE=>(AW.sg hE rfl (iO rfl rfl λb1=>(al z.Machine rfl λb2=>(OL.nil (AW.seq (AW.dg 34 [0,1,2,3,4,5,6,7,8,9,10] ak hE rfl (by kernel_rfl) (OI.aK (os:=[_,_,_,_,_,_,_,_,_,_,_]) rfl ?_)))))))
 refine bC fd.GN rfl rfl (aG ce.bg rfl rfl rfl (bC fd.Aa rfl rfl (aG ce.bg rfl rfl rfl (bC fd.o7 rfl rfl (aG ce.jF rfl rfl rfl (fF sl.jF rfl rfl (ba9 (n:=m.k) (cp:=m.k) qg [] sl.jF z.dw ae0 rfl rfl (Nat.le_refl _) (by omega) (by omega) rfl rfl λb15=>?_)))))))
 refine L6 (cs:=[_,_,_]) z.Machine pl.Machine (lI (by exact uG rfl) (lI (by exact uG rfl) (lI (by exact evO rfl) (LZ)))) (by rfl) (al z.Machine rfl λb3=>(fA sz.Machine rfl rfl rfl rfl rfl (ay rfl) (cells2:=[_,_,_]) rfl (OL.nil (AW.seq (AW.sg hE rfl (bC fd.o7 rfl rfl (aG ce.jF rfl rfl rfl ?_)))))))
 refine fF sl.jF rfl rfl (aj rfl (OL.nil (AW.block ?_)));refine AW.aY (α:=Nat) [(2,_),(3,_),(18,_),(19,_)] [(2,_),(3,_)] (λs=>[(20,.d (dI s))]) (λs=>[(15,.row b15 m.k T.dw 1 (HY m s))]) (λs=>s<=m.k) (λs=>m.k-s) 0 (.cons (iw rfl) (.cons (iw rfl) (.cons (di rfl) (.cons (di rfl) .nil)))) (.cons (je rfl) (.cons (je rfl) .nil)) ⟨Nat.zero_le _,.dD,.cons (by rw[HY,sD,<- List.map_replicate];rfl) .nil⟩ ?_
 intro s h1;have h1:s<=m.k:=h1;have hmt:=Xb m s;refine AW.sg hE rfl (bG rfl rfl rfl (OL.nil (AW.seq (AW.cond rfl (λh21=>?_) (λh21=>?_)))))
 .try simp only[fD] at h21
  refine AW.skip (AW.seq (AW.block (AW.seq ?_)));have hs:s<m.k:=by omega
  have hmr:=fl.rows s hs;have hmc:=fl.cols s hs;refine AW.rg hE rfl (aj rfl (dR sl.jF [] rfl rfl (by omega) rfl rfl (iE ce.dw rfl (aF rfl (aF rfl (OL.nil (AW.seq ?_)))))))
  refine AW.sN (bp3 m b3 b15 s) ae1 (bp4 m b3 b15 s) 7 ak (by rw[hE];rfl) (by rfl) (by kernel_rfl) (by kernel_rfl) ?_ ?_
  .refine bp5 ?_ ?_ ?_ ?_ ?_ ?_ ?_
   .exact λβ L c9=>⟨_,rfl,.inl (OG.aK (bC (b:=b3) (o:=0) (id:=3) fd.o7 ((bT rfl).trans rfl) rfl ⟨β,bY (d:=25) (i:=0) rfl (λt ht=>xR ht) (lt_size 8 c9.size rfl (by decide)) (aX (lt_size 8 c9.size rfl (by decide)) (by rfl))⟩))⟩
   .exact λβ L c9=>⟨_,rfl,.inl (OG.aK (aG ce.jF (bK rfl (aU (j:=0) c9 (by kernel_rfl))) ((gI (aB (show (3:Nat)≠30 by decide) rfl)):_=some (.box b3 T.Machine [.d (dJ m.fin),.d (dJ m.ini),.bI 15 b15 m.k m.k])) (v:=.bI 15 b15 m.k m.k) rfl ⟨β,bY (d:=26) (i:=1) rfl (λt ht=>xR ht) (lt_size 8 c9.size rfl (by decide)) (aX (lt_size 8 c9.size rfl (by decide)) (by rfl))⟩))⟩
   .exact λβ L c9=>⟨_,rfl,.inl (OG.aK (aj (y:=dI s) ((bT rfl).trans rfl) ⟨β,bY (d:=27) (i:=2) rfl (λt ht=>xR ht) (lt_size 8 c9.size rfl (by decide)) (aX (lt_size 8 c9.size rfl (by decide)) (by rfl))⟩))⟩
   .exact λβ L c9=>⟨_,rfl,.inl (OG.aK (aj (y:=qg (m.jb.getD s [])) ((bT rfl).trans rfl) ⟨β,bY (d:=28) (i:=3) rfl (λt ht=>xR ht) (lt_size 8 c9.size rfl (by decide)) (aX (lt_size 8 c9.size rfl (by decide)) (by rfl))⟩))⟩
   .exact λβ L c9=>⟨_,rfl,.inl (OG.aK (LP sl.dw rfl (bK rfl (aU (j:=3) c9 (by kernel_rfl))) (n:=m.n) ((dA ..).trans hmr) ⟨β,bY (d:=29) (i:=4) rfl (λt ht=>xR ht) (lt_size 8 c9.size rfl (by decide)) (aX (lt_size 8 c9.size rfl (by decide)) (by rfl))⟩))⟩
   .exact λβ L c9=>⟨_,rfl,SG.aa6 (SO.aN5 (n:=m.n) (cp:=m.n) (show 30<E.n by rw[hE];exact Nat.le_of_ble_eq_true (by rfl)) (bK rfl (aU (j:=4) c9 (by kernel_rfl))) (bK rfl (aU (j:=4) c9 (by kernel_rfl))) sl.dw raw.bg (Nat.le_refl _) (by omega) (by omega) λb=>⟨upd β 30 (b,0),Dk (d:=30) (i:=5) (x:=(b,0)) rfl (λt ht=>xR ht) (lt_size 8 c9.size rfl (by decide)) rfl (rU (lt_size 8 c9.size rfl (by decide)) rfl rfl rfl c9.no (by rfl) (λy hy=>absurd hy List.not_mem_nil)) (λt j ho hl=>by unfold ae1 at ho;split at ho <;> cases ho <;> first|rfl|(rw[c9.no] at hl;cases hl)|exact qL c9 (by kernel_rfl) hl)⟩)⟩
   .exact λβ L c9=>⟨_,rfl,.inl (OG.aK (Ri sl.jF (id:=15) (b:=b15) (l:=m.k) (c:=m.k) (bK rfl (aU (j:=1) c9 (by kernel_rfl))) (bK rfl (aU (j:=2) c9 (by kernel_rfl))) (by omega) (by omega) (i:=s) (by omega) ⟨β,bY (d:=31) (i:=6) rfl (λt ht=>xR ht) (lt_size 8 c9.size rfl (by decide)) (aX (lt_size 8 c9.size rfl (by decide)) (by rfl))⟩))⟩
  refine λβ L c9 hA=>⟨_,rfl,SG.aa6 (SO.YK (id:=30) (es:=List.replicate m.n am2) (bK rfl (hA 6 (by decide))) (bK rfl (hA 5 (by decide))) (gI (uS (hA 5 (by decide)) rfl rfl)) ((gI (aB (show (15:Nat)≠30 by decide) rfl)):_=some (.row b15 m.k T.dw 1 (HY m s))) sz.dw (by omega) (by rw[List.length_replicate];omega) λhc=>?_)⟩
  refine AW.to [(3,.ptr 3 b3 0),(4,.d (dI s)),(5,.d (qg (m.jb.getD s []))),(18,.d (.sl (m.jb.map qg))),(19,.d (dI m.k)),(20,.d (dI s)),(2,.ptr 2 b2 0)] [(2,.box b2 T.Machine [.mt,.mt,.mt]),(3,.box b3 T.Machine [.d (dJ m.fin),.d (dJ m.ini),.bI 15 b15 m.k m.k]),(15,.row b15 m.k T.dw 1 ((HY m s).set s (Ho (β 30).1 m.n m.n))),(30,.row (β 30).1 m.n T.bg 1 (rowT m s 0))] (.cons (au (fV ((bT rfl).trans rfl))) (.cons (au (fV ((bT rfl).trans rfl))) (.cons (au (fV ((bT rfl).trans rfl))) (.cons (au (fV ((bT rfl).trans rfl))) (.cons (au (fV ((bT rfl).trans rfl))) (.cons (au (fV ((bT rfl).trans rfl))) (.cons (au (fV ((bT rfl).trans rfl))) (.nil)))))))) (.cons (mr (show (2:Nat)≠15 by decide) (gI (aB (show (2:Nat)≠30 by decide) rfl))) (.cons (mr (show (3:Nat)≠15 by decide) (gI (aB (show (3:Nat)≠30 by decide) rfl))) (.cons NC (.cons ((mr (show (30:Nat)≠15 by decide) (gI (uS (hA 5 (by decide)) rfl rfl))).trans (congrArg some (congrArg (iF.row (β 30).1 m.n T.bg 1) (sD ..).symm))) (.nil))))) ?_
  generalize (β 30).1=JM;refine AW.sg hE rfl (aj rfl (fF sl.dw rfl rfl ?_));rw[hmr];refine aj rfl (OL.nil (AW.block ?_));refine AW.aY (α:=Nat) [(2,_),(3,_),(4,_),(5,_),(18,_),(19,_),(20,_),(33,_)] [(2,_),(3,_)] (λi=>[(34,.d (dI i))]) (λi=>[(30,.row JM m.n T.bg 1 (rowT m s i)),(15,.row b15 m.k T.dw 1 ((HY m s).set s (Ho JM m.n m.n)))]) (λi=>i<=m.n) (λi=>m.n-i) 0 (.cons (iw rfl) (.cons (iw rfl) (.cons (di rfl) (.cons (di rfl) (.cons (di rfl) (.cons (di rfl) (.cons (di rfl) (.cons (di rfl) .nil)))))))) (.cons (je rfl) (.cons (je rfl) .nil)) ⟨Nat.zero_le _,.dD,.cons rfl (.cons rfl .nil)⟩ ?_;intro i h2;have h2:i<=m.n:=h2;have hrt:=JO m s i;refine AW.sg hE rfl (bG rfl rfl rfl (OL.nil (AW.seq (AW.cond rfl (λh35=>?_) (λh35=>?_)))))
  .try simp only[fD] at h35
   refine AW.skip (AW.seq (AW.block (AW.seq ?_)));have hi:i<m.n:=by omega
   have htl:=SS (m:=m) hs hi;refine AW.rg hE rfl (aj rfl (aF rfl (OL.nil (AW.sg hE rfl (aj rfl (fF sl.dw rfl rfl ?_))))));rw[hmr];refine aj rfl (OL.nil (AW.block (AW.row0 64 T.Rat 3 rfl ?_)));refine AW.aY (α:=Nat × Nat × Nat) [(2,_),(3,_),(4,_),(5,_),(6,_),(18,_),(19,_),(20,_),(33,_),(34,_),(38,_)] [(2,_),(3,_),(15,_)] (λ(j,q,c)=>[(39,.d (dI j))]) (λ(j,q,c)=>[(30,.row JM m.n T.bg 1 ((rowT m s i).set i (hdA j q c))),(64,.row q c T.Rat 3 (((rE m s i).take j).map dQ))]) (λ(j,q,c)=>j<=m.n/\(j=0->c=0)) (λ(j,q,c)=>m.n-j) (0,0,0) (.cons (iw rfl) (.cons (iw rfl) (.cons (di rfl) (.cons (di rfl) (.cons (di rfl) (.cons (di rfl) (.cons (di rfl) (.cons (di rfl) (.cons (di rfl) (.cons (di rfl) (.cons (di rfl) .nil))))))))))) (.cons (je rfl) (.cons (je rfl) (.cons (qZ rfl) .nil))) ⟨⟨Nat.zero_le _,λ_=>rfl⟩,.dD,.cons (by rw[aC2,aC3 (aS5 hi)];rfl) (.cons rfl .nil)⟩ ?_
   rintro⟨j,q,c⟩ ⟨h3,hc0⟩
   have h3:j<=m.n:=h3;have hc0:j=0->c=0:=hc0;refine AW.sg hE rfl (bG rfl rfl rfl (OL.nil (AW.seq (AW.cond rfl (λh40=>?_) (λh40=>?_)))))
   .try simp only[fD] at h40
    refine AW.skip (AW.seq (AW.block (AW.sg hE rfl (aj rfl (aF rfl (OL.nil ?_))))));have hj:j<m.n:=by omega
    have hcj:=hmc j hj;have hxe:(dQ (((m.jb.getD s []).getD j []).getD i 0)).cells=Y7 ((rE m s i).getD j 0):=by rw[am4 hs hi hj];rfl
    have MN:j=(((rE m s i).take j).map dQ).length:=by rw[dA,List.length_take];omega
    have aZ4:((HY m s).set s (Ho JM m.n m.n))[s]? = some (Ho JM m.n m.n):=List.getElem?_set_self (by omega)
    have bp9:((rowT m s i).set i (hdA j q c))[i]? = some (hdA j q c):=List.getElem?_set_self (by omega)
    refine AW.rowLen 64 rfl λbq0=>?_;have hjc:j<=c:=by rw[<- MN] at bq0;exact bq0
    refine AW.sN (bp6 m b3 b15 JM s i j q c) ae2 (bp7 m b3 b15 JM s i j q c) 24 ak (by rw[hE];rfl) (by rfl) (by kernel_rfl) (by kernel_rfl) ?_ ?_
    .refine bp8 ?_ ?_ ?_ ?_ ?_ ?_ ?_ ?_ ?_ ?_ ?_ ?_ ?_ ?_ ?_ ?_ ?_ ?_ ?_ ?_ ?_ ?_ ?_ ?_
     .exact λβ L c9=>⟨_,rfl,.inl (OG.aK (bC (b:=b3) (o:=0) (id:=3) fd.o7 ((bT rfl).trans rfl) rfl ⟨β,bY (d:=42) (i:=0) rfl (λt ht=>fQ ht) (lt_size 25 c9.size rfl (by decide)) (aX (lt_size 25 c9.size rfl (by decide)) (by rfl))⟩))⟩
     .exact λβ L c9=>⟨_,rfl,.inl (OG.aK (aG ce.jF (bK rfl (aU (j:=0) c9 (by kernel_rfl))) ((gI (aB (show (3:Nat)≠64 by decide) rfl)):_=some (.box b3 T.Machine [.d (dJ m.fin),.d (dJ m.ini),.bI 15 b15 m.k m.k])) (v:=.bI 15 b15 m.k m.k) rfl ⟨β,bY (d:=43) (i:=1) rfl (λt ht=>fQ ht) (lt_size 25 c9.size rfl (by decide)) (aX (lt_size 25 c9.size rfl (by decide)) (by rfl))⟩))⟩
     .exact λβ L c9=>⟨_,rfl,.inl (OG.aK (aj (y:=dI s) ((bT rfl).trans rfl) ⟨β,bY (d:=44) (i:=2) rfl (λt ht=>fQ ht) (lt_size 25 c9.size rfl (by decide)) (aX (lt_size 25 c9.size rfl (by decide)) (by rfl))⟩))⟩
     .exact λβ L c9=>⟨_,rfl,.inl (OG.aK (Ri sl.jF (id:=15) (b:=b15) (l:=m.k) (c:=m.k) (bK rfl (aU (j:=1) c9 (by kernel_rfl))) (bK rfl (aU (j:=2) c9 (by kernel_rfl))) (by omega) (by omega) (i:=s) (by omega) ⟨β,bY (d:=45) (i:=3) rfl (λt ht=>fQ ht) (lt_size 25 c9.size rfl (by decide)) (aX (lt_size 25 c9.size rfl (by decide)) (by rfl))⟩))⟩
     .exact λβ L c9=>⟨_,rfl,.inl (OG.aK (aj2 (.zh (by decide) (bK rfl (aU (j:=3) c9 (by kernel_rfl))) ((gI (aB (show (15:Nat)≠64 by decide) rfl)):_=some (.row b15 m.k T.dw 1 ((HY m s).set s (Ho JM m.n m.n)))) aZ4 ce.dw (d:=Ho JM m.n m.n) rfl) (Dt 30 (Nat.le_refl _)) ⟨β,bY (d:=46) (i:=4) rfl (λt ht=>fQ ht) (lt_size 25 c9.size rfl (by decide)) (aX (lt_size 25 c9.size rfl (by decide)) (by rfl))⟩))⟩
     .exact λβ L c9=>⟨_,rfl,.inl (OG.aK (aj (y:=dI i) ((bT rfl).trans rfl) ⟨β,bY (d:=47) (i:=5) rfl (λt ht=>fQ ht) (lt_size 25 c9.size rfl (by decide)) (aX (lt_size 25 c9.size rfl (by decide)) (by rfl))⟩))⟩
     .exact λβ L c9=>⟨_,rfl,.inl (OG.aK (bC (b:=b3) (o:=0) (id:=3) fd.o7 ((bT rfl).trans rfl) rfl ⟨β,bY (d:=48) (i:=6) rfl (λt ht=>fQ ht) (lt_size 25 c9.size rfl (by decide)) (aX (lt_size 25 c9.size rfl (by decide)) (by rfl))⟩))⟩
     .exact λβ L c9=>⟨_,rfl,.inl (OG.aK (aG ce.jF (bK rfl (aU (j:=6) c9 (by kernel_rfl))) ((gI (aB (show (3:Nat)≠64 by decide) rfl)):_=some (.box b3 T.Machine [.d (dJ m.fin),.d (dJ m.ini),.bI 15 b15 m.k m.k])) (v:=.bI 15 b15 m.k m.k) rfl ⟨β,bY (d:=49) (i:=7) rfl (λt ht=>fQ ht) (lt_size 25 c9.size rfl (by decide)) (aX (lt_size 25 c9.size rfl (by decide)) (by rfl))⟩))⟩
     .exact λβ L c9=>⟨_,rfl,.inl (OG.aK (aj (y:=dI s) ((bT rfl).trans rfl) ⟨β,bY (d:=50) (i:=8) rfl (λt ht=>fQ ht) (lt_size 25 c9.size rfl (by decide)) (aX (lt_size 25 c9.size rfl (by decide)) (by rfl))⟩))⟩
     .exact λβ L c9=>⟨_,rfl,.inl (OG.aK (Ri sl.jF (id:=15) (b:=b15) (l:=m.k) (c:=m.k) (bK rfl (aU (j:=7) c9 (by kernel_rfl))) (bK rfl (aU (j:=8) c9 (by kernel_rfl))) (by omega) (by omega) (i:=s) (by omega) ⟨β,bY (d:=51) (i:=9) rfl (λt ht=>fQ ht) (lt_size 25 c9.size rfl (by decide)) (aX (lt_size 25 c9.size rfl (by decide)) (by rfl))⟩))⟩
     .exact λβ L c9=>⟨_,rfl,.inl (OG.aK (aj2 (.zh (by decide) (bK rfl (aU (j:=9) c9 (by kernel_rfl))) ((gI (aB (show (15:Nat)≠64 by decide) rfl)):_=some (.row b15 m.k T.dw 1 ((HY m s).set s (Ho JM m.n m.n)))) aZ4 ce.dw (d:=Ho JM m.n m.n) rfl) (Dt 30 (Nat.le_refl _)) ⟨β,bY (d:=52) (i:=10) rfl (λt ht=>fQ ht) (lt_size 25 c9.size rfl (by decide)) (aX (lt_size 25 c9.size rfl (by decide)) (by rfl))⟩))⟩
     .exact λβ L c9=>⟨_,rfl,.inl (OG.aK (aj (y:=dI i) ((bT rfl).trans rfl) ⟨β,bY (d:=53) (i:=11) rfl (λt ht=>fQ ht) (lt_size 25 c9.size rfl (by decide)) (aX (lt_size 25 c9.size rfl (by decide)) (by rfl))⟩))⟩
     .exact λβ L c9=>⟨_,rfl,.inl (OG.aK (Ri sl.dw (id:=30) (b:=JM) (l:=m.n) (c:=m.n) (bK rfl (aU (j:=10) c9 (by kernel_rfl))) (bK rfl (aU (j:=11) c9 (by kernel_rfl))) (by omega) (by omega) (i:=i) (by omega) ⟨β,bY (d:=54) (i:=12) rfl (λt ht=>fQ ht) (lt_size 25 c9.size rfl (by decide)) (aX (lt_size 25 c9.size rfl (by decide)) (by rfl))⟩))⟩
     .exact λβ L c9=>⟨_,rfl,.inl (OG.aK (aj2 (.zh (by decide) (bK rfl (aU (j:=12) c9 (by kernel_rfl))) ((gI (aB (show (30:Nat)≠64 by decide) rfl)):_=some (.row JM m.n T.bg 1 ((rowT m s i).set i (hdA j q c)))) bp9 ce.bg (d:=hdA j q c) (by rw[am3];rfl)) (aS4 64 hc0 hjc) ⟨β,bY (d:=55) (i:=13) rfl (λt ht=>fQ ht) (lt_size 25 c9.size rfl (by decide)) (aX (lt_size 25 c9.size rfl (by decide)) (by rfl))⟩))⟩
     .exact λβ L c9=>⟨_,rfl,.inl (OG.aK (aj (y:=qg (m.jb.getD s [])) ((bT rfl).trans rfl) ⟨β,bY (d:=56) (i:=14) rfl (λt ht=>fQ ht) (lt_size 25 c9.size rfl (by decide)) (aX (lt_size 25 c9.size rfl (by decide)) (by rfl))⟩))⟩
     .exact λβ L c9=>⟨_,rfl,.inl (OG.aK (aj (y:=dI j) ((bT rfl).trans rfl) ⟨β,bY (d:=57) (i:=15) rfl (λt ht=>fQ ht) (lt_size 25 c9.size rfl (by decide)) (aX (lt_size 25 c9.size rfl (by decide)) (by rfl))⟩))⟩
     .exact λβ L c9=>⟨_,rfl,.inl (OG.aK (dR sl.dw [] (l:=(m.jb.getD s [])) (bK rfl (aU (j:=14) c9 (by kernel_rfl))) (bK rfl (aU (j:=15) c9 (by kernel_rfl))) (by omega) rfl rfl ⟨β,bY (d:=58) (i:=16) rfl (λt ht=>fQ ht) (lt_size 25 c9.size rfl (by decide)) (aX (lt_size 25 c9.size rfl (by decide)) (by rfl))⟩))⟩
     .exact λβ L c9=>⟨_,rfl,.inl (OG.aK (iE ce.bg (bK rfl (aU (j:=16) c9 (by kernel_rfl))) ⟨β,bY (d:=59) (i:=17) rfl (λt ht=>fQ ht) (lt_size 25 c9.size rfl (by decide)) (aX (lt_size 25 c9.size rfl (by decide)) (by rfl))⟩))⟩
     .exact λβ L c9=>⟨_,rfl,.inl (OG.aK (aj (y:=dI i) ((bT rfl).trans rfl) ⟨β,bY (d:=60) (i:=18) rfl (λt ht=>fQ ht) (lt_size 25 c9.size rfl (by decide)) (aX (lt_size 25 c9.size rfl (by decide)) (by rfl))⟩))⟩
     .exact λβ L c9=>⟨_,rfl,.inl (OG.aK (dR sl.bg 0 (l:=(m.jb.getD s []).getD j []) (bK rfl (aU (j:=17) c9 (by kernel_rfl))) (bK rfl (aU (j:=18) c9 (by kernel_rfl))) (by omega) (cs:=Y7 ((rE m s i).getD j 0)) hxe (by rfl) ⟨β,bY (d:=61) (i:=19) rfl (λt ht=>fQ ht) (lt_size 25 c9.size rfl (by decide)) (aX (lt_size 25 c9.size rfl (by decide)) (by rfl))⟩))⟩
     .exact λβ L c9=>⟨_,rfl,.inl (OG.aK (iD ag.Rat (bK rfl (aU (j:=19) c9 (by kernel_rfl))) (vs:=[_,_,_]) rfl (ay rfl) ⟨β,bY (d:=62) (i:=20) rfl (λt ht=>fQ ht) (lt_size 25 c9.size rfl (by decide)) (aX (lt_size 25 c9.size rfl (by decide)) (by rfl))⟩))⟩
     .exact λβ L c9=>⟨_,rfl,.inl (OG.aK (rF (y:=dQ ((rE m s i).getD j 0)) sl.bg (WZ (bK rfl (aU (j:=20) c9 (by kernel_rfl))) BJ) rfl (by decide) ⟨β,bY (d:=63) (i:=21) rfl (λt ht=>fQ ht) (lt_size 25 c9.size rfl (by decide)) (aX (lt_size 25 c9.size rfl (by decide)) (by rfl))⟩))⟩
     .exact λβ L c9=>⟨_,rfl,.inl (OG.aK (xZ sl.bg rfl (bK rfl (aU (j:=13) c9 (by kernel_rfl))) ((gI (wB (by exact c9.no) rfl)):_=some (.row q c T.Rat 3 (((rE m s i).take j).map dQ))) MN (W9 (bK rfl (aU (j:=21) c9 (by kernel_rfl))) (VC.d _)) (λy hy=>by rw[jJ hy];rfl) (by simp only[iY];omega) (by simp only[iY];omega) (.inr rfl) (ys:=((rE m s i).take j).map dQ++[dQ ((rE m s i).getD j 0)]) rfl (n2:=j+1) rfl λb8 c8=>⟨upd β 64 (b8,c8),Dk (d:=64) (i:=22) (x:=(b8,c8)) rfl (λt ht=>fQ ht) (lt_size 25 c9.size rfl (by decide)) rfl (Eq.trans (rU (lt_size 25 c9.size rfl (by decide)) rfl rfl rfl c9.no (by rfl) (λy hy=>absurd hy List.not_mem_nil)) (Gu _ _ _ _).symm) (λt j ho hl=>by unfold ae2 at ho;split at ho <;> cases ho <;> first|rfl|(rw[c9.no] at hl;cases hl)|exact qL c9 (by kernel_rfl) hl)⟩))⟩
     .exact λβ L c9=>⟨_,rfl,.inl (OG.aK (Ri sl.dw (id:=30) (b:=JM) (l:=m.n) (c:=m.n) (bK rfl (aU (j:=4) c9 (by kernel_rfl))) (bK rfl (aU (j:=5) c9 (by kernel_rfl))) (by omega) (by omega) (i:=i) (by omega) ⟨β,bY (d:=65) (i:=23) rfl (λt ht=>fQ ht) (lt_size 25 c9.size rfl (by decide)) (aX (lt_size 25 c9.size rfl (by decide)) (by rfl))⟩))⟩
    refine λβ L c9 hA=>⟨_,rfl,SG.aa6 (SO.YK (id:=64) (es:=((rE m s i).take j).map dQ++[dQ ((rE m s i).getD j 0)]) (bK rfl (hA 23 (by decide))) (bK rfl (hA 22 (by decide))) (gI (uS (hA 22 (by decide)) rfl rfl)) ((gI (aB (show (30:Nat)≠64 by decide) rfl)):_=some (.row JM m.n T.bg 1 ((rowT m s i).set i (hdA j q c)))) sz.bg (by rw[List.length_set,JO];omega) (by simp) λhc=>?_)⟩
    refine AW.to [(3,.ptr 3 b3 0),(4,.d (dI s)),(5,.d (qg (m.jb.getD s []))),(18,.d (.sl (m.jb.map qg))),(19,.d (dI m.k)),(20,.d (dI s)),(2,.ptr 2 b2 0),(6,.d (dI i)),(7,.d (dI j)),(33,.d (dI m.n)),(34,.d (dI i)),(38,.d (dI m.n)),(39,.d (dI j))] [(2,.box b2 T.Machine [.mt,.mt,.mt]),(3,.box b3 T.Machine [.d (dJ m.fin),.d (dJ m.ini),.bI 15 b15 m.k m.k]),(15,.row b15 m.k T.dw 1 ((HY m s).set s (Ho JM m.n m.n))),(30,.row JM m.n T.bg 1 ((rowT m s i).set i (hdA (j+1) (β 64).1 (β 64).2))),(64,.row (β 64).1 (β 64).2 T.Rat 3 (((rE m s i).take (j+1)).map dQ))] (.cons (au (fV ((bT rfl).trans rfl))) (.cons (au (fV ((bT rfl).trans rfl))) (.cons (au (fV ((bT rfl).trans rfl))) (.cons (au (fV ((bT rfl).trans rfl))) (.cons (au (fV ((bT rfl).trans rfl))) (.cons (au (fV ((bT rfl).trans rfl))) (.cons (au (fV ((bT rfl).trans rfl))) (.cons (au (fV ((bT rfl).trans rfl))) (.cons (au (fV ((bT rfl).trans rfl))) (.cons (au (fV ((bT rfl).trans rfl))) (.cons (au (fV ((bT rfl).trans rfl))) (.cons (au (fV ((bT rfl).trans rfl))) (.cons (au (fV ((bT rfl).trans rfl))) (.nil)))))))))))))) (.cons (mr (show (2:Nat)≠30 by decide) (gI (aB (show (2:Nat)≠64 by decide) rfl))) (.cons (mr (show (3:Nat)≠30 by decide) (gI (aB (show (3:Nat)≠64 by decide) rfl))) (.cons (mr (show (15:Nat)≠30 by decide) (gI (aB (show (15:Nat)≠64 by decide) rfl))) (.cons (NC.trans (congrArg some (congrArg (iF.row JM m.n T.bg 1) (by rw[List.set_set,UY (Nat.succ_pos _)])))) (.cons ((mr (show (64:Nat)≠30 by decide) (gI (uS (hA 22 (by decide)) rfl rfl))).trans (congrArg some (congrArg (iF.row (β 64).1 (β 64).2 T.Rat 3) (by rw[take_snoc 0 (show j<(rE m s i).length by omega),List.map_append];rfl)))) (.nil)))))) ?_
    generalize (β 64).1=q2;generalize (β 64).2=d2;refine AW.rg hE rfl (aI rfl rfl (by omega) (aj rfl (OL.nil ?_)))
    exact AW.again (x:=(j,q,c)) (j+1,q2,d2) (by (simp only[];omega)) ⟨⟨by omega,λe=>absurd e (Nat.succ_ne_zero j)⟩,Knows.app .a98 .dD,dL.app (.cons rfl (.cons rfl (.cons rfl .nil))) (.cons rfl (.cons rfl .nil))⟩
   .try simp only[fD] at h40
    refine AW.exit ?_;obtain rfl:j=m.n:=by omega
    have htl:=SS (m:=m) hs hi;refine AW.VT 64 30 i rfl rfl ((List.getElem?_set_self (by rw[JO];exact hi)).trans (congrArg some (UY n1))) (n:=m.n) (by rw[dA,List.length_take];omega) (by decide) (AW.to [(3,.ptr 3 b3 0),(4,.d (dI s)),(5,.d (qg (m.jb.getD s []))),(18,.d (.sl (m.jb.map qg))),(19,.d (dI m.k)),(20,.d (dI s)),(2,.ptr 2 b2 0),(6,.d (dI i)),(33,.d (dI m.n)),(34,.d (dI i))] [(2,.box b2 T.Machine [.mt,.mt,.mt]),(3,.box b3 T.Machine [.d (dJ m.fin),.d (dJ m.ini),.bI 15 b15 m.k m.k]),(15,.row b15 m.k T.dw 1 ((HY m s).set s (Ho JM m.n m.n))),(30,.row JM m.n T.bg 1 (rowT m s (i+1)))] (.cons vR (.cons vR (.cons vR (.cons vR (.cons vR (.cons vR (.cons vR (.cons vR (.cons vR (.cons vR (.nil))))))))))) (.cons rfl (.cons rfl (.cons rfl (.cons (congrArg some (congrArg (iF.row JM m.n T.bg 1) (by rw[List.set_set,aC4 htl];exact aC5 hi))) (.nil))))) ?_)
    refine AW.rg hE rfl (aI rfl rfl (by omega) (aj rfl (OL.nil ?_)))
    exact AW.again (x:=i) (i+1) (by omega) ⟨by omega,Knows.app .rq8 .dD,dL.app (.cons rfl (.cons rfl .nil)) (.cons rfl (.cons rfl .nil))⟩
  .try simp only[fD] at h35
   refine AW.exit ?_;obtain rfl:i=m.n:=by omega
   refine AW.VT 30 15 s rfl rfl (List.getElem?_set_self (by rw[Xb];exact hs)) (n:=m.n) (by rw[JO];exact Nat.le_refl _) (by decide) (AW.to [(3,.ptr 3 b3 0),(4,.d (dI s)),(5,.d (qg (m.jb.getD s []))),(18,.d (.sl (m.jb.map qg))),(19,.d (dI m.k)),(20,.d (dI s)),(2,.ptr 2 b2 0)] [(2,.box b2 T.Machine [.mt,.mt,.mt]),(3,.box b3 T.Machine [.d (dJ m.fin),.d (dJ m.ini),.bI 15 b15 m.k m.k]),(15,.row b15 m.k T.dw 1 (HY m (s+1)))] (.cons vR (.cons vR (.cons vR (.cons vR (.cons vR (.cons vR (.cons vR (.nil)))))))) (.cons rfl (.cons rfl (.cons (congrArg some (congrArg (iF.row b15 m.k T.dw 1) (by rw[List.set_set,aC6 hs,List.take_of_length_le (by rw[dA,(DZ m).rows s (by rw[kX];exact hs)];exact Nat.le_refl _)];exact aC7 hs))) (.nil)))) ?_)
   exact AW.rg hE rfl (aI rfl rfl (by omega) (aj rfl (OL.nil (AW.again (x:=s) (s+1) (by omega) ⟨by omega,Knows.app .LV .dD,dL.app (.cons rfl (.cons rfl .nil)) (.cons rfl .nil)⟩))))
 .try simp only[fD] at h21
  refine AW.exit (AW.seq ?_);obtain rfl:s=m.k:=by omega
  rw[aC8];refine AW.freeze 15 rfl (AW.oZ 3 [.d (dJ m.fin),.d (dJ m.ini),.d (.sl ((aA m).jb.map qg))] rfl (.cons vR (.cons vR (.cons (dP (by rw[dA];exact kX.symm) rfl) .nil))) (AW.to [(2,.ptr 2 b2 0),(3,.ptr 3 b3 0)] [(2,.box b2 T.Machine [.mt,.mt,.mt]),(3,.box b3 T.Machine [.d (dJ m.fin),.d (dJ m.ini),.d (.sl ((aA m).jb.map qg))])] (.cons bW.ptr (.cons bW.ptr .nil)) (.cons rfl (.cons rfl .nil)) ?_))
  exact AW.rg hE rfl (aQ ag.Machine rfl rfl (vs:=[_,_,_]) rfl (ay rfl) (fA sz.Machine rfl rfl rfl rfl rfl (ay rfl) (cells2:=[_,_,_]) rfl (OL.nil (AW.ret (aP.r ⟨_,.dN rfl rfl ag.Machine (ay rfl) .nil,.ag (.cons (.le vR) (.cons (.le vR) (.cons (.le vR) .nil)))⟩)))))
