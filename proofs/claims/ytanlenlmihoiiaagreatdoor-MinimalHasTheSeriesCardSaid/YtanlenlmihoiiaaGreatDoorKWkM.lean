/-
  Walks of package rows, part 2: the machine of the turned words (printed by mk2.py).
-/
import Derived.Test.YtanlenlmihoiiaaGreatDoorKWkL
set_option maxRecDepth 8000
set_option maxHeartbeats 6400000
set_option linter.unusedVariables false
set_option linter.unusedSimpArgs false
namespace Go.Proofs.YtanlenlmihoiiaaGreatDoor
open Go Go.AL
theorem aA0 {x y:V}{d:D}(h:x=y)(hd:VD y d):VD x d:=h ▸ hd
theorem aA1 {x y:V}{d:D}(h:x=y)(hd:VC y d):VC x d:=h ▸ hd
abbrev aj1:D:=.sc (.slice none 0 0)
theorem raw.bF:(P.info? T.bF).bind (λi=>i.zero.map λz=>z.cells.toList)=some [.slice none 0 0]:=by kernel_rfl
def hdA (i b c:Nat):D:=if i=0 then aj1 else GX b i c
theorem aA2 (b c:Nat):hdA 0 b c=aj1:=rfl
theorem Uc {i b c:Nat}(h:0<i):hdA i b c=GX b i c:=if_neg (by omega)
theorem aj2 (i b c:Nat):(hdA i b c).cells=[hdA i b c]:=by unfold hdA;split <;> rfl
theorem aR7 (id:Nat){i b c:Nat}(h0:i=0->c=0)(h1:i<=c):bV (.d (hdA i b c)) (.bK id b i c):=by
 by_cases h:i=0
 .subst h;rw[h0 rfl];intro F v hs;rw[iJ hs];exact .bK (λe=>absurd e (Nat.lt_irrefl 0)) (Nat.le_refl 0)
 .rw[Uc (by omega)];exact BQ id h1
theorem aA3 {α:Type}{l:List α}{i:Nat}{x:α}(h:l[i]? = some x):l.set i x=l:=by
 refine List.ext_getElem? λk=>?_;rw[List.getElem?_set]
 split
 .rename_i e;subst e;rw[h]
  split
  .rfl
  .rename_i e;rw[List.getElem?_eq_none (by omega)] at h;cases h
 .rfl
theorem aA4 {l:List Rat}{n:Nat}(h:l.length=n):((l.take n).map dQ).take n=l.map dQ:=by
 rw[List.take_of_length_le (l:=l) (by omega),List.take_of_length_le (by rw[dL];omega)]
def rf (m:bQ)(s i:Nat):List Rat:=((aU m).gV.getD s []).getD i []
theorem V9 {m:bQ}{s i:Nat}(hs:s<m.k)(hi:i<m.n):rf m s i=(List.range m.n).map λj=>((m.gV.getD s []).getD j []).getD i 0:=by
 unfold rf;rw[OZ hs];unfold EH;rw[aO _ _ hi]
theorem Ro {m:bQ}{s i:Nat}(hs:s<m.k)(hi:i<m.n):(rf m s i).length=m.n:=by rw[V9 hs hi];simp
theorem aj3 {m:bQ}{s i j:Nat}(hs:s<m.k)(hi:i<m.n)(hj:j<m.n):(rf m s i).getD j 0=((m.gV.getD s []).getD j []).getD i 0:=by
 rw[V9 hs hi,aO _ _ hj]
def rowT (m:bQ)(s i:Nat):List D:=oh aj1 (λi=>gm (rf m s i)) m.n i
theorem JH (m:bQ)(s i:Nat):(rowT m s i).length=m.n:=vG ..
theorem aR8 {m:bQ}{s i:Nat}(hi:i<m.n):(rowT m s i)[i]? = some aj1:=by
 unfold rowT oh;rw[List.getElem?_map,List.getElem?_range hi,Option.map_some,if_neg (Nat.lt_irrefl i)]
theorem aA5 {m:bQ}{s i:Nat}(hi:i<m.n):(rowT m s i).set i (gm (rf m s i))=rowT m s (i+1):=qM (g:=λi=>gm (rf m s i)) hi
theorem O5 {α:Type}{l:List α}{n:Nat}(d:α)(h:l.length=n):((List.range n).map λi=>l.getD i d)=l:=by
 subst h;refine List.ext_getElem (by simp) λj h1 h2=>?_
 simp only[List.getElem_map,List.getElem_range];rw[iO,lF h2];rfl
theorem aA6 {m:bQ}{s:Nat}(hs:s<m.k):rowT m s m.n=((aU m).gV.getD s []).map gm:=by
 have hl:((aU m).gV.getD s []).length=m.n:=(KI m).rows s (by rw[lg];exact hs)
 unfold rowT;rw[CB]
 conv=>rhs;rw[<- O5 [] hl,List.map_map]
 rfl
def G9 (m:bQ)(s:Nat):List D:=oh (kN []) (λs=>kN ((aU m).gV.getD s [])) m.k s
theorem Wh (m:bQ)(s:Nat):(G9 m s).length=m.k:=vG ..
theorem aA7 {m:bQ}{s:Nat}(hs:s<m.k):(G9 m s).set s (kN ((aU m).gV.getD s []))=G9 m (s+1):=qM (g:=λs=>kN ((aU m).gV.getD s [])) hs
theorem aA8 (m:bQ):G9 m m.k=(aU m).gV.map kN:=by
 have hl:(aU m).gV.length=m.k:=lg;unfold G9;rw[CB]
 conv=>rhs;rw[<- O5 [] hl,List.map_map]
 rfl
theorem Nk:VCs [.mt] (kN []).cells:=.cons VC.mt .nil
theorem aj6 {f:Nat->Option iI}{d e:Nat}{b:Option iI}(hne:e≠d)(h:f e=none):upd (upd f d b) e none=upd f d b:=by
 funext t;by_cases ht:t=e
 .subst ht;rw[upd_same,upd_ne _ _ hne,h]
 .rw[upd_ne _ _ ht]
abbrev Yr (x:Rat):List D:=[dB (iD x).neg,aI (iD x).num,aI (iD x).den]
def ab1:Nat->Option Nat
 | 25=>some 0
 | 26=>some 1
 | 27=>some 2
 | 28=>some 3
 | 29=>some 4
 | 30=>some 5
 | 31=>some 6
 | _=>none
theorem xw {t i:Nat}(h:ab1 t=some i):t=[25,26,27,28,29,30,31].getD i 0:=by
 unfold ab1 at h
 split at h <;> first|(cases h;rfl)|cases h
noncomputable def bp8 (m:bQ)(b3 b15 s:Nat)(t:Nat)(β:Nat->Nat × Nat):V :=
 match t with
 | 25=>.ptr 3 b3 2
 | 26=>.bK 15 b15 m.k m.k
 | 27=>.d (dI s)
 | 28=>.d (kN (m.gV.getD s []))
 | 29=>.d (dI m.n)
 | 30=>.bK 30 (β 30).1 m.n m.n
 | 31=>.oZ 15 b15 1 s 0
 | _=>.junk
noncomputable abbrev bp9 (m:bQ)(b3 b15 s:Nat):List Oc:=[⟨30,5,λβ=>.row (β 30).1 m.n T.bF 1 (List.replicate m.n aj1)⟩]
theorem bq0 {p:Nat->Prop}(h0:p 0)(h1:p 1)(h2:p 2)(h3:p 3)(h4:p 4)(h5:p 5)(h6:p 6):∀ i,i<7->p i:=λi hi=>by
 have:i=0 \/ i=1 \/ i=2 \/ i=3 \/ i=4 \/ i=5 \/ i=6:=by omega
 rcases this with rfl|rfl|rfl|rfl|rfl|rfl|rfl <;> assumption
def ab2:Nat->Option Nat
 | 42=>some 0
 | 43=>some 1
 | 44=>some 2
 | 45=>some 3
 | 46=>some 4
 | 47=>some 5
 | 48=>some 6
 | 49=>some 7
 | 50=>some 8
 | 51=>some 9
 | 52=>some 10
 | 53=>some 11
 | 54=>some 12
 | 55=>some 13
 | 56=>some 14
 | 57=>some 15
 | 58=>some 16
 | 59=>some 17
 | 60=>some 18
 | 61=>some 19
 | 62=>some 20
 | 63=>some 21
 | 64=>some 22
 | 65=>some 23
 | _=>none
theorem fV {t i:Nat}(h:ab2 t=some i):t=[42,43,44,45,46,47,48,49,50,51,52,53,54,55,56,57,58,59,60,61,62,63,64,65].getD i 0:=by
 unfold ab2 at h
 split at h <;> first|(cases h;rfl)|cases h
noncomputable def bq1 (m:bQ)(b3 b15 IE s i j q c:Nat)(t:Nat)(β:Nat->Nat × Nat):V :=
 match t with
 | 42=>.ptr 3 b3 2
 | 43=>.bK 15 b15 m.k m.k
 | 44=>.d (dI s)
 | 45=>.oZ 15 b15 1 s 0
 | 46=>.bK 30 IE m.n m.n
 | 47=>.d (dI i)
 | 48=>.ptr 3 b3 2
 | 49=>.bK 15 b15 m.k m.k
 | 50=>.d (dI s)
 | 51=>.oZ 15 b15 1 s 0
 | 52=>.bK 30 IE m.n m.n
 | 53=>.d (dI i)
 | 54=>.oZ 30 IE 1 i 0
 | 55=>.bK 64 q j c
 | 56=>.d (kN (m.gV.getD s []))
 | 57=>.d (dI j)
 | 58=>.ref [gm ((m.gV.getD s []).getD j [])]
 | 59=>.d (gm ((m.gV.getD s []).getD j []))
 | 60=>.d (dI i)
 | 61=>.ref (Yr ((rf m s i).getD j 0))
 | 62=>vQ ((rf m s i).getD j 0)
 | 63=>.d (.sl [dQ ((rf m s i).getD j 0)])
 | 64=>.bK 64 (β 64).1 (j+1) (β 64).2
 | 65=>.oZ 30 IE 1 i 0
 | _=>.junk
noncomputable abbrev bq2 (m:bQ)(b3 b15 IE s i j q c:Nat):List Oc:=[⟨64,22,λβ=>.row (β 64).1 (β 64).2 T.Rat 3 (((rf m s i).take j).map dQ++[dQ ((rf m s i).getD j 0)])⟩]
theorem bq3 {p:Nat->Prop}(h0:p 0)(h1:p 1)(h2:p 2)(h3:p 3)(h4:p 4)(h5:p 5)(h6:p 6)(h7:p 7)(h8:p 8)(h9:p 9)(h10:p 10)(h11:p 11)(h12:p 12)(h13:p 13)(Dp:p 14)(h15:p 15)(h16:p 16)(h17:p 17)(h18:p 18)(h19:p 19)(h20:p 20)(h21:p 21)(h22:p 22)(h23:p 23):∀ i,i<24->p i:=λi hi=>by
 have:i=0 \/ i=1 \/ i=2 \/ i=3 \/ i=4 \/ i=5 \/ i=6 \/ i=7 \/ i=8 \/ i=9 \/ i=10 \/ i=11 \/ i=12 \/ i=13 \/ i=14 \/ i=15 \/ i=16 \/ i=17 \/ i=18 \/ i=19 \/ i=20 \/ i=21 \/ i=22 \/ i=23:=by omega
 rcases this with rfl|rfl|rfl|rfl|rfl|rfl|rfl|rfl|rfl|rfl|rfl|rfl|rfl|rfl|rfl|rfl|rfl|rfl|rfl|rfl|rfl|rfl|rfl|rfl <;> assumption
theorem aA9 {m:bQ}(fl:m.Full)(n1:1<=m.n)(n64:m.n<=64)(k64:m.k<=64):ai P F.iT [uD m] (uD (aU m)):=by
 have hml:m.gV.length=m.k:=rfl;refine ai.intro fn.iT (by rfl) (by rfl) (au (by rfl)) λE hE=>(AW.sg hE rfl (iG rfl rfl λb1=>(al z.Machine rfl λb2=>(OL.nil (AW.seq (AW.dg 34 [0,1,2,3,4,5,6,7,8,9,10] ak hE rfl (by kernel_rfl) (OI.aP (os:=[_,_,_,_,_,_,_,_,_,_,_]) rfl ?_)))))))
 refine aV fd.xg rfl rfl (aA ce.bF rfl rfl rfl (aV fd.sV rfl rfl (aA ce.bF rfl rfl rfl (aV fd.jI rfl rfl (aA ce.fZ rfl rfl rfl (fO sl.fZ rfl rfl (au6 (n:=m.k) (cp:=m.k) kN [] sl.fZ z.dm Nk rfl rfl (Nat.le_refl _) (by omega) (by omega) rfl rfl λb15=>?_)))))))
 refine Ko (cs:=[_,_,_]) z.Machine pl.Machine (jR (by exact rq rfl) (jR (by exact rq rfl) (jR (by exact evO rfl) (J9)))) (by rfl) (al z.Machine rfl λb3=>(eG sz.Machine rfl rfl rfl rfl rfl (au rfl) (cells2:=[_,_,_]) rfl (OL.nil (AW.seq (AW.sg hE rfl (aV fd.jI rfl rfl (aA ce.fZ rfl rfl rfl ?_)))))))
 refine fO sl.fZ rfl rfl (aj rfl (OL.nil (AW.block ?_)));refine AW.aX (α:=Nat) [(2,_),(3,_),(18,_),(19,_)] [(2,_),(3,_)] (λs=>[(20,.d (dI s))]) (λs=>[(15,.row b15 m.k T.dm 1 (G9 m s))]) (λs=>s<=m.k) (λs=>m.k-s) 0 (.cons (iF rfl) (.cons (iF rfl) (.cons (dA rfl) (.cons (dA rfl) .nil)))) (.cons (jc rfl) (.cons (jc rfl) .nil)) ⟨Nat.zero_le _,.dw,.cons (by rw[G9,rW,<- List.map_replicate];rfl) .nil⟩ ?_
 intro s h1;have h1:s<=m.k:=h1;have hmt:=Wh m s;refine AW.sg hE rfl (bD rfl rfl rfl (OL.nil (AW.seq (AW.cond rfl (λh21=>?_) (λh21=>?_)))))
 .try simp only[fG] at h21
  refine AW.skip (AW.seq (AW.block (AW.seq ?_)));have hs:s<m.k:=by omega
  have hmr:=fl.rows s hs;have hmc:=fl.cols s hs;refine AW.rg hE rfl (aj rfl (fD sl.fZ [] rfl rfl (by omega) rfl rfl (jb ce.dm rfl (aG rfl (aG rfl (OL.nil (AW.seq ?_)))))))
  refine AW.vX (bp8 m b3 b15 s) ab1 (bp9 m b3 b15 s) 7 ak (by rw[hE];rfl) (by rfl) (by kernel_rfl) (by kernel_rfl) ?_ ?_
  .refine bq0 ?_ ?_ ?_ ?_ ?_ ?_ ?_
   .exact λβ L c9=>⟨_,rfl,.inl (OG.aP (aV (b:=b3) (o:=0) (id:=3) fd.jI ((di rfl).trans rfl) rfl ⟨β,cu (d:=25) (i:=0) rfl (λt ht=>xw ht) (lt_size 8 c9.size rfl (by decide)) (bg (lt_size 8 c9.size rfl (by decide)) (by rfl))⟩))⟩
   .exact λβ L c9=>⟨_,rfl,.inl (OG.aP (aA ce.fZ (bT rfl (aY (j:=0) c9 (by kernel_rfl))) ((iY (aH (show (3:Nat)≠30 by decide) rfl)):_=some (.box b3 T.Machine [.d (gm m.fin),.d (gm m.ini),.bK 15 b15 m.k m.k])) (v:=.bK 15 b15 m.k m.k) rfl ⟨β,cu (d:=26) (i:=1) rfl (λt ht=>xw ht) (lt_size 8 c9.size rfl (by decide)) (bg (lt_size 8 c9.size rfl (by decide)) (by rfl))⟩))⟩
   .exact λβ L c9=>⟨_,rfl,.inl (OG.aP (aj (y:=dI s) ((di rfl).trans rfl) ⟨β,cu (d:=27) (i:=2) rfl (λt ht=>xw ht) (lt_size 8 c9.size rfl (by decide)) (bg (lt_size 8 c9.size rfl (by decide)) (by rfl))⟩))⟩
   .exact λβ L c9=>⟨_,rfl,.inl (OG.aP (aj (y:=kN (m.gV.getD s [])) ((di rfl).trans rfl) ⟨β,cu (d:=28) (i:=3) rfl (λt ht=>xw ht) (lt_size 8 c9.size rfl (by decide)) (bg (lt_size 8 c9.size rfl (by decide)) (by rfl))⟩))⟩
   .exact λβ L c9=>⟨_,rfl,.inl (OG.aP (Lp sl.dm rfl (bT rfl (aY (j:=3) c9 (by kernel_rfl))) (n:=m.n) ((dL ..).trans hmr) ⟨β,cu (d:=29) (i:=4) rfl (λt ht=>xw ht) (lt_size 8 c9.size rfl (by decide)) (bg (lt_size 8 c9.size rfl (by decide)) (by rfl))⟩))⟩
   .exact λβ L c9=>⟨_,rfl,SG.ZH (SO.aM9 (n:=m.n) (cp:=m.n) (show 30<E.n by rw[hE];exact Nat.le_of_ble_eq_true (by rfl)) (bT rfl (aY (j:=4) c9 (by kernel_rfl))) (bT rfl (aY (j:=4) c9 (by kernel_rfl))) sl.dm raw.bF (Nat.le_refl _) (by omega) (by omega) λb=>⟨upd β 30 (b,0),Dz (d:=30) (i:=5) (x:=(b,0)) rfl (λt ht=>xw ht) (lt_size 8 c9.size rfl (by decide)) rfl (vV (lt_size 8 c9.size rfl (by decide)) rfl rfl rfl c9.no (by rfl) (λy hy=>absurd hy List.not_mem_nil)) (λt j ho hl=>by unfold ab1 at ho;split at ho <;> cases ho <;> first|rfl|(rw[c9.no] at hl;cases hl)|exact sF c9 (by kernel_rfl) hl)⟩)⟩
   .exact λβ L c9=>⟨_,rfl,.inl (OG.aP (Qr sl.fZ (id:=15) (b:=b15) (l:=m.k) (c:=m.k) (bT rfl (aY (j:=1) c9 (by kernel_rfl))) (bT rfl (aY (j:=2) c9 (by kernel_rfl))) (by omega) (by omega) (i:=s) (by omega) ⟨β,cu (d:=31) (i:=6) rfl (λt ht=>xw ht) (lt_size 8 c9.size rfl (by decide)) (bg (lt_size 8 c9.size rfl (by decide)) (by rfl))⟩))⟩
  refine λβ L c9 hA=>⟨_,rfl,SG.ZH (SO.X4 (id:=30) (es:=List.replicate m.n aj1) (bT rfl (hA 6 (by decide))) (bT rfl (hA 5 (by decide))) (iY (vU (hA 5 (by decide)) rfl rfl)) ((iY (aH (show (15:Nat)≠30 by decide) rfl)):_=some (.row b15 m.k T.dm 1 (G9 m s))) sz.dm (by omega) (by rw[List.length_replicate];omega) λhc=>?_)⟩
  refine AW.to [(3,.ptr 3 b3 0),(4,.d (dI s)),(5,.d (kN (m.gV.getD s []))),(18,.d (.sl (m.gV.map kN))),(19,.d (dI m.k)),(20,.d (dI s)),(2,.ptr 2 b2 0)] [(2,.box b2 T.Machine [.mt,.mt,.mt]),(3,.box b3 T.Machine [.d (gm m.fin),.d (gm m.ini),.bK 15 b15 m.k m.k]),(15,.row b15 m.k T.dm 1 ((G9 m s).set s (GX (β 30).1 m.n m.n))),(30,.row (β 30).1 m.n T.bF 1 (rowT m s 0))] (.cons (aC (gW ((di rfl).trans rfl))) (.cons (aC (gW ((di rfl).trans rfl))) (.cons (aC (gW ((di rfl).trans rfl))) (.cons (aC (gW ((di rfl).trans rfl))) (.cons (aC (gW ((di rfl).trans rfl))) (.cons (aC (gW ((di rfl).trans rfl))) (.cons (aC (gW ((di rfl).trans rfl))) (.nil)))))))) (.cons (mM (show (2:Nat)≠15 by decide) (iY (aH (show (2:Nat)≠30 by decide) rfl))) (.cons (mM (show (3:Nat)≠15 by decide) (iY (aH (show (3:Nat)≠30 by decide) rfl))) (.cons MW (.cons ((mM (show (30:Nat)≠15 by decide) (iY (vU (hA 5 (by decide)) rfl rfl))).trans (congrArg some (congrArg (iI.row (β 30).1 m.n T.bF 1) (rW ..).symm))) (.nil))))) ?_
  generalize (β 30).1=IE;refine AW.sg hE rfl (aj rfl (fO sl.dm rfl rfl ?_));rw[hmr];refine aj rfl (OL.nil (AW.block ?_));refine AW.aX (α:=Nat) [(2,_),(3,_),(4,_),(5,_),(18,_),(19,_),(20,_),(33,_)] [(2,_),(3,_)] (λi=>[(34,.d (dI i))]) (λi=>[(30,.row IE m.n T.bF 1 (rowT m s i)),(15,.row b15 m.k T.dm 1 ((G9 m s).set s (GX IE m.n m.n)))]) (λi=>i<=m.n) (λi=>m.n-i) 0 (.cons (iF rfl) (.cons (iF rfl) (.cons (dA rfl) (.cons (dA rfl) (.cons (dA rfl) (.cons (dA rfl) (.cons (dA rfl) (.cons (dA rfl) .nil)))))))) (.cons (jc rfl) (.cons (jc rfl) .nil)) ⟨Nat.zero_le _,.dw,.cons rfl (.cons rfl .nil)⟩ ?_;intro i h2;have h2:i<=m.n:=h2;have hrt:=JH m s i;refine AW.sg hE rfl (bD rfl rfl rfl (OL.nil (AW.seq (AW.cond rfl (λh35=>?_) (λh35=>?_)))))
  .try simp only[fG] at h35
   refine AW.skip (AW.seq (AW.block (AW.seq ?_)));have hi:i<m.n:=by omega
   have htl:=Ro (m:=m) hs hi;refine AW.rg hE rfl (aj rfl (aG rfl (OL.nil (AW.sg hE rfl (aj rfl (fO sl.dm rfl rfl ?_))))));rw[hmr];refine aj rfl (OL.nil (AW.block (AW.row0 64 T.Rat 3 rfl ?_)));refine AW.aX (α:=Nat × Nat × Nat) [(2,_),(3,_),(4,_),(5,_),(6,_),(18,_),(19,_),(20,_),(33,_),(34,_),(38,_)] [(2,_),(3,_),(15,_)] (λ(j,q,c)=>[(39,.d (dI j))]) (λ(j,q,c)=>[(30,.row IE m.n T.bF 1 ((rowT m s i).set i (hdA j q c))),(64,.row q c T.Rat 3 (((rf m s i).take j).map dQ))]) (λ(j,q,c)=>j<=m.n/\(j=0->c=0)) (λ(j,q,c)=>m.n-j) (0,0,0) (.cons (iF rfl) (.cons (iF rfl) (.cons (dA rfl) (.cons (dA rfl) (.cons (dA rfl) (.cons (dA rfl) (.cons (dA rfl) (.cons (dA rfl) (.cons (dA rfl) (.cons (dA rfl) (.cons (dA rfl) .nil))))))))))) (.cons (jc rfl) (.cons (jc rfl) (.cons (tJ rfl) .nil))) ⟨⟨Nat.zero_le _,λ_=>rfl⟩,.dw,.cons (by rw[aA2,aA3 (aR8 hi)];rfl) (.cons rfl .nil)⟩ ?_
   rintro⟨j,q,c⟩ ⟨h3,hc0⟩
   have h3:j<=m.n:=h3;have hc0:j=0->c=0:=hc0;refine AW.sg hE rfl (bD rfl rfl rfl (OL.nil (AW.seq (AW.cond rfl (λh40=>?_) (λh40=>?_)))))
   .try simp only[fG] at h40
    refine AW.skip (AW.seq (AW.block (AW.sg hE rfl (aj rfl (aG rfl (OL.nil ?_))))));have hj:j<m.n:=by omega
    have hcj:=hmc j hj;have hxe:(dQ (((m.gV.getD s []).getD j []).getD i 0)).cells=Yr ((rf m s i).getD j 0):=by rw[aj3 hs hi hj];rfl
    have Rq:j=(((rf m s i).take j).map dQ).length:=by rw[dL,List.length_take];omega
    have aZ5:((G9 m s).set s (GX IE m.n m.n))[s]? = some (GX IE m.n m.n):=List.getElem?_set_self (by omega)
    have bq4:((rowT m s i).set i (hdA j q c))[i]? = some (hdA j q c):=List.getElem?_set_self (by omega)
    refine AW.rowLen 64 rfl λbq5=>?_;have hjc:j<=c:=by rw[<- Rq] at bq5;exact bq5
    refine AW.vX (bq1 m b3 b15 IE s i j q c) ab2 (bq2 m b3 b15 IE s i j q c) 24 ak (by rw[hE];rfl) (by rfl) (by kernel_rfl) (by kernel_rfl) ?_ ?_
    .refine bq3 ?_ ?_ ?_ ?_ ?_ ?_ ?_ ?_ ?_ ?_ ?_ ?_ ?_ ?_ ?_ ?_ ?_ ?_ ?_ ?_ ?_ ?_ ?_ ?_
     .exact λβ L c9=>⟨_,rfl,.inl (OG.aP (aV (b:=b3) (o:=0) (id:=3) fd.jI ((di rfl).trans rfl) rfl ⟨β,cu (d:=42) (i:=0) rfl (λt ht=>fV ht) (lt_size 25 c9.size rfl (by decide)) (bg (lt_size 25 c9.size rfl (by decide)) (by rfl))⟩))⟩
     .exact λβ L c9=>⟨_,rfl,.inl (OG.aP (aA ce.fZ (bT rfl (aY (j:=0) c9 (by kernel_rfl))) ((iY (aH (show (3:Nat)≠64 by decide) rfl)):_=some (.box b3 T.Machine [.d (gm m.fin),.d (gm m.ini),.bK 15 b15 m.k m.k])) (v:=.bK 15 b15 m.k m.k) rfl ⟨β,cu (d:=43) (i:=1) rfl (λt ht=>fV ht) (lt_size 25 c9.size rfl (by decide)) (bg (lt_size 25 c9.size rfl (by decide)) (by rfl))⟩))⟩
     .exact λβ L c9=>⟨_,rfl,.inl (OG.aP (aj (y:=dI s) ((di rfl).trans rfl) ⟨β,cu (d:=44) (i:=2) rfl (λt ht=>fV ht) (lt_size 25 c9.size rfl (by decide)) (bg (lt_size 25 c9.size rfl (by decide)) (by rfl))⟩))⟩
     .exact λβ L c9=>⟨_,rfl,.inl (OG.aP (Qr sl.fZ (id:=15) (b:=b15) (l:=m.k) (c:=m.k) (bT rfl (aY (j:=1) c9 (by kernel_rfl))) (bT rfl (aY (j:=2) c9 (by kernel_rfl))) (by omega) (by omega) (i:=s) (by omega) ⟨β,cu (d:=45) (i:=3) rfl (λt ht=>fV ht) (lt_size 25 c9.size rfl (by decide)) (bg (lt_size 25 c9.size rfl (by decide)) (by rfl))⟩))⟩
     .exact λβ L c9=>⟨_,rfl,.inl (OG.aP (ag3 (.BL (by decide) (bT rfl (aY (j:=3) c9 (by kernel_rfl))) ((iY (aH (show (15:Nat)≠64 by decide) rfl)):_=some (.row b15 m.k T.dm 1 ((G9 m s).set s (GX IE m.n m.n)))) aZ5 ce.dm (d:=GX IE m.n m.n) rfl) (BQ 30 (Nat.le_refl _)) ⟨β,cu (d:=46) (i:=4) rfl (λt ht=>fV ht) (lt_size 25 c9.size rfl (by decide)) (bg (lt_size 25 c9.size rfl (by decide)) (by rfl))⟩))⟩
     .exact λβ L c9=>⟨_,rfl,.inl (OG.aP (aj (y:=dI i) ((di rfl).trans rfl) ⟨β,cu (d:=47) (i:=5) rfl (λt ht=>fV ht) (lt_size 25 c9.size rfl (by decide)) (bg (lt_size 25 c9.size rfl (by decide)) (by rfl))⟩))⟩
     .exact λβ L c9=>⟨_,rfl,.inl (OG.aP (aV (b:=b3) (o:=0) (id:=3) fd.jI ((di rfl).trans rfl) rfl ⟨β,cu (d:=48) (i:=6) rfl (λt ht=>fV ht) (lt_size 25 c9.size rfl (by decide)) (bg (lt_size 25 c9.size rfl (by decide)) (by rfl))⟩))⟩
     .exact λβ L c9=>⟨_,rfl,.inl (OG.aP (aA ce.fZ (bT rfl (aY (j:=6) c9 (by kernel_rfl))) ((iY (aH (show (3:Nat)≠64 by decide) rfl)):_=some (.box b3 T.Machine [.d (gm m.fin),.d (gm m.ini),.bK 15 b15 m.k m.k])) (v:=.bK 15 b15 m.k m.k) rfl ⟨β,cu (d:=49) (i:=7) rfl (λt ht=>fV ht) (lt_size 25 c9.size rfl (by decide)) (bg (lt_size 25 c9.size rfl (by decide)) (by rfl))⟩))⟩
     .exact λβ L c9=>⟨_,rfl,.inl (OG.aP (aj (y:=dI s) ((di rfl).trans rfl) ⟨β,cu (d:=50) (i:=8) rfl (λt ht=>fV ht) (lt_size 25 c9.size rfl (by decide)) (bg (lt_size 25 c9.size rfl (by decide)) (by rfl))⟩))⟩
     .exact λβ L c9=>⟨_,rfl,.inl (OG.aP (Qr sl.fZ (id:=15) (b:=b15) (l:=m.k) (c:=m.k) (bT rfl (aY (j:=7) c9 (by kernel_rfl))) (bT rfl (aY (j:=8) c9 (by kernel_rfl))) (by omega) (by omega) (i:=s) (by omega) ⟨β,cu (d:=51) (i:=9) rfl (λt ht=>fV ht) (lt_size 25 c9.size rfl (by decide)) (bg (lt_size 25 c9.size rfl (by decide)) (by rfl))⟩))⟩
     .exact λβ L c9=>⟨_,rfl,.inl (OG.aP (ag3 (.BL (by decide) (bT rfl (aY (j:=9) c9 (by kernel_rfl))) ((iY (aH (show (15:Nat)≠64 by decide) rfl)):_=some (.row b15 m.k T.dm 1 ((G9 m s).set s (GX IE m.n m.n)))) aZ5 ce.dm (d:=GX IE m.n m.n) rfl) (BQ 30 (Nat.le_refl _)) ⟨β,cu (d:=52) (i:=10) rfl (λt ht=>fV ht) (lt_size 25 c9.size rfl (by decide)) (bg (lt_size 25 c9.size rfl (by decide)) (by rfl))⟩))⟩
     .exact λβ L c9=>⟨_,rfl,.inl (OG.aP (aj (y:=dI i) ((di rfl).trans rfl) ⟨β,cu (d:=53) (i:=11) rfl (λt ht=>fV ht) (lt_size 25 c9.size rfl (by decide)) (bg (lt_size 25 c9.size rfl (by decide)) (by rfl))⟩))⟩
     .exact λβ L c9=>⟨_,rfl,.inl (OG.aP (Qr sl.dm (id:=30) (b:=IE) (l:=m.n) (c:=m.n) (bT rfl (aY (j:=10) c9 (by kernel_rfl))) (bT rfl (aY (j:=11) c9 (by kernel_rfl))) (by omega) (by omega) (i:=i) (by omega) ⟨β,cu (d:=54) (i:=12) rfl (λt ht=>fV ht) (lt_size 25 c9.size rfl (by decide)) (bg (lt_size 25 c9.size rfl (by decide)) (by rfl))⟩))⟩
     .exact λβ L c9=>⟨_,rfl,.inl (OG.aP (ag3 (.BL (by decide) (bT rfl (aY (j:=12) c9 (by kernel_rfl))) ((iY (aH (show (30:Nat)≠64 by decide) rfl)):_=some (.row IE m.n T.bF 1 ((rowT m s i).set i (hdA j q c)))) bq4 ce.bF (d:=hdA j q c) (by rw[aj2];rfl)) (aR7 64 hc0 hjc) ⟨β,cu (d:=55) (i:=13) rfl (λt ht=>fV ht) (lt_size 25 c9.size rfl (by decide)) (bg (lt_size 25 c9.size rfl (by decide)) (by rfl))⟩))⟩
     .exact λβ L c9=>⟨_,rfl,.inl (OG.aP (aj (y:=kN (m.gV.getD s [])) ((di rfl).trans rfl) ⟨β,cu (d:=56) (i:=14) rfl (λt ht=>fV ht) (lt_size 25 c9.size rfl (by decide)) (bg (lt_size 25 c9.size rfl (by decide)) (by rfl))⟩))⟩
     .exact λβ L c9=>⟨_,rfl,.inl (OG.aP (aj (y:=dI j) ((di rfl).trans rfl) ⟨β,cu (d:=57) (i:=15) rfl (λt ht=>fV ht) (lt_size 25 c9.size rfl (by decide)) (bg (lt_size 25 c9.size rfl (by decide)) (by rfl))⟩))⟩
     .exact λβ L c9=>⟨_,rfl,.inl (OG.aP (fD sl.dm [] (l:=(m.gV.getD s [])) (bT rfl (aY (j:=14) c9 (by kernel_rfl))) (bT rfl (aY (j:=15) c9 (by kernel_rfl))) (by omega) rfl rfl ⟨β,cu (d:=58) (i:=16) rfl (λt ht=>fV ht) (lt_size 25 c9.size rfl (by decide)) (bg (lt_size 25 c9.size rfl (by decide)) (by rfl))⟩))⟩
     .exact λβ L c9=>⟨_,rfl,.inl (OG.aP (jb ce.bF (bT rfl (aY (j:=16) c9 (by kernel_rfl))) ⟨β,cu (d:=59) (i:=17) rfl (λt ht=>fV ht) (lt_size 25 c9.size rfl (by decide)) (bg (lt_size 25 c9.size rfl (by decide)) (by rfl))⟩))⟩
     .exact λβ L c9=>⟨_,rfl,.inl (OG.aP (aj (y:=dI i) ((di rfl).trans rfl) ⟨β,cu (d:=60) (i:=18) rfl (λt ht=>fV ht) (lt_size 25 c9.size rfl (by decide)) (bg (lt_size 25 c9.size rfl (by decide)) (by rfl))⟩))⟩
     .exact λβ L c9=>⟨_,rfl,.inl (OG.aP (fD sl.bF 0 (l:=(m.gV.getD s []).getD j []) (bT rfl (aY (j:=17) c9 (by kernel_rfl))) (bT rfl (aY (j:=18) c9 (by kernel_rfl))) (by omega) (cs:=Yr ((rf m s i).getD j 0)) hxe (by rfl) ⟨β,cu (d:=61) (i:=19) rfl (λt ht=>fV ht) (lt_size 25 c9.size rfl (by decide)) (bg (lt_size 25 c9.size rfl (by decide)) (by rfl))⟩))⟩
     .exact λβ L c9=>⟨_,rfl,.inl (OG.aP (iR ag.Rat (bT rfl (aY (j:=19) c9 (by kernel_rfl))) (vs:=[_,_,_]) rfl (au rfl) ⟨β,cu (d:=62) (i:=20) rfl (λt ht=>fV ht) (lt_size 25 c9.size rfl (by decide)) (bg (lt_size 25 c9.size rfl (by decide)) (by rfl))⟩))⟩
     .exact λβ L c9=>⟨_,rfl,.inl (OG.aP (xG (y:=dQ ((rf m s i).getD j 0)) sl.bF (aA0 (bT rfl (aY (j:=20) c9 (by kernel_rfl))) EN) rfl (by decide) ⟨β,cu (d:=63) (i:=21) rfl (λt ht=>fV ht) (lt_size 25 c9.size rfl (by decide)) (bg (lt_size 25 c9.size rfl (by decide)) (by rfl))⟩))⟩
     .exact λβ L c9=>⟨_,rfl,.inl (OG.aP (Am sl.bF rfl (bT rfl (aY (j:=13) c9 (by kernel_rfl))) ((iY (DC (by exact c9.no) rfl)):_=some (.row q c T.Rat 3 (((rf m s i).take j).map dQ))) Rq (aA1 (bT rfl (aY (j:=21) c9 (by kernel_rfl))) (VC.d _)) (λy hy=>by rw[lV hy];rfl) (by simp only[kC];omega) (by simp only[kC];omega) (.inr rfl) (ys:=((rf m s i).take j).map dQ++[dQ ((rf m s i).getD j 0)]) rfl (n2:=j+1) rfl λb8 c8=>⟨upd β 64 (b8,c8),Dz (d:=64) (i:=22) (x:=(b8,c8)) rfl (λt ht=>fV ht) (lt_size 25 c9.size rfl (by decide)) rfl (Eq.trans (vV (lt_size 25 c9.size rfl (by decide)) rfl rfl rfl c9.no (by rfl) (λy hy=>absurd hy List.not_mem_nil)) (IU _ _ _ _).symm) (λt j ho hl=>by unfold ab2 at ho;split at ho <;> cases ho <;> first|rfl|(rw[c9.no] at hl;cases hl)|exact sF c9 (by kernel_rfl) hl)⟩))⟩
     .exact λβ L c9=>⟨_,rfl,.inl (OG.aP (Qr sl.dm (id:=30) (b:=IE) (l:=m.n) (c:=m.n) (bT rfl (aY (j:=4) c9 (by kernel_rfl))) (bT rfl (aY (j:=5) c9 (by kernel_rfl))) (by omega) (by omega) (i:=i) (by omega) ⟨β,cu (d:=65) (i:=23) rfl (λt ht=>fV ht) (lt_size 25 c9.size rfl (by decide)) (bg (lt_size 25 c9.size rfl (by decide)) (by rfl))⟩))⟩
    refine λβ L c9 hA=>⟨_,rfl,SG.ZH (SO.X4 (id:=64) (es:=((rf m s i).take j).map dQ++[dQ ((rf m s i).getD j 0)]) (bT rfl (hA 23 (by decide))) (bT rfl (hA 22 (by decide))) (iY (vU (hA 22 (by decide)) rfl rfl)) ((iY (aH (show (30:Nat)≠64 by decide) rfl)):_=some (.row IE m.n T.bF 1 ((rowT m s i).set i (hdA j q c)))) sz.bF (by rw[List.length_set,JH];omega) (by simp) λhc=>?_)⟩
    refine AW.to [(3,.ptr 3 b3 0),(4,.d (dI s)),(5,.d (kN (m.gV.getD s []))),(18,.d (.sl (m.gV.map kN))),(19,.d (dI m.k)),(20,.d (dI s)),(2,.ptr 2 b2 0),(6,.d (dI i)),(7,.d (dI j)),(33,.d (dI m.n)),(34,.d (dI i)),(38,.d (dI m.n)),(39,.d (dI j))] [(2,.box b2 T.Machine [.mt,.mt,.mt]),(3,.box b3 T.Machine [.d (gm m.fin),.d (gm m.ini),.bK 15 b15 m.k m.k]),(15,.row b15 m.k T.dm 1 ((G9 m s).set s (GX IE m.n m.n))),(30,.row IE m.n T.bF 1 ((rowT m s i).set i (hdA (j+1) (β 64).1 (β 64).2))),(64,.row (β 64).1 (β 64).2 T.Rat 3 (((rf m s i).take (j+1)).map dQ))] (.cons (aC (gW ((di rfl).trans rfl))) (.cons (aC (gW ((di rfl).trans rfl))) (.cons (aC (gW ((di rfl).trans rfl))) (.cons (aC (gW ((di rfl).trans rfl))) (.cons (aC (gW ((di rfl).trans rfl))) (.cons (aC (gW ((di rfl).trans rfl))) (.cons (aC (gW ((di rfl).trans rfl))) (.cons (aC (gW ((di rfl).trans rfl))) (.cons (aC (gW ((di rfl).trans rfl))) (.cons (aC (gW ((di rfl).trans rfl))) (.cons (aC (gW ((di rfl).trans rfl))) (.cons (aC (gW ((di rfl).trans rfl))) (.cons (aC (gW ((di rfl).trans rfl))) (.nil)))))))))))))) (.cons (mM (show (2:Nat)≠30 by decide) (iY (aH (show (2:Nat)≠64 by decide) rfl))) (.cons (mM (show (3:Nat)≠30 by decide) (iY (aH (show (3:Nat)≠64 by decide) rfl))) (.cons (mM (show (15:Nat)≠30 by decide) (iY (aH (show (15:Nat)≠64 by decide) rfl))) (.cons (MW.trans (congrArg some (congrArg (iI.row IE m.n T.bF 1) (by rw[List.set_set,Uc (Nat.succ_pos _)])))) (.cons ((mM (show (64:Nat)≠30 by decide) (iY (vU (hA 22 (by decide)) rfl rfl))).trans (congrArg some (congrArg (iI.row (β 64).1 (β 64).2 T.Rat 3) (by rw[take_snoc 0 (show j<(rf m s i).length by omega),List.map_append];rfl)))) (.nil)))))) ?_
    generalize (β 64).1=q2;generalize (β 64).2=d2;refine AW.rg hE rfl (aJ rfl rfl (by omega) (aj rfl (OL.nil ?_)))
    exact AW.again (x:=(j,q,c)) (j+1,q2,d2) (by (simp only[];omega)) ⟨⟨by omega,λe=>absurd e (Nat.succ_ne_zero j)⟩,Knows.app .a97 .dw,dP.app (.cons rfl (.cons rfl (.cons rfl .nil))) (.cons rfl (.cons rfl .nil))⟩
   .try simp only[fG] at h40
    refine AW.exit ?_;obtain rfl:j=m.n:=by omega
    have htl:=Ro (m:=m) hs hi;refine AW.Vb 64 30 i rfl rfl ((List.getElem?_set_self (by rw[JH];exact hi)).trans (congrArg some (Uc n1))) (n:=m.n) (by rw[dL,List.length_take];omega) (by decide) (AW.to [(3,.ptr 3 b3 0),(4,.d (dI s)),(5,.d (kN (m.gV.getD s []))),(18,.d (.sl (m.gV.map kN))),(19,.d (dI m.k)),(20,.d (dI s)),(2,.ptr 2 b2 0),(6,.d (dI i)),(33,.d (dI m.n)),(34,.d (dI i))] [(2,.box b2 T.Machine [.mt,.mt,.mt]),(3,.box b3 T.Machine [.d (gm m.fin),.d (gm m.ini),.bK 15 b15 m.k m.k]),(15,.row b15 m.k T.dm 1 ((G9 m s).set s (GX IE m.n m.n))),(30,.row IE m.n T.bF 1 (rowT m s (i+1)))] (.cons vR (.cons vR (.cons vR (.cons vR (.cons vR (.cons vR (.cons vR (.cons vR (.cons vR (.cons vR (.nil))))))))))) (.cons rfl (.cons rfl (.cons rfl (.cons (congrArg some (congrArg (iI.row IE m.n T.bF 1) (by rw[List.set_set,aA4 htl];exact aA5 hi))) (.nil))))) ?_)
    refine AW.rg hE rfl (aJ rfl rfl (by omega) (aj rfl (OL.nil ?_)))
    exact AW.again (x:=i) (i+1) (by omega) ⟨by omega,Knows.app .rq8 .dw,dP.app (.cons rfl (.cons rfl .nil)) (.cons rfl (.cons rfl .nil))⟩
  .try simp only[fG] at h35
   refine AW.exit ?_;obtain rfl:i=m.n:=by omega
   refine AW.Vb 30 15 s rfl rfl (List.getElem?_set_self (by rw[Wh];exact hs)) (n:=m.n) (by rw[JH];exact Nat.le_refl _) (by decide) (AW.to [(3,.ptr 3 b3 0),(4,.d (dI s)),(5,.d (kN (m.gV.getD s []))),(18,.d (.sl (m.gV.map kN))),(19,.d (dI m.k)),(20,.d (dI s)),(2,.ptr 2 b2 0)] [(2,.box b2 T.Machine [.mt,.mt,.mt]),(3,.box b3 T.Machine [.d (gm m.fin),.d (gm m.ini),.bK 15 b15 m.k m.k]),(15,.row b15 m.k T.dm 1 (G9 m (s+1)))] (.cons vR (.cons vR (.cons vR (.cons vR (.cons vR (.cons vR (.cons vR (.nil)))))))) (.cons rfl (.cons rfl (.cons (congrArg some (congrArg (iI.row b15 m.k T.dm 1) (by rw[List.set_set,aA6 hs,List.take_of_length_le (by rw[dL,(KI m).rows s (by rw[lg];exact hs)];exact Nat.le_refl _)];exact aA7 hs))) (.nil)))) ?_)
   exact AW.rg hE rfl (aJ rfl rfl (by omega) (aj rfl (OL.nil (AW.again (x:=s) (s+1) (by omega) ⟨by omega,Knows.app .J5 .dw,dP.app (.cons rfl (.cons rfl .nil)) (.cons rfl .nil)⟩))))
 .try simp only[fG] at h21
  refine AW.exit (AW.seq ?_);obtain rfl:s=m.k:=by omega
  rw[aA8];refine AW.freeze 15 rfl (AW.pV 3 [.d (gm m.fin),.d (gm m.ini),.d (.sl ((aU m).gV.map kN))] rfl (.cons vR (.cons vR (.cons (dM (by rw[dL];exact lg.symm) rfl) .nil))) (AW.to [(2,.ptr 2 b2 0),(3,.ptr 3 b3 0)] [(2,.box b2 T.Machine [.mt,.mt,.mt]),(3,.box b3 T.Machine [.d (gm m.fin),.d (gm m.ini),.d (.sl ((aU m).gV.map kN))])] (.cons bV.ptr (.cons bV.ptr .nil)) (.cons rfl (.cons rfl .nil)) ?_))
  exact AW.rg hE rfl (aQ ag.Machine rfl rfl (vs:=[_,_,_]) rfl (au rfl) (eG sz.Machine rfl rfl rfl rfl rfl (au rfl) (cells2:=[_,_,_]) rfl (OL.nil (AW.ret (aT.r ⟨_,.dK rfl rfl ag.Machine (au rfl) .nil,.ag (.cons (.le vR) (.cons (.le vR) (.cons (.le vR) .nil)))⟩)))))
theorem aB0 {id b n c:Nat}(h0:n=0):VD (.bK id b n c) (.sl []):=λF v h=>by
 subst h0;cases h with
 | bK ha hc=>exact .sl (es:=[]) (sz:=0) (us:=λ_=>default) rfl hc (λe he=>by cases he) (λi hi=>by omega) (λi hi=>by omega) (λi d hd=>by cases hd)
theorem Yt {m:bQ}(h0:m.n=0):(aU m).gV=List.replicate m.k []:=by
 unfold aU EH;rw[h0];simp only[List.range_zero,List.map_nil];exact List.map_const' ..
theorem O6 {k s:Nat}(hs:s<k):((List.replicate k ([]:List (List Rat))).map kN).set s (.sl [])=(List.replicate k []).map kN:=by
 refine List.ext_getElem (by simp) λi h1 h2=>?_
 rw[List.getElem_set]
 split
 .simp[kN]
 .rfl
theorem aB1 {m:bQ}(fl:m.Full)(n0:m.n=0)(k64:m.k<=64):ai P F.iT [uD m] (uD (aU m)):=by
 have hml:m.gV.length=m.k:=rfl;refine ai.intro fn.iT (by rfl) (by rfl) (au (by rfl)) λE hE=>(AW.sg hE rfl (iG rfl rfl λb1=>(al z.Machine rfl λb2=>(OL.nil (AW.seq (AW.dg 34 [0,1,2,3,4,5,6,7,8,9,10] ak hE rfl (by kernel_rfl) (OI.aP (os:=[_,_,_,_,_,_,_,_,_,_,_]) rfl ?_)))))))
 refine aV fd.xg rfl rfl (aA ce.bF rfl rfl rfl (aV fd.sV rfl rfl (aA ce.bF rfl rfl rfl (aV fd.jI rfl rfl (aA ce.fZ rfl rfl rfl (fO sl.fZ rfl rfl (au6 (n:=m.k) (cp:=m.k) kN [] sl.fZ z.dm Nk rfl rfl (Nat.le_refl _) (by omega) (by omega) rfl rfl λb15=>?_)))))))
 refine Ko (cs:=[_,_,_]) z.Machine pl.Machine (jR (by exact rq rfl) (jR (by exact rq rfl) (jR (by exact evO rfl) (J9)))) (by rfl) (al z.Machine rfl λb3=>(eG sz.Machine rfl rfl rfl rfl rfl (au rfl) (cells2:=[_,_,_]) rfl (OL.nil (AW.seq (AW.sg hE rfl (aV fd.jI rfl rfl (aA ce.fZ rfl rfl rfl ?_)))))))
 refine fO sl.fZ rfl rfl (aj rfl (OL.nil (AW.block ?_)));refine AW.aX (α:=Nat) [(2,_),(3,_),(18,_),(19,_)] [(2,_),(3,_)] (λs=>[(20,.d (dI s))]) (λs=>[(15,.row b15 m.k T.dm 1 ((List.replicate m.k []).map kN))]) (λs=>s<=m.k) (λs=>m.k-s) 0 (.cons (iF rfl) (.cons (iF rfl) (.cons (dA rfl) (.cons (dA rfl) .nil)))) (.cons (jc rfl) (.cons (jc rfl) .nil)) ⟨Nat.zero_le _,.dw,.cons rfl .nil⟩ ?_;intro s h1;have h1:s<=m.k:=h1;refine AW.sg hE rfl (bD rfl rfl rfl (OL.nil (AW.seq (AW.cond rfl (λh21=>?_) (λh21=>?_)))))
 .try simp only[fG] at h21
  refine AW.skip (AW.seq (AW.block (AW.seq ?_)));have hs:s<m.k:=by omega
  have hmr:=fl.rows s hs;refine AW.rg hE rfl (aj rfl (fD sl.fZ [] rfl rfl (by omega) rfl rfl (jb ce.dm rfl (aG rfl (aG rfl (OL.nil (AW.seq ?_)))))))
  refine AW.dg 64 [0,1,2,3,4,5,6,7] ak hE rfl (by kernel_rfl) (OI.aP (os:=[_,_,_,_,_,_,_,_]) rfl ?_)
  refine aV fd.jI rfl rfl (aA ce.fZ rfl rfl rfl (aj rfl (aj rfl (fO sl.dm rfl rfl ?_))));rw[hmr];refine au6 (n:=m.n) (cp:=m.n) gm [] sl.dm z.bF (VCs.cons VC.mt VCs.nil) rfl rfl (Nat.le_refl _) (by omega) (by omega) rfl rfl λIE=>(je sl.fZ rfl rfl (by omega) (J4 sz.dm rfl (d:=.sl []) (aB0 n0) rfl rfl (by rw[dL,List.length_replicate];exact hs) (es2:=(List.replicate m.k []).map kN) (O6 hs) (OL.nil (AW.sg hE rfl (aj rfl (fO sl.dm rfl rfl ?_))))))
  rw[hmr];refine aj rfl (OL.nil (AW.block ?_));refine AW.aX (α:=Unit) [(2,_),(3,_),(4,_),(5,_),(18,_),(19,_),(20,_),(33,_)] [(2,_),(3,_),(15,_)] (λ_u=>[(34,.d (dI 0))]) (λ_u=>[]) (λ_u=>True) (λ_u=>0) () (.cons (iF rfl) (.cons (iF rfl) (.cons (dA rfl) (.cons (dA rfl) (.cons (dA rfl) (.cons (dA rfl) (.cons (dA rfl) (.cons (dA rfl) .nil)))))))) (.cons (jc rfl) (.cons (jc rfl) (.cons (tJ rfl) .nil))) ⟨trivial,.dw,.nil⟩ ?_
  rintro⟨⟩ -
  refine AW.sg hE rfl (bD rfl rfl rfl (OL.nil (AW.seq (AW.cond rfl (λhno=>absurd hno (by simp[n0])) (λ_=>?_)))))
  exact AW.exit (AW.rg hE rfl (aJ rfl rfl (by omega) (aj rfl (OL.nil (AW.again (x:=s) (s+1) (by omega) ⟨by omega,Knows.app .J5 .dw,dP.app (.cons rfl (.cons rfl .nil)) (.cons rfl .nil)⟩)))))
 .try simp only[fG] at h21
  refine AW.exit (AW.seq ?_);obtain rfl:s=m.k:=by omega
  rw[<- Yt n0];refine AW.freeze 15 rfl (AW.pV 3 [.d (gm m.fin),.d (gm m.ini),.d (.sl ((aU m).gV.map kN))] rfl (.cons vR (.cons vR (.cons (dM (by rw[dL];exact lg.symm) rfl) .nil))) (AW.to [(2,.ptr 2 b2 0),(3,.ptr 3 b3 0)] [(2,.box b2 T.Machine [.mt,.mt,.mt]),(3,.box b3 T.Machine [.d (gm m.fin),.d (gm m.ini),.d (.sl ((aU m).gV.map kN))])] (.cons bV.ptr (.cons bV.ptr .nil)) (.cons rfl (.cons rfl .nil)) ?_))
  exact AW.rg hE rfl (aQ ag.Machine rfl rfl (vs:=[_,_,_]) rfl (au rfl) (eG sz.Machine rfl rfl rfl rfl rfl (au rfl) (cells2:=[_,_,_]) rfl (OL.nil (AW.ret (aT.r ⟨_,.dK rfl rfl ag.Machine (au rfl) .nil,.ag (.cons (.le vR) (.cons (.le vR) (.cons (.le vR) .nil)))⟩)))))
theorem aR9 {m:bQ}(fl:m.Full)(n64:m.n<=64)(k64:m.k<=64):ai P F.iT [uD m] (uD (aU m)):=by
 rcases Nat.eq_zero_or_pos m.n with h|h
 .exact aB1 fl h k64
 .exact aA9 fl h n64 k64
