/-
  Walks of the laws of chapter 24, part 2: the rows of layer 22 with their multipliers; MinimalBlockIsRegular (printed by mk2.py).
-/
import Derived.Test.YtanlenlmihoiiaaGreatDoorKAlg45
set_option maxHeartbeats 3200000
set_option maxRecDepth 8000
set_option linter.unusedVariables false
set_option linter.unusedSimpArgs false
namespace Go.Proofs.YtanlenlmihoiiaaGreatDoor
open Go Go.AL
noncomputable def dM (n:Nat)(vs:List (List Rat)):Nat->List bZ
 | 0=>[]
 | k+1=>dM n vs k++[⟨aO (dM n vs k) (vs.getD k []),(jm (dM n vs k) (vs.getD k []) (List.replicate n 0)).set k 1,dX (aO (dM n vs k) (vs.getD k []))⟩]
theorem Aq {n:Nat}{vs:List (List Rat)}:∀ k,(dM n vs k).length=k
 | 0=>rfl
 | k+1=>by rw[dM,jd,Aq k];rfl
def vV (vs:List (List Rat)):Prop:=∀ i,i<vs.length->bM (eG (vs.take i)) (vs.getD i [])=true
theorem Qz {vs:List (List Rat)}{k:Nat}(hk:k<vs.length)(g:vV vs):eG (vs.take (k+1))=eG (vs.take k)++[newR (eG (vs.take k)) (vs.getD k [])]:=by
 rw[iL [] hk,oG];exact if_pos (g k hk)
theorem MW {n:Nat}{vs:List (List Rat)}(g:vV vs):∀ k,k<=vs.length->(dM n vs k).map stripR=(eG (vs.take k)).map stripR
 | 0,_=>rfl
 | k+1,h=>by
  have ih:=MW (n:=n) g k (by omega)
  have e:aO (dM n vs k) (vs.getD k [])=aO (eG (vs.take k)) (vs.getD k []):=by rw[<- BF,ih,BF]
  rw[dM,Qz (by omega) g,List.map_append,List.map_append,ih]
  show _++[stripR ⟨_,_,_⟩]=_++[stripR (newR _ _)]
  unfold stripR newR;rw[e]
theorem LH {n:Nat}{vs:List (List Rat)}(g:vV vs){k:Nat}(hk:k<=vs.length)(w:List Rat):aO (dM n vs k) w=aO (eG (vs.take k)) w:=by rw[<- BF,MW g k hk,BF]
theorem aI1 {l:List Rat}{k i:Nat}{x:Rat}:(l.set k x).getD i 0=x \/ (l.set k x).getD i 0=l.getD i 0:=by
 rw[jh,jh,List.getElem?_set];by_cases h:k=i
 .rw[if_pos h];by_cases h2:k<l.length
  .rw[if_pos h2];exact .inl rfl
  .rw[if_neg h2,List.getElem?_eq_none (by omega)];exact .inr rfl
 .rw[if_neg h];exact .inr rfl
theorem Kv {n:Nat}{vs:List (List Rat)}(g:vV vs)(hl:∀ v,v ∈ vs->v.length=n)(n6:vs.length<=6)(zv:∀ v,v ∈ vs->∀ i,sz (v.getD i 0)<=16777215):∀ k,k<=vs.length->TJ n vs.length (dM vs.length vs k)
 | 0,_=>⟨λ_ h=>(by cases h),λ_ h=>(by cases h),λ_ h=>(by cases h),λk r h=>(by cases h),Nat.zero_le _⟩
 | k + 1, h => by
  have R:=Kv g hl n6 zv k (by omega)
  have hm:=getD_mem (l:=vs) (i:=k) (by omega) []
  have hvl:=hl _ hm;have hz:=zv _ hm;have hg:bM (dM vs.length vs k) (vs.getD k [])=true:=by
   have:=g k (by omega)
   unfold bM at this ⊢
   rwa [LH g (by omega)]
  have hp:dX (aO (dM vs.length vs k) (vs.getD k []))<(aO (dM vs.length vs k) (vs.getD k [])).length:=vT.1 hg;have hrl:(aO (dM vs.length vs k) (vs.getD k [])).length=n:=(jk _ _).trans hvl;refine⟨λr hr=>?_,λr hr=>?_,λr hr=>?_,λj r hj=>?_,by rw[Aq];omega⟩
  .rcases uy hr with hr|hr
   .exact R.len r hr
   .rw[jJ hr];exact hrl
  .rcases uy hr with hr|hr
   .exact R.piv r hr
   .rw[jJ hr];exact⟨rfl,by rw[<- hrl];exact hp,tY hp⟩
  .rcases uy hr with hr|hr
   .exact R.cl r hr
   .rw[jJ hr];show ((jm _ _ _).set k 1).length=_;rw[List.length_set,uP,List.length_replicate]
  .rw[dM] at hj;have hkl:(dM vs.length vs k).length=k:=Aq k;rcases Nat.lt_or_ge j k with hjk|hjk
   .rw[List.getElem?_append_left (by omega)] at hj
    exact R.zr j r hj
   .rw[List.getElem?_append_right (by omega),hkl] at hj
    obtain⟨rfl⟩:j=k:=by
     rcases Nat.lt_or_ge 0 (j-k) with h1|h1
     .rw[List.getElem?_eq_none (by simp;omega)] at hj;cases hj
     .omega
    rw[Nat.sub_self] at hj;cases hj
    refine⟨λi=>?_,λi=>?_⟩
    .have h1:=R.zr.red hz i
     rwa [hkl] at h1
    .show sz (((jm _ _ _).set k 1).getD i 0)+1<=_
     have hb:1+1<=4 ^ k*(16777215+1):=Nat.le_trans (show 1+1<=16777215+1 by decide) (Nat.le_mul_of_pos_left _ (Pv k))
     rcases aI1 (l:=jm (dM vs.length vs k) (vs.getD k []) (List.replicate vs.length 0)) (k:=k) (i:=i) (x:=1) with e|e
     .rw[e,FO];exact hb
     .rw[e];have h1:=Gp (B:=16777215) (dM vs.length vs k) 0 (vs.getD k []) (List.replicate vs.length 0) (λk r hk=>by rw[Nat.zero_add];exact R.zr k r hk) (λi=>by rw[Nat.pow_zero,Nat.one_mul];have:=hz i;omega) (λi=>by rw[Nat.pow_zero,Nat.one_mul,wW,fH];decide) i
      rw[Nat.zero_add,hkl] at h1;exact h1
def ownRd:Nat->Option Nat
 | 42=>some 0
 | 43=>some 1
 | 44=>some 2
 | 45=>some 3
 | 46=>some 4
 | 47=>some 5
 | 48=>some 6
 | 49=>some 7
 | 50=>some 8
 | 51=>some 9
 | 52=>some 10
 | 53=>some 11
 | 54=>some 12
 | 55=>some 13
 | 56=>some 14
 | 57=>some 15
 | 58=>some 16
 | 59=>some 17
 | 60=>some 18
 | 61=>some 20
 | _=>none
theorem iG {t i:Nat}(h:ownRd t=some i):t=[42,43,44,45,46,47,48,49,50,51,52,53,54,55,56,57,58,59,60,0,61].getD i 0:=by
 unfold ownRd at h
 split at h <;> first|(cases h;rfl)|cases h
noncomputable def bt9 (v:List Rat)(N b c:Nat)(rs:List bZ)(k b7:Nat)(t:Nat)(β:Nat->Nat × Nat):V :=
 match t with
 | 42=>.ptr 7 b7 0
 | 43=>.d (dJ (aO (rs.take k) v))
 | 44=>.bI 1000 b rs.length c
 | 45=>.d (dI k)
 | 46=>.mJ 1000 b 2 k 0
 | 47=>.mJ 1000 b 2 k 0
 | 48=>.d (dJ (rs.getD k default).v)
 | 49=>.ag [.d (dB (fZ (fJ (aO (rs.take k) v) (rs.getD k default))).neg),.d (aH (fZ (fJ (aO (rs.take k) v) (rs.getD k default))).num),.d (aH (fZ (fJ (aO (rs.take k) v) (rs.getD k default))).den)]
 | 50=>.d (dJ (nY (aO (rs.take k) v) (rs.getD k default).v (fJ (aO (rs.take k) v) (rs.getD k default))))
 | 51=>.ptr 7 b7 1
 | 52=>.d (dJ (jm (rs.take k) v (List.replicate N 0)))
 | 53=>.bI 1000 b rs.length c
 | 54=>.d (dI k)
 | 55=>.mJ 1000 b 2 k 0
 | 56=>.mJ 1000 b 2 k 1
 | 57=>.d (dJ (rs.getD k default).c)
 | 58=>.ag [.d (dB (fZ (fJ (aO (rs.take k) v) (rs.getD k default))).neg),.d (aH (fZ (fJ (aO (rs.take k) v) (rs.getD k default))).num),.d (aH (fZ (fJ (aO (rs.take k) v) (rs.getD k default))).den)]
 | 59=>.bI 59 (β 59).1 N (β 59).2
 | 60=>.ptr 7 b7 0
 | 61=>.ptr 7 b7 1
 | _=>.junk
noncomputable abbrev bu0 (v:List Rat)(N b c:Nat)(rs:List bZ)(k b7:Nat):List Nj:=[⟨7,19,λβ=>.box b7 T.row [.d (dJ (nY (aO (rs.take k) v) (rs.getD k default).v (fJ (aO (rs.take k) v) (rs.getD k default)))),.d (dJ (jm (rs.take k) v (List.replicate N 0)))]⟩,⟨59,17,λβ=>.row (β 59).1 (β 59).2 T.Rat 3 ((nY (jm (rs.take k) v (List.replicate N 0)) (rs.getD k default).c (fJ (aO (rs.take k) v) (rs.getD k default))).map dQ)⟩]
theorem bu1 {p:Nat->Prop}(h0:p 0)(h1:p 1)(h2:p 2)(h3:p 3)(h4:p 4)(h5:p 5)(h6:p 6)(h7:p 7)(h8:p 8)(h9:p 9)(h10:p 10)(h11:p 11)(h12:p 12)(h13:p 13)(CO:p 14)(h15:p 15)(h16:p 16)(h17:p 17)(h18:p 18)(h19:p 19)(h20:p 20):∀ i,i<21->p i:=λi hi=>by
 have:i=0 \/ i=1 \/ i=2 \/ i=3 \/ i=4 \/ i=5 \/ i=6 \/ i=7 \/ i=8 \/ i=9 \/ i=10 \/ i=11 \/ i=12 \/ i=13 \/ i=14 \/ i=15 \/ i=16 \/ i=17 \/ i=18 \/ i=19 \/ i=20:=by omega
 rcases this with rfl|rfl|rfl|rfl|rfl|rfl|rfl|rfl|rfl|rfl|rfl|rfl|rfl|rfl|rfl|rfl|rfl|rfl|rfl|rfl|rfl <;> assumption
structure bI6 (m:lZ):Prop where
 len:∀ v,v ∈ (aV (ah [dZ m 2 3])).map (Zr (xA (dZ m 2 3)) (FB (ah [dZ m 2 3])))->v.length=(FB (ah [dZ m 2 3])).length
 sz:∀ v,v ∈ (aV (ah [dZ m 2 3])).map (Zr (xA (dZ m 2 3)) (FB (ah [dZ m 2 3])))->∀ i,Go.AL.sz (v.getD i 0)<=16777215
 grow:vV ((aV (ah [dZ m 2 3])).map (Zr (xA (dZ m 2 3)) (FB (ah [dZ m 2 3]))))
theorem bh7 {α β:Type}{f:α->β}{d:α}{e:β}{l:List α}{i:Nat}(hi:i<l.length):(l.map f).getD i e=f (l.getD i d):=by
 rw[jh,List.getElem?_map,lQ hi,jh,lQ hi];rfl
theorem aI2 {v w:List Rat}{c:Rat}(nl:v.length<=64)(hw:v.length<=w.length)(zv:∀ i,sz (v.getD i 0)<=17179869183)(zw:∀ i,sz (w.getD i 0)<=17179869183)(zc:sz c<=34359738366):kU P F.vw [.d (dJ v),.d (dJ w),vQ c] v.length T.Rat 3 ((nY v w c).map dQ):=by
 have hll:=Am (v:=v) (w:=w) (c:=c);refine kU.intro fn.vw (by rfl) (by rfl) (ay (by rfl)) 6 rfl λE hE=>(AW.sg hE rfl (iO rfl rfl λb5=>(jK rfl (OL.nil (AW.sg hE rfl (jK rfl (OL.nil ?_)))))))
 refine AW.seq (AW.seq (AW.own 7 28 T.Rat 3 rfl rfl (AW.rg hE rfl (aF rfl (OL.nil (AW.block ?_))))));refine AW.aY (α:=Nat × Nat × Nat) [(0,_),(1,_),(5,_),(6,_)] [(5,_)] (λ(i,bq,cq)=>[(7,.bI 28 bq i cq),(8,.d (dI i))]) (λ(i,bq,cq)=>[(28,.row bq cq T.Rat 3 ((Gn v w c i).map dQ))]) (λ(i,bq,cq)=>i<=v.length) (λ(i,bq,cq)=>v.length-i) (0,0,0) (.cons (di rfl) (.cons (di rfl) (.cons (iw rfl) (.cons (xK rfl) .nil)))) (.cons (je rfl) .nil) ⟨Nat.zero_le _,.iW,.cons rfl .nil⟩ ?_
 rintro⟨i,bq,cq⟩ h1
 have h1:i<=v.length:=h1;have z1:=zv i;have z2:=zw i;have z3:=lu (w.getD i 0) c;refine AW.seq (AW.sg hE rfl (aj rfl (aj rfl (fF sl.bg rfl rfl (bG rfl rfl rfl (OL.nil (AW.cond rfl (λh12=>?_) (λh12=>?_))))))))
 .try simp only[fD] at h12
  refine AW.skip (AW.seq (AW.block (AW.dg 2 [0,1,2,3,4,5,6,7,8,9,10,11,12,13,14] ak hE rfl (by kernel_rfl) (OI.aK (os:=[_,_,_,_,_,_,_,_,_,_,_,_,_,_,_]) rfl ?_))))
  refine iU rfl (aj rfl (aj rfl (dR sl.bg 0 rfl rfl (by omega) rfl rfl (iD ag.Rat rfl (vs:=[_,_,_]) rfl (ay rfl) (aj rfl (aj rfl (dR sl.bg 0 rfl rfl (by omega) rfl rfl ?_)))))))
  refine iD ag.Rat rfl (vs:=[_,_,_]) rfl (ay rfl) (aQ ag.Rat rfl rfl (vs:=[_,_,_]) rfl (ay rfl) (bH rfl vL (Ea (x:=w.getD i 0) (y:=c) (by omega) (by omega)) (bH rfl vL (OX (x:=v.getD i 0) (y:=w.getD i 0*c) (by omega) (by omega)) (rF (y:=dQ (v.getD i 0-w.getD i 0*c)) sl.bg BJ rfl (by decide) ?_))))
  refine xZ sl.bg rfl rfl rfl (by rw[dA,List.length_take];omega) (VC.d _) (λy hy=>by rw[jJ hy];rfl) (by simp only[iY];omega) (by simp only[iY];omega) (.inr rfl) (ys:=(Gn v w c (i+1)).map dQ) (by rw[Qp (by omega),List.map_append];rfl) (n2:=i+1) rfl λb28 c28=>?_
  refine pV rfl (OL.nil (AW.rg hE rfl (aj rfl (aI rfl rfl (by omega) (aF rfl (OL.nil ?_))))))
  exact AW.again (x:=(i,bq,cq)) (i+1,b28,c28) (by (simp only[];omega)) ⟨by omega,Knows.app .LV .iW,dL.app (.cons rfl .nil) (.cons rfl .nil)⟩
 .try simp only[fD] at h12
  refine AW.exit (AW.seq ?_);obtain rfl:i=v.length:=by omega
  refine AW.rg hE rfl (iU rfl (pV rfl (OL.nil ?_)));exact AW.ret ⟨.inr rfl,28,bq,cq,(Gn v w c v.length).map dQ,rfl,rfl,by rw[show Gn v w c v.length=nY v w c from List.take_of_length_le (by omega),dA];omega,by rw[show Gn v w c v.length=nY v w c from List.take_of_length_le (by omega)];exact List.take_of_length_le (by rw[dA];omega)⟩
theorem Zx {v:List Rat}{n N b c:Nat}{rs:List bZ}(R:TJ n N rs)(hv:v.length=n)(n6:n<=6)(N6:N<=6)(zv:∀ i,sz (v.getD i 0)<=16777215):jA P F.tC [.bI 1000 b rs.length c,.d (dJ v),.d (dI N)] (mem1 1000 (MR b c rs)) (λz:Nat × Nat=>.ag [.d (dJ (aO rs v)),.bI 1001 z.1 N z.2]) (λz=>mem2 1000 (MR b c rs) 1001 (.row z.1 z.2 T.Rat 3 ((jm rs v (List.replicate N 0)).map dQ))) (λ_=>True):=by
 have hle:=R.le;refine jA.intro fn.tC (by rfl) (by rfl) (ay (by rfl)) λE hE=>(AW.sg hE rfl (al z.row rfl λb6=>(OL.nil (AW.seq (AW.dg 32 [0,1,2,3,4,5,6] ak hE rfl (by kernel_rfl) (OI.aK (os:=[_,_,_,_,_,_,_]) rfl ?_))))))
 refine aj rfl (bH rfl vL (NU (l:=v) (by omega) (λi=>Nat.le_trans (zv i) (by decide))) (aj rfl (ba9 dQ 0 sl.bg z.Rat Dj (n:=N) (cp:=N) rfl rfl (Nat.le_refl _) (by omega) (by omega) rfl rfl λb14=>(L6 (cs:=[_,_]) z.row pl.row (lI (uG rfl) (lI (evO rfl) LZ)) (by rfl) (al z.row rfl λb7=>(fA sz.row rfl rfl rfl rfl rfl (ay rfl) (cells2:=[_,_]) rfl (OL.nil ?_)))))))
 refine AW.seq (AW.seq (AW.rename 14 59 rfl (AW.oZ 7 [.d (dJ v),.bI 59 b14 N N] rfl (.cons vR (.cons bW.bI .nil)) (AW.rg hE rfl (aF rfl (OL.nil (AW.block ?_)))))));refine AW.aY (α:=Nat × Nat × Nat) [(0,_),(6,_),(7,_)] [(6,_),(1000,_)] (λ(k,bt,ct)=>[(8,.d (dI k))]) (λ(k,bt,ct)=>[(7,.box b7 T.row [.d (dJ (aO (rs.take k) v)),.bI 59 bt N ct]),(59,.row bt ct T.Rat 3 ((jm (rs.take k) v (List.replicate N 0)).map dQ))]) (λ(k,bt,ct)=>k<=rs.length) (λ(k,bt,ct)=>rs.length-k) (0,b14,N) (.cons (zA rfl) (.cons (iw rfl) (.cons (iw rfl) .nil))) (.cons (je rfl) (.cons (qZ rfl) .nil)) ⟨Nat.zero_le _,.dD,.cons rfl (.cons rfl .nil)⟩ ?_
 rintro⟨k,bt,ct⟩ h1
 have h1:k<=rs.length:=h1;have hwl:(aO (rs.take k) v).length=v.length:=jk _ _;have htl:(jm (rs.take k) v (List.replicate N 0)).length=N:=by rw[uP,List.length_replicate]
 refine AW.seq (AW.sg hE rfl (aj rfl (iU rfl (Vq sl.rows rfl rfl (bG rfl rfl rfl (OL.nil (AW.cond rfl (λh19=>?_) (λh19=>?_))))))))
 .try simp only[fD] at h19
  refine AW.skip (AW.seq (AW.block (AW.seq ?_)));have hkr:k<rs.length:=by omega
  obtain⟨zw,zt,zr,zc⟩:=R.bounds (w:=v) hkr zv;obtain⟨hp1,hp2,hp3⟩:=R.piv _ (pR hkr);have hrl:=R.len _ (pR hkr);have hcl:=R.cl _ (pR hkr);have zq:=O1 ((aO (rs.take k) v).getD (rs.getD k default).p 0) ((rs.getD k default).v.getD (rs.getD k default).p 0);have zq1:=zw (rs.getD k default).p;have zq2:=zr (rs.getD k default).p;have zqq:sz (fJ (aO (rs.take k) v) (rs.getD k default))<=34359738366:=Nat.le_trans zq (by omega)
  have hpl:CU (rs.getD k default).v=((rs.getD k default).p:Int):=(BA (by rw[<- hp1];omega)).trans (by rw[<- hp1])
  refine AW.rg hE rfl (iU rfl (aj rfl (jv sl.rows rfl rfl hkr (faE fd.Bj rfl rfl (Uj ce.bg (by decide) rfl rfl (JZ hkr) (d:=dJ (rs.getD k default).v) rfl (bH rfl vL (J3 (v:=(rs.getD k default).v) (by omega) (λi=>Nat.le_trans (zr i) (by decide))) ?_))))))
  rw[hpl];refine aF rfl (OL.nil (AW.seq (AW.dg 1 [0,1,2,3,4,5,6,7,8,9,10,11,12,13,14,15] ak hE rfl (by kernel_rfl) (OI.aK (os:=[_,_,_,_,_,_,_,_,_,_,_,_,_,_,_,_]) rfl ?_))))
  refine bC fd.Bj rfl rfl (aG ce.bg rfl rfl rfl (aj rfl (dR sl.bg 0 rfl rfl (by omega) rfl rfl (iD ag.Rat rfl (vs:=[_,_,_]) rfl (ay rfl) (iU rfl (aj rfl (jv sl.rows rfl rfl hkr ?_)))))))
  refine faE fd.Bj rfl rfl (Uj ce.bg (by decide) rfl rfl (JZ hkr) (d:=dJ (rs.getD k default).v) rfl (aj rfl (dR sl.bg 0 rfl rfl (by omega) rfl rfl (iD ag.Rat rfl (vs:=[_,_,_]) rfl (ay rfl) (bH rfl vL (Xy (x:=(aO (rs.take k) v).getD (rs.getD k default).p 0) (y:=(rs.getD k default).v.getD (rs.getD k default).p 0) (by omega) (by omega) hp3) ?_)))))
  rw[<- UX];refine al z.Rat rfl λb10=>(fA sz.Rat rfl rfl rfl rfl rfl (ay rfl) (cells2:=[_,_,_]) rfl (OL.nil (AW.freeze 59 rfl (AW.oZ 7 [.d (dJ (aO (rs.take k) v)),.d (dJ (jm (rs.take k) v (List.replicate N 0)))] rfl (.cons vR (.cons (dP (by rw[dA,htl]) rfl) .nil)) ?_))))
  have hlv:=Va (v:=(aO (rs.take k) v)) (w:=(rs.getD k default).v) (c:=(fJ (aO (rs.take k) v) (rs.getD k default))) (by omega) (by omega) zw zr zqq
  have hlc:kU P F.vw [.d (dJ (jm (rs.take k) v (List.replicate N 0))),.d (dJ (rs.getD k default).c),vQ (fJ (aO (rs.take k) v) (rs.getD k default))] N T.Rat 3 ((nY (jm (rs.take k) v (List.replicate N 0)) (rs.getD k default).c (fJ (aO (rs.take k) v) (rs.getD k default))).map dQ):=by
   have h:=aI2 (v:=(jm (rs.take k) v (List.replicate N 0))) (w:=(rs.getD k default).c) (c:=(fJ (aO (rs.take k) v) (rs.getD k default))) (by omega) (by omega) zt zc zqq
   rwa [htl] at h
  refine AW.sN (bt9 v N b c rs k b7) ownRd (bu0 v N b c rs k b7) 21 ak (by rw[hE];rfl) (by rfl) (by kernel_rfl) (by kernel_rfl) ?_ ?_
  .refine bu1 ?_ ?_ ?_ ?_ ?_ ?_ ?_ ?_ ?_ ?_ ?_ ?_ ?_ ?_ ?_ ?_ ?_ ?_ ?_ ?_ ?_
   .exact λβ L c9=>⟨_,rfl,.inl (OG.aK (bC (b:=b7) (o:=0) (id:=7) fd.Bj ((bT rfl).trans rfl) rfl ⟨β,bY (d:=42) (i:=0) rfl (λt ht=>iG ht) (lt_size 22 c9.size rfl (by decide)) (aX (lt_size 22 c9.size rfl (by decide)) (by rfl))⟩))⟩
   .exact λβ L c9=>⟨_,rfl,.inl (OG.aK (aG ce.bg (bK rfl (aU (j:=0) c9 (by kernel_rfl))) ((gI (wB (by exact vg c9 (by kernel_rfl)) (aB (show (7:Nat)≠59 by decide) rfl))):_=some (.box b7 T.row [.d (dJ (aO (rs.take k) v)),.d (dJ (jm (rs.take k) v (List.replicate N 0)))])) (v:=.d (dJ (aO (rs.take k) v))) rfl ⟨β,bY (d:=43) (i:=1) rfl (λt ht=>iG ht) (lt_size 22 c9.size rfl (by decide)) (aX (lt_size 22 c9.size rfl (by decide)) (by rfl))⟩))⟩
   .exact λβ L c9=>⟨_,rfl,.inl (OG.aK (iU ((bT rfl).trans rfl) ⟨β,bY (d:=44) (i:=2) rfl (λt ht=>iG ht) (lt_size 22 c9.size rfl (by decide)) (aX (lt_size 22 c9.size rfl (by decide)) (by rfl))⟩))⟩
   .exact λβ L c9=>⟨_,rfl,.inl (OG.aK (aj (y:=dI k) ((bT rfl).trans rfl) ⟨β,bY (d:=45) (i:=3) rfl (λt ht=>iG ht) (lt_size 22 c9.size rfl (by decide)) (aX (lt_size 22 c9.size rfl (by decide)) (by rfl))⟩))⟩
   .exact λβ L c9=>⟨_,rfl,.inl (OG.aK (jv sl.rows (bK rfl (aU (j:=2) c9 (by kernel_rfl))) (bK rfl (aU (j:=3) c9 (by kernel_rfl))) hkr ⟨β,bY (d:=46) (i:=4) rfl (λt ht=>iG ht) (lt_size 22 c9.size rfl (by decide)) (aX (lt_size 22 c9.size rfl (by decide)) (by rfl))⟩))⟩
   .exact λβ L c9=>⟨_,rfl,.inl (OG.aK (faE fd.Bj (bK rfl (aU (j:=4) c9 (by kernel_rfl))) rfl ⟨β,bY (d:=47) (i:=5) rfl (λt ht=>iG ht) (lt_size 22 c9.size rfl (by decide)) (aX (lt_size 22 c9.size rfl (by decide)) (by rfl))⟩))⟩
   .exact λβ L c9=>⟨_,rfl,.inl (OG.aK (Uj ce.bg rfl (bK rfl (aU (j:=5) c9 (by kernel_rfl))) ((gI (aB (show (1000:Nat)≠7 by decide) (aB (show (1000:Nat)≠59 by decide) rfl))):_=some (MR b c rs)) (JZ hkr) (d:=dJ (rs.getD k default).v) rfl ⟨β,bY (d:=48) (i:=6) rfl (λt ht=>iG ht) (lt_size 22 c9.size rfl (by decide)) (aX (lt_size 22 c9.size rfl (by decide)) (by rfl))⟩))⟩
   .exact λβ L c9=>⟨_,rfl,.inl (OG.aK (aQ ag.Rat (id:=10) (b:=b10) (o:=0) ((bT rfl).trans rfl) ((gI (aB (show (10:Nat)≠7 by decide) (aB (show (10:Nat)≠59 by decide) rfl))):_=some (.box b10 T.Rat [.d (dB (fZ (fJ (aO (rs.take k) v) (rs.getD k default))).neg),.d (aH (fZ (fJ (aO (rs.take k) v) (rs.getD k default))).num),.d (aH (fZ (fJ (aO (rs.take k) v) (rs.getD k default))).den)])) (vs:=[.d (dB (fZ (fJ (aO (rs.take k) v) (rs.getD k default))).neg),.d (aH (fZ (fJ (aO (rs.take k) v) (rs.getD k default))).num),.d (aH (fZ (fJ (aO (rs.take k) v) (rs.getD k default))).den)]) rfl (ay rfl) ⟨β,bY (d:=49) (i:=7) rfl (λt ht=>iG ht) (lt_size 22 c9.size rfl (by decide)) (aX (lt_size 22 c9.size rfl (by decide)) (by rfl))⟩))⟩
   .exact λβ L c9=>⟨_,rfl,.inl (OG.aK (bH rfl (.cons (au (bK rfl (aU (j:=1) c9 (by kernel_rfl)))) (.cons (au (bK rfl (aU (j:=6) c9 (by kernel_rfl)))) (.cons (au (bK rfl (aU (j:=7) c9 (by kernel_rfl)))) .nil))) hlv ⟨β,bY (d:=50) (i:=8) rfl (λt ht=>iG ht) (lt_size 22 c9.size rfl (by decide)) (aX (lt_size 22 c9.size rfl (by decide)) (by rfl))⟩))⟩
   .exact λβ L c9=>⟨_,rfl,.inl (OG.aK (bC (b:=b7) (o:=0) (id:=7) fd.Jt ((bT rfl).trans rfl) rfl ⟨β,bY (d:=51) (i:=9) rfl (λt ht=>iG ht) (lt_size 22 c9.size rfl (by decide)) (aX (lt_size 22 c9.size rfl (by decide)) (by rfl))⟩))⟩
   .exact λβ L c9=>⟨_,rfl,.inl (OG.aK (aG ce.bg (bK rfl (aU (j:=9) c9 (by kernel_rfl))) ((gI (wB (by exact vg c9 (by kernel_rfl)) (aB (show (7:Nat)≠59 by decide) rfl))):_=some (.box b7 T.row [.d (dJ (aO (rs.take k) v)),.d (dJ (jm (rs.take k) v (List.replicate N 0)))])) (v:=.d (dJ (jm (rs.take k) v (List.replicate N 0)))) rfl ⟨β,bY (d:=52) (i:=10) rfl (λt ht=>iG ht) (lt_size 22 c9.size rfl (by decide)) (aX (lt_size 22 c9.size rfl (by decide)) (by rfl))⟩))⟩
   .exact λβ L c9=>⟨_,rfl,.inl (OG.aK (iU ((bT rfl).trans rfl) ⟨β,bY (d:=53) (i:=11) rfl (λt ht=>iG ht) (lt_size 22 c9.size rfl (by decide)) (aX (lt_size 22 c9.size rfl (by decide)) (by rfl))⟩))⟩
   .exact λβ L c9=>⟨_,rfl,.inl (OG.aK (aj (y:=dI k) ((bT rfl).trans rfl) ⟨β,bY (d:=54) (i:=12) rfl (λt ht=>iG ht) (lt_size 22 c9.size rfl (by decide)) (aX (lt_size 22 c9.size rfl (by decide)) (by rfl))⟩))⟩
   .exact λβ L c9=>⟨_,rfl,.inl (OG.aK (jv sl.rows (bK rfl (aU (j:=11) c9 (by kernel_rfl))) (bK rfl (aU (j:=12) c9 (by kernel_rfl))) hkr ⟨β,bY (d:=55) (i:=13) rfl (λt ht=>iG ht) (lt_size 22 c9.size rfl (by decide)) (aX (lt_size 22 c9.size rfl (by decide)) (by rfl))⟩))⟩
   .exact λβ L c9=>⟨_,rfl,.inl (OG.aK (faE fd.Jt (bK rfl (aU (j:=13) c9 (by kernel_rfl))) rfl ⟨β,bY (d:=56) (i:=14) rfl (λt ht=>iG ht) (lt_size 22 c9.size rfl (by decide)) (aX (lt_size 22 c9.size rfl (by decide)) (by rfl))⟩))⟩
   .exact λβ L c9=>⟨_,rfl,.inl (OG.aK (Uj ce.bg rfl (bK rfl (aU (j:=14) c9 (by kernel_rfl))) ((gI (aB (show (1000:Nat)≠7 by decide) (aB (show (1000:Nat)≠59 by decide) rfl))):_=some (MR b c rs)) (JZ hkr) (d:=dJ (rs.getD k default).c) rfl ⟨β,bY (d:=57) (i:=15) rfl (λt ht=>iG ht) (lt_size 22 c9.size rfl (by decide)) (aX (lt_size 22 c9.size rfl (by decide)) (by rfl))⟩))⟩
   .exact λβ L c9=>⟨_,rfl,.inl (OG.aK (aQ ag.Rat (id:=10) (b:=b10) (o:=0) ((bT rfl).trans rfl) ((gI (aB (show (10:Nat)≠7 by decide) (aB (show (10:Nat)≠59 by decide) rfl))):_=some (.box b10 T.Rat [.d (dB (fZ (fJ (aO (rs.take k) v) (rs.getD k default))).neg),.d (aH (fZ (fJ (aO (rs.take k) v) (rs.getD k default))).num),.d (aH (fZ (fJ (aO (rs.take k) v) (rs.getD k default))).den)])) (vs:=[.d (dB (fZ (fJ (aO (rs.take k) v) (rs.getD k default))).neg),.d (aH (fZ (fJ (aO (rs.take k) v) (rs.getD k default))).num),.d (aH (fZ (fJ (aO (rs.take k) v) (rs.getD k default))).den)]) rfl (ay rfl) ⟨β,bY (d:=58) (i:=16) rfl (λt ht=>iG ht) (lt_size 22 c9.size rfl (by decide)) (aX (lt_size 22 c9.size rfl (by decide)) (by rfl))⟩))⟩
   .exact λβ L c9=>⟨_,rfl,.inl (OG.aK (clR rfl (.cons (au (bK rfl (aU (j:=10) c9 (by kernel_rfl)))) (.cons (au (bK rfl (aU (j:=15) c9 (by kernel_rfl)))) (.cons (au (bK rfl (aU (j:=16) c9 (by kernel_rfl)))) .nil))) hlc (gI (aB (show (59:Nat)≠7 by decide) (wB (by exact c9.no) rfl))) λb8 c8=>⟨upd β 59 (b8,c8),Dk (d:=59) (i:=17) (x:=(b8,c8)) rfl (λt ht=>iG ht) (lt_size 22 c9.size rfl (by decide)) rfl (AY (lt_size 22 c9.size rfl (by decide)) (show (19:Nat)≠17 by decide) (.inl (show (7:Nat)≠59 by decide)) (by exact λ_=>rfl) (rU (lt_size 22 c9.size rfl (by decide)) rfl rfl rfl c9.no (by rfl) (λy hy=>absurd hy List.not_mem_nil))) (λt j ho hl=>by unfold ownRd at ho;split at ho <;> cases ho <;> first|rfl|(rw[c9.no] at hl;cases hl)|exact qL c9 (by kernel_rfl) hl)⟩))⟩
   .exact λβ L c9=>⟨_,rfl,.inl (OG.aK (bC (b:=b7) (o:=0) (id:=7) fd.Bj ((bT rfl).trans rfl) rfl ⟨β,bY (d:=60) (i:=18) rfl (λt ht=>iG ht) (lt_size 22 c9.size rfl (by decide)) (aX (lt_size 22 c9.size rfl (by decide)) (by rfl))⟩))⟩
   .exact λβ L c9=>⟨_,rfl,.inl (OG.aK (fA (id:=7) (b:=b7) (o:=0) (v:=.d (dJ (nY (aO (rs.take k) v) (rs.getD k default).v (fJ (aO (rs.take k) v) (rs.getD k default))))) sz.bg (bK rfl (aU (j:=18) c9 (by kernel_rfl))) (bK rfl (aU (j:=8) c9 (by kernel_rfl))) rfl ((gI (wB (by exact c9.no) (aB (show (7:Nat)≠59 by decide) rfl))):_=some (.box b7 T.row [.d (dJ (aO (rs.take k) v)),.d (dJ (jm (rs.take k) v (List.replicate N 0)))])) rfl (ay rfl) (cells2:=[.d (dJ (nY (aO (rs.take k) v) (rs.getD k default).v (fJ (aO (rs.take k) v) (rs.getD k default)))),.d (dJ (jm (rs.take k) v (List.replicate N 0)))]) rfl ⟨β,bb5 (λt ht=>by unfold ownRd at ht;split at ht <;> cases ht) (lt_size 22 c9.size rfl (by decide)) (rU (lt_size 22 c9.size rfl (by decide)) rfl rfl rfl c9.no (by rfl) (List.forall_mem_cons.2 ⟨(by exact λ_ _=>rfl),(λy hy=>absurd hy List.not_mem_nil)⟩))⟩))⟩
   .exact λβ L c9=>⟨_,rfl,.inl (OG.aK (bC (b:=b7) (o:=0) (id:=7) fd.Jt ((bT rfl).trans rfl) rfl ⟨β,bY (d:=61) (i:=20) rfl (λt ht=>iG ht) (lt_size 22 c9.size rfl (by decide)) (aX (lt_size 22 c9.size rfl (by decide)) (by rfl))⟩))⟩
  refine λβ L c9 hA=>⟨_,rfl,.inl (OG.aK (fA (id:=7) (b:=b7) (o:=1) (v:=.bI 59 (β 59).1 N (β 59).2) sz.bg (bK rfl (hA 20 (by decide))) (bK rfl (hA 17 (by decide))) rfl ((gI (uS (hA 19 (by decide)) rfl rfl)):_=some (.box b7 T.row [.d (dJ (nY (aO (rs.take k) v) (rs.getD k default).v (fJ (aO (rs.take k) v) (rs.getD k default)))),.d (dJ (jm (rs.take k) v (List.replicate N 0)))])) rfl (ay rfl) (cells2:=[.d (dJ (nY (aO (rs.take k) v) (rs.getD k default).v (fJ (aO (rs.take k) v) (rs.getD k default)))),.bI 59 (β 59).1 N (β 59).2]) rfl ?_))⟩
  refine OL.nil ?_;refine AW.to [(0,.bI 1000 b rs.length c),(6,.ptr 6 b6 0),(7,.ptr 7 b7 0),(8,.d (dI k))] [(6,.box b6 T.row [.mt,.mt]),(1000,MR b c rs),(7,.box b7 T.row [.d (dJ (nY (aO (rs.take k) v) (rs.getD k default).v (fJ (aO (rs.take k) v) (rs.getD k default)))),.bI 59 (β 59).1 N (β 59).2]),(59,.row (β 59).1 (β 59).2 T.Rat 3 ((nY (jm (rs.take k) v (List.replicate N 0)) (rs.getD k default).c (fJ (aO (rs.take k) v) (rs.getD k default))).map dQ))] (.cons (au (fV ((bT rfl).trans rfl))) (.cons (au (fV ((bT rfl).trans rfl))) (.cons (au (fV ((bT rfl).trans rfl))) (.cons (au (fV ((bT rfl).trans rfl))) .nil)))) (.cons (mr (by decide) (gI (aB (show (6:Nat)≠7 by decide) (aB (show (6:Nat)≠59 by decide) rfl)))) (.cons (mr (by decide) (gI (aB (show (1000:Nat)≠7 by decide) (aB (show (1000:Nat)≠59 by decide) rfl)))) (.cons NC (.cons (mr (by decide) (gI (aB (show (59:Nat)≠7 by decide) (uS (hA 17 (by decide)) rfl rfl)))) .nil)))) ?_
  generalize (β 59).1=b59;generalize (β 59).2=c59;refine AW.rg hE rfl (aj rfl (aI rfl rfl (by omega) (aF rfl (OL.nil ?_))))
  exact AW.again (x:=(k,bt,ct)) (k+1,b59,c59) (by (simp only[];omega)) ⟨by omega,Knows.app .yU .dD,dL.app (.cons rfl (.cons rfl .nil)) (.cons (by rw[Ai hkr,<- Qg];rfl) (.cons (by rw[TI hkr];rfl) .nil))⟩
 .try simp only[fD] at h19
  refine AW.exit (AW.seq ?_);obtain rfl:k=rs.length:=by omega
  have etk:rs.take rs.length=rs:=List.take_length;exact AW.rename 59 1001 rfl (AW.oZ 7 [.d (dJ (aO rs v)),.bI 1001 bt N ct] rfl (.cons (by rw[List.take_length];exact bW.refl _) (.cons bW.bI .nil)) (AW.rg hE rfl (aQ ag.row rfl rfl (vs:=[_,_]) rfl (ay rfl) (fA sz.row rfl rfl rfl rfl rfl (ay rfl) (cells2:=[_,_]) rfl (OL.nil (AW.ret ⟨(bt,ct),trivial,⟨_,.dN rfl rfl ag.row (ay rfl) .nil,.le vR⟩,aj3 rfl (show some (iF.row bt ct T.Rat 3 ((jm (rs.take rs.length) v (List.replicate N 0)).map dQ))=_ by rw[etk])⟩))))))
theorem Vk {vs:List (List Rat)}{n:Nat}(g:vV vs)(hl:∀ v,v ∈ vs->v.length=n)(n6:vs.length<=6)(nn:n<=6)(zv:∀ v,v ∈ vs->∀ i,sz (v.getD i 0)<=16777215):ai P F.EG [.d (.sl (vs.map dJ))] (.mM [.d (.sl ((dM vs.length vs vs.length).map dSK)),.d (dB true)]):=by
 refine ai.intro fn.EG (by rfl) (by rfl) (ay (by rfl)) λE hE=>(AW.sg hE rfl (jK rfl (aF rfl (OL.nil (AW.sg hE rfl (jK rfl (OL.nil ?_)))))))
 refine AW.seq (AW.seq (AW.own 4 33 T.row 2 rfl rfl (AW.rg hE rfl (aF rfl (OL.nil (AW.block ?_))))));refine AW.aY (α:=Nat × Nat × Nat) [(0,_)] [] (λ(i,bo,co)=>[(4,.bI 33 bo (dM vs.length vs i).length co),(5,.d (dI i))]) (λ(i,bo,co)=>[(33,MR bo co (dM vs.length vs i))]) (λ(i,bo,co)=>i<=vs.length) (λ(i,bo,co)=>vs.length-i) (0,0,0) (.cons (di rfl) .nil) .nil ⟨Nat.zero_le _,.iW,.cons rfl .nil⟩ ?_
 rintro⟨i,bo,co⟩ h1
 have h1:i<=vs.length:=h1;refine AW.seq (AW.sg hE rfl (aj rfl (aj rfl (fF sl.dw rfl rfl (bG rfl rfl rfl (OL.nil (AW.cond rfl (λh10=>?_) (λh10=>?_))))))))
 .try simp only[fD] at h10
  refine AW.skip (AW.seq (AW.block (AW.seq ?_)));have hi:i<vs.length:=by omega
  have R:=Kv g hl n6 zv i h1;have hvi:=hl _ (getD_mem hi []);have zvi:=zv _ (getD_mem hi []);have hkl:(dM vs.length vs i).length=i:=Aq i;have hg:bM (dM vs.length vs i) (vs.getD i [])=true:=by
   have:=g i hi;unfold bM at this ⊢
   rwa [LH g h1]
  have hcl:(jm (dM vs.length vs i) (vs.getD i []) (List.replicate vs.length 0)).length=vs.length:=by rw[uP,List.length_replicate]
  have hle:=R.le;obtain⟨zl,_⟩:=R.zr.last hle zvi;refine AW.rename 33 1000 rfl (AW.sO (by rw[hE];rfl) (SK.gV (iU rfl (OL.nil ?_))))
  refine SK.gV (aj rfl (OL.nil ?_));refine SK.gV (aj rfl (OL.nil ?_));refine SK.gV (dR sl.dw [] rfl rfl hi rfl rfl (OL.nil ?_));refine SK.gV (iE ce.bg rfl (OL.nil ?_));refine SK.gV (aj rfl (OL.nil ?_));refine SK.gV (fF sl.dw rfl rfl (OL.nil ?_));refine SK.Hu (SO.bh6 (args':=[.bI 1000 bo (dM vs.length vs i).length co,.d (dJ (vs.getD i [])),.d (dI vs.length)]) (show 20<E.n by rw[hE];exact Nat.le_of_ble_eq_true (by rfl)) rfl (.cons bW.bI .iW) (Mc:=mem1 1000 (MR bo co (dM vs.length vs i))) (fP rfl) (Zx (N:=vs.length) (b:=bo) (c:=co) R hvi nn n6 zvi) ?_)
  rintro⟨bt,ct⟩ -
  refine SK.gV (al z.row rfl λb6=>OL.nil ?_);refine SK.gV (fA sz.row rfl rfl rfl rfl rfl (ay rfl) (cells2:=[_,_]) rfl (OL.nil ?_));refine SK.nil ?_;refine AW.to [(0,.d (.sl (vs.map dJ))),(4,.bI 33 bo (dM vs.length vs i).length co),(5,.d (dI i)),(6,.ptr 6 b6 0)] [(1000,MR bo co (dM vs.length vs i)),(6,.box b6 T.row [.d (dJ (aO (dM vs.length vs i) (vs.getD i []))),.bI 1001 bt vs.length ct]),(1001,.row bt ct T.Rat 3 ((jm (dM vs.length vs i) (vs.getD i []) (List.replicate vs.length 0)).map dQ))] (.cons vR (.cons bW.bI .iW)) (.cons rfl (.cons rfl (.cons rfl .nil))) ?_;refine AW.rename 1000 33 rfl (AW.seq (AW.sg hE rfl (bC fd.Bj rfl rfl (aG ce.bg rfl rfl rfl (bH rfl vL (J3 (v:=(aO (dM vs.length vs i) (vs.getD i []))) (by rw[jk];omega) (λj=>Nat.le_trans (zl j) (by decide))) (bG rfl rfl (c:=false) (decide_eq_false λh=>by rw[Ec.1 h] at hg;cases hg) (OL.nil ?_)))))))
  refine oH rfl ?_;refine AW.skip (AW.seq (AW.dg 1 [0,1,2,3,4,5] ak hE rfl (by kernel_rfl) (OI.aK (os:=[_,_,_,_,_,_]) rfl ?_)))
  refine bC fd.Jt rfl rfl (aG ce.bg rfl rfl rfl (aj rfl (bH rfl vL (CW (n:=1) (d:=1) (by decide) (by decide) (by decide)) ?_)))
  rw[aI0];refine jv sl.bg rfl rfl (by omega) (LQ sz.Rat rfl (d:=dQ 1) BJ rfl rfl (by rw[dA];omega) (es2:=((jm (dM vs.length vs i) (vs.getD i []) (List.replicate vs.length 0)).set i 1).map dQ) (by rw[List.map_set]) (OL.nil ?_))
  refine AW.freeze 1001 rfl (AW.oZ 6 [.d (dJ (aO (dM vs.length vs i) (vs.getD i []))),.d (dJ ((jm (dM vs.length vs i) (vs.getD i []) (List.replicate vs.length 0)).set i 1))] rfl (.cons vR (.cons (dP (by rw[dA,List.length_set,hcl]) rfl) .nil)) ?_)
  refine AW.rg hE rfl (iU rfl (aQ ag.row rfl rfl (vs:=[_,_]) rfl (ay rfl) ?_));refine rF (y:=dSK (⟨(aO (dM vs.length vs i) (vs.getD i [])),((jm (dM vs.length vs i) (vs.getD i []) (List.replicate vs.length 0)).set i 1),dX (aO (dM vs.length vs i) (vs.getD i []))⟩:bZ)) sl.rows (bs2 (r:=(⟨(aO (dM vs.length vs i) (vs.getD i [])),((jm (dM vs.length vs i) (vs.getD i []) (List.replicate vs.length 0)).set i 1),dX (aO (dM vs.length vs i) (vs.getD i []))⟩:bZ))) rfl (by decide) ?_
  refine xZ sl.rows rfl rfl rfl (dA ..).symm (VC.d _) (λy hy=>by rw[jJ hy];rfl) (by simp only[iY];omega) (by simp only[iY];omega) (.inr rfl) (ys:=(dM vs.length vs (i+1)).map dSK) (by rw[dM,List.map_append];rfl) (n2:=(dM vs.length vs (i+1)).length) (by rw[dM,jd];rfl) λb33 c33=>?_
  exact pV rfl (OL.nil (AW.rg hE rfl (aj rfl (aI rfl rfl (by omega) (aF rfl (OL.nil (AW.again (x:=(i,bo,co)) (i+1,b33,c33) (by (simp only[];omega)) ⟨by omega,Knows.app .dD .iW,.cons rfl .nil⟩)))))))
 .try simp only[fD] at h10
  refine AW.exit (AW.seq ?_);obtain rfl:i=vs.length:=by omega
  exact AW.rg hE rfl (iU rfl (pV rfl (aF rfl (OL.nil (AW.ret (aP.r ⟨_,.tmp rfl (.tmp rfl .nil),_,.cons (RO.all rfl rfl (dA ..).symm rfl) (.cons (.le vR) .nil),rfl⟩))))))
theorem aI3 {vs:List (List Rat)}{n:Nat}(g:vV vs)(hl:∀ v,v ∈ vs->v.length=n)(n6:vs.length<=6)(nn:n<=6)(zv:∀ v,v ∈ vs->∀ i,sz (v.getD i 0)<=16777215)(n1:1<=n):ai P F.Ci [.d (.sl (vs.map dJ))] (.d (dB true)):=by
 refine ai.intro fn.Ci (by rfl) (by rfl) (ay (by rfl)) λE hE=>(AW.sg hE rfl (aF rfl (OL.nil (AW.seq (AW.sg hE rfl (aj rfl (bH rfl vL (aG5 (l:=vs) (n:=n) (by omega) (by omega) hl) ?_)))))))
 refine nt rfl (aj rfl (OL.yes rfl (aj rfl (OL.yes rfl (fF sl.dw rfl rfl (OL.yes rfl (jI rfl rfl (c:=false) (by exact decide_eq_false (by omega)) ?_)))))))
 refine oI rfl rfl (OL.nil (oH rfl ?_));refine AW.skip (AW.sg hE rfl (aj rfl (bH rfl vL (Vk g hl n6 nn zv) (Di rfl (ex rfl rfl (ex rfl rfl (aF rfl ?_)))))));exact aF rfl (OL.nil (AW.sg hE rfl (aj rfl (aF rfl (OL.nil (AW.ret (aP.r ⟨_,.tmp rfl .nil,.le vR⟩)))))))
