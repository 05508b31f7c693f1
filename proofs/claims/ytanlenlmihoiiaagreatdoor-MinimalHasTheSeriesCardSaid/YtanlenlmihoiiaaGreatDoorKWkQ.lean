/-
  Walks of package rows, part 5: the machine of some automata (printed by mk2.py).
-/
import Derived.Test.YtanlenlmihoiiaaGreatDoorKWkO
set_option maxRecDepth 8000
set_option maxHeartbeats 12800000
set_option linter.unusedVariables false
set_option linter.unusedSimpArgs false
namespace Go.Proofs.YtanlenlmihoiiaaGreatDoor
open Go Go.AL
theorem YB (l:List Rat):FQ false l=l:=by
 have e:(λx:Rat=>if (false=true) then -x else x)=id:=by funext x;rw[if_neg Bool.false_ne_true];rfl
 unfold FQ;rw[e,List.map_id]
theorem WJ {l:List Au}{k:Nat}(hk:k<l.length):Af l (k+1)=Af l k++FQ (decide ((0:Int)<(k:Int))) (l.getD k default).fin:=by
 rcases Nat.eq_zero_or_pos k with h0|h0
 .subst h0;rw[Wn hk,show decide ((0:Int)<((0:Nat):Int))=false from rfl,YB];rfl
 .rw[Rw hk h0,show decide ((0:Int)<(k:Int))=true from decide_eq_true (by omega)]
  congr 1
theorem yB (l:List Au)(k:Nat):aK (l.take k)<=aK l:=by
 have h:aK l=aK (l.take k)+aK (l.drop k):=by rw[<- Ru,List.take_append_drop]
 omega
def wQ (f:Nat->Nat)(a b:Nat):Nat->Nat:=λk=>if k=a then b else f k
theorem JK {f:Nat->Nat}{a b:Nat}:wQ f a b a=b:=if_pos rfl
theorem JL {f:Nat->Nat}{a b k:Nat}(h:k≠a):wQ f a b k=f k:=if_neg h
abbrev Qm (N:Nat)(f:Nat->Rat):List D:=((List.range N).map f).map dQ
theorem Dh {N:Nat}{f:Nat->Rat}:(Qm N f).length=N:=by simp[Qm]
def PP (K N:Nat)(bp:Nat->Nat)(c:Nat->Nat->Nat->Rat):List (Nat × List D):=(List.range K).map λk=>(bp k,Qm N (c (k / N) (k % N)))
def HR (N s:Nat)(bp:Nat->Nat):List D:=(List.range N).map λi=>GX (bp (s*N+i)) N N
def HF (N s:Nat)(bp:Nat->Nat)(i:Nat):List D:=oh (gm []) (λi=>GX (bp (s*N+i)) N N) N i
def QQ (S N:Nat)(bq bp:Nat->Nat):List (Nat × List D):=(List.range S).map λs=>(bq s,HR N s bp)
def OF (S N:Nat)(bq:Nat->Nat)(s:Nat):List D:=oh (kN []) (λk=>GX (bq k) N N) S s
section
variable {K N S s i k b:Nat}{bp bq:Nat->Nat}{c d:Nat->Nat->Nat->Rat}
theorem L8 {α:Type}{x:α}{g h:Nat->α}{n i:Nat}(e:∀ j,j<i->g j=h j):oh x g n i=oh x h n i:=by
 unfold oh;refine List.map_congr_left λj _=>?_
 split
 .exact e j ‹_›
 .rfl
theorem YC:(OF S N bq s).length=S:=vG ..
theorem YD:(HF N s bp i).length=N:=vG ..
theorem aC4:(HR N s bp).length=N:=by simp[HR]
theorem bf0:(QQ S N bq bp).length=S:=by simp[QQ]
theorem YE:(PP K N bp c).length=K:=by simp[PP]
theorem bf1 (hs:s<S):(OF S N bq s).set s (GX b N N)=OF S N (wQ bq s b) (s+1):=by
 have e:OF S N bq s=OF S N (wQ bq s b) s:=L8 λj hj=>by rw[JL (by omega)]
 rw[e,<- show (OF S N (wQ bq s b) s).set s (GX (wQ bq s b s) N N)=OF S N (wQ bq s b) (s+1) from qM (g:=λk=>GX (wQ bq s b k) N N) hs,JK]
theorem aZ8 (hs:s<k)(hk:s<S):(OF S N bq k)[s]? = some (GX (bq s) N N):=by
 unfold OF oh;rw[List.getElem?_map,List.getElem?_range hk,Option.map_some,if_pos hs]
theorem bf2 (hi:i<N):(HF N s bp i).set i (GX b N N)=HF N s (wQ bp (s*N+i) b) (i+1):=by
 have e:HF N s bp i=HF N s (wQ bp (s*N+i) b) i:=L8 λj hj=>by rw[JL (by omega)]
 rw[e,<- show (HF N s (wQ bp (s*N+i) b) i).set i (GX (wQ bp (s*N+i) b (s*N+i)) N N)=HF N s (wQ bp (s*N+i) b) (i+1) from qM (g:=λi9=>GX (wQ bp (s*N+i) b (s*N+i9)) N N) hi,JK]
theorem bf3:HF N s bp N=HR N s bp:=by unfold HF HR;rw[CB]
theorem bf4 (h:s*N<=k):QQ s N bq (wQ bp k b)=QQ s N bq bp:=by
 unfold QQ;refine List.map_congr_left λt ht=>?_;have ht:=List.mem_range.1 ht;unfold HR;congr 1;refine List.map_congr_left λi hi=>?_;have hi:=List.mem_range.1 hi;have h1:t*N+N<=s*N:=by rw[<- Nat.succ_mul];exact Nat.mul_le_mul_right _ ht
 rw[JL (by omega)]
theorem br2 (h:s<=k):QQ s N (wQ bq k b) bp=QQ s N bq bp:=by
 unfold QQ;refine List.map_congr_left λt ht=>?_;have ht:=List.mem_range.1 ht;rw[JL (by omega)]
theorem aT1:QQ s N (wQ bq s b) bp++[(b,HR N s bp)]=QQ (s+1) N (wQ bq s b) bp:=by
 unfold QQ;rw[List.range_succ,List.map_append,List.map_singleton,JK]
theorem aT2:PP k N bp (λ_ _ _=>0)++[(b,(List.replicate N (0:Rat)).map dQ)]=PP (k+1) N (wQ bp k b) λ_ _ _=>0:=by
 have e:PP k N bp (λ_ _ _=>0)=PP k N (wQ bp k b) λ_ _ _=>0:=by
  unfold PP;refine List.map_congr_left λt ht=>?_;have ht:=List.mem_range.1 ht;rw[JL (by omega)]
 rw[e];unfold PP;rw[List.range_succ,List.map_append,List.map_singleton,JK];congr 4;rw[List.map_const',List.length_range]
theorem br3 (hs:s<S):(QQ S N bq bp)[s]? = some (bq s,HR N s bp):=by
 unfold QQ;rw[List.getElem?_map,List.getElem?_range hs];rfl
theorem br4 (hi:i<N):(HR N s bp)[i]? = some (GX (bp (s*N+i)) N N):=by
 unfold HR;rw[List.getElem?_map,List.getElem?_range hi];rfl
theorem divN (hi:i<N):(s*N+i) / N=s/\(s*N+i) % N=i:=by
 rw[Nat.mul_comm,Nat.mul_add_div (by omega),Nat.mul_add_mod,Nat.div_eq_of_lt hi,Nat.mod_eq_of_lt hi]
 exact⟨rfl,rfl⟩
theorem aC5 (hs:s<S)(hi:i<N):s*N+i<S*N:=by
 have h1:s*N+N<=S*N:=by rw[<- Nat.succ_mul];exact Nat.mul_le_mul_right _ hs
 omega
theorem aZ9 (hs:s<S)(hi:i<N):(PP (S*N) N bp c)[s*N+i]? = some (bp (s*N+i),Qm N (c s i)):=by
 unfold PP;rw[List.getElem?_map,List.getElem?_range (aC5 hs hi),Option.map_some,(divN hi).1,(divN hi).2]
theorem bf5 (hs:s<S)(hi:i<N)(h:∀ t j,¬(t=s/\j=i)->c t j=d t j):PP (S*N) N bp d=(PP (S*N) N bp c).set (s*N+i) (bp (s*N+i),Qm N (d s i)):=by
 refine List.ext_getElem (by rw[List.length_set,YE,YE]) λk h1 h2=>?_
 rw[List.getElem_set];by_cases hk:s*N+i=k
 .subst hk;rw[if_pos rfl];simp only[PP,List.getElem_map,List.getElem_range];rw[(divN hi).1,(divN hi).2]
 .rw[if_neg hk];simp only[PP,List.getElem_map,List.getElem_range];rw[h (k / N) (k % N) λe=>hk (by rw[<- e.1,<- e.2];exact Nat.div_add_mod' k N)]
theorem aC6 {f g:Nat->Rat}{j:Nat}{q:Rat}(hj:j<N)(h:∀ t,g t=if t=j then q else f t):(Qm N f).set j (dQ q)=Qm N g:=by
 refine List.ext_getElem (by rw[List.length_set,Dh,Dh]) λt h1 h2=>?_
 rw[List.getElem_set];by_cases ht:j=t
 .subst ht;rw[if_pos rfl];simp only[List.getElem_map,List.getElem_range];rw[h,if_pos rfl]
 .rw[if_neg ht];simp only[List.getElem_map,List.getElem_range];rw[h,if_neg (Ne.symm ht)]
def LL (S N:Nat)(bq bp:Nat->Nat)(c:Nat->Nat->Nat->Rat):List (Nat × List (Nat × List D)):=(List.range S).map λs=>(bq s,(List.range N).map λi=>(bp (s*N+i),Qm N (c s i)))
theorem bD0:QQ S N bq bp=(LL S N bq bp c).map λr=>(r.1,r.2.map UD):=by
 unfold QQ LL HR;rw[List.map_map];refine List.map_congr_left λs _=>?_;show (bq s,_)=(bq s,List.map UD _)
 rw[List.map_map];congr 1;exact List.map_congr_left λi _=>(au5 Dh).symm
theorem br5:∀ r,r ∈ LL S N bq bp c->∀ q,q ∈ r.2->q ∈ PP (S*N) N bp c:=λr hr q hq=>by
 obtain⟨s,hs,rfl⟩:=jH hr;obtain⟨i,hi,rfl⟩:=jH hq;exact List.mem_of_getElem? (aZ9 (List.mem_range.1 hs) (List.mem_range.1 hi))
theorem bD1:OF S N bq S=((LL S N bq bp c).map λr=>(r.1,r.2.map λq:Nat × List D=>(.sl q.2:D))).map UD:=by
 unfold OF LL;rw[CB,List.map_map,List.map_map];exact List.map_congr_left λs _=>((au5 (by simp)).symm)
theorem bD2 {l:List Au}:(((LL (l.getD 0 default).sym (aK l) bq bp (mW l)).map λr=>(r.1,r.2.map λq:Nat × List D=>(.sl q.2:D))).map λq=>(.sl q.2:D))=(ah l).gV.map kN:=by
 unfold LL ah EH;rw[List.map_map,List.map_map,List.map_map];refine List.map_congr_left λs _=>?_;show D.sl _=D.sl _
 congr 1;show List.map _ _=List.map gm (List.map _ _)
 rw[List.map_map,List.map_map];exact List.map_congr_left λi _=>rfl
end
theorem ak5 {α:Type}{l:List α}{i:Nat}{x:α}(h:l[i]? = some x):l=l.set i x:=(aA3 h).symm
def ab6:Nat->Option Nat
 | 63=>some 0
 | 64=>some 1
 | 65=>some 2
 | 66=>some 3
 | 67=>some 4
 | 68=>some 5
 | 69=>some 6
 | 70=>some 7
 | 71=>some 8
 | _=>none
theorem tC {t i:Nat}(h:ab6 t=some i):t=[63,64,65,66,67,68,69,70,71].getD i 0:=by
 unfold ab6 at h
 split at h <;> first|(cases h;rfl)|cases h
noncomputable def valOf (b3 b18 ML kk nn s i:Nat)(t:Nat)(β:Nat->Nat × Nat):V :=
 match t with
 | 63=>.ptr 3 b3 2
 | 64=>.bK 18 b18 kk kk
 | 65=>.d (dI s)
 | 66=>.oZ 18 b18 1 s 0
 | 67=>.bK 57 ML nn nn
 | 68=>.d (dI i)
 | 69=>.d (dI nn)
 | 70=>.bK 70 (β 70).1 nn nn
 | 71=>.oZ 57 ML 1 i 0
 | _=>.junk
noncomputable abbrev br6 (b3 b18 ML kk nn s i:Nat):List Oc:=[⟨70,7,λβ=>.row (β 70).1 nn T.Rat 3 ((List.replicate nn (0:Rat)).map dQ)⟩]
theorem br7 {p:Nat->Prop}(h0:p 0)(h1:p 1)(h2:p 2)(h3:p 3)(h4:p 4)(h5:p 5)(h6:p 6)(h7:p 7)(h8:p 8):∀ i,i<9->p i:=λi hi=>by
 have:i=0 \/ i=1 \/ i=2 \/ i=3 \/ i=4 \/ i=5 \/ i=6 \/ i=7 \/ i=8:=by omega
 rcases this with rfl|rfl|rfl|rfl|rfl|rfl|rfl|rfl|rfl <;> assumption
theorem bD3 {l:List Au}(hl:∀ a,a ∈ l->Au.Fit a (l.getD 0 default).sym)(n1:1<=l.length/\l.length<=64)(N1:1<=aK l)(N64:aK l<=64):ai P F.DJ [.d (ai8 l)] (uD (ah l)):=by
 have n1a:=n1.1;have n1b:=n1.2;have hok:∀ a,a ∈ l->a.Ok:=λa ha=>(hl a ha).ok;have f0:=hl _ (getD_mem (show 0<l.length by omega) default)
 have S32:=f0.s1;have hN:aK (l.take l.length)=aK l:=by rw[List.take_length]
 refine ai.intro fn.DJ (by rfl) (by rfl) (au (by rfl)) λE hE=>(AW.sg hE rfl (al z.Machine rfl λb2=>(OL.nil (AW.sg hE rfl (aj rfl (Qa 0 sl.tV default rfl rfl rfl (by omega) rfl rfl (Qw fd.kZ rfl rfl ?_)))))))
 refine jb ce.int rfl (U4 (n:=(l.getD 0 default).sym) (cp:=(l.getD 0 default).sym) kN [] sl.fZ z.dm Nk rfl rfl (Nat.le_refl _) (by omega) (by omega) rfl λb18=>(bd z.Machine pl.Machine (cs:=[_,_,_]) rfl (al z.Machine rfl λb3=>(eG sz.Machine rfl rfl rfl rfl rfl (au rfl) (cells2:=[_,_,_]) rfl (OL.nil (AW.seq (AW.sg hE rfl ?_)))))))
 refine aj rfl (fO sl.tV rfl rfl (aj rfl (OL.nil (AW.block (AW.vz 32 T.Rat 3 rfl (AW.vz 41 T.Rat 3 rfl (AW.pV 3 [.bK 32 0 0 0,.bK 41 0 0 0,.bK 18 b18 (l.getD 0 default).sym (l.getD 0 default).sym] rfl (.cons lK (.cons lK .dw)) ?_)))))));refine AW.aX (α:=Nat × Nat × Nat × Nat × Nat) [(0,_),(2,_),(3,_),(20,_),(21,_)] [(2,_)] (λ(k,p1,c1,p2,c2)=>[(22,.d (dI k))]) (λ(k,p1,c1,p2,c2)=>[(3,.box b3 T.Machine [.bK 32 p1 (Eu l k).length c1,.bK 41 p2 (Af l k).length c2,.bK 18 b18 (l.getD 0 default).sym (l.getD 0 default).sym]),(32,.row p1 c1 T.Rat 3 ((Eu l k).map dQ)),(41,.row p2 c2 T.Rat 3 ((Af l k).map dQ)),(18,.row b18 (l.getD 0 default).sym T.dm 1 ((List.replicate (l.getD 0 default).sym []).map kN))]) (λ(k,p1,c1,p2,c2)=>k<=l.length) (λ(k,p1,c1,p2,c2)=>l.length-k) (0,0,0,0,0) (.cons (dA rfl) (.cons (iF rfl) (.cons (iF rfl) (.cons (dA rfl) (.cons (dA rfl) .nil))))) (.cons (jc rfl) .nil) ⟨Nat.zero_le _,.dw,.cons rfl (.cons rfl (.cons rfl (.cons rfl .nil)))⟩ ?_
 rintro⟨k,p1,c1,p2,c2⟩ h1
 have h1:k<=l.length:=h1;have hil:=CW hok k;have hfl:=CX hok k;have hsl:=yB l k;refine AW.sg hE rfl (bD rfl rfl rfl (OL.nil (AW.seq (AW.cond rfl (λh23=>?_) (λh23=>?_)))))
 .try simp only[fG] at h23
  refine AW.skip (AW.seq (AW.block (AW.seq ?_)));have hk:k<l.length:=by omega
  have fk:=hl _ (getD_mem hk default);have hsk:=uZ hk;have hsl2:=yB l (k+1);have e1:=fk.ok.ini;have e2:=fk.ok.fin;have hnl:=O3 (decide ((0:Int)<(k:Int))) (l.getD k default).fin;have hin:=CW hok (k+1);have hfn:=CX hok (k+1);rw[hsk] at hin hfn;refine AW.rg hE rfl (aj rfl (fD sl.tV default rfl rfl (by omega) rfl rfl (iR ag.Auto rfl (vs:=[_,_,_,_,_,_,_]) rfl (au rfl) (al z.Auto rfl λb5=>(aG rfl (eG sz.Auto rfl rfl rfl rfl rfl (au rfl) (cells2:=[_,_,_,_,_,_,_]) rfl (OL.nil ?_)))))))
  refine AW.seq (AW.dg 2 [0,1,2,3,4,5,6,7] ak hE rfl (by kernel_rfl) (OI.aP (os:=[_,_,_,_,_,_,_,_]) rfl ?_))
  refine aV fd.sV rfl rfl (aA ce.bF rfl rfl rfl (aV fd.mg rfl rfl (aA ce.aS rfl rfl rfl (bP rfl vL (JD (l:=(l.getD k default).ini) (mi:=false) (by omega) (λx hx=>fk.sz.ini x hx)) ?_))))
  rw[YB];refine Am sl.bF rfl rfl rfl (by rw[dL]) (VC.d _) TB (by rw[dL];omega) (by rw[dL];omega) (.inr rfl) (ys:=(Eu l k++(l.getD k default).ini).map dQ) (by rw[List.map_append]) (n2:=(aK (l.take k))+(l.getD k default).st) (by rw[dL,hil,e1]) λb32 c32=>?_
  refine aV fd.sV rfl rfl (eG sz.bF rfl rfl rfl rfl rfl (au rfl) (cells2:=[_,_,_]) rfl (OL.nil (AW.dg 2 [0,1,2,3,4,5,6,7,8,9] ak hE rfl (by kernel_rfl) (OI.aP (os:=[_,_,_,_,_,_,_,_,_,_]) rfl ?_))))
  refine aV fd.xg rfl rfl (aA ce.bF rfl rfl rfl (aV fd.o8 rfl rfl (aA ce.aS rfl rfl rfl (aj rfl (kS rfl rfl rfl (bP rfl vL (JD (l:=(l.getD k default).fin) (mi:=decide ((0:Int)<(k:Int))) (by omega) (λx hx=>fk.sz.fin x hx)) ?_))))))
  refine Am sl.bF rfl rfl rfl (by rw[dL]) (VC.d _) TB (by rw[dL];omega) (by rw[dL];omega) (.inr rfl) (ys:=(Af l k++FQ (decide ((0:Int)<(k:Int))) (l.getD k default).fin).map dQ) (by rw[List.map_append]) (n2:=(aK (l.take k))+(l.getD k default).st) (by rw[dL,hfl,hnl,e2]) λb41 c41=>?_
  refine aV fd.xg rfl rfl (eG sz.bF rfl rfl rfl rfl rfl (au rfl) (cells2:=[_,_,_]) rfl (OL.nil (AW.rg hE rfl (aJ rfl rfl (by omega) (aj rfl (OL.nil ?_))))))
  exact AW.again (x:=(k,p1,c1,p2,c2)) (k+1,b32,c32,b41,c41) (by (simp only[];omega)) ⟨by omega,Knows.app .I7 .dw,dP.app (.cons rfl .nil) (.cons (by rw[hin,hfn];rfl) (.cons (by rw[KL hk];rfl) (.cons (by rw[WJ hk];rfl) (.cons rfl .nil))))⟩
 .try simp only[fG] at h23
  refine AW.exit (AW.seq ?_);obtain rfl:k=l.length:=by omega
  rw[hN] at hil hfl;refine AW.rg hE rfl (aV fd.sV rfl rfl (aA ce.bF rfl rfl rfl (Qx sl.bF rfl rfl ?_)));rw[hil];refine aG rfl (OL.nil (AW.seq (AW.sg hE rfl (aV fd.jI rfl rfl (aA ce.fZ rfl rfl rfl (Qx sl.fZ rfl rfl (aj rfl ?_)))))));refine OL.nil (AW.block (AW.aY5 2000 T.bF 1 rfl (AW.aY5 2001 T.Rat 3 rfl ?_)));refine AW.aX (α:=Nat × (Nat->Nat) × (Nat->Nat)) [(0,_),(2,_),(3,_),(6,_),(49,_)] [(2,_),(3,_),(32,_),(41,_)] (λ(s,bq,bp)=>[(50,.d (dI s))]) (λ(s,bq,bp)=>[(18,.row b18 (l.getD 0 default).sym T.dm 1 (OF (l.getD 0 default).sym (aK l) bq (s))),(2000,.pool T.bF 1 (QQ s (aK l) bq bp)),(2001,.pool T.Rat 3 (PP (s*(aK l)) (aK l) bp (λ_ _ _=>0)))]) (λ(s,bq,bp)=>s<=(l.getD 0 default).sym) (λ(s,bq,bp)=>(l.getD 0 default).sym-s) (0,λ_=>0,λ_=>0) (.cons (dA rfl) (.cons (iF rfl) (.cons (iF rfl) (.cons (dA rfl) (.cons (dA rfl) .nil))))) (.cons (jc rfl) (.cons (jc rfl) (.cons (tJ rfl) (.cons (tJ rfl) .nil)))) ⟨Nat.zero_le _,.dw,.cons (by unfold OF;rw[rW,<- List.map_replicate];rfl) (.cons rfl (.cons (by rw[Nat.zero_mul];rfl) .nil))⟩ ?_
  rintro⟨s,bq,bp⟩ h2
  have h2:s<=(l.getD 0 default).sym:=h2;have hol:(OF (l.getD 0 default).sym (aK l) bq s).length=(l.getD 0 default).sym:=YC;refine AW.sg hE rfl (bD rfl rfl rfl (OL.nil (AW.seq (AW.cond rfl (λh51=>?_) (λh51=>?_)))))
  .try simp only[fG] at h51
   refine AW.skip (AW.seq (AW.block (AW.sg hE rfl (aj rfl (aG rfl (OL.nil (AW.seq ?_)))))));refine AW.dg 118 [0,1,2,3,4,5,6] ak hE rfl (by kernel_rfl) (OI.aP (os:=[_,_,_,_,_,_,_]) rfl ?_)
   refine aV fd.jI rfl rfl (aA ce.fZ rfl rfl rfl (aj rfl (aj rfl (au6 (n:=(aK l)) (cp:=(aK l)) gm [] sl.dm z.bF (VCs.cons VC.mt VCs.nil) rfl rfl (Nat.le_refl _) (by omega) (by omega) rfl rfl λML=>(je sl.fZ rfl rfl (by omega) (J4 sz.dm rfl (ZC (by omega)) rfl rfl (by omega) (es2:=OF (l.getD 0 default).sym (aK l) (wQ bq s ML) (s+1)) (bf1 (by omega)) (OL.nil ?_)))))))
   refine AW.sg hE rfl (aj rfl (aj rfl (OL.nil (AW.block ?_))));refine AW.aX (α:=Nat × (Nat->Nat)) [(0,_),(2,_),(3,_),(6,_),(7,_),(49,_),(50,_),(59,_)] [(2,_),(3,_),(18,_),(32,_),(41,_)] (λ(i,YF)=>[(60,.d (dI i))]) (λ(i,YF)=>[(57,.row ML (aK l) T.bF 1 (HF (aK l) s YF i)),(2000,.pool T.bF 1 (QQ s (aK l) bq YF)),(2001,.pool T.Rat 3 (PP (s*(aK l)+i) (aK l) YF (λ_ _ _=>0)))]) (λ(i,YF)=>i<=(aK l)) (λ(i,YF)=>(aK l)-i) (0,bp) (.cons (dA rfl) (.cons (iF rfl) (.cons (iF rfl) (.cons (dA rfl) (.cons (dA rfl) (.cons (dA rfl) (.cons (dA rfl) (.cons (dA rfl) .nil)))))))) (.cons (jc rfl) (.cons (jc rfl) (.cons (tJ rfl) (.cons (tJ rfl) (.cons (tJ rfl) .nil))))) ⟨Nat.zero_le _,.dw,.cons (by unfold HF;rw[rW,<- List.map_replicate];rfl) (.cons rfl (.cons rfl .nil))⟩ ?_
   rintro⟨i,YF⟩ h3
   have h3:i<=(aK l):=h3;have hhl:(HF (aK l) s YF i).length=(aK l):=YD;have aC8:(OF (l.getD 0 default).sym (aK l) (wQ bq s ML) (s+1))[s]? = some (GX ML (aK l) (aK l)):=by rw[aZ8 (by omega) (by omega),JK]
   have bN9:(OF (l.getD 0 default).sym (aK l) (wQ bq s ML) (s+1)).length=(l.getD 0 default).sym:=YC;refine AW.sg hE rfl (bD rfl rfl rfl (OL.nil (AW.seq (AW.cond rfl (λh61=>?_) (λh61=>?_)))))
   .try simp only[fG] at h61
    refine AW.skip (AW.seq (AW.block (AW.sg hE rfl (aj rfl (aG rfl (OL.nil (AW.vX (valOf b3 b18 ML (l.getD 0 default).sym (aK l) s i) ab6 (br6 b3 b18 ML (l.getD 0 default).sym (aK l) s i) 9 ak (by rw[hE];rfl) (by rfl) (by kernel_rfl) (by kernel_rfl) ?_ ?_)))))))
    .refine br7 ?_ ?_ ?_ ?_ ?_ ?_ ?_ ?_ ?_
     .exact λβ L c9=>⟨_,rfl,.inl (OG.aP (aV (b:=b3) (o:=0) (id:=3) fd.jI ((di rfl).trans rfl) rfl ⟨β,cu (d:=63) (i:=0) rfl (λt ht=>tC ht) (lt_size 10 c9.size rfl (by decide)) (bg (lt_size 10 c9.size rfl (by decide)) (by rfl))⟩))⟩
     .exact λβ L c9=>⟨_,rfl,.inl (OG.aP (aA ce.fZ (bT rfl (aY (j:=0) c9 (by kernel_rfl))) ((iY (aH (show (3:Nat)≠70 by decide) rfl)):_=some (.box b3 T.Machine [.bK 32 p1 (Eu l l.length).length c1,.bK 41 p2 (Af l l.length).length c2,.bK 18 b18 (l.getD 0 default).sym (l.getD 0 default).sym])) (v:=.bK 18 b18 (l.getD 0 default).sym (l.getD 0 default).sym) rfl ⟨β,cu (d:=64) (i:=1) rfl (λt ht=>tC ht) (lt_size 10 c9.size rfl (by decide)) (bg (lt_size 10 c9.size rfl (by decide)) (by rfl))⟩))⟩
     .exact λβ L c9=>⟨_,rfl,.inl (OG.aP (aj (y:=dI s) ((di rfl).trans rfl) ⟨β,cu (d:=65) (i:=2) rfl (λt ht=>tC ht) (lt_size 10 c9.size rfl (by decide)) (bg (lt_size 10 c9.size rfl (by decide)) (by rfl))⟩))⟩
     .exact λβ L c9=>⟨_,rfl,.inl (OG.aP (Qr sl.fZ (id:=18) (b:=b18) (l:=(l.getD 0 default).sym) (c:=(l.getD 0 default).sym) (bT rfl (aY (j:=1) c9 (by kernel_rfl))) (bT rfl (aY (j:=2) c9 (by kernel_rfl))) (by omega) (by omega) (i:=s) (by omega) ⟨β,cu (d:=66) (i:=3) rfl (λt ht=>tC ht) (lt_size 10 c9.size rfl (by decide)) (bg (lt_size 10 c9.size rfl (by decide)) (by rfl))⟩))⟩
     .exact λβ L c9=>⟨_,rfl,.inl (OG.aP (ag3 (.BL (by decide) (bT rfl (aY (j:=3) c9 (by kernel_rfl))) ((iY (aH (show (18:Nat)≠70 by decide) rfl)):_=some (.row b18 (l.getD 0 default).sym T.dm 1 (OF (l.getD 0 default).sym (aK l) (wQ bq s ML) (s+1)))) aC8 ce.dm (d:=GX ML (aK l) (aK l)) rfl) (BQ 57 (Nat.le_refl _)) ⟨β,cu (d:=67) (i:=4) rfl (λt ht=>tC ht) (lt_size 10 c9.size rfl (by decide)) (bg (lt_size 10 c9.size rfl (by decide)) (by rfl))⟩))⟩
     .exact λβ L c9=>⟨_,rfl,.inl (OG.aP (aj (y:=dI i) ((di rfl).trans rfl) ⟨β,cu (d:=68) (i:=5) rfl (λt ht=>tC ht) (lt_size 10 c9.size rfl (by decide)) (bg (lt_size 10 c9.size rfl (by decide)) (by rfl))⟩))⟩
     .exact λβ L c9=>⟨_,rfl,.inl (OG.aP (aj (y:=dI (aK l)) ((di rfl).trans rfl) ⟨β,cu (d:=69) (i:=6) rfl (λt ht=>tC ht) (lt_size 10 c9.size rfl (by decide)) (bg (lt_size 10 c9.size rfl (by decide)) (by rfl))⟩))⟩
     .exact λβ L c9=>⟨_,rfl,.inl (OG.aP (U4 (n:=(aK l)) (cp:=(aK l)) dQ 0 sl.bF z.Rat Dx (bT rfl (aY (j:=6) c9 (by kernel_rfl))) (bT rfl (aY (j:=6) c9 (by kernel_rfl))) (Nat.le_refl _) (by omega) (by omega) (iY (DC (by exact c9.no) rfl)) λb=>⟨upd β 70 (b,0),Dz (d:=70) (i:=7) (x:=(b,0)) rfl (λt ht=>tC ht) (lt_size 10 c9.size rfl (by decide)) rfl (vV (lt_size 10 c9.size rfl (by decide)) rfl rfl rfl c9.no (by rfl) (λy hy=>absurd hy List.not_mem_nil)) (λt j ho hl=>by unfold ab6 at ho;split at ho <;> cases ho <;> first|rfl|(rw[c9.no] at hl;cases hl)|exact sF c9 (by kernel_rfl) hl)⟩))⟩
     .exact λβ L c9=>⟨_,rfl,.inl (OG.aP (Qr sl.dm (id:=57) (b:=ML) (l:=(aK l)) (c:=(aK l)) (bT rfl (aY (j:=4) c9 (by kernel_rfl))) (bT rfl (aY (j:=5) c9 (by kernel_rfl))) (by omega) (by omega) (i:=i) (by omega) ⟨β,cu (d:=71) (i:=8) rfl (λt ht=>tC ht) (lt_size 10 c9.size rfl (by decide)) (bg (lt_size 10 c9.size rfl (by decide)) (by rfl))⟩))⟩
    refine λβ L c9 hA=>⟨_,rfl,SG.ZH (SO.X4 (id:=70) (es:=(List.replicate (aK l) (0:Rat)).map dQ) (bT rfl (hA 8 (by decide))) (bT rfl (hA 7 (by decide))) (iY (vU (hA 7 (by decide)) rfl rfl)) ((iY (aH (show (57:Nat)≠70 by decide) rfl)):_=some (.row ML (aK l) T.bF 1 (HF (aK l) s YF i))) sz.bF (by rw[YD];omega) (by rw[dL,List.length_replicate];omega) λhc=>?_)⟩
    refine AW.to [(0,.d (ai8 l)),(2,.ptr 2 b2 0),(3,.ptr 3 b3 0),(6,.d (dI (aK l))),(7,.d (dI s)),(49,.d (dI (l.getD 0 default).sym)),(50,.d (dI s)),(59,.d (dI (aK l))),(60,.d (dI i))] [(2,.box b2 T.Machine [.mt,.mt,.mt]),(3,.box b3 T.Machine [.bK 32 p1 (Eu l l.length).length c1,.bK 41 p2 (Af l l.length).length c2,.bK 18 b18 (l.getD 0 default).sym (l.getD 0 default).sym]),(18,.row b18 (l.getD 0 default).sym T.dm 1 (OF (l.getD 0 default).sym (aK l) (wQ bq s ML) (s+1))),(32,.row p1 c1 T.Rat 3 ((Eu l l.length).map dQ)),(41,.row p2 c2 T.Rat 3 ((Af l l.length).map dQ)),(2000,.pool T.bF 1 (QQ s (aK l) bq YF)),(2001,.pool T.Rat 3 (PP (s*(aK l)+i) (aK l) YF (λ_ _ _=>0))),(57,.row ML (aK l) T.bF 1 (HF (aK l) s (wQ YF (s*(aK l)+i) (β 70).1) (i+1))),(70,.row (β 70).1 (aK l) T.Rat 3 ((List.replicate (aK l) (0:Rat)).map dQ))] (.cons (aC (gW ((di rfl).trans rfl))) (.cons (aC (gW ((di rfl).trans rfl))) (.cons (aC (gW ((di rfl).trans rfl))) (.cons (aC (gW ((di rfl).trans rfl))) (.cons (aC (gW ((di rfl).trans rfl))) (.cons (aC (gW ((di rfl).trans rfl))) (.cons (aC (gW ((di rfl).trans rfl))) (.cons (aC (gW ((di rfl).trans rfl))) (.cons (aC (gW ((di rfl).trans rfl))) (.nil)))))))))) (.cons (mM (show (2:Nat)≠57 by decide) (iY (aH (show (2:Nat)≠70 by decide) rfl))) (.cons (mM (show (3:Nat)≠57 by decide) (iY (aH (show (3:Nat)≠70 by decide) rfl))) (.cons (mM (show (18:Nat)≠57 by decide) (iY (aH (show (18:Nat)≠70 by decide) rfl))) (.cons (mM (show (32:Nat)≠57 by decide) (iY (aH (show (32:Nat)≠70 by decide) rfl))) (.cons (mM (show (41:Nat)≠57 by decide) (iY (aH (show (41:Nat)≠70 by decide) rfl))) (.cons (mM (show (2000:Nat)≠57 by decide) (iY (aH (show (2000:Nat)≠70 by decide) rfl))) (.cons (mM (show (2001:Nat)≠57 by decide) (iY (aH (show (2001:Nat)≠70 by decide) rfl))) (.cons (MW.trans (congrArg some (congrArg (iI.row ML (aK l) T.bF 1) (bf2 (by omega))))) (.cons (mM (show (70:Nat)≠57 by decide) (iY (vU (hA 7 (by decide)) rfl rfl))) (.nil)))))))))) ?_
    generalize (β 70).1=b70;refine AW.ZF 70 2001 rfl rfl (by rw[dL,List.length_replicate]) (AW.rg hE rfl (aJ rfl rfl (by omega) (aj rfl (OL.nil ?_))))
    exact AW.again (x:=(i,YF)) (i+1,wQ YF (s*(aK l)+i) b70) (by (simp only[];omega)) ⟨by omega,Knows.app .rq8 .dw,dP.app (.cons rfl (.cons rfl (.cons rfl (.cons rfl (.cons rfl .nil))))) (.cons rfl (.cons (by rw[bf4 (Nat.le_add_right _ _)];rfl) (.cons (by rw[<- Nat.add_assoc,<- aT2];rfl) .nil)))⟩
   .try simp only[fG] at h61
    refine AW.exit ?_;obtain rfl:i=(aK l):=by omega
    refine AW.ZF 57 2000 rfl rfl YD.symm ?_;rw[bf3,<- br2 (b:=ML) (Nat.le_refl s),aT1];refine AW.rg hE rfl (aJ rfl rfl (by omega) (aj rfl (OL.nil ?_)))
    exact AW.again (x:=(s,bq,bp)) (s+1,wQ bq s ML,YF) (by (simp only[];omega)) ⟨by omega,Knows.app .I7 .dw,dP.app (.cons rfl (.cons rfl (.cons rfl (.cons rfl .nil)))) (.cons rfl (.cons rfl (.cons (by rw[Nat.succ_mul];rfl) .nil)))⟩
  .try simp only[fG] at h51
   refine AW.exit (AW.seq ?_);obtain rfl:s=(l.getD 0 default).sym:=by omega
   refine AW.rg hE rfl (aG rfl (OL.nil (AW.seq (AW.sg hE rfl (aj rfl (fO sl.tV rfl rfl (aj rfl ?_)))))));refine OL.nil (AW.block ?_);refine AW.aX (α:=Nat) [(2,_),(3,_),(74,_),(75,_)] [(2,_),(3,_),(18,_),(32,_),(41,_),(2000,_)] (λk=>[(9,.d (dI (aK (l.take k)))),(76,.d (dI k))]) (λk=>[(2001,.pool T.Rat 3 (PP ((l.getD 0 default).sym*(aK l)) (aK l) bp (cO l k [])))]) (λk=>k<=l.length) (λk=>l.length-k) 0 (.cons (iF rfl) (.cons (iF rfl) (.cons (dA rfl) (.cons (dA rfl) .nil)))) (.cons (jc rfl) (.cons (jc rfl) (.cons (tJ rfl) (.cons (tJ rfl) (.cons (tJ rfl) (.cons (owL rfl) .nil)))))) ⟨Nat.zero_le _,.jm,.cons (by rw[show cO l 0 []=(λ_ _ _=>0) from by funext s i j;rw[O8];rfl];rfl) .nil⟩ ?_
   intro k h4;have h4:k<=l.length:=h4;have hsl:=yB l k;refine AW.sg hE rfl (bD rfl rfl rfl (OL.nil (AW.seq (AW.cond rfl (λh77=>?_) (λh77=>?_)))))
   .try simp only[fG] at h77
    refine AW.skip (AW.seq (AW.block (AW.seq ?_)));have hk:k<l.length:=by omega
    have fk:=hl _ (getD_mem hk default);have hsk:=uZ hk;have hsl2:=yB l (k+1);have hst:=fk.st;have htl:=zn (l.getD k default).aB;have hna:=fk.sz.num;refine AW.rg hE rfl (fD sl.tV default rfl rfl (by omega) rfl rfl (iR ag.Auto rfl (vs:=[_,_,_,_,_,_,_]) rfl (au rfl) (al z.Auto rfl λb11=>(eG sz.Auto rfl rfl rfl rfl rfl (au rfl) (cells2:=[_,_,_,_,_,_,_]) rfl (OL.nil (AW.seq (AW.sg hE rfl ?_)))))))
    refine aV fd.gu rfl rfl (aQ ag.Ring rfl rfl (vs:=[_,_]) rfl (au rfl) (aV fd.fM rfl rfl (aA ce.bZ rfl rfl rfl (bP rfl vL (aa1 (l:=(l.getD k default).aB) hna fk.sz.arc) (fO sl.bZ rfl rfl (aj rfl (OL.nil ?_)))))));refine AW.block ?_;refine AW.aX (α:=Nat) [(2,_),(3,_),(9,_),(11,_),(74,_),(75,_),(76,_),(84,_),(85,_)] [(2,_),(3,_),(11,_),(18,_),(32,_),(41,_),(2000,_)] (λp=>[(86,.d (dI p))]) (λp=>[(2001,.pool T.Rat 3 (PP ((l.getD 0 default).sym*(aK l)) (aK l) bp (cO l k ((dF (l.getD k default).aB).take p))))]) (λp=>p<=(dF (l.getD k default).aB).length) (λp=>(dF (l.getD k default).aB).length-p) 0 (.cons (iF rfl) (.cons (iF rfl) (.cons (dA rfl) (.cons (iF rfl) (.cons (dA rfl) (.cons (dA rfl) (.cons (dA rfl) (.cons (dA rfl) (.cons (dA rfl) .nil))))))))) (.cons (jc rfl) (.cons (jc rfl) (.cons (jc rfl) (.cons (tJ rfl) (.cons (tJ rfl) (.cons (tJ rfl) (.cons (owL rfl) .nil))))))) ⟨Nat.zero_le _,.dw,.cons rfl .nil⟩ ?_;intro p h5;have h5:p<=(dF (l.getD k default).aB).length:=h5;refine AW.sg hE rfl (bD rfl rfl rfl (OL.nil (AW.seq (AW.cond rfl (λh87=>?_) (λh87=>?_)))))
    .try simp only[fG] at h87
     refine AW.skip (AW.seq (AW.block (AW.seq ?_)));have hp:p<(dF (l.getD k default).aB).length:=by omega
     obtain⟨xf,xt,xl,xs⟩:=gK.tidy (p:=λf l9 t=>f<(l.getD k default).st/\t<(l.getD k default).st/\1<=l9/\l9<=(l.getD k default).sym) fk.ok.arc ((dF (l.getD k default).aB).getD p default) (getD_mem hp default);have hsy:=fk.sym;refine AW.rg hE rfl (fD sl.bZ default rfl rfl (by omega) rfl rfl (iR ag.mQ rfl (vs:=[_,_,_,_,_,_,_,_,_,_,_]) rfl (au rfl) (al z.mQ rfl λb13=>(eG sz.mQ rfl rfl rfl rfl rfl (au rfl) (cells2:=[_,_,_,_,_,_,_,_,_,_,_]) rfl (OL.nil ?_)))))
     have hs:((dF (l.getD k default).aB).getD p default).l-1<(l.getD 0 default).sym:=by omega
     have hi:(aK (l.take k))+((dF (l.getD k default).aB).getD p default).f<(aK l):=by omega
     have hj:(aK (l.take k))+((dF (l.getD k default).aB).getD p default).t<(aK l):=by omega
     have hcs:=λs9 i9 j9=>aS1 (l:=l) (k:=k) (s:=s9) (i:=i9) (j:=j9) (FI (l.getD k default).aB) hp xl;have aC8:(OF (l.getD 0 default).sym (aK l) bq (l.getD 0 default).sym)[((dF (l.getD k default).aB).getD p default).l-1]? = some (GX (bq (((dF (l.getD k default).aB).getD p default).l-1)) (aK l) (aK l)):=aZ8 hs hs;have bD8:(HR (aK l) (((dF (l.getD k default).aB).getD p default).l-1) bp)[(aK (l.take k))+((dF (l.getD k default).aB).getD p default).f]? = some (GX (bp ((((dF (l.getD k default).aB).getD p default).l-1)*(aK l)+((aK (l.take k))+((dF (l.getD k default).aB).getD p default).f))) (aK l) (aK l)):=br4 hi;have hqq:(QQ (l.getD 0 default).sym (aK l) bq bp)[((dF (l.getD k default).aB).getD p default).l-1]? = some (bq (((dF (l.getD k default).aB).getD p default).l-1),HR (aK l) (((dF (l.getD k default).aB).getD p default).l-1) bp):=br3 hs;have hpp:(PP ((l.getD 0 default).sym*(aK l)) (aK l) bp (cO l k ((dF (l.getD k default).aB).take p)))[((((dF (l.getD k default).aB).getD p default).l-1)*(aK l)+((aK (l.take k))+((dF (l.getD k default).aB).getD p default).f))]? = some (bp ((((dF (l.getD k default).aB).getD p default).l-1)*(aK l)+((aK (l.take k))+((dF (l.getD k default).aB).getD p default).f)),Qm (aK l) (cO l k ((dF (l.getD k default).aB).take p) (((dF (l.getD k default).aB).getD p default).l-1) ((aK (l.take k))+((dF (l.getD k default).aB).getD p default).f))):=aZ9 hs hi;have hil:=aC5 hs hi;have hol:(OF (l.getD 0 default).sym (aK l) bq (l.getD 0 default).sym).length=(l.getD 0 default).sym:=YC;refine AW.takeN 2003 2000 (((dF (l.getD k default).aB).getD p default).l-1) (aK l) rfl rfl hqq aC4 (AW.takeN 2004 2001 ((((dF (l.getD k default).aB).getD p default).l-1)*(aK l)+((aK (l.take k))+((dF (l.getD k default).aB).getD p default).f)) (aK l) rfl rfl hpp Dh (AW.dg 1 [0,1,2,3,4,5,6,7,8,9,10,11,12,13,14,15,16,17,18,19,20,21] ak hE rfl (by kernel_rfl) (OI.aP (os:=[_,_,_,_,_,_,_,_,_,_,_,_,_,_,_,_,_,_,_,_,_,_]) rfl ?_)))
     refine aV fd.jI rfl rfl (aA ce.fZ rfl rfl rfl (aV fd.Bj rfl rfl (aA ce.int rfl rfl rfl (bo rfl rfl (oO (c:=((((dF (l.getD k default).aB).getD p default).l-1:Nat):Int)) (by omega) (wrap_i64 (by omega))) (je sl.fZ rfl rfl hs (ag3 (.BL (by decide) rfl rfl aC8 ce.dm rfl) (BQ 2003 (Nat.le_refl _)) (aj rfl ?_)))))))
     refine aV fd.Ff rfl rfl (aA ce.int rfl rfl rfl (bo rfl rfl (lG (c:=(((aK (l.take k))+((dF (l.getD k default).aB).getD p default).f:Nat):Int)) (by omega) (wrap_i64 (by omega))) (je sl.dm rfl rfl hi (ag3 (.BL (by decide) rfl rfl bD8 ce.bF rfl) (BQ 2004 (Nat.le_refl _)) (aj rfl (aV fd.Cj rfl rfl (aA ce.int rfl rfl rfl ?_)))))))
     refine bo rfl rfl (lG (c:=(((aK (l.take k))+((dF (l.getD k default).aB).getD p default).t:Nat):Int)) (by omega) (wrap_i64 (by omega))) (aV fd.qG rfl rfl (aV fd.gG rfl rfl (aQ ag.Rat rfl rfl (vs:=[_,_,_]) rfl (au rfl) (je sl.bF rfl rfl hj ?_))))
     refine J4 sz.Rat rfl (d:=dQ ((dF (l.getD k default).aB).getD p default).q) EN rfl rfl (by rw[Dh];exact hj) (es2:=Qm (aK l) (cO l k ((dF (l.getD k default).aB).take (p+1)) (((dF (l.getD k default).aB).getD p default).l-1) ((aK (l.take k))+((dF (l.getD k default).aB).getD p default).f))) (aC6 hj λt=>by rw[hcs];by_cases ht:t=(aK (l.take k))+((dF (l.getD k default).aB).getD p default).t;rw[if_pos ⟨rfl,rfl,ht⟩,if_pos ht];rw[if_neg (λe=>ht e.2.2),if_neg ht]) ?_
     refine OL.nil ?_;refine AW.back 2004 2001 ((((dF (l.getD k default).aB).getD p default).l-1)*(aK l)+((aK (l.take k))+((dF (l.getD k default).aB).getD p default).f)) (PP ((l.getD 0 default).sym*(aK l)) (aK l) bp (cO l k ((dF (l.getD k default).aB).take p))) rfl rfl rfl (by rw[YE];exact hil) Dh.symm (ZE:=PP ((l.getD 0 default).sym*(aK l)) (aK l) bp (cO l k ((dF (l.getD k default).aB).take (p+1)))) (bf5 hs hi λt9 j9 hne=>by funext z9;rw[hcs,if_neg (λe=>hne ⟨e.1,e.2.1⟩)]) ?_
     refine AW.back 2003 2000 (((dF (l.getD k default).aB).getD p default).l-1) (QQ (l.getD 0 default).sym (aK l) bq bp) rfl rfl rfl (by rw[bf0];exact hs) aC4.symm (ZE:=QQ (l.getD 0 default).sym (aK l) bq bp) (ak5 hqq) (AW.rg hE rfl (aJ rfl rfl (by omega) (aj rfl (OL.nil ?_))))
     exact AW.again (x:=p) (p+1) (by omega) ⟨by omega,Knows.app .rq9 .dw,dP.app (.cons rfl (.cons rfl (.cons rfl (.cons rfl (.cons rfl (.cons rfl (.cons rfl .nil))))))) (.cons rfl .nil)⟩
    .try simp only[fG] at h87
     refine AW.exit ?_;obtain rfl:p=(dF (l.getD k default).aB).length:=by omega
     rw[List.take_length];refine AW.rg hE rfl (aj rfl (aV fd.jf rfl rfl (aA ce.int rfl rfl rfl (aJ rfl rfl (by omega) (aG rfl (OL.nil (AW.rg hE rfl ?_)))))))
     refine aJ rfl rfl (by omega) (aj rfl (OL.nil ?_))
     exact AW.again (x:=k) (k+1) (by omega) ⟨by omega,Knows.app .J5 (.cons (bV.int (by rw[hsk];omega)) .dw),dP.app (.cons rfl (.cons rfl (.cons rfl (.cons rfl (.cons rfl (.cons rfl .nil)))))) (.cons (by rw[show cO l (k+1) []=cO l k (dF (l.getD k default).aB) from by funext s i j;rw[O8,aS0 hk fk.ok]];rfl) .nil)⟩
   .try simp only[fG] at h77
    refine AW.exit (AW.seq ?_);obtain rfl:k=l.length:=by omega
    rw[show cO l l.length []=mW l from by funext s i j;rw[O8,List.take_length],bD0 (c:=mW l)]
    have hi9:Eu l l.length=(ah l).ini:=by unfold Eu;rw[List.take_length];rfl
    have hf9:Af l l.length=(ah l).fin:=by unfold Af;rw[List.take_length];rfl
    have hms:(ah l).gV.length=(l.getD 0 default).sym:=wL;refine AW.Vk 2000 2001 rfl rfl br5 (by decide) ?_
    rw[bD1 (bp:=bp) (c:=mW l)];refine AW.X0 18 2000 rfl rfl (by decide) ?_
    rw[bD2,hi9,hf9];rw[hi9] at hil;rw[hf9] at hfl;refine AW.freeze 18 rfl (AW.pV 3 [.bK 32 p1 (ah l).ini.length c1,.bK 41 p2 (ah l).fin.length c2,.d (.sl ((ah l).gV.map kN))] rfl (.cons vR (.cons vR (.cons (dM (by rw[dL];exact hms.symm) rfl) .nil))) ?_)
    refine AW.freeze 32 rfl (AW.pV 3 [.d (gm (ah l).ini),.bK 41 p2 (ah l).fin.length c2,.d (.sl ((ah l).gV.map kN))] rfl (.cons (dM (by rw[dL]) rfl) .jm) ?_)
    refine AW.freeze 41 rfl (AW.pV 3 [.d (gm (ah l).ini),.d (gm (ah l).fin),.d (.sl ((ah l).gV.map kN))] rfl (.cons vR (.cons (dM (by rw[dL]) rfl) .dw)) ?_)
    refine AW.to [(2,.ptr 2 b2 0),(3,.ptr 3 b3 0)] [(2,.box b2 T.Machine [.mt,.mt,.mt]),(3,.box b3 T.Machine [.d (gm (ah l).ini),.d (gm (ah l).fin),.d (.sl ((ah l).gV.map kN))])] (.cons bV.ptr (.cons bV.ptr .nil)) (.cons rfl (.cons rfl .nil)) ?_;exact AW.rg hE rfl (aQ ag.Machine rfl rfl (vs:=[_,_,_]) rfl (au rfl) (eG sz.Machine rfl rfl rfl rfl rfl (au rfl) (cells2:=[_,_,_]) rfl (OL.nil (AW.ret (aT.r ⟨_,.dK rfl rfl ag.Machine (au rfl) .nil,.ag (.cons (.le vR) (.cons (.le vR) (.cons (.le vR) .nil)))⟩)))))
theorem YG {l:List Au}(h0:aK l=0):(ah l).gV=List.replicate (l.getD 0 default).sym []:=by
 unfold ah EH;rw[h0];simp only[List.range_zero,List.map_nil];exact (List.map_const' ..).trans (by rw[List.length_range])
theorem bD9 {l:List Au}(hl:∀ a,a ∈ l->Au.Fit a (l.getD 0 default).sym)(n1:1<=l.length/\l.length<=64)(N0:aK l=0):ai P F.DJ [.d (ai8 l)] (uD (ah l)):=by
 have n1a:=n1.1;have n1b:=n1.2;have hok:∀ a,a ∈ l->a.Ok:=λa ha=>(hl a ha).ok;have f0:=hl _ (getD_mem (show 0<l.length by omega) default)
 have S32:=f0.s1;have hN:aK (l.take l.length)=aK l:=by rw[List.take_length]
 refine ai.intro fn.DJ (by rfl) (by rfl) (au (by rfl)) λE hE=>(AW.sg hE rfl (al z.Machine rfl λb2=>(OL.nil (AW.sg hE rfl (aj rfl (Qa 0 sl.tV default rfl rfl rfl (by omega) rfl rfl (Qw fd.kZ rfl rfl ?_)))))))
 refine jb ce.int rfl (U4 (n:=(l.getD 0 default).sym) (cp:=(l.getD 0 default).sym) kN [] sl.fZ z.dm Nk rfl rfl (Nat.le_refl _) (by omega) (by omega) rfl λb18=>(bd z.Machine pl.Machine (cs:=[_,_,_]) rfl (al z.Machine rfl λb3=>(eG sz.Machine rfl rfl rfl rfl rfl (au rfl) (cells2:=[_,_,_]) rfl (OL.nil (AW.seq (AW.sg hE rfl ?_)))))))
 refine aj rfl (fO sl.tV rfl rfl (aj rfl (OL.nil (AW.block (AW.vz 32 T.Rat 3 rfl (AW.vz 41 T.Rat 3 rfl (AW.pV 3 [.bK 32 0 0 0,.bK 41 0 0 0,.bK 18 b18 (l.getD 0 default).sym (l.getD 0 default).sym] rfl (.cons lK (.cons lK .dw)) ?_)))))));refine AW.aX (α:=Nat × Nat × Nat × Nat × Nat) [(0,_),(2,_),(3,_),(20,_),(21,_)] [(2,_)] (λ(k,p1,c1,p2,c2)=>[(22,.d (dI k))]) (λ(k,p1,c1,p2,c2)=>[(3,.box b3 T.Machine [.bK 32 p1 (Eu l k).length c1,.bK 41 p2 (Af l k).length c2,.bK 18 b18 (l.getD 0 default).sym (l.getD 0 default).sym]),(32,.row p1 c1 T.Rat 3 ((Eu l k).map dQ)),(41,.row p2 c2 T.Rat 3 ((Af l k).map dQ)),(18,.row b18 (l.getD 0 default).sym T.dm 1 ((List.replicate (l.getD 0 default).sym []).map kN))]) (λ(k,p1,c1,p2,c2)=>k<=l.length) (λ(k,p1,c1,p2,c2)=>l.length-k) (0,0,0,0,0) (.cons (dA rfl) (.cons (iF rfl) (.cons (iF rfl) (.cons (dA rfl) (.cons (dA rfl) .nil))))) (.cons (jc rfl) .nil) ⟨Nat.zero_le _,.dw,.cons rfl (.cons rfl (.cons rfl (.cons rfl .nil)))⟩ ?_
 rintro⟨k,p1,c1,p2,c2⟩ h1
 have h1:k<=l.length:=h1;have hil:=CW hok k;have hfl:=CX hok k;have hsl:=yB l k;refine AW.sg hE rfl (bD rfl rfl rfl (OL.nil (AW.seq (AW.cond rfl (λh23=>?_) (λh23=>?_)))))
 .try simp only[fG] at h23
  refine AW.skip (AW.seq (AW.block (AW.seq ?_)));have hk:k<l.length:=by omega
  have fk:=hl _ (getD_mem hk default);have hsk:=uZ hk;have hsl2:=yB l (k+1);have e1:=fk.ok.ini;have e2:=fk.ok.fin;have hnl:=O3 (decide ((0:Int)<(k:Int))) (l.getD k default).fin;have hin:=CW hok (k+1);have hfn:=CX hok (k+1);rw[hsk] at hin hfn;refine AW.rg hE rfl (aj rfl (fD sl.tV default rfl rfl (by omega) rfl rfl (iR ag.Auto rfl (vs:=[_,_,_,_,_,_,_]) rfl (au rfl) (al z.Auto rfl λb5=>(aG rfl (eG sz.Auto rfl rfl rfl rfl rfl (au rfl) (cells2:=[_,_,_,_,_,_,_]) rfl (OL.nil ?_)))))))
  refine AW.seq (AW.dg 2 [0,1,2,3,4,5,6,7] ak hE rfl (by kernel_rfl) (OI.aP (os:=[_,_,_,_,_,_,_,_]) rfl ?_))
  refine aV fd.sV rfl rfl (aA ce.bF rfl rfl rfl (aV fd.mg rfl rfl (aA ce.aS rfl rfl rfl (bP rfl vL (JD (l:=(l.getD k default).ini) (mi:=false) (by omega) (λx hx=>fk.sz.ini x hx)) ?_))))
  rw[YB];refine Am sl.bF rfl rfl rfl (by rw[dL]) (VC.d _) TB (by rw[dL];omega) (by rw[dL];omega) (.inr rfl) (ys:=(Eu l k++(l.getD k default).ini).map dQ) (by rw[List.map_append]) (n2:=(aK (l.take k))+(l.getD k default).st) (by rw[dL,hil,e1]) λb32 c32=>?_
  refine aV fd.sV rfl rfl (eG sz.bF rfl rfl rfl rfl rfl (au rfl) (cells2:=[_,_,_]) rfl (OL.nil (AW.dg 2 [0,1,2,3,4,5,6,7,8,9] ak hE rfl (by kernel_rfl) (OI.aP (os:=[_,_,_,_,_,_,_,_,_,_]) rfl ?_))))
  refine aV fd.xg rfl rfl (aA ce.bF rfl rfl rfl (aV fd.o8 rfl rfl (aA ce.aS rfl rfl rfl (aj rfl (kS rfl rfl rfl (bP rfl vL (JD (l:=(l.getD k default).fin) (mi:=decide ((0:Int)<(k:Int))) (by omega) (λx hx=>fk.sz.fin x hx)) ?_))))))
  refine Am sl.bF rfl rfl rfl (by rw[dL]) (VC.d _) TB (by rw[dL];omega) (by rw[dL];omega) (.inr rfl) (ys:=(Af l k++FQ (decide ((0:Int)<(k:Int))) (l.getD k default).fin).map dQ) (by rw[List.map_append]) (n2:=(aK (l.take k))+(l.getD k default).st) (by rw[dL,hfl,hnl,e2]) λb41 c41=>?_
  refine aV fd.xg rfl rfl (eG sz.bF rfl rfl rfl rfl rfl (au rfl) (cells2:=[_,_,_]) rfl (OL.nil (AW.rg hE rfl (aJ rfl rfl (by omega) (aj rfl (OL.nil ?_))))))
  exact AW.again (x:=(k,p1,c1,p2,c2)) (k+1,b32,c32,b41,c41) (by (simp only[];omega)) ⟨by omega,Knows.app .I7 .dw,dP.app (.cons rfl .nil) (.cons (by rw[hin,hfn];rfl) (.cons (by rw[KL hk];rfl) (.cons (by rw[WJ hk];rfl) (.cons rfl .nil))))⟩
 .try simp only[fG] at h23
  refine AW.exit (AW.seq ?_);obtain rfl:k=l.length:=by omega
  rw[hN] at hil hfl;refine AW.rg hE rfl (aV fd.sV rfl rfl (aA ce.bF rfl rfl rfl (Qx sl.bF rfl rfl ?_)));rw[hil];refine aG rfl (OL.nil (AW.seq (AW.sg hE rfl (aV fd.jI rfl rfl (aA ce.fZ rfl rfl rfl (Qx sl.fZ rfl rfl (aj rfl ?_)))))));refine OL.nil (AW.block ?_);refine AW.aX (α:=Nat) [(0,_),(2,_),(3,_),(6,_),(49,_)] [(2,_),(3,_),(32,_),(41,_)] (λs=>[(50,.d (dI s))]) (λs=>[(18,.row b18 (l.getD 0 default).sym T.dm 1 ((List.replicate (l.getD 0 default).sym []).map kN))]) (λs=>s<=(l.getD 0 default).sym) (λs=>(l.getD 0 default).sym-s) 0 (.cons (dA rfl) (.cons (iF rfl) (.cons (iF rfl) (.cons (dA rfl) (.cons (dA rfl) .nil))))) (.cons (jc rfl) (.cons (jc rfl) (.cons (tJ rfl) (.cons (tJ rfl) .nil)))) ⟨Nat.zero_le _,.dw,.cons rfl .nil⟩ ?_;intro s h2;have h2:s<=(l.getD 0 default).sym:=h2;refine AW.sg hE rfl (bD rfl rfl rfl (OL.nil (AW.seq (AW.cond rfl (λh51=>?_) (λh51=>?_)))))
  .try simp only[fG] at h51
   refine AW.skip (AW.seq (AW.block (AW.sg hE rfl (aj rfl (aG rfl (OL.nil (AW.seq ?_)))))));refine AW.dg 118 [0,1,2,3,4,5,6] ak hE rfl (by kernel_rfl) (OI.aP (os:=[_,_,_,_,_,_,_]) rfl ?_)
   refine aV fd.jI rfl rfl (aA ce.fZ rfl rfl rfl (aj rfl (aj rfl (au6 (n:=(aK l)) (cp:=(aK l)) gm [] sl.dm z.bF (VCs.cons VC.mt VCs.nil) rfl rfl (Nat.le_refl _) (by omega) (by omega) rfl rfl λML=>(je sl.fZ rfl rfl (by omega) (J4 sz.dm rfl (d:=.sl []) (aB0 N0) rfl rfl (by rw[dL,List.length_replicate];omega) (es2:=(List.replicate (l.getD 0 default).sym []).map kN) (O6 (by omega)) (OL.nil ?_)))))))
   refine AW.sg hE rfl (aj rfl (aj rfl (OL.nil (AW.block ?_))));refine AW.aX (α:=Unit) [(0,_),(2,_),(3,_),(6,_),(7,_),(49,_),(50,_),(59,_)] [(2,_),(3,_),(18,_),(32,_),(41,_)] (λ_u=>[(60,.d (dI 0))]) (λ_u=>[]) (λ_u=>True) (λ_u=>0) () (.cons (dA rfl) (.cons (iF rfl) (.cons (iF rfl) (.cons (dA rfl) (.cons (dA rfl) (.cons (dA rfl) (.cons (dA rfl) (.cons (dA rfl) .nil)))))))) (.cons (jc rfl) (.cons (jc rfl) (.cons (tJ rfl) (.cons (tJ rfl) (.cons (tJ rfl) .nil))))) ⟨trivial,.dw,.nil⟩ ?_
   rintro⟨⟩ -
   refine AW.sg hE rfl (bD rfl rfl rfl (OL.nil (AW.seq (AW.cond rfl (λhno=>absurd hno (by simp[N0])) (λ_=>?_)))))
   refine AW.exit (AW.rg hE rfl (aJ rfl rfl (by omega) (aj rfl (OL.nil ?_))))
   exact AW.again (x:=s) (s+1) (by omega) ⟨by omega,Knows.app .I7 .dw,dP.app (.cons rfl (.cons rfl (.cons rfl (.cons rfl .nil)))) (.cons rfl .nil)⟩
  .try simp only[fG] at h51
   refine AW.exit (AW.seq ?_);obtain rfl:s=(l.getD 0 default).sym:=by omega
   refine AW.rg hE rfl (aG rfl (OL.nil (AW.seq (AW.sg hE rfl (aj rfl (fO sl.tV rfl rfl (aj rfl ?_)))))));refine OL.nil (AW.block ?_);refine AW.aX (α:=Nat) [(2,_),(3,_),(74,_),(75,_)] [(2,_),(3,_),(18,_),(32,_),(41,_)] (λk=>[(9,.d (dI (aK (l.take k)))),(76,.d (dI k))]) (λk=>[]) (λk=>k<=l.length) (λk=>l.length-k) 0 (.cons (iF rfl) (.cons (iF rfl) (.cons (dA rfl) (.cons (dA rfl) .nil)))) (.cons (jc rfl) (.cons (jc rfl) (.cons (tJ rfl) (.cons (tJ rfl) (.cons (tJ rfl) .nil))))) ⟨Nat.zero_le _,.jm,.nil⟩ ?_;intro k h4;have h4:k<=l.length:=h4;have hsl:=yB l k;refine AW.sg hE rfl (bD rfl rfl rfl (OL.nil (AW.seq (AW.cond rfl (λh77=>?_) (λh77=>?_)))))
   .try simp only[fG] at h77
    refine AW.skip (AW.seq (AW.block (AW.seq ?_)));have hk:k<l.length:=by omega
    have fk:=hl _ (getD_mem hk default);have hsk:=uZ hk;have hsl2:=yB l (k+1);have hst:=fk.st;have hna:=fk.sz.num;have har:(l.getD k default).aB=[]:=by
     refine List.eq_nil_iff_forall_not_mem.2 λx hx=>?_;have:=(fk.ok.arc x hx).1;omega
    have htl:(dF (l.getD k default).aB)=[]:=by rw[har];rfl
    refine AW.rg hE rfl (fD sl.tV default rfl rfl (by omega) rfl rfl (iR ag.Auto rfl (vs:=[_,_,_,_,_,_,_]) rfl (au rfl) (al z.Auto rfl λb11=>(eG sz.Auto rfl rfl rfl rfl rfl (au rfl) (cells2:=[_,_,_,_,_,_,_]) rfl (OL.nil (AW.seq (AW.sg hE rfl ?_)))))))
    refine aV fd.gu rfl rfl (aQ ag.Ring rfl rfl (vs:=[_,_]) rfl (au rfl) (aV fd.fM rfl rfl (aA ce.bZ rfl rfl rfl (bP rfl vL (aa1 (l:=(l.getD k default).aB) hna fk.sz.arc) ?_))));rw[htl];refine fO sl.bZ rfl rfl (aj rfl (OL.nil (AW.block ?_)));refine AW.aX (α:=Unit) [(2,_),(3,_),(9,_),(11,_),(74,_),(75,_),(76,_),(84,_),(85,_)] [(2,_),(3,_),(11,_),(18,_),(32,_),(41,_)] (λ_u=>[(86,.d (dI 0))]) (λ_u=>[]) (λ_u=>True) (λ_u=>0) () (.cons (iF rfl) (.cons (iF rfl) (.cons (dA rfl) (.cons (iF rfl) (.cons (dA rfl) (.cons (dA rfl) (.cons (dA rfl) (.cons (dA rfl) (.cons (dA rfl) .nil))))))))) (.cons (jc rfl) (.cons (jc rfl) (.cons (jc rfl) (.cons (tJ rfl) (.cons (tJ rfl) (.cons (tJ rfl) .nil)))))) ⟨trivial,.dw,.nil⟩ ?_
    rintro⟨⟩ -
    refine AW.sg hE rfl (bD rfl rfl rfl (OL.nil (AW.seq (AW.cond rfl (λhno=>absurd hno (by simp)) (λ_=>?_)))))
    refine AW.exit (AW.rg hE rfl (aj rfl (aV fd.jf rfl rfl (aA ce.int rfl rfl rfl (aJ rfl rfl (by omega) (aG rfl (OL.nil ?_)))))))
    refine AW.rg hE rfl (aJ rfl rfl (by omega) (aj rfl (OL.nil ?_)))
    exact AW.again (x:=k) (k+1) (by omega) ⟨by omega,Knows.app .J5 (.cons (bV.int (by rw[hsk];omega)) .dw),dP.app (.cons rfl (.cons rfl (.cons rfl (.cons rfl (.cons rfl .nil))))) (.nil)⟩
   .try simp only[fG] at h77
    refine AW.exit (AW.seq ?_);obtain rfl:k=l.length:=by omega
    have hi9:Eu l l.length=(ah l).ini:=by unfold Eu;rw[List.take_length];rfl
    have hf9:Af l l.length=(ah l).fin:=by unfold Af;rw[List.take_length];rfl
    have hms:(ah l).gV.length=(l.getD 0 default).sym:=wL;rw[<- YG N0,hi9,hf9];rw[hi9] at hil;rw[hf9] at hfl;refine AW.freeze 18 rfl (AW.pV 3 [.bK 32 p1 (ah l).ini.length c1,.bK 41 p2 (ah l).fin.length c2,.d (.sl ((ah l).gV.map kN))] rfl (.cons vR (.cons vR (.cons (dM (by rw[dL];exact hms.symm) rfl) .nil))) ?_)
    refine AW.freeze 32 rfl (AW.pV 3 [.d (gm (ah l).ini),.bK 41 p2 (ah l).fin.length c2,.d (.sl ((ah l).gV.map kN))] rfl (.cons (dM (by rw[dL]) rfl) .jm) ?_)
    refine AW.freeze 41 rfl (AW.pV 3 [.d (gm (ah l).ini),.d (gm (ah l).fin),.d (.sl ((ah l).gV.map kN))] rfl (.cons vR (.cons (dM (by rw[dL]) rfl) .dw)) ?_)
    refine AW.to [(2,.ptr 2 b2 0),(3,.ptr 3 b3 0)] [(2,.box b2 T.Machine [.mt,.mt,.mt]),(3,.box b3 T.Machine [.d (gm (ah l).ini),.d (gm (ah l).fin),.d (.sl ((ah l).gV.map kN))])] (.cons bV.ptr (.cons bV.ptr .nil)) (.cons rfl (.cons rfl .nil)) ?_;exact AW.rg hE rfl (aQ ag.Machine rfl rfl (vs:=[_,_,_]) rfl (au rfl) (eG sz.Machine rfl rfl rfl rfl rfl (au rfl) (cells2:=[_,_,_]) rfl (OL.nil (AW.ret (aT.r ⟨_,.dK rfl rfl ag.Machine (au rfl) .nil,.ag (.cons (.le vR) (.cons (.le vR) (.cons (.le vR) .nil)))⟩)))))
theorem OfQ {l:List Au}(hl:∀ a,a ∈ l->Au.Fit a (l.getD 0 default).sym)(n1:1<=l.length/\l.length<=64)(N64:aK l<=64):ai P F.DJ [.d (ai8 l)] (uD (ah l)):=by
 rcases Nat.eq_zero_or_pos (aK l) with h|h
 .exact bD9 hl n1 h
 .exact bD3 hl n1 h N64
