/-
  Walks of package rows, part 5: the machine of some automata (printed by mk2.py).
-/
import Derived.Test.YtnjoncgnjdkaoaaGreatDoorKWkP
set_option maxRecDepth 8000
set_option maxHeartbeats 12800000
set_option linter.unusedVariables false
set_option linter.unusedSimpArgs false
namespace Go.Proofs.YtnjoncgnjdkaoaaGreatDoor
open Go Go.AL
theorem U8 {P:Program}{f:Nat}{args:List V}{res:V}{φ:Unit->Prop}(h:jw P f args jO (λ_:Unit=>res) (λ_=>jO) φ):aj P f args res :=
 aj.ab2 ⟨h.1,λF w vals hS hv=>(h.2 F w vals hS hv).mono λe w' ⟨_,_,r⟩=>r⟩
theorem Xc (l:List Rat):EC false l=l:=by
 have e:(λx:Rat=>if (false=true) then -x else x)=id:=by funext x;rw[if_neg Bool.false_ne_true];rfl
 unfold EC;rw[e,List.map_id]
theorem U9 {l:List Au}{k:Nat}(hk:k<l.length):zO l (k+1)=zO l k++EC (decide ((0:Int)<(k:Int))) (l.getD k default).fin:=by
 rcases Nat.eq_zero_or_pos k with h0|h0
 .subst h0;rw[Uz hk,show decide ((0:Int)<((0:Nat):Int))=false from rfl,Xc];rfl
 .rw[P8 hk h0,show decide ((0:Int)<(k:Int))=true from decide_eq_true (by omega)]
  congr 1
theorem x9 (l:List Au)(k:Nat):aJ (l.take k)<=aJ l:=by
 have h:aJ l=aJ (l.take k)+aJ (l.drop k):=by rw[<- P7,List.take_append_drop]
 omega
def wE (f:Nat->Nat)(a b:Nat):Nat->Nat:=λk=>if k=a then b else f k
theorem Iu {f:Nat->Nat}{a b:Nat}:wE f a b a=b:=if_pos rfl
theorem Iw {f:Nat->Nat}{a b k:Nat}(h:k≠a):wE f a b k=f k:=if_neg h
abbrev OC (N:Nat)(f:Nat->Rat):List D:=((List.range N).map f).map dQ
theorem Cc {N:Nat}{f:Nat->Rat}:(OC N f).length=N:=by simp[OC]
def PP (K N:Nat)(bp:Nat->Nat)(c:Nat->Nat->Nat->Rat):List (Nat × List D):=(List.range K).map λk=>(bp k,OC N (c (k / N) (k % N)))
def HR (N s:Nat)(bp:Nat->Nat):List D:=(List.range N).map λi=>OE (bp (s*N+i)) N N
def HF (N s:Nat)(bp:Nat->Nat)(i:Nat):List D:=kZ (iQ []) (λi=>OE (bp (s*N+i)) N N) N i
def QQ (S N:Nat)(bq bp:Nat->Nat):List (Nat × List D):=(List.range S).map λs=>(bq s,HR N s bp)
def OF (S N:Nat)(bq:Nat->Nat)(s:Nat):List D:=kZ (vz []) (λk=>OE (bq k) N N) S s
section
variable {K N S s i k b:Nat}{bp bq:Nat->Nat}{c d:Nat->Nat->Nat->Rat}
theorem JW {α:Type}{x:α}{g h:Nat->α}{n i:Nat}(e:∀ j,j<i->g j=h j):kZ x g n i=kZ x h n i:=by
 unfold kZ;refine List.map_congr_left λj _=>?_
 split
 .exact e j ‹_›
 .rfl
theorem Xd:(OF S N bq s).length=S:=sF ..
theorem Xe:(HF N s bp i).length=N:=sF ..
theorem aq6:(HR N s bp).length=N:=by simp[HR]
theorem aT5:(QQ S N bq bp).length=S:=by simp[QQ]
theorem Xf:(PP K N bp c).length=K:=by simp[PP]
theorem aT6 (hs:s<S):(OF S N bq s).set s (OE b N N)=OF S N (wE bq s b) (s+1):=by
 have e:OF S N bq s=OF S N (wE bq s b) s:=JW λj hj=>by rw[Iw (by omega)]
 rw[e,<- show (OF S N (wE bq s b) s).set s (OE (wE bq s b s) N N)=OF S N (wE bq s b) (s+1) from pq (g:=λk=>OE (wE bq s b k) N N) hs,Iu]
theorem aM2 (hs:s<k)(hk:s<S):(OF S N bq k)[s]? = some (OE (bq s) N N):=by
 unfold OF kZ;rw[List.getElem?_map,List.getElem?_range hk,Option.map_some,if_pos hs]
theorem aT7 (hi:i<N):(HF N s bp i).set i (OE b N N)=HF N s (wE bp (s*N+i) b) (i+1):=by
 have e:HF N s bp i=HF N s (wE bp (s*N+i) b) i:=JW λj hj=>by rw[Iw (by omega)]
 rw[e,<- show (HF N s (wE bp (s*N+i) b) i).set i (OE (wE bp (s*N+i) b (s*N+i)) N N)=HF N s (wE bp (s*N+i) b) (i+1) from pq (g:=λi9=>OE (wE bp (s*N+i) b (s*N+i9)) N N) hi,Iu]
theorem aT8:HF N s bp N=HR N s bp:=by unfold HF HR;rw[EZ]
theorem aT9 (h:s*N<=k):QQ s N bq (wE bp k b)=QQ s N bq bp:=by
 unfold QQ;refine List.map_congr_left λt ht=>?_;have ht:=List.mem_range.1 ht;unfold HR;congr 1;refine List.map_congr_left λi hi=>?_;have hi:=List.mem_range.1 hi;have h1:t*N+N<=s*N:=by rw[<- Nat.succ_mul];exact Nat.mul_le_mul_right _ ht
 rw[Iw (by omega)]
theorem bf1 (h:s<=k):QQ s N (wE bq k b) bp=QQ s N bq bp:=by
 unfold QQ;refine List.map_congr_left λt ht=>?_;have ht:=List.mem_range.1 ht;rw[Iw (by omega)]
theorem aF8:QQ s N (wE bq s b) bp++[(b,HR N s bp)]=QQ (s+1) N (wE bq s b) bp:=by
 unfold QQ;rw[List.range_succ,List.map_append,List.map_singleton,Iu]
theorem aF9:PP k N bp (λ_ _ _=>0)++[(b,(List.replicate N (0:Rat)).map dQ)]=PP (k+1) N (wE bp k b) λ_ _ _=>0:=by
 have e:PP k N bp (λ_ _ _=>0)=PP k N (wE bp k b) λ_ _ _=>0:=by
  unfold PP;refine List.map_congr_left λt ht=>?_;have ht:=List.mem_range.1 ht;rw[Iw (by omega)]
 rw[e];unfold PP;rw[List.range_succ,List.map_append,List.map_singleton,Iu];congr 4;rw[List.map_const',List.length_range]
theorem bf2 (hs:s<S):(QQ S N bq bp)[s]? = some (bq s,HR N s bp):=by
 unfold QQ;rw[List.getElem?_map,List.getElem?_range hs];rfl
theorem bf3 (hi:i<N):(HR N s bp)[i]? = some (OE (bp (s*N+i)) N N):=by
 unfold HR;rw[List.getElem?_map,List.getElem?_range hi];rfl
theorem divN (hi:i<N):(s*N+i) / N=s/\(s*N+i) % N=i:=by
 rw[Nat.mul_comm,Nat.mul_add_div (by omega),Nat.mul_add_mod,Nat.div_eq_of_lt hi,Nat.mod_eq_of_lt hi]
 exact⟨rfl,rfl⟩
theorem aq7 (hs:s<S)(hi:i<N):s*N+i<S*N:=by
 have h1:s*N+N<=S*N:=by rw[<- Nat.succ_mul];exact Nat.mul_le_mul_right _ hs
 omega
theorem aM3 (hs:s<S)(hi:i<N):(PP (S*N) N bp c)[s*N+i]? = some (bp (s*N+i),OC N (c s i)):=by
 unfold PP;rw[List.getElem?_map,List.getElem?_range (aq7 hs hi),Option.map_some,(divN hi).1,(divN hi).2]
theorem aU0 (hs:s<S)(hi:i<N)(h:∀ t j,¬(t=s/\j=i)->c t j=d t j):PP (S*N) N bp d=(PP (S*N) N bp c).set (s*N+i) (bp (s*N+i),OC N (d s i)):=by
 refine List.ext_getElem (by rw[List.length_set,Xf,Xf]) λk h1 h2=>?_
 rw[List.getElem_set];by_cases hk:s*N+i=k
 .subst hk;rw[if_pos rfl];simp only[PP,List.getElem_map,List.getElem_range];rw[(divN hi).1,(divN hi).2]
 .rw[if_neg hk];simp only[PP,List.getElem_map,List.getElem_range];rw[h (k / N) (k % N) λe=>hk (by rw[<- e.1,<- e.2];exact Nat.div_add_mod' k N)]
theorem aq8 {f g:Nat->Rat}{j:Nat}{q:Rat}(hj:j<N)(h:∀ t,g t=if t=j then q else f t):(OC N f).set j (dQ q)=OC N g:=by
 refine List.ext_getElem (by rw[List.length_set,Cc,Cc]) λt h1 h2=>?_
 rw[List.getElem_set];by_cases ht:j=t
 .subst ht;rw[if_pos rfl];simp only[List.getElem_map,List.getElem_range];rw[h,if_pos rfl]
 .rw[if_neg ht];simp only[List.getElem_map,List.getElem_range];rw[h,if_neg (Ne.symm ht)]
def LL (S N:Nat)(bq bp:Nat->Nat)(c:Nat->Nat->Nat->Rat):List (Nat × List (Nat × List D)):=(List.range S).map λs=>(bq s,(List.range N).map λi=>(bp (s*N+i),OC N (c s i)))
theorem bq2:QQ S N bq bp=(LL S N bq bp c).map λr=>(r.1,r.2.map RY):=by
 unfold QQ LL HR;rw[List.map_map];refine List.map_congr_left λs _=>?_;show (bq s,_)=(bq s,List.map RY _)
 rw[List.map_map];congr 1;exact List.map_congr_left λi _=>(ag7 Cc).symm
theorem bf4:∀ r,r ∈ LL S N bq bp c->∀ q,q ∈ r.2->q ∈ PP (S*N) N bp c:=λr hr q hq=>by
 obtain⟨s,hs,rfl⟩:=mM hr;obtain⟨i,hi,rfl⟩:=mM hq;exact List.mem_of_getElem? (aM3 (List.mem_range.1 hs) (List.mem_range.1 hi))
theorem bq3:OF S N bq S=((LL S N bq bp c).map λr=>(r.1,r.2.map λq:Nat × List D=>(.sl q.2:D))).map RY:=by
 unfold OF LL;rw[EZ,List.map_map,List.map_map];exact List.map_congr_left λs _=>((ag7 (by simp)).symm)
theorem bq4 {l:List Au}:(((LL (l.getD 0 default).sym (aJ l) bq bp (uJ l)).map λr=>(r.1,r.2.map λq:Nat × List D=>(.sl q.2:D))).map λq=>(.sl q.2:D))=(cZ l).qL.map vz:=by
 unfold LL cZ GK;rw[List.map_map,List.map_map,List.map_map];refine List.map_congr_left λs _=>?_;show D.sl _=D.sl _
 congr 1;show List.map _ _=List.map iQ (List.map _ _)
 rw[List.map_map,List.map_map];exact List.map_congr_left λi _=>rfl
end
theorem Z4 {α:Type}{l:List α}{i:Nat}{x:α}(h:l[i]? = some x):l=l.set i x:=(aT2 h).symm
def Yv:Nat->Option Nat
 | 63=>some 0
 | 64=>some 1
 | 65=>some 2
 | 66=>some 3
 | 67=>some 4
 | 68=>some 5
 | 69=>some 6
 | 70=>some 7
 | 71=>some 8
 | _=>none
theorem sN {t i:Nat}(h:Yv t=some i):t=[63,64,65,66,67,68,69,70,71].getD i 0:=by
 unfold Yv at h
 split at h <;> first|(cases h;rfl)|cases h
noncomputable def valOf (b3 b18 Oj kk nn s i:Nat)(t:Nat)(β:Nat->Nat × Nat):V :=
 match t with
 | 63=>.ptr 3 b3 2
 | 64=>.bF 18 b18 kk kk
 | 65=>.d (dI s)
 | 66=>.pW 18 b18 1 s 0
 | 67=>.bF 57 Oj nn nn
 | 68=>.d (dI i)
 | 69=>.d (dI nn)
 | 70=>.bF 70 (β 70).1 nn nn
 | 71=>.pW 57 Oj 1 i 0
 | _=>.junk
noncomputable abbrev bf5 (b3 b18 Oj kk nn s i:Nat):List Ko:=[⟨70,7,λβ=>.row (β 70).1 nn T.Rat 3 ((List.replicate nn (0:Rat)).map dQ)⟩]
theorem bf6 {p:Nat->Prop}(h0:p 0)(h1:p 1)(h2:p 2)(h3:p 3)(h4:p 4)(h5:p 5)(h6:p 6)(h7:p 7)(h8:p 8):∀ i,i<9->p i:=λi hi=>by
 have:i=0 \/ i=1 \/ i=2 \/ i=3 \/ i=4 \/ i=5 \/ i=6 \/ i=7 \/ i=8:=by omega
 rcases this with rfl|rfl|rfl|rfl|rfl|rfl|rfl|rfl|rfl <;> assumption
theorem bq5 {l:List Au}(hl:∀ a,a ∈ l->Au.Fit a (l.getD 0 default).sym)(n1:1<=l.length/\l.length<=64)(N1:1<=aJ l)(N64:aJ l<=64):aj P F.CY [.d (ZC l)] (Ic (cZ l)):=by
 have n1a:=n1.1;have n1b:=n1.2;have hok:∀ a,a ∈ l->a.Ok:=λa ha=>(hl a ha).ok;have f0:=hl _ (getD_mem (show 0<l.length by omega) default)
 have S32:=f0.s1;have hN:aJ (l.take l.length)=aJ l:=by rw[List.take_length]
 refine aj.intro fn.CY (by rfl) (by rfl) (aB (by rfl)) λE hE=>(AW.sg hE rfl (al z.Machine rfl λb2=>(OL.nil (AW.sg hE rfl (ai rfl (LJ 0 sl.sU default rfl rfl rfl (by omega) rfl rfl (Vp fd.qp rfl rfl ?_)))))))
 refine iH ce.int rfl (QM (n:=(l.getD 0 default).sym) (cp:=(l.getD 0 default).sym) vz [] sl.mG z.fK Yq rfl rfl (Nat.le_refl _) (by omega) (by omega) rfl λb18=>(bd z.Machine pl.Machine (cs:=[_,_,_]) rfl (al z.Machine rfl λb3=>(eH sz.Machine rfl rfl rfl rfl rfl (aB rfl) (cells2:=[_,_,_]) rfl (OL.nil (AW.seq (AW.sg hE rfl ?_)))))))
 refine ai rfl (fJ sl.sU rfl rfl (ai rfl (OL.nil (AW.block (AW.xQ 32 T.Rat 3 rfl (AW.xQ 41 T.Rat 3 rfl (AW.xO 3 [.bF 32 0 0 0,.bF 41 0 0 0,.bF 18 b18 (l.getD 0 default).sym (l.getD 0 default).sym] rfl (.cons oL (.cons oL .bZ)) ?_)))))));refine AW.aV (α:=Nat × Nat × Nat × Nat × Nat) [(0,_),(2,_),(3,_),(20,_),(21,_)] [(2,_)] (λ(k,p1,c1,p2,c2)=>[(22,.d (dI k))]) (λ(k,p1,c1,p2,c2)=>[(3,.box b3 T.Machine [.bF 32 p1 (DF l k).length c1,.bF 41 p2 (zO l k).length c2,.bF 18 b18 (l.getD 0 default).sym (l.getD 0 default).sym]),(32,.row p1 c1 T.Rat 3 ((DF l k).map dQ)),(41,.row p2 c2 T.Rat 3 ((zO l k).map dQ)),(18,.row b18 (l.getD 0 default).sym T.fK 1 ((List.replicate (l.getD 0 default).sym []).map vz))]) (λ(k,p1,c1,p2,c2)=>k<=l.length) (λ(k,p1,c1,p2,c2)=>l.length-k) (0,0,0,0,0) (.cons (bK rfl) (.cons (gB rfl) (.cons (gB rfl) (.cons (bK rfl) (.cons (bK rfl) .nil))))) (.cons (iR rfl) .nil) ⟨Nat.zero_le _,.bZ,.cons rfl (.cons rfl (.cons rfl (.cons rfl .nil)))⟩ ?_
 rintro⟨k,p1,c1,p2,c2⟩ h1
 have h1:k<=l.length:=h1;have hil:=BU hok k;have hfl:=BV hok k;have hsl:=x9 l k;refine AW.sg hE rfl (aY rfl rfl rfl (OL.nil (AW.seq (AW.cond rfl (λh23=>?_) (λh23=>?_)))))
 .try simp only[dX] at h23
  refine AW.skip (AW.seq (AW.block (AW.seq ?_)));have hk:k<l.length:=by omega
  have fk:=hl _ (getD_mem hk default);have hsk:=uM hk;have hsl2:=x9 l (k+1);have e1:=fk.ok.ini;have e2:=fk.ok.fin;have hnl:=NG (decide ((0:Int)<(k:Int))) (l.getD k default).fin;have hin:=BU hok (k+1);have hfn:=BV hok (k+1);rw[hsk] at hin hfn;refine AW.rg hE rfl (ai rfl (fO sl.sU default rfl rfl (by omega) rfl rfl (jH ag.Auto rfl (vs:=[_,_,_,_,_,_,_]) rfl (aB rfl) (al z.Auto rfl λb5=>(aF rfl (eH sz.Auto rfl rfl rfl rfl rfl (aB rfl) (cells2:=[_,_,_,_,_,_,_]) rfl (OL.nil ?_)))))))
  refine AW.seq (AW.dg 2 [0,1,2,3,4,5,6,7] ay hE rfl (by kernel_rfl) (OI.aK (os:=[_,_,_,_,_,_,_,_]) rfl ?_))
  refine aW fd.wS rfl rfl (aG ce.bQ rfl rfl rfl (aW fd.vV rfl rfl (aG ce.aU rfl rfl rfl (bJ rfl vL (Ij (l:=(l.getD k default).ini) (mi:=false) (by omega) (λx hx=>fk.sz.ini x hx)) ?_))))
  rw[Xc];refine Ce sl.bQ rfl rfl rfl (by rw[dJ]) (VC.d _) QX (by rw[dJ];omega) (by rw[dJ];omega) (.inr rfl) (ys:=(DF l k++(l.getD k default).ini).map dQ) (by rw[List.map_append]) (n2:=(aJ (l.take k))+(l.getD k default).st) (by rw[dJ,hil,e1]) λb32 c32=>?_
  refine aW fd.wS rfl rfl (eH sz.bQ rfl rfl rfl rfl rfl (aB rfl) (cells2:=[_,_,_]) rfl (OL.nil (AW.dg 2 [0,1,2,3,4,5,6,7,8,9] ay hE rfl (by kernel_rfl) (OI.aK (os:=[_,_,_,_,_,_,_,_,_,_]) rfl ?_))))
  refine aW fd.BH rfl rfl (aG ce.bQ rfl rfl rfl (aW fd.wR rfl rfl (aG ce.aU rfl rfl rfl (ai rfl (iO rfl rfl rfl (bJ rfl vL (Ij (l:=(l.getD k default).fin) (mi:=decide ((0:Int)<(k:Int))) (by omega) (λx hx=>fk.sz.fin x hx)) ?_))))))
  refine Ce sl.bQ rfl rfl rfl (by rw[dJ]) (VC.d _) QX (by rw[dJ];omega) (by rw[dJ];omega) (.inr rfl) (ys:=(zO l k++EC (decide ((0:Int)<(k:Int))) (l.getD k default).fin).map dQ) (by rw[List.map_append]) (n2:=(aJ (l.take k))+(l.getD k default).st) (by rw[dJ,hfl,hnl,e2]) λb41 c41=>?_
  refine aW fd.BH rfl rfl (eH sz.bQ rfl rfl rfl rfl rfl (aB rfl) (cells2:=[_,_,_]) rfl (OL.nil (AW.rg hE rfl (aI rfl rfl (by omega) (ai rfl (OL.nil ?_))))))
  exact AW.again (x:=(k,p1,c1,p2,c2)) (k+1,b32,c32,b41,c41) (by (simp only[];omega)) ⟨by omega,Knows.app .DR .bZ,dw.app (.cons rfl .nil) (.cons (by rw[hin,hfn];rfl) (.cons (by rw[Jf hk];rfl) (.cons (by rw[U9 hk];rfl) (.cons rfl .nil))))⟩
 .try simp only[dX] at h23
  refine AW.exit (AW.seq ?_);obtain rfl:k=l.length:=by omega
  rw[hN] at hil hfl;refine AW.rg hE rfl (aW fd.wS rfl rfl (aG ce.bQ rfl rfl rfl (G5 sl.bQ rfl rfl ?_)));rw[hil];refine aF rfl (OL.nil (AW.seq (AW.sg hE rfl (aW fd.uT rfl rfl (aG ce.mG rfl rfl rfl (G5 sl.mG rfl rfl (ai rfl ?_)))))));refine OL.nil (AW.block (AW.aJ9 2000 T.bQ 1 rfl (AW.aJ9 2001 T.Rat 3 rfl ?_)));refine AW.aV (α:=Nat × (Nat->Nat) × (Nat->Nat)) [(0,_),(2,_),(3,_),(6,_),(49,_)] [(2,_),(3,_),(32,_),(41,_)] (λ(s,bq,bp)=>[(50,.d (dI s))]) (λ(s,bq,bp)=>[(18,.row b18 (l.getD 0 default).sym T.fK 1 (OF (l.getD 0 default).sym (aJ l) bq (s))),(2000,.pool T.bQ 1 (QQ s (aJ l) bq bp)),(2001,.pool T.Rat 3 (PP (s*(aJ l)) (aJ l) bp (λ_ _ _=>0)))]) (λ(s,bq,bp)=>s<=(l.getD 0 default).sym) (λ(s,bq,bp)=>(l.getD 0 default).sym-s) (0,λ_=>0,λ_=>0) (.cons (bK rfl) (.cons (gB rfl) (.cons (gB rfl) (.cons (bK rfl) (.cons (bK rfl) .nil))))) (.cons (iR rfl) (.cons (iR rfl) (.cons (lg rfl) (.cons (lg rfl) .nil)))) ⟨Nat.zero_le _,.bZ,.cons (by unfold OF;rw[rF,<- List.map_replicate];rfl) (.cons rfl (.cons (by rw[Nat.zero_mul];rfl) .nil))⟩ ?_
  rintro⟨s,bq,bp⟩ h2
  have h2:s<=(l.getD 0 default).sym:=h2;have hol:(OF (l.getD 0 default).sym (aJ l) bq s).length=(l.getD 0 default).sym:=Xd;refine AW.sg hE rfl (aY rfl rfl rfl (OL.nil (AW.seq (AW.cond rfl (λh51=>?_) (λh51=>?_)))))
  .try simp only[dX] at h51
   refine AW.skip (AW.seq (AW.block (AW.sg hE rfl (ai rfl (aF rfl (OL.nil (AW.seq ?_)))))));refine AW.dg 118 [0,1,2,3,4,5,6] ay hE rfl (by kernel_rfl) (OI.aK (os:=[_,_,_,_,_,_,_]) rfl ?_)
   refine aW fd.uT rfl rfl (aG ce.mG rfl rfl rfl (ai rfl (ai rfl (a05 (n:=(aJ l)) (cp:=(aJ l)) iQ [] sl.fK z.bQ (VCs.cons VC.mt VCs.nil) rfl rfl (Nat.le_refl _) (by omega) (by omega) rfl rfl λOj=>(iM sl.mG rfl rfl (by omega) (GI sz.fK rfl (XM (by omega)) rfl rfl (by omega) (es2:=OF (l.getD 0 default).sym (aJ l) (wE bq s Oj) (s+1)) (aT6 (by omega)) (OL.nil ?_)))))))
   refine AW.sg hE rfl (ai rfl (ai rfl (OL.nil (AW.block ?_))));refine AW.aV (α:=Nat × (Nat->Nat)) [(0,_),(2,_),(3,_),(6,_),(7,_),(49,_),(50,_),(59,_)] [(2,_),(3,_),(18,_),(32,_),(41,_)] (λ(i,Xg)=>[(60,.d (dI i))]) (λ(i,Xg)=>[(57,.row Oj (aJ l) T.bQ 1 (HF (aJ l) s Xg i)),(2000,.pool T.bQ 1 (QQ s (aJ l) bq Xg)),(2001,.pool T.Rat 3 (PP (s*(aJ l)+i) (aJ l) Xg (λ_ _ _=>0)))]) (λ(i,Xg)=>i<=(aJ l)) (λ(i,Xg)=>(aJ l)-i) (0,bp) (.cons (bK rfl) (.cons (gB rfl) (.cons (gB rfl) (.cons (bK rfl) (.cons (bK rfl) (.cons (bK rfl) (.cons (bK rfl) (.cons (bK rfl) .nil)))))))) (.cons (iR rfl) (.cons (iR rfl) (.cons (lg rfl) (.cons (lg rfl) (.cons (lg rfl) .nil))))) ⟨Nat.zero_le _,.bZ,.cons (by unfold HF;rw[rF,<- List.map_replicate];rfl) (.cons rfl (.cons rfl .nil))⟩ ?_
   rintro⟨i,Xg⟩ h3
   have h3:i<=(aJ l):=h3;have hhl:(HF (aJ l) s Xg i).length=(aJ l):=Xe;have ar0:(OF (l.getD 0 default).sym (aJ l) (wE bq s Oj) (s+1))[s]? = some (OE Oj (aJ l) (aJ l)):=by rw[aM2 (by omega) (by omega),Iu]
   have bB6:(OF (l.getD 0 default).sym (aJ l) (wE bq s Oj) (s+1)).length=(l.getD 0 default).sym:=Xd;refine AW.sg hE rfl (aY rfl rfl rfl (OL.nil (AW.seq (AW.cond rfl (λh61=>?_) (λh61=>?_)))))
   .try simp only[dX] at h61
    refine AW.skip (AW.seq (AW.block (AW.sg hE rfl (ai rfl (aF rfl (OL.nil (AW.rU (valOf b3 b18 Oj (l.getD 0 default).sym (aJ l) s i) Yv (bf5 b3 b18 Oj (l.getD 0 default).sym (aJ l) s i) 9 ay (by rw[hE];rfl) (by rfl) (by kernel_rfl) (by kernel_rfl) ?_ ?_)))))))
    .refine bf6 ?_ ?_ ?_ ?_ ?_ ?_ ?_ ?_ ?_
     .exact λβ L c9=>⟨_,rfl,.inl (OG.aK (aW (b:=b3) (o:=0) (id:=3) fd.uT ((bV rfl).trans rfl) rfl ⟨β,di (d:=63) (i:=0) rfl (λt ht=>sN ht) (lt_size 10 c9.size rfl (by decide)) (aZ (lt_size 10 c9.size rfl (by decide)) (by rfl))⟩))⟩
     .exact λβ L c9=>⟨_,rfl,.inl (OG.aK (aG ce.mG (bI rfl (aQ (j:=0) c9 (by kernel_rfl))) ((fP (ak (show (3:Nat)≠70 by decide) rfl)):_=some (.box b3 T.Machine [.bF 32 p1 (DF l l.length).length c1,.bF 41 p2 (zO l l.length).length c2,.bF 18 b18 (l.getD 0 default).sym (l.getD 0 default).sym])) (v:=.bF 18 b18 (l.getD 0 default).sym (l.getD 0 default).sym) rfl ⟨β,di (d:=64) (i:=1) rfl (λt ht=>sN ht) (lt_size 10 c9.size rfl (by decide)) (aZ (lt_size 10 c9.size rfl (by decide)) (by rfl))⟩))⟩
     .exact λβ L c9=>⟨_,rfl,.inl (OG.aK (ai (y:=dI s) ((bV rfl).trans rfl) ⟨β,di (d:=65) (i:=2) rfl (λt ht=>sN ht) (lt_size 10 c9.size rfl (by decide)) (aZ (lt_size 10 c9.size rfl (by decide)) (by rfl))⟩))⟩
     .exact λβ L c9=>⟨_,rfl,.inl (OG.aK (Vu sl.mG (id:=18) (b:=b18) (l:=(l.getD 0 default).sym) (c:=(l.getD 0 default).sym) (bI rfl (aQ (j:=1) c9 (by kernel_rfl))) (bI rfl (aQ (j:=2) c9 (by kernel_rfl))) (by omega) (by omega) (i:=s) (by omega) ⟨β,di (d:=66) (i:=3) rfl (λt ht=>sN ht) (lt_size 10 c9.size rfl (by decide)) (aZ (lt_size 10 c9.size rfl (by decide)) (by rfl))⟩))⟩
     .exact λβ L c9=>⟨_,rfl,.inl (OG.aK (aO7 (.J3 (by decide) (bI rfl (aQ (j:=3) c9 (by kernel_rfl))) ((fP (ak (show (18:Nat)≠70 by decide) rfl)):_=some (.row b18 (l.getD 0 default).sym T.fK 1 (OF (l.getD 0 default).sym (aJ l) (wE bq s Oj) (s+1)))) ar0 ce.fK (d:=OE Oj (aJ l) (aJ l)) rfl) (LQ 57 (Nat.le_refl _)) ⟨β,di (d:=67) (i:=4) rfl (λt ht=>sN ht) (lt_size 10 c9.size rfl (by decide)) (aZ (lt_size 10 c9.size rfl (by decide)) (by rfl))⟩))⟩
     .exact λβ L c9=>⟨_,rfl,.inl (OG.aK (ai (y:=dI i) ((bV rfl).trans rfl) ⟨β,di (d:=68) (i:=5) rfl (λt ht=>sN ht) (lt_size 10 c9.size rfl (by decide)) (aZ (lt_size 10 c9.size rfl (by decide)) (by rfl))⟩))⟩
     .exact λβ L c9=>⟨_,rfl,.inl (OG.aK (ai (y:=dI (aJ l)) ((bV rfl).trans rfl) ⟨β,di (d:=69) (i:=6) rfl (λt ht=>sN ht) (lt_size 10 c9.size rfl (by decide)) (aZ (lt_size 10 c9.size rfl (by decide)) (by rfl))⟩))⟩
     .exact λβ L c9=>⟨_,rfl,.inl (OG.aK (QM (n:=(aJ l)) (cp:=(aJ l)) dQ 0 sl.bQ z.Rat Be (bI rfl (aQ (j:=6) c9 (by kernel_rfl))) (bI rfl (aQ (j:=6) c9 (by kernel_rfl))) (Nat.le_refl _) (by omega) (by omega) (fP (nX (by exact c9.no) rfl)) λb=>⟨upd β 70 (b,0),CP (d:=70) (i:=7) (x:=(b,0)) rfl (λt ht=>sN ht) (lt_size 10 c9.size rfl (by decide)) rfl (o6 (lt_size 10 c9.size rfl (by decide)) rfl rfl rfl c9.no (by rfl) (λy hy=>absurd hy List.not_mem_nil)) (λt j ho hl=>by unfold Yv at ho;split at ho <;> cases ho <;> first|rfl|(rw[c9.no] at hl;cases hl)|exact rV c9 (by kernel_rfl) hl)⟩))⟩
     .exact λβ L c9=>⟨_,rfl,.inl (OG.aK (Vu sl.fK (id:=57) (b:=Oj) (l:=(aJ l)) (c:=(aJ l)) (bI rfl (aQ (j:=4) c9 (by kernel_rfl))) (bI rfl (aQ (j:=5) c9 (by kernel_rfl))) (by omega) (by omega) (i:=i) (by omega) ⟨β,di (d:=71) (i:=8) rfl (λt ht=>sN ht) (lt_size 10 c9.size rfl (by decide)) (aZ (lt_size 10 c9.size rfl (by decide)) (by rfl))⟩))⟩
    refine λβ L c9 hA=>⟨_,rfl,SG.a07 (SO.aP0 (id:=70) (es:=(List.replicate (aJ l) (0:Rat)).map dQ) (bI rfl (hA 8 (by decide))) (bI rfl (hA 7 (by decide))) (fP (uo (hA 7 (by decide)) rfl rfl)) ((fP (ak (show (57:Nat)≠70 by decide) rfl)):_=some (.row Oj (aJ l) T.bQ 1 (HF (aJ l) s Xg i))) sz.bQ (by rw[Xe];omega) (by rw[dJ,List.length_replicate];omega) λhc=>?_)⟩
    refine AW.to [(0,.d (ZC l)),(2,.ptr 2 b2 0),(3,.ptr 3 b3 0),(6,.d (dI (aJ l))),(7,.d (dI s)),(49,.d (dI (l.getD 0 default).sym)),(50,.d (dI s)),(59,.d (dI (aJ l))),(60,.d (dI i))] [(2,.box b2 T.Machine [.mt,.mt,.mt]),(3,.box b3 T.Machine [.bF 32 p1 (DF l l.length).length c1,.bF 41 p2 (zO l l.length).length c2,.bF 18 b18 (l.getD 0 default).sym (l.getD 0 default).sym]),(18,.row b18 (l.getD 0 default).sym T.fK 1 (OF (l.getD 0 default).sym (aJ l) (wE bq s Oj) (s+1))),(32,.row p1 c1 T.Rat 3 ((DF l l.length).map dQ)),(41,.row p2 c2 T.Rat 3 ((zO l l.length).map dQ)),(2000,.pool T.bQ 1 (QQ s (aJ l) bq Xg)),(2001,.pool T.Rat 3 (PP (s*(aJ l)+i) (aJ l) Xg (λ_ _ _=>0))),(57,.row Oj (aJ l) T.bQ 1 (HF (aJ l) s (wE Xg (s*(aJ l)+i) (β 70).1) (i+1))),(70,.row (β 70).1 (aJ l) T.Rat 3 ((List.replicate (aJ l) (0:Rat)).map dQ))] (.cons (au (jC ((bV rfl).trans rfl))) (.cons (au (jC ((bV rfl).trans rfl))) (.cons (au (jC ((bV rfl).trans rfl))) (.cons (au (jC ((bV rfl).trans rfl))) (.cons (au (jC ((bV rfl).trans rfl))) (.cons (au (jC ((bV rfl).trans rfl))) (.cons (au (jC ((bV rfl).trans rfl))) (.cons (au (jC ((bV rfl).trans rfl))) (.cons (au (jC ((bV rfl).trans rfl))) (.nil)))))))))) (.cons (pY (show (2:Nat)≠57 by decide) (fP (ak (show (2:Nat)≠70 by decide) rfl))) (.cons (pY (show (3:Nat)≠57 by decide) (fP (ak (show (3:Nat)≠70 by decide) rfl))) (.cons (pY (show (18:Nat)≠57 by decide) (fP (ak (show (18:Nat)≠70 by decide) rfl))) (.cons (pY (show (32:Nat)≠57 by decide) (fP (ak (show (32:Nat)≠70 by decide) rfl))) (.cons (pY (show (41:Nat)≠57 by decide) (fP (ak (show (41:Nat)≠70 by decide) rfl))) (.cons (pY (show (2000:Nat)≠57 by decide) (fP (ak (show (2000:Nat)≠70 by decide) rfl))) (.cons (pY (show (2001:Nat)≠57 by decide) (fP (ak (show (2001:Nat)≠70 by decide) rfl))) (.cons (XU.trans (congrArg some (congrArg (iE.row Oj (aJ l) T.bQ 1) (aT7 (by omega))))) (.cons (pY (show (70:Nat)≠57 by decide) (fP (uo (hA 7 (by decide)) rfl rfl))) (.nil)))))))))) ?_
    generalize (β 70).1=b70;refine AW.XO 70 2001 rfl rfl (by rw[dJ,List.length_replicate]) (AW.rg hE rfl (aI rfl rfl (by omega) (ai rfl (OL.nil ?_))))
    exact AW.again (x:=(i,Xg)) (i+1,wE Xg (s*(aJ l)+i) b70) (by (simp only[];omega)) ⟨by omega,Knows.app .Si .bZ,dw.app (.cons rfl (.cons rfl (.cons rfl (.cons rfl (.cons rfl .nil))))) (.cons rfl (.cons (by rw[aT9 (Nat.le_add_right _ _)];rfl) (.cons (by rw[<- Nat.add_assoc,<- aF9];rfl) .nil)))⟩
   .try simp only[dX] at h61
    refine AW.exit ?_;obtain rfl:i=(aJ l):=by omega
    refine AW.XO 57 2000 rfl rfl Xe.symm ?_;rw[aT8,<- bf1 (b:=Oj) (Nat.le_refl s),aF8];refine AW.rg hE rfl (aI rfl rfl (by omega) (ai rfl (OL.nil ?_)))
    exact AW.again (x:=(s,bq,bp)) (s+1,wE bq s Oj,Xg) (by (simp only[];omega)) ⟨by omega,Knows.app .DR .bZ,dw.app (.cons rfl (.cons rfl (.cons rfl (.cons rfl .nil)))) (.cons rfl (.cons rfl (.cons (by rw[Nat.succ_mul];rfl) .nil)))⟩
  .try simp only[dX] at h51
   refine AW.exit (AW.seq ?_);obtain rfl:s=(l.getD 0 default).sym:=by omega
   refine AW.rg hE rfl (aF rfl (OL.nil (AW.seq (AW.sg hE rfl (ai rfl (fJ sl.sU rfl rfl (ai rfl ?_)))))));refine OL.nil (AW.block ?_);refine AW.aV (α:=Nat) [(2,_),(3,_),(74,_),(75,_)] [(2,_),(3,_),(18,_),(32,_),(41,_),(2000,_)] (λk=>[(9,.d (dI (aJ (l.take k)))),(76,.d (dI k))]) (λk=>[(2001,.pool T.Rat 3 (PP ((l.getD 0 default).sym*(aJ l)) (aJ l) bp (cO l k [])))]) (λk=>k<=l.length) (λk=>l.length-k) 0 (.cons (gB rfl) (.cons (gB rfl) (.cons (bK rfl) (.cons (bK rfl) .nil)))) (.cons (iR rfl) (.cons (iR rfl) (.cons (lg rfl) (.cons (lg rfl) (.cons (lg rfl) (.cons (owL rfl) .nil)))))) ⟨Nat.zero_le _,.iq,.cons (by rw[show cO l 0 []=(λ_ _ _=>0) from by funext s i j;rw[NK];rfl];rfl) .nil⟩ ?_
   intro k h4;have h4:k<=l.length:=h4;have hsl:=x9 l k;refine AW.sg hE rfl (aY rfl rfl rfl (OL.nil (AW.seq (AW.cond rfl (λh77=>?_) (λh77=>?_)))))
   .try simp only[dX] at h77
    refine AW.skip (AW.seq (AW.block (AW.seq ?_)));have hk:k<l.length:=by omega
    have fk:=hl _ (getD_mem hk default);have hsk:=uM hk;have hsl2:=x9 l (k+1);have hst:=fk.st;have htl:=BP (l.getD k default).aS;have hna:=fk.sz.num;refine AW.rg hE rfl (fO sl.sU default rfl rfl (by omega) rfl rfl (jH ag.Auto rfl (vs:=[_,_,_,_,_,_,_]) rfl (aB rfl) (al z.Auto rfl λb11=>(eH sz.Auto rfl rfl rfl rfl rfl (aB rfl) (cells2:=[_,_,_,_,_,_,_]) rfl (OL.nil (AW.seq (AW.sg hE rfl ?_)))))))
    refine aW fd.iZ rfl rfl (aO ag.Ring rfl rfl (vs:=[_,_]) rfl (aB rfl) (aW fd.jJ rfl rfl (aG ce.dH rfl rfl rfl (bJ rfl vL (ak8 (l:=(l.getD k default).aS) hna fk.sz.arc) (fJ sl.dH rfl rfl (ai rfl (OL.nil ?_)))))));refine AW.block ?_;refine AW.aV (α:=Nat) [(2,_),(3,_),(9,_),(11,_),(74,_),(75,_),(76,_),(84,_),(85,_)] [(2,_),(3,_),(11,_),(18,_),(32,_),(41,_),(2000,_)] (λp=>[(86,.d (dI p))]) (λp=>[(2001,.pool T.Rat 3 (PP ((l.getD 0 default).sym*(aJ l)) (aJ l) bp (cO l k ((dZ (l.getD k default).aS).take p))))]) (λp=>p<=(dZ (l.getD k default).aS).length) (λp=>(dZ (l.getD k default).aS).length-p) 0 (.cons (gB rfl) (.cons (gB rfl) (.cons (bK rfl) (.cons (gB rfl) (.cons (bK rfl) (.cons (bK rfl) (.cons (bK rfl) (.cons (bK rfl) (.cons (bK rfl) .nil))))))))) (.cons (iR rfl) (.cons (iR rfl) (.cons (iR rfl) (.cons (lg rfl) (.cons (lg rfl) (.cons (lg rfl) (.cons (owL rfl) .nil))))))) ⟨Nat.zero_le _,.bZ,.cons rfl .nil⟩ ?_;intro p h5;have h5:p<=(dZ (l.getD k default).aS).length:=h5;refine AW.sg hE rfl (aY rfl rfl rfl (OL.nil (AW.seq (AW.cond rfl (λh87=>?_) (λh87=>?_)))))
    .try simp only[dX] at h87
     refine AW.skip (AW.seq (AW.block (AW.seq ?_)));have hp:p<(dZ (l.getD k default).aS).length:=by omega
     obtain⟨xf,xt,xl,xs⟩:=gZ.tidy (p:=λf l9 t=>f<(l.getD k default).st/\t<(l.getD k default).st/\1<=l9/\l9<=(l.getD k default).sym) fk.ok.arc ((dZ (l.getD k default).aS).getD p default) (getD_mem hp default);have hsy:=fk.sym;refine AW.rg hE rfl (fO sl.dH default rfl rfl (by omega) rfl rfl (jH ag.pO rfl (vs:=[_,_,_,_,_,_,_,_,_,_,_]) rfl (aB rfl) (al z.pO rfl λb13=>(eH sz.pO rfl rfl rfl rfl rfl (aB rfl) (cells2:=[_,_,_,_,_,_,_,_,_,_,_]) rfl (OL.nil ?_)))))
     have hs:((dZ (l.getD k default).aS).getD p default).l-1<(l.getD 0 default).sym:=by omega
     have hi:(aJ (l.take k))+((dZ (l.getD k default).aS).getD p default).f<(aJ l):=by omega
     have hj:(aJ (l.take k))+((dZ (l.getD k default).aS).getD p default).t<(aJ l):=by omega
     have hcs:=λs9 i9 j9=>aE0 (l:=l) (k:=k) (s:=s9) (i:=i9) (j:=j9) (Uj (l.getD k default).aS) hp xl;have ar0:(OF (l.getD 0 default).sym (aJ l) bq (l.getD 0 default).sym)[((dZ (l.getD k default).aS).getD p default).l-1]? = some (OE (bq (((dZ (l.getD k default).aS).getD p default).l-1)) (aJ l) (aJ l)):=aM2 hs hs;have br0:(HR (aJ l) (((dZ (l.getD k default).aS).getD p default).l-1) bp)[(aJ (l.take k))+((dZ (l.getD k default).aS).getD p default).f]? = some (OE (bp ((((dZ (l.getD k default).aS).getD p default).l-1)*(aJ l)+((aJ (l.take k))+((dZ (l.getD k default).aS).getD p default).f))) (aJ l) (aJ l)):=bf3 hi;have hqq:(QQ (l.getD 0 default).sym (aJ l) bq bp)[((dZ (l.getD k default).aS).getD p default).l-1]? = some (bq (((dZ (l.getD k default).aS).getD p default).l-1),HR (aJ l) (((dZ (l.getD k default).aS).getD p default).l-1) bp):=bf2 hs;have hpp:(PP ((l.getD 0 default).sym*(aJ l)) (aJ l) bp (cO l k ((dZ (l.getD k default).aS).take p)))[((((dZ (l.getD k default).aS).getD p default).l-1)*(aJ l)+((aJ (l.take k))+((dZ (l.getD k default).aS).getD p default).f))]? = some (bp ((((dZ (l.getD k default).aS).getD p default).l-1)*(aJ l)+((aJ (l.take k))+((dZ (l.getD k default).aS).getD p default).f)),OC (aJ l) (cO l k ((dZ (l.getD k default).aS).take p) (((dZ (l.getD k default).aS).getD p default).l-1) ((aJ (l.take k))+((dZ (l.getD k default).aS).getD p default).f))):=aM3 hs hi;have hil:=aq7 hs hi;have hol:(OF (l.getD 0 default).sym (aJ l) bq (l.getD 0 default).sym).length=(l.getD 0 default).sym:=Xd;refine AW.takeN 2003 2000 (((dZ (l.getD k default).aS).getD p default).l-1) (aJ l) rfl rfl hqq aq6 (AW.takeN 2004 2001 ((((dZ (l.getD k default).aS).getD p default).l-1)*(aJ l)+((aJ (l.take k))+((dZ (l.getD k default).aS).getD p default).f)) (aJ l) rfl rfl hpp Cc (AW.dg 1 [0,1,2,3,4,5,6,7,8,9,10,11,12,13,14,15,16,17,18,19,20,21] ay hE rfl (by kernel_rfl) (OI.aK (os:=[_,_,_,_,_,_,_,_,_,_,_,_,_,_,_,_,_,_,_,_,_,_]) rfl ?_)))
     refine aW fd.uT rfl rfl (aG ce.mG rfl rfl rfl (aW fd.AY rfl rfl (aG ce.int rfl rfl rfl (bo rfl rfl (lQ (c:=((((dZ (l.getD k default).aS).getD p default).l-1:Nat):Int)) (by omega) (wrap_i64 (by omega))) (iM sl.mG rfl rfl hs (aO7 (.J3 (by decide) rfl rfl ar0 ce.fK rfl) (LQ 2003 (Nat.le_refl _)) (ai rfl ?_)))))))
     refine aW fd.zC rfl rfl (aG ce.int rfl rfl rfl (bo rfl rfl (jB (c:=(((aJ (l.take k))+((dZ (l.getD k default).aS).getD p default).f:Nat):Int)) (by omega) (wrap_i64 (by omega))) (iM sl.fK rfl rfl hi (aO7 (.J3 (by decide) rfl rfl br0 ce.bQ rfl) (LQ 2004 (Nat.le_refl _)) (ai rfl (aW fd.zD rfl rfl (aG ce.int rfl rfl rfl ?_)))))))
     refine bo rfl rfl (jB (c:=(((aJ (l.take k))+((dZ (l.getD k default).aS).getD p default).t:Nat):Int)) (by omega) (wrap_i64 (by omega))) (aW fd.uS rfl rfl (aW fd.gK rfl rfl (aO ag.Rat rfl rfl (vs:=[_,_,_]) rfl (aB rfl) (iM sl.bQ rfl rfl hj ?_))))
     refine GI sz.Rat rfl (d:=dQ ((dZ (l.getD k default).aS).getD p default).q) xP rfl rfl (by rw[Cc];exact hj) (es2:=OC (aJ l) (cO l k ((dZ (l.getD k default).aS).take (p+1)) (((dZ (l.getD k default).aS).getD p default).l-1) ((aJ (l.take k))+((dZ (l.getD k default).aS).getD p default).f))) (aq8 hj λt=>by rw[hcs];by_cases ht:t=(aJ (l.take k))+((dZ (l.getD k default).aS).getD p default).t;rw[if_pos ⟨rfl,rfl,ht⟩,if_pos ht];rw[if_neg (λe=>ht e.2.2),if_neg ht]) ?_
     refine OL.nil ?_;refine AW.back 2004 2001 ((((dZ (l.getD k default).aS).getD p default).l-1)*(aJ l)+((aJ (l.take k))+((dZ (l.getD k default).aS).getD p default).f)) (PP ((l.getD 0 default).sym*(aJ l)) (aJ l) bp (cO l k ((dZ (l.getD k default).aS).take p))) rfl rfl rfl (by rw[Xf];exact hil) Cc.symm (Vr:=PP ((l.getD 0 default).sym*(aJ l)) (aJ l) bp (cO l k ((dZ (l.getD k default).aS).take (p+1)))) (aU0 hs hi λt9 j9 hne=>by funext z9;rw[hcs,if_neg (λe=>hne ⟨e.1,e.2.1⟩)]) ?_
     refine AW.back 2003 2000 (((dZ (l.getD k default).aS).getD p default).l-1) (QQ (l.getD 0 default).sym (aJ l) bq bp) rfl rfl rfl (by rw[aT5];exact hs) aq6.symm (Vr:=QQ (l.getD 0 default).sym (aJ l) bq bp) (Z4 hqq) (AW.rg hE rfl (aI rfl rfl (by omega) (ai rfl (OL.nil ?_))))
     exact AW.again (x:=p) (p+1) (by omega) ⟨by omega,Knows.app .rq9 .bZ,dw.app (.cons rfl (.cons rfl (.cons rfl (.cons rfl (.cons rfl (.cons rfl (.cons rfl .nil))))))) (.cons rfl .nil)⟩
    .try simp only[dX] at h87
     refine AW.exit ?_;obtain rfl:p=(dZ (l.getD k default).aS).length:=by omega
     rw[List.take_length];refine AW.rg hE rfl (ai rfl (aW fd.mF rfl rfl (aG ce.int rfl rfl rfl (aI rfl rfl (by omega) (aF rfl (OL.nil (AW.rg hE rfl ?_)))))))
     refine aI rfl rfl (by omega) (ai rfl (OL.nil ?_))
     exact AW.again (x:=k) (k+1) (by omega) ⟨by omega,Knows.app .Jz (.cons (bG.int (by rw[hsk];omega)) .bZ),dw.app (.cons rfl (.cons rfl (.cons rfl (.cons rfl (.cons rfl (.cons rfl .nil)))))) (.cons (by rw[show cO l (k+1) []=cO l k (dZ (l.getD k default).aS) from by funext s i j;rw[NK,aD9 hk fk.ok]];rfl) .nil)⟩
   .try simp only[dX] at h77
    refine AW.exit (AW.seq ?_);obtain rfl:k=l.length:=by omega
    rw[show cO l l.length []=uJ l from by funext s i j;rw[NK,List.take_length],bq2 (c:=uJ l)]
    have hi9:DF l l.length=(cZ l).ini:=by unfold DF;rw[List.take_length];rfl
    have hf9:zO l l.length=(cZ l).fin:=by unfold zO;rw[List.take_length];rfl
    have hms:(cZ l).qL.length=(l.getD 0 default).sym:=Fe;refine AW.TG 2000 2001 rfl rfl bf4 (by decide) ?_
    rw[bq3 (bp:=bp) (c:=uJ l)];refine AW.Wh 18 2000 rfl rfl (by decide) ?_
    rw[bq4,hi9,hf9];rw[hi9] at hil;rw[hf9] at hfl;refine AW.freeze 18 rfl (AW.xO 3 [.bF 32 p1 (cZ l).ini.length c1,.bF 41 p2 (cZ l).fin.length c2,.d (.sl ((cZ l).qL.map vz))] rfl (.cons vR (.cons vR (.cons (dL (by rw[dJ];exact hms.symm) rfl) .nil))) ?_)
    refine AW.freeze 32 rfl (AW.xO 3 [.d (iQ (cZ l).ini),.bF 41 p2 (cZ l).fin.length c2,.d (.sl ((cZ l).qL.map vz))] rfl (.cons (dL (by rw[dJ]) rfl) .iq) ?_)
    refine AW.freeze 41 rfl (AW.xO 3 [.d (iQ (cZ l).ini),.d (iQ (cZ l).fin),.d (.sl ((cZ l).qL.map vz))] rfl (.cons vR (.cons (dL (by rw[dJ]) rfl) .bZ)) ?_)
    refine AW.to [(2,.ptr 2 b2 0),(3,.ptr 3 b3 0)] [(2,.box b2 T.Machine [.mt,.mt,.mt]),(3,.box b3 T.Machine [.d (iQ (cZ l).ini),.d (iQ (cZ l).fin),.d (.sl ((cZ l).qL.map vz))])] (.cons bG.ptr (.cons bG.ptr .nil)) (.cons rfl (.cons rfl .nil)) ?_;exact AW.rg hE rfl (aO ag.Machine rfl rfl (vs:=[_,_,_]) rfl (aB rfl) (eH sz.Machine rfl rfl rfl rfl rfl (aB rfl) (cells2:=[_,_,_]) rfl (OL.nil (AW.ret (aP.r ⟨_,.dV rfl rfl ag.Machine (aB rfl) .nil,.ag (.cons (.le vR) (.cons (.le vR) (.cons (.le vR) .nil)))⟩)))))
theorem Xh {l:List Au}(h0:aJ l=0):(cZ l).qL=List.replicate (l.getD 0 default).sym []:=by
 unfold cZ GK;rw[h0];simp only[List.range_zero,List.map_nil];exact (List.map_const' ..).trans (by rw[List.length_range])
theorem br1 {l:List Au}(hl:∀ a,a ∈ l->Au.Fit a (l.getD 0 default).sym)(n1:1<=l.length/\l.length<=64)(N0:aJ l=0):aj P F.CY [.d (ZC l)] (Ic (cZ l)):=by
 have n1a:=n1.1;have n1b:=n1.2;have hok:∀ a,a ∈ l->a.Ok:=λa ha=>(hl a ha).ok;have f0:=hl _ (getD_mem (show 0<l.length by omega) default)
 have S32:=f0.s1;have hN:aJ (l.take l.length)=aJ l:=by rw[List.take_length]
 refine aj.intro fn.CY (by rfl) (by rfl) (aB (by rfl)) λE hE=>(AW.sg hE rfl (al z.Machine rfl λb2=>(OL.nil (AW.sg hE rfl (ai rfl (LJ 0 sl.sU default rfl rfl rfl (by omega) rfl rfl (Vp fd.qp rfl rfl ?_)))))))
 refine iH ce.int rfl (QM (n:=(l.getD 0 default).sym) (cp:=(l.getD 0 default).sym) vz [] sl.mG z.fK Yq rfl rfl (Nat.le_refl _) (by omega) (by omega) rfl λb18=>(bd z.Machine pl.Machine (cs:=[_,_,_]) rfl (al z.Machine rfl λb3=>(eH sz.Machine rfl rfl rfl rfl rfl (aB rfl) (cells2:=[_,_,_]) rfl (OL.nil (AW.seq (AW.sg hE rfl ?_)))))))
 refine ai rfl (fJ sl.sU rfl rfl (ai rfl (OL.nil (AW.block (AW.xQ 32 T.Rat 3 rfl (AW.xQ 41 T.Rat 3 rfl (AW.xO 3 [.bF 32 0 0 0,.bF 41 0 0 0,.bF 18 b18 (l.getD 0 default).sym (l.getD 0 default).sym] rfl (.cons oL (.cons oL .bZ)) ?_)))))));refine AW.aV (α:=Nat × Nat × Nat × Nat × Nat) [(0,_),(2,_),(3,_),(20,_),(21,_)] [(2,_)] (λ(k,p1,c1,p2,c2)=>[(22,.d (dI k))]) (λ(k,p1,c1,p2,c2)=>[(3,.box b3 T.Machine [.bF 32 p1 (DF l k).length c1,.bF 41 p2 (zO l k).length c2,.bF 18 b18 (l.getD 0 default).sym (l.getD 0 default).sym]),(32,.row p1 c1 T.Rat 3 ((DF l k).map dQ)),(41,.row p2 c2 T.Rat 3 ((zO l k).map dQ)),(18,.row b18 (l.getD 0 default).sym T.fK 1 ((List.replicate (l.getD 0 default).sym []).map vz))]) (λ(k,p1,c1,p2,c2)=>k<=l.length) (λ(k,p1,c1,p2,c2)=>l.length-k) (0,0,0,0,0) (.cons (bK rfl) (.cons (gB rfl) (.cons (gB rfl) (.cons (bK rfl) (.cons (bK rfl) .nil))))) (.cons (iR rfl) .nil) ⟨Nat.zero_le _,.bZ,.cons rfl (.cons rfl (.cons rfl (.cons rfl .nil)))⟩ ?_
 rintro⟨k,p1,c1,p2,c2⟩ h1
 have h1:k<=l.length:=h1;have hil:=BU hok k;have hfl:=BV hok k;have hsl:=x9 l k;refine AW.sg hE rfl (aY rfl rfl rfl (OL.nil (AW.seq (AW.cond rfl (λh23=>?_) (λh23=>?_)))))
 .try simp only[dX] at h23
  refine AW.skip (AW.seq (AW.block (AW.seq ?_)));have hk:k<l.length:=by omega
  have fk:=hl _ (getD_mem hk default);have hsk:=uM hk;have hsl2:=x9 l (k+1);have e1:=fk.ok.ini;have e2:=fk.ok.fin;have hnl:=NG (decide ((0:Int)<(k:Int))) (l.getD k default).fin;have hin:=BU hok (k+1);have hfn:=BV hok (k+1);rw[hsk] at hin hfn;refine AW.rg hE rfl (ai rfl (fO sl.sU default rfl rfl (by omega) rfl rfl (jH ag.Auto rfl (vs:=[_,_,_,_,_,_,_]) rfl (aB rfl) (al z.Auto rfl λb5=>(aF rfl (eH sz.Auto rfl rfl rfl rfl rfl (aB rfl) (cells2:=[_,_,_,_,_,_,_]) rfl (OL.nil ?_)))))))
  refine AW.seq (AW.dg 2 [0,1,2,3,4,5,6,7] ay hE rfl (by kernel_rfl) (OI.aK (os:=[_,_,_,_,_,_,_,_]) rfl ?_))
  refine aW fd.wS rfl rfl (aG ce.bQ rfl rfl rfl (aW fd.vV rfl rfl (aG ce.aU rfl rfl rfl (bJ rfl vL (Ij (l:=(l.getD k default).ini) (mi:=false) (by omega) (λx hx=>fk.sz.ini x hx)) ?_))))
  rw[Xc];refine Ce sl.bQ rfl rfl rfl (by rw[dJ]) (VC.d _) QX (by rw[dJ];omega) (by rw[dJ];omega) (.inr rfl) (ys:=(DF l k++(l.getD k default).ini).map dQ) (by rw[List.map_append]) (n2:=(aJ (l.take k))+(l.getD k default).st) (by rw[dJ,hil,e1]) λb32 c32=>?_
  refine aW fd.wS rfl rfl (eH sz.bQ rfl rfl rfl rfl rfl (aB rfl) (cells2:=[_,_,_]) rfl (OL.nil (AW.dg 2 [0,1,2,3,4,5,6,7,8,9] ay hE rfl (by kernel_rfl) (OI.aK (os:=[_,_,_,_,_,_,_,_,_,_]) rfl ?_))))
  refine aW fd.BH rfl rfl (aG ce.bQ rfl rfl rfl (aW fd.wR rfl rfl (aG ce.aU rfl rfl rfl (ai rfl (iO rfl rfl rfl (bJ rfl vL (Ij (l:=(l.getD k default).fin) (mi:=decide ((0:Int)<(k:Int))) (by omega) (λx hx=>fk.sz.fin x hx)) ?_))))))
  refine Ce sl.bQ rfl rfl rfl (by rw[dJ]) (VC.d _) QX (by rw[dJ];omega) (by rw[dJ];omega) (.inr rfl) (ys:=(zO l k++EC (decide ((0:Int)<(k:Int))) (l.getD k default).fin).map dQ) (by rw[List.map_append]) (n2:=(aJ (l.take k))+(l.getD k default).st) (by rw[dJ,hfl,hnl,e2]) λb41 c41=>?_
  refine aW fd.BH rfl rfl (eH sz.bQ rfl rfl rfl rfl rfl (aB rfl) (cells2:=[_,_,_]) rfl (OL.nil (AW.rg hE rfl (aI rfl rfl (by omega) (ai rfl (OL.nil ?_))))))
  exact AW.again (x:=(k,p1,c1,p2,c2)) (k+1,b32,c32,b41,c41) (by (simp only[];omega)) ⟨by omega,Knows.app .DR .bZ,dw.app (.cons rfl .nil) (.cons (by rw[hin,hfn];rfl) (.cons (by rw[Jf hk];rfl) (.cons (by rw[U9 hk];rfl) (.cons rfl .nil))))⟩
 .try simp only[dX] at h23
  refine AW.exit (AW.seq ?_);obtain rfl:k=l.length:=by omega
  rw[hN] at hil hfl;refine AW.rg hE rfl (aW fd.wS rfl rfl (aG ce.bQ rfl rfl rfl (G5 sl.bQ rfl rfl ?_)));rw[hil];refine aF rfl (OL.nil (AW.seq (AW.sg hE rfl (aW fd.uT rfl rfl (aG ce.mG rfl rfl rfl (G5 sl.mG rfl rfl (ai rfl ?_)))))));refine OL.nil (AW.block ?_);refine AW.aV (α:=Nat) [(0,_),(2,_),(3,_),(6,_),(49,_)] [(2,_),(3,_),(32,_),(41,_)] (λs=>[(50,.d (dI s))]) (λs=>[(18,.row b18 (l.getD 0 default).sym T.fK 1 ((List.replicate (l.getD 0 default).sym []).map vz))]) (λs=>s<=(l.getD 0 default).sym) (λs=>(l.getD 0 default).sym-s) 0 (.cons (bK rfl) (.cons (gB rfl) (.cons (gB rfl) (.cons (bK rfl) (.cons (bK rfl) .nil))))) (.cons (iR rfl) (.cons (iR rfl) (.cons (lg rfl) (.cons (lg rfl) .nil)))) ⟨Nat.zero_le _,.bZ,.cons rfl .nil⟩ ?_;intro s h2;have h2:s<=(l.getD 0 default).sym:=h2;refine AW.sg hE rfl (aY rfl rfl rfl (OL.nil (AW.seq (AW.cond rfl (λh51=>?_) (λh51=>?_)))))
  .try simp only[dX] at h51
   refine AW.skip (AW.seq (AW.block (AW.sg hE rfl (ai rfl (aF rfl (OL.nil (AW.seq ?_)))))));refine AW.dg 118 [0,1,2,3,4,5,6] ay hE rfl (by kernel_rfl) (OI.aK (os:=[_,_,_,_,_,_,_]) rfl ?_)
   refine aW fd.uT rfl rfl (aG ce.mG rfl rfl rfl (ai rfl (ai rfl (a05 (n:=(aJ l)) (cp:=(aJ l)) iQ [] sl.fK z.bQ (VCs.cons VC.mt VCs.nil) rfl rfl (Nat.le_refl _) (by omega) (by omega) rfl rfl λOj=>(iM sl.mG rfl rfl (by omega) (GI sz.fK rfl (d:=.sl []) (aT3 N0) rfl rfl (by rw[dJ,List.length_replicate];omega) (es2:=(List.replicate (l.getD 0 default).sym []).map vz) (Xa (by omega)) (OL.nil ?_)))))))
   refine AW.sg hE rfl (ai rfl (ai rfl (OL.nil (AW.block ?_))));refine AW.aV (α:=Unit) [(0,_),(2,_),(3,_),(6,_),(7,_),(49,_),(50,_),(59,_)] [(2,_),(3,_),(18,_),(32,_),(41,_)] (λ_u=>[(60,.d (dI 0))]) (λ_u=>[]) (λ_u=>True) (λ_u=>0) () (.cons (bK rfl) (.cons (gB rfl) (.cons (gB rfl) (.cons (bK rfl) (.cons (bK rfl) (.cons (bK rfl) (.cons (bK rfl) (.cons (bK rfl) .nil)))))))) (.cons (iR rfl) (.cons (iR rfl) (.cons (lg rfl) (.cons (lg rfl) (.cons (lg rfl) .nil))))) ⟨trivial,.bZ,.nil⟩ ?_
   rintro⟨⟩ -
   refine AW.sg hE rfl (aY rfl rfl rfl (OL.nil (AW.seq (AW.cond rfl (λhno=>absurd hno (by simp[N0])) (λ_=>?_)))))
   refine AW.exit (AW.rg hE rfl (aI rfl rfl (by omega) (ai rfl (OL.nil ?_))))
   exact AW.again (x:=s) (s+1) (by omega) ⟨by omega,Knows.app .DR .bZ,dw.app (.cons rfl (.cons rfl (.cons rfl (.cons rfl .nil)))) (.cons rfl .nil)⟩
  .try simp only[dX] at h51
   refine AW.exit (AW.seq ?_);obtain rfl:s=(l.getD 0 default).sym:=by omega
   refine AW.rg hE rfl (aF rfl (OL.nil (AW.seq (AW.sg hE rfl (ai rfl (fJ sl.sU rfl rfl (ai rfl ?_)))))));refine OL.nil (AW.block ?_);refine AW.aV (α:=Nat) [(2,_),(3,_),(74,_),(75,_)] [(2,_),(3,_),(18,_),(32,_),(41,_)] (λk=>[(9,.d (dI (aJ (l.take k)))),(76,.d (dI k))]) (λk=>[]) (λk=>k<=l.length) (λk=>l.length-k) 0 (.cons (gB rfl) (.cons (gB rfl) (.cons (bK rfl) (.cons (bK rfl) .nil)))) (.cons (iR rfl) (.cons (iR rfl) (.cons (lg rfl) (.cons (lg rfl) (.cons (lg rfl) .nil))))) ⟨Nat.zero_le _,.iq,.nil⟩ ?_;intro k h4;have h4:k<=l.length:=h4;have hsl:=x9 l k;refine AW.sg hE rfl (aY rfl rfl rfl (OL.nil (AW.seq (AW.cond rfl (λh77=>?_) (λh77=>?_)))))
   .try simp only[dX] at h77
    refine AW.skip (AW.seq (AW.block (AW.seq ?_)));have hk:k<l.length:=by omega
    have fk:=hl _ (getD_mem hk default);have hsk:=uM hk;have hsl2:=x9 l (k+1);have hst:=fk.st;have hna:=fk.sz.num;have har:(l.getD k default).aS=[]:=by
     refine List.eq_nil_iff_forall_not_mem.2 λx hx=>?_;have:=(fk.ok.arc x hx).1;omega
    have htl:(dZ (l.getD k default).aS)=[]:=by rw[har];rfl
    refine AW.rg hE rfl (fO sl.sU default rfl rfl (by omega) rfl rfl (jH ag.Auto rfl (vs:=[_,_,_,_,_,_,_]) rfl (aB rfl) (al z.Auto rfl λb11=>(eH sz.Auto rfl rfl rfl rfl rfl (aB rfl) (cells2:=[_,_,_,_,_,_,_]) rfl (OL.nil (AW.seq (AW.sg hE rfl ?_)))))))
    refine aW fd.iZ rfl rfl (aO ag.Ring rfl rfl (vs:=[_,_]) rfl (aB rfl) (aW fd.jJ rfl rfl (aG ce.dH rfl rfl rfl (bJ rfl vL (ak8 (l:=(l.getD k default).aS) hna fk.sz.arc) ?_))));rw[htl];refine fJ sl.dH rfl rfl (ai rfl (OL.nil (AW.block ?_)));refine AW.aV (α:=Unit) [(2,_),(3,_),(9,_),(11,_),(74,_),(75,_),(76,_),(84,_),(85,_)] [(2,_),(3,_),(11,_),(18,_),(32,_),(41,_)] (λ_u=>[(86,.d (dI 0))]) (λ_u=>[]) (λ_u=>True) (λ_u=>0) () (.cons (gB rfl) (.cons (gB rfl) (.cons (bK rfl) (.cons (gB rfl) (.cons (bK rfl) (.cons (bK rfl) (.cons (bK rfl) (.cons (bK rfl) (.cons (bK rfl) .nil))))))))) (.cons (iR rfl) (.cons (iR rfl) (.cons (iR rfl) (.cons (lg rfl) (.cons (lg rfl) (.cons (lg rfl) .nil)))))) ⟨trivial,.bZ,.nil⟩ ?_
    rintro⟨⟩ -
    refine AW.sg hE rfl (aY rfl rfl rfl (OL.nil (AW.seq (AW.cond rfl (λhno=>absurd hno (by simp)) (λ_=>?_)))))
    refine AW.exit (AW.rg hE rfl (ai rfl (aW fd.mF rfl rfl (aG ce.int rfl rfl rfl (aI rfl rfl (by omega) (aF rfl (OL.nil ?_)))))))
    refine AW.rg hE rfl (aI rfl rfl (by omega) (ai rfl (OL.nil ?_)))
    exact AW.again (x:=k) (k+1) (by omega) ⟨by omega,Knows.app .Jz (.cons (bG.int (by rw[hsk];omega)) .bZ),dw.app (.cons rfl (.cons rfl (.cons rfl (.cons rfl (.cons rfl .nil))))) (.nil)⟩
   .try simp only[dX] at h77
    refine AW.exit (AW.seq ?_);obtain rfl:k=l.length:=by omega
    have hi9:DF l l.length=(cZ l).ini:=by unfold DF;rw[List.take_length];rfl
    have hf9:zO l l.length=(cZ l).fin:=by unfold zO;rw[List.take_length];rfl
    have hms:(cZ l).qL.length=(l.getD 0 default).sym:=Fe;rw[<- Xh N0,hi9,hf9];rw[hi9] at hil;rw[hf9] at hfl;refine AW.freeze 18 rfl (AW.xO 3 [.bF 32 p1 (cZ l).ini.length c1,.bF 41 p2 (cZ l).fin.length c2,.d (.sl ((cZ l).qL.map vz))] rfl (.cons vR (.cons vR (.cons (dL (by rw[dJ];exact hms.symm) rfl) .nil))) ?_)
    refine AW.freeze 32 rfl (AW.xO 3 [.d (iQ (cZ l).ini),.bF 41 p2 (cZ l).fin.length c2,.d (.sl ((cZ l).qL.map vz))] rfl (.cons (dL (by rw[dJ]) rfl) .iq) ?_)
    refine AW.freeze 41 rfl (AW.xO 3 [.d (iQ (cZ l).ini),.d (iQ (cZ l).fin),.d (.sl ((cZ l).qL.map vz))] rfl (.cons vR (.cons (dL (by rw[dJ]) rfl) .bZ)) ?_)
    refine AW.to [(2,.ptr 2 b2 0),(3,.ptr 3 b3 0)] [(2,.box b2 T.Machine [.mt,.mt,.mt]),(3,.box b3 T.Machine [.d (iQ (cZ l).ini),.d (iQ (cZ l).fin),.d (.sl ((cZ l).qL.map vz))])] (.cons bG.ptr (.cons bG.ptr .nil)) (.cons rfl (.cons rfl .nil)) ?_;exact AW.rg hE rfl (aO ag.Machine rfl rfl (vs:=[_,_,_]) rfl (aB rfl) (eH sz.Machine rfl rfl rfl rfl rfl (aB rfl) (cells2:=[_,_,_]) rfl (OL.nil (AW.ret (aP.r ⟨_,.dV rfl rfl ag.Machine (aB rfl) .nil,.ag (.cons (.le vR) (.cons (.le vR) (.cons (.le vR) .nil)))⟩)))))
theorem OfQ {l:List Au}(hl:∀ a,a ∈ l->Au.Fit a (l.getD 0 default).sym)(n1:1<=l.length/\l.length<=64)(N64:aJ l<=64):aj P F.CY [.d (ZC l)] (Ic (cZ l)):=by
 rcases Nat.eq_zero_or_pos (aJ l) with h|h
 .exact br1 hl n1 h
 .exact bq5 hl n1 h N64
