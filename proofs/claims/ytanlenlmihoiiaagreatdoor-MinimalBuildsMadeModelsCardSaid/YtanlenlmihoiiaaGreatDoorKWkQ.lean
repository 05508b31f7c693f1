/-
  Walks of package rows, part 5: the machine of some automata (printed by mk2.py).
-/
import Derived.Test.YtanlenlmihoiiaaGreatDoorKWkO
set_option linter.unusedVariables false
set_option linter.unusedSimpArgs false
namespace Go.Proofs.YtanlenlmihoiiaaGreatDoor
open Go Go.AL
theorem aE2 (l:List Rat):Hz false l=l:=by
 have e:(λx:Rat=>if (false=true) then -x else x)=id:=by funext x;rw[if_neg Bool.false_ne_true];rfl
 unfold Hz;rw[e,List.map_id]
theorem aE3 {l:List Au}{k:Nat}(hk:k<l.length):Fz l (k+1)=Fz l k++Hz (decide ((0:Int)<(k:Int))) (l.getD k default).fin:=by
 rcases Nat.eq_zero_or_pos k with h0|h0
 .subst h0;rw[Xe hk,show decide ((0:Int)<((0:Nat):Int))=false from rfl,aE2];rfl
 .rw[Tc hk h0,show decide ((0:Int)<(k:Int))=true from decide_eq_true (by omega)]
  congr 1
theorem JU (l:List Au)(k:Nat):aS (l.take k)<=aS l:=by
 have h:aS l=aS (l.take k)+aS (l.drop k):=by rw[<- SY,List.take_append_drop]
 omega
def xB (f:Nat->Nat)(a b:Nat):Nat->Nat:=λk=>if k=a then b else f k
theorem JV {f:Nat->Nat}{a b:Nat}:xB f a b a=b:=if_pos rfl
theorem JW {f:Nat->Nat}{a b k:Nat}(h:k≠a):xB f a b k=f k:=if_neg h
abbrev Rf (N:Nat)(f:Nat->Rat):List D:=((List.range N).map f).map dQ
theorem D9 {N:Nat}{f:Nat->Rat}:(Rf N f).length=N:=by simp[Rf]
def PP (K N:Nat)(bp:Nat->Nat)(c:Nat->Nat->Nat->Rat):List (Nat × List D):=(List.range K).map λk=>(bp k,Rf N (c (k / N) (k % N)))
def HR (N s:Nat)(bp:Nat->Nat):List D:=(List.range N).map λi=>Ho (bp (s*N+i)) N N
def HF (N s:Nat)(bp:Nat->Nat)(i:Nat):List D:=nT (dJ []) (λi=>Ho (bp (s*N+i)) N N) N i
def QQ (S N:Nat)(bq bp:Nat->Nat):List (Nat × List D):=(List.range S).map λs=>(bq s,HR N s bp)
def OF (S N:Nat)(bq:Nat->Nat)(s:Nat):List D:=nT (qg []) (λk=>Ho (bq k) N N) S s
section
variable {K N S s i k b:Nat}{bp bq:Nat->Nat}{c d:Nat->Nat->Nat->Rat}
theorem MQ {α:Type}{x:α}{g h:Nat->α}{n i:Nat}(e:∀ j,j<i->g j=h j):nT x g n i=nT x h n i:=by
 unfold nT;refine List.map_congr_left λj _=>?_
 split
 .exact e j ‹_›
 .rfl
theorem Zd:(OF S N bq s).length=S:=vM ..
theorem Ze:(HF N s bp i).length=N:=vM ..
theorem aE4:(HR N s bp).length=N:=by simp[HR]
theorem bf0:(QQ S N bq bp).length=S:=by simp[QQ]
theorem Zf:(PP K N bp c).length=K:=by simp[PP]
theorem bf1 (hs:s<S):(OF S N bq s).set s (Ho b N N)=OF S N (xB bq s b) (s+1):=by
 have e:OF S N bq s=OF S N (xB bq s b) s:=MQ λj hj=>by rw[JW (by omega)]
 rw[e,<- show (OF S N (xB bq s b) s).set s (Ho (xB bq s b s) N N)=OF S N (xB bq s b) (s+1) from qU (g:=λk=>Ho (xB bq s b k) N N) hs,JV]
theorem aZ6 (hs:s<k)(hk:s<S):(OF S N bq k)[s]? = some (Ho (bq s) N N):=by
 unfold OF nT;rw[List.getElem?_map,List.getElem?_range hk,Option.map_some,if_pos hs]
theorem bf2 (hi:i<N):(HF N s bp i).set i (Ho b N N)=HF N s (xB bp (s*N+i) b) (i+1):=by
 have e:HF N s bp i=HF N s (xB bp (s*N+i) b) i:=MQ λj hj=>by rw[JW (by omega)]
 rw[e,<- show (HF N s (xB bp (s*N+i) b) i).set i (Ho (xB bp (s*N+i) b (s*N+i)) N N)=HF N s (xB bp (s*N+i) b) (i+1) from qU (g:=λi9=>Ho (xB bp (s*N+i) b (s*N+i9)) N N) hi,JV]
theorem bf3:HF N s bp N=HR N s bp:=by unfold HF HR;rw[DN]
theorem bf4 (h:s*N<=k):QQ s N bq (xB bp k b)=QQ s N bq bp:=by
 unfold QQ;refine List.map_congr_left λt ht=>?_;have ht:=List.mem_range.1 ht;unfold HR;congr 1;refine List.map_congr_left λi hi=>?_;have hi:=List.mem_range.1 hi;have h1:t*N+N<=s*N:=by rw[<- Nat.succ_mul];exact Nat.mul_le_mul_right _ ht
 rw[JW (by omega)]
theorem bq6 (h:s<=k):QQ s N (xB bq k b) bp=QQ s N bq bp:=by
 unfold QQ;refine List.map_congr_left λt ht=>?_;have ht:=List.mem_range.1 ht;rw[JW (by omega)]
theorem aT3:QQ s N (xB bq s b) bp++[(b,HR N s bp)]=QQ (s+1) N (xB bq s b) bp:=by
 unfold QQ;rw[List.range_succ,List.map_append,List.map_singleton,JV]
theorem aT4:PP k N bp (λ_ _ _=>0)++[(b,(List.replicate N (0:Rat)).map dQ)]=PP (k+1) N (xB bp k b) λ_ _ _=>0:=by
 have e:PP k N bp (λ_ _ _=>0)=PP k N (xB bp k b) λ_ _ _=>0:=by
  unfold PP;refine List.map_congr_left λt ht=>?_;have ht:=List.mem_range.1 ht;rw[JW (by omega)]
 rw[e];unfold PP;rw[List.range_succ,List.map_append,List.map_singleton,JV];congr 4;rw[List.map_const',List.length_range]
theorem bq7 (hs:s<S):(QQ S N bq bp)[s]? = some (bq s,HR N s bp):=by
 unfold QQ;rw[List.getElem?_map,List.getElem?_range hs];rfl
theorem bq8 (hi:i<N):(HR N s bp)[i]? = some (Ho (bp (s*N+i)) N N):=by
 unfold HR;rw[List.getElem?_map,List.getElem?_range hi];rfl
theorem divN (hi:i<N):(s*N+i) / N=s/\(s*N+i) % N=i:=by
 rw[Nat.mul_comm,Nat.mul_add_div (by omega),Nat.mul_add_mod,Nat.div_eq_of_lt hi,Nat.mod_eq_of_lt hi]
 exact⟨rfl,rfl⟩
theorem aE5 (hs:s<S)(hi:i<N):s*N+i<S*N:=by
 have h1:s*N+N<=S*N:=by rw[<- Nat.succ_mul];exact Nat.mul_le_mul_right _ hs
 omega
theorem aZ7 (hs:s<S)(hi:i<N):(PP (S*N) N bp c)[s*N+i]? = some (bp (s*N+i),Rf N (c s i)):=by
 unfold PP;rw[List.getElem?_map,List.getElem?_range (aE5 hs hi),Option.map_some,(divN hi).1,(divN hi).2]
theorem bf5 (hs:s<S)(hi:i<N)(h:∀ t j,¬(t=s/\j=i)->c t j=d t j):PP (S*N) N bp d=(PP (S*N) N bp c).set (s*N+i) (bp (s*N+i),Rf N (d s i)):=by
 refine List.ext_getElem (by rw[List.length_set,Zf,Zf]) λk h1 h2=>?_
 rw[List.getElem_set];by_cases hk:s*N+i=k
 .subst hk;rw[if_pos rfl];simp only[PP,List.getElem_map,List.getElem_range];rw[(divN hi).1,(divN hi).2]
 .rw[if_neg hk];simp only[PP,List.getElem_map,List.getElem_range];rw[h (k / N) (k % N) λe=>hk (by rw[<- e.1,<- e.2];exact Nat.div_add_mod' k N)]
theorem aE6 {f g:Nat->Rat}{j:Nat}{q:Rat}(hj:j<N)(h:∀ t,g t=if t=j then q else f t):(Rf N f).set j (dQ q)=Rf N g:=by
 refine List.ext_getElem (by rw[List.length_set,D9,D9]) λt h1 h2=>?_
 rw[List.getElem_set];by_cases ht:j=t
 .subst ht;rw[if_pos rfl];simp only[List.getElem_map,List.getElem_range];rw[h,if_pos rfl]
 .rw[if_neg ht];simp only[List.getElem_map,List.getElem_range];rw[h,if_neg (Ne.symm ht)]
def LL (S N:Nat)(bq bp:Nat->Nat)(c:Nat->Nat->Nat->Rat):List (Nat × List (Nat × List D)):=(List.range S).map λs=>(bq s,(List.range N).map λi=>(bp (s*N+i),Rf N (c s i)))
theorem bC2:QQ S N bq bp=(LL S N bq bp c).map λr=>(r.1,r.2.map Vp):=by
 unfold QQ LL HR;rw[List.map_map];refine List.map_congr_left λs _=>?_;show (bq s,_)=(bq s,List.map Vp _)
 rw[List.map_map];congr 1;exact List.map_congr_left λi _=>(ax2 D9).symm
theorem bq9:∀ r,r ∈ LL S N bq bp c->∀ q,q ∈ r.2->q ∈ PP (S*N) N bp c:=λr hr q hq=>by
 obtain⟨s,hs,rfl⟩:=kK hr;obtain⟨i,hi,rfl⟩:=kK hq;exact List.mem_of_getElem? (aZ7 (List.mem_range.1 hs) (List.mem_range.1 hi))
theorem bC3:OF S N bq S=((LL S N bq bp c).map λr=>(r.1,r.2.map λq:Nat × List D=>(.sl q.2:D))).map Vp:=by
 unfold OF LL;rw[DN,List.map_map,List.map_map];exact List.map_congr_left λs _=>((ax2 (by simp)).symm)
theorem bC4 {l:List Au}:(((LL (l.getD 0 default).sym (aS l) bq bp (uM l)).map λr=>(r.1,r.2.map λq:Nat × List D=>(.sl q.2:D))).map λq=>(.sl q.2:D))=(ah l).jb.map qg:=by
 unfold LL ah Ig;rw[List.map_map,List.map_map,List.map_map];refine List.map_congr_left λs _=>?_;show D.sl _=D.sl _
 congr 1;show List.map _ _=List.map dJ (List.map _ _)
 rw[List.map_map,List.map_map];exact List.map_congr_left λi _=>rfl
end
theorem an0 {α:Type}{l:List α}{i:Nat}{x:α}(h:l[i]? = some x):l=l.set i x:=(aC3 h).symm
def ae6:Nat->Option Nat
 | 63=>some 0
 | 64=>some 1
 | 65=>some 2
 | 66=>some 3
 | 67=>some 4
 | 68=>some 5
 | 69=>some 6
 | 70=>some 7
 | 71=>some 8
 | _=>none
theorem uf {t i:Nat}(h:ae6 t=some i):t=[63,64,65,66,67,68,69,70,71].getD i 0:=by
 unfold ae6 at h
 split at h <;> first|(cases h;rfl)|cases h
noncomputable def valOf (b3 b18 NS kk nn s i:Nat)(t:Nat)(β:Nat->Nat × Nat):V :=
 match t with
 | 63=>.ptr 3 b3 2
 | 64=>.bI 18 b18 kk kk
 | 65=>.d (dI s)
 | 66=>.mJ 18 b18 1 s 0
 | 67=>.bI 57 NS nn nn
 | 68=>.d (dI i)
 | 69=>.d (dI nn)
 | 70=>.bI 70 (β 70).1 nn nn
 | 71=>.mJ 57 NS 1 i 0
 | _=>.junk
noncomputable abbrev br0 (b3 b18 NS kk nn s i:Nat):List Nj:=[⟨70,7,λβ=>.row (β 70).1 nn T.Rat 3 ((List.replicate nn (0:Rat)).map dQ)⟩]
theorem br1 {p:Nat->Prop}(h0:p 0)(h1:p 1)(h2:p 2)(h3:p 3)(h4:p 4)(h5:p 5)(h6:p 6)(h7:p 7)(h8:p 8):∀ i,i<9->p i:=λi hi=>by
 have:i=0 \/ i=1 \/ i=2 \/ i=3 \/ i=4 \/ i=5 \/ i=6 \/ i=7 \/ i=8:=by omega
 rcases this with rfl|rfl|rfl|rfl|rfl|rfl|rfl|rfl|rfl <;> assumption
set_option maxRecDepth 8000 in
set_option maxHeartbeats 12800000 in
theorem OfQ {l:List Au}(hl:∀ a,a ∈ l->Au.Fit a (l.getD 0 default).sym)(n1:1<=l.length/\l.length<=64)(N1:1<=aS l)(N64:aS l<=64):ai P F.ND [.d (aR8 l)] (wZ (ah l)):=by
 have n1a:=n1.1;have n1b:=n1.2;have hok:∀ a,a ∈ l->a.Ok:=λa ha=>(hl a ha).ok;have f0:=hl _ (getD_mem (show 0<l.length by omega) default)
 have S32:=f0.s1;have hN:aS (l.take l.length)=aS l:=by rw[List.take_length]
 refine ai.intro fn.ND (by rfl) (by rfl) (ay (by rfl)) λE hE=>(AW.sg hE rfl (al z.Machine rfl λb2=>(OL.nil (AW.sg hE rfl (aj rfl (Ux 0 sl.uI default rfl rfl rfl (by omega) rfl rfl (Ov fd.lX rfl rfl ?_)))))))
 refine iE ce.int rfl (X4 (n:=(l.getD 0 default).sym) (cp:=(l.getD 0 default).sym) qg [] sl.jF z.dw ae0 rfl rfl (Nat.le_refl _) (by omega) (by omega) rfl λb18=>(bd z.Machine pl.Machine (cs:=[_,_,_]) rfl (al z.Machine rfl λb3=>(fA sz.Machine rfl rfl rfl rfl rfl (ay rfl) (cells2:=[_,_,_]) rfl (OL.nil (AW.seq (AW.sg hE rfl ?_)))))))
 refine aj rfl (fF sl.uI rfl rfl (aj rfl (OL.nil (AW.block (AW.rf 32 T.Rat 3 rfl (AW.rf 41 T.Rat 3 rfl (AW.oZ 3 [.bI 32 0 0 0,.bI 41 0 0 0,.bI 18 b18 (l.getD 0 default).sym (l.getD 0 default).sym] rfl (.cons jB (.cons jB .dD)) ?_)))))));refine AW.aY (α:=Nat × Nat × Nat × Nat × Nat) [(0,_),(2,_),(3,_),(20,_),(21,_)] [(2,_)] (λ(k,p1,c1,p2,c2)=>[(22,.d (dI k))]) (λ(k,p1,c1,p2,c2)=>[(3,.box b3 T.Machine [.bI 32 p1 (JP l k).length c1,.bI 41 p2 (Fz l k).length c2,.bI 18 b18 (l.getD 0 default).sym (l.getD 0 default).sym]),(32,.row p1 c1 T.Rat 3 ((JP l k).map dQ)),(41,.row p2 c2 T.Rat 3 ((Fz l k).map dQ)),(18,.row b18 (l.getD 0 default).sym T.dw 1 ((List.replicate (l.getD 0 default).sym []).map qg))]) (λ(k,p1,c1,p2,c2)=>k<=l.length) (λ(k,p1,c1,p2,c2)=>l.length-k) (0,0,0,0,0) (.cons (di rfl) (.cons (iw rfl) (.cons (iw rfl) (.cons (di rfl) (.cons (di rfl) .nil))))) (.cons (je rfl) .nil) ⟨Nat.zero_le _,.dD,.cons rfl (.cons rfl (.cons rfl (.cons rfl .nil)))⟩ ?_
 rintro⟨k,p1,c1,p2,c2⟩ h1
 have h1:k<=l.length:=h1;have hil:=JQ hok k;have hfl:=JR hok k;have hsl:=JU l k;refine AW.sg hE rfl (bG rfl rfl rfl (OL.nil (AW.seq (AW.cond rfl (λh23=>?_) (λh23=>?_)))))
 .try simp only[fD] at h23
  refine AW.skip (AW.seq (AW.block (AW.seq ?_)));have hk:k<l.length:=by omega
  have fk:=hl _ (getD_mem hk default);have hsk:=Bz hk;have hsl2:=JU l (k+1);have e1:=fk.ok.ini;have e2:=fk.ok.fin;have hnl:=WU (decide ((0:Int)<(k:Int))) (l.getD k default).fin;have hin:=JQ hok (k+1);have hfn:=JR hok (k+1);rw[hsk] at hin hfn;refine AW.rg hE rfl (aj rfl (dR sl.uI default rfl rfl (by omega) rfl rfl (iD ag.Auto rfl (vs:=[_,_,_,_,_,_,_]) rfl (ay rfl) (al z.Auto rfl λb5=>(aF rfl (fA sz.Auto rfl rfl rfl rfl rfl (ay rfl) (cells2:=[_,_,_,_,_,_,_]) rfl (OL.nil ?_)))))))
  refine AW.seq (AW.dg 2 [0,1,2,3,4,5,6,7] ak hE rfl (by kernel_rfl) (OI.aK (os:=[_,_,_,_,_,_,_,_]) rfl ?_))
  refine bC fd.Aa rfl rfl (aG ce.bg rfl rfl rfl (bC fd.qW rfl rfl (aG ce.aW rfl rfl rfl (bH rfl vL (WX (l:=(l.getD k default).ini) (mi:=false) (by omega) (λx hx=>fk.sz.ini x hx)) ?_))))
  rw[aE2];refine xZ sl.bg rfl rfl rfl (by rw[dA]) (VC.d _) ax0 (by rw[dA];omega) (by rw[dA];omega) (.inr rfl) (ys:=(JP l k++(l.getD k default).ini).map dQ) (by rw[List.map_append]) (n2:=(aS (l.take k))+(l.getD k default).st) (by rw[dA,hil,e1]) λb32 c32=>?_
  refine bC fd.Aa rfl rfl (fA sz.bg rfl rfl rfl rfl rfl (ay rfl) (cells2:=[_,_,_]) rfl (OL.nil (AW.dg 2 [0,1,2,3,4,5,6,7,8,9] ak hE rfl (by kernel_rfl) (OI.aK (os:=[_,_,_,_,_,_,_,_,_,_]) rfl ?_))))
  refine bC fd.GN rfl rfl (aG ce.bg rfl rfl rfl (bC fd.uw rfl rfl (aG ce.aW rfl rfl rfl (aj rfl (jI rfl rfl rfl (bH rfl vL (WX (l:=(l.getD k default).fin) (mi:=decide ((0:Int)<(k:Int))) (by omega) (λx hx=>fk.sz.fin x hx)) ?_))))))
  refine xZ sl.bg rfl rfl rfl (by rw[dA]) (VC.d _) ax0 (by rw[dA];omega) (by rw[dA];omega) (.inr rfl) (ys:=(Fz l k++Hz (decide ((0:Int)<(k:Int))) (l.getD k default).fin).map dQ) (by rw[List.map_append]) (n2:=(aS (l.take k))+(l.getD k default).st) (by rw[dA,hfl,hnl,e2]) λb41 c41=>?_
  refine bC fd.GN rfl rfl (fA sz.bg rfl rfl rfl rfl rfl (ay rfl) (cells2:=[_,_,_]) rfl (OL.nil (AW.rg hE rfl (aI rfl rfl (by omega) (aj rfl (OL.nil ?_))))))
  exact AW.again (x:=(k,p1,c1,p2,c2)) (k+1,b32,c32,b41,c41) (by (simp only[];omega)) ⟨by omega,Knows.app .Ky .dD,dL.app (.cons rfl .nil) (.cons (by rw[hin,hfn];rfl) (.cons (by rw[S9 hk];rfl) (.cons (by rw[aE3 hk];rfl) (.cons rfl .nil))))⟩
 .try simp only[fD] at h23
  refine AW.exit (AW.seq ?_);obtain rfl:k=l.length:=by omega
  rw[hN] at hil hfl;refine AW.rg hE rfl (bC fd.Aa rfl rfl (aG ce.bg rfl rfl rfl (Vq sl.bg rfl rfl ?_)));rw[hil];refine aF rfl (OL.nil (AW.seq (AW.sg hE rfl (bC fd.o7 rfl rfl (aG ce.jF rfl rfl rfl (Vq sl.jF rfl rfl (aj rfl ?_)))))));refine OL.nil (AW.block (AW.aY4 2000 T.bg 1 rfl (AW.aY4 2001 T.Rat 3 rfl ?_)));refine AW.aY (α:=Nat × (Nat->Nat) × (Nat->Nat)) [(0,_),(2,_),(3,_),(6,_),(49,_)] [(2,_),(3,_),(32,_),(41,_)] (λ(s,bq,bp)=>[(50,.d (dI s))]) (λ(s,bq,bp)=>[(18,.row b18 (l.getD 0 default).sym T.dw 1 (OF (l.getD 0 default).sym (aS l) bq (s))),(2000,.pool T.bg 1 (QQ s (aS l) bq bp)),(2001,.pool T.Rat 3 (PP (s*(aS l)) (aS l) bp (λ_ _ _=>0)))]) (λ(s,bq,bp)=>s<=(l.getD 0 default).sym) (λ(s,bq,bp)=>(l.getD 0 default).sym-s) (0,λ_=>0,λ_=>0) (.cons (di rfl) (.cons (iw rfl) (.cons (iw rfl) (.cons (di rfl) (.cons (di rfl) .nil))))) (.cons (je rfl) (.cons (je rfl) (.cons (qZ rfl) (.cons (qZ rfl) .nil)))) ⟨Nat.zero_le _,.dD,.cons (by unfold OF;rw[sD,<- List.map_replicate];rfl) (.cons rfl (.cons (by rw[Nat.zero_mul];rfl) .nil))⟩ ?_
  rintro⟨s,bq,bp⟩ h2
  have h2:s<=(l.getD 0 default).sym:=h2;have hol:(OF (l.getD 0 default).sym (aS l) bq s).length=(l.getD 0 default).sym:=Zd;refine AW.sg hE rfl (bG rfl rfl rfl (OL.nil (AW.seq (AW.cond rfl (λh51=>?_) (λh51=>?_)))))
  .try simp only[fD] at h51
   refine AW.skip (AW.seq (AW.block (AW.sg hE rfl (aj rfl (aF rfl (OL.nil (AW.seq ?_)))))));refine AW.dg 118 [0,1,2,3,4,5,6] ak hE rfl (by kernel_rfl) (OI.aK (os:=[_,_,_,_,_,_,_]) rfl ?_)
   refine bC fd.o7 rfl rfl (aG ce.jF rfl rfl rfl (aj rfl (aj rfl (ba9 (n:=(aS l)) (cp:=(aS l)) dJ [] sl.dw z.bg (VCs.cons VC.mt VCs.nil) rfl rfl (Nat.le_refl _) (by omega) (by omega) rfl rfl λNS=>(jv sl.jF rfl rfl (by omega) (LQ sz.dw rfl (aa3 (by omega)) rfl rfl (by omega) (es2:=OF (l.getD 0 default).sym (aS l) (xB bq s NS) (s+1)) (bf1 (by omega)) (OL.nil ?_)))))))
   refine AW.sg hE rfl (aj rfl (aj rfl (OL.nil (AW.block ?_))));refine AW.aY (α:=Nat × (Nat->Nat)) [(0,_),(2,_),(3,_),(6,_),(7,_),(49,_),(50,_),(59,_)] [(2,_),(3,_),(18,_),(32,_),(41,_)] (λ(i,Zg)=>[(60,.d (dI i))]) (λ(i,Zg)=>[(57,.row NS (aS l) T.bg 1 (HF (aS l) s Zg i)),(2000,.pool T.bg 1 (QQ s (aS l) bq Zg)),(2001,.pool T.Rat 3 (PP (s*(aS l)+i) (aS l) Zg (λ_ _ _=>0)))]) (λ(i,Zg)=>i<=(aS l)) (λ(i,Zg)=>(aS l)-i) (0,bp) (.cons (di rfl) (.cons (iw rfl) (.cons (iw rfl) (.cons (di rfl) (.cons (di rfl) (.cons (di rfl) (.cons (di rfl) (.cons (di rfl) .nil)))))))) (.cons (je rfl) (.cons (je rfl) (.cons (qZ rfl) (.cons (qZ rfl) (.cons (qZ rfl) .nil))))) ⟨Nat.zero_le _,.dD,.cons (by unfold HF;rw[sD,<- List.map_replicate];rfl) (.cons rfl (.cons rfl .nil))⟩ ?_
   rintro⟨i,Zg⟩ h3
   have h3:i<=(aS l):=h3;have hhl:(HF (aS l) s Zg i).length=(aS l):=Ze;have aE7:(OF (l.getD 0 default).sym (aS l) (xB bq s NS) (s+1))[s]? = some (Ho NS (aS l) (aS l)):=by rw[aZ6 (by omega) (by omega),JV]
   have bM8:(OF (l.getD 0 default).sym (aS l) (xB bq s NS) (s+1)).length=(l.getD 0 default).sym:=Zd;refine AW.sg hE rfl (bG rfl rfl rfl (OL.nil (AW.seq (AW.cond rfl (λh61=>?_) (λh61=>?_)))))
   .try simp only[fD] at h61
    refine AW.skip (AW.seq (AW.block (AW.sg hE rfl (aj rfl (aF rfl (OL.nil (AW.sN (valOf b3 b18 NS (l.getD 0 default).sym (aS l) s i) ae6 (br0 b3 b18 NS (l.getD 0 default).sym (aS l) s i) 9 ak (by rw[hE];rfl) (by rfl) (by kernel_rfl) (by kernel_rfl) ?_ ?_)))))))
    .refine br1 ?_ ?_ ?_ ?_ ?_ ?_ ?_ ?_ ?_
     .exact λβ L c9=>⟨_,rfl,.inl (OG.aK (bC (b:=b3) (o:=0) (id:=3) fd.o7 ((bT rfl).trans rfl) rfl ⟨β,bY (d:=63) (i:=0) rfl (λt ht=>uf ht) (lt_size 10 c9.size rfl (by decide)) (aX (lt_size 10 c9.size rfl (by decide)) (by rfl))⟩))⟩
     .exact λβ L c9=>⟨_,rfl,.inl (OG.aK (aG ce.jF (bK rfl (aU (j:=0) c9 (by kernel_rfl))) ((gI (aB (show (3:Nat)≠70 by decide) rfl)):_=some (.box b3 T.Machine [.bI 32 p1 (JP l l.length).length c1,.bI 41 p2 (Fz l l.length).length c2,.bI 18 b18 (l.getD 0 default).sym (l.getD 0 default).sym])) (v:=.bI 18 b18 (l.getD 0 default).sym (l.getD 0 default).sym) rfl ⟨β,bY (d:=64) (i:=1) rfl (λt ht=>uf ht) (lt_size 10 c9.size rfl (by decide)) (aX (lt_size 10 c9.size rfl (by decide)) (by rfl))⟩))⟩
     .exact λβ L c9=>⟨_,rfl,.inl (OG.aK (aj (y:=dI s) ((bT rfl).trans rfl) ⟨β,bY (d:=65) (i:=2) rfl (λt ht=>uf ht) (lt_size 10 c9.size rfl (by decide)) (aX (lt_size 10 c9.size rfl (by decide)) (by rfl))⟩))⟩
     .exact λβ L c9=>⟨_,rfl,.inl (OG.aK (Ri sl.jF (id:=18) (b:=b18) (l:=(l.getD 0 default).sym) (c:=(l.getD 0 default).sym) (bK rfl (aU (j:=1) c9 (by kernel_rfl))) (bK rfl (aU (j:=2) c9 (by kernel_rfl))) (by omega) (by omega) (i:=s) (by omega) ⟨β,bY (d:=66) (i:=3) rfl (λt ht=>uf ht) (lt_size 10 c9.size rfl (by decide)) (aX (lt_size 10 c9.size rfl (by decide)) (by rfl))⟩))⟩
     .exact λβ L c9=>⟨_,rfl,.inl (OG.aK (aj2 (.zh (by decide) (bK rfl (aU (j:=3) c9 (by kernel_rfl))) ((gI (aB (show (18:Nat)≠70 by decide) rfl)):_=some (.row b18 (l.getD 0 default).sym T.dw 1 (OF (l.getD 0 default).sym (aS l) (xB bq s NS) (s+1)))) aE7 ce.dw (d:=Ho NS (aS l) (aS l)) rfl) (Dt 57 (Nat.le_refl _)) ⟨β,bY (d:=67) (i:=4) rfl (λt ht=>uf ht) (lt_size 10 c9.size rfl (by decide)) (aX (lt_size 10 c9.size rfl (by decide)) (by rfl))⟩))⟩
     .exact λβ L c9=>⟨_,rfl,.inl (OG.aK (aj (y:=dI i) ((bT rfl).trans rfl) ⟨β,bY (d:=68) (i:=5) rfl (λt ht=>uf ht) (lt_size 10 c9.size rfl (by decide)) (aX (lt_size 10 c9.size rfl (by decide)) (by rfl))⟩))⟩
     .exact λβ L c9=>⟨_,rfl,.inl (OG.aK (aj (y:=dI (aS l)) ((bT rfl).trans rfl) ⟨β,bY (d:=69) (i:=6) rfl (λt ht=>uf ht) (lt_size 10 c9.size rfl (by decide)) (aX (lt_size 10 c9.size rfl (by decide)) (by rfl))⟩))⟩
     .exact λβ L c9=>⟨_,rfl,.inl (OG.aK (X4 (n:=(aS l)) (cp:=(aS l)) dQ 0 sl.bg z.Rat Dj (bK rfl (aU (j:=6) c9 (by kernel_rfl))) (bK rfl (aU (j:=6) c9 (by kernel_rfl))) (Nat.le_refl _) (by omega) (by omega) (gI (wB (by exact c9.no) rfl)) λb=>⟨upd β 70 (b,0),Dk (d:=70) (i:=7) (x:=(b,0)) rfl (λt ht=>uf ht) (lt_size 10 c9.size rfl (by decide)) rfl (rU (lt_size 10 c9.size rfl (by decide)) rfl rfl rfl c9.no (by rfl) (λy hy=>absurd hy List.not_mem_nil)) (λt j ho hl=>by unfold ae6 at ho;split at ho <;> cases ho <;> first|rfl|(rw[c9.no] at hl;cases hl)|exact qL c9 (by kernel_rfl) hl)⟩))⟩
     .exact λβ L c9=>⟨_,rfl,.inl (OG.aK (Ri sl.dw (id:=57) (b:=NS) (l:=(aS l)) (c:=(aS l)) (bK rfl (aU (j:=4) c9 (by kernel_rfl))) (bK rfl (aU (j:=5) c9 (by kernel_rfl))) (by omega) (by omega) (i:=i) (by omega) ⟨β,bY (d:=71) (i:=8) rfl (λt ht=>uf ht) (lt_size 10 c9.size rfl (by decide)) (aX (lt_size 10 c9.size rfl (by decide)) (by rfl))⟩))⟩
    refine λβ L c9 hA=>⟨_,rfl,SG.aa6 (SO.YK (id:=70) (es:=(List.replicate (aS l) (0:Rat)).map dQ) (bK rfl (hA 8 (by decide))) (bK rfl (hA 7 (by decide))) (gI (uS (hA 7 (by decide)) rfl rfl)) ((gI (aB (show (57:Nat)≠70 by decide) rfl)):_=some (.row NS (aS l) T.bg 1 (HF (aS l) s Zg i))) sz.bg (by rw[Ze];omega) (by rw[dA,List.length_replicate];omega) λhc=>?_)⟩
    refine AW.to [(0,.d (aR8 l)),(2,.ptr 2 b2 0),(3,.ptr 3 b3 0),(6,.d (dI (aS l))),(7,.d (dI s)),(49,.d (dI (l.getD 0 default).sym)),(50,.d (dI s)),(59,.d (dI (aS l))),(60,.d (dI i))] [(2,.box b2 T.Machine [.mt,.mt,.mt]),(3,.box b3 T.Machine [.bI 32 p1 (JP l l.length).length c1,.bI 41 p2 (Fz l l.length).length c2,.bI 18 b18 (l.getD 0 default).sym (l.getD 0 default).sym]),(18,.row b18 (l.getD 0 default).sym T.dw 1 (OF (l.getD 0 default).sym (aS l) (xB bq s NS) (s+1))),(32,.row p1 c1 T.Rat 3 ((JP l l.length).map dQ)),(41,.row p2 c2 T.Rat 3 ((Fz l l.length).map dQ)),(2000,.pool T.bg 1 (QQ s (aS l) bq Zg)),(2001,.pool T.Rat 3 (PP (s*(aS l)+i) (aS l) Zg (λ_ _ _=>0))),(57,.row NS (aS l) T.bg 1 (HF (aS l) s (xB Zg (s*(aS l)+i) (β 70).1) (i+1))),(70,.row (β 70).1 (aS l) T.Rat 3 ((List.replicate (aS l) (0:Rat)).map dQ))] (.cons (au (fV ((bT rfl).trans rfl))) (.cons (au (fV ((bT rfl).trans rfl))) (.cons (au (fV ((bT rfl).trans rfl))) (.cons (au (fV ((bT rfl).trans rfl))) (.cons (au (fV ((bT rfl).trans rfl))) (.cons (au (fV ((bT rfl).trans rfl))) (.cons (au (fV ((bT rfl).trans rfl))) (.cons (au (fV ((bT rfl).trans rfl))) (.cons (au (fV ((bT rfl).trans rfl))) (.nil)))))))))) (.cons (mr (show (2:Nat)≠57 by decide) (gI (aB (show (2:Nat)≠70 by decide) rfl))) (.cons (mr (show (3:Nat)≠57 by decide) (gI (aB (show (3:Nat)≠70 by decide) rfl))) (.cons (mr (show (18:Nat)≠57 by decide) (gI (aB (show (18:Nat)≠70 by decide) rfl))) (.cons (mr (show (32:Nat)≠57 by decide) (gI (aB (show (32:Nat)≠70 by decide) rfl))) (.cons (mr (show (41:Nat)≠57 by decide) (gI (aB (show (41:Nat)≠70 by decide) rfl))) (.cons (mr (show (2000:Nat)≠57 by decide) (gI (aB (show (2000:Nat)≠70 by decide) rfl))) (.cons (mr (show (2001:Nat)≠57 by decide) (gI (aB (show (2001:Nat)≠70 by decide) rfl))) (.cons (NC.trans (congrArg some (congrArg (iF.row NS (aS l) T.bg 1) (bf2 (by omega))))) (.cons (mr (show (70:Nat)≠57 by decide) (gI (uS (hA 7 (by decide)) rfl rfl))) (.nil)))))))))) ?_
    generalize (β 70).1=b70;refine AW.aa4 70 2001 rfl rfl (by rw[dA,List.length_replicate]) (AW.rg hE rfl (aI rfl rfl (by omega) (aj rfl (OL.nil ?_))))
    exact AW.again (x:=(i,Zg)) (i+1,xB Zg (s*(aS l)+i) b70) (by (simp only[];omega)) ⟨by omega,Knows.app .rq8 .dD,dL.app (.cons rfl (.cons rfl (.cons rfl (.cons rfl (.cons rfl .nil))))) (.cons rfl (.cons (by rw[bf4 (Nat.le_add_right _ _)];rfl) (.cons (by rw[<- Nat.add_assoc,<- aT4];rfl) .nil)))⟩
   .try simp only[fD] at h61
    refine AW.exit ?_;obtain rfl:i=(aS l):=by omega
    refine AW.aa4 57 2000 rfl rfl Ze.symm ?_;rw[bf3,<- bq6 (b:=NS) (Nat.le_refl s),aT3];refine AW.rg hE rfl (aI rfl rfl (by omega) (aj rfl (OL.nil ?_)))
    exact AW.again (x:=(s,bq,bp)) (s+1,xB bq s NS,Zg) (by (simp only[];omega)) ⟨by omega,Knows.app .Ky .dD,dL.app (.cons rfl (.cons rfl (.cons rfl (.cons rfl .nil)))) (.cons rfl (.cons rfl (.cons (by rw[Nat.succ_mul];rfl) .nil)))⟩
  .try simp only[fD] at h51
   refine AW.exit (AW.seq ?_);obtain rfl:s=(l.getD 0 default).sym:=by omega
   refine AW.rg hE rfl (aF rfl (OL.nil (AW.seq (AW.sg hE rfl (aj rfl (fF sl.uI rfl rfl (aj rfl ?_)))))));refine OL.nil (AW.block ?_);refine AW.aY (α:=Nat) [(2,_),(3,_),(74,_),(75,_)] [(2,_),(3,_),(18,_),(32,_),(41,_),(2000,_)] (λk=>[(9,.d (dI (aS (l.take k)))),(76,.d (dI k))]) (λk=>[(2001,.pool T.Rat 3 (PP ((l.getD 0 default).sym*(aS l)) (aS l) bp (cO l k [])))]) (λk=>k<=l.length) (λk=>l.length-k) 0 (.cons (iw rfl) (.cons (iw rfl) (.cons (di rfl) (.cons (di rfl) .nil)))) (.cons (je rfl) (.cons (je rfl) (.cons (qZ rfl) (.cons (qZ rfl) (.cons (qZ rfl) (.cons (owL rfl) .nil)))))) ⟨Nat.zero_le _,.iW,.cons (by rw[show cO l 0 []=(λ_ _ _=>0) from by funext s i j;rw[Qb];rfl];rfl) .nil⟩ ?_
   intro k h4;have h4:k<=l.length:=h4;have hsl:=JU l k;refine AW.sg hE rfl (bG rfl rfl rfl (OL.nil (AW.seq (AW.cond rfl (λh77=>?_) (λh77=>?_)))))
   .try simp only[fD] at h77
    refine AW.skip (AW.seq (AW.block (AW.seq ?_)));have hk:k<l.length:=by omega
    have fk:=hl _ (getD_mem hk default);have hsk:=Bz hk;have hsl2:=JU l (k+1);have hst:=fk.st;have htl:=Ah (l.getD k default).aN;have hna:=fk.sz.num;refine AW.rg hE rfl (dR sl.uI default rfl rfl (by omega) rfl rfl (iD ag.Auto rfl (vs:=[_,_,_,_,_,_,_]) rfl (ay rfl) (al z.Auto rfl λb11=>(fA sz.Auto rfl rfl rfl rfl rfl (ay rfl) (cells2:=[_,_,_,_,_,_,_]) rfl (OL.nil (AW.seq (AW.sg hE rfl ?_)))))))
    refine bC fd.jE rfl rfl (aQ ag.Ring rfl rfl (vs:=[_,_]) rfl (ay rfl) (bC fd.gK rfl rfl (aG ce.dm rfl rfl rfl (bH rfl vL (aB1 (l:=(l.getD k default).aN) hna fk.sz.arc) (fF sl.dm rfl rfl (aj rfl (OL.nil ?_)))))));refine AW.block ?_;refine AW.aY (α:=Nat) [(2,_),(3,_),(9,_),(11,_),(74,_),(75,_),(76,_),(84,_),(85,_)] [(2,_),(3,_),(11,_),(18,_),(32,_),(41,_),(2000,_)] (λp=>[(86,.d (dI p))]) (λp=>[(2001,.pool T.Rat 3 (PP ((l.getD 0 default).sym*(aS l)) (aS l) bp (cO l k ((dK (l.getD k default).aN).take p))))]) (λp=>p<=(dK (l.getD k default).aN).length) (λp=>(dK (l.getD k default).aN).length-p) 0 (.cons (iw rfl) (.cons (iw rfl) (.cons (di rfl) (.cons (iw rfl) (.cons (di rfl) (.cons (di rfl) (.cons (di rfl) (.cons (di rfl) (.cons (di rfl) .nil))))))))) (.cons (je rfl) (.cons (je rfl) (.cons (je rfl) (.cons (qZ rfl) (.cons (qZ rfl) (.cons (qZ rfl) (.cons (owL rfl) .nil))))))) ⟨Nat.zero_le _,.dD,.cons rfl .nil⟩ ?_;intro p h5;have h5:p<=(dK (l.getD k default).aN).length:=h5;refine AW.sg hE rfl (bG rfl rfl rfl (OL.nil (AW.seq (AW.cond rfl (λh87=>?_) (λh87=>?_)))))
    .try simp only[fD] at h87
     refine AW.skip (AW.seq (AW.block (AW.seq ?_)));have hp:p<(dK (l.getD k default).aN).length:=by omega
     obtain⟨xf,xt,xl,xs⟩:=gQ.tidy (p:=λf l9 t=>f<(l.getD k default).st/\t<(l.getD k default).st/\1<=l9/\l9<=(l.getD k default).sym) fk.ok.arc ((dK (l.getD k default).aN).getD p default) (getD_mem hp default);have hsy:=fk.sym;refine AW.rg hE rfl (dR sl.dm default rfl rfl (by omega) rfl rfl (iD ag.mX rfl (vs:=[_,_,_,_,_,_,_,_,_,_,_]) rfl (ay rfl) (al z.mX rfl λb13=>(fA sz.mX rfl rfl rfl rfl rfl (ay rfl) (cells2:=[_,_,_,_,_,_,_,_,_,_,_]) rfl (OL.nil ?_)))))
     have hs:((dK (l.getD k default).aN).getD p default).l-1<(l.getD 0 default).sym:=by omega
     have hi:(aS (l.take k))+((dK (l.getD k default).aN).getD p default).f<(aS l):=by omega
     have hj:(aS (l.take k))+((dK (l.getD k default).aN).getD p default).t<(aS l):=by omega
     have hcs:=λs9 i9 j9=>aS7 (l:=l) (k:=k) (s:=s9) (i:=i9) (j:=j9) (JC (l.getD k default).aN) hp xl;have aE7:(OF (l.getD 0 default).sym (aS l) bq (l.getD 0 default).sym)[((dK (l.getD k default).aN).getD p default).l-1]? = some (Ho (bq (((dK (l.getD k default).aN).getD p default).l-1)) (aS l) (aS l)):=aZ6 hs hs;have bC8:(HR (aS l) (((dK (l.getD k default).aN).getD p default).l-1) bp)[(aS (l.take k))+((dK (l.getD k default).aN).getD p default).f]? = some (Ho (bp ((((dK (l.getD k default).aN).getD p default).l-1)*(aS l)+((aS (l.take k))+((dK (l.getD k default).aN).getD p default).f))) (aS l) (aS l)):=bq8 hi;have hqq:(QQ (l.getD 0 default).sym (aS l) bq bp)[((dK (l.getD k default).aN).getD p default).l-1]? = some (bq (((dK (l.getD k default).aN).getD p default).l-1),HR (aS l) (((dK (l.getD k default).aN).getD p default).l-1) bp):=bq7 hs;have hpp:(PP ((l.getD 0 default).sym*(aS l)) (aS l) bp (cO l k ((dK (l.getD k default).aN).take p)))[((((dK (l.getD k default).aN).getD p default).l-1)*(aS l)+((aS (l.take k))+((dK (l.getD k default).aN).getD p default).f))]? = some (bp ((((dK (l.getD k default).aN).getD p default).l-1)*(aS l)+((aS (l.take k))+((dK (l.getD k default).aN).getD p default).f)),Rf (aS l) (cO l k ((dK (l.getD k default).aN).take p) (((dK (l.getD k default).aN).getD p default).l-1) ((aS (l.take k))+((dK (l.getD k default).aN).getD p default).f))):=aZ7 hs hi;have hil:=aE5 hs hi;have hol:(OF (l.getD 0 default).sym (aS l) bq (l.getD 0 default).sym).length=(l.getD 0 default).sym:=Zd;refine AW.takeN 2003 2000 (((dK (l.getD k default).aN).getD p default).l-1) (aS l) rfl rfl hqq aE4 (AW.takeN 2004 2001 ((((dK (l.getD k default).aN).getD p default).l-1)*(aS l)+((aS (l.take k))+((dK (l.getD k default).aN).getD p default).f)) (aS l) rfl rfl hpp D9 (AW.dg 1 [0,1,2,3,4,5,6,7,8,9,10,11,12,13,14,15,16,17,18,19,20,21] ak hE rfl (by kernel_rfl) (OI.aK (os:=[_,_,_,_,_,_,_,_,_,_,_,_,_,_,_,_,_,_,_,_,_,_]) rfl ?_)))
     refine bC fd.o7 rfl rfl (aG ce.jF rfl rfl rfl (bC fd.DK rfl rfl (aG ce.int rfl rfl rfl (bo rfl rfl (mg (c:=((((dK (l.getD k default).aN).getD p default).l-1:Nat):Int)) (by omega) (wrap_i64 (by omega))) (jv sl.jF rfl rfl hs (aj2 (.zh (by decide) rfl rfl aE7 ce.dw rfl) (Dt 2003 (Nat.le_refl _)) (aj rfl ?_)))))))
     refine bC fd.Ib rfl rfl (aG ce.int rfl rfl rfl (bo rfl rfl (qf (c:=(((aS (l.take k))+((dK (l.getD k default).aN).getD p default).f:Nat):Int)) (by omega) (wrap_i64 (by omega))) (jv sl.dw rfl rfl hi (aj2 (.zh (by decide) rfl rfl bC8 ce.bg rfl) (Dt 2004 (Nat.le_refl _)) (aj rfl (bC fd.Fh rfl rfl (aG ce.int rfl rfl rfl ?_)))))))
     refine bo rfl rfl (qf (c:=(((aS (l.take k))+((dK (l.getD k default).aN).getD p default).t:Nat):Int)) (by omega) (wrap_i64 (by omega))) (bC fd.rC rfl rfl (bC fd.iC rfl rfl (aQ ag.Rat rfl rfl (vs:=[_,_,_]) rfl (ay rfl) (jv sl.bg rfl rfl hj ?_))))
     refine LQ sz.Rat rfl (d:=dQ ((dK (l.getD k default).aN).getD p default).q) BJ rfl rfl (by rw[D9];exact hj) (es2:=Rf (aS l) (cO l k ((dK (l.getD k default).aN).take (p+1)) (((dK (l.getD k default).aN).getD p default).l-1) ((aS (l.take k))+((dK (l.getD k default).aN).getD p default).f))) (aE6 hj λt=>by rw[hcs];by_cases ht:t=(aS (l.take k))+((dK (l.getD k default).aN).getD p default).t;rw[if_pos ⟨rfl,rfl,ht⟩,if_pos ht];rw[if_neg (λe=>ht e.2.2),if_neg ht]) ?_
     refine OL.nil ?_;refine AW.back 2004 2001 ((((dK (l.getD k default).aN).getD p default).l-1)*(aS l)+((aS (l.take k))+((dK (l.getD k default).aN).getD p default).f)) (PP ((l.getD 0 default).sym*(aS l)) (aS l) bp (cO l k ((dK (l.getD k default).aN).take p))) rfl rfl rfl (by rw[Zf];exact hil) D9.symm (zD:=PP ((l.getD 0 default).sym*(aS l)) (aS l) bp (cO l k ((dK (l.getD k default).aN).take (p+1)))) (bf5 hs hi λt9 j9 hne=>by funext z9;rw[hcs,if_neg (λe=>hne ⟨e.1,e.2.1⟩)]) ?_
     refine AW.back 2003 2000 (((dK (l.getD k default).aN).getD p default).l-1) (QQ (l.getD 0 default).sym (aS l) bq bp) rfl rfl rfl (by rw[bf0];exact hs) aE4.symm (zD:=QQ (l.getD 0 default).sym (aS l) bq bp) (an0 hqq) (AW.rg hE rfl (aI rfl rfl (by omega) (aj rfl (OL.nil ?_))))
     exact AW.again (x:=p) (p+1) (by omega) ⟨by omega,Knows.app .rq9 .dD,dL.app (.cons rfl (.cons rfl (.cons rfl (.cons rfl (.cons rfl (.cons rfl (.cons rfl .nil))))))) (.cons rfl .nil)⟩
    .try simp only[fD] at h87
     refine AW.exit ?_;obtain rfl:p=(dK (l.getD k default).aN).length:=by omega
     rw[List.take_length];refine AW.rg hE rfl (aj rfl (bC fd.oz rfl rfl (aG ce.int rfl rfl rfl (aI rfl rfl (by omega) (aF rfl (OL.nil (AW.rg hE rfl ?_)))))))
     refine aI rfl rfl (by omega) (aj rfl (OL.nil ?_))
     exact AW.again (x:=k) (k+1) (by omega) ⟨by omega,Knows.app .LV (.cons (bW.int (by rw[hsk];omega)) .dD),dL.app (.cons rfl (.cons rfl (.cons rfl (.cons rfl (.cons rfl (.cons rfl .nil)))))) (.cons (by rw[show cO l (k+1) []=cO l k (dK (l.getD k default).aN) from by funext s i j;rw[Qb,aS6 hk fk.ok]];rfl) .nil)⟩
   .try simp only[fD] at h77
    refine AW.exit (AW.seq ?_);obtain rfl:k=l.length:=by omega
    rw[show cO l l.length []=uM l from by funext s i j;rw[Qb,List.take_length],bC2 (c:=uM l)]
    have hi9:JP l l.length=(ah l).ini:=by unfold JP;rw[List.take_length];rfl
    have hf9:Fz l l.length=(ah l).fin:=by unfold Fz;rw[List.take_length];rfl
    have hms:(ah l).jb.length=(l.getD 0 default).sym:=GV;refine AW.V4 2000 2001 rfl rfl bq9 (by decide) ?_
    rw[bC3 (bp:=bp) (c:=uM l)];refine AW.YJ 18 2000 rfl rfl (by decide) ?_
    rw[bC4,hi9,hf9];rw[hi9] at hil;rw[hf9] at hfl;refine AW.freeze 18 rfl (AW.oZ 3 [.bI 32 p1 (ah l).ini.length c1,.bI 41 p2 (ah l).fin.length c2,.d (.sl ((ah l).jb.map qg))] rfl (.cons vR (.cons vR (.cons (dP (by rw[dA];exact hms.symm) rfl) .nil))) ?_)
    refine AW.freeze 32 rfl (AW.oZ 3 [.d (dJ (ah l).ini),.bI 41 p2 (ah l).fin.length c2,.d (.sl ((ah l).jb.map qg))] rfl (.cons (dP (by rw[dA]) rfl) .iW) ?_)
    refine AW.freeze 41 rfl (AW.oZ 3 [.d (dJ (ah l).ini),.d (dJ (ah l).fin),.d (.sl ((ah l).jb.map qg))] rfl (.cons vR (.cons (dP (by rw[dA]) rfl) .dD)) ?_)
    refine AW.to [(2,.ptr 2 b2 0),(3,.ptr 3 b3 0)] [(2,.box b2 T.Machine [.mt,.mt,.mt]),(3,.box b3 T.Machine [.d (dJ (ah l).ini),.d (dJ (ah l).fin),.d (.sl ((ah l).jb.map qg))])] (.cons bW.ptr (.cons bW.ptr .nil)) (.cons rfl (.cons rfl .nil)) ?_;exact AW.rg hE rfl (aQ ag.Machine rfl rfl (vs:=[_,_,_]) rfl (ay rfl) (fA sz.Machine rfl rfl rfl rfl rfl (ay rfl) (cells2:=[_,_,_]) rfl (OL.nil (AW.ret (aP.r ⟨_,.dN rfl rfl ag.Machine (ay rfl) .nil,.ag (.cons (.le vR) (.cons (.le vR) (.cons (.le vR) .nil)))⟩)))))
