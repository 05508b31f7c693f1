/-
  Walks of package rows, part 5: the machine of some automata (printed by mk2.py).
-/
import Derived.Test.YtmcoihfkniccdaaGreatDoorKWkO
import Derived.Test.YtmcoihfkniccdaaGreatDoorKMod91
set_option linter.unusedVariables false
set_option linter.unusedSimpArgs false
namespace Go.Proofs.YtmcoihfkniccdaaGreatDoor
open Go Go.AL
theorem numF_f (l:List Rat):numF false l=l:=by
 have e:(fun x:Rat=>if (false=true) then -x else x)=id:=by funext x;rw [if_neg Bool.false_ne_true];rfl
 unfold numF;rw [e,List.map_id]
theorem finT_num {l:List Au}{k:Nat}(hk:k<l.length):finT l (k+1)=finT l k++numF (decide ((0:Int)<(k:Int))) (l.getD k default).fin:=by
 rcases Nat.eq_zero_or_pos k with h0|h0
 ·subst h0
  rw [finT_one hk,show decide ((0:Int)<((0:Nat):Int))=false from rfl,numF_f];rfl
 ·rw [finT_snoc hk h0,show decide ((0:Int)<(k:Int))=true from decide_eq_true (by omega)]
  congr 1
theorem sizeL_le (l:List Au)(k:Nat):sizeL (l.take k)≤sizeL l:=by
 have h:sizeL l=sizeL (l.take k)+sizeL (l.drop k):=by rw [← sizeL_app,List.take_append_drop]
 omega
def updN (f:Nat→Nat)(a b:Nat):Nat→Nat:=fun k=>if k=a then b else f k
theorem updN_at {f:Nat→Nat}{a b:Nat}:updN f a b a=b:=if_pos rfl
theorem updN_ne {f:Nat→Nat}{a b k:Nat}(h:k≠a):updN f a b k=f k:=if_neg h
abbrev rowZ (N:Nat)(f:Nat→Rat):List D:=((List.range N).map f).map dQ
theorem rowZ_len {N:Nat}{f:Nat→Rat}:(rowZ N f).length=N:=by simp [rowZ]
def PP (K N:Nat)(bp:Nat→Nat)(c:Nat→Nat→Nat→Rat):List (Nat × List D):=(List.range K).map fun k=>(bp k,rowZ N (c (k / N) (k % N)))
def HR (N s:Nat)(bp:Nat→Nat):List D:=(List.range N).map fun i=>hdC (bp (s*N+i)) N N
def HF (N s:Nat)(bp:Nat→Nat)(i:Nat):List D:=fillF (dQs []) (fun i=>hdC (bp (s*N+i)) N N) N i
def QQ (S N:Nat)(bq bp:Nat→Nat):List (Nat × List D):=(List.range S).map fun s=>(bq s,HR N s bp)
def OF (S N:Nat)(bq:Nat→Nat)(s:Nat):List D:=fillF (dQss []) (fun k=>hdC (bq k) N N) S s
section
variable {K N S s i k b:Nat}{bp bq:Nat→Nat}{c d:Nat→Nat→Nat→Rat}
theorem fillF_congr {α:Type}{x:α}{g h:Nat→α}{n i:Nat}(e:∀ j,j<i→g j=h j):fillF x g n i=fillF x h n i:=by
 unfold fillF
 refine List.map_congr_left fun j _=>?_
 split
 ·exact e j ‹_›
 ·rfl
theorem OF_len:(OF S N bq s).length=S:=fillF_len ..
theorem HF_len:(HF N s bp i).length=N:=fillF_len ..
theorem HR_len:(HR N s bp).length=N:=by simp [HR]
theorem QQ_len:(QQ S N bq bp).length=S:=by simp [QQ]
theorem PP_len:(PP K N bp c).length=K:=by simp [PP]
theorem OF_set (hs:s<S):(OF S N bq s).set s (hdC b N N)=OF S N (updN bq s b) (s+1):=by
 have e:OF S N bq s=OF S N (updN bq s b) s:=fillF_congr fun j hj=>by rw [updN_ne (by omega)]
 rw [e,← show (OF S N (updN bq s b) s).set s (hdC (updN bq s b s) N N)=OF S N (updN bq s b) (s+1) from fillF_set (g:=fun k=>hdC (updN bq s b k) N N) hs,updN_at]
theorem OF_at (hs:s<k)(hk:s<S):(OF S N bq k)[s]? = some (hdC (bq s) N N):=by
 unfold OF fillF
 rw [List.getElem?_map,List.getElem?_range hk,Option.map_some,if_pos hs]
theorem HF_set (hi:i<N):(HF N s bp i).set i (hdC b N N)=HF N s (updN bp (s*N+i) b) (i+1):=by
 have e:HF N s bp i=HF N s (updN bp (s*N+i) b) i:=fillF_congr fun j hj=>by rw [updN_ne (by omega)]
 rw [e,← show (HF N s (updN bp (s*N+i) b) i).set i (hdC (updN bp (s*N+i) b (s*N+i)) N N)=HF N s (updN bp (s*N+i) b) (i+1) from fillF_set (g:=fun i9=>hdC (updN bp (s*N+i) b (s*N+i9)) N N) hi,updN_at]
theorem HF_all:HF N s bp N=HR N s bp:=by unfold HF HR;rw [fillF_all]
theorem QQ_upd (h:s*N≤k):QQ s N bq (updN bp k b)=QQ s N bq bp:=by
 unfold QQ
 refine List.map_congr_left fun t ht=>?_
 have ht:=List.mem_range.1 ht
 unfold HR
 congr 1
 refine List.map_congr_left fun i hi=>?_
 have hi:=List.mem_range.1 hi
 have h1:t*N+N≤s*N:=by rw [← Nat.succ_mul];exact Nat.mul_le_mul_right _ ht
 rw [updN_ne (by omega)]
theorem QQ_bq (h:s≤k):QQ s N (updN bq k b) bp=QQ s N bq bp:=by
 unfold QQ
 refine List.map_congr_left fun t ht=>?_
 have ht:=List.mem_range.1 ht
 rw [updN_ne (by omega)]
theorem QQ_snoc:QQ s N (updN bq s b) bp++[(b,HR N s bp)]=QQ (s+1) N (updN bq s b) bp:=by
 unfold QQ
 rw [List.range_succ,List.map_append,List.map_singleton,updN_at]
theorem PP_snoc:PP k N bp (fun _ _ _=>0)++[(b,(List.replicate N (0:Rat)).map dQ)]=PP (k+1) N (updN bp k b) fun _ _ _=>0:=by
 have e:PP k N bp (fun _ _ _=>0)=PP k N (updN bp k b) fun _ _ _=>0:=by
  unfold PP
  refine List.map_congr_left fun t ht=>?_
  have ht:=List.mem_range.1 ht
  rw [updN_ne (by omega)]
 rw [e]
 unfold PP
 rw [List.range_succ,List.map_append,List.map_singleton,updN_at]
 congr 4
 rw [List.map_const',List.length_range]
theorem QQ_at (hs:s<S):(QQ S N bq bp)[s]? = some (bq s,HR N s bp):=by
 unfold QQ
 rw [List.getElem?_map,List.getElem?_range hs];rfl
theorem HR_at (hi:i<N):(HR N s bp)[i]? = some (hdC (bp (s*N+i)) N N):=by
 unfold HR
 rw [List.getElem?_map,List.getElem?_range hi];rfl
theorem divN (hi:i<N):(s*N+i) / N=s∧(s*N+i) % N=i:=by
 rw [Nat.mul_comm,Nat.mul_add_div (by omega),Nat.mul_add_mod,Nat.div_eq_of_lt hi,Nat.mod_eq_of_lt hi]
 exact ⟨rfl,rfl⟩
theorem idx_lt (hs:s<S)(hi:i<N):s*N+i<S*N:=by
 have h1:s*N+N≤S*N:=by rw [← Nat.succ_mul];exact Nat.mul_le_mul_right _ hs
 omega
theorem PP_at (hs:s<S)(hi:i<N):(PP (S*N) N bp c)[s*N+i]? = some (bp (s*N+i),rowZ N (c s i)):=by
 unfold PP
 rw [List.getElem?_map,List.getElem?_range (idx_lt hs hi),Option.map_some,(divN hi).1,(divN hi).2]
theorem PP_set (hs:s<S)(hi:i<N)(h:∀ t j,¬(t=s∧j=i)→c t j=d t j):PP (S*N) N bp d=(PP (S*N) N bp c).set (s*N+i) (bp (s*N+i),rowZ N (d s i)):=by
 refine List.ext_getElem (by rw [List.length_set,PP_len,PP_len]) fun k h1 h2=>?_
 rw [List.getElem_set]
 by_cases hk:s*N+i=k
 ·subst hk
  rw [if_pos rfl]
  simp only [PP,List.getElem_map,List.getElem_range]
  rw [(divN hi).1,(divN hi).2]
 ·rw [if_neg hk]
  simp only [PP,List.getElem_map,List.getElem_range]
  rw [h (k / N) (k % N) fun e=>hk (by rw [← e.1,← e.2];exact Nat.div_add_mod' k N)]
theorem rowZ_set {f g:Nat→Rat}{j:Nat}{q:Rat}(hj:j<N)(h:∀ t,g t=if t=j then q else f t):(rowZ N f).set j (dQ q)=rowZ N g:=by
 refine List.ext_getElem (by rw [List.length_set,rowZ_len,rowZ_len]) fun t h1 h2=>?_
 rw [List.getElem_set]
 by_cases ht:j=t
 ·subst ht
  rw [if_pos rfl]
  simp only [List.getElem_map,List.getElem_range]
  rw [h,if_pos rfl]
 ·rw [if_neg ht]
  simp only [List.getElem_map,List.getElem_range]
  rw [h,if_neg (Ne.symm ht)]
def LL (S N:Nat)(bq bp:Nat→Nat)(c:Nat→Nat→Nat→Rat):List (Nat × List (Nat × List D)):=(List.range S).map fun s=>(bq s,(List.range N).map fun i=>(bp (s*N+i),rowZ N (c s i)))
theorem LL_q:QQ S N bq bp=(LL S N bq bp c).map fun r=>(r.1,r.2.map hdP):=by
 unfold QQ LL HR
 rw [List.map_map]
 refine List.map_congr_left fun s _=>?_
 show (bq s,_)=(bq s,List.map hdP _)
 rw [List.map_map]
 congr 1
 exact List.map_congr_left fun i _=>(hdP_eq rowZ_len).symm
theorem LL_in:∀ r,r ∈ LL S N bq bp c→∀ q,q ∈ r.2→q ∈ PP (S*N) N bp c:=fun r hr q hq=>by
 obtain ⟨s,hs,rfl⟩:=mm9 hr
 obtain ⟨i,hi,rfl⟩:=mm9 hq
 exact List.mem_of_getElem? (PP_at (List.mem_range.1 hs) (List.mem_range.1 hi))
theorem LL_o:OF S N bq S=((LL S N bq bp c).map fun r=>(r.1,r.2.map fun q:Nat × List D=>(.sl q.2:D))).map hdP:=by
 unfold OF LL
 rw [fillF_all,List.map_map,List.map_map]
 exact List.map_congr_left fun s _=>((hdP_eq (by simp)).symm)
theorem LL_m {l:List Au}:(((LL (l.getD 0 default).sym (sizeL l) bq bp (entL l)).map fun r=>(r.1,r.2.map fun q:Nat × List D=>(.sl q.2:D))).map fun q=>(.sl q.2:D))=(machL l).mats.map dQss:=by
 unfold LL machL mtx
 rw [List.map_map,List.map_map,List.map_map]
 refine List.map_congr_left fun s _=>?_
 show D.sl _=D.sl _
 congr 1
 show List.map _ _=List.map dQs (List.map _ _)
 rw [List.map_map,List.map_map]
 exact List.map_congr_left fun i _=>rfl
end
theorem set_same9 {α:Type}{l:List α}{i:Nat}{x:α}(h:l[i]? = some x):l=l.set i x:=(set_at h).symm
def ownOf:Nat→Option Nat
 | 63=>some 0
 | 64=>some 1
 | 65=>some 2
 | 66=>some 3
 | 67=>some 4
 | 68=>some 5
 | 69=>some 6
 | 70=>some 7
 | 71=>some 8
 | _=>none
theorem ownOf_inj {t i:Nat}(h:ownOf t=some i):t=[63,64,65,66,67,68,69,70,71].getD i 0:=by
 unfold ownOf at h
 split at h <;> first|(cases h;rfl)|cases h
noncomputable def valOf (b3 b18 b57 kk nn s i:Nat)(t:Nat)(β:Nat→Nat × Nat):V :=
 match t with
 | 63=>.ptr 3 b3 2
 | 64=>.osl 18 b18 kk kk
 | 65=>.d (dI s)
 | 66=>.eptr 18 b18 1 s 0
 | 67=>.osl 57 b57 nn nn
 | 68=>.d (dI i)
 | 69=>.d (dI nn)
 | 70=>.osl 70 (β 70).1 nn nn
 | 71=>.eptr 57 b57 1 i 0
 | _=>.junk
noncomputable abbrev telOf (b3 b18 b57 kk nn s i:Nat):List Tell:=[⟨70,7,fun β=>.row (β 70).1 nn T.Rat 3 ((List.replicate nn (0:Rat)).map dQ)⟩]
theorem casOf {p:Nat→Prop}(h0:p 0)(h1:p 1)(h2:p 2)(h3:p 3)(h4:p 4)(h5:p 5)(h6:p 6)(h7:p 7)(h8:p 8):∀ i,i<9→p i:=fun i hi=>by
 have:i=0 ∨ i=1 ∨ i=2 ∨ i=3 ∨ i=4 ∨ i=5 ∨ i=6 ∨ i=7 ∨ i=8:=by omega
 rcases this with rfl|rfl|rfl|rfl|rfl|rfl|rfl|rfl|rfl <;> assumption
set_option maxRecDepth 8000 in
set_option maxHeartbeats 12800000 in
theorem OfQ {l:List Au}(hl:∀ a,a ∈ l→Au.Fit a (l.getD 0 default).sym)(n1:1≤l.length∧l.length≤64)(N1:1≤sizeL l)(N64:sizeL l≤64):FSpec P F.rows_Of [.d (dAus l)] (vMach (machL l)):=by
 have n1a:=n1.1
 have n1b:=n1.2
 have hok:∀ a,a ∈ l→a.Ok:=fun a ha=>(hl a ha).ok
 have f0:=hl _ (getD_mem (show 0<l.length by omega) default)
 have S32:=f0.s1
 have hN:sizeL (l.take l.length)=sizeL l:=by rw [List.take_length]
 refine FSpec.intro fn.rows_Of (by rfl) (by rfl) (nb9 (by rfl)) fun E hE=>(AW.sg hE rfl (al z.Machine rfl fun b2=>(OL.nil (AW.sg hE rfl (mvD rfl (ixLe 0 sl.Autos default rfl rfl rfl (by omega) rfl rfl (faR fd.Auto_1 rfl rfl ?_)))))))
 refine ldRC ce.int rfl (mkL (n:=(l.getD 0 default).sym) (cp:=(l.getD 0 default).sym) dQss [] sl.Ratsss z.Ratss vcs_mtD rfl rfl (Nat.le_refl _) (by omega) (by omega) rfl fun b18=>(bd z.Machine pl.Machine (cs:=[_,_,_]) rfl (al z.Machine rfl fun b3=>(sto sz.Machine rfl rfl rfl rfl rfl (nb9 rfl) (cells2:=[_,_,_]) rfl (OL.nil (AW.seq (AW.sg hE rfl ?_)))))))
 refine mvD rfl (lnL sl.Autos rfl rfl (mvD rfl (OL.nil (AW.block (AW.deadR 32 T.Rat 3 rfl (AW.deadR 41 T.Rat 3 rfl (AW.boxW 3 [.osl 32 0 0 0,.osl 41 0 0 0,.osl 18 b18 (l.getD 0 default).sym (l.getD 0 default).sym] rfl (.cons vle_mtO (.cons vle_mtO .rq1)) ?_)))))))
 refine AW.whileK (α:=Nat × Nat × Nat × Nat × Nat) [(0,_),(2,_),(3,_),(20,_),(21,_)] [(2,_)] (fun (k,p1,c1,p2,c2)=>[(22,.d (dI k))]) (fun (k,p1,c1,p2,c2)=>[(3,.box b3 T.Machine [.osl 32 p1 (iniT l k).length c1,.osl 41 p2 (finT l k).length c2,.osl 18 b18 (l.getD 0 default).sym (l.getD 0 default).sym]),(32,.row p1 c1 T.Rat 3 ((iniT l k).map dQ)),(41,.row p2 c2 T.Rat 3 ((finT l k).map dQ)),(18,.row b18 (l.getD 0 default).sym T.Ratss 1 ((List.replicate (l.getD 0 default).sym []).map dQss))]) (fun (k,p1,c1,p2,c2)=>k≤l.length) (fun (k,p1,c1,p2,c2)=>l.length-k) (0,0,0,0,0) (.cons (knD rfl) (.cons (knP rfl) (.cons (knP rfl) (.cons (knD rfl) (.cons (knD rfl) .nil))))) (.cons (owB rfl) .nil) ⟨Nat.zero_le _,.rq1,.cons rfl (.cons rfl (.cons rfl (.cons rfl .nil)))⟩ ?_
 rintro ⟨k,p1,c1,p2,c2⟩ h1
 have h1:k≤l.length:=h1
 have hil:=iniT_len hok k
 have hfl:=finT_len hok k
 have hsl:=sizeL_le l k
 refine AW.sg hE rfl (c_lss rfl rfl rfl (OL.nil (AW.seq (AW.cond rfl (fun h23=>?_) (fun h23=>?_)))))
 ·try simp only [dx9] at h23
  refine AW.skip (AW.seq (AW.block (AW.seq ?_)))
  have hk:k<l.length:=by omega
  have fk:=hl _ (getD_mem hk default)
  have hsk:=sizeL_snoc hk
  have hsl2:=sizeL_le l (k+1)
  have e1:=fk.ok.ini
  have e2:=fk.ok.fin
  have hnl:=numF_len (decide ((0:Int)<(k:Int))) (l.getD k default).fin
  have hin:=iniT_len hok (k+1)
  have hfn:=finT_len hok (k+1)
  rw [hsk] at hin hfn
  refine AW.rg hE rfl (mvD rfl (ixLn sl.Autos default rfl rfl (by omega) rfl rfl (ldRA ag.Auto rfl (vs:=[_,_,_,_,_,_,_]) rfl (nb9 rfl) (al z.Auto rfl fun b5=>(asD rfl (sto sz.Auto rfl rfl rfl rfl rfl (nb9 rfl) (cells2:=[_,_,_,_,_,_,_]) rfl (OL.nil ?_)))))))
  refine AW.seq (AW.dg 2 [0,1,2,3,4,5,6,7] order_free hE rfl (by kernel_rfl) (OI.of_OL (os:=[_,_,_,_,_,_,_,_]) rfl ?_))
  refine faP fd.Machine_0 rfl rfl (ldPC ce.Rats rfl rfl rfl (faP fd.Auto_3 rfl rfl (ldPC ce.Weights rfl rfl rfl (clv rfl vL (numbersQ (l:=(l.getD k default).ini) (mi:=false) (by omega) (fun x hx=>fk.sz.ini x hx)) ?_))))
  rw [numF_f]
  refine apO sl.Rats rfl rfl rfl (by rw [lm9]) (VC.d _) dQ_len (by rw [lm9];omega) (by rw [lm9];omega) (.inr rfl) (ys:=(iniT l k++(l.getD k default).ini).map dQ) (by rw [List.map_append]) (n2:=(sizeL (l.take k))+(l.getD k default).st) (by rw [lm9,hil,e1]) fun b32 c32=>?_
  refine faP fd.Machine_0 rfl rfl (sto sz.Rats rfl rfl rfl rfl rfl (nb9 rfl) (cells2:=[_,_,_]) rfl (OL.nil (AW.dg 2 [0,1,2,3,4,5,6,7,8,9] order_free hE rfl (by kernel_rfl) (OI.of_OL (os:=[_,_,_,_,_,_,_,_,_,_]) rfl ?_))))
  refine faP fd.Machine_1 rfl rfl (ldPC ce.Rats rfl rfl rfl (faP fd.Auto_4 rfl rfl (ldPC ce.Weights rfl rfl rfl (mvD rfl (c_gtr rfl rfl rfl (clv rfl vL (numbersQ (l:=(l.getD k default).fin) (mi:=decide ((0:Int)<(k:Int))) (by omega) (fun x hx=>fk.sz.fin x hx)) ?_))))))
  refine apO sl.Rats rfl rfl rfl (by rw [lm9]) (VC.d _) dQ_len (by rw [lm9];omega) (by rw [lm9];omega) (.inr rfl) (ys:=(finT l k++numF (decide ((0:Int)<(k:Int))) (l.getD k default).fin).map dQ) (by rw [List.map_append]) (n2:=(sizeL (l.take k))+(l.getD k default).st) (by rw [lm9,hfl,hnl,e2]) fun b41 c41=>?_
  refine faP fd.Machine_1 rfl rfl (sto sz.Rats rfl rfl rfl rfl rfl (nb9 rfl) (cells2:=[_,_,_]) rfl (OL.nil (AW.rg hE rfl (add_i64 rfl rfl (by omega) (mvD rfl (OL.nil ?_))))))
  exact AW.again (x:=(k,p1,c1,p2,c2)) (k+1,b32,c32,b41,c41) (by (simp only [];omega)) ⟨by omega,Knows.app .rq5 .rq1,Owns.app (.cons rfl .nil) (.cons (by rw [hin,hfn];rfl) (.cons (by rw [iniT_snoc hk];rfl) (.cons (by rw [finT_num hk];rfl) (.cons rfl .nil))))⟩
 ·try simp only [dx9] at h23
  refine AW.exit (AW.seq ?_)
  obtain rfl:k=l.length:=by omega
  rw [hN] at hil hfl
  refine AW.rg hE rfl (faP fd.Machine_0 rfl rfl (ldPC ce.Rats rfl rfl rfl (lnO sl.Rats rfl rfl ?_)))
  rw [hil]
  refine asD rfl (OL.nil (AW.seq (AW.sg hE rfl (faP fd.Machine_2 rfl rfl (ldPC ce.Ratsss rfl rfl rfl (lnO sl.Ratsss rfl rfl (mvD rfl ?_)))))))
  refine OL.nil (AW.block (AW.pool0 2000 T.Rats 1 rfl (AW.pool0 2001 T.Rat 3 rfl ?_)))
  refine AW.whileK (α:=Nat × (Nat→Nat) × (Nat→Nat)) [(0,_),(2,_),(3,_),(6,_),(49,_)] [(2,_),(3,_),(32,_),(41,_)] (fun (s,bq,bp)=>[(50,.d (dI s))]) (fun (s,bq,bp)=>[(18,.row b18 (l.getD 0 default).sym T.Ratss 1 (OF (l.getD 0 default).sym (sizeL l) bq (s))),(2000,.pool T.Rats 1 (QQ s (sizeL l) bq bp)),(2001,.pool T.Rat 3 (PP (s*(sizeL l)) (sizeL l) bp (fun _ _ _=>0)))]) (fun (s,bq,bp)=>s≤(l.getD 0 default).sym) (fun (s,bq,bp)=>(l.getD 0 default).sym-s) (0,fun _=>0,fun _=>0) (.cons (knD rfl) (.cons (knP rfl) (.cons (knP rfl) (.cons (knD rfl) (.cons (knD rfl) .nil))))) (.cons (owB rfl) (.cons (owB rfl) (.cons (owR rfl) (.cons (owR rfl) .nil)))) ⟨Nat.zero_le _,.rq1,.cons (by unfold OF;rw [fillF_zero,← List.map_replicate];rfl) (.cons rfl (.cons (by rw [Nat.zero_mul];rfl) .nil))⟩ ?_
  rintro ⟨s,bq,bp⟩ h2
  have h2:s≤(l.getD 0 default).sym:=h2
  have hol:(OF (l.getD 0 default).sym (sizeL l) bq s).length=(l.getD 0 default).sym:=OF_len
  refine AW.sg hE rfl (c_lss rfl rfl rfl (OL.nil (AW.seq (AW.cond rfl (fun h51=>?_) (fun h51=>?_)))))
  ·try simp only [dx9] at h51
   refine AW.skip (AW.seq (AW.block (AW.sg hE rfl (mvD rfl (asD rfl (OL.nil (AW.seq ?_)))))))
   refine AW.dg 118 [0,1,2,3,4,5,6] order_free hE rfl (by kernel_rfl) (OI.of_OL (os:=[_,_,_,_,_,_,_]) rfl ?_)
   refine faP fd.Machine_2 rfl rfl (ldPC ce.Ratsss rfl rfl rfl (mvD rfl (mvD rfl (mkLd (n:=(sizeL l)) (cp:=(sizeL l)) dQs [] sl.Ratss z.Rats (VCs.cons VC.mt VCs.nil) rfl rfl (Nat.le_refl _) (by omega) (by omega) rfl rfl fun b57=>(ixOn sl.Ratsss rfl rfl (by omega) (stE sz.Ratss rfl (vd_head (by omega)) rfl rfl (by omega) (es2:=OF (l.getD 0 default).sym (sizeL l) (updN bq s b57) (s+1)) (OF_set (by omega)) (OL.nil ?_)))))))
   refine AW.sg hE rfl (mvD rfl (mvD rfl (OL.nil (AW.block ?_))))
   refine AW.whileK (α:=Nat × (Nat→Nat)) [(0,_),(2,_),(3,_),(6,_),(7,_),(49,_),(50,_),(59,_)] [(2,_),(3,_),(18,_),(32,_),(41,_)] (fun (i,bp2)=>[(60,.d (dI i))]) (fun (i,bp2)=>[(57,.row b57 (sizeL l) T.Rats 1 (HF (sizeL l) s bp2 i)),(2000,.pool T.Rats 1 (QQ s (sizeL l) bq bp2)),(2001,.pool T.Rat 3 (PP (s*(sizeL l)+i) (sizeL l) bp2 (fun _ _ _=>0)))]) (fun (i,bp2)=>i≤(sizeL l)) (fun (i,bp2)=>(sizeL l)-i) (0,bp) (.cons (knD rfl) (.cons (knP rfl) (.cons (knP rfl) (.cons (knD rfl) (.cons (knD rfl) (.cons (knD rfl) (.cons (knD rfl) (.cons (knD rfl) .nil)))))))) (.cons (owB rfl) (.cons (owB rfl) (.cons (owR rfl) (.cons (owR rfl) (.cons (owR rfl) .nil))))) ⟨Nat.zero_le _,.rq1,.cons (by unfold HF;rw [fillF_zero,← List.map_replicate];rfl) (.cons rfl (.cons rfl .nil))⟩ ?_
   rintro ⟨i,bp2⟩ h3
   have h3:i≤(sizeL l):=h3
   have hhl:(HF (sizeL l) s bp2 i).length=(sizeL l):=HF_len
   have hel18:(OF (l.getD 0 default).sym (sizeL l) (updN bq s b57) (s+1))[s]? = some (hdC b57 (sizeL l) (sizeL l)):=by rw [OF_at (by omega) (by omega),updN_at]
   have hol2:(OF (l.getD 0 default).sym (sizeL l) (updN bq s b57) (s+1)).length=(l.getD 0 default).sym:=OF_len
   refine AW.sg hE rfl (c_lss rfl rfl rfl (OL.nil (AW.seq (AW.cond rfl (fun h61=>?_) (fun h61=>?_)))))
   ·try simp only [dx9] at h61
    refine AW.skip (AW.seq (AW.block (AW.sg hE rfl (mvD rfl (asD rfl (OL.nil (AW.region_planT (valOf b3 b18 b57 (l.getD 0 default).sym (sizeL l) s i) ownOf (telOf b3 b18 b57 (l.getD 0 default).sym (sizeL l) s i) 9 order_free (by rw [hE];rfl) (by rfl) (by kernel_rfl) (by kernel_rfl) ?_ ?_)))))))
    ·refine casOf ?_ ?_ ?_ ?_ ?_ ?_ ?_ ?_ ?_
     ·exact fun β L c9=>⟨_,rfl,.inl (OG.of_OL (faP (b:=b3) (o:=0) (id:=3) fd.Machine_2 ((pG_old rfl).trans rfl) rfl ⟨β,pG_put (d:=63) (i:=0) rfl (fun t ht=>ownOf_inj ht) (lt_size 10 c9.size rfl (by decide)) (mfT_same (lt_size 10 c9.size rfl (by decide)) (by rfl))⟩))⟩
     ·exact fun β L c9=>⟨_,rfl,.inl (OG.of_OL (ldPC ce.Ratsss (pG_new rfl (come_dep (j:=0) c9 (by kernel_rfl))) ((pG_M (mfT_skip (show (3:Nat)≠70 by decide) rfl)):_=some (.box b3 T.Machine [.osl 32 p1 (iniT l l.length).length c1,.osl 41 p2 (finT l l.length).length c2,.osl 18 b18 (l.getD 0 default).sym (l.getD 0 default).sym])) (v:=.osl 18 b18 (l.getD 0 default).sym (l.getD 0 default).sym) rfl ⟨β,pG_put (d:=64) (i:=1) rfl (fun t ht=>ownOf_inj ht) (lt_size 10 c9.size rfl (by decide)) (mfT_same (lt_size 10 c9.size rfl (by decide)) (by rfl))⟩))⟩
     ·exact fun β L c9=>⟨_,rfl,.inl (OG.of_OL (mvD (y:=dI s) ((pG_old rfl).trans rfl) ⟨β,pG_put (d:=65) (i:=2) rfl (fun t ht=>ownOf_inj ht) (lt_size 10 c9.size rfl (by decide)) (mfT_same (lt_size 10 c9.size rfl (by decide)) (by rfl))⟩))⟩
     ·exact fun β L c9=>⟨_,rfl,.inl (OG.of_OL (ixO sl.Ratsss (id:=18) (b:=b18) (l:=(l.getD 0 default).sym) (c:=(l.getD 0 default).sym) (pG_new rfl (come_dep (j:=1) c9 (by kernel_rfl))) (pG_new rfl (come_dep (j:=2) c9 (by kernel_rfl))) (by omega) (by omega) (i:=s) (by omega) ⟨β,pG_put (d:=66) (i:=3) rfl (fun t ht=>ownOf_inj ht) (lt_size 10 c9.size rfl (by decide)) (mfT_same (lt_size 10 c9.size rfl (by decide)) (by rfl))⟩))⟩
     ·exact fun β L c9=>⟨_,rfl,.inl (OG.of_OL (ldLe (.rowC (by decide) (pG_new rfl (come_dep (j:=3) c9 (by kernel_rfl))) ((pG_M (mfT_skip (show (18:Nat)≠70 by decide) rfl)):_=some (.row b18 (l.getD 0 default).sym T.Ratss 1 (OF (l.getD 0 default).sym (sizeL l) (updN bq s b57) (s+1)))) hel18 ce.Ratss (d:=hdC b57 (sizeL l) (sizeL l)) rfl) (vle_head 57 (Nat.le_refl _)) ⟨β,pG_put (d:=67) (i:=4) rfl (fun t ht=>ownOf_inj ht) (lt_size 10 c9.size rfl (by decide)) (mfT_same (lt_size 10 c9.size rfl (by decide)) (by rfl))⟩))⟩
     ·exact fun β L c9=>⟨_,rfl,.inl (OG.of_OL (mvD (y:=dI i) ((pG_old rfl).trans rfl) ⟨β,pG_put (d:=68) (i:=5) rfl (fun t ht=>ownOf_inj ht) (lt_size 10 c9.size rfl (by decide)) (mfT_same (lt_size 10 c9.size rfl (by decide)) (by rfl))⟩))⟩
     ·exact fun β L c9=>⟨_,rfl,.inl (OG.of_OL (mvD (y:=dI (sizeL l)) ((pG_old rfl).trans rfl) ⟨β,pG_put (d:=69) (i:=6) rfl (fun t ht=>ownOf_inj ht) (lt_size 10 c9.size rfl (by decide)) (mfT_same (lt_size 10 c9.size rfl (by decide)) (by rfl))⟩))⟩
     ·exact fun β L c9=>⟨_,rfl,.inl (OG.of_OL (mkL (n:=(sizeL l)) (cp:=(sizeL l)) dQ 0 sl.Rats z.Rat vcs_q0 (pG_new rfl (come_dep (j:=6) c9 (by kernel_rfl))) (pG_new rfl (come_dep (j:=6) c9 (by kernel_rfl))) (Nat.le_refl _) (by omega) (by omega) (pG_M (mfT_no (by exact c9.no) rfl)) fun b=>⟨upd β 70 (b,0),pG_set (d:=70) (i:=7) (x:=(b,0)) rfl (fun t ht=>ownOf_inj ht) (lt_size 10 c9.size rfl (by decide)) rfl (mfT_here (lt_size 10 c9.size rfl (by decide)) rfl rfl rfl c9.no (by rfl) (fun y hy=>absurd hy List.not_mem_nil)) (fun t j ho hl=>by unfold ownOf at ho;split at ho <;> cases ho <;> first|rfl|(rw [c9.no] at hl;cases hl)|exact come_notT c9 (by kernel_rfl) hl)⟩))⟩
     ·exact fun β L c9=>⟨_,rfl,.inl (OG.of_OL (ixO sl.Ratss (id:=57) (b:=b57) (l:=(sizeL l)) (c:=(sizeL l)) (pG_new rfl (come_dep (j:=4) c9 (by kernel_rfl))) (pG_new rfl (come_dep (j:=5) c9 (by kernel_rfl))) (by omega) (by omega) (i:=i) (by omega) ⟨β,pG_put (d:=71) (i:=8) rfl (fun t ht=>ownOf_inj ht) (lt_size 10 c9.size rfl (by decide)) (mfT_same (lt_size 10 c9.size rfl (by decide)) (by rfl))⟩))⟩
    refine fun β L c9 hA=>⟨_,rfl,SG.of_SO (SO.stHead (id:=70) (es:=(List.replicate (sizeL l) (0:Rat)).map dQ) (pG_new rfl (hA 8 (by decide))) (pG_new rfl (hA 7 (by decide))) (pG_M (mfT_yes (hA 7 (by decide)) rfl rfl)) ((pG_M (mfT_skip (show (57:Nat)≠70 by decide) rfl)):_=some (.row b57 (sizeL l) T.Rats 1 (HF (sizeL l) s bp2 i))) sz.Rats (by rw [HF_len];omega) (by rw [lm9,List.length_replicate];omega) fun hc=>?_)⟩
    refine AW.to [(0,.d (dAus l)),(2,.ptr 2 b2 0),(3,.ptr 3 b3 0),(6,.d (dI (sizeL l))),(7,.d (dI s)),(49,.d (dI (l.getD 0 default).sym)),(50,.d (dI s)),(59,.d (dI (sizeL l))),(60,.d (dI i))] [(2,.box b2 T.Machine [.mt,.mt,.mt]),(3,.box b3 T.Machine [.osl 32 p1 (iniT l l.length).length c1,.osl 41 p2 (finT l l.length).length c2,.osl 18 b18 (l.getD 0 default).sym (l.getD 0 default).sym]),(18,.row b18 (l.getD 0 default).sym T.Ratss 1 (OF (l.getD 0 default).sym (sizeL l) (updN bq s b57) (s+1))),(32,.row p1 c1 T.Rat 3 ((iniT l l.length).map dQ)),(41,.row p2 c2 T.Rat 3 ((finT l l.length).map dQ)),(2000,.pool T.Rats 1 (QQ s (sizeL l) bq bp2)),(2001,.pool T.Rat 3 (PP (s*(sizeL l)+i) (sizeL l) bp2 (fun _ _ _=>0))),(57,.row b57 (sizeL l) T.Rats 1 (HF (sizeL l) s (updN bp2 (s*(sizeL l)+i) (β 70).1) (i+1))),(70,.row (β 70).1 (sizeL l) T.Rat 3 ((List.replicate (sizeL l) (0:Rat)).map dQ))] (.cons (vle_of_eq (sto_rho ((pG_old rfl).trans rfl))) (.cons (vle_of_eq (sto_rho ((pG_old rfl).trans rfl))) (.cons (vle_of_eq (sto_rho ((pG_old rfl).trans rfl))) (.cons (vle_of_eq (sto_rho ((pG_old rfl).trans rfl))) (.cons (vle_of_eq (sto_rho ((pG_old rfl).trans rfl))) (.cons (vle_of_eq (sto_rho ((pG_old rfl).trans rfl))) (.cons (vle_of_eq (sto_rho ((pG_old rfl).trans rfl))) (.cons (vle_of_eq (sto_rho ((pG_old rfl).trans rfl))) (.cons (vle_of_eq (sto_rho ((pG_old rfl).trans rfl))) (.nil)))))))))) (.cons (sto_old (show (2:Nat)≠57 by decide) (pG_M (mfT_skip (show (2:Nat)≠70 by decide) rfl))) (.cons (sto_old (show (3:Nat)≠57 by decide) (pG_M (mfT_skip (show (3:Nat)≠70 by decide) rfl))) (.cons (sto_old (show (18:Nat)≠57 by decide) (pG_M (mfT_skip (show (18:Nat)≠70 by decide) rfl))) (.cons (sto_old (show (32:Nat)≠57 by decide) (pG_M (mfT_skip (show (32:Nat)≠70 by decide) rfl))) (.cons (sto_old (show (41:Nat)≠57 by decide) (pG_M (mfT_skip (show (41:Nat)≠70 by decide) rfl))) (.cons (sto_old (show (2000:Nat)≠57 by decide) (pG_M (mfT_skip (show (2000:Nat)≠70 by decide) rfl))) (.cons (sto_old (show (2001:Nat)≠57 by decide) (pG_M (mfT_skip (show (2001:Nat)≠70 by decide) rfl))) (.cons (sto_new.trans (congrArg some (congrArg (Blk.row b57 (sizeL l) T.Rats 1) (HF_set (by omega))))) (.cons (sto_old (show (70:Nat)≠57 by decide) (pG_M (mfT_yes (hA 7 (by decide)) rfl rfl))) (.nil)))))))))) ?_
    generalize (β 70).1=b70
    refine AW.giveEnd 70 2001 rfl rfl (by rw [lm9,List.length_replicate]) (AW.rg hE rfl (add_i64 rfl rfl (by omega) (mvD rfl (OL.nil ?_))))
    exact AW.again (x:=(i,bp2)) (i+1,updN bp2 (s*(sizeL l)+i) b70) (by (simp only [];omega)) ⟨by omega,Knows.app .rq8 .rq1,Owns.app (.cons rfl (.cons rfl (.cons rfl (.cons rfl (.cons rfl .nil))))) (.cons rfl (.cons (by rw [QQ_upd (Nat.le_add_right _ _)];rfl) (.cons (by rw [← Nat.add_assoc,← PP_snoc];rfl) .nil)))⟩
   ·try simp only [dx9] at h61
    refine AW.exit ?_
    obtain rfl:i=(sizeL l):=by omega
    refine AW.giveEnd 57 2000 rfl rfl HF_len.symm ?_
    rw [HF_all,← QQ_bq (b:=b57) (Nat.le_refl s),QQ_snoc]
    refine AW.rg hE rfl (add_i64 rfl rfl (by omega) (mvD rfl (OL.nil ?_)))
    exact AW.again (x:=(s,bq,bp)) (s+1,updN bq s b57,bp2) (by (simp only [];omega)) ⟨by omega,Knows.app .rq5 .rq1,Owns.app (.cons rfl (.cons rfl (.cons rfl (.cons rfl .nil)))) (.cons rfl (.cons rfl (.cons (by rw [Nat.succ_mul];rfl) .nil)))⟩
  ·try simp only [dx9] at h51
   refine AW.exit (AW.seq ?_)
   obtain rfl:s=(l.getD 0 default).sym:=by omega
   refine AW.rg hE rfl (asD rfl (OL.nil (AW.seq (AW.sg hE rfl (mvD rfl (lnL sl.Autos rfl rfl (mvD rfl ?_)))))))
   refine OL.nil (AW.block ?_)
   refine AW.whileK (α:=Nat) [(2,_),(3,_),(74,_),(75,_)] [(2,_),(3,_),(18,_),(32,_),(41,_),(2000,_)] (fun k=>[(9,.d (dI (sizeL (l.take k)))),(76,.d (dI k))]) (fun k=>[(2001,.pool T.Rat 3 (PP ((l.getD 0 default).sym*(sizeL l)) (sizeL l) bp (cO l k [])))]) (fun k=>k≤l.length) (fun k=>l.length-k) 0 (.cons (knP rfl) (.cons (knP rfl) (.cons (knD rfl) (.cons (knD rfl) .nil)))) (.cons (owB rfl) (.cons (owB rfl) (.cons (owR rfl) (.cons (owR rfl) (.cons (owR rfl) (.cons (owL rfl) .nil)))))) ⟨Nat.zero_le _,.rq2,.cons (by rw [show cO l 0 []=(fun _ _ _=>0) from by funext s i j;rw [cO_start];rfl];rfl) .nil⟩ ?_
   intro k h4
   have h4:k≤l.length:=h4
   have hsl:=sizeL_le l k
   refine AW.sg hE rfl (c_lss rfl rfl rfl (OL.nil (AW.seq (AW.cond rfl (fun h77=>?_) (fun h77=>?_)))))
   ·try simp only [dx9] at h77
    refine AW.skip (AW.seq (AW.block (AW.seq ?_)))
    have hk:k<l.length:=by omega
    have fk:=hl _ (getD_mem hk default)
    have hsk:=sizeL_snoc hk
    have hsl2:=sizeL_le l (k+1)
    have hst:=fk.st
    have htl:=tidyA_len (l.getD k default).arcs
    have hna:=fk.sz.num
    refine AW.rg hE rfl (ixLn sl.Autos default rfl rfl (by omega) rfl rfl (ldRA ag.Auto rfl (vs:=[_,_,_,_,_,_,_]) rfl (nb9 rfl) (al z.Auto rfl fun b11=>(sto sz.Auto rfl rfl rfl rfl rfl (nb9 rfl) (cells2:=[_,_,_,_,_,_,_]) rfl (OL.nil (AW.seq (AW.sg hE rfl ?_)))))))
    refine faP fd.Auto_0 rfl rfl (ldPA ag.Ring rfl rfl (vs:=[_,_]) rfl (nb9 rfl) (faP fd.Auto_5 rfl rfl (ldPC ce.Arcs rfl rfl rfl (clv rfl vL (TidyR (l:=(l.getD k default).arcs) hna fk.sz.arc) (lnL sl.Arcs rfl rfl (mvD rfl (OL.nil ?_)))))))
    refine AW.block ?_
    refine AW.whileK (α:=Nat) [(2,_),(3,_),(9,_),(11,_),(74,_),(75,_),(76,_),(84,_),(85,_)] [(2,_),(3,_),(11,_),(18,_),(32,_),(41,_),(2000,_)] (fun p=>[(86,.d (dI p))]) (fun p=>[(2001,.pool T.Rat 3 (PP ((l.getD 0 default).sym*(sizeL l)) (sizeL l) bp (cO l k ((tidyA (l.getD k default).arcs).take p))))]) (fun p=>p≤(tidyA (l.getD k default).arcs).length) (fun p=>(tidyA (l.getD k default).arcs).length-p) 0 (.cons (knP rfl) (.cons (knP rfl) (.cons (knD rfl) (.cons (knP rfl) (.cons (knD rfl) (.cons (knD rfl) (.cons (knD rfl) (.cons (knD rfl) (.cons (knD rfl) .nil))))))))) (.cons (owB rfl) (.cons (owB rfl) (.cons (owB rfl) (.cons (owR rfl) (.cons (owR rfl) (.cons (owR rfl) (.cons (owL rfl) .nil))))))) ⟨Nat.zero_le _,.rq1,.cons rfl .nil⟩ ?_
    intro p h5
    have h5:p≤(tidyA (l.getD k default).arcs).length:=h5
    refine AW.sg hE rfl (c_lss rfl rfl rfl (OL.nil (AW.seq (AW.cond rfl (fun h87=>?_) (fun h87=>?_)))))
    ·try simp only [dx9] at h87
     refine AW.skip (AW.seq (AW.block (AW.seq ?_)))
     have hp:p<(tidyA (l.getD k default).arcs).length:=by omega
     obtain ⟨xf,xt,xl,xs⟩:=PlaceA.tidy (p:=fun f l9 t=>f<(l.getD k default).st∧t<(l.getD k default).st∧1≤l9∧l9≤(l.getD k default).sym) fk.ok.arc ((tidyA (l.getD k default).arcs).getD p default) (getD_mem hp default)
     have hsy:=fk.sym
     refine AW.rg hE rfl (ixLn sl.Arcs default rfl rfl (by omega) rfl rfl (ldRA ag.Arc rfl (vs:=[_,_,_,_,_,_,_,_,_,_,_]) rfl (nb9 rfl) (al z.Arc rfl fun b13=>(sto sz.Arc rfl rfl rfl rfl rfl (nb9 rfl) (cells2:=[_,_,_,_,_,_,_,_,_,_,_]) rfl (OL.nil ?_)))))
     have hs:((tidyA (l.getD k default).arcs).getD p default).l-1<(l.getD 0 default).sym:=by omega
     have hi:(sizeL (l.take k))+((tidyA (l.getD k default).arcs).getD p default).f<(sizeL l):=by omega
     have hj:(sizeL (l.take k))+((tidyA (l.getD k default).arcs).getD p default).t<(sizeL l):=by omega
     have hcs:=fun s9 i9 j9=>cO_step (l:=l) (k:=k) (s:=s9) (i:=i9) (j:=j9) (tidy_asc (l.getD k default).arcs) hp xl
     have hel18:(OF (l.getD 0 default).sym (sizeL l) bq (l.getD 0 default).sym)[((tidyA (l.getD k default).arcs).getD p default).l-1]? = some (hdC (bq (((tidyA (l.getD k default).arcs).getD p default).l-1)) (sizeL l) (sizeL l)):=OF_at hs hs
     have helH:(HR (sizeL l) (((tidyA (l.getD k default).arcs).getD p default).l-1) bp)[(sizeL (l.take k))+((tidyA (l.getD k default).arcs).getD p default).f]? = some (hdC (bp ((((tidyA (l.getD k default).arcs).getD p default).l-1)*(sizeL l)+((sizeL (l.take k))+((tidyA (l.getD k default).arcs).getD p default).f))) (sizeL l) (sizeL l)):=HR_at hi
     have hqq:(QQ (l.getD 0 default).sym (sizeL l) bq bp)[((tidyA (l.getD k default).arcs).getD p default).l-1]? = some (bq (((tidyA (l.getD k default).arcs).getD p default).l-1),HR (sizeL l) (((tidyA (l.getD k default).arcs).getD p default).l-1) bp):=QQ_at hs
     have hpp:(PP ((l.getD 0 default).sym*(sizeL l)) (sizeL l) bp (cO l k ((tidyA (l.getD k default).arcs).take p)))[((((tidyA (l.getD k default).arcs).getD p default).l-1)*(sizeL l)+((sizeL (l.take k))+((tidyA (l.getD k default).arcs).getD p default).f))]? = some (bp ((((tidyA (l.getD k default).arcs).getD p default).l-1)*(sizeL l)+((sizeL (l.take k))+((tidyA (l.getD k default).arcs).getD p default).f)),rowZ (sizeL l) (cO l k ((tidyA (l.getD k default).arcs).take p) (((tidyA (l.getD k default).arcs).getD p default).l-1) ((sizeL (l.take k))+((tidyA (l.getD k default).arcs).getD p default).f))):=PP_at hs hi
     have hil:=idx_lt hs hi
     have hol:(OF (l.getD 0 default).sym (sizeL l) bq (l.getD 0 default).sym).length=(l.getD 0 default).sym:=OF_len
     refine AW.takeN 2003 2000 (((tidyA (l.getD k default).arcs).getD p default).l-1) (sizeL l) rfl rfl hqq HR_len (AW.takeN 2004 2001 ((((tidyA (l.getD k default).arcs).getD p default).l-1)*(sizeL l)+((sizeL (l.take k))+((tidyA (l.getD k default).arcs).getD p default).f)) (sizeL l) rfl rfl hpp rowZ_len (AW.dg 1 [0,1,2,3,4,5,6,7,8,9,10,11,12,13,14,15,16,17,18,19,20,21] order_free hE rfl (by kernel_rfl) (OI.of_OL (os:=[_,_,_,_,_,_,_,_,_,_,_,_,_,_,_,_,_,_,_,_,_,_]) rfl ?_)))
     refine faP fd.Machine_2 rfl rfl (ldPC ce.Ratsss rfl rfl rfl (faP fd.Arc_1 rfl rfl (ldPC ce.int rfl rfl rfl (bo rfl rfl (bin_sub (c:=((((tidyA (l.getD k default).arcs).getD p default).l-1:Nat):Int)) (by omega) (wrap_i64 (by omega))) (ixOn sl.Ratsss rfl rfl hs (ldLe (.rowC (by decide) rfl rfl hel18 ce.Ratss rfl) (vle_head 2003 (Nat.le_refl _)) (mvD rfl ?_)))))))
     refine faP fd.Arc_0 rfl rfl (ldPC ce.int rfl rfl rfl (bo rfl rfl (bin_add (c:=(((sizeL (l.take k))+((tidyA (l.getD k default).arcs).getD p default).f:Nat):Int)) (by omega) (wrap_i64 (by omega))) (ixOn sl.Ratss rfl rfl hi (ldLe (.rowC (by decide) rfl rfl helH ce.Rats rfl) (vle_head 2004 (Nat.le_refl _)) (mvD rfl (faP fd.Arc_2 rfl rfl (ldPC ce.int rfl rfl rfl ?_)))))))
     refine bo rfl rfl (bin_add (c:=(((sizeL (l.take k))+((tidyA (l.getD k default).arcs).getD p default).t:Nat):Int)) (by omega) (wrap_i64 (by omega))) (faP fd.Arc_3 rfl rfl (faP fd.Weight_0 rfl rfl (ldPA ag.Rat rfl rfl (vs:=[_,_,_]) rfl (nb9 rfl) (ixOn sl.Rats rfl rfl hj ?_))))
     refine stE sz.Rat rfl (d:=dQ ((tidyA (l.getD k default).arcs).getD p default).q) vd_q rfl rfl (by rw [rowZ_len];exact hj) (es2:=rowZ (sizeL l) (cO l k ((tidyA (l.getD k default).arcs).take (p+1)) (((tidyA (l.getD k default).arcs).getD p default).l-1) ((sizeL (l.take k))+((tidyA (l.getD k default).arcs).getD p default).f))) (rowZ_set hj fun t=>by rw [hcs];by_cases ht:t=(sizeL (l.take k))+((tidyA (l.getD k default).arcs).getD p default).t;rw [if_pos ⟨rfl,rfl,ht⟩,if_pos ht];rw [if_neg (fun e=>ht e.2.2),if_neg ht]) ?_
     refine OL.nil ?_
     refine AW.back 2004 2001 ((((tidyA (l.getD k default).arcs).getD p default).l-1)*(sizeL l)+((sizeL (l.take k))+((tidyA (l.getD k default).arcs).getD p default).f)) (PP ((l.getD 0 default).sym*(sizeL l)) (sizeL l) bp (cO l k ((tidyA (l.getD k default).arcs).take p))) rfl rfl rfl (by rw [PP_len];exact hil) rowZ_len.symm (rs2:=PP ((l.getD 0 default).sym*(sizeL l)) (sizeL l) bp (cO l k ((tidyA (l.getD k default).arcs).take (p+1)))) (PP_set hs hi fun t9 j9 hne=>by funext z9;rw [hcs,if_neg (fun e=>hne ⟨e.1,e.2.1⟩)]) ?_
     refine AW.back 2003 2000 (((tidyA (l.getD k default).arcs).getD p default).l-1) (QQ (l.getD 0 default).sym (sizeL l) bq bp) rfl rfl rfl (by rw [QQ_len];exact hs) HR_len.symm (rs2:=QQ (l.getD 0 default).sym (sizeL l) bq bp) (set_same9 hqq) (AW.rg hE rfl (add_i64 rfl rfl (by omega) (mvD rfl (OL.nil ?_))))
     exact AW.again (x:=p) (p+1) (by omega) ⟨by omega,Knows.app .rq9 .rq1,Owns.app (.cons rfl (.cons rfl (.cons rfl (.cons rfl (.cons rfl (.cons rfl (.cons rfl .nil))))))) (.cons rfl .nil)⟩
    ·try simp only [dx9] at h87
     refine AW.exit ?_
     obtain rfl:p=(tidyA (l.getD k default).arcs).length:=by omega
     rw [List.take_length]
     refine AW.rg hE rfl (mvD rfl (faP fd.Auto_2 rfl rfl (ldPC ce.int rfl rfl rfl (add_i64 rfl rfl (by omega) (asD rfl (OL.nil (AW.rg hE rfl ?_)))))))
     refine add_i64 rfl rfl (by omega) (mvD rfl (OL.nil ?_))
     exact AW.again (x:=k) (k+1) (by omega) ⟨by omega,Knows.app .rq4 (.cons (VLe.int (by rw [hsk];omega)) .rq1),Owns.app (.cons rfl (.cons rfl (.cons rfl (.cons rfl (.cons rfl (.cons rfl .nil)))))) (.cons (by rw [show cO l (k+1) []=cO l k (tidyA (l.getD k default).arcs) from by funext s i j;rw [cO_start,cO_done hk fk.ok]];rfl) .nil)⟩
   ·try simp only [dx9] at h77
    refine AW.exit (AW.seq ?_)
    obtain rfl:k=l.length:=by omega
    rw [show cO l l.length []=entL l from by funext s i j;rw [cO_start,List.take_length],LL_q (c:=entL l)]
    have hi9:iniT l l.length=(machL l).ini:=by unfold iniT;rw [List.take_length];rfl
    have hf9:finT l l.length=(machL l).fin:=by unfold finT;rw [List.take_length];rfl
    have hms:(machL l).mats.length=(l.getD 0 default).sym:=machL_k
    refine AW.freezePool2 2000 2001 rfl rfl LL_in (by decide) ?_
    rw [LL_o (bp:=bp) (c:=entL l)]
    refine AW.freezePool 18 2000 rfl rfl (by decide) ?_
    rw [LL_m,hi9,hf9]
    rw [hi9] at hil
    rw [hf9] at hfl
    refine AW.freeze 18 rfl (AW.boxW 3 [.osl 32 p1 (machL l).ini.length c1,.osl 41 p2 (machL l).fin.length c2,.d (.sl ((machL l).mats.map dQss))] rfl (.cons vR (.cons vR (.cons (frz_osl (by rw [lm9];exact hms.symm) rfl) .nil))) ?_)
    refine AW.freeze 32 rfl (AW.boxW 3 [.d (dQs (machL l).ini),.osl 41 p2 (machL l).fin.length c2,.d (.sl ((machL l).mats.map dQss))] rfl (.cons (frz_osl (by rw [lm9]) rfl) .rq2) ?_)
    refine AW.freeze 41 rfl (AW.boxW 3 [.d (dQs (machL l).ini),.d (dQs (machL l).fin),.d (.sl ((machL l).mats.map dQss))] rfl (.cons vR (.cons (frz_osl (by rw [lm9]) rfl) .rq1)) ?_)
    refine AW.to [(2,.ptr 2 b2 0),(3,.ptr 3 b3 0)] [(2,.box b2 T.Machine [.mt,.mt,.mt]),(3,.box b3 T.Machine [.d (dQs (machL l).ini),.d (dQs (machL l).fin),.d (.sl ((machL l).mats.map dQss))])] (.cons VLe.ptr (.cons VLe.ptr .nil)) (.cons rfl (.cons rfl .nil)) ?_
    exact AW.rg hE rfl (ldPA ag.Machine rfl rfl (vs:=[_,_,_]) rfl (nb9 rfl) (sto sz.Machine rfl rfl rfl rfl rfl (nb9 rfl) (cells2:=[_,_,_]) rfl (OL.nil (AW.ret (RetQ.r ⟨_,.cellA rfl rfl ag.Machine (nb9 rfl) .nil,.ag (.cons (.le vR) (.cons (.le vR) (.cons (.le vR) .nil)))⟩)))))
end Go.Proofs.YtmcoihfkniccdaaGreatDoor
