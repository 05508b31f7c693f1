/-
  M, chapter 24: first bases of the rows of a table, by the table alone.
-/
import Derived.Test.YtmcoihfkniccdaaGreatDoorKWkAC
import Derived.Test.YtmcoihfkniccdaaGreatDoorKWkO
set_option linter.unusedVariables false
set_option linter.unusedSimpArgs false
namespace Go.Proofs.YtmcoihfkniccdaaGreatDoor
open Go Go.AL
theorem bas_facts {m:Mach}{B:Nat}{y:KSt}(h:InvS m B [] y)(n6:m.n≤6):(basK m).length≤6∧(∀ u,u ∈ basK m→u.length≤5)∧∀ u,u ∈ basK m→InW m.k u:=by
 rw [← h.bas]
 exact ⟨Nat.le_trans h.b.few.2 n6,h.b.five n6,h.inW⟩
theorem view_sz16 {m:Mach}{e:Nat}{L:List (List Int)}{u:List Int}(z6:m.Sz e)(hu:u.length≤5)(hL:∀ l,l ∈ L→l.length≤5)(j:Nat):sz ((viewM m L u).getD j 0)≤16777215:=Nat.le_trans (view_sz z6 hu hL j) (by decide)
structure Au.Rk (a:Au) (s:Nat):Prop where
 take:Au.Take a s
 wt:Au.Wt a
 s4:s≤4
 rz:(revOf a).Sz 134217728 20
 fa:a.Fw
 ff:(formOf a).Fw
 fr:(formOf (revOf a)).Fw
theorem nextW_len {k:Nat}:∀ K:List (List Int),(nextW k K).length=1+K.length*k
 | []=>by show 1=1+0*k;omega
 | w::K=>by
  have h:=nextW_len (k:=k) K
  unfold nextW at h ⊢
  rw [List.length_cons] at h ⊢
  rw [List.flatMap_cons,la9,kidsW_len,List.length_cons,Nat.succ_mul]
  omega
theorem nextW_facts {k n:Nat}{K:List (List Int)}(h1:∀ u,u ∈ K→u.length≤n)(h2:∀ u,u ∈ K→InW k u):∀ w,w ∈ nextW k K→w.length≤n+1∧InW k w:=fun w hw=>by
 rcases List.mem_cons.1 hw with rfl|hw
 ·exact ⟨Nat.zero_le _,fun x hx=>by cases hx⟩
 ·obtain ⟨z,hz,hw⟩:=List.mem_flatMap.1 hw
  refine ⟨?_,kids_inW (h2 z hz) w hw⟩
  obtain ⟨s,_,rfl⟩:=mm9 hw
  rw [la9]
  have:=h1 z hz
  simp only [ls9]
  omega
theorem dot_szB {v u:List Rat}{n:Nat}(zv:∀ i,sz (v.getD i 0)≤16777215)(zu:∀ i,sz (u.getD i 0)≤16777215)(hn:n≤64):sz (dotF v u n)≤2147483648:=by
 have h:sz (dotF v u n)≤1+n*(33554430+1):=sumN_szL n fun j _=>by
  have:=sz_mul (v.getD j 0) (u.getD j 0)
  have:=zv j
  have:=zu j
  omega
 have:=Nat.mul_le_mul_right (33554430+1) hn
 omega
set_option maxRecDepth 8000 in
set_option maxHeartbeats 1600000 in
theorem r23zero {a:Au}(f:a.Fw):FSpec P F.ref23_zero [vAu a] (.tup [.d (dB (zeA a).isNone),.d (ints ((zeA a).getD []))]):=by
 obtain ⟨ok,fl,z6,hn⟩:=f.mach
 have n6:=z6.n6
 have hst1:=f.st1
 have hst:=f.few.st
 have s4:=f.s4
 obtain ⟨y1,hI1,e1⟩:=f.inv
 obtain ⟨hk6,hk5,hkw⟩:=bas_facts hI1 n6
 have hkk:(machL [a]).k=a.sym:=k_one
 rw [hkk] at hkw
 have hnn:∀ {i:Nat},i<(nextW a.sym (basK (machL [a]))).length→wtM (machL [a]) ((nextW a.sym (basK (machL [a]))).getD i [])≠0→(∀ l,l<i→wtM (machL [a]) ((nextW a.sym (basK (machL [a]))).getD l [])=0)→zeA a=some ((nextW a.sym (basK (machL [a]))).getD i []):=fun hi h0 hb=>by
  have h:=first_found ok hI1 (i:=_) (by rw [hkk,e1];exact hi) (by rw [hkk,e1];exact h0) (by rw [hkk,e1];exact hb)
  rw [hkk,e1] at h;exact h
 have hnz:(∀ w,w ∈ nextW a.sym (basK (machL [a]))→wtM (machL [a]) w=0)→zeA a=none:=fun h=>first_next ok hI1 (by rw [hkk,e1];exact h)
 generalize hKe:basK (machL [a])=K at hk6 hk5 hkw hnn hnz
 have hnf:=nextW_facts (k:=a.sym) hk5 hkw
 have hnl:=nextW_len (k:=a.sym) K
 have hnm:=Nat.mul_le_mul hk6 s4
 refine FSpec.intro fn.ref23_zero (by rfl) (by rfl) (nb9 (by rfl)) fun E hE=>(AW.sg hE rfl (bxA rfl rfl fun b1=>(asD rfl (asM rfl (OL.nil (AW.seq (AW.sg hE rfl ?_)))))))
 refine faP fd.Auto_2 rfl rfl (ldPC ce.int rfl rfl rfl (c_eql rfl rfl (c:=false) (by exact decide_eq_false (by omega)) (OL.nil (cnF rfl ?_))))
 refine AW.skip (AW.sg hE rfl (ldPA ag.Auto rfl rfl (vs:=[_,_,_,_,_,_,_]) rfl (nb9 rfl) (clv rfl vL (r23space f) ?_)))
 rw [hKe]
 refine mvT rfl (ex rfl rfl (ex rfl rfl (asD rfl (asD rfl (OL.nil (AW.sg hE rfl (lt1O (y:=ints []) sl.intss VC.mt.vd rfl (by decide) rfl fun b18=>?_)))))))
 refine asO rfl (OL.nil (AW.seq (AW.sg hE rfl (asD rfl (OL.nil (AW.block (AW.rename 18 40 rfl ?_)))))))
 refine AW.whileK (α:=Nat × Nat × Nat) [(1,_),(2,_),(3,_),(4,_)] [(1,_)] (fun (i,bq,cq)=>[(6,.osl 40 bq (nextW a.sym (K.take i)).length cq),(7,.d (dI i))]) (fun (i,bq,cq)=>[(40,.row bq cq T.ints 1 ((nextW a.sym (K.take i)).map ints))]) (fun (i,bq,cq)=>i≤K.length) (fun (i,bq,cq)=>K.length-i) (0,b18,1) (.cons (knP rfl) (.cons (knD rfl) (.cons (knM rfl) (.cons (knD rfl) .nil)))) (.cons (owB rfl) .nil) ⟨Nat.zero_le _,.cons VLe.osl .rq1,.cons rfl .nil⟩ ?_
 rintro ⟨i,bq,cq⟩ h1
 have h1:i≤K.length:=h1
 have hwl:=nextW_len (k:=a.sym) (K.take i)
 have hwm:=Nat.mul_le_mul (show (K.take i).length≤6 by rw [List.length_take];omega) s4
 refine AW.seq (AW.sg hE rfl (mvD rfl (mvD rfl (lnL sl.intss rfl rfl (c_lss rfl rfl rfl (OL.nil (AW.cond rfl (fun h22=>?_) (fun h22=>?_))))))))
 ·try simp only [dx9] at h22
  refine AW.skip (AW.seq (AW.block (AW.sg hE rfl (asD rfl (OL.nil (AW.block ?_))))))
  refine AW.whileK (α:=Nat × Nat × Nat) [(1,_),(2,_),(3,_),(4,_),(7,_)] [(1,_)] (fun (s,bp,cp)=>[(6,.osl 40 bp ((nextW a.sym (K.take i))++kidsW s (K.getD i [])).length cp),(8,.d (dI ((s:Int)+1)))]) (fun (s,bp,cp)=>[(40,.row bp cp T.ints 1 (((nextW a.sym (K.take i))++kidsW s (K.getD i [])).map ints))]) (fun (s,bp,cp)=>s≤a.sym) (fun (s,bp,cp)=>a.sym-s) (0,bq,cq) (.cons (knP rfl) (.cons (knD rfl) (.cons (knM rfl) (.cons (knD rfl) (.cons (knD rfl) .nil))))) (.cons (owB rfl) .nil) ⟨Nat.zero_le _,.cons (by rw [show kidsW 0 (K.getD i [])=[] from rfl,List.append_nil];exact VLe.refl _) (.cons (VLe.int (by omega)) .nil),.cons (by rw [show kidsW 0 (K.getD i [])=[] from rfl,List.append_nil];rfl) .nil⟩ ?_
  rintro ⟨s,bp,cp⟩ h2
  have h2:s≤a.sym:=h2
  have hkn:=kidsW_len s (K.getD i [])
  have hla:((nextW a.sym (K.take i))++kidsW s (K.getD i [])).length=(nextW a.sym (K.take i)).length+s:=by rw [la9,hkn]
  refine AW.seq (AW.sg hE rfl (mvD rfl (faP fd.Auto_1 rfl rfl (ldPC ce.int rfl rfl rfl (c_leq rfl rfl rfl (OL.nil (AW.cond rfl (fun h28=>?_) (fun h28=>?_))))))))
  ·try simp only [dx9] at h28
   refine AW.skip (AW.seq (AW.block ?_))
   have hk5i:=hk5 _ (getD_mem (show i<K.length by omega) [])
   refine AW.rg hE rfl (mvO rfl (mvD rfl (mvD rfl (ixLn sl.intss [] rfl rfl (by omega) rfl rfl (ldRC ce.ints rfl (mvD rfl (lt1 (y:=dI ((s:Int)+1)) sl.ints (VC.d _).vd rfl (by decide) ?_)))))))
   refine clv rfl vL (r5Join (w:=(K.getD i [])) (u:=[(s:Int)+1]) (by omega) (nb9 rfl)) (lt1 (y:=ints ((K.getD i [])++[(s:Int)+1])) sl.intss (VC.d _).vd rfl (by decide) ?_)
   refine apO sl.intss rfl rfl rfl (lm9 ..).symm (VC.d _) (fun y hy=>by rw [ms9 hy];rfl) (by simp only [ls9];omega) (by simp only [ls9];omega) (.inr rfl) (ys:=((nextW a.sym (K.take i))++kidsW (s+1) (K.getD i [])).map ints) (by rw [kidsW_succ,← List.append_assoc];exact (List.map_append (f:=ints) (l₁:=(nextW a.sym (K.take i))++kidsW s (K.getD i [])) (l₂:=[((K.getD i [])++[(s:Int)+1])])).symm) (n2:=((nextW a.sym (K.take i))++kidsW (s+1) (K.getD i [])).length) (by rw [kidsW_succ,← List.append_assoc];simp only [la9,ls9]) fun b40 c40=>?_
   refine asO rfl (OL.nil (AW.rg hE rfl (mvD rfl (add_i64 rfl rfl (by omega) (asD rfl (OL.nil ?_))))))
   exact AW.again (x:=(s,bp,cp)) (s+1,b40,c40) (by (simp only [];omega)) ⟨by omega,Knows.app .rq5 (.cons vR (.cons (VLe.int (by omega)) .nil)),Owns.app (.cons rfl .nil) (.cons rfl .nil)⟩
  ·try simp only [dx9] at h28
   refine AW.exit ?_
   obtain rfl:s=a.sym:=by omega
   refine AW.rg hE rfl (mvD rfl (add_i64 rfl rfl (by omega) (asD rfl (OL.nil ?_))))
   exact AW.again (x:=(i,bq,cq)) (i+1,bp,cp) (by (simp only [];omega)) ⟨by omega,Knows.app .rq4 (.cons (by rw [take_snoc9 [] (by omega),nextW_snoc];exact VLe.refl _) .rq1),Owns.app (.cons rfl .nil) (.cons (by rw [take_snoc9 [] (by omega),nextW_snoc];rfl) .nil)⟩
 ·try simp only [dx9] at h22
  refine AW.exit (AW.seq (AW.seq ?_))
  obtain rfl:i=K.length:=by omega
  dsimp only
  rw [List.take_length]
  refine AW.rg hE rfl (asD rfl (OL.nil (AW.block ?_)))
  refine AW.whileK (α:=Nat) [(1,_),(6,_)] [(1,_),(40,_)] (fun i=>[(9,.d (dI i))]) (fun i=>[]) (fun i=>i≤(nextW a.sym K).length∧∀ l,l<i→wtM (machL [a]) ((nextW a.sym K).getD l [])=0) (fun i=>(nextW a.sym K).length-i) 0 (.cons (knP rfl) (.cons (knO rfl) .nil)) (.cons (owB rfl) (.cons (owR rfl) .nil)) ⟨⟨Nat.zero_le _,fun l hl=>by omega⟩,.rq1,.nil⟩ ?_
  rintro i ⟨h3,h4⟩
  have h3:i≤(nextW a.sym K).length:=h3
  have h4:∀ l,l<i→wtM (machL [a]) ((nextW a.sym K).getD l [])=0:=h4
  refine AW.seq (AW.sg hE rfl (mvD rfl (mvO rfl (lnO sl.intss rfl rfl (c_lss rfl rfl rfl (OL.nil (AW.cond rfl (fun h44=>?_) (fun h44=>?_))))))))
  ·try simp only [dx9] at h44
   refine AW.skip (AW.seq (AW.block (AW.seq ?_)))
   have hi:i<(nextW a.sym K).length:=by omega
   obtain ⟨hq6,hqw⟩:=hnf _ (getD_mem hi [])
   have hser:dotF (fwA a ((nextW a.sym K).getD i [])) a.fin a.st=wtM (machL [a]) ((nextW a.sym K).getD i []):=dotF_ser f.ok hqw
   refine AW.dg 1 [0,1,2,3,4,5,6,7,8,9,10,11] order_free hE rfl (by kernel_rfl) (OI.of_OL (os:=[_,_,_,_,_,_,_,_,_,_,_,_]) rfl ?_)
   refine ldPA ag.Auto rfl rfl (vs:=[_,_,_,_,_,_,_]) rfl (nb9 rfl) (mvO rfl (mvD rfl (ixOn sl.intss rfl rfl hi (ldEL ce.ints [] (by decide) rfl rfl hi rfl (clv rfl vL (r23forward (w:=((nextW a.sym K).getD i [])) f hqw hq6) (faP fd.Auto_4 rfl rfl (ldPC ce.Weights rfl rfl rfl ?_)))))))
   refine clv rfl vL (r23Numbers (l:=a.fin) (by have:=f.ok.fin;omega)) ?_
   refine clv rfl vL (r22Dot (v:=fwA a ((nextW a.sym K).getD i [])) (u:=a.fin) (n:=a.st) (fwA_len f.ok _) f.ok.fin (by omega) (fw_all f hqw hq6) (fun j=>Nat.le_trans (small_get f.few.fin (by decide) j) (by decide))) ?_
   rw [hser]
   refine clv rfl vL (ref_SignQ (x:=wtM (machL [a]) ((nextW a.sym K).getD i [])) (by rw [← hser];exact Nat.le_trans (dot_szB (fw_all f hqw hq6) (fun j=>Nat.le_trans (small_get f.few.fin (by decide) j) (by decide)) (show a.st≤64 by omega)) (by decide))) ?_
   refine c_neq rfl rfl rfl (OL.nil (AW.cond rfl (fun hd=>?_) (fun hd=>?_)))
   ·have hd:wtM (machL [a]) ((nextW a.sym K).getD i [])≠0:=fun e=>nd_t hd (sgnQ_eq.2 e)
    have hz9:=hnn hi hd h4
    refine AW.seq (AW.dg 1 [0,1,2,3,4,5] order_free hE rfl (by kernel_rfl) (OI.of_OL (os:=[_,_,_,_,_,_]) rfl ?_))
    exact mvO rfl (mvD rfl (ixOn sl.intss rfl rfl hi (ldEL ce.ints [] (by decide) rfl rfl hi rfl (asD rfl (asD rfl (OL.nil (AW.ret (RetQ.r ⟨_,.tmp rfl (.tmp rfl .nil),_,.cons (.le (by rw [hz9];exact VLe.refl _)) (.cons (.le (by rw [hz9];exact VLe.refl _)) .nil),rfl⟩))))))))
   ·have hd:wtM (machL [a]) ((nextW a.sym K).getD i [])=0:=sgnQ_eq.1 (nd_f hd)
    refine AW.skip (AW.rg hE rfl (mvD rfl (add_i64 rfl rfl (by omega) (asD rfl (OL.nil ?_)))))
    exact AW.again (x:=i) (i+1) (by omega) ⟨⟨by omega,fun l hl=>(Nat.lt_or_ge l i).elim (fun h=>h4 l h) fun h=>by obtain rfl:l=i:=(by omega);exact hd⟩,Knows.app .rq2 .rq1,Owns.app (.cons rfl (.cons rfl .nil)) (.nil)⟩
  ·try simp only [dx9] at h44
   refine AW.exit (AW.seq ?_)
   have hz9:zeA a=none:=hnz fun w hw=>by
    obtain ⟨l,hl,rfl⟩:=List.mem_iff_getElem.1 hw
    have h:=h4 l (by omega)
    rwa [gd9,ge9 hl] at h
   exact AW.rg hE rfl (asD rfl (asM rfl (OL.nil (AW.ret (RetQ.r ⟨_,.tmp rfl (.tmp rfl .nil),_,.cons (.le (by rw [hz9];exact VLe.refl _)) (.cons (.le (by rw [hz9];exact VLe.mt)) .nil),rfl⟩)))))
end Go.Proofs.YtmcoihfkniccdaaGreatDoor
namespace Go.AL
open Go Go.BigFrame
def linI (h:List Int→List Int→Rat)(K:List (List Int))(c:Nat→Rat)(l:List Int):Rat:=sumN (fun i=>c i*h (K.getD i []) l) K.length
structure FirstI (k:Nat) (h:List Int→List Int→Rat) (K:List (List Int)):Prop where
 ord:K.Pairwise fun a b=>slx a b<0
 inW:∀ u,u ∈ K→InW k u
 reach:∀ w,InW k w→∃ c:Nat→Rat,(∀ i,i<K.length→0<slx (K.getD i []) w→c i=0)∧∀ l,InW k l→h w l=linI h K c l
 ind:∀ c:Nat→Rat,(∀ l,InW k l→linI h K c l=0)→∀ i,i<K.length→c i=0
section
variable {k:Nat}{h g:List Int→List Int→Rat}{K K':List (List Int)}{c:Nat→Rat}{u w:List Int}
theorem linI_sub {d:Nat→Rat}{l:List Int}:linI h K (fun i=>c i-d i) l=linI h K c l-linI h K d l:=by
 unfold linI
 rw [sumN_congr (g:=fun i=>c i*h (K.getD i []) l + -1*(d i*h (K.getD i []) l)) fun i _=>by show (c i-d i)*_=_;rw [Rat.sub_eq_add_neg,Rat.add_mul,Rat.neg_mul,Rat.neg_mul,Rat.one_mul],sumN_add,sumN_mulL,Rat.neg_mul,Rat.one_mul,Rat.sub_eq_add_neg]
theorem linI_one {i:Nat}(hi:i<K.length)(l:List Int):linI h K (fun j=>if i=j then 1 else 0) l=h (K.getD i []) l:=by
 unfold linI
 rw [sumN_congr (g:=fun j=>if i=j then h (K.getD j []) l else 0) fun j _=>by
  show (if i=j then (1:Rat) else 0)*_=_
  split
  ·rw [Rat.one_mul]
  ·rw [Rat.zero_mul]]
 exact sumN_pick (v:=fun j=>h (K.getD j []) l) hi
theorem getD_memK {i:Nat}(hi:i<K.length):K.getD i [] ∈ K:=getD_mem hi []
theorem FirstI.only (f:FirstI k h K){d:Nat→Rat}(e:∀ l,InW k l→linI h K c l=linI h K d l){i:Nat}(hi:i<K.length):c i=d i:=by
 have:=f.ind (fun i=>c i-d i) (fun l hl=>by rw [linI_sub,e l hl,Rat.sub_self]) i hi
 exact sub0_eq this
theorem linI_swap {d:Nat→Nat→Rat}{l:List Int}(e:∀ j,j<K'.length→h (K'.getD j []) l=linI h K (d j) l):linI h K' c l=linI h K (fun i=>sumN (fun j=>c j*d j i) K'.length) l:=by
 have e1:linI h K' c l=sumN (fun j=>c j*sumN (fun i=>d j i*h (K.getD i []) l) K.length) K'.length:=sumN_congr fun j hj=>by rw [e j hj];rfl
 rw [e1]
 unfold linI
 exact (swap_sum c (fun j i=>d j i) (fun i=>h (K.getD i []) l)).symm
theorem FirstI.mem_of (f:FirstI k h K)(f':FirstI k h K')(hu:u ∈ K):u ∈ K':=by
 refine Decidable.byContradiction fun hn=>?_
 obtain ⟨i,hi,e⟩:=List.mem_iff_getElem.1 hu
 have eg:K.getD i []=u:=by rw [gd9,ge9 hi,Option.getD_some,e]
 obtain ⟨c,c0,hc⟩:=f'.reach u (f.inW u hu)
 have ex:∀ j:Nat,∃ d:Nat→Rat,j<K'.length→(∀ i,i<K.length→0<slx (K.getD i []) (K'.getD j [])→d i=0)∧∀ l,InW k l→h (K'.getD j []) l=linI h K d l:=fun j=>by
  by_cases hj:j<K'.length
  ·obtain ⟨d,hd⟩:=f.reach _ (f'.inW _ (getD_memK hj))
   exact ⟨d,fun _=>hd⟩
  ·exact ⟨fun _=>0,fun x=>absurd x hj⟩
 obtain ⟨d,hd⟩:=Classical.axiomOfChoice ex
 have h1:∀ l,InW k l→linI h K (fun j=>if i=j then 1 else 0) l=linI h K (fun i=>sumN (fun j=>c j*d j i) K'.length) l:=fun l hl=>by
  rw [linI_one hi,eg,hc l hl]
  exact linI_swap fun j hj=>(hd j hj).2 l hl
 have h2:=f.only h1 hi
 rw [if_pos rfl] at h2
 have h3:sumN (fun j=>c j*d j i) K'.length=0:=sumN_zero fun j hj=>by
  by_cases hp:0<slx (K'.getD j []) u
  ·rw [c0 j hj hp,Rat.zero_mul]
  ·have hne:K'.getD j []≠u:=fun e=>hn (e ▸ getD_memK hj)
   have hlt:slx (K'.getD j []) u<0:=slx_of_le (by omega) hne
   have hgt:0<slx (K.getD i []) (K'.getD j []):=by
    rw [eg]
    have:=slx_neg (K'.getD j []) u
    omega
   rw [(hd j hj).1 i hi hgt,Rat.mul_zero]
 rw [h3] at h2
 exact absurd h2 (by decide)
theorem FirstI.unique (f:FirstI k h K)(f':FirstI k h K'):K=K':=sorted_eq f.ord f'.ord fun _=>⟨f.mem_of f',f'.mem_of f⟩
theorem FirstI.congr (f:FirstI k h K)(e:∀ u l,InW k u→InW k l→g u l=h u l):FirstI k g K:=by
 have el:∀ (c:Nat→Rat) l,InW k l→linI g K c l=linI h K c l:=fun c l hl=>sumN_congr fun i hi=>by rw [e _ l (f.inW _ (getD_memK hi)) hl]
 refine ⟨f.ord,f.inW,fun w hw=>?_,fun c hc=>f.ind c fun l hl=>by rw [← el c l hl];exact hc l hl⟩
 obtain ⟨c,c0,hc⟩:=f.reach w hw
 exact ⟨c,c0,fun l hl=>by rw [e w l hw hl,hc l hl,el c l hl]⟩
theorem inW_rev (h:InW k w):InW k w.reverse:=fun x hx=>h x (List.mem_reverse.1 hx)
theorem FirstI.rev (f:FirstI k h K):FirstI k (fun u l=>h u l.reverse) K :=
 ⟨f.ord,f.inW,fun w hw=>by
  obtain ⟨c,c0,hc⟩:=f.reach w hw
  exact ⟨c,c0,fun l hl=>hc _ (inW_rev hl)⟩,fun c hc=>f.ind c fun l hl=>by
  have:=hc l.reverse (inW_rev hl)
  unfold linI at this ⊢
  dsimp only at this
  rw [List.reverse_reverse] at this
  exact this⟩
end
section
variable {n k:Nat}{K:List (List Int)}{f:List Int→List Rat}{u:Nat→Rat}{rs:List SRow}
theorem span_coefK {p:List Int→Bool}(h:SpanV n ((K.filter p).map f) u):∃ c:Nat→Rat,(∀ i,i<K.length→p (K.getD i [])=false→c i=0)∧∀ j,j<n→u j=sumN (fun i=>c i*(f (K.getD i [])).getD j 0) K.length:=by
 induction h with
 | zero h=>exact ⟨fun _=>0,fun _ _ _=>rfl,fun j hj=>by rw [h j hj];exact (sumN_zero fun i _=>Rat.zero_mul _).symm⟩
 | @add u u' b a hb _ h ih =>
  obtain ⟨c,c0,hc⟩:=ih
  obtain ⟨z,hz,rfl⟩:=mm9 hb
  obtain ⟨hz1,hz2⟩:=List.mem_filter.1 hz
  obtain ⟨i0,hi0,e⟩:=List.mem_iff_getElem.1 hz1
  have eg:K.getD i0 []=z:=by rw [gd9,ge9 hi0,Option.getD_some,e]
  refine ⟨fun i=>c i+if i0=i then a else 0,fun i hi hp=>?_,fun j hj=>?_⟩
  ·have hne:i0≠i:=fun x=>by rw [← x,eg,hz2] at hp;cases hp
   show c i+(if i0=i then a else 0)=0
   rw [c0 i hi hp,if_neg hne,Rat.add_zero]
  ·rw [h j hj,hc j hj]
   rw [sumN_congr (f:=fun i=>(c i+if i0=i then a else 0)*(f (K.getD i [])).getD j 0) (g:=fun i=>c i*(f (K.getD i [])).getD j 0+if i0=i then a*(f (K.getD i [])).getD j 0 else 0) fun i _=>by
    rw [Rat.add_mul]
    congr 1
    split
    ·rfl
    ·rw [Rat.zero_mul],sumN_add,sumN_pick (v:=fun i=>a*(f (K.getD i [])).getD j 0) hi0,eg]
theorem span_erase {c:Nat→Rat}{i0:Nat}(h0:c i0=0)(e:∀ j,j<n→u j=sumN (fun i=>c i*(f (K.getD i [])).getD j 0) K.length):SpanV n ((K.eraseIdx i0).map f) u:=by
 have key:∀ t,t≤K.length→SpanV n ((K.eraseIdx i0).map f) fun j=>sumN (fun i=>c i*(f (K.getD i [])).getD j 0) t:=by
  intro t
  induction t with
  | zero=>intro _;exact .zero fun _ _=>rfl
  | succ t ih =>
   intro ht
   by_cases hti:t=i0
   ·refine (ih (by omega)).congr fun j _=>?_
    rw [sumN,hti,h0,Rat.zero_mul,Rat.add_zero]
   ·refine .add (b:=f (K.getD t [])) (c t) (List.mem_map.2 ⟨K.getD t [],?_,rfl⟩) (ih (by omega)) fun j _=>by rw [sumN]
    refine List.mem_eraseIdx_iff_getElem.2 ⟨t,by omega,hti,?_⟩
    rw [gd9,ge9 (by omega)];rfl
 exact (key K.length (Nat.le_refl _)).congr e
theorem vec_ind (e:Ech n rs)(hl:rs.length=K.length)(hr:∀ r,r ∈ rs→SpanV n (K.map f) (vf r.v)){c:Nat→Rat}(h:∀ j,j<n→sumN (fun i=>c i*(f (K.getD i [])).getD j 0) K.length=0):∀ i,i<K.length→c i=0:=by
 intro i0 hi0
 refine Decidable.byContradiction fun hne=>?_
 have h1:SpanV n ((K.eraseIdx i0).map f) (vf (f (K.getD i0 []))):=by
  refine span_erase (c:=fun i=>if i0=i then 0 else -(1 / c i0)*c i) (if_pos rfl) fun j hj=>?_
  have e1:sumN (fun i=>(if i0=i then 0 else -(1 / c i0)*c i)*(f (K.getD i [])).getD j 0) K.length = -(1 / c i0)*sumN (fun i=>c i*(f (K.getD i [])).getD j 0) K.length+sumN (fun i=>if i0=i then (1 / c i0)*c i*(f (K.getD i [])).getD j 0 else 0) K.length:=by
   rw [← sumN_mulL,← sumN_add]
   refine sumN_congr fun i _=>?_
   split
   ·rw [Rat.zero_mul,Rat.neg_mul,← Rat.mul_assoc,Rat.neg_add_cancel]
   ·rw [Rat.add_zero,Rat.mul_assoc]
  rw [e1,h j hj,Rat.mul_zero,Rat.zero_add,sumN_pick (v:=fun i=>(1 / c i0)*c i*(f (K.getD i [])).getD j 0) hi0,Rat.div_mul_cancel hne,Rat.one_mul]
 have h2:∀ r,r ∈ rs→SpanV n ((K.eraseIdx i0).map f) (vf r.v):=fun r hr'=>(hr r hr').trans fun b hb=>by
  obtain ⟨z,hz,rfl⟩:=mm9 hb
  by_cases hzm:z ∈ K.eraseIdx i0
  ·exact .mem (List.mem_map.2 ⟨z,hzm,rfl⟩)
  ·obtain ⟨t,ht,rfl⟩:=List.mem_iff_getElem.1 hz
   have hti:t=i0:=Decidable.byContradiction fun hx=>hzm (List.mem_eraseIdx_iff_getElem.2 ⟨t,ht,hx,rfl⟩)
   subst hti
   have eg:K[t]=K.getD t []:=by rw [gd9,ge9 ht];rfl
   rw [eg];exact h1
 have h3:=span_len _ rs e h2
 rw [lm9,List.length_eraseIdx,if_pos hi0] at h3
 omega
end
end Go.AL
