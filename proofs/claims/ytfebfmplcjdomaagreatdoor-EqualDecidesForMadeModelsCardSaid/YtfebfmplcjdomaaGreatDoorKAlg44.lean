/-
  AL, part 44: a region whose order is open, by all of its orders, with calls that hand back owned blocks.
-/
import Derived.Test.YtfebfmplcjdomaaGreatDoorKWkAC
import Derived.Test.YtfebfmplcjdomaaGreatDoorKAlg43
set_option linter.unusedVariables false
set_option linter.unusedSimpArgs false
namespace Go.Proofs.YtfebfmplcjdomaaGreatDoor
open Go Go.AL
theorem view_snoc {m:Mach} {L:List (List Int)} {u:List Int} {i:Nat} (hi:i < L.length):(viewM m L u).take (i+1)=(viewM m L u).take i ++ [(viewM m L u).getD i 0]:=take_snoc9 0 (by rw [view_len];exact hi)
theorem bas_facts {m:Mach} {B:Nat} {y:KSt} (h:InvS m B [] y) (n6:m.n≤6):(basK m).length≤6∧(∀ u,u ∈ basK m→u.length≤5)∧∀ u,u ∈ basK m→InW m.k u:=by
 rw [← h.bas]
 exact ⟨Nat.le_trans h.b.few.2 n6,h.b.five n6,h.inW⟩
theorem selS_map {m:Mach} {L K:List (List Int)}:selS (K.map (viewM m L)) (K.map (viewM m L)).length=spR m L K:=by
 unfold selS spR
 rw [List.take_length,List.foldl_map]
theorem view_sz16 {m:Mach} {e:Nat} {L:List (List Int)} {u:List Int} (z6:m.Sz e) (hu:u.length≤5) (hL:∀ l,l ∈ L→l.length≤5) (j:Nat):sz ((viewM m L u).getD j 0)≤16777215:=Nat.le_trans (view_sz z6 hu hL j) (by decide)
structure Au.Rk (a:Au) (s:Nat):Prop where
 take:Au.Take a s
 wt:Au.Wt a
 s4:s≤4
 rz:(revOf a).Sz 1048576 20
 fa:a.Fw
 ff:(formOf a).Fw
 fr:(formOf (revOf a)).Fw
theorem Au.Rk.invT {a:Au} {s:Nat} (k:Au.Rk a s):∃ y,InvS (turnM (machL [a])) 16777215 [] y∧y.ks=basK (turnM (machL [a])):=by
 have h:=k.fr.inv
 rwa [(form_same (revOf a)).mach1,machL_rev] at h
theorem nextW_len {k:Nat}:∀ K:List (List Int),(nextW k K).length=1+K.length * k
 | []=>by show 1=1+0 * k;omega
 | w :: K=>by
  have h:=nextW_len (k:=k) K
  unfold nextW at h ⊢
  rw [List.length_cons] at h ⊢
  rw [List.flatMap_cons,List.length_append,kidsW_len,List.length_cons,Nat.succ_mul]
  omega
theorem nextW_facts {k n:Nat} {K:List (List Int)} (h1:∀ u,u ∈ K→u.length≤n) (h2:∀ u,u ∈ K→InW k u):∀ w,w ∈ nextW k K→w.length≤n+1∧InW k w:=fun w hw=>by
 rcases List.mem_cons.1 hw with rfl | hw
 ·exact ⟨Nat.zero_le _,fun x hx=>by cases hx⟩
 ·obtain ⟨z,hz,hw⟩:=List.mem_flatMap.1 hw
  refine ⟨?_,kids_inW (h2 z hz) w hw⟩
  obtain ⟨s,_,rfl⟩:=List.mem_map.1 hw
  rw [List.length_append]
  have:=h1 z hz
  simp only [List.length_singleton]
  omega
theorem dot_szB {v u:List Rat} {n:Nat} (zv:∀ i,sz (v.getD i 0)≤16777215) (zu:∀ i,sz (u.getD i 0)≤16777215) (hn:n≤64):sz (dotF v u n)≤2147483648:=by
 have h:sz (dotF v u n)≤1+n * (33554430+1):=sumN_szL n fun j _=>by
  have:=sz_mul (v.getD j 0) (u.getD j 0)
  have:=zv j
  have:=zu j
  omega
 have:=Nat.mul_le_mul_right (33554430+1) hn
 omega
set_option maxHeartbeats 800000 in
theorem r23Row {a:Au} {w:List Int} {L:List (List Int)} {s:Nat} (k:Au.Rk a s) (hw:InW a.sym w) (hl:w.length≤6) (nl:L.length≤6) (hL:∀ l,l ∈ L→l.length≤6):FSpec P F.ref23_Row [vAu a,.d (.sl ((vecs (turnM (machL [a])) L).map dQs)),.d (ints w)] (.d (dQs (viewM (machL [a]) L w))):=by
 obtain ⟨ok,fl,z6,hn⟩:=k.fa.mach
 have n6:=z6.n6
 have hvl:(viewM (machL [a]) L w).length=L.length:=view_len
 have hll:=vecs_len (m:=(turnM (machL [a]))) (L:=L)
 refine FSpec.intro fn.ref23_Row (by rfl) (by rfl) (nb9 (by rfl)) fun E hE=>(AW.sg hE rfl (bxA rfl rfl fun b3=>(asM rfl (OL.nil (AW.sg hE rfl (ldPA ag.Auto rfl rfl (vs:=[_,_,_,_,_,_,_]) rfl (nb9 rfl) (clv rfl (.cons (VLe.refl _) (.nil)) (r6Form (a:=a) k.take.fit.ok k.take.fit.sz k.take.fit.st) ?_)))))))
 refine mvD rfl (clv rfl (.cons (VLe.refl _) (.cons (VLe.refl _) (.nil))) (r23forward (a:=formOf a) (w:=w) k.ff hw hl) ?_)
 rw [fwA_form k.take.fit.ok hw,fwA_vec k.take.fit.ok hw]
 refine asD rfl (OL.nil (AW.sg hE rfl (asM rfl (OL.nil (AW.seq (AW.seq (AW.own 8 28 T.Rat 3 rfl rfl ?_)))))))
 refine AW.rg hE rfl (asD rfl (OL.nil (AW.block ?_)))
 refine AW.whileK (α:=Nat × Nat × Nat) [(1,_),(6,_),(7,_)] [] (fun (i,bq,cq)=>[(8,.osl 28 bq i cq),(9,.d (dI i))]) (fun (i,bq,cq)=>[(28,.row bq cq T.Rat 3 (((viewM (machL [a]) L w).take i).map dQ))]) (fun (i,bq,cq)=>i≤L.length) (fun (i,bq,cq)=>L.length - i) (0,0,0) (.cons (knD rfl) (.cons (knM rfl) (.cons (knD rfl) .nil))) .nil ⟨Nat.zero_le _,.rq2,.cons rfl .nil⟩ ?_
 rintro ⟨i,bq,cq⟩ h1
 have h1:i≤L.length:=h1
 refine AW.seq (AW.sg hE rfl (mvD rfl (mvD rfl (lnL sl.Ratss rfl rfl (c_lss rfl rfl rfl (OL.nil (AW.cond rfl (fun h17=>?_) (fun h17=>?_))))))))
 ·try simp only [dx9] at h17
  refine AW.skip (AW.seq (AW.block ?_))
  have hi:i < L.length:=by omega
  refine AW.rg hE rfl (mvO rfl (mvD rfl (mvD rfl (mvD rfl (ixLn sl.Ratss [] rfl rfl (by omega) rfl rfl (ldRC ce.Rats rfl ?_))))))
  rw [vecs_get hi]
  refine clv rfl (.cons (VLe.refl _) (.cons (VLe.refl _) (.nil))) (r22Dot (v:=vecM (machL [a]) w) (u:=vecM (turnM (machL [a])) (L.getD i [])) (n:=(machL [a]).n) (vecM_len ok w) (vecM_len (turn_ok ok) _) (by omega) (fun j=>Nat.le_trans (vecM_sz z6 hl j) (by decide)) (fun j=>Nat.le_trans (vecM_sz z6.turn (hL _ (getD_mem hi [])) j) (by decide))) ?_
  rw [← view_dot hi]
  refine lt1 (y:=dQ ((viewM (machL [a]) L w).getD i 0)) sl.Rats vd_q rfl (by decide) ?_
  refine apO sl.Rats rfl rfl rfl (by rw [List.length_map,List.length_take];omega) (VC.d _) (fun y hy=>by rw [List.mem_singleton.1 hy];rfl) (by simp only [List.length_singleton];omega) (by simp only [List.length_singleton];omega) (.inr rfl) (ys:=((viewM (machL [a]) L w).take (i+1)).map dQ) (by rw [view_snoc hi,List.map_append];rfl) (n2:=i+1) rfl fun b28 c28=>?_
  exact asO rfl (OL.nil (AW.rg hE rfl (mvD rfl (add_i64 rfl rfl (by omega) (asD rfl (OL.nil (AW.again (x:=(i,bq,cq)) (i+1,b28,c28) (by (simp only [];omega)) ⟨by omega,Knows.app .rq3 .rq2,.cons rfl .nil⟩)))))))
 ·try simp only [dx9] at h17
  refine AW.exit (AW.seq ?_)
  obtain rfl:i=L.length:=by omega
  exact AW.rg hE rfl (mvO rfl (asO rfl (OL.nil (AW.ret (RetQ.r ⟨_,.tmp rfl .nil,RO.all rfl rfl (by rw [List.length_map,List.length_take];omega) (by rw [List.take_of_length_le (by omega)])⟩)))))
set_option maxRecDepth 8000 in
set_option maxHeartbeats 1600000 in
theorem r23Rank {a:Au} {s:Nat} (k:Au.Rk a s):FSpec P F.ref23_Rank [vAu a] (.tup [.d (dI (rkA a)),.d (dI 0)]):=by
 obtain ⟨ok,fl,z6,hn⟩:=k.fa.mach
 have n6:=z6.n6
 obtain ⟨y1,hI1,e1⟩:=k.fa.inv
 obtain ⟨y2,hI2,e2⟩:=k.invT
 obtain ⟨hk6,hk5,hkw⟩:=bas_facts hI1 n6
 obtain ⟨hl6,hl5,_⟩:=bas_facts hI2 n6
 have hkk:(machL [a]).k=a.sym:=k_one
 have hzv:∀ u,u ∈ y1.ks→∀ j,sz ((viewM (machL [a]) y2.ks u).getD j 0)≤16777215:=fun u hu j=>view_sz16 z6 (hk5 u (e1 ▸ hu)) (fun l hl=>hl5 l (e2 ▸ hl)) j
 have hrk0:=rank_spec k.fa (by decide) hzv hI1 hI2
 rw [e1,e2] at hrk0
 rw [e1,e2] at hzv
 have hvl:=vecs_len (m:=(turnM (machL [a]))) (L:=basK (turnM (machL [a])))
 generalize hKe:basK (machL [a])=K at hk6 hk5 hkw hrk0 hzv
 generalize hLe:basK (turnM (machL [a]))=L at hl6 hl5 hrk0 hzv hvl
 refine FSpec.intro fn.ref23_Rank (by rfl) (by rfl) (nb9 (by rfl)) fun E hE=>(AW.sg hE rfl (bxA rfl rfl fun b1=>(asD rfl (asD rfl (OL.nil (AW.seq (AW.sg hE rfl ?_)))))))
 refine ldPA ag.Auto rfl rfl (vs:=[_,_,_,_,_,_,_]) rfl (nb9 rfl) (clv rfl (.cons (VLe.refl _) (.nil)) (r23Check k.take.fit k.wt) (asD rfl (OL.nil (AW.sg hE rfl (mvD rfl (c_neq rfl rfl (c:=false) (by exact cne_f (by omega)) (OL.nil ?_)))))))
 refine AW.cond rfl (fun hno=>absurd hno (by decide)) (fun _=>?_)
 refine AW.skip (AW.sg hE rfl (ldPA ag.Auto rfl rfl (vs:=[_,_,_,_,_,_,_]) rfl (nb9 rfl) (clv rfl (.cons (VLe.refl _) (.nil)) (r23Space (a:=a) k.take.fit.ok k.take.fit.sz k.take.fit.st k.ff) ?_)))
 rw [hKe]
 refine mvT rfl (ex rfl rfl (ex rfl rfl (asD rfl (asD rfl (OL.nil (AW.sg hE rfl (ldPA ag.Auto rfl rfl (vs:=[_,_,_,_,_,_,_]) rfl (nb9 rfl) ?_)))))))
 refine clv rfl (.cons (VLe.refl _) (.nil)) (r23Back k.take.fit k.rz k.fr) ?_
 rw [hLe]
 refine asD rfl (OL.nil (AW.sg hE rfl (asM rfl (OL.nil (AW.seq (AW.seq (AW.own 8 44 T.Rats 1 rfl rfl ?_)))))))
 refine AW.rg hE rfl (asD rfl (OL.nil (AW.block ?_)))
 refine AW.whileK (α:=Nat × Nat × Nat) [(1,_),(2,_),(3,_),(5,_),(7,_)] [(1,_)] (fun (i,bq,cq)=>[(8,.osl 44 bq i cq),(9,.d (dI i))]) (fun (i,bq,cq)=>[(44,.row bq cq T.Rats 1 (((K.take i).map (viewM (machL [a]) L)).map dQs))]) (fun (i,bq,cq)=>i≤K.length∧(L.length=0→i=0)) (fun (i,bq,cq)=>K.length - i) (0,0,0) (.cons (knP rfl) (.cons (knD rfl) (.cons (knD rfl) (.cons (knD rfl) (.cons (knD rfl) .nil))))) (.cons (owB rfl) .nil) ⟨⟨Nat.zero_le _,fun _=>rfl⟩,.rq2,.cons rfl .nil⟩ ?_
 rintro ⟨i,bq,cq⟩ ⟨h1,h2⟩
 have h1:i≤K.length:=h1
 have h2:L.length=0→i=0:=h2
 refine AW.seq (AW.sg hE rfl (mvD rfl (mvD rfl (lnL sl.intss rfl rfl (c_lss rfl rfl rfl (OL.split 27 rfl (fun ha=>?_) (fun ha=>?_)))))))
 ·have ha:i < K.length:=by have:=of_decide_eq_true ha;omega
  refine mvD rfl (OL.yes rfl (mvD rfl (OL.yes rfl (lnL sl.Ratss rfl rfl (OL.yes rfl (c_gtr rfl rfl rfl (OL.split 31 rfl (fun hb=>?_) (fun hb=>?_))))))))
  ·have hb:0 < L.length:=by have:=of_decide_eq_true hb;omega
   refine pkT rfl rfl (OL.nil (AW.cond rfl (fun _=>?_) (fun hno=>absurd hno (by decide))))
   refine AW.skip (AW.seq (AW.block ?_))
   have hku:=getD_mem ha []
   have hkv:=hkw _ hku
   rw [hkk] at hkv
   refine AW.dg 2 [0,1,2,3,4,5,6,7,8,9,10] order_free hE rfl (by kernel_rfl) (OI.of_OL (os:=[_,_,_,_,_,_,_,_,_,_,_]) rfl ?_)
   refine mvO rfl (ldPA ag.Auto rfl rfl (vs:=[_,_,_,_,_,_,_]) rfl (nb9 rfl) (mvD rfl (mvD rfl (mvD rfl (ixLn sl.intss [] rfl rfl (by omega) rfl rfl (ldRC ce.ints rfl (clv rfl (.cons (VLe.refl _) (.cons (VLe.refl _) (.cons (VLe.refl _) (.nil)))) (r23Row (w:=(K.getD i [])) (L:=L) k hkv (Nat.le_succ_of_le (hk5 _ hku)) hl6 (fun l hl=>Nat.le_succ_of_le (hl5 l hl))) ?_)))))))
   refine lt1 (y:=dQs (viewM (machL [a]) L (K.getD i []))) sl.Ratss (VC.d _).vd rfl (by decide) ?_
   refine apO sl.Ratss rfl rfl rfl (by rw [List.length_map,List.length_map,List.length_take];omega) (VC.d _) (fun y hy=>by rw [List.mem_singleton.1 hy];rfl) (by simp only [List.length_singleton];omega) (by simp only [List.length_singleton];omega) (.inr rfl) (ys:=((K.take (i+1)).map (viewM (machL [a]) L)).map dQs) (by rw [take_snoc9 [] ha,List.map_append,List.map_append];rfl) (n2:=i+1) rfl fun b44 c44=>?_
   refine asO rfl (OL.nil (AW.rg hE rfl (mvD rfl (add_i64 rfl rfl (by omega) (asD rfl (OL.nil ?_))))))
   exact AW.again (x:=(i,bq,cq)) (i+1,b44,c44) (by (simp only [];omega)) ⟨⟨by omega,fun h=>by omega⟩,Knows.app .rq5 .rq2,Owns.app (.cons rfl .nil) (.cons rfl .nil)⟩
  ·have hb:¬ 0 < L.length:=by have:=of_decide_eq_false hb;omega
   have hrk:(selS ((K.take i).map (viewM (machL [a]) L)) ((K.take i).map (viewM (machL [a]) L)).length).length=rkA a:=by
    obtain rfl:L=[]:=List.eq_nil_of_length_eq_zero (by omega)
    rw [h2 rfl,← hrk0,spR_nil];rfl
   refine pkT rfl rfl (OL.nil (AW.cond rfl (fun hno=>absurd hno (by decide)) (fun _=>?_)))
   refine AW.exit (AW.seq ?_)
   have hvi:((K.take i).map (viewM (machL [a]) L)).length=i:=by rw [List.length_map,List.length_take];omega
   refine AW.freeze 44 rfl (AW.to [(8,.d (.sl (((K.take i).map (viewM (machL [a]) L)).map dQs)))] [] (.cons (frz_osl (by rw [List.length_map,hvi]) rfl) .nil) .nil ?_)
   refine AW.rg hE rfl (mvD rfl ?_)
   refine clv rfl (.cons (VLe.refl _) (.nil)) (r22Select (vs:=((K.take i).map (viewM (machL [a]) L))) (n:=max 1 L.length) (by omega) (by omega) (fun v hv=>by obtain ⟨u,hu,rfl⟩:=List.mem_map.1 hv;rw [view_len];have:0 < i:=(Nat.eq_zero_or_pos i).elim (fun h=>by rw [h] at hu;cases hu) id;have:L.length≠0:=(fun h=>by have:=h2 h;omega);omega) (fun v hv=>by obtain ⟨u,hu,rfl⟩:=List.mem_map.1 hv;exact hzv u (List.mem_of_mem_take hu))) ?_
   refine mvT rfl (ex rfl rfl (ex rfl rfl (asD rfl (asD rfl (OL.nil (AW.seq ?_))))))
   have hx9:(selX ((K.take i).map (viewM (machL [a]) L)) ((K.take i).map (viewM (machL [a]) L)).length).length=rkA a:=by rw [selX_len (Nat.le_refl _),hrk]
   refine AW.rg hE rfl (mvD rfl (lnL sl.ints rfl rfl ?_))
   rw [hx9]
   exact asD rfl (asD rfl (OL.nil (AW.ret (RetQ.r ⟨_,.tmp rfl (.tmp rfl .nil),_,.cons (.le (VLe.refl _)) (.cons (.le (VLe.refl _)) .nil),rfl⟩))))
 ·have ha:¬ i < K.length:=by have:=of_decide_eq_false ha;omega
  have hrk:(selS ((K.take i).map (viewM (machL [a]) L)) ((K.take i).map (viewM (machL [a]) L)).length).length=rkA a:=by
   rw [show K.take i=K from List.take_of_length_le (by omega),selS_map];exact hrk0
  refine mvD rfl (OL.nd rfl (OL.nd rfl (OL.nd rfl (pkF rfl rfl (OL.nil (AW.cond rfl (fun hno=>absurd hno (by decide)) (fun _=>?_)))))))
  refine AW.exit (AW.seq ?_)
  have hvi:((K.take i).map (viewM (machL [a]) L)).length=i:=by rw [List.length_map,List.length_take];omega
  refine AW.freeze 44 rfl (AW.to [(8,.d (.sl (((K.take i).map (viewM (machL [a]) L)).map dQs)))] [] (.cons (frz_osl (by rw [List.length_map,hvi]) rfl) .nil) .nil ?_)
  refine AW.rg hE rfl (mvD rfl ?_)
  refine clv rfl (.cons (VLe.refl _) (.nil)) (r22Select (vs:=((K.take i).map (viewM (machL [a]) L))) (n:=max 1 L.length) (by omega) (by omega) (fun v hv=>by obtain ⟨u,hu,rfl⟩:=List.mem_map.1 hv;rw [view_len];have:0 < i:=(Nat.eq_zero_or_pos i).elim (fun h=>by rw [h] at hu;cases hu) id;have:L.length≠0:=(fun h=>by have:=h2 h;omega);omega) (fun v hv=>by obtain ⟨u,hu,rfl⟩:=List.mem_map.1 hv;exact hzv u (List.mem_of_mem_take hu))) ?_
  refine mvT rfl (ex rfl rfl (ex rfl rfl (asD rfl (asD rfl (OL.nil (AW.seq ?_))))))
  have hx9:(selX ((K.take i).map (viewM (machL [a]) L)) ((K.take i).map (viewM (machL [a]) L)).length).length=rkA a:=by rw [selX_len (Nat.le_refl _),hrk]
  refine AW.rg hE rfl (mvD rfl (lnL sl.ints rfl rfl ?_))
  rw [hx9]
  exact asD rfl (asD rfl (OL.nil (AW.ret (RetQ.r ⟨_,.tmp rfl (.tmp rfl .nil),_,.cons (.le (VLe.refl _)) (.cons (.le (VLe.refl _)) .nil),rfl⟩))))
set_option maxRecDepth 8000 in
set_option maxHeartbeats 1600000 in
theorem r23zero {a:Au} (f:a.Fw):FSpec P F.ref23_zero [vAu a] (.tup [.d (dB (zeA a).isNone),.d (ints ((zeA a).getD []))]):=by
 obtain ⟨ok,fl,z6,hn⟩:=f.mach
 have n6:=z6.n6
 have hst1:=f.st1
 have hst:=f.few.st
 have s4:=f.s4
 obtain ⟨y1,hI1,e1⟩:=f.inv
 obtain ⟨hk6,hk5,hkw⟩:=bas_facts hI1 n6
 have hkk:(machL [a]).k=a.sym:=k_one
 rw [hkk] at hkw
 have hnn:∀ {i:Nat},i < (nextW a.sym (basK (machL [a]))).length→wtM (machL [a]) ((nextW a.sym (basK (machL [a]))).getD i [])≠0→(∀ l,l < i→wtM (machL [a]) ((nextW a.sym (basK (machL [a]))).getD l [])=0)→zeA a=some ((nextW a.sym (basK (machL [a]))).getD i []):=fun hi h0 hb=>by
  have h:=first_found ok hI1 (i:=_) (by rw [hkk,e1];exact hi) (by rw [hkk,e1];exact h0) (by rw [hkk,e1];exact hb)
  rw [hkk,e1] at h;exact h
 have hnz:(∀ w,w ∈ nextW a.sym (basK (machL [a]))→wtM (machL [a]) w=0)→zeA a=none:=fun h=>first_next ok hI1 (by rw [hkk,e1];exact h)
 generalize hKe:basK (machL [a])=K at hk6 hk5 hkw hnn hnz
 have hnf:=nextW_facts (k:=a.sym) hk5 hkw
 have hnl:=nextW_len (k:=a.sym) K
 have hnm:=Nat.mul_le_mul hk6 s4
 refine FSpec.intro fn.ref23_zero (by rfl) (by rfl) (nb9 (by rfl)) fun E hE=>(AW.sg hE rfl (bxA rfl rfl fun b1=>(asD rfl (asM rfl (OL.nil (AW.seq (AW.sg hE rfl ?_)))))))
 refine faP fd.Auto_2 rfl rfl (ldPC ce.int rfl rfl rfl (c_eql rfl rfl (c:=false) (by exact decide_eq_false (by omega)) (OL.nil (AW.cond rfl (fun hno=>absurd hno (by decide)) (fun _=>?_)))))
 refine AW.skip (AW.sg hE rfl (ldPA ag.Auto rfl rfl (vs:=[_,_,_,_,_,_,_]) rfl (nb9 rfl) (clv rfl (.cons (VLe.refl _) (.nil)) (r23space f) ?_)))
 rw [hKe]
 refine mvT rfl (ex rfl rfl (ex rfl rfl (asD rfl (asD rfl (OL.nil (AW.sg hE rfl (lt1O (y:=ints []) sl.intss VC.mt.vd rfl (by decide) rfl fun b18=>?_)))))))
 refine asO rfl (OL.nil (AW.seq (AW.sg hE rfl (asD rfl (OL.nil (AW.block (AW.rename 18 40 rfl ?_)))))))
 refine AW.whileK (α:=Nat × Nat × Nat) [(1,_),(2,_),(3,_),(4,_)] [(1,_)] (fun (i,bq,cq)=>[(6,.osl 40 bq (nextW a.sym (K.take i)).length cq),(7,.d (dI i))]) (fun (i,bq,cq)=>[(40,.row bq cq T.ints 1 ((nextW a.sym (K.take i)).map ints))]) (fun (i,bq,cq)=>i≤K.length) (fun (i,bq,cq)=>K.length - i) (0,b18,1) (.cons (knP rfl) (.cons (knD rfl) (.cons (knM rfl) (.cons (knD rfl) .nil)))) (.cons (owB rfl) .nil) ⟨Nat.zero_le _,.cons VLe.osl .rq1,.cons rfl .nil⟩ ?_
 rintro ⟨i,bq,cq⟩ h1
 have h1:i≤K.length:=h1
 have hwl:=nextW_len (k:=a.sym) (K.take i)
 have hwm:=Nat.mul_le_mul (show (K.take i).length≤6 by rw [List.length_take];omega) s4
 refine AW.seq (AW.sg hE rfl (mvD rfl (mvD rfl (lnL sl.intss rfl rfl (c_lss rfl rfl rfl (OL.nil (AW.cond rfl (fun h22=>?_) (fun h22=>?_))))))))
 ·try simp only [dx9] at h22
  refine AW.skip (AW.seq (AW.block (AW.sg hE rfl (asD rfl (OL.nil (AW.block ?_))))))
  refine AW.whileK (α:=Nat × Nat × Nat) [(1,_),(2,_),(3,_),(4,_),(7,_)] [(1,_)] (fun (s,bp,cp)=>[(6,.osl 40 bp ((nextW a.sym (K.take i)) ++ kidsW s (K.getD i [])).length cp),(8,.d (dI ((s:Int)+1)))]) (fun (s,bp,cp)=>[(40,.row bp cp T.ints 1 (((nextW a.sym (K.take i)) ++ kidsW s (K.getD i [])).map ints))]) (fun (s,bp,cp)=>s≤a.sym) (fun (s,bp,cp)=>a.sym - s) (0,bq,cq) (.cons (knP rfl) (.cons (knD rfl) (.cons (knM rfl) (.cons (knD rfl) (.cons (knD rfl) .nil))))) (.cons (owB rfl) .nil) ⟨Nat.zero_le _,.cons (by rw [show kidsW 0 (K.getD i [])=[] from rfl,List.append_nil];exact VLe.refl _) (.cons (VLe.int (by omega)) .nil),.cons (by rw [show kidsW 0 (K.getD i [])=[] from rfl,List.append_nil];rfl) .nil⟩ ?_
  rintro ⟨s,bp,cp⟩ h2
  have h2:s≤a.sym:=h2
  have hkn:=kidsW_len s (K.getD i [])
  have hla:((nextW a.sym (K.take i)) ++ kidsW s (K.getD i [])).length=(nextW a.sym (K.take i)).length+s:=by rw [List.length_append,hkn]
  refine AW.seq (AW.sg hE rfl (mvD rfl (faP fd.Auto_1 rfl rfl (ldPC ce.int rfl rfl rfl (c_leq rfl rfl rfl (OL.nil (AW.cond rfl (fun h28=>?_) (fun h28=>?_))))))))
  ·try simp only [dx9] at h28
   refine AW.skip (AW.seq (AW.block ?_))
   have hk5i:=hk5 _ (getD_mem (show i < K.length by omega) [])
   refine AW.rg hE rfl (mvO rfl (mvD rfl (mvD rfl (ixLn sl.intss [] rfl rfl (by omega) rfl rfl (ldRC ce.ints rfl (mvD rfl (lt1 (y:=dI ((s:Int)+1)) sl.ints (VC.d _).vd rfl (by decide) ?_)))))))
   refine clv rfl (.cons (VLe.refl _) (.cons (VLe.refl _) (.nil))) (r5Join (w:=(K.getD i [])) (u:=[(s:Int)+1]) (by omega) (nb9 rfl)) (lt1 (y:=ints ((K.getD i []) ++ [(s:Int)+1])) sl.intss (VC.d _).vd rfl (by decide) ?_)
   refine apO sl.intss rfl rfl rfl (List.length_map ..).symm (VC.d _) (fun y hy=>by rw [List.mem_singleton.1 hy];rfl) (by simp only [List.length_singleton];omega) (by simp only [List.length_singleton];omega) (.inr rfl) (ys:=((nextW a.sym (K.take i)) ++ kidsW (s+1) (K.getD i [])).map ints) (by rw [kidsW_succ,← List.append_assoc];exact (List.map_append (f:=ints) (l₁:=(nextW a.sym (K.take i)) ++ kidsW s (K.getD i [])) (l₂:=[((K.getD i []) ++ [(s:Int)+1])])).symm) (n2:=((nextW a.sym (K.take i)) ++ kidsW (s+1) (K.getD i [])).length) (by rw [kidsW_succ,← List.append_assoc];simp only [List.length_append,List.length_singleton]) fun b40 c40=>?_
   refine asO rfl (OL.nil (AW.rg hE rfl (mvD rfl (add_i64 rfl rfl (by omega) (asD rfl (OL.nil ?_))))))
   exact AW.again (x:=(s,bp,cp)) (s+1,b40,c40) (by (simp only [];omega)) ⟨by omega,Knows.app .rq5 (.cons (VLe.refl _) (.cons (VLe.int (by omega)) .nil)),Owns.app (.cons rfl .nil) (.cons rfl .nil)⟩
  ·try simp only [dx9] at h28
   refine AW.exit ?_
   obtain rfl:s=a.sym:=by omega
   refine AW.rg hE rfl (mvD rfl (add_i64 rfl rfl (by omega) (asD rfl (OL.nil ?_))))
   exact AW.again (x:=(i,bq,cq)) (i+1,bp,cp) (by (simp only [];omega)) ⟨by omega,Knows.app .rq4 (.cons (by rw [take_snoc9 [] (by omega),nextW_snoc];exact VLe.refl _) .rq1),Owns.app (.cons rfl .nil) (.cons (by rw [take_snoc9 [] (by omega),nextW_snoc];rfl) .nil)⟩
 ·try simp only [dx9] at h22
  refine AW.exit (AW.seq (AW.seq ?_))
  obtain rfl:i=K.length:=by omega
  dsimp only
  rw [List.take_length]
  refine AW.rg hE rfl (asD rfl (OL.nil (AW.block ?_)))
  refine AW.whileK (α:=Nat) [(1,_),(6,_)] [(1,_),(40,_)] (fun i=>[(9,.d (dI i))]) (fun i=>[]) (fun i=>i≤(nextW a.sym K).length∧∀ l,l < i→wtM (machL [a]) ((nextW a.sym K).getD l [])=0) (fun i=>(nextW a.sym K).length - i) 0 (.cons (knP rfl) (.cons (knO rfl) .nil)) (.cons (owB rfl) (.cons (owR rfl) .nil)) ⟨⟨Nat.zero_le _,fun l hl=>by omega⟩,.rq1,.nil⟩ ?_
  rintro i ⟨h3,h4⟩
  have h3:i≤(nextW a.sym K).length:=h3
  have h4:∀ l,l < i→wtM (machL [a]) ((nextW a.sym K).getD l [])=0:=h4
  refine AW.seq (AW.sg hE rfl (mvD rfl (mvO rfl (lnO sl.intss rfl rfl (c_lss rfl rfl rfl (OL.nil (AW.cond rfl (fun h44=>?_) (fun h44=>?_))))))))
  ·try simp only [dx9] at h44
   refine AW.skip (AW.seq (AW.block (AW.seq ?_)))
   have hi:i < (nextW a.sym K).length:=by omega
   obtain ⟨hq6,hqw⟩:=hnf _ (getD_mem hi [])
   have hser:dotF (fwA a ((nextW a.sym K).getD i [])) a.fin a.st=wtM (machL [a]) ((nextW a.sym K).getD i []):=dotF_ser f.ok hqw
   refine AW.dg 1 [0,1,2,3,4,5,6,7,8,9,10,11] order_free hE rfl (by kernel_rfl) (OI.of_OL (os:=[_,_,_,_,_,_,_,_,_,_,_,_]) rfl ?_)
   refine ldPA ag.Auto rfl rfl (vs:=[_,_,_,_,_,_,_]) rfl (nb9 rfl) (mvO rfl (mvD rfl (ixOn sl.intss rfl rfl hi (ldEL ce.ints [] (by decide) rfl rfl hi rfl (clv rfl (.cons (VLe.refl _) (.cons (VLe.refl _) (.nil))) (r23forward (w:=((nextW a.sym K).getD i [])) f hqw hq6) (faP fd.Auto_4 rfl rfl (ldPC ce.Weights rfl rfl rfl ?_)))))))
   refine clv rfl (.cons (VLe.refl _) (.nil)) (r23Numbers (l:=a.fin) (by have:=f.ok.fin;omega)) ?_
   refine clv rfl (.cons (VLe.refl _) (.cons (VLe.refl _) (.nil))) (r22Dot (v:=fwA a ((nextW a.sym K).getD i [])) (u:=a.fin) (n:=a.st) (fwA_len f.ok _) f.ok.fin (by omega) (fw_all f hqw hq6) (fun j=>Nat.le_trans (small_get f.few.fin (by decide) j) (by decide))) ?_
   rw [hser]
   refine clv rfl (.cons (VLe.refl _) (.nil)) (ref_SignQ (x:=wtM (machL [a]) ((nextW a.sym K).getD i [])) (by rw [← hser];exact Nat.le_trans (dot_szB (fw_all f hqw hq6) (fun j=>Nat.le_trans (small_get f.few.fin (by decide) j) (by decide)) (show a.st≤64 by omega)) (by decide))) ?_
   refine c_neq rfl rfl rfl (OL.nil (AW.cond rfl (fun hd=>?_) (fun hd=>?_)))
   ·have hd:wtM (machL [a]) ((nextW a.sym K).getD i [])≠0:=fun e=>nd_t hd (sgnQ_eq.2 e)
    have hz9:=hnn hi hd h4
    refine AW.seq (AW.dg 1 [0,1,2,3,4,5] order_free hE rfl (by kernel_rfl) (OI.of_OL (os:=[_,_,_,_,_,_]) rfl ?_))
    exact mvO rfl (mvD rfl (ixOn sl.intss rfl rfl hi (ldEL ce.ints [] (by decide) rfl rfl hi rfl (asD rfl (asD rfl (OL.nil (AW.ret (RetQ.r ⟨_,.tmp rfl (.tmp rfl .nil),_,.cons (.le (by rw [hz9];exact VLe.refl _)) (.cons (.le (by rw [hz9];exact VLe.refl _)) .nil),rfl⟩))))))))
   ·have hd:wtM (machL [a]) ((nextW a.sym K).getD i [])=0:=sgnQ_eq.1 (nd_f hd)
    refine AW.skip (AW.rg hE rfl (mvD rfl (add_i64 rfl rfl (by omega) (asD rfl (OL.nil ?_)))))
    exact AW.again (x:=i) (i+1) (by omega) ⟨⟨by omega,fun l hl=>(Nat.lt_or_ge l i).elim (fun h=>h4 l h) fun h=>by obtain rfl:l=i:=(by omega);exact hd⟩,Knows.app .rq2 .rq1,Owns.app (.cons rfl (.cons rfl .nil)) (.nil)⟩
  ·try simp only [dx9] at h44
   refine AW.exit (AW.seq ?_)
   have hz9:zeA a=none:=hnz fun w hw=>by
    obtain ⟨l,hl,rfl⟩:=List.mem_iff_getElem.1 hw
    have h:=h4 l (by omega)
    rwa [List.getD_eq_getElem?_getD,List.getElem?_eq_getElem hl] at h
   exact AW.rg hE rfl (asD rfl (asM rfl (OL.nil (AW.ret (RetQ.r ⟨_,.tmp rfl (.tmp rfl .nil),_,.cons (.le (by rw [hz9];exact VLe.refl _)) (.cons (.le (by rw [hz9];exact VLe.mt)) .nil),rfl⟩)))))
end Go.Proofs.YtfebfmplcjdomaaGreatDoor

set_option linter.unusedVariables false
set_option linter.unusedSimpArgs false
namespace Go.AL
open Go Go.BigFrame
section
variable {P:Program} {E:Env}
theorem SG.ofOL {ops:Array Oper} {o:Oper} {K:S→Prop} {s:S} (h:OL P 0 ops K [o] s):SG P E ops o K s:=.inl h
theorem SG.ofSO {ops:Array Oper} {dst:Option Nat} {op:Op} {ty:TypeId} {pos:String} {after:Array Edge} {K:S→Prop} {s:S} (h:SO P E ⟨dst,op,ty,pos,after,none⟩ K s):SG P E ops ⟨dst,op,ty,pos,after,none⟩ K s:=.inr ⟨rfl,h⟩
def OTK (P:Program) (E:Env) (ops:Array Oper) (K:S→Prop):Nat→Array Bool→S→Prop
 | 0,listed,s=>Region.ready .any ops listed=[]∧K s
 | n+1,listed,s=>Region.ready .any ops listed≠[]∧∀ i,i ∈ Region.ready .any ops listed→∃ o,ops[i]? = some o∧SG P E ops o (OTK P E ops K n (listed.setIfInBounds i true)) s
theorem wpAny_treeK {Q:Exit→S→Prop} {ops:Array Oper} (hd:∀ o,o ∈ ops.toList→Below' E.n o.dst) :
  ∀ (fuel:Nat) (listed:Array Bool) (s:S) (F:Hp) (a:Act) (w:World),Run E F s a w→OTK P E ops (Q .normal) fuel listed s→wpAny P .any ops (PostQ E Q) fuel listed a w:=by
 intro fuel
 induction fuel with
 | zero=>exact fun listed s F a w hr h=>⟨h.1,⟨F,s,hr,h.2⟩⟩
 | succ fuel ih =>
  intro listed s F a w hr h
  refine ⟨fun e=>absurd e h.1,fun i hi=>?_⟩
  obtain ⟨o,ho,hog⟩:=h.2 i hi
  exact SG.sound ho hog hr (hd o (by
   obtain ⟨h1,h2⟩:=Array.getElem?_eq_some_iff.1 ho
   rw [← h2];exact Array.getElem_mem_toList h1)) fun F' s' a' w' hr' hk=>ih _ s' F' a' w' hr' hk
theorem AW.region_treeK {id:Nat} {ops:Array Oper} {Q:Exit→S→Prop} {s:S} (hf:P.follows .mixedOrders=true) (hd:dstOK E.n ops=true)
  (h:OTK P E ops (Q .normal) ops.size (Array.replicate ops.size false) s):AW P E (.region id ops true) Q s:=fun F a w hr=>by
 have hrun:Run E F s a { w with drawn:=w.drawn+1 }:=⟨⟨hr.sim.imm,fun id blk hm=>(hr.sim.own id blk hm).keep (Hp.le.refl F) fun _ _=>rfl,hr.sim.apart,hr.sim.inj⟩,⟨hr.grow.os,hr.grow.tape,hr.grow.output,hr.grow.size,hr.grow.block⟩,hr.f0,hr.fnew,hr.mnew,hr.size,hr.defers,hr.slots⟩
 exact wp_region_any hf (wpAny_treeK (dstOK.spec hd) ops.size _ s F a _ hrun h)
def OTKs (P:Program) (E:Env) (ops:Array Oper) (K:S→Prop) (n:Nat) (listed:Array Bool) (s:S):List Nat→List Oper→Prop
 | [],[]=>True
 | i :: l,o :: os=>SG P E ops o (OTK P E ops K n (listed.setIfInBounds i true)) s∧OTKs P E ops K n listed s l os
 | _,_=>False
theorem OTKs.get {ops:Array Oper} {K:S→Prop} {n:Nat} {listed:Array Bool} {s:S}:∀ (l:List Nat) (os:List Oper),l.map (fun i=>ops[i]?)=os.map some→OTKs P E ops K n listed s l os→∀ i,i ∈ l→∃ o,ops[i]? = some o∧SG P E ops o (OTK P E ops K n (listed.setIfInBounds i true)) s
 | [],_,_,_,i,hi=>by simp at hi
 | j :: l,[],h,_,_,_=>by simp at h
 | j :: l,o :: os,h,ht,i,hi=>by
  simp only [List.map_cons,List.cons.injEq] at h
  rcases List.mem_cons.1 hi with rfl | hi
  ·exact ⟨o,h.1,ht.1⟩
  ·exact OTKs.get l os h.2 ht.2 i hi
theorem OTK.node {ops:Array Oper} {K:S→Prop} {n:Nat} {listed:Array Bool} {s:S} (l:List Nat) {os:List Oper} (h:Region.ready .any ops listed=l) (hne:l≠[]) (ho:l.map (fun i=>ops[i]?)=os.map some) (ht:OTKs P E ops K n listed s l os):OTK P E ops K (n+1) listed s :=
 ⟨by rw [h];exact hne,fun i hi=>OTKs.get l os ho ht i (by rw [← h];exact hi)⟩
theorem OTK.leaf {ops:Array Oper} {K:S→Prop} {listed:Array Bool} {s:S} (h:Region.ready .any ops listed=[]) (hk:K s):OTK P E ops K 0 listed s:=⟨h,hk⟩
end
end Go.AL
