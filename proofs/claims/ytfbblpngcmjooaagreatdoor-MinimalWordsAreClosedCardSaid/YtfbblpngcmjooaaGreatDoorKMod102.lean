/-
  M, chapter 24: first bases of the rows of a table, by the table alone.
-/
import Derived.Test.YtfbblpngcmjooaaGreatDoorKWkAC
import Derived.Test.YtfbblpngcmjooaaGreatDoorKWkO
set_option linter.unusedVariables false
set_option linter.unusedSimpArgs false
namespace Go.Proofs.YtfbblpngcmjooaaGreatDoor
open Go Go.AL
theorem view_snoc {m:Mach}{L:List (List Int)}{u:List Int}{i:Nat}(hi:i<L.length):(viewM m L u).take (i+1)=(viewM m L u).take i++[(viewM m L u).getD i 0]:=take_snoc9 0 (by rw [view_len];exact hi)
theorem bas_facts {m:Mach}{B:Nat}{y:KSt}(h:InvS m B [] y)(n6:m.n≤6):(basK m).length≤6∧(∀ u,u ∈ basK m→u.length≤5)∧∀ u,u ∈ basK m→InW m.k u:=by
 rw [← h.bas]
 exact ⟨Nat.le_trans h.b.few.2 n6,h.b.five n6,h.inW⟩
theorem selS_map {m:Mach}{L K:List (List Int)}:selS (K.map (viewM m L)) (K.map (viewM m L)).length=spR m L K:=by
 unfold selS spR
 rw [List.take_length,List.foldl_map]
theorem view_sz16 {m:Mach}{e:Nat}{L:List (List Int)}{u:List Int}(z6:m.Sz e)(hu:u.length≤5)(hL:∀ l,l ∈ L→l.length≤5)(j:Nat):sz ((viewM m L u).getD j 0)≤16777215:=Nat.le_trans (view_sz z6 hu hL j) (by decide)
structure Au.Rk (a:Au) (s:Nat):Prop where
 take:Au.Take a s
 wt:Au.Wt a
 s4:s≤4
 rz:(revOf a).Sz 134217728 20
 fa:a.Fw
 ff:(formOf a).Fw
 fr:(formOf (revOf a)).Fw
theorem Au.Rk.invT {a:Au}{s:Nat}(k:Au.Rk a s):∃ y,InvS (turnM (machL [a])) 16777215 [] y∧y.ks=basK (turnM (machL [a])):=by
 have h:=k.fr.inv
 rwa [(form_same (revOf a)).mach1,machL_rev] at h
set_option maxHeartbeats 800000 in
theorem r23Row {a:Au}{w:List Int}{L:List (List Int)}{s:Nat}(k:Au.Rk a s)(hw:InW a.sym w)(hl:w.length≤6)(nl:L.length≤6)(hL:∀ l,l ∈ L→l.length≤6):FSpec P F.ref23_Row [vAu a,.d (.sl ((vecs (turnM (machL [a])) L).map dQs)),.d (ints w)] (.d (dQs (viewM (machL [a]) L w))):=by
 obtain ⟨ok,fl,z6,hn⟩:=k.fa.mach
 have n6:=z6.n6
 have hvl:(viewM (machL [a]) L w).length=L.length:=view_len
 have hll:=vecs_len (m:=(turnM (machL [a]))) (L:=L)
 refine FSpec.intro fn.ref23_Row (by rfl) (by rfl) (nb9 (by rfl)) fun E hE=>(AW.sg hE rfl (bxA rfl rfl fun b3=>(asM rfl (OL.nil (AW.sg hE rfl (ldPA ag.Auto rfl rfl (vs:=[_,_,_,_,_,_,_]) rfl (nb9 rfl) (clv rfl (VLes.refl _) (r6Form (a:=a) k.take.fit.ok k.take.fit.sz k.take.fit.st) ?_)))))))
 refine mvD rfl (clv rfl (VLes.refl _) (r23forward (a:=formOf a) (w:=w) k.ff hw hl) ?_)
 rw [fwA_form k.take.fit.ok hw,fwA_vec k.take.fit.ok hw]
 refine asD rfl (OL.nil (AW.sg hE rfl (asM rfl (OL.nil (AW.seq (AW.seq (AW.own 8 28 T.Rat 3 rfl rfl ?_)))))))
 refine AW.rg hE rfl (asD rfl (OL.nil (AW.block ?_)))
 refine AW.whileK (α:=Nat × Nat × Nat) [(1,_),(6,_),(7,_)] [] (fun (i,bq,cq)=>[(8,.osl 28 bq i cq),(9,.d (dI i))]) (fun (i,bq,cq)=>[(28,.row bq cq T.Rat 3 (((viewM (machL [a]) L w).take i).map dQ))]) (fun (i,bq,cq)=>i≤L.length) (fun (i,bq,cq)=>L.length-i) (0,0,0) (.cons (knD rfl) (.cons (knM rfl) (.cons (knD rfl) .nil))) .nil ⟨Nat.zero_le _,.rq2,.cons rfl .nil⟩ ?_
 rintro ⟨i,bq,cq⟩ h1
 have h1:i≤L.length:=h1
 refine AW.seq (AW.sg hE rfl (mvD rfl (mvD rfl (lnL sl.Ratss rfl rfl (c_lss rfl rfl rfl (OL.nil (AW.cond rfl (fun h17=>?_) (fun h17=>?_))))))))
 ·try simp only [dx9] at h17
  refine AW.skip (AW.seq (AW.block ?_))
  have hi:i<L.length:=by omega
  refine AW.rg hE rfl (mvO rfl (mvD rfl (mvD rfl (mvD rfl (ixLn sl.Ratss [] rfl rfl (by omega) rfl rfl (ldRC ce.Rats rfl ?_))))))
  rw [vecs_get hi]
  refine clv rfl (VLes.refl _) (r22Dot (v:=vecM (machL [a]) w) (u:=vecM (turnM (machL [a])) (L.getD i [])) (n:=(machL [a]).n) (vecM_len ok w) (vecM_len (turn_ok ok) _) (by omega) (fun j=>Nat.le_trans (vecM_sz z6 hl j) (by decide)) (fun j=>Nat.le_trans (vecM_sz z6.turn (hL _ (getD_mem hi [])) j) (by decide))) ?_
  rw [← view_dot hi]
  refine lt1 (y:=dQ ((viewM (machL [a]) L w).getD i 0)) sl.Rats vd_q rfl (by decide) ?_
  refine apO sl.Rats rfl rfl rfl (by rw [lm9,List.length_take];omega) (VC.d _) (fun y hy=>by rw [List.mem_singleton.1 hy];rfl) (by simp only [ls9];omega) (by simp only [ls9];omega) (.inr rfl) (ys:=((viewM (machL [a]) L w).take (i+1)).map dQ) (by rw [view_snoc hi,List.map_append];rfl) (n2:=i+1) rfl fun b28 c28=>?_
  exact asO rfl (OL.nil (AW.rg hE rfl (mvD rfl (add_i64 rfl rfl (by omega) (asD rfl (OL.nil (AW.again (x:=(i,bq,cq)) (i+1,b28,c28) (by (simp only [];omega)) ⟨by omega,Knows.app .rq3 .rq2,.cons rfl .nil⟩)))))))
 ·try simp only [dx9] at h17
  refine AW.exit (AW.seq ?_)
  obtain rfl:i=L.length:=by omega
  exact AW.rg hE rfl (mvO rfl (asO rfl (OL.nil (AW.ret (RetQ.r ⟨_,.tmp rfl .nil,RO.all rfl rfl (by rw [lm9,List.length_take];omega) (by rw [List.take_of_length_le (by omega)])⟩)))))
set_option maxRecDepth 8000 in
set_option maxHeartbeats 1600000 in
theorem r23Rank {a:Au}{s:Nat}(k:Au.Rk a s):FSpec P F.ref23_Rank [vAu a] (.tup [.d (dI (rkA a)),.d (dI 0)]):=by
 obtain ⟨ok,fl,z6,hn⟩:=k.fa.mach
 have n6:=z6.n6
 obtain ⟨y1,hI1,e1⟩:=k.fa.inv
 obtain ⟨y2,hI2,e2⟩:=k.invT
 obtain ⟨hk6,hk5,hkw⟩:=bas_facts hI1 n6
 obtain ⟨hl6,hl5,_⟩:=bas_facts hI2 n6
 have hkk:(machL [a]).k=a.sym:=k_one
 have hzv:∀ u,u ∈ y1.ks→∀ j,sz ((viewM (machL [a]) y2.ks u).getD j 0)≤16777215:=fun u hu j=>view_sz16 z6 (hk5 u (e1 ▸ hu)) (fun l hl=>hl5 l (e2 ▸ hl)) j
 have hrk0:=rank_spec k.fa (by decide) hzv hI1 hI2
 rw [e1,e2] at hrk0
 rw [e1,e2] at hzv
 have hvl:=vecs_len (m:=(turnM (machL [a]))) (L:=basK (turnM (machL [a])))
 generalize hKe:basK (machL [a])=K at hk6 hk5 hkw hrk0 hzv
 generalize hLe:basK (turnM (machL [a]))=L at hl6 hl5 hrk0 hzv hvl
 refine FSpec.intro fn.ref23_Rank (by rfl) (by rfl) (nb9 (by rfl)) fun E hE=>(AW.sg hE rfl (bxA rfl rfl fun b1=>(asD rfl (asD rfl (OL.nil (AW.seq (AW.sg hE rfl ?_)))))))
 refine ldPA ag.Auto rfl rfl (vs:=[_,_,_,_,_,_,_]) rfl (nb9 rfl) (clv rfl (VLes.refl _) (r23Check k.take.fit k.wt) (asD rfl (OL.nil (AW.sg hE rfl (mvD rfl (c_neq rfl rfl (c:=false) (by exact cne_f (by omega)) (OL.nil ?_)))))))
 refine AW.cond rfl (fun hno=>absurd hno (by decide)) (fun _=>?_)
 refine AW.skip (AW.sg hE rfl (ldPA ag.Auto rfl rfl (vs:=[_,_,_,_,_,_,_]) rfl (nb9 rfl) (clv rfl (VLes.refl _) (r23Space (a:=a) k.take.fit.ok k.take.fit.sz k.take.fit.st k.ff) ?_)))
 rw [hKe]
 refine mvT rfl (ex rfl rfl (ex rfl rfl (asD rfl (asD rfl (OL.nil (AW.sg hE rfl (ldPA ag.Auto rfl rfl (vs:=[_,_,_,_,_,_,_]) rfl (nb9 rfl) ?_)))))))
 refine clv rfl (VLes.refl _) (r23Back k.take.fit k.rz k.fr) ?_
 rw [hLe]
 refine asD rfl (OL.nil (AW.sg hE rfl (asM rfl (OL.nil (AW.seq (AW.seq (AW.own 8 44 T.Rats 1 rfl rfl ?_)))))))
 refine AW.rg hE rfl (asD rfl (OL.nil (AW.block ?_)))
 refine AW.whileK (α:=Nat × Nat × Nat) [(1,_),(2,_),(3,_),(5,_),(7,_)] [(1,_)] (fun (i,bq,cq)=>[(8,.osl 44 bq i cq),(9,.d (dI i))]) (fun (i,bq,cq)=>[(44,.row bq cq T.Rats 1 (((K.take i).map (viewM (machL [a]) L)).map dQs))]) (fun (i,bq,cq)=>i≤K.length∧(L.length=0→i=0)) (fun (i,bq,cq)=>K.length-i) (0,0,0) (.cons (knP rfl) (.cons (knD rfl) (.cons (knD rfl) (.cons (knD rfl) (.cons (knD rfl) .nil))))) (.cons (owB rfl) .nil) ⟨⟨Nat.zero_le _,fun _=>rfl⟩,.rq2,.cons rfl .nil⟩ ?_
 rintro ⟨i,bq,cq⟩ ⟨h1,h2⟩
 have h1:i≤K.length:=h1
 have h2:L.length=0→i=0:=h2
 refine AW.seq (AW.sg hE rfl (mvD rfl (mvD rfl (lnL sl.intss rfl rfl (c_lss rfl rfl rfl (OL.split 27 rfl (fun ha=>?_) (fun ha=>?_)))))))
 ·have ha:i<K.length:=by have:=of_decide_eq_true ha;omega
  refine mvD rfl (OL.yes rfl (mvD rfl (OL.yes rfl (lnL sl.Ratss rfl rfl (OL.yes rfl (c_gtr rfl rfl rfl (OL.split 31 rfl (fun hb=>?_) (fun hb=>?_))))))))
  ·have hb:0<L.length:=by have:=of_decide_eq_true hb;omega
   refine pkT rfl rfl (OL.nil (AW.cond rfl (fun _=>?_) (fun hno=>absurd hno (by decide))))
   refine AW.skip (AW.seq (AW.block ?_))
   have hku:=getD_mem ha []
   have hkv:=hkw _ hku
   rw [hkk] at hkv
   refine AW.dg 2 [0,1,2,3,4,5,6,7,8,9,10] order_free hE rfl (by kernel_rfl) (OI.of_OL (os:=[_,_,_,_,_,_,_,_,_,_,_]) rfl ?_)
   refine mvO rfl (ldPA ag.Auto rfl rfl (vs:=[_,_,_,_,_,_,_]) rfl (nb9 rfl) (mvD rfl (mvD rfl (mvD rfl (ixLn sl.intss [] rfl rfl (by omega) rfl rfl (ldRC ce.ints rfl (clv rfl (VLes.refl _) (r23Row (w:=(K.getD i [])) (L:=L) k hkv (Nat.le_succ_of_le (hk5 _ hku)) hl6 (fun l hl=>Nat.le_succ_of_le (hl5 l hl))) ?_)))))))
   refine lt1 (y:=dQs (viewM (machL [a]) L (K.getD i []))) sl.Ratss (VC.d _).vd rfl (by decide) ?_
   refine apO sl.Ratss rfl rfl rfl (by rw [lm9,lm9,List.length_take];omega) (VC.d _) (fun y hy=>by rw [List.mem_singleton.1 hy];rfl) (by simp only [ls9];omega) (by simp only [ls9];omega) (.inr rfl) (ys:=((K.take (i+1)).map (viewM (machL [a]) L)).map dQs) (by rw [take_snoc9 [] ha,List.map_append,List.map_append];rfl) (n2:=i+1) rfl fun b44 c44=>?_
   refine asO rfl (OL.nil (AW.rg hE rfl (mvD rfl (add_i64 rfl rfl (by omega) (asD rfl (OL.nil ?_))))))
   exact AW.again (x:=(i,bq,cq)) (i+1,b44,c44) (by (simp only [];omega)) ⟨⟨by omega,fun h=>by omega⟩,Knows.app .rq5 .rq2,Owns.app (.cons rfl .nil) (.cons rfl .nil)⟩
  ·have hb:¬ 0<L.length:=by have:=of_decide_eq_false hb;omega
   have hrk:(selS ((K.take i).map (viewM (machL [a]) L)) ((K.take i).map (viewM (machL [a]) L)).length).length=rkA a:=by
    obtain rfl:L=[]:=List.eq_nil_of_length_eq_zero (by omega)
    rw [h2 rfl,← hrk0,spR_nil];rfl
   refine pkT rfl rfl (OL.nil (AW.cond rfl (fun hno=>absurd hno (by decide)) (fun _=>?_)))
   refine AW.exit (AW.seq ?_)
   have hvi:((K.take i).map (viewM (machL [a]) L)).length=i:=by rw [lm9,List.length_take];omega
   refine AW.freeze 44 rfl (AW.to [(8,.d (.sl (((K.take i).map (viewM (machL [a]) L)).map dQs)))] [] (.cons (frz_osl (by rw [lm9,hvi]) rfl) .nil) .nil ?_)
   refine AW.rg hE rfl (mvD rfl ?_)
   refine clv rfl (VLes.refl _) (r22Select (vs:=((K.take i).map (viewM (machL [a]) L))) (n:=max 1 L.length) (by omega) (by omega) (fun v hv=>by obtain ⟨u,hu,rfl⟩:=List.mem_map.1 hv;rw [view_len];have:0<i:=(Nat.eq_zero_or_pos i).elim (fun h=>by rw [h] at hu;cases hu) id;have:L.length≠0:=(fun h=>by have:=h2 h;omega);omega) (fun v hv=>by obtain ⟨u,hu,rfl⟩:=List.mem_map.1 hv;exact hzv u (List.mem_of_mem_take hu))) ?_
   refine mvT rfl (ex rfl rfl (ex rfl rfl (asD rfl (asD rfl (OL.nil (AW.seq ?_))))))
   have hx9:(selX ((K.take i).map (viewM (machL [a]) L)) ((K.take i).map (viewM (machL [a]) L)).length).length=rkA a:=by rw [selX_len (Nat.le_refl _),hrk]
   refine AW.rg hE rfl (mvD rfl (lnL sl.ints rfl rfl ?_))
   rw [hx9]
   exact asD rfl (asD rfl (OL.nil (AW.ret (RetQ.r ⟨_,.tmp rfl (.tmp rfl .nil),_,.cons (.le vR) (.cons (.le vR) .nil),rfl⟩))))
 ·have ha:¬ i<K.length:=by have:=of_decide_eq_false ha;omega
  have hrk:(selS ((K.take i).map (viewM (machL [a]) L)) ((K.take i).map (viewM (machL [a]) L)).length).length=rkA a:=by
   rw [show K.take i=K from List.take_of_length_le (by omega),selS_map];exact hrk0
  refine mvD rfl (OL.nd rfl (OL.nd rfl (OL.nd rfl (pkF rfl rfl (OL.nil (AW.cond rfl (fun hno=>absurd hno (by decide)) (fun _=>?_)))))))
  refine AW.exit (AW.seq ?_)
  have hvi:((K.take i).map (viewM (machL [a]) L)).length=i:=by rw [lm9,List.length_take];omega
  refine AW.freeze 44 rfl (AW.to [(8,.d (.sl (((K.take i).map (viewM (machL [a]) L)).map dQs)))] [] (.cons (frz_osl (by rw [lm9,hvi]) rfl) .nil) .nil ?_)
  refine AW.rg hE rfl (mvD rfl ?_)
  refine clv rfl (VLes.refl _) (r22Select (vs:=((K.take i).map (viewM (machL [a]) L))) (n:=max 1 L.length) (by omega) (by omega) (fun v hv=>by obtain ⟨u,hu,rfl⟩:=List.mem_map.1 hv;rw [view_len];have:0<i:=(Nat.eq_zero_or_pos i).elim (fun h=>by rw [h] at hu;cases hu) id;have:L.length≠0:=(fun h=>by have:=h2 h;omega);omega) (fun v hv=>by obtain ⟨u,hu,rfl⟩:=List.mem_map.1 hv;exact hzv u (List.mem_of_mem_take hu))) ?_
  refine mvT rfl (ex rfl rfl (ex rfl rfl (asD rfl (asD rfl (OL.nil (AW.seq ?_))))))
  have hx9:(selX ((K.take i).map (viewM (machL [a]) L)) ((K.take i).map (viewM (machL [a]) L)).length).length=rkA a:=by rw [selX_len (Nat.le_refl _),hrk]
  refine AW.rg hE rfl (mvD rfl (lnL sl.ints rfl rfl ?_))
  rw [hx9]
  exact asD rfl (asD rfl (OL.nil (AW.ret (RetQ.r ⟨_,.tmp rfl (.tmp rfl .nil),_,.cons (.le vR) (.cons (.le vR) .nil),rfl⟩))))
end Go.Proofs.YtfbblpngcmjooaaGreatDoor
namespace Go.AL
open Go Go.BigFrame
def linI (h:List Int→List Int→Rat)(K:List (List Int))(c:Nat→Rat)(l:List Int):Rat:=sumN (fun i=>c i*h (K.getD i []) l) K.length
structure FirstI (k:Nat) (h:List Int→List Int→Rat) (K:List (List Int)):Prop where
 ord:K.Pairwise fun a b=>slx a b<0
 inW:∀ u,u ∈ K→InW k u
 reach:∀ w,InW k w→∃ c:Nat→Rat,(∀ i,i<K.length→0<slx (K.getD i []) w→c i=0)∧∀ l,InW k l→h w l=linI h K c l
 ind:∀ c:Nat→Rat,(∀ l,InW k l→linI h K c l=0)→∀ i,i<K.length→c i=0
section
variable {k:Nat}{h g:List Int→List Int→Rat}{K K':List (List Int)}{c:Nat→Rat}{u w:List Int}
theorem linI_sub {d:Nat→Rat}{l:List Int}:linI h K (fun i=>c i-d i) l=linI h K c l-linI h K d l:=by
 unfold linI
 rw [sumN_congr (g:=fun i=>c i*h (K.getD i []) l + -1*(d i*h (K.getD i []) l)) fun i _=>by show (c i-d i)*_=_;rw [Rat.sub_eq_add_neg,Rat.add_mul,Rat.neg_mul,Rat.neg_mul,Rat.one_mul],sumN_add,sumN_mulL,Rat.neg_mul,Rat.one_mul,Rat.sub_eq_add_neg]
theorem linI_one {i:Nat}(hi:i<K.length)(l:List Int):linI h K (fun j=>if i=j then 1 else 0) l=h (K.getD i []) l:=by
 unfold linI
 rw [sumN_congr (g:=fun j=>if i=j then h (K.getD j []) l else 0) fun j _=>by
  show (if i=j then (1:Rat) else 0)*_=_
  split
  ·rw [Rat.one_mul]
  ·rw [Rat.zero_mul]]
 exact sumN_pick (v:=fun j=>h (K.getD j []) l) hi
theorem getD_memK {i:Nat}(hi:i<K.length):K.getD i [] ∈ K:=getD_mem hi []
theorem FirstI.only (f:FirstI k h K){d:Nat→Rat}(e:∀ l,InW k l→linI h K c l=linI h K d l){i:Nat}(hi:i<K.length):c i=d i:=by
 have:=f.ind (fun i=>c i-d i) (fun l hl=>by rw [linI_sub,e l hl,Rat.sub_self]) i hi
 exact sub0_eq this
theorem linI_swap {d:Nat→Nat→Rat}{l:List Int}(e:∀ j,j<K'.length→h (K'.getD j []) l=linI h K (d j) l):linI h K' c l=linI h K (fun i=>sumN (fun j=>c j*d j i) K'.length) l:=by
 have e1:linI h K' c l=sumN (fun j=>c j*sumN (fun i=>d j i*h (K.getD i []) l) K.length) K'.length:=sumN_congr fun j hj=>by rw [e j hj];rfl
 rw [e1]
 unfold linI
 exact (swap_sum c (fun j i=>d j i) (fun i=>h (K.getD i []) l)).symm
theorem FirstI.mem_of (f:FirstI k h K)(f':FirstI k h K')(hu:u ∈ K):u ∈ K':=by
 refine Decidable.byContradiction fun hn=>?_
 obtain ⟨i,hi,e⟩:=List.mem_iff_getElem.1 hu
 have eg:K.getD i []=u:=by rw [gd9,ge9 hi,Option.getD_some,e]
 obtain ⟨c,c0,hc⟩:=f'.reach u (f.inW u hu)
 have ex:∀ j:Nat,∃ d:Nat→Rat,j<K'.length→(∀ i,i<K.length→0<slx (K.getD i []) (K'.getD j [])→d i=0)∧∀ l,InW k l→h (K'.getD j []) l=linI h K d l:=fun j=>by
  by_cases hj:j<K'.length
  ·obtain ⟨d,hd⟩:=f.reach _ (f'.inW _ (getD_memK hj))
   exact ⟨d,fun _=>hd⟩
  ·exact ⟨fun _=>0,fun x=>absurd x hj⟩
 obtain ⟨d,hd⟩:=Classical.axiomOfChoice ex
 have h1:∀ l,InW k l→linI h K (fun j=>if i=j then 1 else 0) l=linI h K (fun i=>sumN (fun j=>c j*d j i) K'.length) l:=fun l hl=>by
  rw [linI_one hi,eg,hc l hl]
  exact linI_swap fun j hj=>(hd j hj).2 l hl
 have h2:=f.only h1 hi
 rw [if_pos rfl] at h2
 have h3:sumN (fun j=>c j*d j i) K'.length=0:=sumN_zero fun j hj=>by
  by_cases hp:0<slx (K'.getD j []) u
  ·rw [c0 j hj hp,Rat.zero_mul]
  ·have hne:K'.getD j []≠u:=fun e=>hn (e ▸ getD_memK hj)
   have hlt:slx (K'.getD j []) u<0:=slx_of_le (by omega) hne
   have hgt:0<slx (K.getD i []) (K'.getD j []):=by
    rw [eg]
    have:=slx_neg (K'.getD j []) u
    omega
   rw [(hd j hj).1 i hi hgt,Rat.mul_zero]
 rw [h3] at h2
 exact absurd h2 (by decide)
theorem FirstI.unique (f:FirstI k h K)(f':FirstI k h K'):K=K':=sorted_eq f.ord f'.ord fun _=>⟨f.mem_of f',f'.mem_of f⟩
theorem FirstI.congr (f:FirstI k h K)(e:∀ u l,InW k u→InW k l→g u l=h u l):FirstI k g K:=by
 have el:∀ (c:Nat→Rat) l,InW k l→linI g K c l=linI h K c l:=fun c l hl=>sumN_congr fun i hi=>by rw [e _ l (f.inW _ (getD_memK hi)) hl]
 refine ⟨f.ord,f.inW,fun w hw=>?_,fun c hc=>f.ind c fun l hl=>by rw [← el c l hl];exact hc l hl⟩
 obtain ⟨c,c0,hc⟩:=f.reach w hw
 exact ⟨c,c0,fun l hl=>by rw [e w l hw hl,hc l hl,el c l hl]⟩
theorem inW_rev (h:InW k w):InW k w.reverse:=fun x hx=>h x (List.mem_reverse.1 hx)
theorem FirstI.rev (f:FirstI k h K):FirstI k (fun u l=>h u l.reverse) K :=
 ⟨f.ord,f.inW,fun w hw=>by
  obtain ⟨c,c0,hc⟩:=f.reach w hw
  exact ⟨c,c0,fun l hl=>hc _ (inW_rev hl)⟩,fun c hc=>f.ind c fun l hl=>by
  have:=hc l.reverse (inW_rev hl)
  unfold linI at this ⊢
  dsimp only at this
  rw [List.reverse_reverse] at this
  exact this⟩
end
section
variable {n k:Nat}{K:List (List Int)}{f:List Int→List Rat}{u:Nat→Rat}{rs:List SRow}
theorem span_coefK {p:List Int→Bool}(h:SpanV n ((K.filter p).map f) u):∃ c:Nat→Rat,(∀ i,i<K.length→p (K.getD i [])=false→c i=0)∧∀ j,j<n→u j=sumN (fun i=>c i*(f (K.getD i [])).getD j 0) K.length:=by
 induction h with
 | zero h=>exact ⟨fun _=>0,fun _ _ _=>rfl,fun j hj=>by rw [h j hj];exact (sumN_zero fun i _=>Rat.zero_mul _).symm⟩
 | @add u u' b a hb _ h ih =>
  obtain ⟨c,c0,hc⟩:=ih
  obtain ⟨z,hz,rfl⟩:=List.mem_map.1 hb
  obtain ⟨hz1,hz2⟩:=List.mem_filter.1 hz
  obtain ⟨i0,hi0,e⟩:=List.mem_iff_getElem.1 hz1
  have eg:K.getD i0 []=z:=by rw [gd9,ge9 hi0,Option.getD_some,e]
  refine ⟨fun i=>c i+if i0=i then a else 0,fun i hi hp=>?_,fun j hj=>?_⟩
  ·have hne:i0≠i:=fun x=>by rw [← x,eg,hz2] at hp;cases hp
   show c i+(if i0=i then a else 0)=0
   rw [c0 i hi hp,if_neg hne,Rat.add_zero]
  ·rw [h j hj,hc j hj]
   rw [sumN_congr (f:=fun i=>(c i+if i0=i then a else 0)*(f (K.getD i [])).getD j 0) (g:=fun i=>c i*(f (K.getD i [])).getD j 0+if i0=i then a*(f (K.getD i [])).getD j 0 else 0) fun i _=>by
    rw [Rat.add_mul]
    congr 1
    split
    ·rfl
    ·rw [Rat.zero_mul],sumN_add,sumN_pick (v:=fun i=>a*(f (K.getD i [])).getD j 0) hi0,eg]
theorem span_erase {c:Nat→Rat}{i0:Nat}(h0:c i0=0)(e:∀ j,j<n→u j=sumN (fun i=>c i*(f (K.getD i [])).getD j 0) K.length):SpanV n ((K.eraseIdx i0).map f) u:=by
 have key:∀ t,t≤K.length→SpanV n ((K.eraseIdx i0).map f) fun j=>sumN (fun i=>c i*(f (K.getD i [])).getD j 0) t:=by
  intro t
  induction t with
  | zero=>intro _;exact .zero fun _ _=>rfl
  | succ t ih =>
   intro ht
   by_cases hti:t=i0
   ·refine (ih (by omega)).congr fun j _=>?_
    rw [sumN,hti,h0,Rat.zero_mul,Rat.add_zero]
   ·refine .add (b:=f (K.getD t [])) (c t) (List.mem_map.2 ⟨K.getD t [],?_,rfl⟩) (ih (by omega)) fun j _=>by rw [sumN]
    refine List.mem_eraseIdx_iff_getElem.2 ⟨t,by omega,hti,?_⟩
    rw [gd9,ge9 (by omega)];rfl
 exact (key K.length (Nat.le_refl _)).congr e
theorem vec_ind (e:Ech n rs)(hl:rs.length=K.length)(hr:∀ r,r ∈ rs→SpanV n (K.map f) (vf r.v)){c:Nat→Rat}(h:∀ j,j<n→sumN (fun i=>c i*(f (K.getD i [])).getD j 0) K.length=0):∀ i,i<K.length→c i=0:=by
 intro i0 hi0
 refine Decidable.byContradiction fun hne=>?_
 have h1:SpanV n ((K.eraseIdx i0).map f) (vf (f (K.getD i0 []))):=by
  refine span_erase (c:=fun i=>if i0=i then 0 else -(1 / c i0)*c i) (if_pos rfl) fun j hj=>?_
  have e1:sumN (fun i=>(if i0=i then 0 else -(1 / c i0)*c i)*(f (K.getD i [])).getD j 0) K.length = -(1 / c i0)*sumN (fun i=>c i*(f (K.getD i [])).getD j 0) K.length+sumN (fun i=>if i0=i then (1 / c i0)*c i*(f (K.getD i [])).getD j 0 else 0) K.length:=by
   rw [← sumN_mulL,← sumN_add]
   refine sumN_congr fun i _=>?_
   split
   ·rw [Rat.zero_mul,Rat.neg_mul,← Rat.mul_assoc,Rat.neg_add_cancel]
   ·rw [Rat.add_zero,Rat.mul_assoc]
  rw [e1,h j hj,Rat.mul_zero,Rat.zero_add,sumN_pick (v:=fun i=>(1 / c i0)*c i*(f (K.getD i [])).getD j 0) hi0,Rat.div_mul_cancel hne,Rat.one_mul]
 have h2:∀ r,r ∈ rs→SpanV n ((K.eraseIdx i0).map f) (vf r.v):=fun r hr'=>(hr r hr').trans fun b hb=>by
  obtain ⟨z,hz,rfl⟩:=List.mem_map.1 hb
  by_cases hzm:z ∈ K.eraseIdx i0
  ·exact .mem (List.mem_map.2 ⟨z,hzm,rfl⟩)
  ·obtain ⟨t,ht,rfl⟩:=List.mem_iff_getElem.1 hz
   have hti:t=i0:=Decidable.byContradiction fun hx=>hzm (List.mem_eraseIdx_iff_getElem.2 ⟨t,ht,hx,rfl⟩)
   subst hti
   have eg:K[t]=K.getD t []:=by rw [gd9,ge9 ht];rfl
   rw [eg];exact h1
 have h3:=span_len _ rs e h2
 rw [lm9,List.length_eraseIdx,if_pos hi0] at h3
 omega
end
end Go.AL
