/-
  Walks: ref01.Mul (printed by mk2.py).
-/
import Derived.Test.YtfebfmplcjdomaaGreatDoorKWkQ
import Derived.Test.YtfebfmplcjdomaaGreatDoorKRefC
set_option linter.unusedVariables false
set_option linter.unusedSimpArgs false
namespace Go.Proofs.YtfebfmplcjdomaaGreatDoor
open Go Go.AL
theorem not_some {α:Type} (o:Option α):(!o.isSome)=o.isNone:=by cases o <;> rfl
structure Au.Take (a:Au) (s:Nat):Prop where
 fit:Au.Fit a s
 few:a.Few
 st1:1≤a.st
theorem spR_take {m:Mach} {L K:List (List Int)} {i:Nat} (hi:i < K.length):spR m L (K.take (i+1))=addS (spR m L (K.take i)) (viewM m L (K.getD i [])):=by
 rw [take_snoc [] hi,spR_snoc]
theorem fit1 {a:Au} {s:Nat} (f:Au.Fit a s):∀ x,x ∈ [a]→Au.Fit x s:=fun x hx=>by rw [List.mem_singleton.1 hx];exact f
theorem fit2 {a b:Au} {s:Nat} (f:Au.Fit a s) (g:Au.Fit b s):∀ x,x ∈ [a,b]→Au.Fit x s:=fun x hx=>by
 rcases List.mem_cons.1 hx with rfl | hx
 ·exact f
 ·rw [List.mem_singleton.1 hx];exact g
theorem mach1 {a:Au} {s:Nat} (t:Au.Take a s) (s4:s≤4):(machL [a]).Ok∧(machL [a]).Full∧(machL [a]).Sz 24∧(machL [a]).n=a.st :=
 ⟨mach_ok1 t.fit.ok,machL_full _,machL_sz (fun x hx=>by rw [List.mem_singleton.1 hx];exact t.few) (by rw [size_one];have:=t.few.st;omega) (by show a.sym≤4;rw [t.fit.sym];exact s4),size_one⟩
theorem mach2 {a b:Au} {s:Nat} (t:Au.Take a s) (u:Au.Take b s) (s4:s≤4) (h6:a.st+b.st≤6):(machL [a,b]).Ok∧(machL [a,b]).Full∧(machL [a,b]).Sz 24 :=
 ⟨mach_ok2 t.fit.ok u.fit.ok,machL_full _,machL_sz (fun x hx=>by
  rcases List.mem_cons.1 hx with rfl | hx
  ·exact t.few
  ·rw [List.mem_singleton.1 hx];exact u.few) (by rw [size_two];omega) (by show a.sym≤4;rw [t.fit.sym];exact s4)⟩
set_option maxHeartbeats 800000 in
theorem EqualA {a b:Au} {s:Nat} (t:Au.Take a s) (u:Au.Take b s) (s4:s≤4) (h6:a.st+b.st≤6):FSpec P F.equal_Equal [vAu a,vAu b] (.tup [.d (dB (eqA a b).isNone),.d (ints ((eqA a b).getD [])),.d (dI 0)]):=by
 obtain ⟨ok,fl,z6⟩:=mach2 t u s4 h6
 have h1:=t.few.st
 have h2:=u.few.st
 have h3:=t.st1
 have hsz:sizeL [a,b]=a.st+b.st:=size_two
 refine FSpec.intro fn.equal_Equal (by rfl) (by rfl) (nb9 (by rfl)) fun E hE=>(AW.sg hE rfl (bxA rfl rfl fun b2=>(bxA rfl rfl fun b3=>(asD rfl (asM rfl (asD rfl (OL.nil ?_)))))))
 refine AW.seq (AW.sg hE rfl (ldPA ag.Auto rfl rfl (vs:=[_,_,_,_,_,_,_]) rfl (nb9 rfl) (ldPA ag.Auto rfl rfl (vs:=[_,_,_,_,_,_,_]) rfl (nb9 rfl) (lt2 (y:=dAu a) (y2:=dAu b) sl.Autos vd_au vd_au ⟨rfl,rfl⟩ (by decide) (clv rfl (.cons (VLe.refl _) (.nil)) (CheckA (l:=[a,b]) (s:=s) (fit2 t.fit u.fit) ⟨Nat.le_of_ble_eq_true rfl,Nat.le_of_ble_eq_true rfl⟩) (asD rfl (OL.nil ?_)))))))
 refine AW.sg hE rfl (mvD rfl (c_neq rfl rfl (c:=false) (by exact cne_f (by omega)) (OL.nil (AW.cond rfl (fun hno=>absurd hno (by decide)) (fun _=>?_)))))
 refine AW.skip (AW.sg hE rfl (ldPA ag.Auto rfl rfl (vs:=[_,_,_,_,_,_,_]) rfl (nb9 rfl) (ldPA ag.Auto rfl rfl (vs:=[_,_,_,_,_,_,_]) rfl (nb9 rfl) (lt2 (y:=dAu a) (y2:=dAu b) sl.Autos vd_au vd_au ⟨rfl,rfl⟩ (by decide) (clv rfl (.cons (VLe.refl _) (.nil)) (OfQ (l:=[a,b]) (by rw [show (([a,b]:List Au).getD 0 default).sym=s from t.fit.sym];exact fit2 t.fit u.fit) ⟨Nat.le_of_ble_eq_true rfl,Nat.le_of_ble_eq_true rfl⟩ (by omega) (by omega)) (clv rfl (.cons (VLe.refl _) (.nil)) (FSpecE_data (differQ (m:=machL [a,b]) ok fl z6)) ?_))))))
 rw [show firstNZ (machL [a,b])=eqA a b from rfl]
 refine mvT rfl (ex rfl rfl (ex rfl rfl (asD rfl (asD rfl (OL.nil (AW.sg hE rfl (mvD rfl ?_)))))))
 exact nt rfl (mvD rfl (asD rfl (asD rfl (asD rfl (OL.nil (AW.ret (RetQ.r ⟨_,.tmp rfl (.tmp rfl (.tmp rfl .nil)),_,.cons (.le (VLe.bool (not_some _))) (.cons (.le (VLe.refl _)) (.cons (.le (VLe.refl _)) .nil)),rfl⟩)))))))
set_option maxRecDepth 8000 in
set_option maxHeartbeats 3200000 in
theorem RankA {a:Au} {s:Nat} (t:Au.Take a s) (s4:s≤4):FSpec P F.equal_Rank [vAu a] (.tup [.d (dI (rkA a)),.d (dI 0)]):=by
 obtain ⟨ok,fl,z6,hn⟩:=mach1 t s4
 have h1:=t.few.st
 have h3:=t.st1
 have hsz:sizeL [a]=a.st:=size_one
 have n6:=z6.n6
 refine FSpec.intro fn.equal_Rank (by rfl) (by rfl) (nb9 (by rfl)) fun E hE=>(AW.sg hE rfl (bxA rfl rfl fun b1=>(asD rfl (asD rfl (OL.nil (AW.seq (AW.sg hE rfl ?_)))))))
 refine ldPA ag.Auto rfl rfl (vs:=[_,_,_,_,_,_,_]) rfl (nb9 rfl) (lt1 (y:=dAu a) sl.Autos vd_au rfl (by decide) (clv rfl (.cons (VLe.refl _) (.nil)) (CheckA (l:=[a]) (s:=s) (fit1 t.fit) ⟨Nat.le_of_ble_eq_true rfl,Nat.le_of_ble_eq_true rfl⟩) (asD rfl (OL.nil (AW.sg hE rfl (mvD rfl (c_neq rfl rfl (c:=false) (by exact cne_f (by omega)) ?_)))))))
 refine OL.nil (AW.cond rfl (fun hno=>absurd hno (by decide)) (fun _=>?_))
 refine AW.skip (AW.sg hE rfl (ldPA ag.Auto rfl rfl (vs:=[_,_,_,_,_,_,_]) rfl (nb9 rfl) (lt1 (y:=dAu a) sl.Autos vd_au rfl (by decide) (clv rfl (.cons (VLe.refl _) (.nil)) (OfQ (l:=[a]) (by rw [show (([a]:List Au).getD 0 default).sym=s from t.fit.sym];exact fit1 t.fit) ⟨Nat.le_of_ble_eq_true rfl,Nat.le_of_ble_eq_true rfl⟩ (by omega) (by omega)) (al z.Machine rfl fun b5=>(sto sz.Machine rfl rfl rfl rfl rfl (nb9 rfl) (cells2:=[_,_,_]) rfl (OL.nil ?_)))))))
 refine AW.seq (AW.regionK (by rw [hE];rfl) (SK.ofOL (ldPA ag.Machine rfl rfl (vs:=[_,_,_]) rfl (nb9 rfl) (OL.nil ?_))))
 refine SK.ofSO (SO.callE (args':=[vMach (machL [a])]) (show 20 < E.n by rw [hE];exact Nat.le_of_ble_eq_true (by rfl)) rfl (VLes.refl _) (Mc:=noMem) (fun _ _ h=>by cases h) (ViewsQ (m:=(machL [a])) ok fl z6 (by omega)) (fun _ _ _ h=>h) ?_)
 rintro y1 hI1
 have hI1:InvB (turnM (machL [a])) 16777215 [] y1:=hI1
 refine SK.ofOL (bd z.Space pl.Space (cs:=[_,_,_]) rfl (OL.nil ?_))
 refine SK.ofOL (bxA rfl rfl fun b22=>OL.nil ?_)
 refine SK.ofOL (asF rfl (OL.nil ?_))
 refine SK.ofOL (asP rfl (OL.nil ?_))
 refine SK.nil (AW.seq (AW.seq (AW.regionK (by rw [hE];rfl) (SK.ofOL (ldPA ag.Machine rfl rfl (vs:=[_,_,_]) rfl (nb9 rfl) (OL.nil ?_))))))
 refine SK.ofSO (SO.callE (args':=[vMach (machL [a])]) (show 24 < E.n by rw [hE];exact Nat.le_of_ble_eq_true (by rfl)) rfl (VLes.refl _) (Mc:=noMem) (fun _ _ h=>by cases h) (BasisQ (m:=(machL [a])) ok fl z6) (fun _ _ _ h=>h) ?_)
 rintro y2 hI2
 have hI2:InvB (machL [a]) 16777215 [] y2:=hI2
 refine SK.ofOL (lnL sl.Rows rfl rfl (OL.nil ?_))
 refine SK.ofOL (mvD (y:=dI 0) rfl (OL.nil ?_))
 refine SK.nil ?_
 obtain ⟨hf1,hf1n⟩:=hI1.few
 obtain ⟨hf2,hf2n⟩:=hI2.few
 have hn1:y1.ks.length≤(machL [a]).n:=hf1n
 have h51:=hI1.five n6
 have h52:=hI2.five n6
 have hzv:∀ u9,u9 ∈ y2.ks→∀ j,sz ((viewM (machL [a]) y1.ks u9).getD j 0)≤16777215:=fun u9 hu j=>Nat.le_trans (view_sz z6 (h52 u9 hu) h51 j) (by decide)
 refine AW.block (AW.rename 22 1000 rfl (AW.deadR 1001 T.Rats 1 rfl (AW.deadR 1002 T.Rats 1 rfl (AW.deadR 1003 T.int 1 rfl (AW.boxW 1000 [.osl 1001 0 0 0,.osl 1002 0 0 0,.osl 1003 0 0 0] rfl (.cons vle_mtO (.cons vle_mtO (.cons vle_mtO .nil))) ?_)))))
 refine AW.whileK (α:=Nat × SpB) [(2,_),(3,_),(6,_),(24,_),(25,_)] [] (fun (i,B)=>[(26,.d (dI i)),(7,.ptr 1000 b22 0)]) (fun (i,B)=>[(1000,boxS b22 B (spR (machL [a]) y1.ks (y2.ks.take i))),(1001,rowV B (spR (machL [a]) y1.ks (y2.ks.take i))),(1002,rowC B (spR (machL [a]) y1.ks (y2.ks.take i))),(1003,rowP B (spR (machL [a]) y1.ks (y2.ks.take i)))]) (fun (i,B)=>i≤y2.ks.length) (fun (i,B)=>y2.ks.length - i) (0,default) (.cons (knD rfl) (.cons (knD rfl) (.cons (knF rfl) (.cons (knD rfl) (.cons (knD rfl) .nil))))) .nil ⟨Nat.zero_le _,.cons (VLe.refl _) (.cons (VLe.ptr) .nil),.cons rfl (.cons rfl (.cons rfl (.cons rfl .nil)))⟩ ?_
 rintro ⟨i,B⟩ h4
 have h4:i≤y2.ks.length:=h4
 refine AW.sg hE rfl (c_lss rfl rfl rfl (OL.nil (AW.seq (AW.cond rfl (fun h27=>?_) (fun h27=>?_)))))
 ·try simp only [dx9] at h27
  refine AW.skip (AW.seq (AW.block (AW.seq ?_)))
  have hi:i < y2.ks.length:=by omega
  have hu:=getD_mem hi []
  have hu5:=h52 _ hu
  obtain ⟨spo,_⟩:=spR_ok (m:=(machL [a])) (L:=y1.ks) (K:=y2.ks.take i) (B:=16777215) (by decide) fun u9 hu9=>hzv u9 (List.mem_of_mem_take hu9)
  refine AW.rg hE rfl (ixLn sl.Rows [] rfl rfl hi rfl rfl (ldRA ag.Row rfl (vs:=[_,_]) rfl (nb9 rfl) (al z.Row rfl fun b9=>(sto sz.Row rfl rfl rfl rfl rfl (nb9 rfl) (cells2:=[_,_]) rfl (OL.nil (AW.regionK (by rw [hE];rfl) (SK.ofOL (mvP rfl (OL.nil ?_)))))))))
  refine SK.ofOL (mvF rfl (OL.nil ?_))
  refine SK.ofOL (faP fd.Row_1 rfl rfl (OL.nil ?_))
  refine SK.ofOL (ldPC ce.Rats rfl rfl (v:=.d (dQs (vecM (machL [a]) (y2.ks.getD i [])))) rfl (OL.nil ?_))
  refine SK.ofOL (clv rfl (VLes.refl _) (Views_1 (m:=(machL [a])) (L:=y1.ks) (u:=(y2.ks.getD i [])) ok z6 (by omega) (by omega) (fun l hl=>Nat.le_succ_of_le (h51 l hl))) (OL.nil ?_))
  refine SK.ofSO (SO.callE (args':=[.ptr 1000 b22 0,.d (dQs (viewM (machL [a]) y1.ks (y2.ks.getD i [])))]) (show 35 < E.n by rw [hE];exact Nat.le_of_ble_eq_true (by rfl)) rfl (VLes.refl _) (Mc:=spM b22 B (spR (machL [a]) y1.ks (y2.ks.take i))) (fun id blk hk=>lk_own (l:=spL b22 B (spR (machL [a]) y1.ks (y2.ks.take i))) (.cons rfl (.cons rfl (.cons rfl (.cons rfl trivial)))) id blk hk) (AddS (b:=b22) (B:=B) spo view_len (by omega) (hzv _ hu)) (fun x _ id hk=>spM_none id hk) ?_)
  rintro B2 -
  rw [← spR_take hi]
  refine SK.nil (AW.rg hE rfl (add_i64 rfl rfl (by omega) (mvD rfl (OL.nil ?_))))
  exact AW.again (x:=(i,B)) (i+1,B2) (by (simp only [];omega)) ⟨by omega,Knows.app .rq5 .rq2,.cons rfl (.cons rfl (.cons rfl (.cons rfl .nil)))⟩
 ·try simp only [dx9] at h27
  refine AW.exit (AW.seq ?_)
  obtain rfl:i=y2.ks.length:=by omega
  have hrk:(spR (machL [a]) y1.ks y2.ks).length=rkA a:=by
   obtain ⟨V1,j1⟩:=hI1.join
   obtain ⟨V2,j2⟩:=hI2.join
   rw [spR_rank ok (by decide) hzv j2 j1,k_one];rfl
  refine AW.rg hE rfl (mvP rfl ?_)
  refine clC0 (args2:=[.ptr 1000 b22 0]) rfl (VLes.refl _) (SizeS (b:=b22) (B:=B) (rs:=spR (machL [a]) y1.ks (y2.ks.take y2.ks.length))) (fun id blk hk=>lk_own (l:=spL b22 B (spR (machL [a]) y1.ks (y2.ks.take y2.ks.length))) (.cons rfl (.cons rfl (.cons rfl (.cons rfl trivial)))) id blk hk) ?_
  rw [List.take_length,hrk]
  exact asD rfl (asD rfl (OL.nil (AW.ret (RetQ.r ⟨_,.tmp rfl (.tmp rfl .nil),_,.cons (.le (VLe.refl _)) (.cons (.le (VLe.refl _)) .nil),rfl⟩))))
end Go.Proofs.YtfebfmplcjdomaaGreatDoor

set_option linter.unusedVariables false
set_option linter.unusedSimpArgs false
namespace Go.Proofs.YtfebfmplcjdomaaGreatDoor
open Go Go.AL
theorem ref_Mul {x y:Raw} (hx:x.Ok) (hy:y.Ok):FSpec P F.ref01_Mul [vRaw x,vRaw y] (vQ (x.q * y.q)):=by
 have a1:=q_sz hx hx.ln hx.ld (by decide)
 have a2:=q_sz hy hy.ln hy.ld (by decide)
 have sn1:=sz_num x.q
 have sn2:=sz_num y.q
 have sd1:=sz_den x.q
 have sd2:=sz_den y.q
 have sdd:=len_mul x.q.den y.q.den
 have dd0:=Nat.mul_ne_zero x.q.den_nz y.q.den_nz
 have snn:=len_mul x.q.num.natAbs y.q.num.natAbs
 have hp:=fr_mul (s:=decide (x.q.num < 0)) (t:=decide (y.q.num < 0)) (a:=x.q.num.natAbs) (b:=y.q.num.natAbs) (d1:=x.q.den) (d2:=y.q.den)
 rw [fr_ofQ,fr_ofQ] at hp
 refine FSpec.intro fn.ref01_Mul (by rfl) (by rfl) (nb9 (by rfl)) fun E hE=>(AW.sg hE rfl (bxA rfl rfl fun b2=>(bxA rfl rfl fun b3=>(al z.Rat rfl fun b4=>(OL.nil (AW.seq (AW.dg 1 [0,1,2,3,4,5] order_free hE rfl (by kernel_rfl) (OI.of_OL (os:=[_,_,_,_,_,_]) rfl ?_))))))))
 refine ldPA ag.Rat rfl rfl (vs:=[_,_,_]) rfl (nb9 rfl) (clv rfl .rq1 (ref_Take (by assumption)) (ldPA ag.Rat rfl rfl (vs:=[_,_,_]) rfl (nb9 rfl) (clv rfl .rq1 (ref_Take (by assumption)) (sto sz.Rat rfl rfl rfl rfl rfl (nb9 rfl) (cells2:=[_,_,_]) rfl (sto sz.Rat rfl rfl rfl rfl rfl (nb9 rfl) (cells2:=[_,_,_]) rfl (OL.nil (AW.seq ?_)))))))
 refine AW.dg 1 [0,1,2,3,4,5,6,7,8,9,10,11,12,13,14,15,16] order_free hE rfl (by kernel_rfl) (OI.of_OL (os:=[_,_,_,_,_,_,_,_,_,_,_,_,_,_,_,_,_]) rfl ?_)
 refine faP fd.Rat_0 rfl rfl (ldPC ce.bool rfl rfl rfl (faP fd.Rat_0 rfl rfl (ldPC ce.bool rfl rfl rfl (neb bt.bool rfl rfl (faP fd.Rat_1 rfl rfl (ldPC ce.u32s rfl rfl rfl (faP fd.Rat_1 rfl rfl ?_)))))))
 refine ldPC ce.u32s rfl rfl rfl (clv rfl .rq2 (ref_timesN (a:=x.q.num.natAbs) (b:=y.q.num.natAbs) (by omega) (by omega)) (ldPA ag.Rat rfl rfl (vs:=[_,_,_]) rfl (nb9 rfl) (clv rfl .rq1 (ref_den) (ldPA ag.Rat rfl rfl (vs:=[_,_,_]) rfl (nb9 rfl) (clv rfl .rq1 (ref_den) (clv rfl .rq2 (ref_timesN (a:=x.q.den) (b:=y.q.den) (by omega) (by omega)) (clv rfl .rq3 (ref_over (s:=(decide (x.q.num < 0) != decide (y.q.num < 0))) (by omega) (by omega) dd0) ?_)))))))
 rw [← hp]
 exact sto sz.Rat rfl rfl rfl rfl rfl (nb9 rfl) (cells2:=[_,_,_]) rfl (OL.nil (AW.ret (RetQ.r ⟨_,.cellA rfl rfl ag.Rat (nb9 rfl) .nil,.ag (.cons (.le (VLe.refl _)) (.cons (.le (VLe.refl _)) (.cons (.le (VLe.refl _)) .nil)))⟩)))
theorem ref_MulQ {x y:Rat} (hx:sz x≤68719476736) (hy:sz y≤68719476736):FSpec P F.ref01_Mul [vQ x,vQ y] (vQ (x * y)):=by
 have h:=ref_Mul (x:=ofQ x) (y:=ofQ y) (ofQ_ok (by omega)) (ofQ_ok (by omega))
 rw [q_ofQ,q_ofQ] at h;exact h
end Go.Proofs.YtfebfmplcjdomaaGreatDoor
