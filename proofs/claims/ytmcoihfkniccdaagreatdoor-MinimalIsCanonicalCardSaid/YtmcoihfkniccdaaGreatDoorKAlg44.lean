/-
  AL, part 44: a region whose order is open, by all of its orders, with calls that hand back owned blocks.
-/
import Derived.Test.YtmcoihfkniccdaaGreatDoorKMod105
import Derived.Test.YtmcoihfkniccdaaGreatDoorKWkAA
set_option linter.unusedVariables false
set_option linter.unusedSimpArgs false
namespace Go.Proofs.YtmcoihfkniccdaaGreatDoor
open Go Go.AL
abbrev cW (q:Rat):List V:=[.d (dB (ofQ q).neg),.d (u32s (ofQ q).num),.d (u32s (ofQ q).den),.d (dI 0),.d (dB false),.d (dU 0),.d (.sl []),.d (.sl [])]
theorem vles_w0:VLes [.d (dB false),.mt,.mt,.d (dI 0),.d (dB false),.d (dU 0),.mt,.mt] (cW 0):=by
 unfold cW;rw [ofQ_zero]
 exact .cons vR (.cons VLe.mt (.cons VLe.mt (.cons vR (.cons vR (.cons vR (.cons VLe.mt (.cons VLe.mt .nil)))))))
theorem vles_wm {q:Rat}:VLes [.d (dB (ofQ q).neg),.d (u32s (ofQ q).num),.d (u32s (ofQ q).den),.d (dI 0),.d (dB false),.d (dU 0),.mt,.mt] (cW q):=.cons vR (.cons vR (.cons vR (.cons vR (.cons vR (.cons vR (.cons VLe.mt (.cons VLe.mt .nil)))))))
theorem vd_wm {q:Rat}:VD (.ag [.d (dB (ofQ q).neg),.d (u32s (ofQ q).num),.d (u32s (ofQ q).den),.d (dI 0),.d (dB false),.d (dU 0),.mt,.mt]) (dW q) :=
 VD.ag (.cons (VC.d _) (.cons (VC.d _) (.cons (VC.d _) (.cons (VC.d _) (.cons (VC.d _) (.cons (VC.d _) (.cons VC.mt (.cons VC.mt .nil))))))))
theorem vd_arcm {x:Arc9}:VD (.ag [.d (dI x.f),.d (dI x.l),.d (dI x.t),.d (dB (ofQ x.q).neg),.d (u32s (ofQ x.q).num),.d (u32s (ofQ x.q).den),.d (dI 0),.d (dB false),.d (dU 0),.mt,.mt]) (dArc x) :=
 VD.ag (.cons (VC.d _) (.cons (VC.d _) (.cons (VC.d _) (.cons (VC.d _) (.cons (VC.d _) (.cons (VC.d _) (.cons (VC.d _) (.cons (VC.d _) (.cons (VC.d _) (.cons VC.mt (.cons VC.mt .nil)))))))))))
theorem rep_snoc {f:Nat→Rat}{n i:Nat}(h:i<n):(((List.range n).map f).take (i+1))=((List.range n).map f).take i++[f i]:=by
 rw [take_snoc9 0 (by simp;exact h),map_getD_range _ _ h]
theorem done_rows {mv:Mach}{B:Nat}{y:KSt}(h:InvS mv B [] y){w:List Int}(hw:InW mv.k w)(ok:mv.Ok):growsS y.rs (vecM mv w)=false:=by
 obtain ⟨V,j,_⟩:=h.join
 refine (grows_iff j.ech (vecM_len ok w)).2 ((j.bfs.reach w hw fun q hq=>by cases hq).trans fun b hb=>?_)
 obtain ⟨u,hu,rfl⟩:=mm9 hb
 exact j.kept u (upTo_mem.1 hu).1
theorem map_getD_K {a:Au}{K:List (List Int)}{i:Nat}(hi:i<K.length):(K.map (serA a)).getD i 0=serA a (K.getD i []):=by
 rw [gd9,List.getElem?_map,ge9 hi,gd9,ge9 hi];rfl
theorem tidy_place {a:Au}(h:1≤a.sym):∀ x,x ∈ tidyA (arcN (machL [a]) (preM (machL [a])))→x.f<(preM (machL [a])).length∧x.t<(preM (machL [a])).length∧1≤x.l∧x.l≤a.sym :=
 PlaceA.tidy (p:=fun f l t=>f<(preM (machL [a])).length∧t<(preM (machL [a])).length∧1≤l∧l≤a.sym) (minR_ok h).arc
theorem minT_ok {a:Au}(h:1≤a.sym):(⟨a.sym,(preM (machL [a])).length,iniN (preM (machL [a])).length,(preM (machL [a])).map (serA a),tidyA (arcN (machL [a]) (preM (machL [a])))⟩:Au).Ok :=
 ⟨h,iniN_len,lm9 ..,tidy_place h⟩
theorem tidy_coef {a:Au}(h:1≤a.sym){x:Arc9}(hx:x ∈ tidyA (arcN (machL [a]) (preM (machL [a])))):x.q=(coefN (machL [a]) (preM (machL [a])) x.f (x.l-1)).getD x.t 0:=by
 obtain ⟨h1,h2,h3,h4⟩:=tidy_place h x hx
 rw [← entA_mem (tidy_asc _) hx h3,entA_tidy]
 exact ent_arcN (by rw [k_one];omega) h1 h2
theorem minT_sz {a:Au}(h:1≤a.sym)(z:(machL [a]).Sz 24)(hK:∀ u,u ∈ preM (machL [a])→u.length≤2)(hnl:(arcN (machL [a]) (preM (machL [a]))).length≤20)(hnz:∀ i s j,sz ((coefN (machL [a]) (preM (machL [a])) i s).getD j 0)≤134217728):(⟨a.sym,(preM (machL [a])).length,iniN (preM (machL [a])).length,(preM (machL [a])).map (serA a),tidyA (arcN (machL [a]) (preM (machL [a])))⟩:Au).Sz 134217728 20:=by
 refine ⟨fun q hq=>?_,fun q hq=>?_,fun x hx=>?_,Nat.le_trans (tidyA_len _) hnl⟩
 ·obtain ⟨i,_,rfl⟩:=mm9 hq
  by_cases h0:i=0
  ·rw [if_pos h0,sz_one];decide
  ·rw [if_neg h0,sz_zero];decide
 ·obtain ⟨u,hu,rfl⟩:=mm9 hq
  show sz (dotM _ _ _)≤_
  have h:=dot_sz (n:=(machL [a]).n) (u:=vf (vecM (machL [a]) u)) (v:=vf (machL [a]).fin) z.n6 (fun i=>vecM_sz z (by have:=hK u hu;omega) i) z.fin
  exact Nat.le_trans h (by decide)
 ·rw [tidy_coef h hx];exact hnz _ _ _
theorem FindS {v:List Rat}{n b:Nat}{B:SpB}{rs:List SRow}(sp:SpOK n 16777215 rs)(hv:v.length=n)(n6:n≤6)(zv:∀ i,sz (v.getD i 0)≤16777215)(hg:growsS rs v=false):FSpecM P F.span_Space_Find [.ptr 1000 b 0,.d (dQs v)] (spM b B rs) (.tup [.d (dQs (takenS rs v)),.d (dB true)]) (spM b B rs):=by
 have hle:=sp.le
 obtain ⟨zl,zt⟩:=sp.sz.last (w:=v) (by omega) zv
 have hvl:(redV rs v).length=v.length:=redV_len _ _
 refine FSpecM.intro fn.span_Space_Find (by rfl) (by rfl) (nb9 (by rfl)) fun E hE=>(AW.sg hE rfl (asM rfl (asD rfl (OL.nil (AW.sg hE rfl (mvP rfl (mvD rfl ?_)))))))
 refine clC0 (args2:=[.ptr 1000 b 0,.d (dQs v)]) rfl vL (reduceS (b:=b) (B:=B) sp hv n6 zv) (fun id blk hk=>lk_own (l:=spL b B rs) (.cons rfl (.cons rfl (.cons rfl (.cons rfl trivial)))) id blk hk) (mvT rfl (ex rfl rfl (ex rfl rfl (asD rfl (asD rfl (OL.nil (AW.seq ?_)))))))
 refine AW.sg hE rfl (mvD rfl (clv rfl vL (firstQ (w:=redV rs v) (by omega) (fun i=>Nat.le_succ_of_le (zl i))) (c_geq rfl rfl (c:=false) (decide_eq_false (by have:=firstI_neg.2 hg;omega)) (OL.nil (cnF rfl ?_)))))
 exact AW.skip (AW.sg hE rfl (mvD rfl (asD rfl (asD rfl (OL.nil (AW.ret ⟨⟨_,.tmp rfl (.tmp rfl .nil),_,.cons (.le vR) (.cons (.le vR) .nil),rfl⟩,fun id blk hk=>lk_own (l:=spL b B rs) (.cons rfl (.cons rfl (.cons rfl (.cons rfl trivial)))) id blk hk⟩))))))
set_option maxRecDepth 8000 in
set_option maxHeartbeats 12800000 in
theorem MinimalA {a:Au}{s:Nat}(t:Au.Take a s)(s1:1≤s)(s2:s≤2)(st4:a.st≤4)(rk3:rkA a≤3):FSpec P F.minimal_Minimal [vAu a] (.tup [vAu (⟨a.sym,(preM (machL [a])).length,(iniN (preM (machL [a])).length),((preM (machL [a])).map (serA a)),tidyA (tidyA (arcN (machL [a]) (preM (machL [a]))))⟩:Au),.d (dI 0)]):=by
 obtain ⟨ok,fl,z6,hn⟩:=mach1 t (Nat.le_trans s2 (by decide))
 have hst1:=t.st1
 have hsz:sizeL [a]=a.st:=size_one
 have hk:(machL [a]).k=a.sym:=k_one
 have hs:a.sym=s:=t.fit.sym
 have hL:BasT (machL [a]):=basT_of ok z6
 obtain ⟨zs,hz,hze⟩:=hL.inv
 obtain ⟨mv,v⟩:=view_of ok hz
 have hl6:=(hL.len (by omega)).1
 have hvn:mv.n=(bL (machL [a])).length:=v.n
 have hl3:∀ l,l ∈ basK (turnM (machL [a]))→l.length≤3:=fun l hl=>by
   have h1:=hz.short l (by rw [hze];exact hl)
   have h2:=hz.b.few.2
   have h3:(turnM (machL [a])).n=(machL [a]).n:=rfl
   omega
 refine FSpec.intro fn.minimal_Minimal (by rfl) (by rfl) (nb9 (by rfl)) fun E hE=>(AW.sg hE rfl (bxA rfl rfl fun b1=>(al z.Auto rfl fun b2=>(asD rfl (OL.nil (AW.seq (AW.sg hE rfl ?_)))))))
 refine ldPA ag.Auto rfl rfl (vs:=[_,_,_,_,_,_,_]) rfl (nb9 rfl) (lt1 (y:=dAu a) sl.Autos vd_au rfl (by decide) (clv rfl vL (CheckA (l:=[a]) (s:=s) (fit1 t.fit) ⟨Nat.le_of_ble_eq_true rfl,Nat.le_of_ble_eq_true rfl⟩) (asD rfl (OL.nil (AW.sg hE rfl (mvD rfl (c_neq rfl rfl (c:=false) (by exact cne_f (by omega)) ?_)))))))
 refine OL.nil (cnF rfl ?_)
 refine AW.skip (AW.sg hE rfl (ldPA ag.Auto rfl rfl (vs:=[_,_,_,_,_,_,_]) rfl (nb9 rfl) (lt1 (y:=dAu a) sl.Autos vd_au rfl (by decide) (clv rfl vL (OfQ (l:=[a]) (by rw [show (([a]:List Au).getD 0 default).sym=s from t.fit.sym];exact fit1 t.fit) ⟨Nat.le_of_ble_eq_true rfl,Nat.le_of_ble_eq_true rfl⟩ (by omega) (by omega)) (al z.Machine rfl fun b5=>(sto sz.Machine rfl rfl rfl rfl rfl (nb9 rfl) (cells2:=[_,_,_]) rfl (OL.nil ?_)))))))
 refine AW.seq (AW.regionK (by rw [hE];rfl) (SK.ofOL (ldPA ag.Machine rfl rfl (vs:=[_,_,_]) rfl (nb9 rfl) (OL.nil ?_))))
 refine SK.ofSO (SO.callNews (args':=[vMach (machL [a])]) (show 32<E.n by rw [hE];exact Nat.le_of_ble_eq_true (by rfl)) rfl vL (prefixesQ (m:=(machL [a])) (mv:=mv) ok fl z6 (by omega) (by omega) hL v) ?_)
 rintro ⟨y,B,b⟩ hI
 have hI:InvS mv 16777215 [] y∧y.rs=rowsB (y.ks.map (viewM (machL [a]) (bL (machL [a])))):=hI
 have e1:y.ks=(preM (machL [a])):=(preM_eq (hz.first ok v hI.1)).symm
 have hrank:y.ks.length=rkA a:=by rw [hz.rank ok v hI.1,hk];rfl
 have hfew:=hI.1.b.few
 have hshort:=hI.1.short
 have hrs:=hI.2
 have hsp:=hI.1.sp
 have hgf:∀ w,InW a.sym w→growsS y.rs ((viewM (machL [a]) (bL (machL [a]))) w)=false:=fun w hw=>by
  have h9:=done_rows hI.1 (w:=w) (by rw [v.k,hk];exact hw) v.ok
  rwa [v.vec w (by rw [hk];exact hw)] at h9
 have hkw:∀ u,u ∈ y.ks→InW a.sym u:=fun u hu=>by have:=hI.1.inW u hu;rwa [v.k,hk] at this
 rw [e1] at hfew hshort hrs hkw hrank
 have hk3:(preM (machL [a])).length≤3:=by omega
 have hk2:∀ u,u ∈ (preM (machL [a]))→u.length≤2:=fun u hu=>by have:=hshort u hu;omega
 dsimp only
 rw [e1]
 refine SK.ofOL (mvT rfl (OL.nil ?_))
 refine SK.ofOL (ex rfl rfl (OL.nil ?_))
 refine SK.ofOL (ex rfl rfl (OL.nil ?_))
 refine SK.ofOL (ex rfl rfl (OL.nil ?_))
 refine SK.ofOL (asD rfl (OL.nil ?_))
 refine SK.ofOL (asP rfl (OL.nil ?_))
 refine SK.ofOL (asF rfl (OL.nil ?_))
 refine SK.nil (AW.sg hE rfl (clv rfl .rq2 (rational_MakeQ (n:=1) (d:=1) (by decide) (by decide) (by decide)) ?_))
 rw [q11]
 refine mvT rfl (ex rfl rfl (ex rfl rfl (al z.Rat rfl fun b9=>(sto sz.Rat rfl rfl rfl rfl rfl (nb9 rfl) (cells2:=[_,_,_]) rfl (asD rfl (OL.nil (AW.sg hE rfl ?_)))))))
 refine bd z.Ring pl.Ring (cs:=[_,_]) rfl (faP fd.Auto_1 rfl rfl (ldPC ce.int rfl rfl rfl (mvD rfl (lnL sl.prexs rfl rfl (bd2 (cs:=[_,_,_,_,_,_,_]) z.Auto pl.Auto (pvC (by exact evA rfl) (pvC (by exact evD rfl) (pvC (by exact evD rfl) (pvN)))) (by rfl) (al z.Auto rfl fun b11=>(sto sz.Auto rfl rfl rfl rfl rfl (nb9 rfl) (cells2:=[_,_,_,_,_,_,_]) rfl ?_)))))))
 refine OL.nil (AW.seq (AW.sg hE rfl (mvD rfl (lnL sl.prexs rfl rfl (mvD rfl (OL.nil (AW.block ?_)))))))
 refine AW.deadR 61 T.Weight 8 rfl (AW.deadR 73 T.Weight 8 rfl (AW.deadR 110 T.Arc 11 rfl ?_))
 refine AW.boxW 11 [.d (dI 1),.d (.sl []),.d (dI a.sym),.d (dI (preM (machL [a])).length),.osl 61 0 0 0,.osl 73 0 0 0,.osl 110 0 0 0] rfl (.cons vR (.cons (VLe.mt) (.cons vR (.cons vR (.cons vle_mtO (.cons vle_mtO (.cons vle_mtO .nil))))))) ?_
 refine AW.whileK (α:=Nat × Nat × Nat × Nat × Nat × Nat × Nat) [(1,_),(2,_),(3,_),(5,_),(7,_),(8,_),(9,_),(11,_),(46,_),(47,_)] [(1,_),(2,_),(5,_),(9,_)] (fun (i,bi,ci,bf,cf,ba,ca)=>[(48,.d (dI i))]) (fun (i,bi,ci,bf,cf,ba,ca)=>[(11,.box b11 T.Auto [.d (dI 1),.d (.sl []),.d (dI a.sym),.d (dI (preM (machL [a])).length),.osl 61 bi i ci,.osl 73 bf i cf,.osl 110 ba (arcX (machL [a]) (preM (machL [a])) i).length ca]),(61,.row bi ci T.Weight 8 (((iniN (preM (machL [a])).length).take i).map dW)),(73,.row bf cf T.Weight 8 ((((preM (machL [a])).map (serA a)).take i).map dW)),(110,.row ba ca T.Arc 11 ((arcX (machL [a]) (preM (machL [a])) i).map dArc)),(1000,boxS b B y.rs),(1001,rowV B y.rs),(1002,rowC B y.rs),(1003,rowP B y.rs)]) (fun (i,bi,ci,bf,cf,ba,ca)=>i≤(preM (machL [a])).length) (fun (i,bi,ci,bf,cf,ba,ca)=>(preM (machL [a])).length-i) (0,0,0,0,0,0,0) (.cons (knP rfl) (.cons (knP rfl) (.cons (knD rfl) (.cons (knP rfl) (.cons (knP rfl) (.cons (knF rfl) (.cons (knP rfl) (.cons (knP rfl) (.cons (knD rfl) (.cons (knD rfl) .nil)))))))))) (.cons (owB rfl) (.cons (owB rfl) (.cons (owB rfl) (.cons (owB rfl) .nil)))) ⟨Nat.zero_le _,.rq1,.cons rfl (.cons rfl (.cons rfl (.cons rfl (.cons rfl (.cons rfl (.cons rfl (.cons rfl .nil)))))))⟩ ?_
 rintro ⟨i,bi,ci,bf,cf,ba,ca⟩ h1
 have h1:i≤(preM (machL [a])).length:=h1
 refine AW.sg hE rfl (c_lss rfl rfl rfl (OL.nil (AW.seq (AW.cond rfl (fun h49=>?_) (fun h49=>?_)))))
 ·try simp only [dx9] at h49
  refine AW.skip (AW.seq (AW.block (AW.seq ?_)))
  have hi:i<(preM (machL [a])).length:=by omega
  have hki:=hk2 _ (getD_mem hi [])
  have hkiw:=hkw _ (getD_mem hi [])
  refine AW.rg hE rfl (mvD rfl (ixLn sl.prexs [] rfl rfl hi rfl rfl (ldRA ag.prex rfl (vs:=[_,_,_]) rfl (nb9 rfl) (al z.prex rfl fun b13=>(asD rfl (sto sz.prex rfl rfl rfl rfl rfl (nb9 rfl) (cells2:=[_,_,_]) rfl (OL.nil ?_)))))))
  refine AW.sg hE rfl (al z.Weight rfl fun b14=>(OL.nil ?_))
  refine AW.midK (α:=List V) [(1,_),(2,_),(3,_),(5,_),(7,_),(8,_),(9,_),(11,_),(12,_),(13,_),(14,_),(46,_),(47,_),(48,_)] [(1,_),(2,_),(5,_),(9,_),(11,_),(13,_),(61,_),(73,_),(110,_),(1000,_),(1001,_),(1002,_),(1003,_)] (fun cs9=>[]) (fun cs9=>[(14,.box b14 T.Weight cs9)]) (fun cs9=>VLes cs9 (cW (if i=0 then 1 else 0))) (.cons (knP rfl) (.cons (knP rfl) (.cons (knD rfl) (.cons (knP rfl) (.cons (knP rfl) (.cons (knF rfl) (.cons (knP rfl) (.cons (knP rfl) (.cons (knD rfl) (.cons (knP rfl) (.cons (knP rfl) (.cons (knD rfl) (.cons (knD rfl) (.cons (knD rfl) .nil)))))))))))))) (.cons (owB rfl) (.cons (owB rfl) (.cons (owB rfl) (.cons (owB rfl) (.cons (owB rfl) (.cons (owB rfl) (.cons (owR rfl) (.cons (owR rfl) (.cons (owR rfl) (.cons (owB rfl) (.cons (owR rfl) (.cons (owR rfl) (.cons (owR rfl) .nil))))))))))))) ?_ ?_
  ·refine AW.sg hE rfl (mvD rfl (c_eql rfl rfl rfl (OL.nil (AW.cond rfl (fun h0=>?_) (fun h0=>?_)))))
   ·have h0:i=0:=by have:=dt9 h0;omega
    refine AW.rg hE rfl (ldPA ag.Rat rfl rfl (vs:=[_,_,_]) rfl (nb9 rfl) (faP fd.Weight_0 rfl rfl (sto sz.Rat rfl rfl rfl rfl rfl (nb9 rfl) (cells2:=[_,_,_,_,_,_,_,_]) rfl (OL.nil ?_))))
    exact AW.reach _ ⟨(by rw [if_pos h0];exact vles_wm (q:=1)),Knows.app .rq14 (.nil),Owns.app (.cons rfl (.cons rfl (.cons rfl (.cons rfl (.cons rfl (.cons rfl (.cons rfl (.cons rfl (.cons rfl (.cons rfl (.cons rfl (.cons rfl (.cons rfl .nil))))))))))))) (.cons rfl .nil)⟩
   ·have h0:¬ i=0:=by have:=df9 h0;omega
    refine AW.skip ?_
    exact AW.reach _ ⟨(by rw [if_neg h0];exact vles_w0),Knows.app .rq14 (.nil),Owns.app (.cons rfl (.cons rfl (.cons rfl (.cons rfl (.cons rfl (.cons rfl (.cons rfl (.cons rfl (.cons rfl (.cons rfl (.cons rfl (.cons rfl (.cons rfl .nil))))))))))))) (.cons rfl .nil)⟩
  intro cs9 hcs
  refine AW.boxW 14 (cW (if i=0 then 1 else 0)) rfl hcs (AW.sg hE rfl (faP fd.Auto_3 rfl rfl (ldPC ce.Weights rfl rfl rfl (ldPA ag.Weight rfl rfl (vs:=[_,_,_,_,_,_,_,_]) rfl (nb9 rfl) (lt1 (y:=dW (if i=0 then 1 else 0)) sl.Weights vd_w rfl (by decide) ?_)))))
  refine apO sl.Weights rfl rfl rfl (by rw [lm9,List.length_take,iniN_len];omega) (VC.d _) (fun y hy=>by rw [ms9 hy];rfl) (by simp only [ls9];omega) (by simp only [ls9];omega) (.inr rfl) (ys:=((iniN (preM (machL [a])).length).take (i+1)).map dW) (by rw [show (iniN (preM (machL [a])).length).take (i+1)=(iniN (preM (machL [a])).length).take i++[if i=0 then 1 else 0] from rep_snoc hi,List.map_append];rfl) (n2:=i+1) rfl fun b61 c61=>?_
  refine faP fd.Auto_3 rfl rfl (sto sz.Weights rfl rfl rfl rfl rfl (nb9 rfl) (cells2:=[_,_,_,_,_,_,_]) rfl (OL.nil (AW.seq (AW.dg 2 [0,1,2,3,4,5,6,7,8,9,10,11,12] order_free hE rfl (by kernel_rfl) (OI.of_OL (os:=[_,_,_,_,_,_,_,_,_,_,_,_,_]) rfl ?_)))))
  refine faP fd.Auto_4 rfl rfl (ldPC ce.Weights rfl rfl rfl (faP fd.prex_0 rfl rfl (faP fd.Row_1 rfl rfl (ldPC ce.Rats rfl rfl rfl (faP fd.Machine_1 rfl rfl (ldPC ce.Rats rfl rfl rfl ?_))))))
  refine clv rfl vL (DotQ (u:=vecM (machL [a]) ((preM (machL [a])).getD i [])) (v:=(machL [a]).fin) (n:=(machL [a]).n) (vecM_len ok _) ok.fin z6.n6 (vecM_sz z6 (by omega)) (fun j=>Nat.le_trans (z6.fin j) (by have:=z6.e24;omega))) ?_
  rw [show dotM (machL [a]).n (vf (vecM (machL [a]) ((preM (machL [a])).getD i []))) (vf (machL [a]).fin)=serA a ((preM (machL [a])).getD i []) from rfl]
  refine bd z.Weight pl.Weight (cs:=[_,_,_,_,_,_,_,_]) rfl (lt1 (y:=dW (serA a ((preM (machL [a])).getD i []))) sl.Weights vd_wm rfl (by decide) ?_)
  refine apO sl.Weights rfl rfl rfl (by rw [lm9,List.length_take,lm9];omega) (VC.d _) (fun y hy=>by rw [ms9 hy];rfl) (by simp only [ls9];omega) (by simp only [ls9];omega) (.inr rfl) (ys:=(((preM (machL [a])).map (serA a)).take (i+1)).map dW) (by rw [take_snoc9 0 (by rw [lm9];exact hi),List.map_append,map_getD_K hi];rfl) (n2:=i+1) rfl fun b73 c73=>?_
  refine faP fd.Auto_4 rfl rfl (sto sz.Weights rfl rfl rfl rfl rfl (nb9 rfl) (cells2:=[_,_,_,_,_,_,_]) rfl (OL.nil (AW.sg hE rfl (asD rfl (OL.nil (AW.block ?_))))))
  refine AW.whileK (α:=Nat × Nat × Nat) [(1,_),(2,_),(3,_),(5,_),(7,_),(8,_),(9,_),(11,_),(12,_),(13,_),(46,_),(47,_),(48,_)] [(1,_),(2,_),(5,_),(9,_),(13,_),(14,_),(61,_),(73,_)] (fun (s9,ba2,ca2)=>[(15,.d (dI ((s9:Int)+1)))]) (fun (s9,ba2,ca2)=>[(11,.box b11 T.Auto [.d (dI 1),.d (.sl []),.d (dI a.sym),.d (dI (preM (machL [a])).length),.osl 61 b61 (i+1) c61,.osl 73 b73 (i+1) c73,.osl 110 ba2 (arcY (machL [a]) (preM (machL [a])) i s9).length ca2]),(110,.row ba2 ca2 T.Arc 11 ((arcY (machL [a]) (preM (machL [a])) i s9).map dArc)),(1000,boxS b B y.rs),(1001,rowV B y.rs),(1002,rowC B y.rs),(1003,rowP B y.rs)]) (fun (s9,ba2,ca2)=>s9≤a.sym) (fun (s9,ba2,ca2)=>a.sym-s9) (0,ba,ca) (.cons (knP rfl) (.cons (knP rfl) (.cons (knD rfl) (.cons (knP rfl) (.cons (knP rfl) (.cons (knF rfl) (.cons (knP rfl) (.cons (knP rfl) (.cons (knD rfl) (.cons (knP rfl) (.cons (knD rfl) (.cons (knD rfl) (.cons (knD rfl) .nil))))))))))))) (.cons (owB rfl) (.cons (owB rfl) (.cons (owB rfl) (.cons (owB rfl) (.cons (owB rfl) (.cons (owB rfl) (.cons (owR rfl) (.cons (owR rfl) .nil)))))))) ⟨Nat.zero_le _,.cons (VLe.int (by omega)) .nil,.cons (by rw [arcY_zero];rfl) (.cons (by rw [arcY_zero];rfl) (.cons rfl (.cons rfl (.cons rfl (.cons rfl .nil)))))⟩ ?_
  rintro ⟨s9,ba2,ca2⟩ h2
  have h2:s9≤a.sym:=h2
  refine AW.seq (AW.sg hE rfl (mvD rfl (faP fd.Auto_1 rfl rfl (ldPC ce.int rfl rfl rfl (c_leq rfl rfl rfl (OL.nil (AW.cond rfl (fun h78=>?_) (fun h78=>?_))))))))
  ·try simp only [dx9] at h78
   refine AW.skip (AW.seq (AW.block (AW.seq ?_)))
   have hs9:s9<a.sym:=by omega
   have hnw:InW a.sym (((preM (machL [a])).getD i [])++[((s9+1:Nat):Int)]):=fun x hx=>by
    rcases mp9 hx with hx|hx
    ·exact hkiw x hx
    ·rw [ms9 hx];omega
   have hcl:(coefN (machL [a]) (preM (machL [a])) i s9).length=(preM (machL [a])).length:=by rw [coefN_len,← hrs];exact hfew.1.symm
   refine AW.rg hE rfl (mvP rfl (mvF rfl (ldPA ag.Machine rfl rfl (vs:=[_,_,_]) rfl (nb9 rfl) (faP fd.prex_0 rfl rfl (faP fd.Row_1 rfl rfl (ldPC ce.Rats rfl rfl rfl (mvD rfl ?_)))))))
   refine clv rfl vL (StepQ (m:=(machL [a])) (s:=s9) (v:=vecM (machL [a]) ((preM (machL [a])).getD i [])) ok fl z6 (vecM_len ok _) (by omega) (vecM_sz z6 (by omega))) ?_
   rw [← vecM_kid]
   refine clv rfl .rq2 (Views_1 (m:=(machL [a])) (L:=bL (machL [a])) (u:=((preM (machL [a])).getD i [])++[((s9+1:Nat):Int)]) ok z6 (by omega) (by rw [la9,ls9];omega) (fun l hl=>Nat.le_trans (hl3 l hl) (by decide))) ?_
   refine clC0 (args2:=[.ptr 1000 b 0,.d (dQs ((viewM (machL [a]) (bL (machL [a]))) (((preM (machL [a])).getD i [])++[((s9+1:Nat):Int)])))]) rfl vL (FindS (n:=mv.n) (b:=b) (B:=B) (rs:=y.rs) hsp (by rw [hvn];exact view_len) (by omega) (fun j=>Nat.le_trans (view_sz3 z6 (by rw [la9,ls9];omega) hl3 j) (by decide)) (hgf _ hnw)) (fun id blk hk=>lk_own (l:=spL b B y.rs) (.cons rfl (.cons rfl (.cons rfl (.cons rfl trivial)))) id blk hk) ?_
   rw [show takenS y.rs ((viewM (machL [a]) (bL (machL [a]))) (((preM (machL [a])).getD i [])++[((s9+1:Nat):Int)]))=(coefN (machL [a]) (preM (machL [a])) i s9) by unfold coefN;rw [hrs]]
   refine mvT rfl (ex rfl rfl (ex rfl rfl (asD rfl (asD rfl (OL.nil (AW.sg hE rfl (mvD rfl ?_)))))))
   refine lnL sl.Rats rfl rfl ?_
   rw [hcl]
   refine mvD rfl (OL.nil (AW.block ?_))
   refine AW.whileK (α:=Nat × Nat × Nat) [(1,_),(2,_),(3,_),(5,_),(7,_),(8,_),(9,_),(11,_),(12,_),(13,_),(15,_),(46,_),(47,_),(48,_),(94,_),(95,_)] [(1,_),(2,_),(5,_),(9,_),(13,_),(14,_),(61,_),(73,_),(1000,_),(1001,_),(1002,_),(1003,_)] (fun (j,ba3,ca3)=>[(96,.d (dI j))]) (fun (j,ba3,ca3)=>[(11,.box b11 T.Auto [.d (dI 1),.d (.sl []),.d (dI a.sym),.d (dI (preM (machL [a])).length),.osl 61 b61 (i+1) c61,.osl 73 b73 (i+1) c73,.osl 110 ba3 (arcZ (machL [a]) (preM (machL [a])) i s9 j).length ca3]),(110,.row ba3 ca3 T.Arc 11 ((arcZ (machL [a]) (preM (machL [a])) i s9 j).map dArc))]) (fun (j,ba3,ca3)=>j≤(preM (machL [a])).length) (fun (j,ba3,ca3)=>(preM (machL [a])).length-j) (0,ba2,ca2) (.cons (knP rfl) (.cons (knP rfl) (.cons (knD rfl) (.cons (knP rfl) (.cons (knP rfl) (.cons (knF rfl) (.cons (knP rfl) (.cons (knP rfl) (.cons (knD rfl) (.cons (knP rfl) (.cons (knD rfl) (.cons (knD rfl) (.cons (knD rfl) (.cons (knD rfl) (.cons (knD rfl) (.cons (knD rfl) .nil)))))))))))))))) (.cons (owB rfl) (.cons (owB rfl) (.cons (owB rfl) (.cons (owB rfl) (.cons (owB rfl) (.cons (owB rfl) (.cons (owR rfl) (.cons (owR rfl) (.cons (owB rfl) (.cons (owR rfl) (.cons (owR rfl) (.cons (owR rfl) .nil)))))))))))) ⟨Nat.zero_le _,.rq1,.cons (by rw [arcZ_zero];rfl) (.cons (by rw [arcZ_zero];rfl) .nil)⟩ ?_
   rintro ⟨j,ba3,ca3⟩ h3
   have h3:j≤(preM (machL [a])).length:=h3
   have hzl:=arcZ_len (m:=(machL [a])) (K:=(preM (machL [a]))) (i:=i) (s:=s9) (j:=j)
   have hm1:=Nat.mul_le_mul (show (machL [a]).k≤2 by omega) hk3
   have hm2:=Nat.mul_le_mul (show i≤3 by omega) hm1
   have hm3:=Nat.mul_le_mul (show s9≤2 by omega) hk3
   refine AW.sg hE rfl (c_lss rfl rfl rfl (OL.nil (AW.seq (AW.cond rfl (fun h97=>?_) (fun h97=>?_)))))
   ·try simp only [dx9] at h97
    refine AW.skip (AW.seq (AW.block (AW.seq ?_)))
    have hj:j<(preM (machL [a])).length:=by omega
    refine AW.rg hE rfl (mvD rfl (ixLn sl.Rats 0 rfl rfl (by omega) rfl rfl (ldRA ag.Rat rfl (vs:=[_,_,_]) rfl (nb9 rfl) (al z.Rat rfl fun b19=>(asD rfl (sto sz.Rat rfl rfl rfl rfl rfl (nb9 rfl) (cells2:=[_,_,_]) rfl (OL.nil ?_)))))))
    refine AW.rg hE rfl (faP fd.Auto_5 rfl rfl (ldPC ce.Arcs rfl rfl rfl (mvD rfl (mvD rfl (mvD rfl (ldPA ag.Rat rfl rfl (vs:=[_,_,_]) rfl (nb9 rfl) (bd z.Weight pl.Weight (cs:=[_,_,_,_,_,_,_,_]) rfl ?_)))))))
    refine bd2 (cs:=[_,_,_,_,_,_,_,_,_,_,_]) z.Arc pl.Arc (pvC (by exact evD rfl) (pvC (by exact evD rfl) (pvC (by exact evD rfl) (pvC (by exact evA rfl) (pvN))))) (by rfl) (lt1 (y:=dArc (arcJ (machL [a]) (preM (machL [a])) i s9 j)) sl.Arcs (vd_arcm (x:=(arcJ (machL [a]) (preM (machL [a])) i s9 j))) rfl (by decide) ?_)
    refine apO sl.Arcs rfl rfl rfl (lm9 ..).symm (VC.d _) (fun y hy=>by rw [ms9 hy];rfl) (by simp only [ls9];omega) (by simp only [ls9];omega) (.inr rfl) (ys:=(arcZ (machL [a]) (preM (machL [a])) i s9 (j+1)).map dArc) (by rw [arcZ_succ,List.map_append];rfl) (n2:=(arcZ (machL [a]) (preM (machL [a])) i s9 (j+1)).length) (by rw [arcZ_succ,la9];rfl) fun b110 c110=>?_
    refine faP fd.Auto_5 rfl rfl (sto sz.Arcs rfl rfl rfl rfl rfl (nb9 rfl) (cells2:=[_,_,_,_,_,_,_]) rfl (OL.nil (AW.rg hE rfl (add_i64 rfl rfl (by omega) (mvD rfl (OL.nil ?_))))))
    exact AW.again (x:=(j,ba3,ca3)) (j+1,b110,c110) (by (simp only [];omega)) ⟨by omega,Knows.app .rq16 .rq1,Owns.app (.cons rfl (.cons rfl (.cons rfl (.cons rfl (.cons rfl (.cons rfl (.cons rfl (.cons rfl (.cons rfl (.cons rfl (.cons rfl (.cons rfl .nil)))))))))))) (.cons rfl (.cons rfl .nil))⟩
   ·try simp only [dx9] at h97
    refine AW.exit ?_
    obtain rfl:j=(preM (machL [a])).length:=by omega
    refine AW.rg hE rfl (mvD rfl (add_i64 rfl rfl (by omega) (asD rfl (OL.nil ?_))))
    exact AW.again (x:=(s9,ba2,ca2)) (s9+1,ba3,ca3) (by (simp only [];omega)) ⟨by omega,Knows.app .rq13 (.cons (VLe.int (by omega)) .nil),Owns.app (.cons rfl (.cons rfl (.cons rfl (.cons rfl (.cons rfl (.cons rfl (.cons rfl (.cons rfl .nil)))))))) (.cons (by rw [← arcZ_all];rfl) (.cons (by rw [← arcZ_all];rfl) (.cons rfl (.cons rfl (.cons rfl (.cons rfl .nil))))))⟩
  ·try simp only [dx9] at h78
   refine AW.exit ?_
   obtain rfl:s9=a.sym:=by omega
   refine AW.rg hE rfl (add_i64 rfl rfl (by omega) (mvD rfl (OL.nil ?_)))
   exact AW.again (x:=(i,bi,ci,bf,cf,ba,ca)) (i+1,b61,c61,b73,c73,ba2,ca2) (by (simp only [];omega)) ⟨by omega,Knows.app .rq10 .rq1,Owns.app (.cons rfl (.cons rfl (.cons rfl (.cons rfl .nil)))) (.cons (by rw [← arcY_all,hk];rfl) (.cons rfl (.cons rfl (.cons (by rw [← arcY_all,hk];rfl) (.cons rfl (.cons rfl (.cons rfl (.cons rfl .nil))))))))⟩
 ·try simp only [dx9] at h49
  refine AW.exit (AW.seq ?_)
  obtain rfl:i=(preM (machL [a])).length:=by omega
  have hnl:(arcN (machL [a]) (preM (machL [a]))).length≤20:=by
   rw [← arcX_all,arcX_len]
   have hm1:=Nat.mul_le_mul (show (machL [a]).k≤2 by omega) hk3
   have hm2:=Nat.mul_le_mul hk3 hm1
   omega
  have hnc:∀ i s9 j,sz ((coefN (machL [a]) (preM (machL [a])) i s9).getD j 0)≤134217728:=fun i s9 j=>coefN_sz z6 hl3 hk2 hk3 (by rw [← hrs];omega) i s9 j
  have hnz:∀ x,x ∈ arcN (machL [a]) (preM (machL [a]))→sz x.q≤134217728:=fun x hx=>by
   obtain ⟨i,hi,s9,hs9,j,hj,rfl⟩:=arcN_mem.1 hx
   exact hnc i s9 j
  refine AW.freeze 61 rfl (AW.boxW 11 [.d (dI 1),.d (.sl []),.d (dI a.sym),.d (dI (preM (machL [a])).length),.d (dWs (iniN (preM (machL [a])).length)),.osl 73 bf (preM (machL [a])).length cf,.osl 110 ba (arcX (machL [a]) (preM (machL [a])) (preM (machL [a])).length).length ca] rfl (.cons vR (.cons vR (.cons vR (.cons vR (.cons (frz_osl (by rw [lm9,List.length_take,iniN_len];omega) (by rw [List.take_of_length_le (by rw [iniN_len];exact Nat.le_refl _)])) .rq2))))) ?_)
  refine AW.freeze 73 rfl (AW.boxW 11 [.d (dI 1),.d (.sl []),.d (dI a.sym),.d (dI (preM (machL [a])).length),.d (dWs (iniN (preM (machL [a])).length)),.d (dWs ((preM (machL [a])).map (serA a))),.osl 110 ba (arcX (machL [a]) (preM (machL [a])) (preM (machL [a])).length).length ca] rfl (.cons vR (.cons vR (.cons vR (.cons vR (.cons vR (.cons (frz_osl (by rw [lm9,List.length_take,lm9];omega) (by rw [List.take_of_length_le (by rw [lm9];exact Nat.le_refl _)])) .rq1)))))) ?_)
  refine AW.freeze 110 rfl (AW.boxW 11 [.d (dI 1),.d (.sl []),.d (dI a.sym),.d (dI (preM (machL [a])).length),.d (dWs (iniN (preM (machL [a])).length)),.d (dWs ((preM (machL [a])).map (serA a))),.d (dArcs (arcN (machL [a]) (preM (machL [a]))))] rfl (.cons vR (.cons vR (.cons vR (.cons vR (.cons vR (.cons vR (.cons (frz_osl (lm9 ..).symm rfl) .nil))))))) ?_)
  refine AW.rg hE rfl (faP fd.Auto_0 rfl rfl (ldPA ag.Ring rfl rfl (vs:=[_,_]) rfl (nb9 rfl) (faP fd.Auto_5 rfl rfl (ldPC ce.Arcs rfl rfl rfl (clv rfl vL (TidyR (l:=arcN (machL [a]) (preM (machL [a]))) hnl hnz) (faP fd.Auto_5 rfl rfl (sto sz.Arcs rfl rfl rfl rfl rfl (nb9 rfl) (cells2:=[_,_,_,_,_,_,_]) rfl ?_)))))))
  refine OL.nil (AW.seq (AW.seq ?_))
  have htl:=tidyA_len (arcN (machL [a]) (preM (machL [a])))
  refine AW.rg hE rfl (faP fd.Auto_5 rfl rfl (ldPC ce.Arcs rfl rfl rfl (lnL sl.Arcs rfl rfl (c_gtr rfl rfl (c:=false) (decide_eq_false (by show ¬ (2048:Int)<((tidyA (arcN (machL [a]) (preM (machL [a])))).length:Int);omega)) (OL.nil (cnF rfl ?_))))))
  refine AW.skip (AW.seq ?_)
  have hmo:=minT_ok (a:=a) (by omega)
  refine AW.rg hE rfl (ldPA ag.Auto rfl rfl (vs:=[_,_,_,_,_,_,_]) rfl (nb9 rfl) ?_)
  refine clv rfl vL (NormalA (a:=(⟨a.sym,(preM (machL [a])).length,(iniN (preM (machL [a])).length),((preM (machL [a])).map (serA a)),tidyA (arcN (machL [a]) (preM (machL [a])))⟩:Au)) hmo (minT_sz (by omega) z6 hk2 hnl hnc) (by show a.sym≤32;omega) (by show (preM (machL [a])).length≤64;omega)) ?_
  refine ex rfl rfl (ex rfl rfl (sto sz.Auto rfl rfl rfl rfl rfl (nb9 rfl) (cells2:=[_,_,_,_,_,_,_]) rfl (asD rfl (OL.nil ?_))))
  exact AW.ret (RetQ.r ⟨_,.cellA rfl rfl ag.Auto (nb9 rfl) (.tmp rfl .nil),_,.cons (.ag (.cons (.le vR) (.cons (.le vR) (.cons (.le vR) (.cons (.le vR) (.cons (.le vR) (.cons (.le vR) (.cons (.le vR) .nil)))))))) (.cons (.le vR) .nil),rfl⟩)
end Go.Proofs.YtmcoihfkniccdaaGreatDoor
namespace Go.AL
open Go Go.BigFrame
section
variable {P:Program}{E:Env}
theorem SG.ofOL {ops:Array Oper}{o:Oper}{K:S→Prop}{s:S}(h:OL P 0 ops K [o] s):SG P E ops o K s:=.inl h
theorem SG.ofSO {ops:Array Oper}{dst:Option Nat}{op:Op}{ty:TypeId}{pos:String}{after:Array Edge}{K:S→Prop}{s:S}(h:SO P E ⟨dst,op,ty,pos,after,none⟩ K s):SG P E ops ⟨dst,op,ty,pos,after,none⟩ K s:=.inr ⟨rfl,h⟩
def OTK (P:Program)(E:Env)(ops:Array Oper)(K:S→Prop):Nat→Array Bool→S→Prop
 | 0,listed,s=>Region.ready .any ops listed=[]∧K s
 | n+1,listed,s=>Region.ready .any ops listed≠[]∧∀ i,i ∈ Region.ready .any ops listed→∃ o,ops[i]? = some o∧SG P E ops o (OTK P E ops K n (listed.setIfInBounds i true)) s
theorem wpAny_treeK {Q:Exit→S→Prop}{ops:Array Oper}(hd:∀ o,o ∈ ops.toList→Below' E.n o.dst) :
  ∀ (fuel:Nat) (listed:Array Bool) (s:S) (F:Hp) (a:Act) (w:World),Run E F s a w→OTK P E ops (Q .normal) fuel listed s→wpAny P .any ops (PostQ E Q) fuel listed a w:=by
 intro fuel
 induction fuel with
 | zero=>exact fun listed s F a w hr h=>⟨h.1,⟨F,s,hr,h.2⟩⟩
 | succ fuel ih =>
  intro listed s F a w hr h
  refine ⟨fun e=>absurd e h.1,fun i hi=>?_⟩
  obtain ⟨o,ho,hog⟩:=h.2 i hi
  exact SG.sound ho hog hr (hd o (by
   obtain ⟨h1,h2⟩:=Array.getElem?_eq_some_iff.1 ho
   rw [← h2];exact Array.getElem_mem_toList h1)) fun F' s' a' w' hr' hk=>ih _ s' F' a' w' hr' hk
theorem AW.region_treeK {id:Nat}{ops:Array Oper}{Q:Exit→S→Prop}{s:S}(hf:P.follows .mixedOrders=true)(hd:dstOK E.n ops=true)
  (h:OTK P E ops (Q .normal) ops.size (Array.replicate ops.size false) s):AW P E (.region id ops true) Q s:=fun F a w hr=>by
 have hrun:Run E F s a { w with drawn:=w.drawn+1 }:=⟨⟨hr.sim.imm,fun id blk hm=>(hr.sim.own id blk hm).keep (Hp.le.refl F) fun _ _=>rfl,hr.sim.apart,hr.sim.inj⟩,⟨hr.grow.os,hr.grow.tape,hr.grow.output,hr.grow.size,hr.grow.block⟩,hr.f0,hr.fnew,hr.mnew,hr.size,hr.defers,hr.slots⟩
 exact wp_region_any hf (wpAny_treeK (dstOK.spec hd) ops.size _ s F a _ hrun h)
def OTKs (P:Program)(E:Env)(ops:Array Oper)(K:S→Prop)(n:Nat)(listed:Array Bool)(s:S):List Nat→List Oper→Prop
 | [],[]=>True
 | i::l,o::os=>SG P E ops o (OTK P E ops K n (listed.setIfInBounds i true)) s∧OTKs P E ops K n listed s l os
 | _,_=>False
theorem OTKs.get {ops:Array Oper}{K:S→Prop}{n:Nat}{listed:Array Bool}{s:S}:∀ (l:List Nat) (os:List Oper),l.map (fun i=>ops[i]?)=os.map some→OTKs P E ops K n listed s l os→∀ i,i ∈ l→∃ o,ops[i]? = some o∧SG P E ops o (OTK P E ops K n (listed.setIfInBounds i true)) s
 | [],_,_,_,i,hi=>by simp at hi
 | j::l,[],h,_,_,_=>by simp at h
 | j::l,o::os,h,ht,i,hi=>by
  simp only [List.map_cons,List.cons.injEq] at h
  rcases List.mem_cons.1 hi with rfl|hi
  ·exact ⟨o,h.1,ht.1⟩
  ·exact OTKs.get l os h.2 ht.2 i hi
theorem OTK.node {ops:Array Oper}{K:S→Prop}{n:Nat}{listed:Array Bool}{s:S}(l:List Nat){os:List Oper}(h:Region.ready .any ops listed=l)(hne:l≠[])(ho:l.map (fun i=>ops[i]?)=os.map some)(ht:OTKs P E ops K n listed s l os):OTK P E ops K (n+1) listed s :=
 ⟨by rw [h];exact hne,fun i hi=>OTKs.get l os ho ht i (by rw [← h];exact hi)⟩
theorem OTK.leaf {ops:Array Oper}{K:S→Prop}{listed:Array Bool}{s:S}(h:Region.ready .any ops listed=[])(hk:K s):OTK P E ops K 0 listed s:=⟨h,hk⟩
end
end Go.AL
