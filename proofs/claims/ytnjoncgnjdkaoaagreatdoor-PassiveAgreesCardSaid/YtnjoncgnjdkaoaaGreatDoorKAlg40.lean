/-
  AL, part 40: a struct of five cells by value, opened and laid as data.
-/
import Derived.Test.YtnjoncgnjdkaoaaGreatDoorKMod134
import Derived.Lib.SmallJoins
set_option linter.unusedVariables false
set_option linter.unusedSimpArgs false
namespace Go.Proofs.YtnjoncgnjdkaoaaGreatDoor
open Go Go.AL
theorem av1 {a:Bool}{i:Int}:V.Flat (.jS [.d (dB a),.d (.sl []),.d (dI i)]):=at1 λx hx=>by
 rcases List.mem_cons.1 hx with rfl|hx
 .exact YE
 .rcases List.mem_cons.1 hx with rfl|hx
  .exact flat_nil
  .rw[lW hx];exact YE
theorem YJ {vs:List Rat}{a:Au}{s:Nat}{g:List Int->Rat}(t:Au.Take a s)(s4:s<=4)(hb:(ah a.sym 4).length<=4000)(hl:vs.length=(ah a.sym 4).length)(zs:Small 16777215 vs)(zg:∀ w,w ∈ ah a.sym 4->sz (g w)<=16777215)(hg:∀ w,w ∈ ah a.sym 4->aj P F.iw [zL a,.d (ints w)] (.jS [vW (g w),.d (dI 0)]))(p2:∀ i,i<(ah a.sym 4).length->g ((ah a.sym 4).getD i [])=vs.getD i 0) :
  aj P F.o7 [zL a,.d (dI 4),.d (iQ vs)] (.jS [.d (dB true),.d (.sl []),.d (dI 0)]):=by
 have h:=YB (m:=3) (p:=(ah a.sym 4).length) t s4 (by decide) hb hl zs zg hg (Nat.le_refl _) p2 (λh=>absurd h (Nat.lt_irrefl _))
 rw[show (3+1:Nat)=4 from rfl,decide_eq_false (Nat.lt_irrefl _),Ai (Nat.le_refl _)] at h
 exact h
theorem aI7 {vs:List Rat}{a:Au}{s k:Nat}{g:List Int->Rat}(t:Au.Take a s)(s4:s<=4)(hb:(ah a.sym 4).length<=4000)(hl:vs.length=(ah a.sym 4).length)(zs:Small 16777215 vs)(zg:∀ w,w ∈ ah a.sym 4->sz (g w)<=16777215)(hg:∀ w,w ∈ ah a.sym 4->aj P F.iw [zL a,.d (ints w)] (.jS [vW (g w),.d (dI 0)]))(hk:k<(ah a.sym 4).length)(p2:∀ i,i<k->g ((ah a.sym 4).getD i [])=vs.getD i 0)(p3:g ((ah a.sym 4).getD k [])≠vs.getD k 0) :
  aj P F.o7 [zL a,.d (dI 4),.d (iQ vs)] (.jS [.d (dB false),.d (ints ((ah a.sym 4).getD k [])),.d (dI 0)]):=by
 have h:=YB (m:=3) (p:=k) t s4 (by decide) hb hl zs zg hg (Nat.le_of_lt hk) p2 (λ_=>p3)
 rw[show (3+1:Nat)=4 from rfl,decide_eq_true hk] at h
 exact h
set_option maxRecDepth 8000 in
set_option maxHeartbeats 6400000 in
theorem IJ {st sy av bv:Int}{fw si:Bool}{L:List Int}(nL:L.length<=9223372036854775807):aj P F.oM [at6 st sy fw si L,.d (dI av),.d (dI bv)] (.d (dB true)):=by
 have hw2:=kR (v:=sy) (m:=2) (by decide)
 have hww:within (within sy 2) 3=within sy 2:=by unfold within;rw[if_neg (by omega),Int.emod_eq_of_lt (by omega) (by omega)]
 refine aj.intro fn.oM (by rfl) (by rfl) (aB (by rfl)) λE hE=>(AW.sg hE rfl (iI rfl rfl λb3=>(aF rfl (OL.nil (AW.sg hE rfl (aW fd.Wl rfl rfl (aG ce.int rfl rfl rfl ?_)))))))
 refine bJ rfl .iq (jg (v:=sy) (m:=2) (by decide)) (aW fd.Wl rfl rfl (eH sz.int rfl rfl rfl rfl rfl (aB rfl) (cells2:=[_,_,_,_,_]) rfl (OL.nil (AW.seq (AW.vC (by rw[hE];rfl) (SK.fM (aO ag.Ze rfl rfl (vs:=[_,_,_,_,_]) rfl (aB rfl) (OL.nil ?_))))))))
 refine SK.IY (SO.JF (args':=[at6 st (within sy 2) fw si L,.d (dI 1),.d (dI (2:Nat))]) (show 30<E.n by rw[hE];exact Nat.le_of_ble_eq_true (by rfl)) rfl vL (Mc:=jO) (λ_ _ h=>by cases h) (au0 (most:=2) (by decide) nL) (λ_ _ _ h=>h) ?_)
 rintro a hp
 have hs1:=hp.ok.Gi;have hs2:a.sym<=2:=by have h9:=hp.sym;rw[hww] at h9;omega
 have hF:(ah a.sym 4).length<=31:=by rcases (by omega:a.sym=1 \/ a.sym=2) with e|e <;> rw[e] <;> decide
 have hF5:5<=(ah a.sym 4).length:=by rcases (by omega:a.sym=1 \/ a.sym=2) with e|e <;> rw[e] <;> decide
 have hvl:((ah a.sym 4).map (iD a)).length=(ah a.sym 4).length:=dJ ..;have hsz:∀ w,w ∈ ah a.sym 4->sz (iD a w)<=16777215:=λw hw=>hp.ser (by decide) (gQ.1 hw).1 (by have:=(gQ.1 hw).2;omega)
 have hzs:Small 16777215 ((ah a.sym 4).map (iD a)):=λq hq=>by
  obtain⟨w,hw,rfl⟩:=mM hq;exact hsz w hw
 have hW8:∀ w,w ∈ ah a.sym 4->aj P F.rW [zL a,.d (ints w)] (.jS [vW (iD a w),.d (dI 0)]):=λw hw=>as9 (aW2 hp (by decide)) (gQ.1 hw).1 (gQ.1 hw).2
 refine SK.fM (al z.Auto rfl λb7=>OL.nil ?_);refine SK.fM (eH sz.Auto rfl rfl rfl rfl rfl (aB rfl) (cells2:=[_,_,_,_,_,_,_]) rfl (OL.nil ?_));refine SK.nil (AW.sg hE rfl (aF rfl (OL.nil (AW.sg hE rfl (aO ag.Auto rfl rfl (vs:=[_,_,_,_,_,_,_]) rfl (aB rfl) (ai rfl (clR rfl .iq (aH6 (a:=a) (n:=4) ⟨hs1,by omega⟩ (by decide) (by omega) hW8) rfl λb33 c33=>?_)))))))
 refine tJ rfl (OL.nil (AW.seq ?_));have aa1:∀ w,w ∈ (ah a.sym 4)->kC a.sym w/\w.length<=4:=λw hw=>gQ.1 hw;have hst:=hp.st;have hs3:=hp.s3;have htk:=au7 hp (by decide)
 have hWa:∀ w,w ∈ (ah a.sym 4)->aj P F.iw [zL a,.d (ints w)] (.jS [vW (iD a w),.d (dI 0)]):=λw hw=>Yz htk.fit.ok htk.few htk.fit.sz htk.fit.s1 (by omega) (aa1 w hw).1 (aa1 w hw).2
 have bs5:=YJ (vs:=(ah a.sym 4).map (iD a)) (g:=iD a) htk (by omega) (by omega) hvl hzs hsz hWa (λi hi=>(II hi).symm)
 have hdw:=kR (v:=bv) (m:=5) (by decide)
 have hd0:((1+within bv 5:Int):Rat)≠0:=λe=>by
  have e2:(1+within bv 5:Int)=0:=by exact_mod_cast e
  omega
 have hdn:(1+within bv 5).natAbs<=100:=by omega
 have av2:∀ w,w ∈ (ah a.sym 4)->w.length<=4:=λw hw=>(aa1 w hw).2;have bE4:sz ((1+within bv 5:Int):Rat)<=1:=IG hdn;refine AW.rg hE rfl (aO ag.Auto rfl rfl (vs:=[_,_,_,_,_,_,_]) rfl (aB rfl) (ai rfl (jq rfl ?_)));refine az5 (pR:=[zL a,.d (dI 4),.bF 33 b33 (ah a.sym 4).length c33]) rfl vL (aj.bg9 av1 bs5 (.cons vR (.cons vR (.cons (dL (by rw[dJ,dJ]) rfl) .nil)))) (dh (id:=33) rfl) ?_
 refine zW rfl (ex rfl rfl (ex rfl rfl (ex rfl rfl (aF rfl (aF rfl (aF rfl (OL.nil ?_)))))));refine AW.sg hE rfl (ai rfl (jq rfl (G5 sl.bQ rfl rfl (bJ rfl .iq (jg (v:=av) (m:=((ah a.sym 4).length:Int)) ⟨by omega,by omega⟩) ?_))))
 obtain⟨k,hkw⟩:∃ k:Nat,within av ((ah a.sym 4).length:Int)=(k:Int):=⟨_,(Int.toNat_of_nonneg (kR (v:=av) (m:=((ah a.sym 4).length:Int)) (by omega)).1).symm⟩
 have hk:k<(ah a.sym 4).length:=by have:=(kR (v:=av) (m:=((ah a.sym 4).length:Int)) (by omega)).2;omega
 rw[hkw];refine aF rfl (OL.nil (AW.seq (AW.dg 1 [0,1,2,3,4,5,6,7,8,9,10,11,12] ay hE rfl (by kernel_rfl) (OI.aK (os:=[_,_,_,_,_,_,_,_,_,_,_,_,_]) rfl ?_))))
 refine jq rfl (ai rfl (jq rfl (ai rfl (iM sl.bQ rfl rfl hk (FT ag.Rat 0 (by decide) rfl rfl (by rw[dJ];exact hk) (vs:=[_,_,_]) rfl (aB rfl) (ai rfl (bJ rfl .iq (jg (v:=bv) (m:=5) (by decide)) ?_)))))))
 refine bo rfl rfl (jB (c:=1+within bv 5) (by omega) (wrap_i64 (by omega))) (bJ rfl vL (Bh (n:=1+within bv 5) (by omega)) (bJ rfl vL (TN (x:=((ah a.sym 4).map (iD a)).getD k 0) (y:=((1+within bv 5:Int):Rat)) (by have:=hzs.get (by decide) k;omega) (by omega)) (iM sl.bQ rfl rfl hk (GI sz.Rat rfl xP rfl rfl (by rw[dJ,dJ];exact hk) (es2:=(sO (ah a.sym 4) (iD a) k ((1+within bv 5:Int):Rat)).map dQ) List.map_set.symm (OL.nil (AW.seq ?_))))))
 refine AW.freeze 33 rfl (AW.to [(9,.d (iQ (sO (ah a.sym 4) (iD a) k ((1+within bv 5:Int):Rat)))),(7,_),(8,_),(10,_),(11,_),(12,_),(13,_)] [(7,_)] (.cons (dL (by rw[dJ,KR]) rfl) .RZ) (.cons rfl .nil) ?_)
 have hz2:Small 2 (sO (ah a.sym 4) (iD a) k ((1+within bv 5:Int):Rat)):=aW5 hp av2 hk hdn;have hzB:Small 16777215 (sO (ah a.sym 4) (iD a) k ((1+within bv 5:Int):Rat)):=λq hq=>Nat.le_trans (hz2 q hq) (by decide)
 have hib:=aI6 hp av2 hk hdn;have hC3:(ah a.sym 1).length<=3:=by rcases (by omega:a.sym=1 \/ a.sym=2) with e|e <;> rw[e] <;> decide
 have bs7:=aI7 (vs:=(sO (ah a.sym 4) (iD a) k ((1+within bv 5:Int):Rat))) (g:=iD a) htk (by omega) (by omega) KR hzB hsz hWa hk (λi hi=>aI4 (by omega) (by omega)) (aW4 hk hd0)
 refine AW.rg hE rfl (aO ag.Auto rfl rfl (vs:=[_,_,_,_,_,_,_]) rfl (aB rfl) (ai rfl (ai rfl (bJ rfl vL (bs7) (zW rfl (ex rfl rfl (ex rfl rfl ?_)))))));refine ex rfl rfl (aF rfl (aF rfl (aF rfl (OL.nil (AW.seq ?_)))));have hwl:((ah a.sym 4).getD k []).length<=4:=av2 _ (getD_mem hk []);refine AW.rg hE rfl (aW fd.qp rfl rfl (aG ce.int rfl rfl rfl (ai rfl (bJ rfl vL (Vk (s:=a.sym) (n:=4) ⟨hs1,by omega⟩ (by decide) (by omega)) (zW rfl (ex rfl rfl (ex rfl rfl ?_)))))))
 refine aF rfl (aF rfl (OL.nil (AW.seq (AW.sg hE rfl (ai rfl (eG rfl rfl (c:=false) (by exact lY (by omega)) (ai rfl ?_)))))))
 refine OL.yes rfl (ai rfl (OL.yes rfl (eG rfl rfl (c:=false) (by exact lY (by omega)) (kL rfl rfl (ai rfl (OL.yes rfl (ai rfl ?_)))))))
 refine OL.yes rfl (nt rfl (kL rfl rfl (ai rfl (OL.yes rfl (ai rfl (OL.yes rfl (fJ (l:=([]:List Int)) (f:=dI) sl.ints rfl rfl ?_)))))));refine OL.yes rfl (iO rfl rfl (c:=false) (decide_eq_false (by decide)) (kL rfl rfl (ai rfl (OL.yes rfl (ai rfl (kL rfl rfl (ai rfl ?_)))))))
 refine OL.yes rfl (ai rfl (OL.yes rfl (fJ (l:=((ah a.sym 4).getD k [])) (f:=dI) sl.ints rfl rfl (OL.yes rfl (ai rfl (OL.yes rfl (ai rfl ?_)))))));refine OL.yes rfl (fO sl.fQ [] rfl rfl hk rfl rfl (OL.yes rfl (iH ce.ints rfl (OL.yes rfl (fJ (l:=((ah a.sym 4).getD k [])) (f:=dI) sl.ints rfl rfl (OL.yes rfl (eG rfl rfl (c:=false) (lY rfl) ?_)))))));refine kL rfl rfl (OL.nil (qW rfl ?_));refine AW.skip (AW.seq (AW.sg hE rfl (aF rfl (OL.nil (AW.block ?_)))));refine AW.aV (α:=Nat) [(7,_),(8,_),(9,_),(13,_),(15,_),(17,_)] [(7,_)] (λi=>[(19,.d (dI i))]) (λi=>[]) (λi=>i<=((ah a.sym 4).getD k []).length) (λi=>((ah a.sym 4).getD k []).length-i) 0 (.cons (gB rfl) (.cons (bK rfl) (.cons (bK rfl) (.cons (bK rfl) (.cons (bK rfl) (.cons (bK rfl) .nil)))))) (.cons (iR rfl) .nil) ⟨Nat.zero_le _,.bZ,.nil⟩ ?_
 rintro i h1
 have h1:i<=((ah a.sym 4).getD k []).length:=h1;refine AW.seq (AW.sg hE rfl (ai rfl (ai rfl (fJ (l:=((ah a.sym 4).getD k [])) (f:=dI) sl.ints rfl rfl (aY rfl rfl rfl (OL.nil (AW.cond rfl (λWN=>?_) (λWN=>?_))))))))
 .try simp only[dX] at WN
  refine AW.skip (AW.seq (AW.block (AW.seq ?_)));have hi:i<((ah a.sym 4).getD k []).length:=by omega
  refine AW.dg 1 [0,1,2,3,4,5,6,7,8,9,10,11] ay hE rfl (by kernel_rfl) (OI.aK (os:=[_,_,_,_,_,_,_,_,_,_,_,_]) rfl ?_)
  refine ai rfl (ai rfl (fO (l:=((ah a.sym 4).getD k [])) (f:=dI) sl.ints 0 rfl rfl hi rfl rfl (iH ce.int rfl (ai rfl (ai rfl (fO sl.fQ [] rfl rfl hk rfl rfl (iH ce.ints rfl ?_)))))));refine ai rfl (fO (l:=((ah a.sym 4).getD k [])) (f:=dI) sl.ints 0 rfl rfl hi rfl rfl (iH ce.int rfl (eG rfl rfl rfl (OL.nil (AW.cond rfl (λhno=>absurd hno ((by simp))) (λ_=>?_))))))
  exact AW.skip (AW.rg hE rfl (ai rfl (aI rfl rfl (by omega) (aF rfl (OL.nil (AW.again (x:=i) (i+1) (by omega) ⟨by omega,Knows.app .RZ .bZ,dw.app (.cons rfl .nil) (.nil)⟩))))))
 .try simp only[dX] at WN
  refine AW.exit (AW.seq (AW.vC (by rw[hE];rfl) (SK.fM (aW fd.qp rfl rfl (OL.nil ?_)))))
  refine SK.fM (aG ce.int rfl rfl rfl (OL.nil ?_));refine SK.fM (ai rfl (OL.nil ?_));refine SK.fM (ai rfl (OL.nil ?_));refine SK.IY (SO.JF (args':=[.d (dI a.sym),.d (dI ((3+1:Nat):Int)),.d (iQ (sO (ah a.sym 4) (iD a) k ((1+within bv 5:Int):Rat)))]) (show 124<E.n by rw[hE];exact Nat.le_of_ble_eq_true (by rfl)) rfl vL (Mc:=jO) (λ_ _ h=>by cases h) (Oq (s:=a.sym) (m:=3) (vs:=(sO (ah a.sym 4) (iD a) k ((1+within bv 5:Int):Rat))) (Z:=2) ⟨hs1,hs2⟩ (by decide) (show (ah a.sym 4).length<=4000 by omega) KR (by decide) (by decide) hz2 hC3 hib) (λ_ _ _ h=>h) ?_)
  rintro y hy
  refine SK.fM (zW rfl (OL.nil ?_));refine SK.fM (ex rfl rfl (OL.nil ?_));refine SK.fM (ex rfl rfl (OL.nil ?_));refine SK.fM (al z.Auto rfl λb20=>OL.nil ?_);refine SK.fM (eH sz.Auto rfl rfl rfl rfl rfl (aB rfl) (cells2:=[_,_,_,_,_,_,_]) rfl (OL.nil ?_));refine SK.fM (aF rfl (OL.nil ?_));refine SK.nil (AW.seq (AW.sg hE rfl (ai rfl (eG rfl rfl rfl (OL.nil (AW.cond rfl (λhc=>?_) (λhc=>?_)))))))
  .try simp only[dX] at hc
   exact AW.sg hE rfl (bJ rfl (.nil) (au8) (aF rfl (OL.nil (AW.ret (aP.r ⟨_,.tmp rfl .nil,.le vR⟩)))))
  .obtain⟨b,rfl⟩:∃ b,y=some b:=by
    cases y with
    | some b=>exact⟨b,rfl⟩
    | none=>exact absurd (Bc hc) (by decide)
   obtain⟨rfl,hgr,bs8⟩:=hy;refine AW.skip (AW.seq ?_);have hok:=ao0 (f:=aC (ah a.sym 4) (sO (ah a.sym 4) (iD a) k ((1+within bv 5:Int):Rat))) (C:=ah a.sym 1) hs1;have zf:=U1 (by decide:1<=2) hz2 (ah a.sym 4)
   have hfew:=Yn (s:=a.sym) (by decide) (by decide:2<=6) zf hC3 hib hgr
   have bh6:=(ao1 (C:=ah a.sym 1) (by decide) hC3 hs2 zf).up (show 64*(2+1)<=134217728 by decide) (show 18<=20 by decide)
   have hsO:(NY a.sym (aC (ah a.sym 4) (sO (ah a.sym 4) (iD a) k ((1+within bv 5:Int):Rat))) (ah a.sym 1)).st<=5:=by
    have h1:=EM (f:=aC (ah a.sym 4) (sO (ah a.sym 4) (iD a) k ((1+within bv 5:Int):Rat))) (C:=ah a.sym 1) (i:=(ah a.sym 1).length);show (eY (aC (ah a.sym 4) (sO (ah a.sym 4) (iD a) k ((1+within bv 5:Int):Rat))) (ah a.sym 1) (ah a.sym 1).length).length<=5
    omega
   have hWO:∀ w,w ∈ (ah a.sym 4)->aj P F.iw [zL (ja (NY a.sym (aC (ah a.sym 4) (sO (ah a.sym 4) (iD a) k ((1+within bv 5:Int):Rat))) (ah a.sym 1))),.d (ints w)] (.jS [vW (iD (NY a.sym (aC (ah a.sym 4) (sO (ah a.sym 4) (iD a) k ((1+within bv 5:Int):Rat))) (ah a.sym 1)) w),.d (dI 0)]):=λw hw=>YA hok hfew bh6 (show a.sym<=32 by omega) hsO (aa1 w hw).1 (aa1 w hw).2
   have hZO:∀ w,w ∈ (ah a.sym 4)->sz (iD (NY a.sym (aC (ah a.sym 4) (sO (ah a.sym 4) (iD a) k ((1+within bv 5:Int):Rat))) (ah a.sym 1)) w)<=16777215:=λw hw=>as4 hfew (show a.sym<=4 by omega) (Nat.le_succ_of_le (aa1 w hw).2)
   have htO:Au.Take (ja (NY a.sym (aC (ah a.sym 4) (sO (ah a.sym 4) (iD a) k ((1+within bv 5:Int):Rat))) (ah a.sym 1))) a.sym:=⟨⟨Ir hok,Oo hok hfew bh6.num,rfl,show a.sym<=32 by omega,show (NY a.sym (aC (ah a.sym 4) (sO (ah a.sym 4) (iD a) k ((1+within bv 5:Int):Rat))) (ah a.sym 1)).st<=64 by omega⟩,Vg hfew⟩
   have bs9:=YJ (vs:=(sO (ah a.sym 4) (iD a) k ((1+within bv 5:Int):Rat))) (a:=ja (NY a.sym (aC (ah a.sym 4) (sO (ah a.sym 4) (iD a) k ((1+within bv 5:Int):Rat))) (ah a.sym 1))) (g:=iD (NY a.sym (aC (ah a.sym 4) (sO (ah a.sym 4) (iD a) k ((1+within bv 5:Int):Rat))) (ah a.sym 1))) htO (by omega) (show (ah a.sym 4).length<=4000 by omega) KR hzB hZO hWO (λi hi=>by
    have hi2:i<(ah a.sym 4).length:=hi;have h1:iD (NY a.sym (aC (ah a.sym 4) (sO (ah a.sym 4) (iD a) k ((1+within bv 5:Int):Rat))) (ah a.sym 1)) ((ah a.sym 4).getD i [])=(sO (ah a.sym 4) (iD a) k ((1+within bv 5:Int):Rat)).getD ((ah a.sym 4).idxOf ((ah a.sym 4).getD i [])) 0:=bs8 _ (getD_mem hi2 []);rw[YD (l:=(ah a.sym 4)) (BZ 4) hi2] at h1;exact h1)
   refine AW.rg hE rfl (aO ag.Auto rfl rfl (vs:=[_,_,_,_,_,_,_]) rfl (aB rfl) (ai rfl (ai rfl (bJ rfl vL (bs9) (zW rfl (ex rfl rfl (ex rfl rfl ?_)))))));refine ex rfl rfl (aF rfl (aF rfl (aF rfl (OL.nil (AW.sg hE rfl (bJ rfl (.nil) (au8) (ai rfl ?_)))))));refine OL.yes rfl (ai rfl (OL.yes rfl (dR rfl rfl (c:=true) (decide_eq_true rfl) (oC rfl rfl (ai rfl (OL.yes rfl (ai rfl ?_)))))));exact oC rfl rfl (aF rfl (OL.nil (AW.ret (aP.r ⟨_,.tmp rfl .nil,.le vR⟩))))
end Go.Proofs.YtnjoncgnjdkaoaaGreatDoor
namespace Go.AL
open Go Go.BigFrame Go.RowKit Go.ChangeShapes Go.WideShapes Go.ChangeAt Go.Joins Go.Deep
theorem aW6 {α:Type}{cs:Array α}(h:cs.size=5):∃ c0 c1 c2 c3 c4,cs = #[c0,c1,c2,c3,c4]:=by
 obtain⟨l⟩:=cs
 match l,h with
 | [c0,c1,c2,c3,c4],_=>exact⟨c0,c1,c2,c3,c4,rfl⟩
section
variable {H:Type}{enc:TypeId × Value->H}{P:Program}{w:World}{base:Nat}{spare:Nat->Bool}{held:Bool}
theorem RX {t:TypeId}{f0 f1 f2 f3 f4:Field}{fuel:Nat}{cs:List Value}{x:DataW H × List MemPlace}(ht:P.underlying t=some (.struct #[f0,f1,f2,f3,f4]))(h:DataW.trod enc P w base spare held fuel t cs=some x) :
  ∃ y0 y1 y2 y3 y4 n,x=(.agg [y0.1,y1.1,y2.1,y3.1,y4.1],y0.2++(y1.2++(y2.2++(y3.2++y4.2))))/\cs.length=P.cellsOf t/\DataW.trod enc P w base spare held n f0.type ((cs.drop f0.offset).take (P.cellsOf f0.type))=some y0 /\
   DataW.trod enc P w base spare held n f1.type ((cs.drop f1.offset).take (P.cellsOf f1.type))=some y1/\DataW.trod enc P w base spare held n f2.type ((cs.drop f2.offset).take (P.cellsOf f2.type))=some y2 /\
   DataW.trod enc P w base spare held n f3.type ((cs.drop f3.offset).take (P.cellsOf f3.type))=some y3/\DataW.trod enc P w base spare held n f4.type ((cs.drop f4.offset).take (P.cellsOf f4.type))=some y4:=by
 obtain⟨xs,n,_,rfl,hl,hlen,hf⟩:=DataW.trod_struct ht h
 match xs,hlen with
 | [y0,y1,y2,y3,y4],_=>exact⟨y0,y1,y2,y3,y4,n,by simp,hl,by simpa using hf 0 f0 rfl,by simpa using hf 1 f1 rfl,by simpa using hf 2 f2 rfl,by simpa using hf 3 f3 rfl,by simpa using hf 4 f4 rfl⟩
theorem aa2 {r:Reach}{b0:Nat}{t:TypeId}{f0 f1 f2 f3 f4:Field}{v:Value}{d:DataW H}{p:List MemPlace}(hs:P.underlying t=some (.struct #[f0,f1,f2,f3,f4]))(hone:oneCellFields P #[f0,f1,f2,f3,f4]=true)(hC:P.cellsOf t=5)
  (hv:Value.okWide P w r b0 t v) (h:DataW.Trod enc P w base spare held t v d p) :
  ∃ (v0 v1 v2 v3 v4:Value) (y0 y1 y2 y3 y4:DataW H × List MemPlace) (n:Nat),v=.agg #[v0,v1,v2,v3,v4] /\
   DataW.trod enc P w base spare held n f0.type [v0]=some y0/\DataW.trod enc P w base spare held n f1.type [v1]=some y1/\DataW.trod enc P w base spare held n f2.type [v2]=some y2/\DataW.trod enc P w base spare held n f3.type [v3]=some y3/\DataW.trod enc P w base spare held n f4.type [v4]=some y4:=by
 obtain⟨cs,rfl,hsz⟩:=okWide_struct hs hv;obtain⟨c0,c1,c2,c3,c4,rfl⟩:=aW6 (hsz.trans hC);obtain⟨fuel,hf⟩:=h;obtain⟨y0,y1,y2,y3,y4,n,hx,_,h0,h1,h2,h3,h4⟩:=RX hs hf;obtain⟨o0,k0⟩:=hone_of hone 0 f0 rfl;obtain⟨o1,k1⟩:=hone_of hone 1 f1 rfl;obtain⟨o2,k2⟩:=hone_of hone 2 f2 rfl;obtain⟨o3,k3⟩:=hone_of hone 3 f3 rfl;obtain⟨o4,k4⟩:=hone_of hone 4 f4 rfl;exact⟨c0,c1,c2,c3,c4,y0,y1,y2,y3,y4,n,rfl,by simpa [Value.cells,o0,k0] using h0,by simpa [Value.cells,o1,k1] using h1,by simpa [Value.cells,o2,k2] using h2,by simpa [Value.cells,o3,k3] using h3,by simpa [Value.cells,o4,k4] using h4⟩
end
theorem QA {P:Program}{H:Type}{enc:TypeId × Value->H}{w:World}{base fuel:Nat}{spare:Nat->Bool}{held:Bool}{t:TypeId}{v:Value}{x:DataW H × List MemPlace}(ht:P.underlying t=some .bool)
  (h:DataW.trod enc P w base spare held fuel t [v]=some x):∃ b,v=.bool b:=by
 obtain⟨b,h1,_⟩:=DataW.trod_bool ht h;simp at h1;exact⟨b,h1⟩
theorem aa3 {F:Hp}{u0 u1 u2 u3 u4:Value}{x0 x1 x2 x3 x4:D}(h0:dm F u0 (.d x0))(h1:dm F u1 (.d x1))(h2:dm F u2 (.d x2))(h3:dm F u3 (.d x3))(h4:dm F u4 (.d x4)):dm F (.agg #[u0,u1,u2,u3,u4]) (.ag [.d x0,.d x1,.d x2,.d x3,.d x4]):=by
 have h:=rq h0 (rq h1 (rq h2 (rq h3 (rq h4 O1))));refine .ag (us:=[u0,u1,u2,u3,u4]) h.1 (λu hu=>?_) h.2;simp only[List.mem_cons,List.not_mem_nil,or_false] at hu;rcases hu with rfl|rfl|rfl|rfl|rfl
 .exact h0.one
 .exact h1.one
 .exact h2.one
 .exact h3.one
 .exact h4.one
