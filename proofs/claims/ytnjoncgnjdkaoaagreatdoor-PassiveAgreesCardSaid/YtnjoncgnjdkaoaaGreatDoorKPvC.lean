/-
  Walks of package passive, part 2: samples, blocks, ranks (printed by mk2.py).
-/
import Derived.Test.YtnjoncgnjdkaoaaGreatDoorKPvB
set_option maxRecDepth 8000
set_option maxHeartbeats 1600000
set_option linter.unusedVariables false
set_option linter.unusedSimpArgs false
namespace Go.Proofs.YtnjoncgnjdkaoaaGreatDoor
open Go Go.AL
theorem Kt {α:Type}(l:List α)(d:α):(List.range l.length).map (λj=>l.getD j d)=l:=by
 refine List.ext_getElem (by simp) λi h1 h2=>?_
 simp only[List.getElem_map,List.getElem_range];rw[ig,lu h2];rfl
theorem RJ {n B B2:Nat}{rs:List bW}(h:uK n B rs)(hB:B<=B2):uK n B2 rs :=
 ⟨h.ech,λk r hk=>⟨λi=>Nat.le_trans ((h.sz k r hk).1 i) (Nat.mul_le_mul_left _ (by omega)),λi=>Nat.le_trans ((h.sz k r hk).2 i) (Nat.mul_le_mul_left _ (by omega))⟩,h.len,h.cl⟩
theorem U1 {B:Nat}{vs:List Rat}(h1:1<=B)(h:Small B vs)(F:List (List Int))(w:List Int):sz (aC F vs w)<=B:=h.get h1 _
theorem Og {l:List Rat}{C:Nat}(hl:Small C l)(hC:1<=C/\C<=68719476736)(nl:l.length<=1048576)(h0:l≠[]):jd P F.vM [.d (iQ l),.fn F.wQ []] l.length T.Rat 3 (l.map dQ):=by
 refine jd.intro fn.vM (by rfl) (by rfl) (aB (by rfl)) 4 rfl λE hE=>(AW.sg hE rfl (oK rfl (OL.nil (AW.seq (AW.sg hE rfl (ai rfl (isNil sl.bQ.u rfl (λy hy=>by obtain⟨a,_,rfl⟩:=mM hy;exact Nat.succ_pos _) rfl λb hb=>?_)))))))
 refine OL.nil (AW.cond rfl (λhno=>absurd hno (λe=>h0 (by have:=hb e;simpa using this))) (λ_=>?_))
 refine AW.skip (AW.sg hE rfl (ai rfl (fJ sl.bQ rfl rfl (QM dQ 0 sl.bQ z.Rat Be rfl rfl (Nat.le_refl _) (by omega) (by omega) rfl λb12=>(tJ rfl (OL.nil (AW.seq ?_)))))))
 refine AW.sg hE rfl (ai rfl (fJ sl.bQ rfl rfl (ai rfl (OL.nil (AW.block ?_)))));refine AW.aV (α:=Nat) [(1,_),(4,_),(5,_),(13,_),(14,_)] [] (λi=>[(15,.d (dI i))]) (λi=>[(12,.row b12 l.length T.Rat 3 ((kZ 0 (λj=>l.getD j 0) l.length i).map dQ))]) (λi=>i<=l.length) (λi=>l.length-i) 0 (.cons (LH rfl) (.cons (Ea rfl) (.cons (yj rfl) (.cons (bK rfl) (.cons (bK rfl) .nil))))) .nil ⟨Nat.zero_le _,.bZ,.cons (by rw[rF];rfl) .nil⟩ ?_
 intro i h1;have h1:i<=l.length:=h1;have hfl:=sF 0 (λj=>l.getD j 0) l.length i;refine AW.sg hE rfl (aY rfl rfl rfl (OL.nil (AW.seq (AW.cond rfl (λh16=>?_) (λh16=>?_)))))
 .try simp only[dX] at h16
  refine AW.skip (AW.seq (AW.block (AW.sg hE rfl (ai rfl (fO sl.bQ 0 rfl rfl (by omega) rfl rfl (jH ag.Rat rfl (vs:=[_,_,_]) rfl (aB rfl) (al z.Rat rfl λb7=>?_)))))))
  refine aF rfl (eH sz.Rat rfl rfl rfl rfl rfl (aB rfl) (cells2:=[_,_,_]) rfl (OL.nil (AW.rg hE rfl (jq rfl (ai rfl (Ky rfl (aO ag.Rat rfl rfl (vs:=[_,_,_]) rfl (aB rfl) ?_)))))));refine bJ rfl vL (wQ (Nat.le_trans (hl.get hC.1 i) hC.2)) (iM sl.bQ rfl rfl (by omega) (GI sz.Rat rfl xP rfl rfl (by rw[dJ];omega) (es2:=(kZ 0 (λj=>l.getD j 0) l.length (i+1)).map dQ) (by rw[<- pq (show i<l.length by omega),List.map_set]) (OL.nil (AW.rg hE rfl (aI rfl rfl (by omega) (ai rfl (OL.nil ?_)))))))
  exact AW.again (x:=i) (i+1) (by omega) ⟨by omega,Knows.app .DR .bZ,.cons rfl .nil⟩
 .try simp only[dX] at h16
  refine AW.exit (AW.seq ?_);obtain rfl:i=l.length:=by omega
  have hfr:(List.range l.length).map (λj=>l.getD j 0)=l:=Kt l 0;refine AW.rg hE rfl (jq rfl (tJ rfl (OL.nil ?_)));exact AW.ret ⟨.inr rfl,12,b12,l.length,(kZ 0 (λj=>l.getD j 0) l.length l.length).map dQ,rfl,rfl,by rw[dJ,sF];exact Nat.le_refl _,by rw[EZ,hfr];exact List.take_of_length_le (by rw[dJ];exact Nat.le_refl _)⟩
theorem U2 {l:List Rat}{C:Nat}(hl:Small C l)(hC:1<=C/\C<=68719476736)(nl:l.length<=1048576)(h0:l≠[]):jd P F.CZ [.d (iQ l)] l.length T.Rat 3 (l.map dQ):=by
 refine jd.intro fn.CZ (by rfl) (by rfl) (aB (by rfl)) 2 rfl λE hE=>(AW.sg hE rfl (oK rfl (OL.nil (AW.sg hE rfl (ai rfl (clR rfl .iq (Og hl hC nl h0) rfl λb4 c4=>(tJ rfl ?_)))))))
 exact OL.nil (AW.ret ⟨.inr rfl,4,b4,c4,l.map dQ,rfl,rfl,by rw[dJ];exact Nat.le_refl _,List.take_of_length_le (by rw[dJ];exact Nat.le_refl _)⟩)
theorem Oh {s m:Nat}{vs:List Rat}{B:Nat}(hs:1<=s/\s<=32)(hm:m+1<=256)(hb:(ah s (m+1)).length<=4000)(hl:vs.length=(ah s (m+1)).length)(h1:1<=B)(h2:B<=16777215)(zs:Small B vs):aj P F.qN [.d (dI s),.d (dI ((m+1:Nat):Int)),.d (iQ vs)] (.jS [(WZ s (m+1) (ah s (m+1)) vs),.d (dI 0)]):=by
 have hps:=Yp (k:=s) (n:=m+1);have hne:vs≠[]:=λe=>by rw[e] at hl;simp at hl;omega
 refine aj.intro fn.qN (by rfl) (by rfl) (aB (by rfl)) λE hE=>(AW.sg hE rfl (al z.sample rfl λb6=>(aF rfl (OL.nil (AW.sg hE rfl (ai rfl (ai rfl ?_)))))))
 refine bJ rfl vL (aS8 hs hm hb) (zW rfl (ex rfl rfl (ex rfl rfl (aF rfl (aF rfl (OL.nil (AW.seq ?_)))))));refine AW.block (AW.sg hE rfl (ai rfl (eG rfl rfl (c:=false) (by exact lY (by omega)) (aF rfl (OL.nil (qW rfl ?_))))))
 refine AW.sg hE rfl (ai rfl (fJ (f:=ints) sl.fQ rfl rfl (ai rfl (fJ sl.bQ rfl rfl (eG rfl rfl (c:=false) (lY (by rw[hl])) (aF rfl (OL.nil ?_)))))))
 refine qW rfl ?_;refine AW.skip (AW.sg hE rfl (ai rfl (ai rfl (ai rfl (ai rfl (bJ rfl vL (jd.data (U2 (l:=vs) zs ⟨h1,by omega⟩ (by omega) hne) (dJ ..).symm) (VX (cs:=[_,_,_,_]) z.sample pl.sample (ve (by exact DV rfl) (ve (by exact DV rfl) (ve (by exact DV rfl) (ve (by exact DV rfl) (VW))))) (by rfl) ?_)))))))
 refine al z.sample rfl λb10=>(eH sz.sample rfl rfl rfl rfl rfl (aB rfl) (cells2:=[_,_,_,_]) rfl (OL.nil (AW.seq (AW.sg hE rfl (aW fd.L8 rfl rfl (aG ce.bQ rfl rfl rfl (fJ sl.bQ rfl rfl ?_)))))));refine ai rfl (OL.nil (AW.block ?_));refine AW.aV (α:=Nat) [(6,_),(7,_),(10,_),(38,_),(39,_)] [(6,_),(10,_)] (λi=>[(40,.d (dI i))]) (λi=>[]) (λi=>i<=vs.length) (λi=>vs.length-i) 0 (.cons (gB rfl) (.cons (bK rfl) (.cons (gB rfl) (.cons (bK rfl) (.cons (bK rfl) .nil))))) (.cons (iR rfl) (.cons (iR rfl) .nil)) ⟨Nat.zero_le _,.bZ,.nil⟩ ?_;intro i h3;have h3:i<=vs.length:=h3;refine AW.sg hE rfl (aY rfl rfl rfl (OL.nil (AW.seq (AW.cond rfl (λh41=>?_) (λh41=>?_)))))
 .try simp only[dX] at h41
  refine AW.skip (AW.seq (AW.block (AW.seq ?_)));have zx:=zs.get h1 i;refine AW.rg hE rfl (ai rfl (fO sl.bQ 0 rfl rfl (by omega) rfl rfl (jH ag.Rat rfl (vs:=[_,_,_]) rfl (aB rfl) (al z.Rat rfl λb12=>(aF rfl (eH sz.Rat rfl rfl rfl rfl rfl (aB rfl) (cells2:=[_,_,_]) rfl (OL.nil ?_)))))))
  refine AW.sg hE rfl (aO ag.Rat rfl rfl (vs:=[_,_,_]) rfl (aB rfl) (bJ rfl vL (yu (x:=vs.getD i 0) (by omega)) (nt rfl (OL.nil (AW.cond rfl (λhno=>absurd hno ((by decide))) (λ_=>?_))))))
  exact AW.skip (AW.rg hE rfl (aI rfl rfl (by omega) (ai rfl (OL.nil (AW.again (x:=i) (i+1) (by omega) ⟨by omega,Knows.app .DR .bZ,dw.app (.cons rfl (.cons rfl .nil)) (.nil)⟩)))))
 .try simp only[dX] at h41
  exact AW.exit (AW.sg hE rfl (aO ag.sample rfl rfl (vs:=[_,_,_,_]) rfl (aB rfl) (eH sz.sample rfl rfl rfl rfl rfl (aB rfl) (cells2:=[_,_,_,_]) rfl (aF rfl (OL.nil (AW.ret (aP.r ⟨_,.dV rfl rfl ag.sample (aB rfl) (.tmp rfl .nil),_,.cons (.ag (.cons (.le vR) (.cons (.le vR) (.cons (.le vR) (.cons (.le vR) .nil))))) (.cons (.le vR) .nil),rfl⟩)))))))
theorem ap4 {s n:Nat}{vs:List Rat}{B:Nat}(hl:vs.length=(ah s n).length)(h1:1<=B)(h2:B<=16777215)(zs:Small B vs){w:List Int}(nl:(ah s n).length<=4000)(nn:n<=256)(hw:w ∈ ah s n):aj P F.mV [(WZ s n (ah s n) vs),.d (ints w)] (vQ (aC (ah s n) vs w)):=by
 obtain⟨hi,_⟩:=KO hw;have hwl:=(gQ.1 hw).2;refine aj.intro fn.mV (by rfl) (by rfl) (aB (by rfl)) λE hE=>(AW.sg hE rfl (iI rfl rfl λb2=>(al z.Rat rfl λb4=>(OL.nil (AW.sg hE rfl (aW fd.Ht rfl rfl (aG ce.fQ rfl rfl rfl ?_)))))))
 refine ai rfl ?_;refine bJ rfl vL (ap3 (l:=ah s n) (w:=w) (f:=F.tY) (c:=λx=>nO x w) (by omega) (ao7 (BZ n) w) (λx hx=>ap2 (v:=x) (w:=w) (by have:=(gQ.1 hx).2;omega))) ?_
 rw[ao8 (BZ n) hw];refine zW rfl (ex rfl rfl (ex rfl rfl (aF rfl (aF rfl (OL.nil (AW.sg hE rfl (aW fd.L8 rfl rfl ?_)))))));exact aG ce.bQ rfl rfl rfl (ai rfl (fO sl.bQ 0 rfl rfl (by omega) rfl rfl (jH ag.Rat rfl (vs:=[_,_,_]) rfl (aB rfl) (eH sz.Rat rfl rfl rfl rfl rfl (aB rfl) (cells2:=[_,_,_]) rfl (OL.nil (AW.ret (aP.r ⟨_,.dV rfl rfl ag.Rat (aB rfl) .nil,.ag (.cons (.le vR) (.cons (.le vR) (.cons (.le vR) .nil)))⟩)))))))
theorem ap5 {s n k:Nat}{vs:List Rat}(nl:(ah s n).length<=4000)(h:k<=n)(nn:n<=256):aj P F.mQ [WZ s n (ah s n) vs,.d (dI k)] (.d (uN (ah s k))):=by
 obtain⟨e1,e2,e3⟩:=zU (k:=s) h;refine aj.intro fn.mQ (by rfl) (by rfl) (aB (by rfl)) λE hE=>(AW.sg hE rfl (iI rfl rfl λb2=>(oK rfl (OL.nil (AW.sg hE rfl (aW fd.Ht rfl rfl (aG ce.fQ rfl rfl rfl ?_)))))))
 refine ai rfl (bo rfl rfl (jB (c:=((k+1:Nat):Int)) (by omega) (wrap_i64 (by omega))) ?_)
 refine bJ rfl vL (bsearchI (l:=ah s n) (w:=((k+1:Nat):Int)) (f:=F.jh) (c:=λx=>(x.length:Int)-((k+1:Nat):Int)) (by omega) (ao9 (BZ n) _) (λx hx=>aS7 (w:=x) (m:=((k+1:Nat):Int)) (by have:=(gQ.1 hx).2;omega) (by omega))) ?_
 rw[e1];refine zW rfl (ex rfl rfl (ex rfl rfl (aF rfl (aF rfl (OL.nil (AW.sg hE rfl (aW fd.Ht rfl rfl ?_)))))));exact aG ce.fQ rfl rfl rfl (ai rfl (ae0 sl.fQ rfl rfl (λ_=>rfl) (by omega) (l2:=ah s k) (by rw[Int.toNat_natCast];exact e3) (aF rfl (OL.nil (AW.ret (aP.r ⟨_,.tmp rfl .nil,.le vR⟩))))))
theorem aM1 {s n:Nat}{vs:List Rat}{B:Nat}(hl:vs.length=(ah s n).length)(h1:1<=B)(h2:B<=16777215)(zs:Small B vs){u:List Int}{k:Nat}(nl:(ah s n).length<=4000)(nn:n<=256)(hu:kC s u)(hk:u.length+k<=n):aj P F.lI [(WZ s n (ah s n) vs),.d (ints u),.d (dI k)] (.d (iQ (fV (aC (ah s n) vs) (ah s k) u))):=by
 have hrl:(fV (aC (ah s n) vs) (ah s k) u).length=(ah s k).length:=dJ ..;have hcl:=(zU (k:=s) (show k<=n by omega)).2.1
 have hmem:∀ v,v ∈ (ah s k)->u++v ∈ ah s n:=λv hv=>gQ.2 ⟨λx hx=>(ul hx).elim (hu x) ((gQ.1 hv).1 x),by rw[jG];have:=(gQ.1 hv).2;omega⟩
 refine aj.intro fn.lI (by rfl) (by rfl) (aB (by rfl)) λE hE=>(AW.sg hE rfl (iI rfl rfl λb3=>(oK rfl (OL.nil (AW.sg hE rfl (oK rfl (OL.nil ?_)))))))
 refine AW.seq (AW.seq (AW.own 7 26 T.Rat 3 rfl rfl (AW.rg hE rfl (aO ag.sample rfl rfl (vs:=[_,_,_,_]) rfl (aB rfl) (ai rfl (bJ rfl vL (ap5 (vs:=vs) (k:=k) nl (by omega) nn) (fJ (f:=ints) sl.fQ rfl rfl ?_)))))))
 refine ai rfl (OL.nil (AW.block ?_));refine AW.aV (α:=Nat × Nat × Nat) [(1,_),(3,_),(6,_),(12,_),(13,_)] [(3,_)] (λ(i,bq,cq)=>[(7,.bF 26 bq i cq),(14,.d (dI i))]) (λ(i,bq,cq)=>[(26,.row bq cq T.Rat 3 (((fV (aC (ah s n) vs) (ah s k) u).take i).map dQ))]) (λ(i,bq,cq)=>i<=(ah s k).length) (λ(i,bq,cq)=>(ah s k).length-i) (0,0,0) (.cons (bK rfl) (.cons (gB rfl) (.cons (Ea rfl) (.cons (bK rfl) (.cons (bK rfl) .nil))))) (.cons (iR rfl) .nil) ⟨Nat.zero_le _,.iq,.cons rfl .nil⟩ ?_
 rintro⟨i,bq,cq⟩ h3
 have h3:i<=(ah s k).length:=h3;refine AW.sg hE rfl (aY rfl rfl rfl (OL.nil (AW.seq (AW.cond rfl (λh15=>?_) (λh15=>?_)))))
 .try simp only[dX] at h15
  refine AW.skip (AW.seq (AW.block (AW.seq ?_)));have hi:i<(ah s k).length:=by omega
  have hm:=getD_mem hi [];have hmv:=hmem _ hm;have hfl:([u,(ah s k).getD i []]:List (List Int)).flatten=u++(ah s k).getD i []:=by simp
  refine AW.rg hE rfl (fO sl.fQ [] rfl rfl (by omega) rfl rfl (iH ce.ints rfl (aF rfl (OL.nil (AW.dg 2 [0,1,2,3,4,5,6,7,8,9] ay hE rfl (by kernel_rfl) (OI.aK (os:=[_,_,_,_,_,_,_,_,_,_]) rfl ?_))))))
  refine jq rfl (aO ag.sample rfl rfl (vs:=[_,_,_,_]) rfl (aB rfl) (ai rfl (ai rfl (ltN (ys:=[ints u,ints ((ah s k).getD i [])]) sl.fQ rfl (J8 (VC.d _).vd (J8 (VC.d _).vd pdN)) rfl (by decide) (by decide) (λy hy=>by simp at hy;rcases hy with rfl|rfl <;> rfl) (bJ rfl vL (U0 (L:=[u,(ah s k).getD i []]) (show 2<=1099511627776 by decide) (by rw[hfl];have:=(gQ.1 hmv).2;omega)) ?_)))))
  rw[hfl];refine bJ rfl vL (ap4 (w:=u++(ah s k).getD i []) hl h1 h2 zs nl nn hmv) (zX (y:=dQ ((aC (ah s n) vs) (u++(ah s k).getD i []))) sl.bQ xP rfl (by decide) ?_)
  refine Ce sl.bQ rfl rfl rfl (by rw[dJ,List.length_take];omega) (VC.d _) (λy hy=>by rw[lW hy];rfl) (by simp only[oU];omega) (by simp only[oU];omega) (.inr rfl) (ys:=((fV (aC (ah s n) vs) (ah s k) u).take (i+1)).map dQ) (by rw[W9 hi,List.map_append];rfl) (n2:=i+1) rfl λb26 c26=>?_
  refine tJ rfl (OL.nil (AW.rg hE rfl (aI rfl rfl (by omega) (ai rfl (OL.nil ?_)))))
  exact AW.again (x:=(i,bq,cq)) (i+1,b26,c26) (by (simp only[];omega)) ⟨by omega,Knows.app .DR .iq,dw.app (.cons rfl .nil) (.cons rfl .nil)⟩
 .try simp only[dX] at h15
  refine AW.exit (AW.seq ?_);obtain rfl:i=(ah s k).length:=by omega
  refine AW.freeze 26 rfl (AW.to [(7,.d (iQ (fV (aC (ah s n) vs) (ah s k) u)))] [] (.cons (dL (by rw[dJ,List.length_take];omega) (by rw[List.take_of_length_le (by omega)])) .nil) .nil ?_)
  exact AW.rg hE rfl (ai rfl (aF rfl (OL.nil (AW.ret (aP.r ⟨_,.tmp rfl .nil,.le vR⟩)))))
