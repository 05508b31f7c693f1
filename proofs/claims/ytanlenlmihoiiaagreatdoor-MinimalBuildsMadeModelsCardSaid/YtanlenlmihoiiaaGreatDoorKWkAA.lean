/-
  Walks of layers 22 and 23 of the specification, part 1: vectors (printed by mk2.py).
-/
import Derived.Test.YtanlenlmihoiiaaGreatDoorKAlg43
set_option maxHeartbeats 800000
set_option linter.unusedVariables false
set_option linter.unusedSimpArgs false
namespace Go.Proofs.YtanlenlmihoiiaaGreatDoor
open Go Go.AL
theorem bg3 {l:List Rat}:∀ y,y ∈ l.map dQ->y.cells.length=3:=λy hy=>by obtain⟨a,_,rfl⟩:=kK hy;rfl
theorem TF {v:List Rat}{i:Nat}(h:∀ j,j<i->v.getD j 0=0)(h0:v.getD i 0=0):∀ j,j<i+1->v.getD j 0=0:=λj hj=>by
 rcases Nat.lt_or_ge j i with g|g
 .exact h j g
 .rw[show j=i by omega];exact h0
abbrev Gn (v w:List Rat)(c:Rat)(i:Nat):List Rat:=(nY v w c).take i
theorem Qp {v w:List Rat}{c:Rat}{i:Nat}(h:i<v.length):Gn v w c (i+1)=Gn v w c i++[v.getD i 0-w.getD i 0*c]:=by
 unfold Gn;rw[iL 0 (by rw[Am];exact h)]
 congr 2;exact aT _ _ h
theorem Ec {rs:List bZ}{w:List Rat}:CU (aO rs w)<0 ↔ bM rs w=false:=by
 unfold CU bM
 split
 .rename_i h;rw[decide_eq_true h];constructor
  .intro;omega
  .intro k;cases k
 .rename_i h;rw[decide_eq_false h];exact⟨λ_=>rfl,λ_=>by decide⟩
def jm:List bZ->List Rat->List Rat->List Rat
 | [],_,t=>t
 | r::rs,w,t=>jm rs (jg w r) (nY t r.c (fJ w r))
theorem uP:∀ (rs:List bZ) (w t:List Rat),(jm rs w t).length=t.length
 | [],_,_=>rfl
 | r::rs,w,t=>by rw[jm,uP rs,Am]
theorem TG {r:bZ}:∀ (a:List bZ) (w t:List Rat),jm (a++[r]) w t=nY (jm a w t) r.c (fJ (aO a w) r)
 | [],_,_=>rfl
 | x::a,w,t=>by rw[List.cons_append,jm,jm,aO,TG a]
theorem TI {rs:List bZ}{w t:List Rat}{k:Nat}(hk:k<rs.length):jm (rs.take (k+1)) w t=nY (jm (rs.take k) w t) (rs.getD k default).c (fJ (aO (rs.take k) w) (rs.getD k default)):=by rw[IG hk,TG]
abbrev dSK (r:bZ):D:=.ag [dJ r.v,dJ r.c]
abbrev vSK (r:bZ):V:=.ag [.d (dJ r.v),.d (dJ r.c)]
abbrev MR (b c:Nat)(rs:List bZ):iF:=.row b c T.row 2 (rs.map dSK)
theorem bs2 {r:bZ}:VD (vSK r) (dSK r):=VD.ag (.cons (VC.d _) (.cons (VC.d _) .nil))
theorem JZ {rs:List bZ}{i:Nat}(hi:i<rs.length):(rs.map dSK)[i]? = some (dSK (rs.getD i default)):=by rw[List.getElem?_map,jh,lQ hi];rfl
structure TJ (n N:Nat) (rs:List bZ):Prop where
 len:∀ r,r ∈ rs->r.v.length=n
 piv:∀ r,r ∈ rs->r.p=dX r.v/\r.p<n/\r.v.getD r.p 0≠0
 cl:∀ r,r ∈ rs->r.c.length=N
 zr:Nq 16777215 rs
 le:rs.length<=6
theorem aG2 {t c:List Rat}{q:Rat}{T C:Nat}(ht:∀ i,sz (t.getD i 0)<=T)(hc:∀ i,sz (c.getD i 0)+sz q<=C)(i:Nat):sz ((nY t c q).getD i 0)<=T+C+1:=by
 unfold nY;refine Jz t.length (f:=λi=>t.getD i 0-c.getD i 0*q) (by omega) (λi=>?_) i
 have h1:=av7 (t.getD i 0) (c.getD i 0*q);have h2:=lu (c.getD i 0) q;have h3:=ht i;have h4:=hc i;omega
theorem Gp {B:Nat}:∀ (rs:List bZ) (j:Nat) (w t:List Rat),(∀ k r,rs[k]? = some r->(∀ i,sz (r.v.getD i 0)+1<=4 ^ (j+k)*(B+1))/\∀ i,sz (r.c.getD i 0)+1<=4 ^ (j+k)*(B+1))->(∀ i,sz (w.getD i 0)+1<=4 ^ j*(B+1))->(∀ i,sz (t.getD i 0)+1<=4 ^ j*(B+1)) ->
  ∀ i,sz ((jm rs w t).getD i 0)+1<=4 ^ (j+rs.length)*(B+1)
 | [],_,_,_,_,_,ht,i=>ht i
 | r :: rs, j, w, t, h, hw, ht, i => by
  have h0:=h 0 r rfl;rw[Nat.add_zero] at h0;have:=Gp rs (j+1) (jg w r) (nY t r.c (fJ w r)) (λk q hq=>by
   have:=h (k+1) q hq
   rwa [show j+(k+1)=j+1+k by omega] at this) (λi=>by
   have:=Go.AL.JA hw h0.1 i
   rwa [Nat.pow_succ,Nat.mul_comm (4 ^ j),Nat.mul_assoc]) (λi=>by
   have h2:=YQ hw h0.1;have:=aG2 (t:=t) (c:=r.c) (q:=fJ w r) (T:=4 ^ j*(B+1)-1) (C:=3*(4 ^ j*(B+1))-3) (λi=>by have:=ht i;omega) (λi=>by have:=h0.2 i;omega) i
   have h3:=hw 0;rw[Nat.pow_succ,Nat.mul_comm (4 ^ j),Nat.mul_assoc];omega) i
  rwa [jm,List.length_cons,show j+(rs.length+1)=j+1+rs.length by omega]
theorem TJ.bounds {n N k:Nat}{rs:List bZ}{w:List Rat}(z:TJ n N rs)(hk:k<rs.length)(zw:∀ i,sz (w.getD i 0)<=16777215) :
  (∀ i,sz ((aO (rs.take k) w).getD i 0)<=17179869183)/\(∀ i,sz ((jm (rs.take k) w (List.replicate N 0)).getD i 0)<=17179869183)/\(∀ i,sz ((rs.getD k default).v.getD i 0)<=17179869183)/\∀ i,sz ((rs.getD k default).c.getD i 0)<=17179869183:=by
 obtain⟨h1,_,h3,h4⟩:=z.zr.bounds (n:=N) z.le hk zw;refine⟨h1,λi=>?_,h3,h4⟩;have ht:(rs.take k).length=k:=by rw[List.length_take];omega
 have hle:=z.le;have hb:=ML (show k<=5 by omega)
 have h:=Gp (B:=16777215) (rs.take k) 0 w (List.replicate N 0) (λk r hk=>by rw[Nat.zero_add];exact (z.zr.take _) k r hk) (λi=>by rw[Nat.pow_zero,Nat.one_mul];have:=zw i;omega) (λi=>by rw[Nat.pow_zero,Nat.one_mul,wW,fH];decide) i
 rw[Nat.zero_add,ht] at h;omega
theorem af4 {x y:Raw}(hx:x.Ok)(hy:y.Ok)(h0:y.q≠0):ai P F.Dx [uF x,uF y] (vQ (x.q / y.q)):=by
 have a1:=FM hx hx.ln hx.ld (by decide)
 have a2:=FM hy hy.ln hy.ld (by decide)
 have sn1:=lm x.q;have sn2:=lm y.q;have sd1:=lq x.q;have sd2:=lq y.q;have hn0:y.q.num.natAbs≠0:=λe=>h0 (Rat.num_eq_zero.1 (by omega))
 have m1:=gG x.q.num.natAbs y.q.den;have m2:=gG x.q.den y.q.num.natAbs;have dd0:=Nat.mul_ne_zero x.q.den_nz hn0;have hp:=YA (s:=decide (x.q.num<0)) (t:=decide (y.q.num<0)) (a:=x.q.num.natAbs) x.q.den_nz y.q.den_nz hn0;rw[mP,mP] at hp;refine ai.intro fn.Dx (by rfl) (by rfl) (ay (by rfl)) λE hE=>(AW.sg hE rfl (iO rfl rfl λb2=>(iO rfl rfl λb3=>(al z.Rat rfl λb4=>(OL.nil (AW.seq (AW.dg 1 [0,1,2,3,4,5] ak hE rfl (by kernel_rfl) (OI.aK (os:=[_,_,_,_,_,_]) rfl ?_))))))))
 refine aQ ag.Rat rfl rfl (vs:=[_,_,_]) rfl (ay rfl) (bH rfl .dD (wS (by assumption)) (aQ ag.Rat rfl rfl (vs:=[_,_,_]) rfl (ay rfl) (bH rfl .dD (wS (by assumption)) (fA sz.Rat rfl rfl rfl rfl rfl (ay rfl) (cells2:=[_,_,_]) rfl (fA sz.Rat rfl rfl rfl rfl rfl (ay rfl) (cells2:=[_,_,_]) rfl (OL.nil (AW.seq ?_)))))))
 refine AW.dg 1 [0,1,2,3,4,5,6,7,8,9,10,11,12,13,14,15,16] ak hE rfl (by kernel_rfl) (OI.aK (os:=[_,_,_,_,_,_,_,_,_,_,_,_,_,_,_,_,_]) rfl ?_)
 refine bC fd.uh rfl rfl (aG ce.bool rfl rfl rfl (bC fd.uh rfl rfl (aG ce.bool rfl rfl rfl (neb bt.bool rfl rfl (bC fd.rZ rfl rfl (aG ce.aH rfl rfl rfl (aQ ag.Rat rfl rfl (vs:=[_,_,_]) rfl (ay rfl) ?_)))))));refine bH rfl .dD (CP) (bH rfl vL (vC (a:=x.q.num.natAbs) (b:=y.q.den) (by omega) (by omega)) (aQ ag.Rat rfl rfl (vs:=[_,_,_]) rfl (ay rfl) (bH rfl .dD (CP) (bC fd.rZ rfl rfl (aG ce.aH rfl rfl rfl (bH rfl vL (vC (a:=x.q.den) (b:=y.q.num.natAbs) (by omega) (by omega)) (bH rfl vL (DL (s:=(decide (x.q.num<0) != decide (y.q.num<0))) (by omega) (by omega) dd0) ?_)))))))
 rw[<- hp];exact fA sz.Rat rfl rfl rfl rfl rfl (ay rfl) (cells2:=[_,_,_]) rfl (OL.nil (AW.ret (aP.r ⟨_,.dN rfl rfl ag.Rat (ay rfl) .nil,.ag (.cons (.le vR) (.cons (.le vR) (.cons (.le vR) .nil)))⟩)))
theorem aV2 {x y:Raw}(hx:x.Ok)(hy:y.Ok)(h0:y.q≠0):ai P F.DC [uF x,uF y] (.mM [vQ (x.q / y.q),.d (dI 0)]):=by
 refine ai.intro fn.DC (by rfl) (by rfl) (ay (by rfl)) λE hE=>(AW.sg hE rfl (iO rfl rfl λb2=>(iO rfl rfl λb3=>(al z.Rat rfl λb4=>(aF rfl (OL.nil (AW.seq ?_)))))))
 refine AW.sg hE rfl (aQ ag.Rat rfl rfl (vs:=[_,_,_]) rfl (ay rfl) (bH rfl vL (V9 hy) (fG rfl rfl rfl (OL.nil (AW.cond rfl (λhno=>absurd hno (by rw[decide_eq_false λe=>h0 (sK.1 e)];decide)) (λ_=>?_))))))
 refine AW.skip (AW.sg hE rfl (aQ ag.Rat rfl rfl (vs:=[_,_,_]) rfl (ay rfl) (aQ ag.Rat rfl rfl (vs:=[_,_,_]) rfl (ay rfl) (bH rfl vL (af4 hx hy h0) (fA sz.Rat rfl rfl rfl rfl rfl (ay rfl) (cells2:=[_,_,_]) rfl (aF rfl (OL.nil ?_)))))));exact AW.ret (aP.r ⟨_,.dN rfl rfl ag.Rat (ay rfl) (.tmp rfl .nil),_,.cons (.ag (.cons (.le vR) (.cons (.le vR) (.cons (.le vR) .nil)))) (.cons (.le vR) .nil),rfl⟩)
theorem aG3 {x y:Rat}(hx:sz x<=68719476736)(hy:sz y<=68719476736)(h0:y≠0):ai P F.DC [vQ x,vQ y] (.mM [vQ (x / y),.d (dI 0)]):=by
 have h:=aV2 (x:=fZ x) (y:=fZ y) (jQ (by omega)) (jQ (by omega)) (by rw[ny];exact h0)
 rw[ny,ny] at h;exact h
theorem Xy {x y:Rat}(hx:sz x<=68719476736)(hy:sz y<=68719476736)(h0:y≠0):ai P F.Dx [vQ x,vQ y] (vQ (x / y)):=by
 have h:=af4 (x:=fZ x) (y:=fZ y) (jQ (by omega)) (jQ (by omega)) (by rw[ny];exact h0)
 rw[ny,ny] at h;exact h
theorem aG4 {v u:List Rat}{n:Nat}(hv:v.length=n)(hu:u.length=n)(hn:n<=64)(zv:∀ i,sz (v.getD i 0)<=16777215)(zu:∀ i,sz (u.getD i 0)<=16777215):ai P F.GI [.d (dJ v),.d (dJ u)] (vQ (Ld v u n)):=by
 refine ai.intro fn.GI (by rfl) (by rfl) (ay (by rfl)) λE hE=>(AW.sg hE rfl (al z.Rat rfl λb4=>(OL.nil (AW.sg hE rfl (bd z.Rat pl.Rat (cs:=[_,_,_]) rfl (al z.Rat rfl λb5=>(fA sz.Rat rfl rfl rfl rfl rfl (ay rfl) (cells2:=[_,_,_]) rfl ?_)))))))
 refine OL.nil (AW.seq (AW.sg hE rfl (aF rfl (OL.nil (AW.block (AW.oZ 5 (KH 0) rfl aw9 ?_))))));refine AW.aY (α:=Nat) [(0,_),(1,_),(4,_),(5,_)] [(4,_)] (λi=>[(6,.d (dI i))]) (λi=>[(5,.box b5 T.Rat (KH (Ld v u i)))]) (λi=>i<=n) (λi=>n-i) 0 (.cons (di rfl) (.cons (di rfl) (.cons (iw rfl) (.cons (iw rfl) .nil)))) (.cons (je rfl) .nil) ⟨Nat.zero_le _,.dD,.cons rfl .nil⟩ ?_
 rintro i h1
 have h1:i<=n:=h1;have z1:=zv i;have z2:=zu i;have z3:=lu (v.getD i 0) (u.getD i 0);have z4:sz (Ld v u i)<=1+i*(33554430+1):=O5 i λj _=>by have:=lu (v.getD j 0) (u.getD j 0);have:=zv j;have:=zu j;omega
 refine AW.seq (AW.sg hE rfl (aj rfl (aj rfl (fF sl.bg rfl rfl (bG rfl rfl rfl (OL.split 11 rfl (λha=>?_) (λha=>?_)))))))
 .have ha:i<n:=by have:=lK ha;omega
  refine aj rfl (OL.yes rfl (aj rfl (OL.yes rfl (aj rfl (OL.yes rfl (fF sl.bg rfl rfl (OL.yes rfl ?_)))))));refine bG rfl rfl (c:=true) (decide_eq_true (by omega)) (oK rfl rfl (OL.nil (Hr rfl ?_)))
  refine AW.skip (AW.seq (AW.block (AW.dg 1 [0,1,2,3,4,5,6,7,8,9,10,11] ak hE rfl (by kernel_rfl) (OI.aK (os:=[_,_,_,_,_,_,_,_,_,_,_,_]) rfl ?_))))
  refine aQ ag.Rat rfl rfl (vs:=[_,_,_]) rfl (ay rfl) (aj rfl (aj rfl (dR sl.bg 0 rfl rfl (by omega) rfl rfl (iD ag.Rat rfl (vs:=[_,_,_]) rfl (ay rfl) (aj rfl (aj rfl (dR sl.bg 0 rfl rfl (by omega) rfl rfl ?_)))))))
  refine iD ag.Rat rfl (vs:=[_,_,_]) rfl (ay rfl) (bH rfl vL (Ea (x:=v.getD i 0) (y:=u.getD i 0) (by omega) (by omega)) (bH rfl vL (OV (x:=Ld v u i) (y:=v.getD i 0*u.getD i 0) (by omega) (by omega)) (fA sz.Rat rfl rfl rfl rfl rfl (ay rfl) (cells2:=[_,_,_]) rfl (OL.nil (AW.rg hE rfl (aj rfl (aI rfl rfl (by omega) ?_)))))))
  exact aF rfl (OL.nil (AW.again (x:=i) (i+1) (by omega) ⟨by omega,Knows.app .LV .dD,dL.app (.cons rfl .nil) (.cons rfl .nil)⟩))
 .have ha:¬ i<n:=by have:=nZ ha;omega
  obtain rfl:i=n:=by omega
  refine aj rfl (OL.nd rfl (OL.nd rfl (OL.nd rfl (OL.nd rfl (oI rfl rfl (OL.nil (oH rfl ?_)))))));exact AW.exit (AW.sg hE rfl (aQ ag.Rat rfl rfl (vs:=[_,_,_]) rfl (ay rfl) (fA sz.Rat rfl rfl rfl rfl rfl (ay rfl) (cells2:=[_,_,_]) rfl (OL.nil (AW.ret (aP.r ⟨_,.dN rfl rfl ag.Rat (ay rfl) .nil,.ag (.cons (.le vR) (.cons (.le vR) (.cons (.le vR) .nil)))⟩))))))
theorem NU {l:List Rat}(nl:l.length<=64)(hz:∀ i,sz (l.getD i 0)<=68719476736):ai P F.ED [.d (dJ l)] (.d (dJ l)):=by
 refine ai.intro fn.ED (by rfl) (by rfl) (ay (by rfl)) λE hE=>(AW.sg hE rfl (jK rfl (OL.nil (AW.sg hE rfl (jK rfl (OL.nil (AW.seq ?_)))))))
 refine AW.seq (AW.own 3 18 T.Rat 3 rfl rfl (AW.rg hE rfl (aF rfl (OL.nil (AW.block ?_)))));refine AW.aY (α:=Nat × Nat × Nat) [(0,_),(2,_)] [] (λ(i,bq,cq)=>[(3,.bI 18 bq i cq),(4,.d (dI i))]) (λ(i,bq,cq)=>[(18,.row bq cq T.Rat 3 ((l.take i).map dQ))]) (λ(i,bq,cq)=>i<=l.length) (λ(i,bq,cq)=>l.length-i) (0,0,0) (.cons (di rfl) (.cons (xK rfl) .nil)) .nil ⟨Nat.zero_le _,.iW,.cons rfl .nil⟩ ?_
 rintro⟨i,bq,cq⟩ h1
 have h1:i<=l.length:=h1;refine AW.seq (AW.sg hE rfl (aj rfl (aj rfl (fF sl.bg rfl rfl (bG rfl rfl rfl (OL.nil (AW.cond rfl (λh8=>?_) (λh8=>?_))))))))
 .try simp only[fD] at h8
  refine AW.skip (AW.seq (AW.block ?_));have hx:=hz i;refine AW.rg hE rfl (iU rfl (aj rfl (aj rfl (dR sl.bg 0 rfl rfl (by omega) rfl rfl (iD ag.Rat rfl (vs:=[_,_,_]) rfl (ay rfl) (bH rfl vL (TA (q:=l.getD i 0) (by omega)) (rF (y:=dQ (l.getD i 0)) sl.bg BJ rfl (by decide) ?_)))))))
  refine xZ sl.bg rfl rfl rfl (by rw[dA,List.length_take];omega) (VC.d _) (λy hy=>by rw[jJ hy];rfl) (by simp only[iY];omega) (by simp only[iY];omega) (.inr rfl) (ys:=(l.take (i+1)).map dQ) (by rw[iL 0 (by omega),List.map_append];rfl) (n2:=i+1) rfl λb18 c18=>?_
  exact pV rfl (OL.nil (AW.rg hE rfl (aj rfl (aI rfl rfl (by omega) (aF rfl (OL.nil (AW.again (x:=(i,bq,cq)) (i+1,b18,c18) (by (simp only[];omega)) ⟨by omega,Knows.app .iW .iW,.cons rfl .nil⟩)))))))
 .try simp only[fD] at h8
  refine AW.exit (AW.seq ?_);obtain rfl:i=l.length:=by omega
  exact AW.rg hE rfl (iU rfl (pV rfl (OL.nil (AW.ret (aP.r ⟨_,.tmp rfl .nil,RO.all rfl rfl (by simp) (by rw[List.take_length])⟩)))))
theorem Zl {l:List Rat}(nl:l.length<=64):ai P F.yx [.d (qG l)] (.d (dJ l)):=by
 refine ai.intro fn.yx (by rfl) (by rfl) (ay (by rfl)) λE hE=>(AW.sg hE rfl (jK rfl (OL.nil (AW.sg hE rfl (jK rfl (OL.nil (AW.seq ?_)))))))
 refine AW.seq (AW.own 3 18 T.Rat 3 rfl rfl (AW.rg hE rfl (aF rfl (OL.nil (AW.block ?_)))));refine AW.aY (α:=Nat × Nat × Nat) [(0,_),(2,_)] [] (λ(i,bq,cq)=>[(3,.bI 18 bq i cq),(4,.d (dI i))]) (λ(i,bq,cq)=>[(18,.row bq cq T.Rat 3 ((l.take i).map dQ))]) (λ(i,bq,cq)=>i<=l.length) (λ(i,bq,cq)=>l.length-i) (0,0,0) (.cons (di rfl) (.cons (xK rfl) .nil)) .nil ⟨Nat.zero_le _,.iW,.cons rfl .nil⟩ ?_
 rintro⟨i,bq,cq⟩ h1
 have h1:i<=l.length:=h1;refine AW.seq (AW.sg hE rfl (aj rfl (aj rfl (fF sl.aW rfl rfl (bG rfl rfl rfl (OL.nil (AW.cond rfl (λh8=>?_) (λh8=>?_))))))))
 .try simp only[fD] at h8
  refine AW.skip (AW.seq (AW.block (AW.rg hE rfl (iU rfl (aj rfl (aj rfl (dR sl.aW 0 rfl rfl (by omega) rfl rfl ?_)))))))
  refine Ov fd.iC rfl rfl (iD ag.Rat rfl (vs:=[_,_,_]) rfl (ay rfl) (rF (y:=dQ (l.getD i 0)) sl.bg BJ rfl (by decide) ?_))
  refine xZ sl.bg rfl rfl rfl (by rw[dA,List.length_take];omega) (VC.d _) (λy hy=>by rw[jJ hy];rfl) (by simp only[iY];omega) (by simp only[iY];omega) (.inr rfl) (ys:=(l.take (i+1)).map dQ) (by rw[iL 0 (by omega),List.map_append];rfl) (n2:=i+1) rfl λb18 c18=>?_
  exact pV rfl (OL.nil (AW.rg hE rfl (aj rfl (aI rfl rfl (by omega) (aF rfl (OL.nil (AW.again (x:=(i,bq,cq)) (i+1,b18,c18) (by (simp only[];omega)) ⟨by omega,Knows.app .iW .iW,.cons rfl .nil⟩)))))))
 .try simp only[fD] at h8
  refine AW.exit (AW.seq ?_);obtain rfl:i=l.length:=by omega
  exact AW.rg hE rfl (iU rfl (pV rfl (OL.nil (AW.ret (aP.r ⟨_,.tmp rfl .nil,RO.all rfl rfl (by simp) (by rw[List.take_length])⟩)))))
theorem J3 {v:List Rat}(nl:v.length<=64)(hz:∀ i,sz (v.getD i 0)<=274877906944):ai P F.EH [.d (dJ v)] (.d (dI (CU v))):=by
 refine ai.intro fn.EH (by rfl) (by rfl) (ay (by rfl)) λE hE=>(AW.sg hE rfl (aF rfl (OL.nil (AW.seq (AW.sg hE rfl (aF rfl (OL.nil ?_)))))))
 refine AW.block (AW.aY (α:=Nat) [(0,_)] [] (λi=>[(3,.d (dI i))]) (λi=>[]) (λi=>i<=v.length/\∀ j,j<i->v.getD j 0=0) (λi=>v.length-i) 0 (.cons (di rfl) .nil) .nil ⟨⟨Nat.zero_le _,λj hj=>by omega⟩,.dD,.nil⟩ ?_)
 rintro i ⟨h1,h2⟩
 have h1:i<=v.length:=h1;have h2:∀ j,j<i->v.getD j 0=0:=h2;refine AW.seq (AW.sg hE rfl (aj rfl (aj rfl (fF sl.bg rfl rfl (bG rfl rfl rfl (OL.nil (AW.cond rfl (λh7=>?_) (λh7=>?_))))))))
 .try simp only[fD] at h7
  refine AW.skip (AW.seq (AW.block (AW.seq ?_)));have zx:=hz i;refine AW.rg hE rfl (aj rfl (aj rfl (dR sl.bg 0 rfl rfl (by omega) rfl rfl (iD ag.Rat rfl (vs:=[_,_,_]) rfl (ay rfl) (bH rfl vL (KJ (x:=v.getD i 0) (by omega)) (eX rfl rfl rfl (OL.nil ?_)))))))
  refine AW.cond rfl (λhx=>?_) (λhx=>?_)
  .have hx:v.getD i 0≠0:=λe=>BI hx (sK.2 e);exact AW.sg hE rfl (aj rfl (aF rfl (OL.nil (AW.ret (aP.r ⟨_,.tmp rfl .nil,.le (bW.int ((Xn (by omega) hx h2).symm))⟩)))))
  .have hx:v.getD i 0=0:=sK.1 (yY hx);exact AW.skip (AW.rg hE rfl (aj rfl (aI rfl rfl (by omega) (aF rfl (OL.nil (AW.again (x:=i) (i+1) (by omega) ⟨⟨by omega,TF h2 hx⟩,Knows.app .dD .dD,.nil⟩))))))
 .try simp only[fD] at h7
  exact AW.exit (AW.sg hE rfl (aF rfl (OL.nil (AW.ret (aP.r ⟨_,.tmp rfl .nil,.le (bW.int ((Tq λj hj=>h2 j (by omega)).symm))⟩)))))
theorem U9 {v:List Rat}(nl:v.length<=64)(hz:∀ i,sz (v.getD i 0)<=274877906944):ai P F.EQ [.d (dJ v)] (.d (dI (CU v))):=by
 refine ai.intro fn.EQ (by rfl) (by rfl) (ay (by rfl)) λE hE=>(AW.sg hE rfl (aF rfl (OL.nil (AW.seq (AW.sg hE rfl (aF rfl (OL.nil ?_)))))))
 refine AW.block (AW.aY (α:=Nat) [(0,_)] [] (λi=>[(3,.d (dI i))]) (λi=>[]) (λi=>i<=v.length/\∀ j,j<i->v.getD j 0=0) (λi=>v.length-i) 0 (.cons (di rfl) .nil) .nil ⟨⟨Nat.zero_le _,λj hj=>by omega⟩,.dD,.nil⟩ ?_)
 rintro i ⟨h1,h2⟩
 have h1:i<=v.length:=h1;have h2:∀ j,j<i->v.getD j 0=0:=h2;refine AW.seq (AW.sg hE rfl (aj rfl (aj rfl (fF sl.bg rfl rfl (bG rfl rfl rfl (OL.nil (AW.cond rfl (λh7=>?_) (λh7=>?_))))))))
 .try simp only[fD] at h7
  refine AW.skip (AW.seq (AW.block (AW.seq ?_)));have zx:=hz i;refine AW.rg hE rfl (aj rfl (aj rfl (dR sl.bg 0 rfl rfl (by omega) rfl rfl (iD ag.Rat rfl (vs:=[_,_,_]) rfl (ay rfl) (bH rfl vL (KJ (x:=v.getD i 0) (by omega)) (eX rfl rfl rfl (OL.nil ?_)))))))
  refine AW.cond rfl (λhx=>?_) (λhx=>?_)
  .have hx:v.getD i 0≠0:=λe=>BI hx (sK.2 e);exact AW.sg hE rfl (aj rfl (aF rfl (OL.nil (AW.ret (aP.r ⟨_,.tmp rfl .nil,.le (bW.int ((Xn (by omega) hx h2).symm))⟩)))))
  .have hx:v.getD i 0=0:=sK.1 (yY hx);exact AW.skip (AW.rg hE rfl (aj rfl (aI rfl rfl (by omega) (aF rfl (OL.nil (AW.again (x:=i) (i+1) (by omega) ⟨⟨by omega,TF h2 hx⟩,Knows.app .dD .dD,.nil⟩))))))
 .try simp only[fD] at h7
  exact AW.exit (AW.sg hE rfl (aF rfl (OL.nil (AW.ret (aP.r ⟨_,.tmp rfl .nil,.le (bW.int ((Tq λj hj=>h2 j (by omega)).symm))⟩)))))
theorem Va {v w:List Rat}{c:Rat}(nl:v.length<=64)(hw:v.length<=w.length)(zv:∀ i,sz (v.getD i 0)<=17179869183)(zw:∀ i,sz (w.getD i 0)<=17179869183)(zc:sz c<=34359738366):ai P F.vw [.d (dJ v),.d (dJ w),vQ c] (.d (dJ (nY v w c))):=by
 have hll:=Am (v:=v) (w:=w) (c:=c);refine ai.intro fn.vw (by rfl) (by rfl) (ay (by rfl)) λE hE=>(AW.sg hE rfl (iO rfl rfl λb5=>(jK rfl (OL.nil (AW.sg hE rfl (jK rfl (OL.nil ?_)))))))
 refine AW.seq (AW.seq (AW.own 7 28 T.Rat 3 rfl rfl (AW.rg hE rfl (aF rfl (OL.nil (AW.block ?_))))));refine AW.aY (α:=Nat × Nat × Nat) [(0,_),(1,_),(5,_),(6,_)] [(5,_)] (λ(i,bq,cq)=>[(7,.bI 28 bq i cq),(8,.d (dI i))]) (λ(i,bq,cq)=>[(28,.row bq cq T.Rat 3 ((Gn v w c i).map dQ))]) (λ(i,bq,cq)=>i<=v.length) (λ(i,bq,cq)=>v.length-i) (0,0,0) (.cons (di rfl) (.cons (di rfl) (.cons (iw rfl) (.cons (xK rfl) .nil)))) (.cons (je rfl) .nil) ⟨Nat.zero_le _,.iW,.cons rfl .nil⟩ ?_
 rintro⟨i,bq,cq⟩ h1
 have h1:i<=v.length:=h1;have z1:=zv i;have z2:=zw i;have z3:=lu (w.getD i 0) c;refine AW.seq (AW.sg hE rfl (aj rfl (aj rfl (fF sl.bg rfl rfl (bG rfl rfl rfl (OL.nil (AW.cond rfl (λh12=>?_) (λh12=>?_))))))))
 .try simp only[fD] at h12
  refine AW.skip (AW.seq (AW.block (AW.dg 2 [0,1,2,3,4,5,6,7,8,9,10,11,12,13,14] ak hE rfl (by kernel_rfl) (OI.aK (os:=[_,_,_,_,_,_,_,_,_,_,_,_,_,_,_]) rfl ?_))))
  refine iU rfl (aj rfl (aj rfl (dR sl.bg 0 rfl rfl (by omega) rfl rfl (iD ag.Rat rfl (vs:=[_,_,_]) rfl (ay rfl) (aj rfl (aj rfl (dR sl.bg 0 rfl rfl (by omega) rfl rfl ?_)))))))
  refine iD ag.Rat rfl (vs:=[_,_,_]) rfl (ay rfl) (aQ ag.Rat rfl rfl (vs:=[_,_,_]) rfl (ay rfl) (bH rfl vL (Ea (x:=w.getD i 0) (y:=c) (by omega) (by omega)) (bH rfl vL (OX (x:=v.getD i 0) (y:=w.getD i 0*c) (by omega) (by omega)) (rF (y:=dQ (v.getD i 0-w.getD i 0*c)) sl.bg BJ rfl (by decide) ?_))))
  refine xZ sl.bg rfl rfl rfl (by rw[dA,List.length_take];omega) (VC.d _) (λy hy=>by rw[jJ hy];rfl) (by simp only[iY];omega) (by simp only[iY];omega) (.inr rfl) (ys:=(Gn v w c (i+1)).map dQ) (by rw[Qp (by omega),List.map_append];rfl) (n2:=i+1) rfl λb28 c28=>?_
  refine pV rfl (OL.nil (AW.rg hE rfl (aj rfl (aI rfl rfl (by omega) (aF rfl (OL.nil ?_))))))
  exact AW.again (x:=(i,bq,cq)) (i+1,b28,c28) (by (simp only[];omega)) ⟨by omega,Knows.app .LV .iW,dL.app (.cons rfl .nil) (.cons rfl .nil)⟩
 .try simp only[fD] at h12
  refine AW.exit (AW.seq ?_);obtain rfl:i=v.length:=by omega
  exact AW.rg hE rfl (iU rfl (pV rfl (OL.nil (AW.ret (aP.r ⟨_,.tmp rfl .nil,RO.all rfl rfl (by rw[dA,List.length_take];omega) (by rw[show Gn v w c v.length=nY v w c from List.take_of_length_le (by omega)])⟩)))))
theorem aG5 {l:List (List Rat)}{n:Nat}(nl:l.length<=256)(hn:1<=n/\n<=64)(hl:∀ v,v ∈ l->v.length=n):ai P F.BX [.d (.sl (l.map dJ))] (.d (dB true)):=by
 refine ai.intro fn.BX (by rfl) (by rfl) (ay (by rfl)) λE hE=>(AW.sg hE rfl (aF rfl (OL.nil (AW.seq (AW.sg hE rfl (aF rfl (OL.nil ?_)))))))
 refine AW.block (AW.aY (α:=Nat) [(0,_)] [] (λi=>[(3,.d (dI i))]) (λi=>[]) (λi=>i<=l.length) (λi=>l.length-i) 0 (.cons (di rfl) .nil) .nil ⟨Nat.zero_le _,.dD,.nil⟩ ?_)
 rintro i h1
 have h1:i<=l.length:=h1;refine AW.seq (AW.sg hE rfl (aj rfl (aj rfl (fF sl.dw rfl rfl (bG rfl rfl rfl (OL.nil (AW.cond rfl (λh7=>?_) (λh7=>?_))))))))
 .try simp only[fD] at h7
  refine AW.skip (AW.seq (AW.block (AW.seq ?_)));have hx:=hl _ (getD_mem (show i<l.length by omega) [])
  have hy:=hl _ (getD_mem (show 0<l.length by omega) [])
  refine AW.dg 1 [0,1,2,3,4,5,6,7,8,9,10,11,12,13,14,15,16,17,18,19,20,21,22,23,24,25] ak hE rfl (by kernel_rfl) (OI.aK (os:=[_,_,_,_,_,_,_,_,_,_,_,_,_,_,_,_,_,_,_,_,_,_,_,_,_,_]) rfl ?_)
  refine aj rfl (aj rfl (dR sl.dw [] rfl rfl (by omega) rfl rfl (iE ce.bg rfl (fF sl.bg rfl rfl (bG rfl rfl (c:=false) (by exact decide_eq_false (by omega)) (aj rfl (OL.yes rfl ?_)))))))
  refine aj rfl (OL.yes rfl (aj rfl (OL.yes rfl (dR sl.dw [] rfl rfl (by omega) rfl rfl (OL.yes rfl (iE ce.bg rfl (OL.yes rfl ?_)))))))
  refine fF sl.bg rfl rfl (OL.yes rfl (jI rfl rfl (c:=false) (by exact decide_eq_false (by omega)) (oI rfl rfl (aj rfl (OL.yes rfl (aj rfl (OL.yes rfl ?_)))))))
  refine aj rfl (OL.yes rfl (dR sl.dw [] rfl rfl (by omega) rfl rfl (OL.yes rfl (iE ce.bg rfl (OL.yes rfl (fF sl.bg rfl rfl (OL.yes rfl ?_)))))))
  refine aj rfl (OL.yes rfl (Ux 0 sl.dw [] rfl rfl rfl (by omega) rfl rfl (OL.yes rfl (iE ce.bg rfl (OL.yes rfl (fF sl.bg rfl rfl (OL.yes rfl ?_)))))))
  refine eX rfl rfl (c:=false) (kY (by omega)) (oI rfl rfl (OL.nil (oH rfl ?_)))
  exact AW.skip (AW.rg hE rfl (aj rfl (aI rfl rfl (by omega) (aF rfl (OL.nil (AW.again (x:=i) (i+1) (by omega) ⟨by omega,Knows.app .dD .dD,.nil⟩))))))
 .try simp only[fD] at h7
  exact AW.exit (AW.sg hE rfl (aF rfl (OL.nil (AW.ret (aP.r ⟨_,.tmp rfl .nil,.le vR⟩)))))
