/-
  Walks of layers 3, 6 and 15 of the specification and of equal.Zero (printed by mk2.py).
-/
import Derived.Test.YtanlenlmihoiiaaGreatDoorKAlg41
set_option maxHeartbeats 3200000
set_option linter.unusedVariables false
set_option linter.unusedSimpArgs false
namespace Go.Proofs.YtanlenlmihoiiaaGreatDoor
open Go Go.AL
theorem aD8 {l:List Rat}:∀ y,y ∈ l.map dW->y.cells.length=8:=λy hy=>by obtain⟨a,_,rfl⟩:=jH hy;rfl
theorem YN {l:List bM}{n i:Nat}(hi:i<l.length):(moved l n).take (i+1)=(moved l n).take i++[⟨(l.getD i default).f+n,(l.getD i default).l,(l.getD i default).t+n,(l.getD i default).q⟩]:=by
 rw[iV default (by rw[CY];exact hi)]
 congr 2;unfold moved;rw[iO,List.getElem?_map,iO,lF hi];rfl
theorem ac1 {l:List Rat}{i:Nat}(hi:i<l.length):(l.map dW)[i]? = some (dW (l.getD i 0)):=by rw[List.getElem?_map,iO,lF hi];rfl
abbrev JO (l:List bM):List bM:=l.map λx=>⟨x.t,x.l,x.f,x.q⟩
theorem KU {l:List bM}:(JO l).length=l.length:=dL ..
theorem YO {l:List bM}{i:Nat}(hi:i<l.length):(JO l).take (i+1)=(JO l).take i++[⟨(l.getD i default).t,(l.getD i default).l,(l.getD i default).f,(l.getD i default).q⟩]:=by
 rw[iV default (by rw[KU];exact hi)]
 congr 2;unfold JO;rw[iO,List.getElem?_map,iO,lF hi];rfl
abbrev bf8 (a:Au):Au:=⟨a.sym,a.st,a.fin,a.ini,JO a.aB⟩
theorem aT8 {a:Au}(h:a.Ok):(bf8 a).Ok:=⟨h.H8,h.fin,h.ini,λy hy=>by
 obtain⟨x,hx,rfl⟩:=jH hy;have:=h.arc x hx;exact⟨this.2.1,this.1,this.2.2⟩⟩
theorem aT9 {a:Au}(h:a.Sz 134217728 20):(bf8 a).Sz 134217728 20:=⟨h.fin,h.ini,λy hy=>by
 obtain⟨x,hx,rfl⟩:=jH hy;exact h.arc x hx,by show (JO a.aB).length<=20;rw[KU];exact h.num⟩
abbrev Iu (l:List Rat)(q:Rat)(i:Nat):List Rat:=(l.take i).map (λx=>x*q)++l.drop i
theorem aD9 {l:List Rat}{q:Rat}{i:Nat}(hi:i<=l.length):(Iu l q i).length=l.length:=by simp[Iu];omega
theorem aE0 {l:List Rat}{q:Rat}{i:Nat}(hi:i<l.length):(Iu l q i).getD i 0=l.getD i 0:=by
 have hl:((l.take i).map (λx=>x*q)).length=i:=by rw[dL,List.length_take];omega
 rw[iO,List.getElem?_append_right (by omega),hl,Nat.sub_self,List.getElem?_drop,Nat.add_zero,iO]
theorem aE1 {l:List Rat}{q:Rat}{i:Nat}(hi:i<l.length):(Iu l q i).set i (l.getD i 0*q)=Iu l q (i+1):=by
 have hl:((l.take i).map (λx=>x*q)).length=i:=by rw[dL,List.length_take];omega
 unfold Iu;rw[List.set_append_right _ _ (by omega),hl,Nat.sub_self,List.drop_eq_getElem_cons hi,List.set_cons_zero,iV 0 hi,List.map_append,List.append_assoc]
 rfl
theorem aE2 {l:List Rat}{q:Rat}:Iu l q l.length=l.map λx=>x*q:=by simp[Iu]
theorem aU0  : ai P F.DN [jG,jG] (.d (dB true)):=by
 refine ai.intro fn.DN (by rfl) (by rfl) (au (by rfl)) λE hE=>(AW.sg hE rfl (iG rfl rfl λb2=>(iG rfl rfl λb3=>(aG rfl (OL.nil (AW.seq (AW.sg hE rfl ?_)))))))
 refine aV fd.kK rfl rfl (aA ce.int rfl rfl rfl (aV fd.kK rfl rfl (aA ce.int rfl rfl rfl (fJ rfl rfl (c:=false) (o6 rfl) (aj rfl (OL.yes rfl (aV fd.Ei rfl rfl ?_)))))));refine OL.yes rfl (aA ce.ints rfl rfl rfl (OL.yes rfl (Lp sl.ints rfl rfl rfl (OL.yes rfl (aV fd.Ei rfl rfl (OL.yes rfl (aA ce.ints rfl rfl rfl ?_)))))));refine OL.yes rfl (Lp sl.ints rfl rfl rfl (OL.yes rfl (fJ rfl rfl (c:=false) (o6 rfl) (oI rfl rfl (OL.nil (pW rfl ?_))))));refine AW.skip (AW.seq (AW.sg hE rfl (aG rfl (OL.nil (AW.block (AW.aX (α:=Unit) [(2,_),(3,_)] [(2,_),(3,_)] (λ_u=>[(5,.d (dI 0))]) (λ_u=>[]) (λ_u=>True) (λ_u=>0) () (.cons (iF rfl) (.cons (iF rfl) .nil)) (.cons (jc rfl) (.cons (jc rfl) .nil)) ⟨trivial,.dw,.nil⟩ ?_))))));intro _ _;refine AW.seq (AW.sg hE rfl (aj rfl (aV fd.Ei rfl rfl (aA ce.ints rfl rfl rfl (Lp sl.ints rfl rfl rfl (bD rfl rfl rfl (OL.nil ?_)))))));refine AW.cond rfl (λhno=>absurd hno (by simp)) (λ_=>?_)
 exact AW.exit (AW.sg hE rfl (aG rfl (OL.nil (AW.ret (aT.r ⟨_,.tmp rfl .nil,.le vR⟩)))))
theorem Uo {p q:Rat}(hp:sz p<=68719476736)(hq:sz q<=68719476736):ai P F.A8 [jG,vW p,vW q] (vW (p*q)):=by
 refine ai.intro fn.A8 (by rfl) (by rfl) (au (by rfl)) λE hE=>(AW.sg hE rfl (iG rfl rfl λb3=>(iG rfl rfl λb4=>(iG rfl rfl λb5=>(al z.ay rfl λb6=>(OL.nil (AW.seq ?_)))))))
 refine AW.sg hE rfl (aQ ag.Ring rfl rfl (vs:=[_,_]) rfl (au rfl) (bP rfl .dw (GL) (nt rfl (OL.nil (pW rfl ?_)))));refine AW.skip (AW.seq (AW.dg 1 [0,1,2,3,4,5,6,7] ak hE rfl (by kernel_rfl) (OI.aP (os:=[_,_,_,_,_,_,_,_]) rfl ?_)))
 refine aQ ag.Ring rfl rfl (vs:=[_,_]) rfl (au rfl) (aQ ag.ay rfl rfl (vs:=[_,_,_,_,_,_,_,_]) rfl (au rfl) (bP rfl vL (KT hp) (aQ ag.Ring rfl rfl (vs:=[_,_]) rfl (au rfl) (aQ ag.ay rfl rfl (vs:=[_,_,_,_,_,_,_,_]) rfl (au rfl) (bP rfl vL (KT hq) (eG sz.ay rfl rfl rfl rfl rfl (au rfl) (cells2:=[_,_,_,_,_,_,_,_]) rfl (eG sz.ay rfl rfl rfl rfl rfl (au rfl) (cells2:=[_,_,_,_,_,_,_,_]) rfl ?_)))))));refine OL.nil (AW.seq (AW.sg hE rfl (aV fd.kK rfl rfl (aA ce.int rfl rfl rfl (OL.nil (AW.block (AW.seq ?_)))))));refine AW.sg hE rfl (fE rfl rfl (c:=true) (by exact decide_eq_true (by omega)) (aG rfl (OL.nil (F6 rfl ?_))))
 refine AW.skip (F6 rfl ?_);refine AW.sg hE rfl (aV fd.gG rfl rfl (aQ ag.Rat rfl rfl (vs:=[_,_,_]) rfl (au rfl) (aV fd.gG rfl rfl (aQ ag.Rat rfl rfl (vs:=[_,_,_]) rfl (au rfl) (bP rfl vL (FU (x:=p) (y:=q) hp hq) (bd z.ay pl.ay (cs:=[_,_,_,_,_,_,_,_]) rfl (eG sz.ay rfl rfl rfl rfl rfl (au rfl) (cells2:=[_,_,_,_,_,_,_,_]) rfl ?_)))))));exact OL.nil (AW.ret (aT.r ⟨_,.dK rfl rfl ag.ay (au rfl) .nil,.le FM⟩))
theorem RS {l:List Rat}(nl:l.length<=64)(hz:∀ x,x ∈ l->sz x<=134217728):ai P F.xP [jG,.d (lC l),.d (dI l.length)] (.d (dB true)):=by
 refine ai.intro fn.xP (by rfl) (by rfl) (au (by rfl)) λE hE=>(AW.sg hE rfl (iG rfl rfl λb3=>(aG rfl (OL.nil (AW.seq (AW.sg hE rfl (aj rfl ?_)))))))
 refine fO sl.aS rfl rfl (aj rfl (fJ rfl rfl (c:=false) (o6 rfl) (OL.nil (pW rfl ?_))));refine AW.skip (AW.seq (AW.sg hE rfl (aG rfl (OL.nil (AW.block ?_)))));refine AW.aX (α:=Nat) [(1,_),(2,_),(3,_)] [(3,_)] (λi=>[(7,.d (dI i))]) (λi=>[]) (λi=>i<=l.length) (λi=>l.length-i) 0 (.cons (dA rfl) (.cons (dA rfl) (.cons (iF rfl) .nil))) (.cons (jc rfl) .nil) ⟨Nat.zero_le _,.dw,.nil⟩ ?_
 rintro i h1
 have h1:i<=l.length:=h1;refine AW.seq (AW.sg hE rfl (aj rfl (aj rfl (bD rfl rfl rfl (OL.nil (AW.cond rfl (λDp=>?_) (λDp=>?_)))))))
 .try simp only[fG] at Dp
  refine AW.skip (AW.seq (AW.block (AW.seq ?_)));have hx:=hz (l.getD i 0) (getD_mem (by omega) 0)
  refine AW.dg 1 [0,1,2,3,4,5,6] ak hE rfl (by kernel_rfl) (OI.aP (os:=[_,_,_,_,_,_,_]) rfl ?_)
  refine aQ ag.Ring rfl rfl (vs:=[_,_]) rfl (au rfl) (aj rfl (aj rfl (fD sl.aS 0 rfl rfl (by omega) rfl rfl (iR ag.ay rfl (vs:=[_,_,_,_,_,_,_,_]) rfl (au rfl) (bP rfl vL (Uj (q:=(l.getD i 0)) (by omega)) (nt rfl (OL.nil ?_)))))))
  refine pW rfl ?_;exact AW.skip (AW.rg hE rfl (aj rfl (aJ rfl rfl (by omega) (aG rfl (OL.nil (AW.again (x:=i) (i+1) (by omega) ⟨by omega,Knows.app .yI .dw,dP.app (.cons rfl .nil) (.nil)⟩))))))
 .try simp only[fG] at Dp
  exact AW.exit (AW.sg hE rfl (aG rfl (OL.nil (AW.ret (aT.r ⟨_,.tmp rfl .nil,.le vR⟩)))))
theorem GN {a:Au}(h:a.Ok)(za:a.Sz 134217728 20)(s1:a.sym<=32)(s2:a.st<=64):ai P F.AX [uY a] (.d (dB true)):=by
 have e1:=h.ini;have e2:=h.fin;have e3:=za.num;have h0:=h.H8;refine ai.intro fn.AX (by rfl) (by rfl) (au (by rfl)) λE hE=>(AW.sg hE rfl (iG rfl rfl λb1=>(aG rfl (OL.nil (AW.seq (AW.sg hE rfl (aV fd.gu rfl rfl ?_)))))))
 refine aQ ag.Ring rfl rfl (vs:=[_,_]) rfl (au rfl) (bP rfl .dw (GL) (nt rfl (aj rfl (OL.yes rfl (aV fd.kZ rfl rfl (OL.yes rfl (aA ce.int rfl rfl rfl ?_)))))));refine OL.yes rfl (bP rfl vL (ab9 (s:=a.sym) (by omega)) (OL.yes rfl (nt rfl (oI rfl rfl (aj rfl (OL.yes rfl (aV fd.jf rfl rfl ?_)))))))
 refine OL.yes rfl (aA ce.int rfl rfl rfl (OL.yes rfl (bP rfl vL (aT5 (v:=a.st) (lo:=0) (hi:=64) (by omega)) (OL.yes rfl (nt rfl (oI rfl rfl (aj rfl ?_)))))))
 refine OL.yes rfl (aV fd.gu rfl rfl (OL.yes rfl (aQ ag.Ring rfl rfl (vs:=[_,_]) rfl (au rfl) (OL.yes rfl (aV fd.mg rfl rfl (OL.yes rfl (aA ce.aS rfl rfl rfl ?_)))))));refine OL.yes rfl (aV fd.jf rfl rfl (OL.yes rfl (aA ce.int rfl rfl rfl (OL.yes rfl (bP rfl (.cons vR (.cons vR (.cons (bV.int (by omega)) .nil))) (RS (l:=a.ini) (by omega) za.ini) (OL.yes rfl (nt rfl ?_)))))))
 refine oI rfl rfl (aj rfl (OL.yes rfl (aV fd.gu rfl rfl (OL.yes rfl (aQ ag.Ring rfl rfl (vs:=[_,_]) rfl (au rfl) (OL.yes rfl (aV fd.o8 rfl rfl ?_)))))));refine OL.yes rfl (aA ce.aS rfl rfl rfl (OL.yes rfl (aV fd.jf rfl rfl (OL.yes rfl (aA ce.int rfl rfl rfl (OL.yes rfl (bP rfl (.cons vR (.cons vR (.cons (bV.int (by omega)) .nil))) (RS (l:=a.fin) (by omega) za.fin) ?_)))))))
 refine OL.yes rfl (nt rfl (oI rfl rfl (aj rfl (OL.yes rfl (aV fd.fM rfl rfl (OL.yes rfl (aA ce.bZ rfl rfl rfl ?_)))))));refine OL.yes rfl (fO sl.bZ rfl rfl (OL.yes rfl (kS rfl rfl (c:=false) (by exact decide_eq_false (by omega)) (oI rfl rfl (OL.nil (pW rfl ?_))))))
 refine AW.skip (AW.seq (AW.sg hE rfl (aG rfl (OL.nil (AW.block (AW.aX (α:=Nat) [(1,_)] [(1,_)] (λi=>[(3,.d (dI i))]) (λi=>[]) (λi=>i<=a.aB.length) (λi=>a.aB.length-i) 0 (.cons (iF rfl) .nil) (.cons (jc rfl) .nil) ⟨Nat.zero_le _,.dw,.nil⟩ ?_))))))
 rintro i h1
 have h1:i<=a.aB.length:=h1;refine AW.seq (AW.sg hE rfl (aj rfl (aV fd.fM rfl rfl (aA ce.bZ rfl rfl rfl (fO sl.bZ rfl rfl (bD rfl rfl rfl (OL.nil ?_)))))));refine AW.cond rfl (λh51=>?_) (λh51=>?_)
 .try simp only[fG] at h51
  refine AW.skip (AW.seq (AW.block (AW.seq ?_)));have hm:=getD_mem (l:=a.aB) (i:=i) (by omega) default
  have hx:=za.arc (a.aB.getD i default) hm;obtain⟨hx1,hx2,hx3,hx4⟩:=h.arc (a.aB.getD i default) hm;refine AW.rg hE rfl (aV fd.fM rfl rfl (aA ce.bZ rfl rfl rfl (aj rfl (fD sl.bZ default rfl rfl (by omega) rfl rfl (iR ag.mQ rfl (vs:=[_,_,_,_,_,_,_,_,_,_,_]) rfl (au rfl) (al z.mQ rfl λb4=>(eG sz.mQ rfl rfl rfl rfl rfl (au rfl) (cells2:=[_,_,_,_,_,_,_,_,_,_,_]) rfl ?_)))))))
  refine OL.nil (AW.sg hE rfl (aV fd.Ff rfl rfl (aA ce.int rfl rfl rfl (aV fd.jf rfl rfl (aA ce.int rfl rfl rfl (bo rfl rfl (oO (c:=(a.st:Int)-1) (by omega) (wrap_i64 (by omega))) (bP rfl vL (aT5 (v:=(a.aB.getD i default).f) (lo:=0) (hi:=(a.st:Int)-1) (by omega)) ?_)))))))
  refine nt rfl (aj rfl (OL.yes rfl (aV fd.Cj rfl rfl (OL.yes rfl (aA ce.int rfl rfl rfl (OL.yes rfl (aV fd.jf rfl rfl ?_)))))));refine OL.yes rfl (aA ce.int rfl rfl rfl (OL.yes rfl (bo rfl rfl (oO (c:=(a.st:Int)-1) (by omega) (wrap_i64 (by omega))) (OL.yes rfl (bP rfl vL (aT5 (v:=(a.aB.getD i default).t) (lo:=0) (hi:=(a.st:Int)-1) (by omega)) (OL.yes rfl (nt rfl ?_)))))))
  refine oI rfl rfl (aj rfl (OL.yes rfl (aV fd.Bj rfl rfl (OL.yes rfl (aA ce.int rfl rfl rfl (OL.yes rfl (aV fd.kZ rfl rfl ?_)))))));refine OL.yes rfl (aA ce.int rfl rfl rfl (OL.yes rfl (bP rfl vL (aT5 (v:=(a.aB.getD i default).l) (lo:=0) (hi:=a.sym) (by omega)) (OL.yes rfl (nt rfl (oI rfl rfl (aj rfl ?_)))))))
  refine OL.yes rfl (aV fd.gu rfl rfl (OL.yes rfl (aQ ag.Ring rfl rfl (vs:=[_,_]) rfl (au rfl) (OL.yes rfl (aV fd.qG rfl rfl (OL.yes rfl (aQ ag.ay rfl rfl (vs:=[_,_,_,_,_,_,_,_]) rfl (au rfl) ?_)))))));refine OL.yes rfl (bP rfl vL (Uj (q:=(a.aB.getD i default).q) (by omega)) (OL.yes rfl (nt rfl (oI rfl rfl (OL.nil (pW rfl ?_))))))
  exact AW.skip (AW.rg hE rfl (aj rfl (aJ rfl rfl (by omega) (aG rfl (OL.nil (AW.again (x:=i) (i+1) (by omega) ⟨by omega,Knows.app .dw .dw,dP.app (.cons rfl .nil) (.nil)⟩))))))
 .try simp only[fG] at h51
  exact AW.exit (AW.sg hE rfl (aG rfl (OL.nil (AW.ret (aT.r ⟨_,.tmp rfl .nil,.le vR⟩)))))
theorem aU1 {a:Au}(h:a.Ok)(za:a.Sz 134217728 20)(s2:a.st<=64):ai P F.DV [uY a] (.oM [uY (qR a),.d (dI 0)]):=by
 have e3:=za.num;have e4:=jJ a.aB;refine ai.intro fn.DV (by rfl) (by rfl) (au (by rfl)) λE hE=>(AW.sg hE rfl (iG rfl rfl λb1=>(al z.Auto rfl λb2=>(aG rfl (OL.nil (AW.seq (AW.sg hE rfl ?_)))))))
 refine aV fd.jf rfl rfl (aA ce.int rfl rfl rfl (kS rfl rfl (c:=false) (by exact decide_eq_false (by omega)) (OL.nil (pW rfl ?_))))
 refine AW.skip (AW.sg hE rfl (aQ ag.Auto rfl rfl (vs:=[_,_,_,_,_,_,_]) rfl (au rfl) (bP rfl vL (Ir (a:=a) h za s2) (eG sz.Auto rfl rfl rfl rfl rfl (au rfl) (cells2:=[_,_,_,_,_,_,_]) rfl (OL.nil (AW.seq (AW.sg hE rfl ?_)))))));refine aV fd.fM rfl rfl (aA ce.bZ rfl rfl rfl (fO sl.bZ rfl rfl (kS rfl rfl (c:=false) (decide_eq_false (by show ¬ (2048:Int)<((bU a.aB).length:Int);omega)) (OL.nil (pW rfl ?_)))))
 refine AW.skip (AW.sg hE rfl (aQ ag.Auto rfl rfl (vs:=[_,_,_,_,_,_,_]) rfl (au rfl) (eG sz.Auto rfl rfl rfl rfl rfl (au rfl) (cells2:=[_,_,_,_,_,_,_]) rfl (aG rfl (OL.nil ?_)))));exact AW.ret (aT.r ⟨_,.dK rfl rfl ag.Auto (au rfl) (.tmp rfl .nil),_,.cons (.ag (.cons (.le vR) (.cons (.le vR) (.cons (.le vR) (.cons (.le vR) (.cons (.le vR) (.cons (.le vR) (.cons (.le vR) .nil)))))))) (.cons (.le vR) .nil),rfl⟩)
theorem YP {a:Au}{s:Nat}(f:Au.Fit a s):ai P F.xH [uY a] (.oM [uY (wS a),.d (dI 0)]):=by
 have e3:=f.sz.num;have hsl:=KU (l:=a.aB);refine ai.intro fn.xH (by rfl) (by rfl) (au (by rfl)) λE hE=>(AW.sg hE rfl (iG rfl rfl λb1=>(al z.Auto rfl λb2=>(aG rfl (OL.nil (AW.seq (AW.sg hE rfl ?_)))))))
 refine aQ ag.Auto rfl rfl (vs:=[_,_,_,_,_,_,_]) rfl (au rfl) (bP rfl vL (GN (a:=a) f.ok f.sz f.s1 f.st) (nt rfl (OL.nil (pW rfl ?_))));refine AW.skip (AW.sg hE rfl (aV fd.gu rfl rfl (aQ ag.Ring rfl rfl (vs:=[_,_]) rfl (au rfl) (aV fd.kZ rfl rfl (aA ce.int rfl rfl rfl (aV fd.jf rfl rfl (aA ce.int rfl rfl rfl ?_)))))));refine aV fd.o8 rfl rfl (aA ce.aS rfl rfl rfl (aV fd.mg rfl rfl (aA ce.aS rfl rfl rfl (Ko (cs:=[_,_,_,_,_,_,_]) z.Auto pl.Auto (jR (by exact U7 rfl) (jR (by exact rq rfl) (jR (by exact rq rfl) (jR (by exact rq rfl) (jR (by exact rq rfl) (J9)))))) (by rfl) (al z.Auto rfl λb4=>(eG sz.Auto rfl rfl rfl rfl rfl (au rfl) (cells2:=[_,_,_,_,_,_,_]) rfl (OL.nil ?_)))))))
 refine AW.seq (AW.sg hE rfl (aG rfl (OL.nil (AW.block (AW.vz 46 T.mQ 11 rfl ?_)))));refine AW.pV 4 [.d (dI 1),.d (.sl []),.d (dI a.sym),.d (dI a.st),.d (lC a.fin),.d (lC a.ini),.bK 46 0 0 0] rfl (.cons vR (.cons vR (.cons vR (.cons vR (.cons vR (.cons vR (.cons lK .nil))))))) ?_;refine AW.aX (α:=Nat × Nat × Nat) [(1,_),(2,_),(3,_),(4,_)] [(1,_),(2,_)] (λ(i,bq,cq)=>[(5,.d (dI i))]) (λ(i,bq,cq)=>[(4,.box b4 T.Auto [.d (dI 1),.d (.sl []),.d (dI a.sym),.d (dI a.st),.d (lC a.fin),.d (lC a.ini),.bK 46 bq i cq]),(46,rowA bq cq ((JO a.aB).take i))]) (λ(i,bq,cq)=>i<=a.aB.length) (λ(i,bq,cq)=>a.aB.length-i) (0,0,0) (.cons (iF rfl) (.cons (iF rfl) (.cons (dA rfl) (.cons (iF rfl) .nil)))) (.cons (jc rfl) (.cons (jc rfl) .nil)) ⟨Nat.zero_le _,.dw,.cons rfl (.cons rfl .nil)⟩ ?_
 rintro⟨i,bq,cq⟩ h1
 have h1:i<=a.aB.length:=h1;refine AW.seq (AW.sg hE rfl (aj rfl (aV fd.fM rfl rfl (aA ce.bZ rfl rfl rfl (fO sl.bZ rfl rfl (bD rfl rfl rfl (OL.nil ?_)))))));refine AW.cond rfl (λh26=>?_) (λh26=>?_)
 .try simp only[fG] at h26
  refine AW.skip (AW.seq (AW.block (AW.sg hE rfl (aV fd.fM rfl rfl (aA ce.bZ rfl rfl rfl (aj rfl (fD sl.bZ default rfl rfl (by omega) rfl rfl ?_)))))))
  refine iR ag.mQ rfl (vs:=[_,_,_,_,_,_,_,_,_,_,_]) rfl (au rfl) (al z.mQ rfl λb6=>(eG sz.mQ rfl rfl rfl rfl rfl (au rfl) (cells2:=[_,_,_,_,_,_,_,_,_,_,_]) rfl (OL.nil (AW.rg hE rfl (aV fd.fM rfl rfl (aA ce.bZ rfl rfl rfl (aV fd.Cj rfl rfl ?_)))))));refine aA ce.int rfl rfl rfl (aV fd.Bj rfl rfl (aA ce.int rfl rfl rfl (aV fd.Ff rfl rfl (aA ce.int rfl rfl rfl (aV fd.qG rfl rfl (aQ ag.ay rfl rfl (vs:=[_,_,_,_,_,_,_,_]) rfl (au rfl) (Ko (cs:=[_,_,_,_,_,_,_,_,_,_,_]) z.mQ pl.mQ (jR (by exact rq rfl) (jR (by exact rq rfl) (jR (by exact rq rfl) (jR (by exact U7 rfl) (J9))))) (by rfl) ?_)))))))
  refine xG (y:=jv ⟨(a.aB.getD i default).t,(a.aB.getD i default).l,(a.aB.getD i default).f,(a.aB.getD i default).q⟩) sl.bZ (wO (x:=⟨(a.aB.getD i default).t,(a.aB.getD i default).l,(a.aB.getD i default).f,(a.aB.getD i default).q⟩)) rfl (by decide) ?_
  refine Am sl.bZ rfl rfl rfl (by rw[dL,List.length_take];omega) (VC.d _) (λy hy=>by rw[lV hy];rfl) (by simp only[kC,dL,List.length_take];omega) (by simp only[kC,dL,List.length_take];omega) (.inr rfl) (ys:=((JO a.aB).take (i+1)).map jv) (by rw[YO (by omega),List.map_append];rfl) (n2:=i+1) rfl λb46 c46=>?_
  refine aV fd.fM rfl rfl (eG sz.bZ rfl rfl rfl rfl rfl (au rfl) (cells2:=[_,_,_,_,_,_,_]) rfl (OL.nil (AW.rg hE rfl (aj rfl (aJ rfl rfl (by omega) (aG rfl (OL.nil ?_)))))))
  exact AW.again (x:=(i,bq,cq)) (i+1,b46,c46) (by (simp only[];omega)) ⟨by omega,Knows.app .J5 .dw,dP.app (.cons rfl (.cons rfl .nil)) (.cons rfl (.cons rfl .nil))⟩
 .try simp only[fG] at h26
  refine AW.exit (AW.seq ?_);obtain rfl:i=a.aB.length:=by omega
  refine AW.freeze 46 rfl (AW.pV 4 [.d (dI 1),.d (.sl []),.d (dI a.sym),.d (dI a.st),.d (lC a.fin),.d (lC a.ini),.d (iL (JO a.aB))] rfl (.cons vR (.cons vR (.cons vR (.cons vR (.cons vR (.cons vR (.cons (dM (by rw[dL,List.length_take];omega) (by rw[List.take_of_length_le (by omega)])) .nil))))))) ?_)
  refine AW.rg hE rfl (aQ ag.Auto rfl rfl (vs:=[_,_,_,_,_,_,_]) rfl (au rfl) (bP rfl vL (aU1 (a:=bf8 a) (aT8 f.ok) (aT9 f.sz) f.st) (ex rfl rfl (ex rfl rfl (eG sz.Auto rfl rfl rfl rfl rfl (au rfl) (cells2:=[_,_,_,_,_,_,_]) rfl (aG rfl (OL.nil ?_)))))));exact AW.ret (aT.r ⟨_,.dK rfl rfl ag.Auto (au rfl) (.tmp rfl .nil),_,.cons (.ag (.cons (.le vR) (.cons (.le vR) (.cons (.le vR) (.cons (.le vR) (.cons (.le vR) (.cons (.le vR) (.cons (.le vR) .nil)))))))) (.cons (.le vR) .nil),rfl⟩)
theorem aU2 {a:Au}(h:a.Ok)(za:a.Sz 134217728 20)(s2:a.st<=64):jD P F.rM [uY a] jA (λp:Nat × Nat=>.ag [.d (dI 1),.d (.sl []),.d (dI a.sym),.d (dI a.st),.bK 14 p.1 a.ini.length p.2,.d (lC a.fin),.d (iL (bU a.aB))]) (λp=>mem1 14 (.row p.1 p.2 T.ay 8 (a.ini.map dW))) (λ_=>True):=by
 have e1:=h.ini;have e2:=h.fin;have e3:=za.num;refine jD.intro fn.rM (by rfl) (by rfl) (au (by rfl)) λE hE=>(AW.sg hE rfl (iG rfl rfl λb1=>(al z.Auto rfl λb2=>(OL.nil (AW.seq (AW.dg 32 [0,1,2,3,4,5,6,7,8,9,10,12,13,14,15,17,18,19,20,11,16,21,22,23] ak hE rfl (by kernel_rfl) (OI.aP (os:=[_,_,_,_,_,_,_,_,_,_,_,_,_,_,_,_,_,_,_,_,_,_,_,_]) rfl ?_)))))))
 refine aV fd.gu rfl rfl (aQ ag.Ring rfl rfl (vs:=[_,_]) rfl (au rfl) (bP rfl .dw (YK) (aV fd.kZ rfl rfl (aA ce.int rfl rfl rfl (aV fd.jf rfl rfl (aA ce.int rfl rfl rfl (aV fd.gu rfl rfl ?_)))))));refine aQ ag.Ring rfl rfl (vs:=[_,_]) rfl (au rfl) (aV fd.mg rfl rfl (aA ce.aS rfl rfl rfl (aV fd.gu rfl rfl (aQ ag.Ring rfl rfl (vs:=[_,_]) rfl (au rfl) (aV fd.o8 rfl rfl (aA ce.aS rfl rfl rfl (aV fd.gu rfl rfl ?_)))))));refine aQ ag.Ring rfl rfl (vs:=[_,_]) rfl (au rfl) (aV fd.fM rfl rfl (aA ce.bZ rfl rfl rfl (bA0 rfl .jm (Ns (l:=a.ini) (by omega) za.ini) rfl rfl λb14 c14=>(bP rfl vL (YJ (l:=a.fin) (by omega) za.fin) (bP rfl vL (YL (l:=a.aB) e3 za.arc) (Ko (cs:=[_,_,_,_,_,_,_]) z.Auto pl.Auto (jR (by exact U7 rfl) (jR (by exact rq rfl) (jR (by exact rq rfl) (jR (by exact evO rfl) (jR (by exact rq rfl) (jR (by exact rq rfl) (J9))))))) (by rfl) ?_))))))
 exact eG sz.Auto rfl rfl rfl rfl rfl (au rfl) (cells2:=[_,_,_,_,_,_,_]) rfl (OL.nil (AW.ret ⟨(b14,c14),trivial,⟨_,.dK rfl rfl ag.Auto (au rfl) .nil,.le vR⟩,fF rfl⟩))
set_option maxRecDepth 8000 in
theorem aE3 {a:Au}{q:Rat}{s:Nat}(f:Au.Fit a s)(hq:sz q<=134217728):ai P F.Ba [uY a,vW q] (.oM [uY (oq a q),.d (dI 0)]):=by
 have e1:=f.ok.ini;have s2:=f.st;refine ai.intro fn.Ba (by rfl) (by rfl) (au (by rfl)) λE hE=>(AW.sg hE rfl (iG rfl rfl λb2=>(iG rfl rfl λb3=>(al z.Auto rfl λb4=>(aG rfl (OL.nil (AW.seq ?_)))))))
 refine AW.sg hE rfl (aQ ag.Auto rfl rfl (vs:=[_,_,_,_,_,_,_]) rfl (au rfl) (bP rfl vL (GN (a:=a) f.ok f.sz f.s1 f.st) (nt rfl (OL.nil (pW rfl ?_)))));refine AW.skip (AW.seq (AW.yP (by rw[hE];rfl) (SK.jK (aQ ag.Auto rfl rfl (vs:=[_,_,_,_,_,_,_]) rfl (au rfl) (OL.nil ?_)))))
 refine SK.G6 (SO.aT7 (id:=14) (args':=[uY a]) (show 12<E.n by rw[hE];exact Nat.le_of_ble_eq_true (by rfl)) rfl vL (aU2 f.ok f.sz f.st) ?_)
 rintro⟨p,c⟩ -
 refine SK.jK (eG sz.Auto rfl rfl rfl rfl rfl (au rfl) (cells2:=[_,_,_,_,_,_,_]) rfl (OL.nil ?_));refine SK.nil (AW.seq (AW.sg hE rfl (aG rfl (OL.nil (AW.block ?_)))));refine AW.aX (α:=Nat) [(2,_),(3,_),(4,_),(5,_)] [(2,_),(3,_),(4,_)] (λi=>[(6,.d (dI i))]) (λi=>[(14,.row p c T.ay 8 ((Iu a.ini q i).map dW))]) (λi=>i<=a.st) (λi=>a.st-i) 0 (.cons (iF rfl) (.cons (iF rfl) (.cons (iF rfl) (.cons (dA rfl) .nil)))) (.cons (jc rfl) (.cons (jc rfl) (.cons (jc rfl) .nil))) ⟨Nat.zero_le _,.dw,.cons rfl .nil⟩ ?_
 rintro i h1
 have h1:i<=a.st:=h1;have hsl:=aD9 (l:=a.ini) (q:=q) (i:=i) (by omega)
 refine AW.seq (AW.sg hE rfl (aj rfl (aV fd.jf rfl rfl (aA ce.int rfl rfl rfl (bD rfl rfl rfl (OL.nil (AW.cond rfl (λh16=>?_) (λh16=>?_))))))))
 .try simp only[fG] at h16
  refine AW.skip (AW.seq (AW.block ?_));have hx:=f.sz.ini (a.ini.getD i 0) (getD_mem (by omega) 0)
  have hg:(Iu a.ini q i).getD i 0=(a.ini.getD i 0):=aE0 (by omega)
  refine AW.dg 1 [0,1,2,3,4,5,6,7,8,9,10,11,12,13] ak hE rfl (by kernel_rfl) (OI.aP (os:=[_,_,_,_,_,_,_,_,_,_,_,_,_,_]) rfl ?_)
  refine aV fd.mg rfl rfl (aA ce.aS rfl rfl rfl (aj rfl (aV fd.gu rfl rfl (aQ ag.Ring rfl rfl (vs:=[_,_]) rfl (au rfl) (aV fd.mg rfl rfl (aA ce.aS rfl rfl rfl (aj rfl ?_)))))));refine je sl.aS rfl rfl (by omega) ?_
  refine GZ ag.ay (by decide) rfl rfl (ac1 (show i<(Iu a.ini q i).length by omega)) (vs:=[.d (dB (iD ((Iu a.ini q i).getD i 0)).neg),.d (aI (iD ((Iu a.ini q i).getD i 0)).num),.d (aI (iD ((Iu a.ini q i).getD i 0)).den),.d (dI 0),.d (dB false),.d (dU 0),.d (.sl []),.d (.sl [])]) rfl (au rfl) ?_
  rw[hg];refine aQ ag.ay rfl rfl (vs:=[_,_,_,_,_,_,_,_]) rfl (au rfl) (bP rfl vL (Uo (p:=(a.ini.getD i 0)) (q:=q) (by omega) (by omega)) (je sl.aS rfl rfl (by omega) (J4 sz.ay rfl (d:=dW ((a.ini.getD i 0)*q)) MK rfl rfl (by rw[dL];omega) (es2:=(Iu a.ini q (i+1)).map dW) (by rw[<- aE1 (by omega),List.map_set]) (OL.nil (AW.rg hE rfl (aj rfl (aJ rfl rfl (by omega) ?_)))))))
  exact aG rfl (OL.nil (AW.again (x:=i) (i+1) (by omega) ⟨by omega,Knows.app .J5 .dw,dP.app (.cons rfl (.cons rfl (.cons rfl .nil))) (.cons rfl .nil)⟩))
 .try simp only[fG] at h16
  refine AW.exit (AW.seq ?_);obtain rfl:i=a.st:=by omega
  refine AW.freeze 14 rfl (AW.pV 2 [.d (dI 1),.d (.sl []),.d (dI a.sym),.d (dI a.st),.d (lC (a.ini.map λx=>x*q)),.d (lC a.fin),.d (iL (bU a.aB))] rfl (.cons vR (.cons vR (.cons vR (.cons vR (.cons (dM (by rw[dL];omega) (by rw[<- e1,aE2])) .jm))))) ?_)
  refine AW.rg hE rfl (aQ ag.Auto rfl rfl (vs:=[_,_,_,_,_,_,_]) rfl (au rfl) (eG sz.Auto rfl rfl rfl rfl rfl (au rfl) (cells2:=[_,_,_,_,_,_,_]) rfl (aG rfl (OL.nil ?_))));exact AW.ret (aT.r ⟨_,.dK rfl rfl ag.Auto (au rfl) (.tmp rfl .nil),_,.cons (.ag (.cons (.le vR) (.cons (.le vR) (.cons (.le vR) (.cons (.le vR) (.cons (.le vR) (.cons (.le vR) (.cons (.le vR) .nil)))))))) (.cons (.le vR) .nil),rfl⟩)
