/-
  Walks of package passive, part 3: weights along a sample, Agrees (printed by mk2.py).
-/
import Derived.Test.YtnjoncgnjdkaoaaGreatDoorKWkT
import Derived.Test.YtnjoncgnjdkaoaaGreatDoorKPvC
set_option maxHeartbeats 3200000
set_option linter.unusedVariables false
set_option linter.unusedSimpArgs false
namespace Go.Proofs.YtnjoncgnjdkaoaaGreatDoor
open Go Go.AL
def Ro (m:Rf)(sym n g:Nat):List bD:=(List.range g).map (aX4 m.aP sym n)
theorem Yh {s:Nat}(hs:1<=s/\s<=32):aj P F.uP [.d (dI s)] (.d (dB true)):=by
 refine aj.intro fn.uP (by rfl) (by rfl) (aA (by rfl)) λE hE=>(AW.sg hE rfl (aC rfl (OL.nil (AW.sg hE rfl (ai rfl (ql rfl rfl (c:=true) (by exact decide_eq_true (by omega)) (ai rfl ?_)))))))
 exact OL.yes rfl (ai rfl (OL.yes rfl (wZ rfl rfl (c:=true) (by exact decide_eq_true (by omega)) (lJ rfl rfl (aC rfl (OL.nil (AW.ret (aO.r ⟨_,.tmp rfl .nil,.le vR⟩))))))))
theorem aD5 {v lo hi:Int}(h:lo<=v/\v<=hi):aj P F.G6 [.d (dI v),.d (dI lo),.d (dI hi)] (.d (dB true)):=by
 refine aj.intro fn.G6 (by rfl) (by rfl) (aA (by rfl)) λE hE=>(AW.sg hE rfl (aC rfl (OL.nil (AW.sg hE rfl (ai rfl (ai rfl (ql rfl rfl (c:=true) (by exact decide_eq_true (by omega)) ?_)))))))
 refine ai rfl (OL.yes rfl (ai rfl (OL.yes rfl (ai rfl (OL.yes rfl (wZ rfl rfl (c:=true) (by exact decide_eq_true (by omega)) (lJ rfl rfl ?_)))))))
 exact aC rfl (OL.nil (AW.ret (aO.r ⟨_,.tmp rfl .nil,.le vR⟩)))
theorem aD6 {l:List Rat}{i:Nat}(hi:i<l.length):(l.map dW)[i]? = some (dW (l.getD i 0)):=by rw[List.getElem?_map,gI,kL hi];rfl
abbrev Ij (l:List bD):List bD:=l.map λx=>⟨x.t,x.l,x.f,x.q⟩
theorem Jh {l:List bD}:(Ij l).length=l.length:=dD ..
theorem WR {l:List bD}{i:Nat}(hi:i<l.length):(Ij l).take (i+1)=(Ij l).take i++[⟨(l.getD i default).t,(l.getD i default).l,(l.getD i default).f,(l.getD i default).q⟩]:=by
 rw[oW default (by rw[Jh];exact hi)]
 congr 2;unfold Ij;rw[gI,List.getElem?_map,gI,kL hi];rfl
abbrev aP7 (a:Au):Au:=⟨a.sym,a.st,a.fin,a.ini,Ij a.aP⟩
theorem aD7 {a:Au}(h:a.Ok):(aP7 a).Ok:=⟨h.GY,h.fin,h.ini,λy hy=>by
 obtain⟨x,hx,rfl⟩:=jY hy;have:=h.arc x hx;exact⟨this.2.1,this.1,this.2.2⟩⟩
theorem aD8 {a:Au}(h:a.Sz 134217728 20):(aP7 a).Sz 134217728 20:=⟨h.fin,h.ini,λy hy=>by
 obtain⟨x,hx,rfl⟩:=jY hy;exact h.arc x hx,by show (Ij a.aP).length<=20;rw[Jh];exact h.num⟩
theorem Yi {p q:Rat}(hp:sz p<=68719476736)(hq:sz q<=68719476736):aj P F.Ae [lN,vW p,vW q] (vW (p*q)):=by
 refine aj.intro fn.Ae (by rfl) (by rfl) (aA (by rfl)) λE hE=>(AW.sg hE rfl (gW rfl rfl λb3=>(gW rfl rfl λb4=>(gW rfl rfl λb5=>(al z.ak rfl λb6=>(OL.nil (AW.seq ?_)))))))
 refine AW.sg hE rfl (aN ag.Ring rfl rfl (vs:=[_,_]) rfl (aA rfl) (bF rfl .di (Ih) (nt rfl (OL.nil (oz rfl ?_)))));refine AW.skip (AW.seq (AW.dg 1 [0,1,2,3,4,5,6,7] au hE rfl (by kernel_rfl) (OI.aS (os:=[_,_,_,_,_,_,_,_]) rfl ?_)))
 refine aN ag.Ring rfl rfl (vs:=[_,_]) rfl (aA rfl) (aN ag.ak rfl rfl (vs:=[_,_,_,_,_,_,_,_]) rfl (aA rfl) (bF rfl vL (Jg hp) (aN ag.Ring rfl rfl (vs:=[_,_]) rfl (aA rfl) (aN ag.ak rfl rfl (vs:=[_,_,_,_,_,_,_,_]) rfl (aA rfl) (bF rfl vL (Jg hq) (fG sz.ak rfl rfl rfl rfl rfl (aA rfl) (cells2:=[_,_,_,_,_,_,_,_]) rfl (fG sz.ak rfl rfl rfl rfl rfl (aA rfl) (cells2:=[_,_,_,_,_,_,_,_]) rfl ?_)))))));refine OL.nil (AW.seq (AW.sg hE rfl (aV fd.nG rfl rfl (aG ce.int rfl rfl rfl (OL.nil (AW.block (AW.seq ?_)))))));refine AW.sg hE rfl (dG rfl rfl (c:=true) (by exact decide_eq_true (by omega)) (aC rfl (OL.nil (J4 rfl ?_))))
 refine AW.skip (J4 rfl ?_);refine AW.sg hE rfl (aV fd.gK rfl rfl (aN ag.Rat rfl rfl (vs:=[_,_,_]) rfl (aA rfl) (aV fd.gK rfl rfl (aN ag.Rat rfl rfl (vs:=[_,_,_]) rfl (aA rfl) (bF rfl vL (Eu (x:=p) (y:=q) hp hq) (bd z.ak pl.ak (cs:=[_,_,_,_,_,_,_,_]) rfl (fG sz.ak rfl rfl rfl rfl rfl (aA rfl) (cells2:=[_,_,_,_,_,_,_,_]) rfl ?_)))))));exact OL.nil (AW.ret (aO.r ⟨_,.dL rfl rfl ag.ak (aA rfl) .nil,.le IX⟩))
theorem Qk {l:List Rat}(nl:l.length<=64)(hz:∀ x,x ∈ l->sz x<=134217728):aj P F.wL [lN,.d (tH l),.d (dI l.length)] (.d (dB true)):=by
 refine aj.intro fn.wL (by rfl) (by rfl) (aA (by rfl)) λE hE=>(AW.sg hE rfl (gW rfl rfl λb3=>(aC rfl (OL.nil (AW.seq (AW.sg hE rfl (ai rfl ?_)))))))
 refine fJ sl.aT rfl rfl (ai rfl (fC rfl rfl (c:=false) (nZ rfl) (OL.nil (oz rfl ?_))));refine AW.skip (AW.seq (AW.sg hE rfl (aC rfl (OL.nil (AW.block ?_)))));refine AW.aU (α:=Nat) [(1,_),(2,_),(3,_)] [(3,_)] (λi=>[(7,.d (dI i))]) (λi=>[]) (λi=>i<=l.length) (λi=>l.length-i) 0 (.cons (bY rfl) (.cons (bY rfl) (.cons (iJ rfl) .nil))) (.cons (kC rfl) .nil) ⟨Nat.zero_le _,.di,.nil⟩ ?_
 rintro i h1
 have h1:i<=l.length:=h1;refine AW.seq (AW.sg hE rfl (ai rfl (ai rfl (aX rfl rfl rfl (OL.nil (AW.cond rfl (λEQ=>?_) (λEQ=>?_)))))))
 .try simp only[eG] at EQ
  refine AW.skip (AW.seq (AW.block (AW.seq ?_)));have hx:=hz (l.getD i 0) (getD_mem (by omega) 0)
  refine AW.dg 1 [0,1,2,3,4,5,6] au hE rfl (by kernel_rfl) (OI.aS (os:=[_,_,_,_,_,_,_]) rfl ?_)
  refine aN ag.Ring rfl rfl (vs:=[_,_]) rfl (aA rfl) (ai rfl (ai rfl (fM sl.aT 0 rfl rfl (by omega) rfl rfl (jS ag.ak rfl (vs:=[_,_,_,_,_,_,_,_]) rfl (aA rfl) (bF rfl vL (Rz (q:=(l.getD i 0)) (by omega)) (nt rfl (OL.nil ?_)))))))
  refine oz rfl ?_;exact AW.skip (AW.rg hE rfl (ai rfl (aH rfl rfl (by omega) (aC rfl (OL.nil (AW.again (x:=i) (i+1) (by omega) ⟨by omega,Knows.app .xf .di,dw.app (.cons rfl .nil) (.nil)⟩))))))
 .try simp only[eG] at EQ
  exact AW.exit (AW.sg hE rfl (aC rfl (OL.nil (AW.ret (aO.r ⟨_,.tmp rfl .nil,.le vR⟩)))))
theorem RD {a:Au}(h:a.Ok)(za:a.Sz 134217728 20)(s1:a.sym<=32)(s2:a.st<=64):aj P F.zY [zG a] (.d (dB true)):=by
 have e1:=h.ini;have e2:=h.fin;have e3:=za.num;have h0:=h.GY;refine aj.intro fn.zY (by rfl) (by rfl) (aA (by rfl)) λE hE=>(AW.sg hE rfl (gW rfl rfl λb1=>(aC rfl (OL.nil (AW.seq (AW.sg hE rfl (aV fd.jc rfl rfl ?_)))))))
 refine aN ag.Ring rfl rfl (vs:=[_,_]) rfl (aA rfl) (bF rfl .di (Ih) (nt rfl (ai rfl (OL.yes rfl (aV fd.rO rfl rfl (OL.yes rfl (aG ce.int rfl rfl rfl ?_)))))));refine OL.yes rfl (bF rfl vL (Yh (s:=a.sym) (by omega)) (OL.yes rfl (nt rfl (jZ rfl rfl (ai rfl (OL.yes rfl (aV fd.jW rfl rfl ?_)))))))
 refine OL.yes rfl (aG ce.int rfl rfl rfl (OL.yes rfl (bF rfl vL (aD5 (v:=a.st) (lo:=0) (hi:=64) (by omega)) (OL.yes rfl (nt rfl (jZ rfl rfl (ai rfl ?_)))))))
 refine OL.yes rfl (aV fd.jc rfl rfl (OL.yes rfl (aN ag.Ring rfl rfl (vs:=[_,_]) rfl (aA rfl) (OL.yes rfl (aV fd.uZ rfl rfl (OL.yes rfl (aG ce.aT rfl rfl rfl ?_)))))));refine OL.yes rfl (aV fd.jW rfl rfl (OL.yes rfl (aG ce.int rfl rfl rfl (OL.yes rfl (bF rfl (.cons vR (.cons vR (.cons (bG.int (by omega)) .nil))) (Qk (l:=a.ini) (by omega) za.ini) (OL.yes rfl (nt rfl ?_)))))))
 refine jZ rfl rfl (ai rfl (OL.yes rfl (aV fd.jc rfl rfl (OL.yes rfl (aN ag.Ring rfl rfl (vs:=[_,_]) rfl (aA rfl) (OL.yes rfl (aV fd.xJ rfl rfl ?_)))))));refine OL.yes rfl (aG ce.aT rfl rfl rfl (OL.yes rfl (aV fd.jW rfl rfl (OL.yes rfl (aG ce.int rfl rfl rfl (OL.yes rfl (bF rfl (.cons vR (.cons vR (.cons (bG.int (by omega)) .nil))) (Qk (l:=a.fin) (by omega) za.fin) ?_)))))))
 refine OL.yes rfl (nt rfl (jZ rfl rfl (ai rfl (OL.yes rfl (aV fd.iI rfl rfl (OL.yes rfl (aG ce.dm rfl rfl rfl ?_)))))));refine OL.yes rfl (fJ sl.dm rfl rfl (OL.yes rfl (gV rfl rfl (c:=false) (by exact decide_eq_false (by omega)) (jZ rfl rfl (OL.nil (oz rfl ?_))))))
 refine AW.skip (AW.seq (AW.sg hE rfl (aC rfl (OL.nil (AW.block (AW.aU (α:=Nat) [(1,_)] [(1,_)] (λi=>[(3,.d (dI i))]) (λi=>[]) (λi=>i<=a.aP.length) (λi=>a.aP.length-i) 0 (.cons (iJ rfl) .nil) (.cons (kC rfl) .nil) ⟨Nat.zero_le _,.di,.nil⟩ ?_))))))
 rintro i h1
 have h1:i<=a.aP.length:=h1;refine AW.seq (AW.sg hE rfl (ai rfl (aV fd.iI rfl rfl (aG ce.dm rfl rfl rfl (fJ sl.dm rfl rfl (aX rfl rfl rfl (OL.nil ?_)))))));refine AW.cond rfl (λh51=>?_) (λh51=>?_)
 .try simp only[eG] at h51
  refine AW.skip (AW.seq (AW.block (AW.seq ?_)));have hm:=getD_mem (l:=a.aP) (i:=i) (by omega) default
  have hx:=za.arc (a.aP.getD i default) hm;obtain⟨hx1,hx2,hx3,hx4⟩:=h.arc (a.aP.getD i default) hm;refine AW.rg hE rfl (aV fd.iI rfl rfl (aG ce.dm rfl rfl rfl (ai rfl (fM sl.dm default rfl rfl (by omega) rfl rfl (jS ag.ny rfl (vs:=[_,_,_,_,_,_,_,_,_,_,_]) rfl (aA rfl) (al z.ny rfl λb4=>(fG sz.ny rfl rfl rfl rfl rfl (aA rfl) (cells2:=[_,_,_,_,_,_,_,_,_,_,_]) rfl ?_)))))))
  refine OL.nil (AW.sg hE rfl (aV fd.xM rfl rfl (aG ce.int rfl rfl rfl (aV fd.jW rfl rfl (aG ce.int rfl rfl rfl (bo rfl rfl (nN (c:=(a.st:Int)-1) (by omega) (wrap_i64 (by omega))) (bF rfl vL (aD5 (v:=(a.aP.getD i default).f) (lo:=0) (hi:=(a.st:Int)-1) (by omega)) ?_)))))))
  refine nt rfl (ai rfl (OL.yes rfl (aV fd.xq rfl rfl (OL.yes rfl (aG ce.int rfl rfl rfl (OL.yes rfl (aV fd.jW rfl rfl ?_)))))));refine OL.yes rfl (aG ce.int rfl rfl rfl (OL.yes rfl (bo rfl rfl (nN (c:=(a.st:Int)-1) (by omega) (wrap_i64 (by omega))) (OL.yes rfl (bF rfl vL (aD5 (v:=(a.aP.getD i default).t) (lo:=0) (hi:=(a.st:Int)-1) (by omega)) (OL.yes rfl (nt rfl ?_)))))))
  refine jZ rfl rfl (ai rfl (OL.yes rfl (aV fd.yZ rfl rfl (OL.yes rfl (aG ce.int rfl rfl rfl (OL.yes rfl (aV fd.rO rfl rfl ?_)))))));refine OL.yes rfl (aG ce.int rfl rfl rfl (OL.yes rfl (bF rfl vL (aD5 (v:=(a.aP.getD i default).l) (lo:=0) (hi:=a.sym) (by omega)) (OL.yes rfl (nt rfl (jZ rfl rfl (ai rfl ?_)))))))
  refine OL.yes rfl (aV fd.jc rfl rfl (OL.yes rfl (aN ag.Ring rfl rfl (vs:=[_,_]) rfl (aA rfl) (OL.yes rfl (aV fd.sF rfl rfl (OL.yes rfl (aN ag.ak rfl rfl (vs:=[_,_,_,_,_,_,_,_]) rfl (aA rfl) ?_)))))));refine OL.yes rfl (bF rfl vL (Rz (q:=(a.aP.getD i default).q) (by omega)) (OL.yes rfl (nt rfl (jZ rfl rfl (OL.nil (oz rfl ?_))))))
  exact AW.skip (AW.rg hE rfl (ai rfl (aH rfl rfl (by omega) (aC rfl (OL.nil (AW.again (x:=i) (i+1) (by omega) ⟨by omega,Knows.app .di .di,dw.app (.cons rfl .nil) (.nil)⟩))))))
 .try simp only[eG] at h51
  exact AW.exit (AW.sg hE rfl (aC rfl (OL.nil (AW.ret (aO.r ⟨_,.tmp rfl .nil,.le vR⟩)))))
theorem aD9 {a:Au}(h:a.Ok)(za:a.Sz 134217728 20)(s2:a.st<=64):aj P F.CV [zG a] (.jE [zG (rQ a),.d (dI 0)]):=by
 have e3:=za.num;have e4:=yB a.aP;refine aj.intro fn.CV (by rfl) (by rfl) (aA (by rfl)) λE hE=>(AW.sg hE rfl (gW rfl rfl λb1=>(al z.Auto rfl λb2=>(aC rfl (OL.nil (AW.seq (AW.sg hE rfl ?_)))))))
 refine aV fd.jW rfl rfl (aG ce.int rfl rfl rfl (gV rfl rfl (c:=false) (by exact decide_eq_false (by omega)) (OL.nil (oz rfl ?_))))
 refine AW.skip (AW.sg hE rfl (aN ag.Auto rfl rfl (vs:=[_,_,_,_,_,_,_]) rfl (aA rfl) (bF rfl vL (NR (a:=a) h za s2) (fG sz.Auto rfl rfl rfl rfl rfl (aA rfl) (cells2:=[_,_,_,_,_,_,_]) rfl (OL.nil (AW.seq (AW.sg hE rfl ?_)))))));refine aV fd.iI rfl rfl (aG ce.dm rfl rfl rfl (fJ sl.dm rfl rfl (gV rfl rfl (c:=false) (decide_eq_false (by show ¬ (2048:Int)<((qH a.aP).length:Int);omega)) (OL.nil (oz rfl ?_)))))
 refine AW.skip (AW.sg hE rfl (aN ag.Auto rfl rfl (vs:=[_,_,_,_,_,_,_]) rfl (aA rfl) (fG sz.Auto rfl rfl rfl rfl rfl (aA rfl) (cells2:=[_,_,_,_,_,_,_]) rfl (aC rfl (OL.nil ?_)))));exact AW.ret (aO.r ⟨_,.dL rfl rfl ag.Auto (aA rfl) (.tmp rfl .nil),_,.cons (.ag (.cons (.le vR) (.cons (.le vR) (.cons (.le vR) (.cons (.le vR) (.cons (.le vR) (.cons (.le vR) (.cons (.le vR) .nil)))))))) (.cons (.le vR) .nil),rfl⟩)
theorem NS {a:Au}{s:Nat}(f:Au.Fit a s):aj P F.wF [zG a] (.jE [zG (sJ a),.d (dI 0)]):=by
 have e3:=f.sz.num;have hsl:=Jh (l:=a.aP);refine aj.intro fn.wF (by rfl) (by rfl) (aA (by rfl)) λE hE=>(AW.sg hE rfl (gW rfl rfl λb1=>(al z.Auto rfl λb2=>(aC rfl (OL.nil (AW.seq (AW.sg hE rfl ?_)))))))
 refine aN ag.Auto rfl rfl (vs:=[_,_,_,_,_,_,_]) rfl (aA rfl) (bF rfl vL (RD (a:=a) f.ok f.sz f.s1 f.st) (nt rfl (OL.nil (oz rfl ?_))));refine AW.skip (AW.sg hE rfl (aV fd.jc rfl rfl (aN ag.Ring rfl rfl (vs:=[_,_]) rfl (aA rfl) (aV fd.rO rfl rfl (aG ce.int rfl rfl rfl (aV fd.jW rfl rfl (aG ce.int rfl rfl rfl ?_)))))));refine aV fd.xJ rfl rfl (aG ce.aT rfl rfl rfl (aV fd.uZ rfl rfl (aG ce.aT rfl rfl rfl (Vk (cs:=[_,_,_,_,_,_,_]) z.Auto pl.Auto (rG (by exact evA rfl) (rG (by exact zC rfl) (rG (by exact zC rfl) (rG (by exact zC rfl) (rG (by exact zC rfl) (Vj)))))) (by rfl) (al z.Auto rfl λb4=>(fG sz.Auto rfl rfl rfl rfl rfl (aA rfl) (cells2:=[_,_,_,_,_,_,_]) rfl (OL.nil ?_)))))))
 refine AW.seq (AW.sg hE rfl (aC rfl (OL.nil (AW.block (AW.AX 46 T.ny 11 rfl ?_)))));refine AW.DX 4 [.d (dI 1),.d (.sl []),.d (dI a.sym),.d (dI a.st),.d (tH a.fin),.d (tH a.ini),.bH 46 0 0 0] rfl (.cons vR (.cons vR (.cons vR (.cons vR (.cons vR (.cons vR (.cons qQ .nil))))))) ?_;refine AW.aU (α:=Nat × Nat × Nat) [(1,_),(2,_),(3,_),(4,_)] [(1,_),(2,_)] (λ(i,bq,cq)=>[(5,.d (dI i))]) (λ(i,bq,cq)=>[(4,.box b4 T.Auto [.d (dI 1),.d (.sl []),.d (dI a.sym),.d (dI a.st),.d (tH a.fin),.d (tH a.ini),.bH 46 bq i cq]),(46,rowA bq cq ((Ij a.aP).take i))]) (λ(i,bq,cq)=>i<=a.aP.length) (λ(i,bq,cq)=>a.aP.length-i) (0,0,0) (.cons (iJ rfl) (.cons (iJ rfl) (.cons (bY rfl) (.cons (iJ rfl) .nil)))) (.cons (kC rfl) (.cons (kC rfl) .nil)) ⟨Nat.zero_le _,.di,.cons rfl (.cons rfl .nil)⟩ ?_
 rintro⟨i,bq,cq⟩ h1
 have h1:i<=a.aP.length:=h1;refine AW.seq (AW.sg hE rfl (ai rfl (aV fd.iI rfl rfl (aG ce.dm rfl rfl rfl (fJ sl.dm rfl rfl (aX rfl rfl rfl (OL.nil ?_)))))));refine AW.cond rfl (λh26=>?_) (λh26=>?_)
 .try simp only[eG] at h26
  refine AW.skip (AW.seq (AW.block (AW.sg hE rfl (aV fd.iI rfl rfl (aG ce.dm rfl rfl rfl (ai rfl (fM sl.dm default rfl rfl (by omega) rfl rfl ?_)))))))
  refine jS ag.ny rfl (vs:=[_,_,_,_,_,_,_,_,_,_,_]) rfl (aA rfl) (al z.ny rfl λb6=>(fG sz.ny rfl rfl rfl rfl rfl (aA rfl) (cells2:=[_,_,_,_,_,_,_,_,_,_,_]) rfl (OL.nil (AW.rg hE rfl (aV fd.iI rfl rfl (aG ce.dm rfl rfl rfl (aV fd.xq rfl rfl ?_)))))));refine aG ce.int rfl rfl rfl (aV fd.yZ rfl rfl (aG ce.int rfl rfl rfl (aV fd.xM rfl rfl (aG ce.int rfl rfl rfl (aV fd.sF rfl rfl (aN ag.ak rfl rfl (vs:=[_,_,_,_,_,_,_,_]) rfl (aA rfl) (Vk (cs:=[_,_,_,_,_,_,_,_,_,_,_]) z.ny pl.ny (rG (by exact zC rfl) (rG (by exact zC rfl) (rG (by exact zC rfl) (rG (by exact evA rfl) (Vj))))) (by rfl) ?_)))))))
  refine xe (y:=je ⟨(a.aP.getD i default).t,(a.aP.getD i default).l,(a.aP.getD i default).f,(a.aP.getD i default).q⟩) sl.dm (y8 (x:=⟨(a.aP.getD i default).t,(a.aP.getD i default).l,(a.aP.getD i default).f,(a.aP.getD i default).q⟩)) rfl (by decide) ?_
  refine zB sl.dm rfl rfl rfl (by rw[dD,List.length_take];omega) (VC.d _) (λy hy=>by rw[kJ hy];rfl) (by simp only[jL,dD,List.length_take];omega) (by simp only[jL,dD,List.length_take];omega) (.inr rfl) (ys:=((Ij a.aP).take (i+1)).map je) (by rw[WR (by omega),List.map_append];rfl) (n2:=i+1) rfl λRF c46=>?_
  refine aV fd.iI rfl rfl (fG sz.dm rfl rfl rfl rfl rfl (aA rfl) (cells2:=[_,_,_,_,_,_,_]) rfl (OL.nil (AW.rg hE rfl (ai rfl (aH rfl rfl (by omega) (aC rfl (OL.nil ?_)))))))
  exact AW.again (x:=(i,bq,cq)) (i+1,RF,c46) (by (simp only[];omega)) ⟨by omega,Knows.app .GL .di,dw.app (.cons rfl (.cons rfl .nil)) (.cons rfl (.cons rfl .nil))⟩
 .try simp only[eG] at h26
  refine AW.exit (AW.seq ?_);obtain rfl:i=a.aP.length:=by omega
  refine AW.freeze 46 rfl (AW.DX 4 [.d (dI 1),.d (.sl []),.d (dI a.sym),.d (dI a.st),.d (tH a.fin),.d (tH a.ini),.d (lK (Ij a.aP))] rfl (.cons vR (.cons vR (.cons vR (.cons vR (.cons vR (.cons vR (.cons (eH (by rw[dD,List.length_take];omega) (by rw[List.take_of_length_le (by omega)])) .nil))))))) ?_)
  refine AW.rg hE rfl (aN ag.Auto rfl rfl (vs:=[_,_,_,_,_,_,_]) rfl (aA rfl) (bF rfl vL (aD9 (a:=aP7 a) (aD7 f.ok) (aD8 f.sz) f.st) (ex rfl rfl (ex rfl rfl (fG sz.Auto rfl rfl rfl rfl rfl (aA rfl) (cells2:=[_,_,_,_,_,_,_]) rfl (aC rfl (OL.nil ?_)))))));exact AW.ret (aO.r ⟨_,.dL rfl rfl ag.Auto (aA rfl) (.tmp rfl .nil),_,.cons (.ag (.cons (.le vR) (.cons (.le vR) (.cons (.le vR) (.cons (.le vR) (.cons (.le vR) (.cons (.le vR) (.cons (.le vR) .nil)))))))) (.cons (.le vR) .nil),rfl⟩)
def cB (e:Nat):Nat->Nat
 | 0=>e
 | k+1=>20*(cB e k+e+1)+1
theorem ao6:∀ k,k<=4->cB 10000 k<=3300000000:=by decide +kernel
theorem aI5 {a:Au}{e:Nat}(e1:1<=e)(h:a.Ok)(hn:a.aP.length<=20)(hq:∀ x,x ∈ a.aP->sz x.q<=e)(hi:Small e a.ini){w:List Int}:∀ k,k<=w.length->∀ j,sz ((pX a (w.take k)).getD j 0)<=cB e k
 | 0,_,j=>by show sz (a.ini.getD j 0)<=e;exact hi.get e1 j
 | k+1,hk,j=>by
  have ih:=aI5 e1 h hn hq hi (w:=w) k (by omega)
  rw[En (by omega)]
  exact I7 (N:=20) (C:=e) ih (λx hx=>⟨(h.arc x hx).2.1,hq x hx⟩) hn (by omega)
theorem bi6 {a:Au}(h:a.Ok)(hn:a.aP.length<=20)(hq:∀ x,x ∈ a.aP->sz x.q<=10000)(hi:Small 10000 a.ini)(hf:Small 10000 a.fin)(st:a.st<=5){w:List Int}(hl:w.length<=4):aP2 a w:=by
 have hv:=aI5 (e:=10000) (by decide) h hn hq hi (w:=w)
 have hvw:∀ j,sz ((pX a w).getD j 0)<=3300000000:=λj=>by
  have:=hv w.length (Nat.le_refl _) j;rw[List.take_length] at this;exact Nat.le_trans this (ao6 _ hl)
 refine⟨λk hk=>⟨λj=>?_,λx hx=>Nat.le_trans (hq x hx) (by decide),λi j=>?_⟩,λj=>Nat.le_trans (hvw j) (by decide),λj=>Nat.le_trans (hf.get (by decide) j) (by decide),λi hi=>?_⟩
 .exact Nat.le_trans (hv k (by omega) j) (Nat.le_trans (ao6 k (by omega)) (by decide))
 .have h1:=I7 (v:=pX a (w.take k)) (n:=a.st) (s:=(w.getD k 0).toNat) (j:=j) (l:=a.aP.take i) (B:=cB 10000 k) (C:=10000) (N:=20) (hv k (by omega)) (λx hx=>⟨(h.arc x (List.mem_of_mem_take hx)).2.1,hq x (List.mem_of_mem_take hx)⟩) (by rw[List.length_take];omega) (by omega)
  have h2:20*(cB 10000 k+10000+1)+1<=3300000000:=ao6 (k+1) (by omega)
  exact Nat.le_trans h1 (Nat.le_trans h2 (by decide))
 .unfold zH;have h1:=MW (f:=λi=>(pX a w).getD i 0*a.fin.getD i 0) (C:=3300010000) (n:=i) λj _=>by
   have h2:=lU ((pX a w).getD j 0) (a.fin.getD j 0);have h3:=hvw j;have h4:sz (a.fin.getD j 0)<=10000:=hf.get (by decide) j
   omega
  have h2:=Nat.mul_le_mul_right (3300010000+1) (show i<=5 from Nat.le_trans hi st)
  omega
theorem ao7 {a:Au}(f:a.Oi):(jX a).Oi:=⟨f.st,f.ini,f.fin,λs i j=>by show sz (jd (vH a.aP) s i j)<=24;rw[IV];exact f.ent s i j⟩
theorem ao8 {a:Au}(h:a.Ok)(f:a.Oi):∀ x,x ∈ (jX a).aP->sz x.q<=24:=λx hx=>by
 rw[<- Ud (ai3 a.aP) hx (Nb h x hx),IV];exact f.ent ..
theorem U4 {a:Au}(h:a.Ok)(f:a.Oi)(hn:a.aP.length<=20):(jX a).Sz 134217728 20 :=
 ⟨λq hq=>Nat.le_trans (f.ini q hq) (by decide),λq hq=>Nat.le_trans (f.fin q hq) (by decide),λx hx=>Nat.le_trans (ao8 h f x hx) (by decide),Nat.le_trans (I4 a.aP) hn⟩
theorem aE0 {a:Au}(h:a.Ok)(f:a.Oi)(za:a.Sz 134217728 20)(s1:a.sym<=32)(st:a.st<=5){w:List Int}(hw:iV a.sym w)(hl:w.length<=4):aj P F.mD [zG a,.d (ints w)] (.jE [vW (jm a w),.d (dI 0)]) :=
 aC9 h za s1 (by omega) hw (by omega) (bi6 (Kt h) (U4 h f za.num).num (λx hx=>Nat.le_trans (ao8 h f x hx) (by decide)) (λq hq=>Nat.le_trans (f.ini q hq) (by decide)) (λq hq=>Nat.le_trans (f.fin q hq) (by decide)) st hl)
theorem aE1 {a:Au}(h:a.Ok)(f:a.Oi)(za:a.Sz 134217728 20)(s1:a.sym<=32)(st:a.st<=5){w:List Int}(hw:iV a.sym w)(hl:w.length<=4):aj P F.mD [zG (jX a),.d (ints w)] (.jE [vW (jm a w),.d (dI 0)]):=by
 have r:=aE0 (a:=jX a) (Kt h) (ao7 f) (U4 h f za.num) s1 st hw hl
 rwa [UY] at r
theorem aP8 {a:Au}(f:a.Oi)(s4:a.sym<=4){w:List Int}(hl:w.length<=5):sz (jm a w)<=16777215:=by
 have z:(aY [a]).Sz 24:=Eh (λx hx=>by rw[kJ hx];exact f) (by rw[gG];exact f.st) s4
 exact Nat.le_trans (Ws z.n6 (λi=>HY z hl i) z.fin) (by decide)
theorem ZK (p:Nat->Prop)(n:Nat):∃ k,k<=n/\(∀ i,i<k->p i)/\(k<n->¬ p k):=by
 classical
 induction n with
 | zero=>exact⟨0,Nat.le_refl _,λi hi=>by omega,λh=>by omega⟩
 | succ n ih =>
  obtain⟨k,h1,h2,h3⟩:=ih;by_cases hk:k=n
  .subst hk;by_cases hp:p k
   .exact⟨k+1,Nat.le_refl _,λi hi=>by rcases Nat.lt_or_ge i k with h|h;exact h2 i h;obtain rfl:i=k:=(by omega);exact hp,λh=>by omega⟩
   .exact⟨k,by omega,h2,λ_=>hp⟩
  .exact⟨k,by omega,h2,λ_=>h3 (by omega)⟩
set_option maxRecDepth 8000 in
theorem aP9 {s n p:Nat}{X:List (List Int)}{vs:List Rat}{a:Au}{g:List Int->Rat}(hl:vs.length=X.length)(nF:X.length<=1000000)(zv:Small 16777215 vs)(zg:∀ w,w ∈ X->sz (g w)<=16777215)(hg:∀ w,w ∈ X->aj P F.mD [zG a,.d (ints w)] (.jE [vW (g w),.d (dI 0)]))(p1:p<=X.length)(p2:∀ i,i<p->g (X.getD i [])=vs.getD i 0)(p3:p<X.length->g (X.getD p [])≠vs.getD p 0):aj P F.l9 [Ru s n X vs,zG a] (.jE [.d (ints (X.getD p [])),.d (dB (decide (p<X.length)))]):=by
 refine aj.intro fn.l9 (by rfl) (by rfl) (aA (by rfl)) λE hE=>(AW.sg hE rfl (gW rfl rfl λb2=>(gW rfl rfl λb3=>(jg rfl (aC rfl (OL.nil (AW.seq ?_)))))))
 refine AW.sg hE rfl (aV fd.G7 rfl rfl (aG ce.dX rfl rfl rfl (fJ (f:=ints) sl.dX rfl rfl (ai rfl (OL.nil (AW.block ?_))))));refine AW.aU (α:=Nat) [(2,_),(3,_),(11,_),(12,_)] [(2,_),(3,_)] (λi=>[(13,.d (dI i))]) (λi=>[]) (λi=>i<=p) (λi=>p-i) 0 (.cons (iJ rfl) (.cons (iJ rfl) (.cons (bY rfl) (.cons (bY rfl) .nil)))) (.cons (kC rfl) (.cons (kC rfl) .nil)) ⟨Nat.zero_le _,.di,.nil⟩ ?_;intro i h1;have h1:i<=p:=h1;refine AW.sg hE rfl (aX rfl rfl rfl (OL.nil (AW.seq (AW.cond rfl (λEQ=>?_) (λEQ=>?_)))))
 .try simp only[eG] at EQ
  refine AW.skip (AW.seq (AW.block (AW.seq ?_)));have hi:i<X.length:=by omega
  have hm:=getD_mem hi [];have z1:=zg _ hm;have z2:=zv.get (by decide) i
  refine AW.rg hE rfl (ai rfl (fM sl.dX [] rfl rfl (by omega) rfl rfl (iE ce.ints rfl (aC rfl (aC rfl (OL.nil (AW.sg hE rfl ?_)))))))
  refine aN ag.Auto rfl rfl (vs:=[_,_,_,_,_,_,_]) rfl (aA rfl) (ai rfl (bF rfl vL (hg _ hm) (yu rfl (ex rfl rfl (ex rfl rfl (al z.ak rfl λb8=>(fG sz.ak rfl rfl rfl rfl rfl (aA rfl) (cells2:=[_,_,_,_,_,_,_,_]) rfl ?_)))))));refine aC rfl (OL.nil (AW.seq (AW.dg 1 [0,1,2,3,4,5,6,7,8,9,10,11,12] au hE rfl (by kernel_rfl) (OI.aS (os:=[_,_,_,_,_,_,_,_,_,_,_,_,_]) rfl ?_))))
  refine ai rfl (fC rfl rfl (c:=false) (by exact nZ (by omega)) (ai rfl (OL.yes rfl (aV fd.gK rfl rfl (OL.yes rfl (aN ag.Rat rfl rfl (vs:=[_,_,_]) rfl (aA rfl) (OL.yes rfl ?_)))))))
  refine aV fd.LC rfl rfl (OL.yes rfl (aG ce.bT rfl rfl rfl (OL.yes rfl (ai rfl (OL.yes rfl (fM sl.bT 0 rfl rfl (by omega) rfl rfl (OL.yes rfl ?_)))))))
  refine jS ag.Rat rfl (vs:=[_,_,_]) rfl (aA rfl) (OL.yes rfl (bF rfl vL (He (x:=(g (X.getD i []))) (y:=vs.getD i 0) (by omega) (by omega)) (OL.yes rfl (fC rfl rfl rfl (jZ rfl rfl (OL.nil (AW.cond rfl (λhc=>?_) (λhc=>?_))))))))
  .have hc:(g (X.getD i []))≠vs.getD i 0:=λe=>DC hc (QO.2 e);obtain rfl:p=i:=Decidable.byContradiction λhne=>hc (p2 i (by omega))
   exact AW.sg hE rfl (ai rfl (aC rfl (aC rfl (OL.nil (AW.ret (aO.r ⟨_,.tmp rfl (.tmp rfl .nil),_,.cons (.le vR) (.cons (.le (bG.bool (decide_eq_true hi).symm)) .nil),rfl⟩))))))
  .have hc:(g (X.getD i []))=vs.getD i 0:=QO.1 (BV hc);have hip:i<p:=Decidable.byContradiction λhn=>by
    obtain rfl:p=i:=by omega
    exact p3 hi hc
   exact AW.skip (AW.rg hE rfl (aH rfl rfl (by omega) (ai rfl (OL.nil (AW.again (x:=i) (i+1) (by omega) ⟨by omega,Knows.app .GL .di,dw.app (.cons rfl (.cons rfl .nil)) (.nil)⟩)))))
 .try simp only[eG] at EQ
  refine AW.exit (AW.seq ?_);obtain rfl:p=X.length:=by omega
  exact AW.rg hE rfl (jg rfl (aC rfl (OL.nil (AW.ret (aO.r ⟨_,.tmp rfl (.tmp rfl .nil),_,.cons (.le (by rw[gI,List.getElem?_eq_none (Nat.le_refl _)];exact bG.mt)) (.cons (.le (bG.bool (decide_eq_false (Nat.lt_irrefl _)).symm)) .nil),rfl⟩)))))
