/-
  AL, part 40: a struct of five cells by value, opened and laid as data.
-/
import Derived.Test.YtnjoncgnjdkaoaaGreatDoorKPvG
import Derived.Test.YtnjoncgnjdkaoaaGreatDoorKMod133
import Derived.Lib.SmallJoins
set_option maxHeartbeats 3200000
set_option maxRecDepth 8000
set_option linter.unusedVariables false
set_option linter.unusedSimpArgs false
namespace Go.Proofs.YtnjoncgnjdkaoaaGreatDoor
open Go Go.AL
theorem Ve {a:Au}{s most:Nat}(p:Pla a s most)(h6:most<=6):Au.Take a s :=
 ⟨⟨p.ok,p.sz.up (by decide) (by decide),p.sym,by have:=p.s3;have:=p.sym;omega,by have:=p.st;omega⟩,p.few h6⟩
theorem WY {a:Au}{s most:Nat}(p:Pla a s most)(h6:most<=6):Au.Wt a:=⟨p.ok,p.sz.up (by decide) (by decide),by have:=p.s3;have:=p.sym;omega,by have:=p.st;omega⟩
theorem aS1 {a:Au}{s most:Nat}(p:Pla a s most)(h6:most<=6)(h1:1<=a.st):Au.Rk a s :=
 have s4:a.sym<=4:=by have:=p.s3;have:=p.sym;omega
 ⟨Ve p h6,WY p h6,by have:=p.s3;omega,p.sz.al9.up (by decide) (by decide),p.fw h6 h1,UJ p.ok (p.few h6) (p.sz.up (by decide) (by decide)) s4 h1,UJ (a:=sJ a) p.ok.rev (p.few h6).rev p.sz.al9 s4 h1⟩
theorem ar6 {a:Au}(h0:a.st=0):Wj a=0:=by
 have h:=XP (aY [a]);rw[JG,show (aY [a]).n=a.st from gG,h0] at h
 exact Nat.le_zero.1 h
theorem Z4 {a:Au}(h0:a.st=0):aj P F.qy [zG a] (.jE [.d (.sl []),.d (.sl [])]):=by
 refine aj.intro fn.qy (by rfl) (by rfl) (aA (by rfl)) λE hE=>(AW.sg hE rfl (gW rfl rfl λb1=>(jg rfl (jg rfl (OL.nil (AW.sg hE rfl (jg rfl ?_)))))))
 refine OL.nil (AW.sg hE rfl (jg rfl (jg rfl (OL.nil (AW.seq (AW.sg hE rfl (aV fd.jW rfl rfl ?_)))))));refine aG ce.int rfl rfl rfl (dG rfl rfl (c:=true) (decide_eq_true (by omega)) (OL.nil (J4 rfl ?_)))
 exact AW.sg hE rfl (jg rfl (jg rfl (OL.nil (AW.ret (aO.r ⟨_,.tmp rfl (.tmp rfl .nil),_,.cons (.le (bG.mt)) (.cons (.le (bG.mt)) .nil),rfl⟩)))))
theorem Qs {a:Au}(h:a.Ok)(za:a.Sz 134217728 20)(h0:a.st=0):aj P F.uh [zG a] (.jE [.d (.sl []),.d (.sl [])]):=by
 refine aj.intro fn.uh (by rfl) (by rfl) (aA (by rfl)) λE hE=>(AW.sg hE rfl (gW rfl rfl λb1=>(jg rfl (jg rfl (OL.nil (AW.sg hE rfl (aN ag.Auto rfl rfl (vs:=[_,_,_,_,_,_,_]) rfl (aA rfl) ?_)))))))
 exact bF rfl vL (NR (a:=a) h za (by omega)) (bF rfl vL (Z4 (a:=rQ a) h0) (ex rfl rfl (ex rfl rfl (aC rfl (aC rfl (OL.nil (AW.ret (aO.r ⟨_,.tmp rfl (.tmp rfl .nil),_,.cons (.le vR) (.cons (.le vR) .nil),rfl⟩))))))))
theorem ar7 {a:Au}{s:Nat}(f:Au.Fit a s)(rz:(sJ a).Sz 134217728 20)(h0:a.st=0):aj P F.vS [zG a] (.d (.sl [])):=by
 refine aj.intro fn.vS (by rfl) (by rfl) (aA (by rfl)) λE hE=>(AW.sg hE rfl (gW rfl rfl λb1=>(jg rfl (OL.nil (AW.sg hE rfl (aN ag.Auto rfl rfl (vs:=[_,_,_,_,_,_,_]) rfl (aA rfl) (bF rfl vL (NS f) ?_)))))))
 refine yu rfl (ex rfl rfl (ex rfl rfl (al z.Auto rfl λb3=>(fG sz.Auto rfl rfl rfl rfl rfl (aA rfl) (cells2:=[_,_,_,_,_,_,_]) rfl (aC rfl (OL.nil (AW.sg hE rfl ?_)))))));refine aN ag.Auto rfl rfl (vs:=[_,_,_,_,_,_,_]) rfl (aA rfl) (bF rfl vL (Qs (a:=sJ a) f.ok.rev rz h0) (yu rfl (ex rfl rfl (ex rfl rfl (aC rfl (aC rfl (OL.nil ?_)))))));exact AW.sg hE rfl (ai rfl (aC rfl (OL.nil (AW.ret (aO.r ⟨_,.tmp rfl .nil,.le vR⟩)))))
theorem ar8 {a:Au}{s:Nat}(f:Au.Fit a s)(w:Au.Wt a)(rz:(sJ a).Sz 134217728 20)(h0:a.st=0):aj P F.tN [zG a] (.jE [.d (dI (0:Nat)),.d (dI 0)]):=by
 refine aj.intro fn.tN (by rfl) (by rfl) (aA (by rfl)) λE hE=>(AW.sg hE rfl (gW rfl rfl λb1=>(aC rfl (aC rfl (OL.nil (AW.seq (AW.sg hE rfl ?_)))))))
 refine aN ag.Auto rfl rfl (vs:=[_,_,_,_,_,_,_]) rfl (aA rfl) (bF rfl vL (Vb f w) (aC rfl (OL.nil (AW.sg hE rfl (ai rfl (fC rfl rfl (c:=false) (by exact nZ (by omega)) (OL.nil ?_)))))))
 refine oz rfl ?_;refine AW.skip (AW.sg hE rfl (aN ag.Auto rfl rfl (vs:=[_,_,_,_,_,_,_]) rfl (aA rfl) (bF rfl vL (Qs (a:=a) f.ok f.sz h0) (yu rfl (ex rfl rfl (ex rfl rfl (aC rfl ?_)))))));refine aC rfl (OL.nil (AW.sg hE rfl (aN ag.Auto rfl rfl (vs:=[_,_,_,_,_,_,_]) rfl (aA rfl) (bF rfl vL (ar7 f rz h0) (aC rfl (OL.nil (AW.sg hE rfl ?_)))))));refine jg rfl (OL.nil (AW.seq (AW.sg hE rfl (aC rfl (OL.nil (AW.block ?_))))));refine AW.aU (α:=Unit) [(1,_),(2,_),(3,_),(5,_),(7,_)] [(1,_)] (λ_u=>[(8,.mt),(9,.d (dI 0))]) (λ_u=>[]) (λ_u=>True) (λ_u=>0) () (.cons (iJ rfl) (.cons (bY rfl) (.cons (bY rfl) (.cons (bY rfl) (.cons (bY rfl) .nil))))) (.cons (kC rfl) .nil) ⟨trivial,.gy,.nil⟩ ?_;intro _ _;refine AW.seq (AW.sg hE rfl (ai rfl (ai rfl (fJ (l:=([]:List (List Int))) (f:=ints) sl.dX rfl rfl (aX rfl rfl (c:=false) (decide_eq_false (by decide)) (ai rfl (OL.nd rfl ?_)))))))
 refine OL.nd rfl (OL.nd rfl (jZ rfl rfl (OL.nil (oz rfl ?_))));refine AW.exit (AW.sg hE rfl (mvM rfl (bF rfl (.cons bG.mt .nil) (Jk (vs:=[]) (n:=1) (by decide) (by decide) (λv hv=>by cases hv) (λv hv=>by cases hv)) (yu rfl (ex rfl rfl (ex rfl rfl (aC rfl ?_)))))))
 refine aC rfl (OL.nil (AW.sg hE rfl (ai rfl (fJ (l:=([]:List Int)) (f:=dI) sl.ints rfl rfl (aC rfl (aC rfl (OL.nil ?_)))))));exact AW.ret (aO.r ⟨_,.tmp rfl (.tmp rfl .nil),_,.cons (.le vR) (.cons (.le vR) .nil),rfl⟩)
theorem ar9 {a:Au}{s most:Nat}(p:Pla a s most)(h6:most<=6):aj P F.tN [zG a] (.jE [.d (dI (Wj a)),.d (dI 0)]):=by
 rcases Nat.eq_zero_or_pos a.st with h|h
 .rw[ar6 h];exact ar8 (Ve p h6).fit (WY p h6) (p.sz.al9.up (by decide) (by decide)) h
 .exact aF6 (aS1 p h6 h)
def Ou (y:Option Au):Au:=(y.map jX).getD ⟨0,0,[],[],[]⟩
def a99 (y:Option Au):Int:=if y.isSome then 1 else 0
def ba0 (y:Option Au):Int:=if y.isSome then 0 else 24
theorem aG2 (y:Option Au):aQ0 y=.jE [.ag [.d (dI (a99 y)),.d (.sl []),.d (dI (Ou y).sym),.d (dI (Ou y).st),.d (tH (Ou y).ini),.d (tH (Ou y).fin),.d (lK (Ou y).aP)],.d (dI (ba0 y))]:=by
 cases y <;> rfl
theorem Vf {s m:Nat}{vs:List Rat}{Z:Nat}(hs:1<=s/\s<=2)(m4:m+1<=4)(hb:(ah s (m+1)).length<=4000)(hl:vs.length=(ah s (m+1)).length)(h1:1<=Z)(h6:Z<=6)(zs:Small Z vs)(cC:(ah s (m / 2)).length<=3)(hib:∀ w,IB 7 (3888*1080 ^ 5) (ay (ah s (m+1)) vs w)) :
  rJ P F.o7 [.d (dI s),.d (dI ((m+1:Nat):Int)),.d (iG vs)] jM (λy:Option Au=>.jE [.ag [.d (dI (a99 y)),.d (.sl []),.d (dI (Ou y).sym),.d (dI (Ou y).st),.d (tH (Ou y).ini),.d (tH (Ou y).fin),.d (lK (Ou y).aP)],.d (dI (ba0 y))]) (λ_=>jM) (RcQ s (ay (ah s (m+1)) vs) (ah s (m / 2)) (ah s (m+1))):=by
 have h:=ap1 hs m4 hb hl h1 h6 zs cC hib
 rwa [show aQ0=_ from funext aG2] at h
theorem aS2  : aj P F.zQ [] (.d (dB true)):=by
 obtain⟨ha1,ha2,ha3⟩:=ar2;have q2:sz ((2:Int):Rat)<=1:=NW (by decide)
 refine aj.intro fn.zQ (by rfl) (by rfl) (aA (by rfl)) λE hE=>(AW.sg hE rfl (aC rfl (OL.nil (AW.seq (AW.Ce (by rw[hE];rfl) (SK.jy (bF rfl .di (Dx (n:=1) (by decide)) (OL.nil ?_))))))))
 refine SK.jy (bF rfl .di (Dx (n:=2) (by decide)) (OL.nil ?_))
 refine SK.jy (bF rfl .di (Dx (n:=4) (by decide)) (OL.nil ?_))
 refine SK.jy (bF rfl .di (Dx (n:=8) (by decide)) (OL.nil ?_))
 refine SK.jy (ltN (ys:=[dQ ((1:Int):Rat),dQ ((2:Int):Rat),dQ ((4:Int):Rat),dQ ((8:Int):Rat)]) sl.bT rfl (Oe yP (Oe yP (Oe yP (Oe yP pdN)))) rfl (by decide) (by decide) (λy hy=>by simp at hy;rcases hy with rfl|rfl|rfl|rfl <;> rfl) (OL.nil ?_))
 refine SK.Ll (SO.Tn (args':=[.d (dI 1),.d (dI 3),.d (iG RI)]) (show 11<E.n by rw[hE];exact Nat.le_of_ble_eq_true (by rfl)) rfl vL (Mc:=jM) (λ_ _ h=>by cases h) (Vf (s:=1) (m:=2) (vs:=RI) (Z:=1) (by decide) (by decide) (by decide +kernel) (by decide +kernel) (by decide) (by decide) aR7 (by decide +kernel) aR9) (λ_ _ _ h=>h) ?_)
 rintro y hy
 obtain rfl:=ar4 hy;refine SK.jy (yu rfl (OL.nil ?_));refine SK.jy (ex rfl rfl (OL.nil ?_));refine SK.jy (ex rfl rfl (OL.nil ?_));refine SK.jy (al z.Auto rfl λb1=>OL.nil ?_);refine SK.jy (fG sz.Auto rfl rfl rfl rfl rfl (aA rfl) (cells2:=[_,_,_,_,_,_,_]) rfl (OL.nil ?_));refine SK.jy (aC rfl (OL.nil ?_));refine SK.nil (AW.seq (AW.Ce (by rw[hE];rfl) (SK.jy (bF rfl .di (Dx (n:=1) (by decide)) (OL.nil ?_)))))
 refine SK.jy (bF rfl .di (Dx (n:=2) (by decide)) (OL.nil ?_))
 refine SK.jy (bF rfl .di (Dx (n:=4) (by decide)) (OL.nil ?_))
 refine SK.jy (bF rfl .di (Dx (n:=9) (by decide)) (OL.nil ?_))
 refine SK.jy (ltN (ys:=[dQ ((1:Int):Rat),dQ ((2:Int):Rat),dQ ((4:Int):Rat),dQ ((9:Int):Rat)]) sl.bT rfl (Oe yP (Oe yP (Oe yP (Oe yP pdN)))) rfl (by decide) (by decide) (λy hy=>by simp at hy;rcases hy with rfl|rfl|rfl|rfl <;> rfl) (OL.nil ?_))
 refine SK.Ll (SO.Tn (args':=[.d (dI 1),.d (dI 3),.d (iG kv2)]) (show 20<E.n by rw[hE];exact Nat.le_of_ble_eq_true (by rfl)) rfl vL (Mc:=jM) (λ_ _ h=>by cases h) (Vf (s:=1) (m:=2) (vs:=kv2) (Z:=1) (by decide) (by decide) (by decide +kernel) (by decide +kernel) (by decide) (by decide) aR8 (by decide +kernel) aS0) (λ_ _ _ h=>h) ?_)
 rintro y hy
 obtain rfl:=ar5 hy;refine SK.jy (yu rfl (OL.nil ?_));refine SK.jy (ex rfl rfl (OL.nil ?_));refine SK.jy (ex rfl rfl (OL.nil ?_));refine SK.jy (al z.Auto rfl λb3=>OL.nil ?_);refine SK.jy (fG sz.Auto rfl rfl rfl rfl rfl (aA rfl) (cells2:=[_,_,_,_,_,_,_]) rfl (OL.nil ?_));refine SK.jy (aC rfl (OL.nil ?_));refine SK.nil (AW.seq (AW.dg 1 [0,1,2,3,4,5,6,7,8,9,10,11,12,13,14,15,16,17,18,19,20,21,22,23,24,25,26,27,28] au hE rfl (by kernel_rfl) (OI.aS (os:=[_,_,_,_,_,_,_,_,_,_,_,_,_,_,_,_,_,_,_,_,_,_,_,_,_,_,_,_,_]) rfl ?_)))
 refine ai rfl (dG rfl rfl (c:=true) (decide_eq_true rfl) (ai rfl (OL.yes rfl (ai rfl (OL.yes rfl (dG rfl rfl (c:=true) (decide_eq_true rfl) (lJ rfl rfl ?_)))))));refine ai rfl (OL.yes rfl (aV fd.jW rfl rfl (OL.yes rfl (aG ce.int rfl rfl rfl (OL.yes rfl (dG rfl rfl (c:=true) (decide_eq_true (by show (((kO RI).st:Nat):Int)=1;rw[ha3];rfl)) (lJ rfl rfl ?_)))))))
 refine ai rfl (OL.yes rfl (aV fd.iI rfl rfl (OL.yes rfl (aG ce.dm rfl rfl rfl (OL.yes rfl (fJ (l:=vH (kO RI).aP) (f:=je) sl.dm rfl rfl (OL.yes rfl ?_)))))));refine dG rfl rfl (c:=true) (decide_eq_true (by rw[ha1];rfl)) (lJ rfl rfl (ai rfl (OL.yes rfl (aV fd.iI rfl rfl (OL.yes rfl (aG ce.dm rfl rfl rfl (OL.yes rfl ?_)))))))
 refine QS (l:=vH (kO RI).aP) (f:=je) 0 sl.dm default rfl rfl rfl (by omega) rfl rfl (OL.yes rfl (YK fd.sF rfl rfl (OL.yes rfl (YK fd.gK rfl rfl (OL.yes rfl (jS ag.Rat rfl (vs:=[_,_,_]) rfl (aA rfl) ?_))))))
 rw[ha2];refine OL.yes rfl (bF rfl vL (Dx (n:=2) (by decide)) (OL.yes rfl (bF rfl vL (QW (x:=((2:Int):Rat)) (y:=((2:Int):Rat)) (by omega) (by omega)) (OL.yes rfl (dG rfl rfl (c:=true) (decide_eq_true (QO.2 rfl)) (lJ rfl rfl (aC rfl ?_)))))))
 exact OL.nil (AW.ret (aO.r ⟨_,.tmp rfl .nil,.le vR⟩))
theorem Jl {st sy kk:Int}{fw si:Bool}{L:List Int}(nL:L.length<=9223372036854775807):aj P F.oI [ap6 st sy fw si L,.d (dI kk)] (.d (dB true)):=by
 have hw2:=lZ (v:=sy) (m:=2) (by decide)
 have hww:within (within sy 2) 3=within sy 2:=by unfold within;rw[if_neg (by omega),Int.emod_eq_of_lt (by omega) (by omega)]
 refine aj.intro fn.oI (by rfl) (by rfl) (aA (by rfl)) λE hE=>(AW.sg hE rfl (gW rfl rfl λb2=>(aC rfl (OL.nil (AW.sg hE rfl (aV fd.VX rfl rfl (aG ce.int rfl rfl rfl ?_)))))))
 refine bF rfl .gy (jA (v:=sy) (m:=2) (by decide)) (aV fd.VX rfl rfl (fG sz.int rfl rfl rfl rfl rfl (aA rfl) (cells2:=[_,_,_,_,_]) rfl (OL.nil (AW.seq (AW.Ce (by rw[hE];rfl) (SK.jy (aN ag.Y2 rfl rfl (vs:=[_,_,_,_,_]) rfl (aA rfl) (OL.nil ?_))))))))
 refine SK.Ll (SO.Tn (args':=[ap6 st (within sy 2) fw si L,.d (dI 1),.d (dI (2:Nat))]) (show 20<E.n by rw[hE];exact Nat.le_of_ble_eq_true (by rfl)) rfl vL (Mc:=jM) (λ_ _ h=>by cases h) (ap8 (most:=2) (by decide) nL) (λ_ _ _ h=>h) ?_)
 rintro a hp
 have hs1:=hp.ok.GY;have hs2:a.sym<=2:=by have h9:=hp.sym;rw[hww] at h9;omega
 have hF:(ah a.sym 4).length<=31:=by rcases (by omega:a.sym=1 \/ a.sym=2) with e|e <;> rw[e] <;> decide
 have hF5:5<=(ah a.sym 4).length:=by rcases (by omega:a.sym=1 \/ a.sym=2) with e|e <;> rw[e] <;> decide
 have hvl:((ah a.sym 4).map (jm a)).length=(ah a.sym 4).length:=dD ..;have hsz:∀ w,w ∈ ah a.sym 4->sz (jm a w)<=16777215:=λw hw=>hp.ser (by decide) (bW.1 hw).1 (by have:=(bW.1 hw).2;omega)
 have hzs:Small 16777215 ((ah a.sym 4).map (jm a)):=λq hq=>by
  obtain⟨w,hw,rfl⟩:=jY hq;exact hsz w hw
 have hW8:∀ w,w ∈ ah a.sym 4->aj P F.qR [zG a,.d (ints w)] (.jE [vW (jm a w),.d (dI 0)]):=λw hw=>ap4 (WY hp (by decide)) (bW.1 hw).1 (bW.1 hw).2
 refine SK.jy (al z.Auto rfl λb5=>OL.nil ?_);refine SK.jy (fG sz.Auto rfl rfl rfl rfl rfl (aA rfl) (cells2:=[_,_,_,_,_,_,_]) rfl (OL.nil ?_));refine SK.nil (AW.sg hE rfl (aN ag.Auto rfl rfl (vs:=[_,_,_,_,_,_,_]) rfl (aA rfl) (bF rfl vL (ar9 hp (by decide)) (yu rfl (ex rfl rfl (ex rfl rfl (aC rfl ?_)))))))
 refine aC rfl (OL.nil (AW.sg hE rfl (aN ag.Auto rfl rfl (vs:=[_,_,_,_,_,_,_]) rfl (aA rfl) (bF rfl vL (iR.data (aF0 (a:=a) (n:=4) ⟨hs1,by omega⟩ (by decide) (by omega) hW8) (by rw[dD];exact hvl.symm)) (aC rfl (OL.nil (AW.sg hE rfl ?_)))))))
 refine ai rfl (bF rfl .gy (jA (v:=kk) (m:=2) (by decide)) ?_)
 obtain⟨k,hk⟩:∃ k:Nat,within kk 2=(k:Int):=⟨_,(Int.toNat_of_nonneg (lZ (by decide)).1).symm⟩
 have hk2:k<2:=by have:=(lZ (v:=kk) (m:=2) (by decide)).2;omega
 rw[hk];obtain⟨hx1,hx2,hx3,h6⟩:=ZY (v:=(ay (ah a.sym 4) ((ah a.sym 4).map (jm a)))) (by have h9:=hp;rw[<- hp.sym] at h9;exact h9) (λw hw=>aF8 w hw) hk2
 refine aC rfl (OL.nil (AW.sg hE rfl (aV fd.rO rfl rfl (aG ce.int rfl rfl rfl (ai rfl (ai rfl ?_))))));refine bF rfl vL ((show aj P F.oJ [.d (dI a.sym),.d (dI ((4:Nat):Int)),.d (dI (k:Nat)),.d (iG ((ah a.sym 4).map (jm a)))] (.jE [.d (dI (Ot a.sym (ay (ah a.sym 4) ((ah a.sym 4).map (jm a))) k)),.d (dI 0)]) from an5 (s:=a.sym) (m:=3) (vs:=((ah a.sym 4).map (jm a))) (B:=16777215) (k:=k) ⟨hs1,by omega⟩ (by decide) (show (ah a.sym 4).length<=4000 by omega) hvl (by decide) (Nat.le_refl _) hzs (by omega) (λi=>h6 k (by omega) i))) ?_
 refine yu rfl (ex rfl rfl (ex rfl rfl (aC rfl (aC rfl (OL.nil (AW.sg hE rfl (aV fd.rO rfl rfl ?_)))))));refine aG ce.int rfl rfl rfl (ai rfl (bo rfl rfl (kM (c:=((k+1:Nat):Int)) (by omega) (wrap_i64 (by omega))) (ai rfl ?_)))
 refine bF rfl vL ((show aj P F.oJ [.d (dI a.sym),.d (dI ((4:Nat):Int)),.d (dI ((k+1):Nat)),.d (iG ((ah a.sym 4).map (jm a)))] (.jE [.d (dI (Ot a.sym (ay (ah a.sym 4) ((ah a.sym 4).map (jm a))) (k+1))),.d (dI 0)]) from an5 (s:=a.sym) (m:=3) (vs:=((ah a.sym 4).map (jm a))) (B:=16777215) (k:=(k+1)) ⟨hs1,by omega⟩ (by decide) (show (ah a.sym 4).length<=4000 by omega) hvl (by decide) (Nat.le_refl _) hzs (by omega) (λi=>h6 (k+1) (by omega) i))) ?_
 refine yu rfl (ex rfl rfl (ex rfl rfl (aC rfl (aC rfl (OL.nil (AW.sg hE rfl (aV fd.rO rfl rfl ?_)))))));refine aG ce.int rfl rfl rfl (ai rfl ?_);refine bF rfl vL ((show aj P F.oJ [.d (dI a.sym),.d (dI ((4:Nat):Int)),.d (dI (2:Nat)),.d (iG ((ah a.sym 4).map (jm a)))] (.jE [.d (dI (Ot a.sym (ay (ah a.sym 4) ((ah a.sym 4).map (jm a))) 2)),.d (dI 0)]) from an5 (s:=a.sym) (m:=3) (vs:=((ah a.sym 4).map (jm a))) (B:=16777215) (k:=2) ⟨hs1,by omega⟩ (by decide) (show (ah a.sym 4).length<=4000 by omega) hvl (by decide) (Nat.le_refl _) hzs (by omega) (λi=>h6 2 (by omega) i))) ?_
 refine yu rfl (ex rfl rfl (ex rfl rfl (aC rfl (aC rfl (OL.nil (AW.sg hE rfl (bF rfl (.nil) (aS2) ?_)))))));refine ai rfl (OL.yes rfl (ai rfl (OL.yes rfl (dG rfl rfl (c:=true) (decide_eq_true rfl) (lJ rfl rfl (ai rfl (OL.yes rfl ?_)))))));refine ai rfl (OL.yes rfl (dG rfl rfl (c:=true) (decide_eq_true rfl) (lJ rfl rfl (ai rfl (OL.yes rfl (ai rfl (OL.yes rfl ?_)))))));refine dG rfl rfl (c:=true) (decide_eq_true rfl) (lJ rfl rfl (ai rfl (OL.yes rfl (ai rfl (OL.yes rfl (dG rfl rfl (c:=true) (decide_eq_true rfl) (lJ rfl rfl ?_)))))));refine ai rfl (OL.yes rfl (ai rfl (OL.yes rfl (ai rfl (OL.yes rfl (wZ rfl rfl (c:=true) (decide_eq_true (by omega)) (lJ rfl rfl ?_)))))))
 refine ai rfl (OL.yes rfl (ai rfl (OL.yes rfl (ai rfl (OL.yes rfl (wZ rfl rfl (c:=true) (decide_eq_true (by omega)) (lJ rfl rfl ?_)))))))
 refine ai rfl (OL.yes rfl (ai rfl (OL.yes rfl (ai rfl (OL.yes rfl (dG rfl rfl (c:=true) (decide_eq_true (by rw[hx3])) (lJ rfl rfl ?_)))))))
 exact aC rfl (OL.nil (AW.ret (aO.r ⟨_,.tmp rfl .nil,.le vR⟩)))
end Go.Proofs.YtnjoncgnjdkaoaaGreatDoor
namespace Go.AL
open Go Go.BigFrame Go.RowKit Go.ChangeShapes Go.WideShapes Go.ChangeAt Go.Joins Go.Deep
theorem aS3 {α:Type}{cs:Array α}(h:cs.size=5):∃ c0 c1 c2 c3 c4,cs = #[c0,c1,c2,c3,c4]:=by
 obtain⟨l⟩:=cs
 match l,h with
 | [c0,c1,c2,c3,c4],_=>exact⟨c0,c1,c2,c3,c4,rfl⟩
section
variable {H:Type}{enc:TypeId × Value->H}{P:Program}{w:World}{base:Nat}{spare:Nat->Bool}{held:Bool}
theorem RJ {t:TypeId}{f0 f1 f2 f3 f4:Field}{fuel:Nat}{cs:List Value}{x:DataW H × List MemPlace}(ht:P.underlying t=some (.struct #[f0,f1,f2,f3,f4]))(h:DataW.trod enc P w base spare held fuel t cs=some x) :
  ∃ y0 y1 y2 y3 y4 n,x=(.agg [y0.1,y1.1,y2.1,y3.1,y4.1],y0.2++(y1.2++(y2.2++(y3.2++y4.2))))/\cs.length=P.cellsOf t/\DataW.trod enc P w base spare held n f0.type ((cs.drop f0.offset).take (P.cellsOf f0.type))=some y0 /\
   DataW.trod enc P w base spare held n f1.type ((cs.drop f1.offset).take (P.cellsOf f1.type))=some y1/\DataW.trod enc P w base spare held n f2.type ((cs.drop f2.offset).take (P.cellsOf f2.type))=some y2 /\
   DataW.trod enc P w base spare held n f3.type ((cs.drop f3.offset).take (P.cellsOf f3.type))=some y3/\DataW.trod enc P w base spare held n f4.type ((cs.drop f4.offset).take (P.cellsOf f4.type))=some y4:=by
 obtain⟨xs,n,_,rfl,hl,hlen,hf⟩:=DataW.trod_struct ht h
 match xs,hlen with
 | [y0,y1,y2,y3,y4],_=>exact⟨y0,y1,y2,y3,y4,n,by simp,hl,by simpa using hf 0 f0 rfl,by simpa using hf 1 f1 rfl,by simpa using hf 2 f2 rfl,by simpa using hf 3 f3 rfl,by simpa using hf 4 f4 rfl⟩
theorem Z5 {r:Reach}{b0:Nat}{t:TypeId}{f0 f1 f2 f3 f4:Field}{v:Value}{d:DataW H}{p:List MemPlace}(hs:P.underlying t=some (.struct #[f0,f1,f2,f3,f4]))(hone:oneCellFields P #[f0,f1,f2,f3,f4]=true)(hC:P.cellsOf t=5)
  (hv:Value.okWide P w r b0 t v) (h:DataW.Trod enc P w base spare held t v d p) :
  ∃ (v0 v1 v2 v3 v4:Value) (y0 y1 y2 y3 y4:DataW H × List MemPlace) (n:Nat),v=.agg #[v0,v1,v2,v3,v4] /\
   DataW.trod enc P w base spare held n f0.type [v0]=some y0/\DataW.trod enc P w base spare held n f1.type [v1]=some y1/\DataW.trod enc P w base spare held n f2.type [v2]=some y2/\DataW.trod enc P w base spare held n f3.type [v3]=some y3/\DataW.trod enc P w base spare held n f4.type [v4]=some y4:=by
 obtain⟨cs,rfl,hsz⟩:=okWide_struct hs hv;obtain⟨c0,c1,c2,c3,c4,rfl⟩:=aS3 (hsz.trans hC);obtain⟨fuel,hf⟩:=h;obtain⟨y0,y1,y2,y3,y4,n,hx,_,h0,h1,h2,h3,h4⟩:=RJ hs hf;obtain⟨o0,k0⟩:=hone_of hone 0 f0 rfl;obtain⟨o1,k1⟩:=hone_of hone 1 f1 rfl;obtain⟨o2,k2⟩:=hone_of hone 2 f2 rfl;obtain⟨o3,k3⟩:=hone_of hone 3 f3 rfl;obtain⟨o4,k4⟩:=hone_of hone 4 f4 rfl;exact⟨c0,c1,c2,c3,c4,y0,y1,y2,y3,y4,n,rfl,by simpa [Value.cells,o0,k0] using h0,by simpa [Value.cells,o1,k1] using h1,by simpa [Value.cells,o2,k2] using h2,by simpa [Value.cells,o3,k3] using h3,by simpa [Value.cells,o4,k4] using h4⟩
end
theorem Qu {P:Program}{H:Type}{enc:TypeId × Value->H}{w:World}{base fuel:Nat}{spare:Nat->Bool}{held:Bool}{t:TypeId}{v:Value}{x:DataW H × List MemPlace}(ht:P.underlying t=some .bool)
  (h:DataW.trod enc P w base spare held fuel t [v]=some x):∃ b,v=.bool b:=by
 obtain⟨b,h1,_⟩:=DataW.trod_bool ht h;simp at h1;exact⟨b,h1⟩
theorem Z7 {F:Hp}{u0 u1 u2 u3 u4:Value}{x0 x1 x2 x3 x4:D}(h0:cZ F u0 (.d x0))(h1:cZ F u1 (.d x1))(h2:cZ F u2 (.d x2))(h3:cZ F u3 (.d x3))(h4:cZ F u4 (.d x4)):cZ F (.agg #[u0,u1,u2,u3,u4]) (.ag [.d x0,.d x1,.d x2,.d x3,.d x4]):=by
 have h:=tK h0 (tK h1 (tK h2 (tK h3 (tK h4 OQ))));refine .ag (us:=[u0,u1,u2,u3,u4]) h.1 (λu hu=>?_) h.2;simp only[List.mem_cons,List.not_mem_nil,or_false] at hu;rcases hu with rfl|rfl|rfl|rfl|rfl
 .exact h0.one
 .exact h1.one
 .exact h2.one
 .exact h3.one
 .exact h4.one
