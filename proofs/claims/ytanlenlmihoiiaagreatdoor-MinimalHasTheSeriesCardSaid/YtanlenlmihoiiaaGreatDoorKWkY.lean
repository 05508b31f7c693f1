/-
  Walks of layers 5 and 8 of the specification: words, weights of words (printed by mk2.py).
-/
import Derived.Test.YtanlenlmihoiiaaGreatDoorKWkW
set_option maxHeartbeats 1600000
set_option linter.unusedVariables false
set_option linter.unusedSimpArgs false
namespace Go.Proofs.YtanlenlmihoiiaaGreatDoor
open Go Go.AL
theorem fc.mg:EU P T.Auto 3 4:=⟨by kernel_rfl⟩
abbrev yC (l:List Int)(sym most:Nat):List Int:=(l.take most).map λv=>((1+BJ v sym:Nat):Int)
theorem KW {l:List Int}{sym most:Nat}:(yC l sym most).length=min most l.length:=by simp
theorem YQ {l:List Int}{sym most i:Nat}(h:i<(yC l sym most).length):(yC l sym most).take (i+1)=(yC l sym most).take i++[((1+BJ (l.getD i 0) sym:Nat):Int)]:=by
 rw[iV 0 h];congr 2;rw[KW] at h;rw[iO,List.getElem?_map,List.getElem?_take,if_pos (by omega),iO,lF (by omega)]
 rfl
theorem aE4 {l:List Int}{sym most:Nat}(h:1<=sym):iy sym (yC l sym most):=λx hx=>by
 obtain⟨v,_,rfl⟩:=jH hx;have:=Et v h;omega
theorem WR {l:List Int}:∀ y,y ∈ l.map dI->y.cells.length=1:=λy hy=>by obtain⟨a,_,rfl⟩:=jH hy;rfl
theorem YR {n i:Nat}(h:i<n):(List.replicate n (0:Rat)).take (i+1)=(List.replicate n (0:Rat)).take i++[0]:=by
 rw[List.take_replicate,List.take_replicate,Nat.min_eq_left h,Nat.min_eq_left (Nat.le_of_lt h),List.replicate_succ']
theorem aU3 {v w:List Rat}{B i:Nat}(hv:∀ i,sz (v.getD i 0)<=B)(hw:∀ i,sz (w.getD i 0)<=6):sz (He v w i)<=1+i*(B+6+1):=Jp i λj _=>by
 have:=jS (v.getD j 0) (w.getD j 0);have:=hv j;have:=hw j;omega
structure Au.Wt (a:Au):Prop where
 ok:a.Ok
 sz:a.Sz 6 20
 s2:a.sym<=32
 st:a.st<=64
theorem Au.Wt.wide {a:Au}(f:Au.Wt a):a.Sz 134217728 20:=f.sz.up (by decide) (Nat.le_refl _)
theorem Js {a:Au}(f:Au.Wt a){v:List Rat}{B s i j:Nat}(hv:∀ i,sz (v.getD i 0)<=B):sz ((kL a.st v s (a.aB.take i)).getD j 0)<=20*(B+7)+1:=by
 have h2:(a.aB.take i).length<=a.aB.length:=by rw[List.length_take];exact Nat.min_le_right ..
 exact Wx hv (λx hx=>⟨(f.ok.arc x (List.mem_of_mem_take hx)).2.1,f.sz.arc x (List.mem_of_mem_take hx)⟩) (Nat.le_trans h2 f.sz.num)
theorem aE5 {v out:List Rat}{s:Nat}{x:bM}(h:x.l=s):Ue v s out x=out.set x.t (out.getD x.t 0+v.getD x.f 0*x.q):=if_pos h
theorem aE6 {v out:List Rat}{s:Nat}{x:bM}(h:¬ x.l=s):Ue v s out x=out:=if_neg h
theorem bs7 {l:List Int}{sym most:Nat}(hs:1<=sym/\sym<=32)(hm:most<=1000)(nl:l.length<=9223372036854775807):ai P F.qW [.d (ints l),.d (dI sym),.d (dI most)] (.d (ints (yC l sym most))):=by
 have hwl:=KW (l:=l) (sym:=sym) (most:=most);refine ai.intro fn.qW (by rfl) (by rfl) (au (by rfl)) λE hE=>(AW.sg hE rfl (nI rfl (OL.nil (AW.sg hE rfl (nI rfl (OL.nil (AW.seq ?_)))))))
 refine AW.seq (AW.own 7 29 T.int 1 rfl rfl (AW.rg hE rfl (aG rfl (OL.nil (AW.block ?_)))));refine AW.aX (α:=Nat × Nat × Nat) [(0,_),(1,_),(2,_),(6,_)] [] (λ(i,bq,cq)=>[(7,.bK 29 bq i cq),(8,.d (dI i))]) (λ(i,bq,cq)=>[(29,.row bq cq T.int 1 (((yC l sym most).take i).map dI))]) (λ(i,bq,cq)=>i<=(yC l sym most).length) (λ(i,bq,cq)=>(yC l sym most).length-i) (0,0,0) (.cons (dA rfl) (.cons (dA rfl) (.cons (dA rfl) (.cons (BO rfl) .nil)))) .nil ⟨Nat.zero_le _,.jm,.cons rfl .nil⟩ ?_
 rintro⟨i,bq,cq⟩ h1
 have h1:i<=(yC l sym most).length:=h1;refine AW.seq (AW.sg hE rfl (aj rfl (aj rfl (fO sl.ints rfl rfl (bD rfl rfl rfl (OL.split 12 rfl (λha=>?_) (λha=>?_)))))))
 .have ha:i<l.length:=by have:=mX ha;omega
  refine aj rfl (OL.yes rfl (aj rfl (OL.yes rfl (aj rfl (OL.yes rfl (bD rfl rfl rfl (OL.split 16 rfl (λhb=>?_) (λhb=>?_))))))))
  .have hb:i<most:=by have:=mX hb;omega
   refine nJ rfl rfl (OL.nil (F6 rfl ?_));refine AW.skip (AW.seq (AW.block ?_));have hml:=Et (l.getD i 0) hs.1;refine AW.rg hE rfl (jl rfl (aj rfl (aj rfl (fD sl.ints 0 rfl rfl (by omega) rfl rfl (jb ce.int rfl (aj rfl (bP rfl vL (YM (k:=(l.getD i 0)) (n:=sym) (by omega)) ?_)))))))
   refine bo rfl rfl (lG (c:=((1+BJ (l.getD i 0) sym:Nat):Int)) (by omega) (wrap_i64 (by omega))) (xG (y:=dI ((1+BJ (l.getD i 0) sym:Nat):Int)) sl.ints (VC.d _).vd rfl (by decide) ?_)
   refine Am sl.ints rfl rfl rfl (by rw[dL,List.length_take];omega) (VC.d _) (λy hy=>by rw[lV hy];rfl) (by simp only[kC];omega) (by simp only[kC];omega) (.inr rfl) (ys:=((yC l sym most).take (i+1)).map dI) (by rw[YQ (by omega),List.map_append];rfl) (n2:=i+1) rfl λb29 c29=>?_
   exact uf rfl (OL.nil (AW.rg hE rfl (aj rfl (aJ rfl rfl (by omega) (aG rfl (OL.nil (AW.again (x:=(i,bq,cq)) (i+1,b29,c29) (by (simp only[];omega)) ⟨by omega,Knows.app .J5 .jm,.cons rfl .nil⟩)))))))
  .have hb:¬ i<most:=by have:=oN hb;omega
   obtain rfl:i=(yC l sym most).length:=by omega
   refine nJ rfl rfl (OL.nil (pW rfl ?_));exact AW.exit (AW.sg hE rfl (jl rfl (uf rfl (OL.nil (AW.ret (aT.r ⟨_,.tmp rfl .nil,RO.all rfl rfl (by simp) (by rw[List.take_length])⟩))))))
 .have ha:¬ i<l.length:=by have:=oN ha;omega
  obtain rfl:i=(yC l sym most).length:=by omega
  refine aj rfl (OL.nd rfl (OL.nd rfl (OL.nd rfl (oI rfl rfl (OL.nil (pW rfl ?_))))));exact AW.exit (AW.sg hE rfl (jl rfl (uf rfl (OL.nil (AW.ret (aT.r ⟨_,.tmp rfl .nil,RO.all rfl rfl (by simp) (by rw[List.take_length])⟩))))))
theorem aU4 {w:List Int}{s:Nat}(hs:1<=s/\s<=32)(hw:iy s w)(hl:w.length<=256):ai P F.Bf [.d (ints w),.d (dI s)] (.d (dB true)):=by
 refine ai.intro fn.Bf (by rfl) (by rfl) (au (by rfl)) λE hE=>(AW.sg hE rfl (aG rfl (OL.nil (AW.seq (AW.sg hE rfl (aj rfl (bP rfl vL (ab9 (s:=s) hs) ?_)))))))
 refine nt rfl (aj rfl (OL.yes rfl (aj rfl (OL.yes rfl (fO sl.ints rfl rfl (OL.yes rfl (kS rfl rfl (c:=false) (by exact decide_eq_false (by omega)) ?_)))))))
 refine oI rfl rfl (OL.nil (pW rfl ?_));refine AW.skip (AW.seq (AW.sg hE rfl (aG rfl (OL.nil (AW.block (AW.aX (α:=Nat) [(0,_),(1,_)] [] (λi=>[(5,.d (dI i))]) (λi=>[]) (λi=>i<=w.length) (λi=>w.length-i) 0 (.cons (dA rfl) (.cons (dA rfl) .nil)) .nil ⟨Nat.zero_le _,.dw,.nil⟩ ?_))))))
 rintro i h1
 have h1:i<=w.length:=h1;refine AW.seq (AW.sg hE rfl (aj rfl (aj rfl (fO sl.ints rfl rfl (bD rfl rfl rfl (OL.nil (AW.cond rfl (λh17=>?_) (λh17=>?_))))))))
 .try simp only[fG] at h17
  refine AW.skip (AW.seq (AW.block (AW.seq ?_)));have hx:=hw (w.getD i 0) (getD_mem (by omega) 0)
  refine AW.rg hE rfl (aj rfl (aj rfl (fD sl.ints 0 rfl rfl (by omega) rfl rfl (jb ce.int rfl (bD rfl rfl (c:=false) (by exact decide_eq_false (by omega)) (aj rfl (OL.yes rfl ?_)))))))
  refine aj rfl (OL.yes rfl (aj rfl (OL.yes rfl (fD sl.ints 0 rfl rfl (by omega) rfl rfl (OL.yes rfl (jb ce.int rfl (OL.yes rfl ?_)))))))
  refine aj rfl (OL.yes rfl (kS rfl rfl (c:=false) (by exact decide_eq_false (by omega)) (oI rfl rfl (OL.nil (pW rfl ?_)))))
  exact AW.skip (AW.rg hE rfl (aj rfl (aJ rfl rfl (by omega) (aG rfl (OL.nil (AW.again (x:=i) (i+1) (by omega) ⟨by omega,Knows.app .jm .dw,.nil⟩))))))
 .try simp only[fG] at h17
  exact AW.exit (AW.sg hE rfl (aG rfl (OL.nil (AW.ret (aT.r ⟨_,.tmp rfl .nil,.le vR⟩)))))
theorem aU5 {n:Nat}(hn:n<=64):qf P F.Bg [jG,.d (dI n)] n T.ay 8 ((List.replicate n (0:Rat)).map dW):=by
 have hzl:(List.replicate n (0:Rat)).length=n:=List.length_replicate;refine qf.intro fn.Bg (by rfl) (by rfl) (au (by rfl)) 4 rfl λE hE=>(AW.sg hE rfl (iG rfl rfl λb2=>(nI rfl (OL.nil (AW.sg hE rfl (nI rfl (OL.nil ?_)))))))
 refine AW.seq (AW.seq (AW.own 5 16 T.ay 8 rfl rfl (AW.rg hE rfl (aG rfl (OL.nil (AW.block ?_))))));refine AW.aX (α:=Nat × Nat × Nat) [(1,_),(2,_),(4,_)] [(2,_)] (λ(i,bq,cq)=>[(5,.bK 16 bq i cq),(6,.d (dI i))]) (λ(i,bq,cq)=>[(16,.row bq cq T.ay 8 (((List.replicate n (0:Rat)).take i).map dW))]) (λ(i,bq,cq)=>i<=n) (λ(i,bq,cq)=>n-i) (0,0,0) (.cons (dA rfl) (.cons (iF rfl) (.cons (BO rfl) .nil))) (.cons (jc rfl) .nil) ⟨Nat.zero_le _,.jm,.cons rfl .nil⟩ ?_
 rintro⟨i,bq,cq⟩ h1
 have h1:i<=n:=h1;refine AW.seq (AW.sg hE rfl (aj rfl (aj rfl (bD rfl rfl rfl (OL.nil (AW.cond rfl (λh9=>?_) (λh9=>?_)))))))
 .try simp only[fG] at h9
  refine AW.skip (AW.seq (AW.block (AW.rg hE rfl (jl rfl (aQ ag.Ring rfl rfl (vs:=[_,_]) rfl (au rfl) (bP rfl vL (Uk) (xG (y:=dW 0) sl.aS MK rfl (by decide) ?_)))))))
  refine Am sl.aS rfl rfl rfl (by rw[dL,List.length_take];omega) (VC.d _) (λy hy=>by rw[lV hy];rfl) (by simp only[kC];omega) (by simp only[kC];omega) (.inr rfl) (ys:=((List.replicate n (0:Rat)).take (i+1)).map dW) (by rw[YR (by omega),List.map_append];rfl) (n2:=i+1) rfl λb16 c16=>?_
  exact uf rfl (OL.nil (AW.rg hE rfl (aj rfl (aJ rfl rfl (by omega) (aG rfl (OL.nil (AW.again (x:=(i,bq,cq)) (i+1,b16,c16) (by (simp only[];omega)) ⟨by omega,Knows.app .yI .jm,dP.app (.cons rfl .nil) (.cons rfl .nil)⟩)))))))
 .try simp only[fG] at h9
  refine AW.exit (AW.seq ?_);obtain rfl:i=n:=by omega
  have e9:(List.replicate i (0:Rat)).take i=List.replicate i 0:=List.take_of_length_le (by omega)
  exact AW.rg hE rfl (jl rfl (uf rfl (OL.nil (AW.ret ⟨.inr rfl,16,bq,cq,((List.replicate i (0:Rat)).take i).map dW,rfl,rfl,by rw[e9,dL];omega,by rw[e9];exact List.take_of_length_le (by rw[dL];omega)⟩))))
theorem Nu {a:Au}(f:Au.Wt a):ai P F.AY [uY a] (.d (dB true)):=by
 have e3:=f.wide.num;have e4:=jJ a.aB;have hfo:∀ x,x ∈ bU a.aB->x.f<a.st/\x.t<a.st/\1<=x.l/\x.l<=a.sym:=f.ok.form.arc;refine ai.intro fn.AY (by rfl) (by rfl) (au (by rfl)) λE hE=>(AW.sg hE rfl (iG rfl rfl λb1=>(aG rfl (OL.nil (AW.sg hE rfl (aV fd.gu rfl rfl (aQ ag.Ring rfl rfl (vs:=[_,_]) rfl (au rfl) ?_)))))))
 refine aV fd.fM rfl rfl (aA ce.bZ rfl rfl rfl (bP rfl vL (YL (l:=a.aB) e3 f.wide.arc) (aG rfl (OL.nil (AW.seq (AW.sg hE rfl (aG rfl ?_)))))));refine OL.nil (AW.block (AW.aX (α:=Nat) [(3,_)] [] (λi=>[(4,.d (dI i))]) (λi=>[]) (λi=>i<=(bU a.aB).length) (λi=>(bU a.aB).length-i) 0 (.cons (dA rfl) .nil) .nil ⟨Nat.zero_le _,.dw,.nil⟩ ?_))
 rintro i h1
 have h1:i<=(bU a.aB).length:=h1;refine AW.seq (AW.sg hE rfl (aj rfl (aj rfl (fO sl.bZ rfl rfl (bD rfl rfl rfl (OL.nil (AW.cond rfl (λh13=>?_) (λh13=>?_))))))))
 .try simp only[fG] at h13
  refine AW.skip (AW.seq (AW.block (AW.seq ?_)));have hx:=(hfo ((bU a.aB).getD i default) (getD_mem (by omega) default)).2.2.1
  refine AW.rg hE rfl (aj rfl (aj rfl (fD sl.bZ default rfl rfl (by omega) rfl rfl (Qw fd.Bj rfl rfl (jb ce.int rfl (fE rfl rfl (c:=false) (by exact decide_eq_false (by omega)) (OL.nil ?_)))))))
  refine pW rfl ?_;exact AW.skip (AW.rg hE rfl (aj rfl (aJ rfl rfl (by omega) (aG rfl (OL.nil (AW.again (x:=i) (i+1) (by omega) ⟨by omega,Knows.app .dw .dw,.nil⟩))))))
 .try simp only[fG] at h13
  exact AW.exit (AW.sg hE rfl (aG rfl (OL.nil (AW.ret (aT.r ⟨_,.tmp rfl .nil,.le vR⟩)))))
theorem aU6 {a:Au}{w:List Int}(f:Au.Wt a)(hw:iy a.sym w)(hl:w.length<=4):ai P F.A7 [uY a,.d (ints w)] (.d (dI 0)):=by
 have h0:=f.ok.H8;have s2:=f.s2;refine ai.intro fn.A7 (by rfl) (by rfl) (au (by rfl)) λE hE=>(AW.sg hE rfl (iG rfl rfl λb2=>(aG rfl (OL.nil (AW.seq (AW.block (AW.sg hE rfl ?_)))))))
 refine aQ ag.Auto rfl rfl (vs:=[_,_,_,_,_,_,_]) rfl (au rfl) (bP rfl vL (GN (a:=a) f.ok f.wide f.s2 f.st) (nt rfl (aG rfl (OL.nil (pW rfl ?_)))));refine AW.sg hE rfl (aQ ag.Auto rfl rfl (vs:=[_,_,_,_,_,_,_]) rfl (au rfl) (bP rfl vL (Nu f) (nt rfl (aG rfl (OL.nil (pW rfl ?_))))));refine AW.sg hE rfl (aj rfl (aV fd.kZ rfl rfl (aA ce.int rfl rfl rfl (bP rfl vL (aU4 (w:=w) (s:=a.sym) (by omega) hw (by omega)) (nt rfl (aG rfl (OL.nil ?_)))))))
 refine pW rfl ?_;exact AW.skip (AW.sg hE rfl (aG rfl (OL.nil (AW.ret (aT.r ⟨_,.tmp rfl .nil,.le vR⟩)))))
set_option maxRecDepth 8000 in
theorem bf9 {a:Au}{v:List Rat}{s:Nat}(f:Au.Wt a)(hv:v.length=a.st)(hz:∀ i,sz (v.getD i 0)<=2147361):ai P F.D6 [uY a,.d (lC v),.d (dI s)] (.d (lC (kL a.st v s a.aB))):=by
 have e3:=f.wide.num;have s2:=f.st;refine ai.intro fn.D6 (by rfl) (by rfl) (au (by rfl)) λE hE=>(AW.sg hE rfl (iG rfl rfl λb3=>(nI rfl (OL.nil (AW.sg hE rfl (aV fd.gu rfl rfl (aQ ag.Ring rfl rfl (vs:=[_,_]) rfl (au rfl) ?_)))))))
 refine aV fd.jf rfl rfl (aA ce.int rfl rfl rfl (clR rfl .jm (aU5 (n:=a.st) s2) rfl λb14 c14=>(uf rfl (OL.nil (AW.seq (AW.sg hE rfl (aG rfl ?_)))))));refine OL.nil (AW.block ?_);refine AW.aX (α:=Nat) [(1,_),(2,_),(3,_),(6,_),(7,_)] [(3,_)] (λi=>[(8,.d (dI i))]) (λi=>[(14,.row b14 c14 T.ay 8 ((kL a.st v s (a.aB.take i)).map dW))]) (λi=>i<=a.aB.length) (λi=>a.aB.length-i) 0 (.cons (dA rfl) (.cons (dA rfl) (.cons (iF rfl) (.cons (BO rfl) (.cons (BH rfl) .nil))))) (.cons (jc rfl) .nil) ⟨Nat.zero_le _,.dw,.cons rfl .nil⟩ ?_
 rintro i h1
 have h1:i<=a.aB.length:=h1;have hsl:(kL a.st v s (a.aB.take i)).length=a.st:=xB;refine AW.seq (AW.sg hE rfl (aj rfl (aV fd.fM rfl rfl (aA ce.bZ rfl rfl rfl (fO sl.bZ rfl rfl (bD rfl rfl rfl (OL.nil ?_)))))));refine AW.cond rfl (λh19=>?_) (λh19=>?_)
 .try simp only[fG] at h19
  refine AW.skip (AW.seq (AW.block (AW.seq ?_)));have hm:=getD_mem (l:=a.aB) (i:=i) (by omega) default
  obtain⟨hx1,hx2,hx3,hx4⟩:=f.ok.arc (a.aB.getD i default) hm;have hxz:=f.sz.arc (a.aB.getD i default) hm;have hz1:=hz (a.aB.getD i default).f;have hz2:=Js f (i:=i) (j:=(a.aB.getD i default).t) (s:=s) hz;have hz3:=jS (v.getD (a.aB.getD i default).f 0) (a.aB.getD i default).q;refine AW.rg hE rfl (aV fd.fM rfl rfl (aA ce.bZ rfl rfl rfl (aj rfl (fD sl.bZ default rfl rfl (by omega) rfl rfl (iR ag.mQ rfl (vs:=[_,_,_,_,_,_,_,_,_,_,_]) rfl (au rfl) (al z.mQ rfl λb9=>(eG sz.mQ rfl rfl rfl rfl rfl (au rfl) (cells2:=[_,_,_,_,_,_,_,_,_,_,_]) rfl ?_)))))))
  refine OL.nil (AW.sg hE rfl (aV fd.Bj rfl rfl (aA ce.int rfl rfl rfl (aj rfl (fE rfl rfl rfl (OL.split 30 rfl (λhc=>?_) (λhc=>?_)))))))
  .have hc:(a.aB.getD i default).l=s:=by have:=mX hc;omega
   refine OL.nil (F6 rfl ?_);refine AW.dg 1 [0,1,2,3,4,5,6,7,8,9,10,11,12,13,14,15,16,17,18,19,20,21,22] ak hE rfl (by kernel_rfl) (OI.aP (os:=[_,_,_,_,_,_,_,_,_,_,_,_,_,_,_,_,_,_,_,_,_,_,_]) rfl ?_)
   refine jl rfl (aV fd.Cj rfl rfl (aA ce.int rfl rfl rfl (aV fd.gu rfl rfl (aQ ag.Ring rfl rfl (vs:=[_,_]) rfl (au rfl) (jl rfl (aV fd.Cj rfl rfl (aA ce.int rfl rfl rfl ?_)))))));refine je sl.aS rfl rfl (by omega) ?_
   refine GZ ag.ay (by decide) rfl rfl (ac1 (show (a.aB.getD i default).t<(kL a.st v s (a.aB.take i)).length by omega)) (vs:=[.d (dB (iD ((kL a.st v s (a.aB.take i)).getD (a.aB.getD i default).t 0)).neg),.d (aI (iD ((kL a.st v s (a.aB.take i)).getD (a.aB.getD i default).t 0)).num),.d (aI (iD ((kL a.st v s (a.aB.take i)).getD (a.aB.getD i default).t 0)).den),.d (dI 0),.d (dB false),.d (dU 0),.d (.sl []),.d (.sl [])]) rfl (au rfl) ?_
   refine aV fd.gu rfl rfl (aQ ag.Ring rfl rfl (vs:=[_,_]) rfl (au rfl) (aj rfl (aV fd.Ff rfl rfl (aA ce.int rfl rfl rfl (fD sl.aS 0 rfl rfl (by omega) rfl rfl (iR ag.ay rfl (vs:=[_,_,_,_,_,_,_,_]) rfl (au rfl) (aV fd.qG rfl rfl ?_)))))))
   refine aQ ag.ay rfl rfl (vs:=[_,_,_,_,_,_,_,_]) rfl (au rfl) (bP rfl vL (Uo (p:=v.getD (a.aB.getD i default).f 0) (q:=(a.aB.getD i default).q) (by omega) (by omega)) (bP rfl vL (YI (p:=(kL a.st v s (a.aB.take i)).getD (a.aB.getD i default).t 0) (q:=v.getD (a.aB.getD i default).f 0*(a.aB.getD i default).q) (by omega) (by omega)) (je sl.aS rfl rfl (by omega) ?_)))
   refine J4 sz.ay rfl (d:=dW ((kL a.st v s (a.aB.take i)).getD (a.aB.getD i default).t 0+v.getD (a.aB.getD i default).f 0*(a.aB.getD i default).q)) MK rfl rfl (by rw[dL];omega) (es2:=((kL a.st v s (a.aB.take i)).set (a.aB.getD i default).t ((kL a.st v s (a.aB.take i)).getD (a.aB.getD i default).t 0+v.getD (a.aB.getD i default).f 0*(a.aB.getD i default).q)).map dW) (by rw[List.map_set]) ?_
   refine OL.nil (AW.rg hE rfl (aj rfl (aJ rfl rfl (by omega) (aG rfl (OL.nil ?_)))))
   exact AW.again (x:=i) (i+1) (by omega) ⟨by omega,Knows.app .I7 .dw,dP.app (.cons rfl .nil) (.cons (by rw[Ew (by omega),aE5 hc];rfl) .nil)⟩
  .have hc:¬ (a.aB.getD i default).l=s:=by have:=oN hc;omega
   refine OL.nil (pW rfl ?_);refine AW.skip (AW.rg hE rfl (aj rfl (aJ rfl rfl (by omega) (aG rfl (OL.nil ?_)))))
   exact AW.again (x:=i) (i+1) (by omega) ⟨by omega,Knows.app .I7 .dw,dP.app (.cons rfl .nil) (.cons (by rw[Ew (by omega),aE6 hc];rfl) .nil)⟩
 .try simp only[fG] at h19
  refine AW.exit (AW.seq ?_);obtain rfl:i=a.aB.length:=by omega
  exact AW.rg hE rfl (jl rfl (uf rfl (OL.nil (AW.ret (aT.r ⟨_,.tmp rfl .nil,RO.all rfl rfl (by rw[dL,xB]) (by rw[List.take_length])⟩)))))
theorem ak8 {a:Au}{w:List Int}(f:Au.Wt a)(hw:iy a.sym w)(hl:w.length<=4):ai P F.xI [uY a,.d (ints w)] (.oM [.d (lC (ve a w)),.d (dI 0)]):=by
 have h0:=f.ok.H8;refine ai.intro fn.xI (by rfl) (by rfl) (au (by rfl)) λE hE=>(AW.sg hE rfl (iG rfl rfl λb2=>(nI rfl (aG rfl (OL.nil (AW.seq (AW.sg hE rfl ?_)))))))
 refine aQ ag.Auto rfl rfl (vs:=[_,_,_,_,_,_,_]) rfl (au rfl) (aj rfl (bP rfl vL (aU6 f hw hl) (aG rfl (OL.nil (AW.sg hE rfl (aj rfl (fJ rfl rfl (c:=false) (by exact o6 (by omega)) ?_)))))))
 refine OL.nil (pW rfl ?_);refine AW.skip (AW.sg hE rfl (aQ ag.Auto rfl rfl (vs:=[_,_,_,_,_,_,_]) rfl (au rfl) (bP rfl vL (Ir (a:=a) f.ok f.wide f.st) (fdC fc.mg rfl rfl (aG rfl (OL.nil (AW.seq ?_)))))));refine AW.sg hE rfl (aG rfl (OL.nil (AW.block ?_)));refine AW.aX (α:=Nat) [(1,_),(2,_),(4,_),(5,_)] [(2,_)] (λi=>[(7,.d (lC (ve a (w.take i)))),(8,.d (dI i))]) (λi=>[]) (λi=>i<=w.length) (λi=>w.length-i) 0 (.cons (dA rfl) (.cons (iF rfl) (.cons (BO rfl) (.cons (dA rfl) .nil)))) (.cons (jc rfl) .nil) ⟨Nat.zero_le _,.jm,.nil⟩ ?_
 rintro i h1
 have h1:i<=w.length:=h1;have hfz:∀ j,sz ((ve a (w.take i)).getD j 0)<=2147361:=λj=>Nat.le_trans (Yv f.ok f.sz w i h1 j) (aZ7 (by omega))
 refine AW.seq (AW.sg hE rfl (aj rfl (aj rfl (fO sl.ints rfl rfl (bD rfl rfl rfl (OL.nil (AW.cond rfl (λh21=>?_) (λh21=>?_))))))))
 .try simp only[fG] at h21
  refine AW.skip (AW.seq (AW.block ?_));have hx:=hw (w.getD i 0) (getD_mem (by omega) 0)
  refine AW.dg 1 [0,1,2,3,4,5,6,7] ak hE rfl (by kernel_rfl) (OI.aP (os:=[_,_,_,_,_,_,_,_]) rfl ?_)
  refine aQ ag.Auto rfl rfl (vs:=[_,_,_,_,_,_,_]) rfl (au rfl) (aj rfl (aj rfl (aj rfl (fD sl.ints 0 rfl rfl (by omega) rfl rfl (jb ce.int rfl (bP rfl (.cons vR (.cons vR (.cons (bV.int (by omega)) .nil))) (bf9 (a:=a) (v:=ve a (w.take i)) (s:=(w.getD i 0).toNat) f (JI f.ok _) hfz) (aG rfl ?_)))))))
  refine OL.nil (AW.rg hE rfl (aj rfl (aJ rfl rfl (by omega) (aG rfl (OL.nil ?_)))))
  exact AW.again (x:=i) (i+1) (by omega) ⟨by omega,Knows.app .J5 (.cons (by rw[O9 (by omega)];exact bV.refl _) .dw),dP.app (.cons rfl .nil) (.nil)⟩
 .try simp only[fG] at h21
  refine AW.exit (AW.seq ?_);obtain rfl:i=w.length:=by omega
  exact AW.rg hE rfl (aj rfl (aG rfl (aG rfl (OL.nil (AW.ret (aT.r ⟨_,.tmp rfl (.tmp rfl .nil),_,.cons (.le (by rw[List.take_length];exact bV.refl _)) (.cons (.le vR) .nil),rfl⟩))))))
theorem bs8 {v u:List Rat}{n:Nat}(hv:v.length=n)(hu:u.length=n)(hn:n<=64)(zv:∀ i,sz (v.getD i 0)<=2147361)(zu:∀ i,sz (u.getD i 0)<=6):ai P F.Gj [jG,.d (lC v),.d (lC u)] (vW (He v u n)):=by
 refine ai.intro fn.Gj (by rfl) (by rfl) (au (by rfl)) λE hE=>(AW.sg hE rfl (iG rfl rfl λb3=>(al z.ay rfl λb6=>(OL.nil (AW.sg hE rfl (aQ ag.Ring rfl rfl (vs:=[_,_]) rfl (au rfl) (bP rfl vL (Uk) ?_)))))))
 refine al z.ay rfl λb7=>(eG sz.ay rfl rfl rfl rfl rfl (au rfl) (cells2:=[_,_,_,_,_,_,_,_]) rfl (OL.nil (AW.seq (AW.sg hE rfl (aG rfl (OL.nil (AW.block ?_)))))));refine AW.aX (α:=Nat) [(1,_),(2,_),(3,_),(6,_),(7,_)] [(3,_),(6,_)] (λi=>[(8,.d (dI i))]) (λi=>[(7,.box b7 T.ay [.d (dB (iD (He v u i)).neg),.d (aI (iD (He v u i)).num),.d (aI (iD (He v u i)).den),.d (dI 0),.d (dB false),.d (dU 0),.d (.sl []),.d (.sl [])])]) (λi=>i<=n) (λi=>n-i) 0 (.cons (dA rfl) (.cons (dA rfl) (.cons (iF rfl) (.cons (iF rfl) (.cons (iF rfl) .nil))))) (.cons (jc rfl) (.cons (jc rfl) .nil)) ⟨Nat.zero_le _,.dw,.cons rfl .nil⟩ ?_
 rintro i h1
 have h1:i<=n:=h1;have z1:=zv i;have z2:=zu i;have z3:=jS (v.getD i 0) (u.getD i 0);have z4:=aU3 (i:=i) zv zu;refine AW.seq (AW.sg hE rfl (aj rfl (aj rfl (fO sl.aS rfl rfl (bD rfl rfl rfl (OL.split 14 rfl (λha=>?_) (λha=>?_)))))))
 .have ha:i<n:=by have:=mX ha;simp at this;omega
  refine aj rfl (OL.yes rfl (aj rfl (OL.yes rfl (aj rfl (OL.yes rfl (fO sl.aS rfl rfl (OL.yes rfl ?_)))))));refine bD rfl rfl (c:=true) (decide_eq_true (by omega)) (nJ rfl rfl (OL.nil (F6 rfl ?_)))
  refine AW.skip (AW.seq (AW.block (AW.dg 1 [0,1,2,3,4,5,6,7,8,9,10,11,12,13] ak hE rfl (by kernel_rfl) (OI.aP (os:=[_,_,_,_,_,_,_,_,_,_,_,_,_,_]) rfl ?_))))
  refine aQ ag.Ring rfl rfl (vs:=[_,_]) rfl (au rfl) (aQ ag.ay rfl rfl (vs:=[_,_,_,_,_,_,_,_]) rfl (au rfl) (aQ ag.Ring rfl rfl (vs:=[_,_]) rfl (au rfl) (aj rfl (aj rfl (fD sl.aS 0 rfl rfl (by omega) rfl rfl (iR ag.ay rfl (vs:=[_,_,_,_,_,_,_,_]) rfl (au rfl) (aj rfl ?_)))))))
  refine aj rfl (fD sl.aS 0 rfl rfl (by omega) rfl rfl (iR ag.ay rfl (vs:=[_,_,_,_,_,_,_,_]) rfl (au rfl) (bP rfl vL (Uo (p:=v.getD i 0) (q:=u.getD i 0) (by omega) (by omega)) (bP rfl vL (YI (p:=(He v u i)) (q:=v.getD i 0*u.getD i 0) (by omega) (by omega)) (eG sz.ay rfl rfl rfl rfl rfl (au rfl) (cells2:=[_,_,_,_,_,_,_,_]) rfl (OL.nil (AW.rg hE rfl ?_)))))))
  exact aj rfl (aJ rfl rfl (by omega) (aG rfl (OL.nil (AW.again (x:=i) (i+1) (by omega) ⟨by omega,Knows.app .I7 .dw,dP.app (.cons rfl (.cons rfl .nil)) (.cons rfl .nil)⟩))))
 .have ha:¬ i<n:=by have:=oN ha;simp at this;omega
  obtain rfl:i=n:=by omega
  refine aj rfl (OL.nd rfl (OL.nd rfl (OL.nd rfl (OL.nd rfl (oI rfl rfl (OL.nil (pW rfl ?_)))))));refine AW.exit (AW.sg hE rfl (aQ ag.ay rfl rfl (vs:=[_,_,_,_,_,_,_,_]) rfl (au rfl) (eG sz.ay rfl rfl rfl rfl rfl (au rfl) (cells2:=[_,_,_,_,_,_,_,_]) rfl (OL.nil ?_))));exact AW.ret (aT.r ⟨_,.dK rfl rfl ag.ay (au rfl) .nil,.ag (.cons (.le vR) (.cons (.le vR) (.cons (.le vR) (.cons (.le vR) (.cons (.le vR) (.cons (.le vR) (.cons (.le vR) (.cons (.le vR) .nil))))))))⟩)
theorem WS {a:Au}{w:List Int}(f:Au.Wt a)(hw:iy a.sym w)(hl:w.length<=4):ai P F.yQ [uY a,.d (ints w)] (.oM [vW (kQ a w),.d (dI 0)]):=by
 have hfz:∀ j,sz ((ve a w).getD j 0)<=2147361:=λj=>by
   have h:=Yv f.ok f.sz w w.length (Nat.le_refl _) j;rw[List.take_length] at h;exact Nat.le_trans h (aZ7 hl)
 refine ai.intro fn.yQ (by rfl) (by rfl) (au (by rfl)) λE hE=>(AW.sg hE rfl (iG rfl rfl λb2=>(al z.ay rfl λb4=>(aG rfl (OL.nil (AW.sg hE rfl (aQ ag.Auto rfl rfl (vs:=[_,_,_,_,_,_,_]) rfl (au rfl) ?_)))))))
 refine aj rfl (bP rfl vL (ak8 f hw hl) (ES rfl (ex rfl rfl (ex rfl rfl (aG rfl (aG rfl (OL.nil ?_)))))));refine AW.seq (AW.sg hE rfl (aj rfl (fJ rfl rfl (c:=false) (by exact o6 (by omega)) (OL.nil (pW rfl ?_)))))
 refine AW.skip (AW.sg hE rfl (aV fd.gu rfl rfl (aQ ag.Ring rfl rfl (vs:=[_,_]) rfl (au rfl) (aj rfl (aV fd.o8 rfl rfl (aA ce.aS rfl rfl rfl (bP rfl vL (bs8 (v:=ve a w) (u:=a.fin) (n:=a.st) (JI f.ok w) f.ok.fin f.st hfz (λi=>GH f.sz.fin (by decide) i)) ?_)))))))
 rw[Wv f.ok hw];refine eG sz.ay rfl rfl rfl rfl rfl (au rfl) (cells2:=[_,_,_,_,_,_,_,_]) rfl (aG rfl (OL.nil ?_));exact AW.ret (aT.r ⟨_,.dK rfl rfl ag.ay (au rfl) (.tmp rfl .nil),_,.cons (.ag (.cons (.le vR) (.cons (.le vR) (.cons (.le vR) (.cons (.le vR) (.cons (.le vR) (.cons (.le vR) (.cons (.le vR) (.cons (.le vR) .nil))))))))) (.cons (.le vR) .nil),rfl⟩)
