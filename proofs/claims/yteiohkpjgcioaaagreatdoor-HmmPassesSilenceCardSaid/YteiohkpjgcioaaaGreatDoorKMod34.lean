/-
  M, chapter 34: the probabilities of beginnings and ends; posteriors; sizes.
-/
import Derived.Test.YteiohkpjgcioaaaGreatDoorKRefC
set_option linter.unusedVariables false
set_option linter.unusedSimpArgs false
namespace Go.Proofs.YteiohkpjgcioaaaGreatDoor
open Go Go.AL
theorem xP {x y:Rat}(hx:sz x<=68719476736)(hy:sz y<=68719476736):ai P F.pW [vQ x,vQ y] (vQ (x+y)):=by
 have h:=pW (x:=eU x) (y:=eU y) (qQ (by omega)) (qQ (by omega))
 rw[uM,uM] at h;exact h
theorem xQ {x y:Rat}(hx:sz x<=68719476736)(hy:sz y<=68719476736):ai P F.pV [vQ x,vQ y] (vQ (x*y)):=by
 have h:=pV (x:=eU x) (y:=eU y) (qQ (by omega)) (qQ (by omega))
 rw[uM,uM] at h;exact h
theorem lZ {x:Rat}(hx:sz x<=68719476736):ai P F.lH [vQ x] (.d (dI (yN x))):=by
 have h:=lH (x:=eU x) (qQ (by omega))
 rw[uM] at h;exact h
theorem wB {x y:Rat}(hx:sz x<=68719476736)(hy:sz y<=68719476736):ai P F.jO [vQ x,vQ y] (.d (dI (NE x y))):=by
 have h:=jO (x:=eU x) (y:=eU y) (EX hx) (EX hy);rw[uM,uM] at h;exact h
theorem Ez {x:Rat}(hx:sz x<=274877906944):ai P F.kz [vQ x] (.d (dB true)):=by
 have h:=kz (r:=eU x) (qQ hx);rw[I5] at h;exact h
theorem NV {n d:Int}(hn:-9223372036854775808<=n/\n<=9223372036854775807)(hd:-9223372036854775808<=d/\d<=9223372036854775807)(h0:d≠0) :
  ai P F.nS [.d (dI n),.d (dI d)] (.jM [vQ ((n:Rat) / (d:Rat)),.d (dI 0)]):=nS hn hd h0
theorem q11:((1:Int):Rat) / ((1:Int):Rat)=1:=by show (1:Rat) / 1=1;grind
theorem z1K:sz 1<=68719476736:=by rw[Ig];decide
theorem z0K:sz 0<=68719476736:=by rw[gJ];decide
theorem vK  : ai P F.vK [] (vQ 1):=by
 refine ai.intro fn.vK (by rfl) (by rfl) (au (by rfl)) λE hE=>(AW.sg hE rfl (al z.Rat rfl λb0=>(OL.nil (AW.sg hE rfl (aY rfl .dR (NV (n:=1) (d:=1) (by decide) (by decide) (by decide)) ?_)))))
 rw[q11];refine BN rfl (ex rfl rfl (ex rfl rfl (al z.Rat rfl λb1=>(dA sz.Rat rfl rfl rfl rfl rfl (au rfl) (cells2:=[_,_,_]) rfl (ay rfl (OL.nil (AW.sg hE rfl ?_)))))));exact aG ag.Rat rfl rfl (vs:=[_,_,_]) rfl (au rfl) (dA sz.Rat rfl rfl rfl rfl rfl (au rfl) (cells2:=[_,_,_]) rfl (OL.nil (AW.ret (aH.r ⟨_,.dD rfl rfl ag.Rat (au rfl) .nil,.ag (.cons (.le vR) (.cons (.le vR) (.cons (.le vR) .nil)))⟩))))
theorem uO {q:Rat}(hz:sz q<=68719476736):ai P F.uO [vQ q] (.d (dB (decide (sN q)))):=by
 have h1K:=z1K;refine ai.intro fn.uO (by rfl) (by rfl) (au (by rfl)) λE hE=>(AW.sg hE rfl (iC rfl rfl λb1=>(ay rfl (OL.nil (AW.seq (AW.dg 1 [0,1,2,3,4,5,6,7,8,9,10,11,12,13] aj hE rfl (by kernel_rfl) (OI.aP (os:=[_,_,_,_,_,_,_,_,_,_,_,_,_,_]) rfl ?_)))))))
 refine aG ag.Rat rfl rfl (vs:=[_,_,_]) rfl (au rfl) (aY rfl .bC (Ez (by omega)) (ah rfl (OL.yes rfl (aG ag.Rat rfl rfl (vs:=[_,_,_]) rfl (au rfl) (OL.yes rfl (aY rfl .bC (lZ (by assumption)) (OL.yes rfl ?_)))))))
 refine lG rfl rfl rfl (iV rfl rfl (ah rfl (OL.split 10 rfl (λg=>?_) (λg=>?_))))
 .have g:0<=q:=EW.1 (jC g);refine OL.yes rfl (aG ag.Rat rfl rfl (vs:=[_,_,_]) rfl (au rfl) (OL.yes rfl (aY rfl (.nil) (vK) (OL.yes rfl (aY rfl .dR (wB (by assumption) (by assumption)) (OL.yes rfl (x8 rfl rfl rfl ?_)))))))
  exact iV rfl rfl (ay rfl (OL.nil (AW.ret (aH.r ⟨_,.tmp rfl .nil,.le (aZ.bool (decide_eq_decide.2 ⟨λh=>⟨g,RQ.1 h⟩,λh=>RQ.2 h.2⟩))⟩))))
 .have g:¬ 0<=q:=λe=>kK g (EW.2 e);exact OL.nd rfl (OL.nd rfl (OL.nd rfl (OL.nd rfl (eG rfl rfl (ay rfl (OL.nil (AW.ret (aH.r ⟨_,.tmp rfl .nil,.le (aZ.bool ((decide_eq_false λh=>g h.1).symm))⟩))))))))
theorem Sv {q:Rat}(hq:sN q)(hz:sz q<=68719476736):ai P F.uO [vQ q] (.d (dB true)):=by
 have h:=uO hz;rw[decide_eq_true hq] at h;exact h
theorem qc {q:Rat}(hz:sz q<=68719476736):ai P F.qc [vQ q] (.d (dB (!decide (sN q)))):=by
 refine ai.intro fn.qc (by rfl) (by rfl) (au (by rfl)) λE hE=>(AW.sg hE rfl (iC rfl rfl λb1=>(ay rfl (OL.nil (AW.sg hE rfl (aG ag.Rat rfl rfl (vs:=[_,_,_]) rfl (au rfl) (aY rfl .bC (uO (by assumption)) ?_)))))))
 exact nt rfl (ay rfl (OL.nil (AW.ret (aH.r ⟨_,.tmp rfl .nil,.le vR⟩))))
theorem XD {l:List Rat}{f:Nat}{p:Rat->Bool}(hf:∀ q,q ∈ l->ai P f [vQ q] (.d (dB (p q))))(nl:l.length<=1099511627776):ai P F.jI [.d (o9 l),.fn f []] (.d (dI (GZ p l))):=by
 refine ai.intro fn.jI (by rfl) (by rfl) (au (by rfl)) λE hE=>(AW.sg hE rfl (ay rfl (OL.nil (AW.seq (AW.sg hE rfl (ah rfl (eH sl.aQ rfl rfl ?_)))))))
 refine ah rfl (OL.nil (AW.block ?_));refine AW.aK (α:=Nat) [(0,_),(1,_),(7,_)] [] (λi=>[(8,.d (dI i))]) (λi=>[]) (λi=>i<=l.length/\∀ j,j<i->p (l.getD j 0)=false) (λi=>l.length-i) 0 (.cons (bM rfl) (.cons (EM rfl) (.cons (bM rfl) .nil))) .nil ⟨⟨Nat.zero_le _,λj hj=>by omega⟩,.bC,.nil⟩ ?_
 rintro i ⟨h1,h2⟩
 refine AW.sg hE rfl (aN rfl rfl rfl (OL.nil (AW.seq (AW.cond rfl (λh9=>?_) (λh9=>?_)))))
 .try simp only[bY] at h9
  refine AW.skip (AW.seq (AW.block (AW.sg hE rfl (ah rfl (ay rfl (OL.nil (AW.sg hE rfl ?_)))))));refine EL rfl (ah rfl (ah rfl (bg sl.aQ 0 rfl rfl (by omega) rfl rfl (iU ag.Rat rfl (vs:=[_,_,_]) rfl (au rfl) (aY rfl .bC (hf (l.getD i 0) (getD_mem (by omega) _)) (OL.nil (AW.cond rfl (λh16=>?_) (λh16=>?_))))))))
  .have h16:=h16;exact AW.sg hE rfl (ah rfl (ay rfl (OL.nil (AW.ret (aH.r ⟨_,.tmp rfl .nil,.le (aZ.int ((wX (by omega) 0 h16 h2).symm))⟩)))))
  .have h16:=h16;refine AW.skip (AW.rg hE rfl (aB rfl rfl (by omega) (ah rfl (OL.nil ?_))))
   exact AW.again (x:=i) (i+1) (by omega) ⟨⟨by omega,λj hj=>by rcases Nat.lt_or_ge j i with h|h;exact h2 j h;obtain rfl:j=i:=(by omega);exact h16⟩,Knows.app .wL .bC,.nil⟩
 .try simp only[bY] at h9
  exact AW.exit (AW.sg hE rfl (ay rfl (OL.nil (AW.ret (aH.r ⟨_,.tmp rfl .nil,.le (aZ.int ((zk 0 λj hj=>h2 j (by omega)).symm))⟩)))))
theorem PK {l:List Rat}{f:Nat}{p:Rat->Bool}(hf:∀ q,q ∈ l->ai P f [vQ q] (.d (dB (p q))))(nl:l.length<=1099511627776):ai P F.jc [.d (o9 l),.fn f []] (.d (dB (l.any p))):=by
 refine ai.intro fn.jc (by rfl) (by rfl) (au (by rfl)) λE hE=>(AW.sg hE rfl (ay rfl (OL.nil (AW.sg hE rfl (ah rfl (EL rfl (aY rfl .dR (XD hf nl) ?_)))))))
 exact lG rfl rfl rfl (ay rfl (OL.nil (AW.ret (aH.r ⟨_,.tmp rfl .nil,.le (aZ.bool (Ja p l))⟩))))
theorem xR {l:List Rat}{B:Nat}(hs:iY l)(hz:Small B l)(hB:B<=1048576/\l.length<=1099511627776):ai P F.DT [.d (o9 l)] (.d (dB true)):=by
 refine ai.intro fn.DT (by rfl) (by rfl) (au (by rfl)) λE hE=>(AW.sg hE rfl (ay rfl (OL.nil (AW.sg hE rfl (ah rfl (aY rfl .dR (PK (f:=F.qc) (p:=λq=>!decide (sN q)) (λq hq=>qc (Nat.le_trans (hz q hq) (by omega))) hB.2) ?_))))))
 rw[any_false λx hx=>by simp[hs x hx]]
 exact nt rfl (ay rfl (OL.nil (AW.ret (aH.r ⟨_,.tmp rfl .nil,.le vR⟩))))
theorem ab6 {n:Nat}(hn:n<=1099511627776):kR P F.nJ [.mt,.d (dI n)] 0 T.Rat 3 []:=by
 refine kR.intro fn.nJ (by rfl) (by rfl) (au (by rfl)) 4 rfl λE hE=>(AW.sg hE rfl (oq rfl (OL.nil (AW.seq (AW.sg hE rfl (ah rfl (aN rfl rfl rfl ?_)))))))
 refine OL.nil (AW.cond rfl (λhno=>absurd hno (by simp)) (λ_=>?_))
 refine AW.skip (AW.seq (AW.sg hE rfl (ah rfl (mvM rfl (OL.pure (.ai5 rfl rfl sl.aQ) (mvM rfl (lnM sl.aQ rfl rfl ?_)))))));refine fC rfl rfl (by omega) (fC rfl rfl (by omega) (ay rfl (OL.nil (AW.sg hE rfl (ah rfl (iI rfl rfl rfl (OL.nil ?_)))))))
 refine AW.cond rfl (λh16=>?_) (λh16=>?_)
 .try simp only[bY] at h16
  refine AW.rg hE rfl (mvM rfl (mvM rfl (OL.pure (.ai5 rfl rfl sl.aQ) (OL.pure (v:=.mt) (.az2 rfl sl.aQ rfl ⟨.i64,rfl⟩) (ah rfl (apZ (n:=n) sl.aQ it.int rfl rfl (by show V.d (D.sc (Value.int IntKind.i64 _))=_;congr 3) (by omega) (by omega) (by omega) rfl λb c=>(mvM rfl ?_)))))))
  refine lnM sl.aQ rfl rfl (slO (h:=0) sl.aQ rfl rfl (Nat.zero_le _) (uj rfl (OL.nil (AW.sg hE rfl (fQ rfl (uj rfl (OL.nil ?_)))))));exact AW.ret ⟨.inr rfl,22,b,c,[],rfl,rfl,Nat.le_refl _,rfl⟩
 .have h16:=h16;exact AW.own 0 99 T.Rat 3 rfl rfl (AW.skip (AW.sg hE rfl (fQ rfl (uj rfl (OL.nil (AW.ret ⟨.inr rfl,99,0,0,[],rfl,rfl,Nat.le_refl _,rfl⟩))))))
theorem U2 {L:List (List Rat)}(nL:L.length<=1099511627776)(nF:L.flatten.length<=68719476736):ai P F.lF [.d (J4 L)] (.d (o9 L.flatten)):=by
 refine ai.intro fn.lF (by rfl) (by rfl) (au (by rfl)) λE hE=>(AW.sg hE rfl (oq rfl (OL.nil (AW.sg hE rfl (ay rfl (OL.nil (AW.seq ?_)))))))
 refine AW.sg hE rfl (ah rfl (eH sl.aW rfl rfl (ah rfl (OL.nil (AW.block ?_)))));refine AW.aK (α:=Nat) [(0,_),(2,_),(9,_),(10,_)] [] (λi=>[(3,.d (dI (L.take i).flatten.length)),(11,.d (dI i))]) (λi=>[]) (λi=>i<=L.length) (λi=>L.length-i) 0 (.cons (bM rfl) (.cons (zi rfl) (.cons (bM rfl) (.cons (bM rfl) .nil)))) .nil ⟨Nat.zero_le _,.dR,.nil⟩ ?_;intro i h1;refine AW.sg hE rfl (aN rfl rfl rfl (OL.nil (AW.seq (AW.cond rfl (λh12=>?_) (λh12=>?_)))))
 .try simp only[bY] at h12
  refine AW.skip (AW.seq (AW.block (AW.sg hE rfl (bg sl.aW [] rfl rfl (by omega) rfl rfl (bP ce.aQ rfl (ay rfl (OL.nil ?_)))))))
  refine AW.seq ?_;have hle:=Ew (L:=L) (i+1);rw[mG (by omega),jT] at hle
  refine AW.rg hE rfl (ah rfl (ah rfl (eH sl.aQ rfl rfl (aB rfl rfl (by omega) (ay rfl (OL.nil (AW.sg hE rfl ?_)))))))
  refine ah rfl (aN rfl rfl rfl (OL.nil (AW.cond rfl (λhno=>absurd hno (by simp;omega)) (λ_=>?_))))
  refine AW.skip (AW.rg hE rfl (aB rfl rfl (by omega) (ah rfl (OL.nil ?_))))
  exact AW.again (x:=i) (i+1) (by omega) ⟨by omega,Knows.app .CZ (.cons (aZ.int (by rw[mG (by omega),jT];omega)) .bC),.nil⟩
 .try simp only[bY] at h12
  refine AW.exit (AW.seq ?_);obtain rfl:i=L.length:=by omega
  rw[List.take_length];refine AW.rg hE rfl (ah rfl (clR rfl .dR (ab6 (n:=L.flatten.length) (by omega)) rfl λb24 c24=>(uj rfl (OL.nil (AW.seq (AW.sg hE rfl (ah rfl ?_)))))))
  refine eH sl.aW rfl rfl (ah rfl (OL.nil (AW.block (AW.rename 24 33 rfl ?_))));refine AW.aK (α:=Nat × Nat × Nat) [(2,_),(25,_),(26,_)] [] (λ(i,b,c)=>[(6,.bJ 33 b (L.take i).flatten.length c),(27,.d (dI i))]) (λ(i,b,c)=>[(33,.row b c T.Rat 3 ((L.take i).flatten.map dQ))]) (λ(i,b,c)=>i<=L.length) (λ(i,b,c)=>L.length-i) (0,b24,c24) (.cons (zi rfl) (.cons (bM rfl) (.cons (bM rfl) .nil))) .nil ⟨Nat.zero_le _,.cons (aZ.bJ) .bC,.cons rfl .nil⟩ ?_
  rintro⟨i,b,c⟩ h1
  refine AW.sg hE rfl (aN rfl rfl rfl (OL.nil (AW.seq (AW.cond rfl (λh28=>?_) (λh28=>?_)))))
  .try simp only[bY] at h28
   refine AW.skip (AW.seq (AW.block (AW.sg hE rfl (bg sl.aW [] rfl rfl (by omega) rfl rfl (bP ce.aQ rfl (ay rfl (OL.nil ?_)))))))
   have hle:=Ew (L:=L) (i+1);rw[mG (by omega),jT] at hle
   refine AW.rg hE rfl (fQ rfl (ah rfl ?_));refine yG sl.aQ rfl rfl rfl (by rw[dF]) (VC.d _) aP1 (by rw[dF];omega) (by rw[dF];omega) (.inr rfl) (ys:=((L.take i).flatten++L.getD i []).map dQ) (by rw[List.map_append]) (n2:=((L.take i).flatten++L.getD i []).length) (by rw[dF,jT]) λb2 c2=>?_
   refine uj rfl (OL.nil (AW.rg hE rfl (aB rfl rfl (by omega) (ah rfl (OL.nil ?_)))))
   exact AW.again (x:=(i,b,c)) (i+1,b2,c2) (by (simp only[];omega)) ⟨by omega,Knows.app .wL (.cons (by rw[mG (by omega)];exact aZ.refl _) .bC),.cons (by rw[mG (by omega)];rfl) .nil⟩
  .try simp only[bY] at h28
   refine AW.exit (AW.seq ?_);obtain rfl:i=L.length:=by omega
   refine AW.freeze 33 rfl (AW.to [(6,.d (o9 L.flatten))] [] (.cons (dP (by rw[dF]) (by rw[List.take_length])) .nil) .nil ?_)
   exact AW.rg hE rfl (ah rfl (ay rfl (OL.nil (AW.ret (aH.r ⟨_,.tmp rfl .nil,.le vR⟩)))))
theorem uP {l m:List Rat}{B:Nat}(hl:Small B l)(hm:Small B m)(hB:B<=1048576/\l.length+m.length<=1024):ai P F.uP [.d (o9 l),.d (o9 m)] (.d (dB (decide (iG (l++m)=1)))):=by
 have h1K:=z1K;have hlm:=hl.app hm;have hlen:(l++m).length<=1024:=by rw[jT];omega
 refine ai.intro fn.uP (by rfl) (by rfl) (au (by rfl)) λE hE=>(AW.sg hE rfl (ay rfl (OL.nil (AW.sg hE rfl (bd z.Rat pl.Rat (cs:=[_,_,_]) rfl (al z.Rat rfl λb5=>(dA sz.Rat rfl rfl rfl rfl rfl (au rfl) (cells2:=[_,_,_]) rfl ?_)))))))
 refine OL.nil (AW.seq (AW.sg hE rfl (ah rfl (ah rfl (lt2 sl.aW (VC.d _).vd (VC.d _).vd ⟨rfl,rfl⟩ (by decide) (aY rfl .bC (U2 (L:=[l,m]) (by simp) (by simp;omega)) ?_))))))
 rw[show List.flatten [l,m]=l++m by simp]
 refine eH sl.aQ rfl rfl (ah rfl (OL.nil (AW.block (AW.vC 5 (yI 0) rfl Xv ?_))));refine AW.aK (α:=Nat) [(4,_),(5,_),(12,_),(13,_)] [] (λi=>[(14,.d (dI i))]) (λi=>[(5,.box b5 T.Rat (yI (iG ((l++m).take i))))]) (λi=>i<=(l++m).length) (λi=>(l++m).length-i) 0 (.cons (bM rfl) (.cons (fG rfl) (.cons (bM rfl) (.cons (bM rfl) .nil)))) .nil ⟨Nat.zero_le _,.bC,.cons rfl .nil⟩ ?_;intro i h1;refine AW.sg hE rfl (aN rfl rfl rfl (OL.nil (AW.seq (AW.cond rfl (λh15=>?_) (λh15=>?_)))))
 .try simp only[bY] at h15
  refine AW.skip (AW.seq (AW.block (AW.sg hE rfl (bg sl.aQ 0 rfl rfl (by omega) rfl rfl (iU ag.Rat rfl (vs:=[_,_,_]) rfl (au rfl) (al z.Rat rfl λb7=>(dA sz.Rat rfl rfl rfl rfl rfl (au rfl) (cells2:=[_,_,_]) rfl ?_)))))))
  refine OL.nil ?_;have hs:=Jc (hlm.take i) (by rw[List.length_take,jT];omega) hB.1
  have hx:=(hlm.mono (Nat.le_max_left B 1)).get (Nat.le_max_right B 1) i;refine AW.rg hE rfl (aG ag.Rat rfl rfl (vs:=[_,_,_]) rfl (au rfl) (aG ag.Rat rfl rfl (vs:=[_,_,_]) rfl (au rfl) (aY rfl .dR (xP (by omega) (by omega)) (dA sz.Rat rfl rfl rfl rfl rfl (au rfl) (cells2:=[_,_,_]) rfl (OL.nil (AW.rg hE rfl (aB rfl rfl (by omega) ?_)))))))
  exact ah rfl (OL.nil (AW.again (x:=i) (i+1) (by omega) ⟨by omega,Knows.app .CZ .bC,.cons (by rw[zW (by omega)];rfl) .nil⟩))
 .try simp only[bY] at h15
  refine AW.exit (AW.seq ?_);obtain rfl:i=(l++m).length:=by omega
  rw[List.take_length];have hs:=Jc hlm (by rw[jT];omega) hB.1
  refine AW.dg 1 [0,1,2,3,4] aj hE rfl (by kernel_rfl) (OI.aP (os:=[_,_,_,_,_]) rfl ?_)
  exact aG ag.Rat rfl rfl (vs:=[_,_,_]) rfl (au rfl) (aY rfl (.nil) (vK) (aY rfl .dR (wB (by omega) (by assumption)) (dm rfl rfl rfl (ay rfl (OL.nil (AW.ret (aH.r ⟨_,.tmp rfl .nil,.le (aZ.bool (decide_eq_decide.2 yO))⟩)))))))
theorem lJ {h:HM}{B:Nat}(g:h.am6 B){i b1 b5 b6 b4:Nat}(hi:i<h.st):fV P F.lJ [.d (dI i),.ptr 1 b1 0,.ptr 5 b5 0,.ptr 6 b6 0,.ptr 4 b4 0] (mem1 1 (.box b1 T.aU (yQ h))) (.d (dB true)) (mem1 1 (.box b1 T.aU (yQ h))):=by
 have f:=g.form;have e1:=f.ini;have e2:=f.trans;have e3:=f.stop;have e4:=f.emit;have e5:=f.ties;have e6:=f.yJ;have s0:=f.qR;have s1:=f.sZ;have n0:=f.st0;have n1:=f.st1;have bB:=f.bB;refine fV.intro fn.lJ (by rfl) (by rfl) (au (by rfl)) λE hE=>(AW.sg hE rfl (ay rfl (OL.nil (AW.seq (AW.sg hE rfl (aF fd.bZ rfl rfl (ak ce.bools rfl rfl rfl ?_)))))))
 refine ah rfl (bg sl.bools false rfl rfl (by omega) rfl rfl (bP ce.bool rfl ?_))
 rw[f.sil i];refine nt rfl (ah rfl (OL.nd rfl (OL.nd rfl (OL.nd rfl (OL.nd rfl (OL.nd rfl (iV rfl rfl ?_)))))));refine OL.nil (Hl rfl ?_);refine AW.sg hE rfl (aF fd.bZ rfl rfl (ak ce.bools rfl rfl rfl (ah rfl (bg sl.bools false rfl rfl (by omega) rfl rfl (bP ce.bool rfl ?_)))))
 rw[f.sil i];refine nt rfl (ah rfl (OL.nd rfl (OL.nd rfl (OL.nd rfl (OL.nd rfl (OL.nd rfl (iV rfl rfl ?_)))))));exact ay rfl (OL.nil (AW.ret ⟨⟨_,.tmp rfl .nil,.le vR⟩,λid blk hk=>hk⟩))
theorem rq {x y:Rat}(hx:sz x<=68719476736)(hy:sz y<=68719476736):ai P F.rq [vQ x,vQ y] (.d (dB (decide (x=y)))):=by
 refine ai.intro fn.rq (by rfl) (by rfl) (au (by rfl)) λE hE=>(AW.sg hE rfl (iC rfl rfl λb2=>(iC rfl rfl λb3=>(ay rfl (OL.nil (AW.sg hE rfl (aG ag.Rat rfl rfl (vs:=[_,_,_]) rfl (au rfl) ?_)))))))
 exact aG ag.Rat rfl rfl (vs:=[_,_,_]) rfl (au rfl) (aY rfl .dR (wB (by assumption) (by assumption)) (dm rfl rfl rfl (ay rfl (OL.nil (AW.ret (aH.r ⟨_,.tmp rfl .nil,.le (aZ.bool (decide_eq_decide.2 yO))⟩))))))
theorem NW {l m:List Rat}{f:Nat}{p:Rat->Rat->Bool}(hf:∀ x y,x ∈ l->y ∈ m->ai P f [vQ x,vQ y] (.d (dB (p x y))))(hp:∀ x y,p x y=true ↔ x=y)(nl:l.length<=1099511627776)(nm:m.length<=1099511627776):ai P F.gq [.d (o9 l),.d (o9 m),.fn f []] (.d (dB (decide (l=m)))):=by
 refine ai.intro fn.gq (by rfl) (by rfl) (au (by rfl)) λE hE=>(AW.sg hE rfl (ay rfl (OL.nil (AW.seq (AW.sg hE rfl (ah rfl (eH sl.aQ rfl rfl ?_)))))))
 refine ah rfl (eH sl.aQ rfl rfl (bU rfl rfl rfl (OL.nil (AW.cond rfl (λAO=>?_) (λAO=>?_)))))
 .have hl:l.length≠m.length:=λe=>by rw[e] at AO;simp at AO
  exact AW.sg hE rfl (ay rfl (OL.nil (AW.ret (aH.r ⟨_,.tmp rfl .nil,.le (aZ.bool ((decide_eq_false λe=>hl (by rw[e])).symm))⟩))))
 .have hl:l.length=m.length:=by simp at AO;omega
  refine AW.skip (AW.seq (AW.sg hE rfl (ah rfl (eH sl.aQ rfl rfl (ah rfl (OL.nil (AW.block ?_)))))));refine AW.aK (α:=Nat) [(1,_),(2,_),(15,_),(16,_)] [] (λi=>[(17,.d (dI i))]) (λi=>[]) (λi=>i<=l.length/\∀ j,j<i->l.getD j 0=m.getD j 0) (λi=>l.length-i) 0 (.cons (bM rfl) (.cons (EM rfl) (.cons (bM rfl) (.cons (bM rfl) .nil)))) .nil ⟨⟨Nat.zero_le _,λj hj=>by omega⟩,.bC,.nil⟩ ?_
  rintro i ⟨h1,h2⟩
  refine AW.sg hE rfl (aN rfl rfl rfl (OL.nil (AW.seq (AW.cond rfl (λh18=>?_) (λh18=>?_)))))
  .try simp only[bY] at h18
   refine AW.skip (AW.seq (AW.block (AW.sg hE rfl (ah rfl (bg sl.aQ 0 rfl rfl (by omega) rfl rfl (iU ag.Rat rfl (vs:=[_,_,_]) rfl (au rfl) (al z.Rat rfl λb8=>?_)))))))
   refine ay rfl (dA sz.Rat rfl rfl rfl rfl rfl (au rfl) (cells2:=[_,_,_]) rfl (OL.nil (AW.sg hE rfl (ah rfl (ah rfl (bg sl.aQ 0 rfl rfl (by omega) rfl rfl (iU ag.Rat rfl (vs:=[_,_,_]) rfl (au rfl) ?_)))))))
   refine al z.Rat rfl λb9=>(dA sz.Rat rfl rfl rfl rfl rfl (au rfl) (cells2:=[_,_,_]) rfl (OL.nil (AW.sg hE rfl (EL rfl (aG ag.Rat rfl rfl (vs:=[_,_,_]) rfl (au rfl) (aG ag.Rat rfl rfl (vs:=[_,_,_]) rfl (au rfl) (aY rfl .dR (hf (l.getD i 0) (m.getD i 0) (getD_mem (by omega) _) (getD_mem (by omega) _)) ?_)))))))
   refine nt rfl (OL.nil (AW.cond rfl (λh30=>?_) (λh30=>?_)))
   .have h30:=h30;exact AW.sg hE rfl (ay rfl (OL.nil (AW.ret (aH.r ⟨_,.tmp rfl .nil,.le (aZ.bool ((decide_eq_false λe=>by rw[e,(hp _ _).2 rfl] at h30;cases h30).symm))⟩))))
   .have h30:=h30;refine AW.skip (AW.rg hE rfl (aB rfl rfl (by omega) (ah rfl (OL.nil ?_))))
    exact AW.again (x:=i) (i+1) (by omega) ⟨⟨by omega,λj hj=>by rcases Nat.lt_or_ge j i with h|h;exact h2 j h;obtain rfl:j=i:=(by omega);exact (hp _ _).1 (by simpa using h30)⟩,Knows.app .CZ .bC,.nil⟩
  .try simp only[bY] at h18
   exact AW.exit (AW.sg hE rfl (ay rfl (OL.nil (AW.ret (aH.r ⟨_,.tmp rfl .nil,.le (aZ.bool ((decide_eq_true (iK hl 0 λj hj=>h2 j (by omega))).symm))⟩)))))
theorem zA {l m:List Rat}{B:Nat}(hl:Small B l)(hm:Small B m)(hB:B<=1048576)(nl:l.length<=1099511627776)(nm:m.length<=1099511627776):ai P F.zA [.d (o9 l),.d (o9 m)] (.d (dB (decide (l=m)))):=by
 refine ai.intro fn.zA (by rfl) (by rfl) (au (by rfl)) λE hE=>(AW.sg hE rfl (ay rfl (OL.nil (AW.sg hE rfl (ah rfl (ah rfl ?_))))))
 refine aY rfl .wL (NW (f:=F.rq) (p:=λx y=>decide (x=y)) (λx y hx hy=>rq (Nat.le_trans (hl x hx) (by omega)) (Nat.le_trans (hm y hy) (by omega))) (λx y=>decide_eq_true_iff) nl nm) ?_
 exact ay rfl (OL.nil (AW.ret (aH.r ⟨_,.tmp rfl .nil,.le vR⟩)))
theorem PL {l:List Bool}{x:Bool}(nl:l.length<=1099511627776):ai P F.kP [.d (bools l),.d (dB x)] (.d (dI (GZ (λy=>x == y) l))):=by
 refine ai.intro fn.kP (by rfl) (by rfl) (au (by rfl)) λE hE=>(AW.sg hE rfl (ay rfl (OL.nil (AW.seq (AW.sg hE rfl (ah rfl (eH sl.bools rfl rfl ?_)))))))
 refine ah rfl (OL.nil (AW.block ?_));refine AW.aK (α:=Nat) [(0,_),(1,_),(7,_)] [] (λi=>[(8,.d (dI i))]) (λi=>[]) (λi=>i<=l.length/\∀ j,j<i->(x == l.getD j false)=false) (λi=>l.length-i) 0 (.cons (bM rfl) (.cons (bM rfl) (.cons (bM rfl) .nil))) .nil ⟨⟨Nat.zero_le _,λj hj=>by omega⟩,.bC,.nil⟩ ?_
 rintro i ⟨h1,h2⟩
 refine AW.sg hE rfl (aN rfl rfl rfl (OL.nil (AW.seq (AW.cond rfl (λh9=>?_) (λh9=>?_)))))
 .try simp only[bY] at h9
  refine AW.skip (AW.seq (AW.block (AW.sg hE rfl (ah rfl (ay rfl (OL.nil (AW.sg hE rfl ?_)))))));refine ah rfl (ah rfl (ah rfl (bg sl.bools false rfl rfl (by omega) rfl rfl (bP ce.bool rfl (eqb bt.bool rfl rfl (OL.nil (AW.cond rfl (λh16=>?_) (λh16=>?_))))))))
  .have h16:=h16;exact AW.sg hE rfl (ah rfl (ay rfl (OL.nil (AW.ret (aH.r ⟨_,.tmp rfl .nil,.le (aZ.int ((wX (p:=λy=>x == y) (by omega) false h16 h2).symm))⟩)))))
  .have h16:=h16;refine AW.skip (AW.rg hE rfl (aB rfl rfl (by omega) (ah rfl (OL.nil ?_))))
   exact AW.again (x:=i) (i+1) (by omega) ⟨⟨by omega,λj hj=>by rcases Nat.lt_or_ge j i with h|h;exact h2 j h;obtain rfl:j=i:=(by omega);exact h16⟩,Knows.app .wL .bC,.nil⟩
 .try simp only[bY] at h9
  exact AW.exit (AW.sg hE rfl (ay rfl (OL.nil (AW.ret (aH.r ⟨_,.tmp rfl .nil,.le (aZ.int ((zk (p:=λy=>x == y) false λj hj=>h2 j (by omega)).symm))⟩)))))
theorem J8 {l:List Bool}{x:Bool}(nl:l.length<=1099511627776):ai P F.jy [.d (bools l),.d (dB x)] (.d (dB (l.any λy=>x == y))):=by
 refine ai.intro fn.jy (by rfl) (by rfl) (au (by rfl)) λE hE=>(AW.sg hE rfl (ay rfl (OL.nil (AW.sg hE rfl (ah rfl (ah rfl (aY rfl .dR (PL nl) ?_)))))))
 exact lG rfl rfl rfl (ay rfl (OL.nil (AW.ret (aH.r ⟨_,.tmp rfl .nil,.le (aZ.bool (Ja _ l))⟩))))
end Go.Proofs.YteiohkpjgcioaaaGreatDoor
namespace Go.AL
open Go Go.BigFrame
def a05 (h:HM)(fr:Int)(i:Nat):Rat:=if 0<=fr then (h.trans.getD fr.toNat []).getD i 0 else h.ini.getD i 0
def ao3 (h:HM)(fr:Int)(x:Nat)(rest:List Rat)(i:Nat):Rat:=a05 h fr i*(h.emit.getD i []).getD x 0*rest.getD i 0
def SA (h:HM)(fr:Int)(x:Nat)(rest:List Rat):Nat->Rat × Nat
 | 0=>(0,0)
 | i+1=>if (SA h fr x rest i).1<ao3 h fr x rest i then (ao3 h fr x rest i,i) else SA h fr x rest i
def BI (w:List Int)(t:Nat):Nat:=(w.getD t 0).toNat-1
def J9 (h:HM)(w:List Int):Prop:=w.length<=256/\∀ x,x ∈ w->1<=x/\x<=h.sym
theorem J9.get {h:HM}{w:List Int}(k:J9 h w){t:Nat}(ht:t<w.length):1<=w.getD t 0/\w.getD t 0<=h.sym:=k.2 _ (getD_mem ht 0)
theorem J9.BI {h:HM}{w:List Int}(k:J9 h w){t:Nat}(ht:t<w.length):Go.AL.BI w t<h.sym/\w.getD t 0=((Go.AL.BI w t+1:Nat):Int):=by
 have:=k.get ht;unfold Go.AL.BI;omega
theorem dM {α:Type}{n k:Nat}(f:Nat->α)(d:α)(hk:k<n):((List.range n).map f).getD k d=f k:=by
 rw[iZ,List.getElem?_map,List.getElem?_range hk];rfl
def tX {α:Type}(d:α)(g:Nat->α)(n i:Nat):List α:=(List.range n).map λj=>if j<i then g j else d
theorem uS {α:Type}(d:α)(g:Nat->α)(n i:Nat):(tX d g n i).length=n:=by simp[tX]
theorem D8 {α:Type}(d:α)(g:Nat->α)(n:Nat):tX d g n 0=List.replicate n d:=by
 refine List.ext_getElem (by simp[tX]) λk h1 h2=>?_
 simp[tX]
theorem Gm {α:Type}{d:α}{g:Nat->α}{n i:Nat}(hi:i<n):(tX d g n i).set i (g i)=tX d g n (i+1):=by
 refine List.ext_getElem (by simp[tX]) λk h1 h2=>?_
 rw[List.getElem_set];simp only[tX,List.getElem_map,List.getElem_range];by_cases he:i=k
 .subst he;rw[if_pos rfl,if_pos (by omega)]
 .rw[if_neg he];by_cases h3:k<i
  .rw[if_pos h3,if_pos (by omega)]
  .rw[if_neg h3,if_neg (by omega)]
theorem Gn {α:Type}(d:α)(g:Nat->α)(n:Nat):tX d g n n=(List.range n).map g:=by
 refine List.map_congr_left λj hj=>?_;rw[if_pos (List.mem_range.1 hj)]
end Go.AL
namespace Go.Proofs.YteiohkpjgcioaaaGreatDoor
open Go Go.AL
theorem rf {h:HM}{w:List Int}(k:J9 h w)(hs:1<=h.sym/\h.sym<=32):ai P F.rf [.d (ints w),.d (dI h.sym)] (.d (dB true)):=by
 have k1:=k.1;refine ai.intro fn.rf (by rfl) (by rfl) (au (by rfl)) λE hE=>(AW.sg hE rfl (ay rfl (OL.nil (AW.seq (AW.sg hE rfl (ah rfl (eH sl.ints rfl rfl ?_)))))))
 refine ah rfl (OL.nil (AW.block ?_));refine AW.aK (α:=Nat) [(0,_),(1,_),(7,_),(8,_)] [] (λi=>[(9,.d (dI i))]) (λi=>[]) (λi=>i<=w.length) (λi=>w.length-i) 0 (.cons (bM rfl) (.cons (bM rfl) (.cons (bM rfl) (.cons (bM rfl) .nil)))) .nil ⟨Nat.zero_le _,.bC,.nil⟩ ?_;intro i h1;refine AW.sg hE rfl (aN rfl rfl rfl (OL.nil (AW.seq (AW.cond rfl (λh10=>?_) (λh10=>?_)))))
 .try simp only[bY] at h10
  refine AW.skip (AW.seq (AW.block (AW.sg hE rfl (bg sl.ints 0 rfl rfl (by omega) rfl rfl (bP ce.int rfl (ay rfl (OL.nil ?_)))))))
  refine AW.seq ?_;have kg:=k.get (t:=i) (by omega)
  refine AW.rg hE rfl (ah rfl (aN rfl rfl (c:=false) (by exact decide_eq_false (by omega)) (ah rfl (OL.yes rfl (ah rfl (OL.yes rfl (ah rfl ?_)))))))
  refine OL.yes rfl (iI rfl rfl (c:=false) (by exact decide_eq_false (by omega)) (eG rfl rfl (OL.nil (jD rfl ?_))))
  exact AW.skip (AW.rg hE rfl (aB rfl rfl (by omega) (ah rfl (OL.nil (AW.again (x:=i) (i+1) (by omega) ⟨by omega,Knows.app .CZ .bC,.nil⟩)))))
 .try simp only[bY] at h10
  refine AW.exit (AW.sg hE rfl (ah rfl (lG rfl rfl (c:=true) (by exact decide_eq_true (by omega)) (ah rfl (OL.yes rfl (ah rfl (OL.yes rfl ?_)))))))
  refine x8 rfl rfl (c:=true) (by exact decide_eq_true (by omega)) (iV rfl rfl (ah rfl (OL.yes rfl (ah rfl (OL.yes rfl (eH sl.ints rfl rfl (OL.yes rfl ?_)))))))
  exact x8 rfl rfl (c:=true) (by exact decide_eq_true (by omega)) (iV rfl rfl (ay rfl (OL.nil (AW.ret (aH.r ⟨_,.tmp rfl .nil,.le vR⟩)))))
theorem qB {q:Rat}(hz:sz q<=68719476736):ai P F.qB [vQ q] (vQ q):=by
 have s1:=oK q;have s2:=oL q;have l1:(eU q).num.length<=8796093022208:=by rw[show (eU q).num=lim q.num.natAbs from rfl];omega
 have l2:(eU q).den.length<=8796093022208:=by by_cases e:q.den=1 <;> simp[eU,e];omega
 refine ai.intro fn.qB (by rfl) (by rfl) (au (by rfl)) λE hE=>(AW.sg hE rfl (iC rfl rfl λb1=>(al z.Rat rfl λb2=>(OL.nil (AW.seq (AW.dg 1 [0,1,2,3,4,5,6,7,8,9] aj hE rfl (by kernel_rfl) (OI.aP (os:=[_,_,_,_,_,_,_,_,_,_]) rfl ?_)))))))
 refine aF fd.tV rfl rfl (ak ce.bool rfl rfl rfl (aF fd.sO rfl rfl (ak ce.aC rfl rfl rfl (aY rfl .bC (NU l1) (aF fd.nZ rfl rfl (ak ce.aC rfl rfl rfl (aY rfl .bC (NU l2) ?_)))))));exact WL (cs:=[_,_,_]) z.Rat pl.Rat (qA (by exact AX rfl) (qA (by exact AX rfl) (qA (by exact AX rfl) (WJ)))) (by rfl) (dA sz.Rat rfl rfl rfl rfl rfl (au rfl) (cells2:=[_,_,_]) rfl (OL.nil (AW.ret (aH.r ⟨_,.dD rfl rfl ag.Rat (au rfl) .nil,.ag (.cons (.le vR) (.cons (.le vR) (.cons (.le vR) .nil)))⟩))))
end Go.Proofs.YteiohkpjgcioaaaGreatDoor
namespace Go.AL
open Go Go.BigFrame
def dw (f:Nat->Rat):Nat->Rat
 | 0=>0
 | n+1=>dw f n+f n
def Hw (h:HM)(i j:Nat):Rat:=(h.trans.getD i []).getD j 0
def EN (h:HM)(i x:Nat):Rat:=(h.emit.getD i []).getD x 0
def ab7 (h:HM)(w:List Int)(prev:List Rat)(t j:Nat):Nat->Rat:=dw λi=>prev.getD i 0*Hw h i j
def yw (h:HM)(w:List Int):Nat->List Rat
 | 0=>(List.range h.st).map λj=>h.ini.getD j 0*EN h j (BI w 0)
 | t+1=>(List.range h.st).map λj=>ab7 h w (yw h w t) t j h.st*EN h j (BI w (t+1))
def bi6 (h:HM)(w:List Int)(next:List Rat)(t i:Nat):Nat->Rat:=dw λj=>Hw h i j*(EN h j (BI w (t+1))*next.getD j 0)
def aP9 (h:HM)(w:List Int):Nat->List Rat
 | 0=>(List.range h.st).map λi=>h.stop.getD i 0
 | d+1=>(List.range h.st).map λi=>bi6 h w (aP9 h w d) (w.length-1-(d+1)) i h.st
def ao4 (h:HM)(row:List Rat):Nat->Rat:=dw λi=>row.getD i 0*h.stop.getD i 0
def BJ (h:HM)(w:List Int):Rat:=if w.length=0 then h.empty else ao4 h (yw h w (w.length-1)) h.st
def NY (h:HM)(w:List Int)(t i:Nat):Rat:=(yw h w t).getD i 0*(aP9 h w (w.length-1-t)).getD i 0 / BJ h w
def NZ (h:HM)(w:List Int)(t:Nat):List Rat:=(List.range h.st).map λi=>NY h w t i
theorem Y0 {C:Nat}{f:Nat->Rat}(hf:∀ i,sz (f i)<=C):∀ n,sz (dw f n)<=1+n*(C+1)
 | 0=>by show sz 0<=_;rw[gJ];omega
 | n+1=>by
  rw[dw,Nat.add_mul];have h1:=Y0 hf n;have h2:=vz (dw f n) (f n);have h3:=hf n;omega
theorem U3 {C n:Nat}{f:Nat->Rat}(hf:∀ i,sz (f i)<=C)(hn:n<=4):sz (dw f n)<=1+4*(C+1):=by
 have h1:=Y0 hf n;have h2:n*(C+1)<=4*(C+1):=Nat.mul_le_mul_right _ hn;omega
theorem aQ0 (x y:Rat):sz (x / y)<=sz x+sz y:=by
 by_cases h0:y=0
 .rw[h0,Rat.div_def,Rat.inv_zero,Rat.mul_zero,gJ];have:=gJ;omega
 .have hy:y.num.natAbs≠0:=by
   intro e;have:y.num=0:=by omega
   exact h0 (Rat.num_eq_zero.1 this)
  have hx:=qP x;have hyq:=qP y;have hd:=aO5 (s:=decide (x.num<0)) (t:=decide (y.num<0)) (a:=x.num.natAbs) (b:=y.num.natAbs) (d1:=x.den) (d2:=y.den) x.den_nz y.den_nz hy;rw[hx,hyq] at hd;rw[hd];have l1:=ja x.num.natAbs y.den;have l2:=ja x.den y.num.natAbs;have a1:=oK x;have a2:=oL x;have a3:=oK y;have a4:=oL y;exact YJ (Nat.mul_ne_zero x.den_nz hy) (by omega) (by omega)
structure Few (h:HM) (w:List Int):Prop where
 st:h.st<=4
 len:w.length<=6
def FC:Nat->Nat
 | 0=>2048
 | t+1=>4*(FC t+1026)+1026
theorem a06 {t:Nat}(ht:t<=5):1<=FC t/\FC t<=4000000:=by
 have:t=0 \/ t=1 \/ t=2 \/ t=3 \/ t=4 \/ t=5:=by omega
 rcases this with rfl|rfl|rfl|rfl|rfl|rfl <;> decide
theorem a07 {h:HM}{B:Nat}(f:h.Form B)(i j:Nat):sz (Hw h i j)<=1024:=Nat.le_trans ((f.zT i).get f.b1 j) f.bB
theorem aL0 {h:HM}{B:Nat}(f:h.Form B)(i x:Nat):sz (EN h i x)<=1024:=Nat.le_trans ((f.zM i).get f.b1 x) f.bB
theorem aD9 {h:HM}{B:Nat}(f:h.Form B)(i:Nat):sz (h.stop.getD i 0)<=1024:=Nat.le_trans (f.zS.get f.b1 i) f.bB
theorem aQ1 {h:HM}{B:Nat}(f:h.Form B)(i:Nat):sz (h.ini.getD i 0)<=1024:=Nat.le_trans (f.zI.get f.b1 i) f.bB
theorem aQ2 {h:HM}{B C n:Nat}(f:h.Form B){prev:List Rat}(hp:Small C prev)(hC:1<=C)(hn:n<=4)(w:List Int)(t j:Nat):sz (ab7 h w prev t j n)<=1+4*(C+1024+1):=U3 (λi=>by
  have h1:=jZ (prev.getD i 0) (Hw h i j);have h2:=a07 f i j;have h3:=hp.get hC i;omega) hn
theorem Qu {h:HM}{B:Nat}(f:h.Form B)(hs:h.st<=4)(w:List Int):∀ t,Small (FC t) (yw h w t)
 | 0=>λq hq=>by
  obtain⟨j,_,rfl⟩:=Az hq;have h1:=jZ (h.ini.getD j 0) (EN h j (BI w 0));have h2:=aQ1 f j;have h3:=aL0 f j (BI w 0);show _<=2048
  omega
 | t+1=>λq hq=>by
  obtain⟨j,_,rfl⟩:=Az hq;have hC:1<=FC t:=by cases t <;> simp only[FC] <;> omega
  have h1:=jZ (ab7 h w (yw h w t) t j h.st) (EN h j (BI w (t+1)));have h2:=aQ2 f (Qu f hs w t) hC hs w t j;have h3:=aL0 f j (BI w (t+1));show _<=4*(FC t+1026)+1026
  omega
theorem SB {h:HM}{B:Nat}(f:h.Form B){w:List Int}(k:Few h w){t:Nat}(ht:t<w.length):Small 4000000 (yw h w t):=(Qu f k.st w t).mono (a06 (by have:=k.len;omega)).2
theorem aE0 {h:HM}{B n:Nat}(f:h.Form B){row:List Rat}(hr:Small 4000000 row)(hn:n<=4):sz (ao4 h row n)<=16010000:=by
 have:sz (ao4 h row n)<=1+4*(4001024+1):=U3 (λi=>by
  have h1:=jZ (row.getD i 0) (h.stop.getD i 0);have h2:=aD9 f i;have h3:=hr.get (by decide) i
  omega) hn
 omega
theorem aQ3 {h:HM}{B:Nat}(f:h.Form B){w:List Int}(k:Few h w):sz (BJ h w)<=16010000:=by
 unfold BJ
 split
 .have:=f.zE;have:=f.bB;omega
 .exact aE0 f (SB f k (by omega)) k.st
structure bq3 (h:HM) (w:List Int):Prop where
 empty:sz h.empty<=68719476736
 ini:∀ i,sz (h.ini.getD i 0)<=68719476736
 em:∀ i x,sz (EN h i x)<=68719476736
 tr:∀ i j,sz (Hw h i j)<=68719476736
 stop:∀ i,sz (h.stop.getD i 0)<=68719476736
 fwd:∀ t,t<w.length->∀ i,sz ((yw h w t).getD i 0)<=68719476736
 pre:∀ t j n,t<w.length->n<=h.st->sz (ab7 h w (yw h w t) t j n)<=68719476736
 bu9:∀ t i j,t<w.length->sz ((yw h w t).getD i 0*Hw h i j)<=68719476736
 lik:∀ t n,t<w.length->n<=h.st->sz (ao4 h (yw h w t) n)<=68719476736
 bv0:∀ t i,t<w.length->sz ((yw h w t).getD i 0*h.stop.getD i 0)<=68719476736
def aL2 (h:HM)(w:List Int):List (List Rat):=if BJ h w=0 then [] else (List.range w.length).map (NZ h w)
