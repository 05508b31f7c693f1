/-
  Walks of package passive, part 1: words, samples, blocks, ranks (printed by mk2.py).
-/
import Derived.Test.YtnjoncgnjdkaoaaGreatDoorKPvA
import Derived.Test.YtnjoncgnjdkaoaaGreatDoorKMod132
set_option linter.unusedVariables false
set_option linter.unusedSimpArgs false
namespace Go.Proofs.YtnjoncgnjdkaoaaGreatDoor
open Go Go.AL
theorem qI {L:List (List Int)}{i:Nat}(hi:i<L.length):(L.take (i+1)).flatten=(L.take i).flatten++L.getD i []:=by
 rw[List.take_succ_eq_append_getElem hi,List.flatten_append,gI,kL hi];simp
theorem Ig {L:List (List Int)}(i:Nat):(L.take i).flatten.length<=L.flatten.length:=by
 have h:L.flatten=(L.take i).flatten++(L.drop i).flatten:=by rw[<- List.flatten_append,List.take_append_drop]
 rw[h,iU];exact Nat.le_add_right ..
abbrev bh4 (L:List (List Int)):D:=.sl (L.map ints)
theorem aO7 {v w:List Int}:orL [Ea (v.length:Int) (w.length:Int),cmpL v w]=mY v w:=by
 unfold mY Ea;rcases Nat.lt_trichotomy v.length w.length with h|h|h
 .rw[if_pos (by omega),if_pos (by omega),if_pos h];rfl
 .rw[if_neg (by omega),if_neg (by omega),if_neg (by omega)]
  show (if (0:Int)=0 then (if cmpL v w=0 then 0 else cmpL v w) else 0)=_
  rw[if_pos rfl]
  split
  .rename_i e;exact e.symm
  .rfl
 .rw[if_neg (by omega),if_pos (by omega),if_pos (by omega),if_neg (by omega)];rfl
theorem ZC {l:List (List Int)}:∀ y,y ∈ l.map ints->y.cells.length=1:=λy hy=>by obtain⟨a,_,rfl⟩:=jY hy;rfl
abbrev tZ (l:List (List Int)):D:=.sl (l.map ints)
abbrev Ru (s n:Nat)(F:List (List Int))(vs:List Rat):V:=.ag [.d (dI s),.d (dI n),.d (tZ F),.d (iG vs)]
theorem WM {f:List Int->Rat}{C:List (List Int)}{u:List Int}{i:Nat}(hi:i<C.length):(bU f C u).take (i+1)=(bU f C u).take i++[f (u++C.getD i [])]:=by
 rw[oZ 0 (by rw[show (bU f C u).length=C.length from dD ..];exact hi),uy hi]
theorem Rw {l m:List Int}(nl:l.length<=1099511627776):aj P F.jO [.d (ints l),.d (ints m)] (.d (dI (cmpL l m))):=by
 refine aj.intro fn.jO (by rfl) (by rfl) (aA (by rfl)) λE hE=>(AW.sg hE rfl (aC rfl (OL.nil (AW.seq (AW.sg hE rfl (ai rfl (fJ sl.ints rfl rfl ?_)))))))
 refine ai rfl (OL.nil (AW.block ?_));refine AW.aU (α:=Nat) [(0,_),(1,_),(9,_),(10,_)] [] (λi=>[(11,.d (dI i))]) (λi=>[]) (λi=>i<=l.length/\i<=m.length/\cmpL l m=cmpL (l.drop i) (m.drop i)) (λi=>l.length-i) 0 (.cons (bY rfl) (.cons (bY rfl) (.cons (bY rfl) (.cons (bY rfl) .nil)))) .nil ⟨⟨Nat.zero_le _,Nat.zero_le _,rfl⟩,.di,.nil⟩ ?_
 rintro i ⟨h1,h2,h3⟩
 have h1:i<=l.length:=h1;have h2:i<=m.length:=h2;have h3:cmpL l m=cmpL (l.drop i) (m.drop i):=h3;refine AW.sg hE rfl (aX rfl rfl rfl (OL.nil (AW.seq (AW.cond rfl (λh12=>?_) (λh12=>?_)))))
 .try simp only[eG] at h12
  refine AW.skip (AW.seq (AW.block (AW.sg hE rfl (ai rfl (fM sl.ints 0 rfl rfl (by omega) rfl rfl (iE ce.int rfl (aC rfl ?_)))))))
  refine aC rfl (OL.nil (AW.seq (AW.sg hE rfl (ai rfl (ai rfl (fJ sl.ints rfl rfl (ql rfl rfl rfl ?_)))))));refine OL.nil (AW.cond rfl (λhm=>?_) (λhm=>?_))
  .have hm:m.length<=i:=by have:=kK hm;omega
   exact AW.sg hE rfl (aC rfl (OL.nil (AW.ret (aO.r ⟨_,.tmp rfl .nil,.le (bG.int (by rw[h3,List.drop_eq_nil_of_le hm,List.drop_eq_getElem_cons (show i<l.length by omega),cmpL]))⟩))))
  .have hm:i<m.length:=by have:=lD hm;omega
   refine AW.skip (AW.sg hE rfl (ai rfl (ai rfl (fM sl.ints 0 rfl rfl (by omega) rfl rfl (iE ce.int rfl (aC rfl (OL.nil ?_)))))))
   refine AW.sg hE rfl (ai rfl (ai rfl (bF rfl vL (cmp_Compare_int) (aC rfl (OL.nil (AW.sg hE rfl (ai rfl ?_)))))));refine fC rfl rfl rfl (OL.nil (AW.cond rfl (λhc=>?_) (λhc=>?_)))
   .have hc:=DC hc;exact AW.sg hE rfl (ai rfl (aC rfl (OL.nil (AW.ret (aO.r ⟨_,.tmp rfl .nil,.le (bG.int (by rw[h3,BA (by omega) hm,if_neg hc]))⟩)))))
   .have hc:=BV hc;exact AW.skip (AW.rg hE rfl (aH rfl rfl (by omega) (ai rfl (OL.nil (AW.again (x:=i) (i+1) (by omega) ⟨⟨by omega,by omega,by rw[h3,BA (by omega) (by omega),if_pos hc]⟩,Knows.app .GL .di,.nil⟩)))))
 .try simp only[eG] at h12
  refine AW.exit (AW.seq (AW.sg hE rfl (ai rfl (fJ sl.ints rfl rfl (ai rfl (fJ sl.ints rfl rfl (aX rfl rfl rfl ?_)))))));refine OL.nil (AW.cond rfl (λhl=>?_) (λhl=>?_))
  .have hl:l.length<m.length:=by have:=kK hl;omega
   exact AW.sg hE rfl (aC rfl (OL.nil (AW.ret (aO.r ⟨_,.tmp rfl .nil,.le (bG.int (by rw[h3,List.drop_eq_nil_of_le (show l.length<=i by omega),List.drop_eq_getElem_cons (show i<m.length by omega),cmpL]))⟩))))
  .have hl:m.length<=l.length:=by have:=lD hl;omega
   exact AW.skip (AW.sg hE rfl (aC rfl (OL.nil (AW.ret (aO.r ⟨_,.tmp rfl .nil,.le (bG.int (by rw[h3,List.drop_eq_nil_of_le (show l.length<=i by omega),List.drop_eq_nil_of_le (show m.length<=i by omega),cmpL]))⟩)))))
theorem ZE {n:Nat}(hn:n<=1099511627776):iR P F.mJ [.mt,.d (dI n)] 0 T.int 1 []:=by
 refine iR.intro fn.mJ (by rfl) (by rfl) (aA (by rfl)) 4 rfl λE hE=>(AW.sg hE rfl (jg rfl (OL.nil (AW.seq (AW.sg hE rfl (ai rfl (aX rfl rfl rfl ?_)))))))
 refine OL.nil (AW.cond rfl (λhno=>absurd hno (by simp)) (λ_=>?_))
 refine AW.skip (AW.seq (AW.sg hE rfl (ai rfl (mvM rfl (OL.pure (.aa9 rfl rfl sl.ints) (mvM rfl (lnM sl.ints rfl rfl ?_)))))));refine gu rfl rfl (by omega) (gu rfl rfl (by omega) (aC rfl (OL.nil (AW.sg hE rfl (ai rfl (gV rfl rfl rfl (OL.nil ?_)))))))
 refine AW.cond rfl (λh16=>?_) (λh16=>?_)
 .try simp only[eG] at h16
  refine AW.rg hE rfl (mvM rfl (mvM rfl (OL.pure (.aa9 rfl rfl sl.ints) (OL.pure (v:=.mt) (.as9 rfl sl.ints rfl ⟨.i64,rfl⟩) (ai rfl (apZ (n:=n) sl.ints it.int rfl rfl (by show V.d (D.sc (Value.int IntKind.i64 _))=_;congr 3) (by omega) (by omega) (by omega) rfl λb c=>(mvM rfl ?_)))))))
  refine lnM sl.ints rfl rfl (slO (h:=0) sl.ints rfl rfl (Nat.zero_le _) (oC rfl (OL.nil (AW.sg hE rfl (gU rfl (oC rfl (OL.nil ?_)))))));exact AW.ret ⟨.inr rfl,22,b,c,[],rfl,rfl,Nat.le_refl _,rfl⟩
 .have h16:=h16;exact AW.own 0 99 T.int 1 rfl rfl (AW.skip (AW.sg hE rfl (gU rfl (oC rfl (OL.nil (AW.ret ⟨.inr rfl,99,0,0,[],rfl,rfl,Nat.le_refl _,rfl⟩))))))
theorem UU {L:List (List Int)}(nL:L.length<=1099511627776)(nF:L.flatten.length<=68719476736):aj P F.kQ [.d (bh4 L)] (.d (ints L.flatten)):=by
 refine aj.intro fn.kQ (by rfl) (by rfl) (aA (by rfl)) λE hE=>(AW.sg hE rfl (jg rfl (OL.nil (AW.sg hE rfl (aC rfl (OL.nil (AW.seq ?_)))))))
 refine AW.sg hE rfl (ai rfl (fJ sl.dX rfl rfl (ai rfl (OL.nil (AW.block ?_)))));refine AW.aU (α:=Nat) [(0,_),(2,_),(9,_),(10,_)] [] (λi=>[(3,.d (dI (L.take i).flatten.length)),(11,.d (dI i))]) (λi=>[]) (λi=>i<=L.length) (λi=>L.length-i) 0 (.cons (bY rfl) (.cons (AO rfl) (.cons (bY rfl) (.cons (bY rfl) .nil)))) .nil ⟨Nat.zero_le _,.gy,.nil⟩ ?_;intro i h1;refine AW.sg hE rfl (aX rfl rfl rfl (OL.nil (AW.seq (AW.cond rfl (λh12=>?_) (λh12=>?_)))))
 .try simp only[eG] at h12
  refine AW.skip (AW.seq (AW.block (AW.sg hE rfl (fM sl.dX [] rfl rfl (by omega) rfl rfl (iE ce.ints rfl (aC rfl (OL.nil ?_)))))))
  refine AW.seq ?_;have hle:=Ig (L:=L) (i+1);rw[qI (by omega),iU] at hle
  refine AW.rg hE rfl (ai rfl (ai rfl (fJ sl.ints rfl rfl (aH rfl rfl (by omega) (aC rfl (OL.nil (AW.sg hE rfl ?_)))))))
  refine ai rfl (aX rfl rfl rfl (OL.nil (AW.cond rfl (λhno=>absurd hno (by simp;omega)) (λ_=>?_))))
  exact AW.skip (AW.rg hE rfl (aH rfl rfl (by omega) (ai rfl (OL.nil (AW.again (x:=i) (i+1) (by omega) ⟨by omega,Knows.app .GL (.cons (bG.int (by rw[qI (by omega),iU];omega)) .di),.nil⟩)))))
 .try simp only[eG] at h12
  refine AW.exit (AW.seq ?_);obtain rfl:i=L.length:=by omega
  rw[List.take_length];refine AW.rg hE rfl (ai rfl (clR rfl .gy (ZE (n:=L.flatten.length) (by omega)) rfl λb24 c24=>(oC rfl (OL.nil (AW.seq (AW.sg hE rfl (ai rfl ?_)))))))
  refine fJ sl.dX rfl rfl (ai rfl (OL.nil (AW.block (AW.rename 24 33 rfl ?_))));refine AW.aU (α:=Nat × Nat × Nat) [(2,_),(25,_),(26,_)] [] (λ(i,b,c)=>[(6,.bH 33 b (L.take i).flatten.length c),(27,.d (dI i))]) (λ(i,b,c)=>[(33,.row b c T.int 1 ((L.take i).flatten.map dI))]) (λ(i,b,c)=>i<=L.length) (λ(i,b,c)=>L.length-i) (0,b24,c24) (.cons (AO rfl) (.cons (bY rfl) (.cons (bY rfl) .nil))) .nil ⟨Nat.zero_le _,.cons (bG.bH) .di,.cons rfl .nil⟩ ?_
  rintro⟨i,b,c⟩ h1
  refine AW.sg hE rfl (aX rfl rfl rfl (OL.nil (AW.seq (AW.cond rfl (λh28=>?_) (λh28=>?_)))))
  .try simp only[eG] at h28
   refine AW.skip (AW.seq (AW.block (AW.sg hE rfl (fM sl.dX [] rfl rfl (by omega) rfl rfl (iE ce.ints rfl (aC rfl (OL.nil ?_)))))))
   have hle:=Ig (L:=L) (i+1);rw[qI (by omega),iU] at hle
   refine AW.rg hE rfl (gU rfl (ai rfl ?_));refine zB sl.ints rfl rfl rfl (by rw[dD]) (VC.d _) VO (by rw[dD];omega) (by rw[dD];omega) (.inr rfl) (ys:=((L.take i).flatten++L.getD i []).map dI) (by rw[List.map_append]) (n2:=((L.take i).flatten++L.getD i []).length) (by rw[dD,iU]) λb2 c2=>?_
   refine oC rfl (OL.nil (AW.rg hE rfl (aH rfl rfl (by omega) (ai rfl (OL.nil ?_)))))
   exact AW.again (x:=(i,b,c)) (i+1,b2,c2) (by (simp only[];omega)) ⟨by omega,Knows.app .xf (.cons (by rw[qI (by omega)];exact bG.refl _) .di),.cons (by rw[qI (by omega)];rfl) .nil⟩
  .try simp only[eG] at h28
   refine AW.exit (AW.seq ?_);obtain rfl:i=L.length:=by omega
   refine AW.freeze 33 rfl (AW.to [(6,.d (ints L.flatten))] [] (.cons (eH (by rw[dD]) (by rw[List.take_length])) .nil) .nil ?_)
   exact AW.rg hE rfl (ai rfl (aC rfl (OL.nil (AW.ret (aO.r ⟨_,.tmp rfl .nil,.le vR⟩)))))
theorem an0 {v w:List Int}(nv:v.length<=1099511627776):aj P F.su [.d (ints v),.d (ints w)] (.d (dI (mY v w))):=by
 refine aj.intro fn.su (by rfl) (by rfl) (aA (by rfl)) λE hE=>(AW.sg hE rfl (aC rfl (OL.nil (AW.sg hE rfl (ai rfl (fJ sl.ints rfl rfl (ai rfl ?_)))))))
 refine fJ sl.ints rfl rfl (bF rfl vL (cmp_Compare_int (x:=(v.length:Int)) (y:=(w.length:Int))) (ai rfl (ai rfl (bF rfl vL (Rw (l:=v) (m:=w) nv) (ltN (ys:=[dI (Ea (v.length:Int) (w.length:Int)),dI (cmpL v w)]) sl.ints rfl (Oe (VC.d _).vd (Oe (VC.d _).vd pdN)) rfl (by decide) (by decide) (λy hy=>by simp at hy;rcases hy with rfl|rfl <;> rfl) (bF rfl vL (XV (l:=[Ea (v.length:Int) (w.length:Int),cmpL v w]) (show 2<=1099511627776 by decide)) ?_))))))
 rw[aO7];exact aC rfl (OL.nil (AW.ret (aO.r ⟨_,.tmp rfl .nil,.le vR⟩)))
theorem an1 {l:List (List Int)}{w:List Int}{f:Nat}{c:List Int->Int}(nl:l.length<=1048576)(hm:Yc c l)(hc:∀ x,x ∈ l->aj P f [.d (ints x),.d (ints w)] (.d (dI (c x)))):aj P F.eX [.d (tZ l),.d (ints w),.fn f []] (.jE [.d (dI (JX c l)),.d (dB (decide (JX c l<l.length/\c (l.getD (JX c l) [])=0)))]):=by
 refine aj.intro fn.eX (by rfl) (by rfl) (aA (by rfl)) λE hE=>(AW.sg hE rfl (aC rfl (aC rfl (OL.nil (AW.sg hE rfl (ai rfl (fJ (f:=ints) sl.dX rfl rfl ?_)))))))
 refine aC rfl (OL.nil (AW.sg hE rfl (ai rfl (aC rfl (aC rfl (OL.nil (AW.seq ?_)))))));refine AW.block ?_;refine AW.aU (α:=Nat × Nat) [(0,_),(1,_),(2,_),(6,_),(7,_),(8,_)] [] (λ(i,j)=>[(9,.d (dI i)),(10,.d (dI j))]) (λ(i,j)=>[]) (λ(i,j)=>i<=j/\j<=l.length/\(∀ p,p<i->c (l.getD p [])<0)/\(∀ p,j<=p->p<l.length->0<=c (l.getD p []))) (λ(i,j)=>j-i) (0,l.length) (.cons (bY rfl) (.cons (bY rfl) (.cons (OO rfl) (.cons (bY rfl) (.cons (bY rfl) (.cons (bY rfl) .nil)))))) .nil ⟨⟨Nat.zero_le _,Nat.le_refl _,λp hp=>by omega,λp h1 h2=>by omega⟩,.gy,.nil⟩ ?_
 rintro⟨i,j⟩ ⟨h1,h2,h3,h4⟩
 have h1:i<=j:=h1;have h2:j<=l.length:=h2;have h3:∀ p,p<i->c (l.getD p [])<0:=h3;have h4:∀ p,j<=p->p<l.length->0<=c (l.getD p []):=h4;refine AW.seq (AW.sg hE rfl (ai rfl (ai rfl (aX rfl rfl rfl (OL.nil (AW.cond rfl (λh17=>?_) (λh17=>?_)))))))
 .try simp only[eG] at h17
  refine AW.skip (AW.block (AW.seq ?_));have hlt:i<j:=by omega
  refine AW.rg hE rfl (ai rfl (ai rfl (bo rfl rfl (kM (c:=((i+j:Nat):Int)) (by omega) (wrap_i64 (by omega))) (cv it.int it.uint rfl (wrap_u64 (by omega)) (YM rfl rfl ⟨by decide,by decide⟩ (c:=(((i+j) / 2:Nat):Int)) (by show (((i+j:Nat):Int)) / 2=_;omega) (cv it.uint it.int rfl (wrap_i64 (by omega)) (aC rfl ?_)))))))
  refine OL.nil (AW.sg hE rfl (NY rfl (ai rfl (ai rfl (fM (f:=ints) sl.dX [] rfl rfl (by omega) rfl rfl (iE ce.ints rfl (ai rfl ?_)))))))
  refine bF rfl vL (hc (l.getD ((i+j) / 2) []) (getD_mem (by omega) [])) (aX rfl rfl rfl (OL.nil (AW.cond rfl (λhk=>?_) (λhk=>?_))))
  .have hk:c (l.getD ((i+j) / 2) [])<0:=kK hk;refine AW.rg hE rfl (ai rfl (aH rfl rfl (by omega) (aC rfl (OL.nil ?_))))
   exact AW.again (x:=(i,j)) ((i+j) / 2+1,j) (by show j-((i+j) / 2+1)<j-i;omega) ⟨⟨by omega,by omega,λp hp=>hm p ((i+j) / 2) (by omega) (by omega) hk,h4⟩,Knows.app .Vh (.cons (bG.int (by omega)) .di),.nil⟩
  .have hk:¬ c (l.getD ((i+j) / 2) [])<0:=lD hk;refine AW.rg hE rfl (ai rfl (aC rfl (OL.nil ?_)));exact AW.again (x:=(i,j)) (i,(i+j) / 2) (by show (i+j) / 2-i<j-i;omega) ⟨⟨by omega,by omega,h3,λp hp hl=>Decidable.byContradiction λhn=>hk (hm ((i+j) / 2) p hp hl (by omega))⟩,Knows.app .Vh (.cons vR (.cons (bG.int (by omega)) .nil)),.nil⟩
 .try simp only[eG] at h17
  refine AW.exit (AW.seq ?_);have hij:j<=i:=by omega
  have hlo:JX c l=i:=Kq (by omega) h3 λhl=>h4 i (by omega) hl
  refine AW.rg hE rfl (ai rfl (ai rfl (ai rfl (aX rfl rfl rfl (OL.split 38 rfl (λh5=>?_) (λh5=>?_))))))
  .have h5:i<l.length:=by have:=kK h5;omega
   refine ai rfl (OL.yes rfl (NY rfl (OL.yes rfl (ai rfl (OL.yes rfl (ai rfl (OL.yes rfl ?_)))))));refine fM (f:=ints) sl.dX [] rfl rfl (by omega) rfl rfl (OL.yes rfl (iE ce.ints rfl (OL.yes rfl (ai rfl (OL.yes rfl (bF rfl vL (hc (l.getD i []) (getD_mem (by omega) [])) (OL.yes rfl ?_)))))))
   refine dG rfl rfl rfl (OL.split 47 rfl (λh6=>?_) (λh6=>?_))
   .have h6:c (l.getD i [])=0:=kK h6;exact lJ rfl rfl (aC rfl (aC rfl (OL.nil (AW.ret (aO.r ⟨_,.tmp rfl (.tmp rfl .nil),_,.cons (.le (bG.int (by rw[hlo]))) (.cons (.le (bG.bool (by rw[hlo];exact (decide_eq_true ⟨h5,h6⟩).symm))) .nil),rfl⟩)))))
   .have h6:¬ c (l.getD i [])=0:=lD h6;exact lJ rfl rfl (aC rfl (aC rfl (OL.nil (AW.ret (aO.r ⟨_,.tmp rfl (.tmp rfl .nil),_,.cons (.le (bG.int (by rw[hlo]))) (.cons (.le (bG.bool (by rw[hlo];exact (decide_eq_false λx=>h6 x.2).symm))) .nil),rfl⟩)))))
  .have h5:¬ i<l.length:=by have:=lD h5;omega
   refine ai rfl (OL.nd rfl (OL.nd rfl (OL.nd rfl (OL.nd rfl (OL.nd rfl (OL.nd rfl (OL.nd rfl ?_)))))));exact OL.nd rfl (jZ rfl rfl (aC rfl (aC rfl (OL.nil (AW.ret (aO.r ⟨_,.tmp rfl (.tmp rfl .nil),_,.cons (.le (bG.int (by rw[hlo]))) (.cons (.le (bG.bool (by rw[hlo];exact (decide_eq_false λx=>h5 x.1).symm))) .nil),rfl⟩))))))
theorem bsearchI {l:List (List Int)}{w:Int}{f:Nat}{c:List Int->Int}(nl:l.length<=1048576)(hm:Yc c l)(hc:∀ x,x ∈ l->aj P f [.d (ints x),.d (dI w)] (.d (dI (c x)))):aj P F.fF [.d (tZ l),.d (dI w),.fn f []] (.jE [.d (dI (JX c l)),.d (dB (decide (JX c l<l.length/\c (l.getD (JX c l) [])=0)))]):=by
 refine aj.intro fn.fF (by rfl) (by rfl) (aA (by rfl)) λE hE=>(AW.sg hE rfl (aC rfl (aC rfl (OL.nil (AW.sg hE rfl (ai rfl (fJ (f:=ints) sl.dX rfl rfl ?_)))))))
 refine aC rfl (OL.nil (AW.sg hE rfl (ai rfl (aC rfl (aC rfl (OL.nil (AW.seq ?_)))))));refine AW.block ?_;refine AW.aU (α:=Nat × Nat) [(0,_),(1,_),(2,_),(6,_),(7,_),(8,_)] [] (λ(i,j)=>[(9,.d (dI i)),(10,.d (dI j))]) (λ(i,j)=>[]) (λ(i,j)=>i<=j/\j<=l.length/\(∀ p,p<i->c (l.getD p [])<0)/\(∀ p,j<=p->p<l.length->0<=c (l.getD p []))) (λ(i,j)=>j-i) (0,l.length) (.cons (bY rfl) (.cons (bY rfl) (.cons (OO rfl) (.cons (bY rfl) (.cons (bY rfl) (.cons (bY rfl) .nil)))))) .nil ⟨⟨Nat.zero_le _,Nat.le_refl _,λp hp=>by omega,λp h1 h2=>by omega⟩,.gy,.nil⟩ ?_
 rintro⟨i,j⟩ ⟨h1,h2,h3,h4⟩
 have h1:i<=j:=h1;have h2:j<=l.length:=h2;have h3:∀ p,p<i->c (l.getD p [])<0:=h3;have h4:∀ p,j<=p->p<l.length->0<=c (l.getD p []):=h4;refine AW.seq (AW.sg hE rfl (ai rfl (ai rfl (aX rfl rfl rfl (OL.nil (AW.cond rfl (λh17=>?_) (λh17=>?_)))))))
 .try simp only[eG] at h17
  refine AW.skip (AW.block (AW.seq ?_));have hlt:i<j:=by omega
  refine AW.rg hE rfl (ai rfl (ai rfl (bo rfl rfl (kM (c:=((i+j:Nat):Int)) (by omega) (wrap_i64 (by omega))) (cv it.int it.uint rfl (wrap_u64 (by omega)) (YM rfl rfl ⟨by decide,by decide⟩ (c:=(((i+j) / 2:Nat):Int)) (by show (((i+j:Nat):Int)) / 2=_;omega) (cv it.uint it.int rfl (wrap_i64 (by omega)) (aC rfl ?_)))))))
  refine OL.nil (AW.sg hE rfl (NY rfl (ai rfl (ai rfl (fM (f:=ints) sl.dX [] rfl rfl (by omega) rfl rfl (iE ce.ints rfl (ai rfl ?_)))))))
  refine bF rfl vL (hc (l.getD ((i+j) / 2) []) (getD_mem (by omega) [])) (aX rfl rfl rfl (OL.nil (AW.cond rfl (λhk=>?_) (λhk=>?_))))
  .have hk:c (l.getD ((i+j) / 2) [])<0:=kK hk;refine AW.rg hE rfl (ai rfl (aH rfl rfl (by omega) (aC rfl (OL.nil ?_))))
   exact AW.again (x:=(i,j)) ((i+j) / 2+1,j) (by show j-((i+j) / 2+1)<j-i;omega) ⟨⟨by omega,by omega,λp hp=>hm p ((i+j) / 2) (by omega) (by omega) hk,h4⟩,Knows.app .Vh (.cons (bG.int (by omega)) .di),.nil⟩
  .have hk:¬ c (l.getD ((i+j) / 2) [])<0:=lD hk;refine AW.rg hE rfl (ai rfl (aC rfl (OL.nil ?_)));exact AW.again (x:=(i,j)) (i,(i+j) / 2) (by show (i+j) / 2-i<j-i;omega) ⟨⟨by omega,by omega,h3,λp hp hl=>Decidable.byContradiction λhn=>hk (hm ((i+j) / 2) p hp hl (by omega))⟩,Knows.app .Vh (.cons vR (.cons (bG.int (by omega)) .nil)),.nil⟩
 .try simp only[eG] at h17
  refine AW.exit (AW.seq ?_);have hij:j<=i:=by omega
  have hlo:JX c l=i:=Kq (by omega) h3 λhl=>h4 i (by omega) hl
  refine AW.rg hE rfl (ai rfl (ai rfl (ai rfl (aX rfl rfl rfl (OL.split 38 rfl (λh5=>?_) (λh5=>?_))))))
  .have h5:i<l.length:=by have:=kK h5;omega
   refine ai rfl (OL.yes rfl (NY rfl (OL.yes rfl (ai rfl (OL.yes rfl (ai rfl (OL.yes rfl ?_)))))));refine fM (f:=ints) sl.dX [] rfl rfl (by omega) rfl rfl (OL.yes rfl (iE ce.ints rfl (OL.yes rfl (ai rfl (OL.yes rfl (bF rfl vL (hc (l.getD i []) (getD_mem (by omega) [])) (OL.yes rfl ?_)))))))
   refine dG rfl rfl rfl (OL.split 47 rfl (λh6=>?_) (λh6=>?_))
   .have h6:c (l.getD i [])=0:=kK h6;exact lJ rfl rfl (aC rfl (aC rfl (OL.nil (AW.ret (aO.r ⟨_,.tmp rfl (.tmp rfl .nil),_,.cons (.le (bG.int (by rw[hlo]))) (.cons (.le (bG.bool (by rw[hlo];exact (decide_eq_true ⟨h5,h6⟩).symm))) .nil),rfl⟩)))))
   .have h6:¬ c (l.getD i [])=0:=lD h6;exact lJ rfl rfl (aC rfl (aC rfl (OL.nil (AW.ret (aO.r ⟨_,.tmp rfl (.tmp rfl .nil),_,.cons (.le (bG.int (by rw[hlo]))) (.cons (.le (bG.bool (by rw[hlo];exact (decide_eq_false λx=>h6 x.2).symm))) .nil),rfl⟩)))))
  .have h5:¬ i<l.length:=by have:=lD h5;omega
   refine ai rfl (OL.nd rfl (OL.nd rfl (OL.nd rfl (OL.nd rfl (OL.nd rfl (OL.nd rfl (OL.nd rfl ?_)))))));exact OL.nd rfl (jZ rfl rfl (aC rfl (aC rfl (OL.nil (AW.ret (aO.r ⟨_,.tmp rfl (.tmp rfl .nil),_,.cons (.le (bG.int (by rw[hlo]))) (.cons (.le (bG.bool (by rw[hlo];exact (decide_eq_false λx=>h5 x.1).symm))) .nil),rfl⟩))))))
theorem aO8 {w:List Int}{m:Int}(nw:w.length<=1048576)(nm:0<=m/\m<=1048576):aj P F.iZ [.d (ints w),.d (dI m)] (.d (dI ((w.length:Int)-m))):=by
 refine aj.intro fn.iZ (by rfl) (by rfl) (aA (by rfl)) λE hE=>(AW.sg hE rfl (aC rfl (OL.nil (AW.sg hE rfl (ai rfl (fJ sl.ints rfl rfl (ai rfl ?_)))))))
 exact bo rfl rfl (nN (c:=(w.length:Int)-m) rfl (wrap_i64 (by omega))) (aC rfl (OL.nil (AW.ret (aO.r ⟨_,.tmp rfl .nil,.le vR⟩))))
set_option maxRecDepth 8000 in
set_option maxHeartbeats 1600000 in
theorem aO9 {s m:Nat}(hs:1<=s/\s<=32)(hm:m+1<=256)(hb:(ah s (m+1)).length<=4000):aj P F.wI [.d (dI s),.d (dI ((m+1:Nat):Int))] (.jE [.d (tZ (ah s (m+1))),.d (dI 0)]):=by
 have hal:=aC6 (k:=s) (n:=m);have hps:=Yd (k:=s) (n:=m);have hge:(ah s m).length<=s*(ah s m).length:=Nat.le_mul_of_pos_left _ (by omega)
 refine aj.intro fn.wI (by rfl) (by rfl) (aA (by rfl)) λE hE=>(AW.sg hE rfl (jg rfl (aC rfl (OL.nil (AW.seq (AW.sg hE rfl (ai rfl ?_)))))))
 refine aX rfl rfl (c:=false) (decide_eq_false (by omega)) (ai rfl (OL.yes rfl (ai rfl (OL.yes rfl (gV rfl rfl (c:=false) (decide_eq_false (by omega)) (jZ rfl rfl (ai rfl ?_)))))))
 refine OL.yes rfl (ai rfl (OL.yes rfl (aX rfl rfl (c:=false) (decide_eq_false (by omega)) (jZ rfl rfl (ai rfl (OL.yes rfl (ai rfl ?_)))))))
 refine OL.yes rfl (gV rfl rfl (c:=false) (decide_eq_false (by omega)) (jZ rfl rfl (OL.nil (oz rfl ?_))))
 refine AW.skip (AW.sg hE rfl (lt0 sl.ints (aL2 (y:=ints []) sl.dX VC.mt.vd rfl (by decide) rfl λb24=>(oC rfl (OL.nil (AW.seq (AW.seq ?_)))))))
 refine AW.rename 24 58 rfl (AW.rg hE rfl (aC rfl (OL.nil (AW.block ?_))));refine AW.aU (α:=Nat × Nat × Nat) [(0,_),(1,_)] [] (λ(k,bq,cq)=>[(6,.bH 58 bq (1+s*k) cq),(7,.d (dI k))]) (λ(k,bq,cq)=>[(58,.row bq cq T.ints 1 (((ah s (m+1)).take (1+s*k)).map ints))]) (λ(k,bq,cq)=>k<=(ah s m).length) (λ(k,bq,cq)=>(ah s m).length-k) (0,b24,1) (.cons (bY rfl) (.cons (bY rfl) .nil)) .nil ⟨Nat.zero_le _,.cons (by rw[Nat.mul_zero];exact bG.bH) .di,.cons (by rw[Nat.mul_zero,show (ah s (m+1)).take (1+0)=[[]] from by rw[<- BL];rfl];rfl) .nil⟩ ?_
 rintro⟨k,bq,cq⟩ h1
 have h1:k<=(ah s m).length:=h1;have hsk:s*k<=s*(ah s m).length:=Nat.mul_le_mul_left _ h1;have hkk:k<=s*k:=Nat.le_mul_of_pos_left _ (by omega)
 have htl:((ah s (m+1)).take (1+s*k)).length=1+s*k:=by rw[List.length_take];omega
 have hgk:((ah s (m+1)).take (1+s*k)).getD k []=((ah s (m+1)).getD k []):=by rw[gI,List.getElem?_take,if_pos (by omega),<- gI]
 refine AW.seq (AW.sg hE rfl (ai rfl (gU rfl (Iy sl.dX rfl rfl (aX rfl rfl rfl (OL.nil (AW.cond rfl (λ_=>?_) (λhno=>absurd hno (by simp;omega)))))))))
 refine AW.skip (AW.seq (AW.block (AW.seq (AW.sg hE rfl (gU rfl (ai rfl (jk sl.dX rfl rfl (by omega) ?_)))))))
 refine SH ce.ints [] (by decide) rfl rfl (by rw[htl];omega) (d:=ints ((ah s (m+1)).getD k [])) (by rw[hgk];rfl) (fJ sl.ints rfl rfl (ai rfl (dG rfl rfl rfl (OL.nil (AW.cond rfl (λhn=>?_) (λhn=>?_))))))
 .have hn:((ah s (m+1)).getD k []).length=m+1:=by have:=kK hn;omega
  obtain rfl:k=(ah s m).length:=Decidable.byContradiction λh=>by have:=Qg (k:=s) (n:=m) (i:=k) (by omega);omega
  refine AW.exit (AW.seq ?_);have hfull:(ah s (m+1)).take (1+s*(ah s m).length)=(ah s (m+1)):=List.take_of_length_le (by omega)
  refine AW.freeze 58 rfl (AW.to [(6,.d (tZ (ah s (m+1))))] [] (.cons (eH (by rw[dD,hfull];omega) (by rw[hfull])) .nil) .nil ?_)
  exact AW.rg hE rfl (ai rfl (aC rfl (aC rfl (OL.nil (AW.ret (aO.r ⟨_,.tmp rfl (.tmp rfl .nil),_,.cons (.le vR) (.cons (.le vR) .nil),rfl⟩))))))
 .have hn:((ah s (m+1)).getD k []).length≠m+1:=by have:=lD hn;omega
  have hk:k<(ah s m).length:=Decidable.byContradiction λh=>hn (am9 (by omega) (by omega))
  have bh6:s*(k+1)<=s*(ah s m).length:=Nat.mul_le_mul_left _ hk;rw[Nat.mul_succ] at bh6;have hfl:=Qg (k:=s) (n:=m) hk;have hst:=am8 (k:=s) (n:=m) hk;rw[Nat.mul_succ] at hst;refine AW.skip (AW.seq (AW.sg hE rfl (gU rfl (Iy sl.dX rfl rfl (ai rfl (bo rfl rfl (kM (c:=((1+s*k+s:Nat):Int)) (by omega) (wrap_i64 (by omega))) (gV rfl rfl rfl ?_)))))))
  refine OL.nil (AW.cond rfl (λhno=>absurd hno (by simp;omega)) (λ_=>?_))
  refine AW.skip (AW.sg hE rfl (aC rfl (OL.nil (AW.block ?_))));refine AW.aU (α:=Nat × Nat × Nat) [(0,_),(1,_),(7,_)] [] (λ(j,b,c)=>[(6,.bH 58 b (1+s*k+j) c),(8,.d (dI ((1+j:Nat):Int)))]) (λ(j,b,c)=>[(58,.row b c T.ints 1 (((ah s (m+1)).take (1+s*k)++(dh s ((ah s (m+1)).getD k [])).take j).map ints))]) (λ(j,b,c)=>j<=s) (λ(j,b,c)=>s-j) (0,bq,cq) (.cons (bY rfl) (.cons (bY rfl) (.cons (bY rfl) .nil))) .nil ⟨Nat.zero_le _,.gy,.cons (by rw[List.take_zero,List.append_nil];rfl) .nil⟩ ?_
  rintro⟨j,b,c⟩ h2
  have h2:j<=s:=h2;have hkl:((dh s ((ah s (m+1)).getD k [])).take j).length=j:=by rw[List.length_take,wz];omega
  refine AW.seq (AW.sg hE rfl (ai rfl (ai rfl (wZ rfl rfl rfl (OL.nil (AW.cond rfl (λhj=>?_) (λhj=>?_)))))))
  .have hj:j<s:=by have:=kK hj;omega
   refine AW.skip (AW.seq (AW.block (AW.rg hE rfl (gU rfl (gU rfl (ai rfl (jk sl.dX rfl rfl (by omega) ?_)))))))
   refine SH ce.ints [] (by decide) rfl rfl (by rw[iU,htl];omega) (d:=ints ((ah s (m+1)).getD k [])) (by rw[gI,List.getElem?_append_left (by rw[htl];omega),<- gI,hgk];rfl) ?_
   refine clR rfl .di (JH (l:=((ah s (m+1)).getD k [])) (by omega)) rfl λb53 c53=>(ai rfl (xe (y:=dI ((1+j:Nat):Int)) sl.ints (VC.d _).vd rfl (by decide) ?_))
   refine ad2 sl.ints rfl rfl rfl (by rw[dD]) (VC.d _) (λy hy=>by rw[kJ hy];rfl) (by simp only[jL];omega) (by simp only[jL];omega) (.inl rfl) (ys:=(((ah s (m+1)).getD k [])++[((j+1:Nat):Int)]).map dI) (by rw[List.map_append,Nat.add_comm j 1];rfl) ?_
   refine xe (y:=ints (((ah s (m+1)).getD k [])++[((j+1:Nat):Int)])) sl.dX (VC.d _).vd rfl (by decide) ?_
   refine zB sl.dX rfl rfl rfl (by rw[dD,iU,htl,hkl]) (VC.d _) (λy hy=>by rw[kJ hy];rfl) (by simp only[jL];omega) (by simp only[jL];omega) (.inr rfl) (ys:=((ah s (m+1)).take (1+s*k)++(dh s ((ah s (m+1)).getD k [])).take (j+1)).map ints) (by rw[Qd hj,<- List.append_assoc,List.map_append (l₂:=[_])];rfl) (n2:=1+s*k+(j+1)) rfl λb58 c58=>?_
   exact oC rfl (OL.nil (AW.rg hE rfl (ai rfl (bo rfl rfl (kM (c:=((1+(j+1):Nat):Int)) (by omega) (wrap_i64 (by omega))) (aC rfl (OL.nil (AW.again (x:=(j,b,c)) (j+1,b58,c58) (by (simp only[];omega)) ⟨by omega,Knows.app .xf .gy,.cons rfl .nil⟩)))))))
  .have hj:¬ j<s:=by have:=lD hj;omega
   obtain rfl:s=j:=by omega
   have hall:(dh s ((ah s (m+1)).getD k [])).take s=dh s ((ah s (m+1)).getD k []):=List.take_of_length_le (by rw[wz];exact Nat.le_refl _)
   have hst2:=hst;rw[<- hall] at hst2;refine AW.exit (AW.rg hE rfl (ai rfl (aH rfl rfl (by omega) (aC rfl (OL.nil ?_)))))
   exact AW.again (x:=(k,bq,cq)) (k+1,b,c) (by (simp only[];omega)) ⟨by omega,Knows.app .gy (.cons (by rw[Nat.mul_succ,<- Nat.add_assoc];exact bG.bH) .di),.cons (by rw[Nat.mul_succ,hst2];rfl) .nil⟩
