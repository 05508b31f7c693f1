/-
  Walks of package passive, part 1: words, samples, blocks, ranks (printed by mk2.py).
-/
import Derived.Test.YtnjoncgnjdkaoaaGreatDoorKPvA
import Derived.Test.YtnjoncgnjdkaoaaGreatDoorKMod132
set_option linter.unusedVariables false
set_option linter.unusedSimpArgs false
namespace Go.Proofs.YtnjoncgnjdkaoaaGreatDoor
open Go Go.AL
theorem rJ {L:List (List Int)}{i:Nat}(hi:i<L.length):(L.take (i+1)).flatten=(L.take i).flatten++L.getD i []:=by
 rw[List.take_succ_eq_append_getElem hi,List.flatten_append,ig,lu hi];simp
theorem Iq {L:List (List Int)}(i:Nat):(L.take i).flatten.length<=L.flatten.length:=by
 have h:L.flatten=(L.take i).flatten++(L.drop i).flatten:=by rw[<- List.flatten_append,List.take_append_drop]
 rw[h,jG];exact Nat.le_add_right ..
abbrev bp3 (L:List (List Int)):D:=.sl (L.map ints)
theorem aS6 {v w:List Int}:orL [Eo (v.length:Int) (w.length:Int),cmpL v w]=nO v w:=by
 unfold nO Eo;rcases Nat.lt_trichotomy v.length w.length with h|h|h
 .rw[if_pos (by omega),if_pos (by omega),if_pos h];rfl
 .rw[if_neg (by omega),if_neg (by omega),if_neg (by omega)]
  show (if (0:Int)=0 then (if cmpL v w=0 then 0 else cmpL v w) else 0)=_
  rw[if_pos rfl]
  split
  .rename_i e;exact e.symm
  .rfl
 .rw[if_neg (by omega),if_pos (by omega),if_pos (by omega),if_neg (by omega)];rfl
theorem ZV {l:List (List Int)}:∀ y,y ∈ l.map ints->y.cells.length=1:=λy hy=>by obtain⟨a,_,rfl⟩:=mM hy;rfl
abbrev uN (l:List (List Int)):D:=.sl (l.map ints)
abbrev WZ (s n:Nat)(F:List (List Int))(vs:List Rat):V:=.ag [.d (dI s),.d (dI n),.d (uN F),.d (iQ vs)]
theorem W9 {f:List Int->Rat}{C:List (List Int)}{u:List Int}{i:Nat}(hi:i<C.length):(fV f C u).take (i+1)=(fV f C u).take i++[f (u++C.getD i [])]:=by
 rw[rH 0 (by rw[show (fV f C u).length=C.length from dJ ..];exact hi),Qi hi]
theorem RI {l m:List Int}(nl:l.length<=1099511627776):aj P F.kE [.d (ints l),.d (ints m)] (.d (dI (cmpL l m))):=by
 refine aj.intro fn.kE (by rfl) (by rfl) (aB (by rfl)) λE hE=>(AW.sg hE rfl (aF rfl (OL.nil (AW.seq (AW.sg hE rfl (ai rfl (fJ sl.ints rfl rfl ?_)))))))
 refine ai rfl (OL.nil (AW.block ?_));refine AW.aV (α:=Nat) [(0,_),(1,_),(9,_),(10,_)] [] (λi=>[(11,.d (dI i))]) (λi=>[]) (λi=>i<=l.length/\i<=m.length/\cmpL l m=cmpL (l.drop i) (m.drop i)) (λi=>l.length-i) 0 (.cons (bK rfl) (.cons (bK rfl) (.cons (bK rfl) (.cons (bK rfl) .nil)))) .nil ⟨⟨Nat.zero_le _,Nat.zero_le _,rfl⟩,.bZ,.nil⟩ ?_
 rintro i ⟨h1,h2,h3⟩
 have h1:i<=l.length:=h1;have h2:i<=m.length:=h2;have h3:cmpL l m=cmpL (l.drop i) (m.drop i):=h3;refine AW.sg hE rfl (aY rfl rfl rfl (OL.nil (AW.seq (AW.cond rfl (λh12=>?_) (λh12=>?_)))))
 .try simp only[dX] at h12
  refine AW.skip (AW.seq (AW.block (AW.sg hE rfl (ai rfl (fO sl.ints 0 rfl rfl (by omega) rfl rfl (iH ce.int rfl (aF rfl ?_)))))))
  refine aF rfl (OL.nil (AW.seq (AW.sg hE rfl (ai rfl (ai rfl (fJ sl.ints rfl rfl (qY rfl rfl rfl ?_)))))));refine OL.nil (AW.cond rfl (λhm=>?_) (λhm=>?_))
  .have hm:m.length<=i:=by have:=lq hm;omega
   exact AW.sg hE rfl (aF rfl (OL.nil (AW.ret (aP.r ⟨_,.tmp rfl .nil,.le (bG.int (by rw[h3,List.drop_eq_nil_of_le hm,List.drop_eq_getElem_cons (show i<l.length by omega),cmpL]))⟩))))
  .have hm:i<m.length:=by have:=nS hm;omega
   refine AW.skip (AW.sg hE rfl (ai rfl (ai rfl (fO sl.ints 0 rfl rfl (by omega) rfl rfl (iH ce.int rfl (aF rfl (OL.nil ?_)))))))
   refine AW.sg hE rfl (ai rfl (ai rfl (bJ rfl vL (cmp_Compare_int) (aF rfl (OL.nil (AW.sg hE rfl (ai rfl ?_)))))));refine eG rfl rfl rfl (OL.nil (AW.cond rfl (λhc=>?_) (λhc=>?_)))
   .have hc:=D7 hc;exact AW.sg hE rfl (ai rfl (aF rfl (OL.nil (AW.ret (aP.r ⟨_,.tmp rfl .nil,.le (bG.int (by rw[h3,BO (by omega) hm,if_neg hc]))⟩)))))
   .have hc:=Bc hc;exact AW.skip (AW.rg hE rfl (aI rfl rfl (by omega) (ai rfl (OL.nil (AW.again (x:=i) (i+1) (by omega) ⟨⟨by omega,by omega,by rw[h3,BO (by omega) (by omega),if_pos hc]⟩,Knows.app .Jz .bZ,.nil⟩)))))
 .try simp only[dX] at h12
  refine AW.exit (AW.seq (AW.sg hE rfl (ai rfl (fJ sl.ints rfl rfl (ai rfl (fJ sl.ints rfl rfl (aY rfl rfl rfl ?_)))))));refine OL.nil (AW.cond rfl (λhl=>?_) (λhl=>?_))
  .have hl:l.length<m.length:=by have:=lq hl;omega
   exact AW.sg hE rfl (aF rfl (OL.nil (AW.ret (aP.r ⟨_,.tmp rfl .nil,.le (bG.int (by rw[h3,List.drop_eq_nil_of_le (show l.length<=i by omega),List.drop_eq_getElem_cons (show i<m.length by omega),cmpL]))⟩))))
  .have hl:m.length<=l.length:=by have:=nS hl;omega
   exact AW.skip (AW.sg hE rfl (aF rfl (OL.nil (AW.ret (aP.r ⟨_,.tmp rfl .nil,.le (bG.int (by rw[h3,List.drop_eq_nil_of_le (show l.length<=i by omega),List.drop_eq_nil_of_le (show m.length<=i by omega),cmpL]))⟩)))))
theorem ZW {n:Nat}(hn:n<=1099511627776):jd P F.mZ [.mt,.d (dI n)] 0 T.int 1 []:=by
 refine jd.intro fn.mZ (by rfl) (by rfl) (aB (by rfl)) 4 rfl λE hE=>(AW.sg hE rfl (oK rfl (OL.nil (AW.seq (AW.sg hE rfl (ai rfl (aY rfl rfl rfl ?_)))))))
 refine OL.nil (AW.cond rfl (λhno=>absurd hno (by simp)) (λ_=>?_))
 refine AW.skip (AW.seq (AW.sg hE rfl (ai rfl (mvM rfl (OL.pure (.ab5 rfl rfl sl.ints) (mvM rfl (lnM sl.ints rfl rfl ?_)))))));refine gI rfl rfl (by omega) (gI rfl rfl (by omega) (aF rfl (OL.nil (AW.sg hE rfl (ai rfl (iO rfl rfl rfl (OL.nil ?_)))))))
 refine AW.cond rfl (λh16=>?_) (λh16=>?_)
 .try simp only[dX] at h16
  refine AW.rg hE rfl (mvM rfl (mvM rfl (OL.pure (.ab5 rfl rfl sl.ints) (OL.pure (v:=.mt) (.aw0 rfl sl.ints rfl ⟨.i64,rfl⟩) (ai rfl (apZ (n:=n) sl.ints it.int rfl rfl (by show V.d (D.sc (Value.int IntKind.i64 _))=_;congr 3) (by omega) (by omega) (by omega) rfl λb c=>(mvM rfl ?_)))))))
  refine lnM sl.ints rfl rfl (slO (h:=0) sl.ints rfl rfl (Nat.zero_le _) (tJ rfl (OL.nil (AW.sg hE rfl (jq rfl (tJ rfl (OL.nil ?_)))))));exact AW.ret ⟨.inr rfl,22,b,c,[],rfl,rfl,Nat.le_refl _,rfl⟩
 .have h16:=h16;exact AW.own 0 99 T.int 1 rfl rfl (AW.skip (AW.sg hE rfl (jq rfl (tJ rfl (OL.nil (AW.ret ⟨.inr rfl,99,0,0,[],rfl,rfl,Nat.le_refl _,rfl⟩))))))
theorem U0 {L:List (List Int)}(nL:L.length<=1099511627776)(nF:L.flatten.length<=68719476736):aj P F.kS [.d (bp3 L)] (.d (ints L.flatten)):=by
 refine aj.intro fn.kS (by rfl) (by rfl) (aB (by rfl)) λE hE=>(AW.sg hE rfl (oK rfl (OL.nil (AW.sg hE rfl (aF rfl (OL.nil (AW.seq ?_)))))))
 refine AW.sg hE rfl (ai rfl (fJ sl.fQ rfl rfl (ai rfl (OL.nil (AW.block ?_)))));refine AW.aV (α:=Nat) [(0,_),(2,_),(9,_),(10,_)] [] (λi=>[(3,.d (dI (L.take i).flatten.length)),(11,.d (dI i))]) (λi=>[]) (λi=>i<=L.length) (λi=>L.length-i) 0 (.cons (bK rfl) (.cons (Ea rfl) (.cons (bK rfl) (.cons (bK rfl) .nil)))) .nil ⟨Nat.zero_le _,.iq,.nil⟩ ?_;intro i h1;refine AW.sg hE rfl (aY rfl rfl rfl (OL.nil (AW.seq (AW.cond rfl (λh12=>?_) (λh12=>?_)))))
 .try simp only[dX] at h12
  refine AW.skip (AW.seq (AW.block (AW.sg hE rfl (fO sl.fQ [] rfl rfl (by omega) rfl rfl (iH ce.ints rfl (aF rfl (OL.nil ?_)))))))
  refine AW.seq ?_;have hle:=Iq (L:=L) (i+1);rw[rJ (by omega),jG] at hle
  refine AW.rg hE rfl (ai rfl (ai rfl (fJ sl.ints rfl rfl (aI rfl rfl (by omega) (aF rfl (OL.nil (AW.sg hE rfl ?_)))))))
  refine ai rfl (aY rfl rfl rfl (OL.nil (AW.cond rfl (λhno=>absurd hno (by simp;omega)) (λ_=>?_))))
  exact AW.skip (AW.rg hE rfl (aI rfl rfl (by omega) (ai rfl (OL.nil (AW.again (x:=i) (i+1) (by omega) ⟨by omega,Knows.app .Jz (.cons (bG.int (by rw[rJ (by omega),jG];omega)) .bZ),.nil⟩)))))
 .try simp only[dX] at h12
  refine AW.exit (AW.seq ?_);obtain rfl:i=L.length:=by omega
  rw[List.take_length];refine AW.rg hE rfl (ai rfl (clR rfl .iq (ZW (n:=L.flatten.length) (by omega)) rfl λb24 c24=>(tJ rfl (OL.nil (AW.seq (AW.sg hE rfl (ai rfl ?_)))))))
  refine fJ sl.fQ rfl rfl (ai rfl (OL.nil (AW.block (AW.rename 24 33 rfl ?_))));refine AW.aV (α:=Nat × Nat × Nat) [(2,_),(25,_),(26,_)] [] (λ(i,b,c)=>[(6,.bF 33 b (L.take i).flatten.length c),(27,.d (dI i))]) (λ(i,b,c)=>[(33,.row b c T.int 1 ((L.take i).flatten.map dI))]) (λ(i,b,c)=>i<=L.length) (λ(i,b,c)=>L.length-i) (0,b24,c24) (.cons (Ea rfl) (.cons (bK rfl) (.cons (bK rfl) .nil))) .nil ⟨Nat.zero_le _,.cons (bG.bF) .bZ,.cons rfl .nil⟩ ?_
  rintro⟨i,b,c⟩ h1
  refine AW.sg hE rfl (aY rfl rfl rfl (OL.nil (AW.seq (AW.cond rfl (λh28=>?_) (λh28=>?_)))))
  .try simp only[dX] at h28
   refine AW.skip (AW.seq (AW.block (AW.sg hE rfl (fO sl.fQ [] rfl rfl (by omega) rfl rfl (iH ce.ints rfl (aF rfl (OL.nil ?_)))))))
   have hle:=Iq (L:=L) (i+1);rw[rJ (by omega),jG] at hle
   refine AW.rg hE rfl (jq rfl (ai rfl ?_));refine Ce sl.ints rfl rfl rfl (by rw[dJ]) (VC.d _) VY (by rw[dJ];omega) (by rw[dJ];omega) (.inr rfl) (ys:=((L.take i).flatten++L.getD i []).map dI) (by rw[List.map_append]) (n2:=((L.take i).flatten++L.getD i []).length) (by rw[dJ,jG]) λb2 c2=>?_
   refine tJ rfl (OL.nil (AW.rg hE rfl (aI rfl rfl (by omega) (ai rfl (OL.nil ?_)))))
   exact AW.again (x:=(i,b,c)) (i+1,b2,c2) (by (simp only[];omega)) ⟨by omega,Knows.app .Ah (.cons (by rw[rJ (by omega)];exact bG.refl _) .bZ),.cons (by rw[rJ (by omega)];rfl) .nil⟩
  .try simp only[dX] at h28
   refine AW.exit (AW.seq ?_);obtain rfl:i=L.length:=by omega
   refine AW.freeze 33 rfl (AW.to [(6,.d (ints L.flatten))] [] (.cons (dL (by rw[dJ]) (by rw[List.take_length])) .nil) .nil ?_)
   exact AW.rg hE rfl (ai rfl (aF rfl (OL.nil (AW.ret (aP.r ⟨_,.tmp rfl .nil,.le vR⟩)))))
theorem ap2 {v w:List Int}(nv:v.length<=1099511627776):aj P F.tY [.d (ints v),.d (ints w)] (.d (dI (nO v w))):=by
 refine aj.intro fn.tY (by rfl) (by rfl) (aB (by rfl)) λE hE=>(AW.sg hE rfl (aF rfl (OL.nil (AW.sg hE rfl (ai rfl (fJ sl.ints rfl rfl (ai rfl ?_)))))))
 refine fJ sl.ints rfl rfl (bJ rfl vL (cmp_Compare_int (x:=(v.length:Int)) (y:=(w.length:Int))) (ai rfl (ai rfl (bJ rfl vL (RI (l:=v) (m:=w) nv) (ltN (ys:=[dI (Eo (v.length:Int) (w.length:Int)),dI (cmpL v w)]) sl.ints rfl (J8 (VC.d _).vd (J8 (VC.d _).vd pdN)) rfl (by decide) (by decide) (λy hy=>by simp at hy;rcases hy with rfl|rfl <;> rfl) (bJ rfl vL (Ya (l:=[Eo (v.length:Int) (w.length:Int),cmpL v w]) (show 2<=1099511627776 by decide)) ?_))))))
 rw[aS6];exact aF rfl (OL.nil (AW.ret (aP.r ⟨_,.tmp rfl .nil,.le vR⟩)))
theorem ap3 {l:List (List Int)}{w:List Int}{f:Nat}{c:List Int->Int}(nl:l.length<=1048576)(hm:Yo c l)(hc:∀ x,x ∈ l->aj P f [.d (ints x),.d (ints w)] (.d (dI (c x)))):aj P F.fA [.d (uN l),.d (ints w),.fn f []] (.jS [.d (dI (Kr c l)),.d (dB (decide (Kr c l<l.length/\c (l.getD (Kr c l) [])=0)))]):=by
 refine aj.intro fn.fA (by rfl) (by rfl) (aB (by rfl)) λE hE=>(AW.sg hE rfl (aF rfl (aF rfl (OL.nil (AW.sg hE rfl (ai rfl (fJ (f:=ints) sl.fQ rfl rfl ?_)))))))
 refine aF rfl (OL.nil (AW.sg hE rfl (ai rfl (aF rfl (aF rfl (OL.nil (AW.seq ?_)))))));refine AW.block ?_;refine AW.aV (α:=Nat × Nat) [(0,_),(1,_),(2,_),(6,_),(7,_),(8,_)] [] (λ(i,j)=>[(9,.d (dI i)),(10,.d (dI j))]) (λ(i,j)=>[]) (λ(i,j)=>i<=j/\j<=l.length/\(∀ p,p<i->c (l.getD p [])<0)/\(∀ p,j<=p->p<l.length->0<=c (l.getD p []))) (λ(i,j)=>j-i) (0,l.length) (.cons (bK rfl) (.cons (bK rfl) (.cons (LH rfl) (.cons (bK rfl) (.cons (bK rfl) (.cons (bK rfl) .nil)))))) .nil ⟨⟨Nat.zero_le _,Nat.le_refl _,λp hp=>by omega,λp h1 h2=>by omega⟩,.iq,.nil⟩ ?_
 rintro⟨i,j⟩ ⟨h1,h2,h3,h4⟩
 have h1:i<=j:=h1;have h2:j<=l.length:=h2;have h3:∀ p,p<i->c (l.getD p [])<0:=h3;have h4:∀ p,j<=p->p<l.length->0<=c (l.getD p []):=h4;refine AW.seq (AW.sg hE rfl (ai rfl (ai rfl (aY rfl rfl rfl (OL.nil (AW.cond rfl (λh17=>?_) (λh17=>?_)))))))
 .try simp only[dX] at h17
  refine AW.skip (AW.block (AW.seq ?_));have hlt:i<j:=by omega
  refine AW.rg hE rfl (ai rfl (ai rfl (bo rfl rfl (jB (c:=((i+j:Nat):Int)) (by omega) (wrap_i64 (by omega))) (cv it.int it.uint rfl (wrap_u64 (by omega)) (Y0 rfl rfl ⟨by decide,by decide⟩ (c:=(((i+j) / 2:Nat):Int)) (by show (((i+j:Nat):Int)) / 2=_;omega) (cv it.uint it.int rfl (wrap_i64 (by omega)) (aF rfl ?_)))))))
  refine OL.nil (AW.sg hE rfl (Ky rfl (ai rfl (ai rfl (fO (f:=ints) sl.fQ [] rfl rfl (by omega) rfl rfl (iH ce.ints rfl (ai rfl ?_)))))))
  refine bJ rfl vL (hc (l.getD ((i+j) / 2) []) (getD_mem (by omega) [])) (aY rfl rfl rfl (OL.nil (AW.cond rfl (λhk=>?_) (λhk=>?_))))
  .have hk:c (l.getD ((i+j) / 2) [])<0:=lq hk;refine AW.rg hE rfl (ai rfl (aI rfl rfl (by omega) (aF rfl (OL.nil ?_))))
   exact AW.again (x:=(i,j)) ((i+j) / 2+1,j) (by show j-((i+j) / 2+1)<j-i;omega) ⟨⟨by omega,by omega,λp hp=>hm p ((i+j) / 2) (by omega) (by omega) hk,h4⟩,Knows.app .RZ (.cons (bG.int (by omega)) .bZ),.nil⟩
  .have hk:¬ c (l.getD ((i+j) / 2) [])<0:=nS hk;refine AW.rg hE rfl (ai rfl (aF rfl (OL.nil ?_)));exact AW.again (x:=(i,j)) (i,(i+j) / 2) (by show (i+j) / 2-i<j-i;omega) ⟨⟨by omega,by omega,h3,λp hp hl=>Decidable.byContradiction λhn=>hk (hm ((i+j) / 2) p hp hl (by omega))⟩,Knows.app .RZ (.cons vR (.cons (bG.int (by omega)) .nil)),.nil⟩
 .try simp only[dX] at h17
  refine AW.exit (AW.seq ?_);have hij:j<=i:=by omega
  have hlo:Kr c l=i:=KN (by omega) h3 λhl=>h4 i (by omega) hl
  refine AW.rg hE rfl (ai rfl (ai rfl (ai rfl (aY rfl rfl rfl (OL.split 38 rfl (λh5=>?_) (λh5=>?_))))))
  .have h5:i<l.length:=by have:=lq h5;omega
   refine ai rfl (OL.yes rfl (Ky rfl (OL.yes rfl (ai rfl (OL.yes rfl (ai rfl (OL.yes rfl ?_)))))));refine fO (f:=ints) sl.fQ [] rfl rfl (by omega) rfl rfl (OL.yes rfl (iH ce.ints rfl (OL.yes rfl (ai rfl (OL.yes rfl (bJ rfl vL (hc (l.getD i []) (getD_mem (by omega) [])) (OL.yes rfl ?_)))))))
   refine dR rfl rfl rfl (OL.split 47 rfl (λh6=>?_) (λh6=>?_))
   .have h6:c (l.getD i [])=0:=lq h6;exact oC rfl rfl (aF rfl (aF rfl (OL.nil (AW.ret (aP.r ⟨_,.tmp rfl (.tmp rfl .nil),_,.cons (.le (bG.int (by rw[hlo]))) (.cons (.le (bG.bool (by rw[hlo];exact (decide_eq_true ⟨h5,h6⟩).symm))) .nil),rfl⟩)))))
   .have h6:¬ c (l.getD i [])=0:=nS h6;exact oC rfl rfl (aF rfl (aF rfl (OL.nil (AW.ret (aP.r ⟨_,.tmp rfl (.tmp rfl .nil),_,.cons (.le (bG.int (by rw[hlo]))) (.cons (.le (bG.bool (by rw[hlo];exact (decide_eq_false λx=>h6 x.2).symm))) .nil),rfl⟩)))))
  .have h5:¬ i<l.length:=by have:=nS h5;omega
   refine ai rfl (OL.nd rfl (OL.nd rfl (OL.nd rfl (OL.nd rfl (OL.nd rfl (OL.nd rfl (OL.nd rfl ?_)))))));exact OL.nd rfl (kL rfl rfl (aF rfl (aF rfl (OL.nil (AW.ret (aP.r ⟨_,.tmp rfl (.tmp rfl .nil),_,.cons (.le (bG.int (by rw[hlo]))) (.cons (.le (bG.bool (by rw[hlo];exact (decide_eq_false λx=>h5 x.1).symm))) .nil),rfl⟩))))))
theorem bsearchI {l:List (List Int)}{w:Int}{f:Nat}{c:List Int->Int}(nl:l.length<=1048576)(hm:Yo c l)(hc:∀ x,x ∈ l->aj P f [.d (ints x),.d (dI w)] (.d (dI (c x)))):aj P F.fG [.d (uN l),.d (dI w),.fn f []] (.jS [.d (dI (Kr c l)),.d (dB (decide (Kr c l<l.length/\c (l.getD (Kr c l) [])=0)))]):=by
 refine aj.intro fn.fG (by rfl) (by rfl) (aB (by rfl)) λE hE=>(AW.sg hE rfl (aF rfl (aF rfl (OL.nil (AW.sg hE rfl (ai rfl (fJ (f:=ints) sl.fQ rfl rfl ?_)))))))
 refine aF rfl (OL.nil (AW.sg hE rfl (ai rfl (aF rfl (aF rfl (OL.nil (AW.seq ?_)))))));refine AW.block ?_;refine AW.aV (α:=Nat × Nat) [(0,_),(1,_),(2,_),(6,_),(7,_),(8,_)] [] (λ(i,j)=>[(9,.d (dI i)),(10,.d (dI j))]) (λ(i,j)=>[]) (λ(i,j)=>i<=j/\j<=l.length/\(∀ p,p<i->c (l.getD p [])<0)/\(∀ p,j<=p->p<l.length->0<=c (l.getD p []))) (λ(i,j)=>j-i) (0,l.length) (.cons (bK rfl) (.cons (bK rfl) (.cons (LH rfl) (.cons (bK rfl) (.cons (bK rfl) (.cons (bK rfl) .nil)))))) .nil ⟨⟨Nat.zero_le _,Nat.le_refl _,λp hp=>by omega,λp h1 h2=>by omega⟩,.iq,.nil⟩ ?_
 rintro⟨i,j⟩ ⟨h1,h2,h3,h4⟩
 have h1:i<=j:=h1;have h2:j<=l.length:=h2;have h3:∀ p,p<i->c (l.getD p [])<0:=h3;have h4:∀ p,j<=p->p<l.length->0<=c (l.getD p []):=h4;refine AW.seq (AW.sg hE rfl (ai rfl (ai rfl (aY rfl rfl rfl (OL.nil (AW.cond rfl (λh17=>?_) (λh17=>?_)))))))
 .try simp only[dX] at h17
  refine AW.skip (AW.block (AW.seq ?_));have hlt:i<j:=by omega
  refine AW.rg hE rfl (ai rfl (ai rfl (bo rfl rfl (jB (c:=((i+j:Nat):Int)) (by omega) (wrap_i64 (by omega))) (cv it.int it.uint rfl (wrap_u64 (by omega)) (Y0 rfl rfl ⟨by decide,by decide⟩ (c:=(((i+j) / 2:Nat):Int)) (by show (((i+j:Nat):Int)) / 2=_;omega) (cv it.uint it.int rfl (wrap_i64 (by omega)) (aF rfl ?_)))))))
  refine OL.nil (AW.sg hE rfl (Ky rfl (ai rfl (ai rfl (fO (f:=ints) sl.fQ [] rfl rfl (by omega) rfl rfl (iH ce.ints rfl (ai rfl ?_)))))))
  refine bJ rfl vL (hc (l.getD ((i+j) / 2) []) (getD_mem (by omega) [])) (aY rfl rfl rfl (OL.nil (AW.cond rfl (λhk=>?_) (λhk=>?_))))
  .have hk:c (l.getD ((i+j) / 2) [])<0:=lq hk;refine AW.rg hE rfl (ai rfl (aI rfl rfl (by omega) (aF rfl (OL.nil ?_))))
   exact AW.again (x:=(i,j)) ((i+j) / 2+1,j) (by show j-((i+j) / 2+1)<j-i;omega) ⟨⟨by omega,by omega,λp hp=>hm p ((i+j) / 2) (by omega) (by omega) hk,h4⟩,Knows.app .RZ (.cons (bG.int (by omega)) .bZ),.nil⟩
  .have hk:¬ c (l.getD ((i+j) / 2) [])<0:=nS hk;refine AW.rg hE rfl (ai rfl (aF rfl (OL.nil ?_)));exact AW.again (x:=(i,j)) (i,(i+j) / 2) (by show (i+j) / 2-i<j-i;omega) ⟨⟨by omega,by omega,h3,λp hp hl=>Decidable.byContradiction λhn=>hk (hm ((i+j) / 2) p hp hl (by omega))⟩,Knows.app .RZ (.cons vR (.cons (bG.int (by omega)) .nil)),.nil⟩
 .try simp only[dX] at h17
  refine AW.exit (AW.seq ?_);have hij:j<=i:=by omega
  have hlo:Kr c l=i:=KN (by omega) h3 λhl=>h4 i (by omega) hl
  refine AW.rg hE rfl (ai rfl (ai rfl (ai rfl (aY rfl rfl rfl (OL.split 38 rfl (λh5=>?_) (λh5=>?_))))))
  .have h5:i<l.length:=by have:=lq h5;omega
   refine ai rfl (OL.yes rfl (Ky rfl (OL.yes rfl (ai rfl (OL.yes rfl (ai rfl (OL.yes rfl ?_)))))));refine fO (f:=ints) sl.fQ [] rfl rfl (by omega) rfl rfl (OL.yes rfl (iH ce.ints rfl (OL.yes rfl (ai rfl (OL.yes rfl (bJ rfl vL (hc (l.getD i []) (getD_mem (by omega) [])) (OL.yes rfl ?_)))))))
   refine dR rfl rfl rfl (OL.split 47 rfl (λh6=>?_) (λh6=>?_))
   .have h6:c (l.getD i [])=0:=lq h6;exact oC rfl rfl (aF rfl (aF rfl (OL.nil (AW.ret (aP.r ⟨_,.tmp rfl (.tmp rfl .nil),_,.cons (.le (bG.int (by rw[hlo]))) (.cons (.le (bG.bool (by rw[hlo];exact (decide_eq_true ⟨h5,h6⟩).symm))) .nil),rfl⟩)))))
   .have h6:¬ c (l.getD i [])=0:=nS h6;exact oC rfl rfl (aF rfl (aF rfl (OL.nil (AW.ret (aP.r ⟨_,.tmp rfl (.tmp rfl .nil),_,.cons (.le (bG.int (by rw[hlo]))) (.cons (.le (bG.bool (by rw[hlo];exact (decide_eq_false λx=>h6 x.2).symm))) .nil),rfl⟩)))))
  .have h5:¬ i<l.length:=by have:=nS h5;omega
   refine ai rfl (OL.nd rfl (OL.nd rfl (OL.nd rfl (OL.nd rfl (OL.nd rfl (OL.nd rfl (OL.nd rfl ?_)))))));exact OL.nd rfl (kL rfl rfl (aF rfl (aF rfl (OL.nil (AW.ret (aP.r ⟨_,.tmp rfl (.tmp rfl .nil),_,.cons (.le (bG.int (by rw[hlo]))) (.cons (.le (bG.bool (by rw[hlo];exact (decide_eq_false λx=>h5 x.1).symm))) .nil),rfl⟩))))))
theorem aS7 {w:List Int}{m:Int}(nw:w.length<=1048576)(nm:0<=m/\m<=1048576):aj P F.jh [.d (ints w),.d (dI m)] (.d (dI ((w.length:Int)-m))):=by
 refine aj.intro fn.jh (by rfl) (by rfl) (aB (by rfl)) λE hE=>(AW.sg hE rfl (aF rfl (OL.nil (AW.sg hE rfl (ai rfl (fJ sl.ints rfl rfl (ai rfl ?_)))))))
 exact bo rfl rfl (lQ (c:=(w.length:Int)-m) rfl (wrap_i64 (by omega))) (aF rfl (OL.nil (AW.ret (aP.r ⟨_,.tmp rfl .nil,.le vR⟩))))
set_option maxRecDepth 8000 in
set_option maxHeartbeats 1600000 in
theorem aS8 {s m:Nat}(hs:1<=s/\s<=32)(hm:m+1<=256)(hb:(ah s (m+1)).length<=4000):aj P F.xq [.d (dI s),.d (dI ((m+1:Nat):Int))] (.jS [.d (uN (ah s (m+1))),.d (dI 0)]):=by
 have hal:=aF2 (k:=s) (n:=m);have hps:=Yp (k:=s) (n:=m);have hge:(ah s m).length<=s*(ah s m).length:=Nat.le_mul_of_pos_left _ (by omega)
 refine aj.intro fn.xq (by rfl) (by rfl) (aB (by rfl)) λE hE=>(AW.sg hE rfl (oK rfl (aF rfl (OL.nil (AW.seq (AW.sg hE rfl (ai rfl ?_)))))))
 refine aY rfl rfl (c:=false) (decide_eq_false (by omega)) (ai rfl (OL.yes rfl (ai rfl (OL.yes rfl (iO rfl rfl (c:=false) (decide_eq_false (by omega)) (kL rfl rfl (ai rfl ?_)))))))
 refine OL.yes rfl (ai rfl (OL.yes rfl (aY rfl rfl (c:=false) (decide_eq_false (by omega)) (kL rfl rfl (ai rfl (OL.yes rfl (ai rfl ?_)))))))
 refine OL.yes rfl (iO rfl rfl (c:=false) (decide_eq_false (by omega)) (kL rfl rfl (OL.nil (qW rfl ?_))))
 refine AW.skip (AW.sg hE rfl (lt0 sl.ints (aO8 (y:=ints []) sl.fQ VC.mt.vd rfl (by decide) rfl λb24=>(tJ rfl (OL.nil (AW.seq (AW.seq ?_)))))))
 refine AW.rename 24 58 rfl (AW.rg hE rfl (aF rfl (OL.nil (AW.block ?_))));refine AW.aV (α:=Nat × Nat × Nat) [(0,_),(1,_)] [] (λ(k,bq,cq)=>[(6,.bF 58 bq (1+s*k) cq),(7,.d (dI k))]) (λ(k,bq,cq)=>[(58,.row bq cq T.ints 1 (((ah s (m+1)).take (1+s*k)).map ints))]) (λ(k,bq,cq)=>k<=(ah s m).length) (λ(k,bq,cq)=>(ah s m).length-k) (0,b24,1) (.cons (bK rfl) (.cons (bK rfl) .nil)) .nil ⟨Nat.zero_le _,.cons (by rw[Nat.mul_zero];exact bG.bF) .bZ,.cons (by rw[Nat.mul_zero,show (ah s (m+1)).take (1+0)=[[]] from by rw[<- Cb];rfl];rfl) .nil⟩ ?_
 rintro⟨k,bq,cq⟩ h1
 have h1:k<=(ah s m).length:=h1;have hsk:s*k<=s*(ah s m).length:=Nat.mul_le_mul_left _ h1;have hkk:k<=s*k:=Nat.le_mul_of_pos_left _ (by omega)
 have htl:((ah s (m+1)).take (1+s*k)).length=1+s*k:=by rw[List.length_take];omega
 have hgk:((ah s (m+1)).take (1+s*k)).getD k []=((ah s (m+1)).getD k []):=by rw[ig,List.getElem?_take,if_pos (by omega),<- ig]
 refine AW.seq (AW.sg hE rfl (ai rfl (jq rfl (G5 sl.fQ rfl rfl (aY rfl rfl rfl (OL.nil (AW.cond rfl (λ_=>?_) (λhno=>absurd hno (by simp;omega)))))))))
 refine AW.skip (AW.seq (AW.block (AW.seq (AW.sg hE rfl (jq rfl (ai rfl (iM sl.fQ rfl rfl (by omega) ?_)))))))
 refine J6 ce.ints [] (by decide) rfl rfl (by rw[htl];omega) (d:=ints ((ah s (m+1)).getD k [])) (by rw[hgk];rfl) (fJ sl.ints rfl rfl (ai rfl (dR rfl rfl rfl (OL.nil (AW.cond rfl (λhn=>?_) (λhn=>?_))))))
 .have hn:((ah s (m+1)).getD k []).length=m+1:=by have:=lq hn;omega
  obtain rfl:k=(ah s m).length:=Decidable.byContradiction λh=>by have:=Qq (k:=s) (n:=m) (i:=k) (by omega);omega
  refine AW.exit (AW.seq ?_);have hfull:(ah s (m+1)).take (1+s*(ah s m).length)=(ah s (m+1)):=List.take_of_length_le (by omega)
  refine AW.freeze 58 rfl (AW.to [(6,.d (uN (ah s (m+1))))] [] (.cons (dL (by rw[dJ,hfull];omega) (by rw[hfull])) .nil) .nil ?_)
  exact AW.rg hE rfl (ai rfl (aF rfl (aF rfl (OL.nil (AW.ret (aP.r ⟨_,.tmp rfl (.tmp rfl .nil),_,.cons (.le vR) (.cons (.le vR) .nil),rfl⟩))))))
 .have hn:((ah s (m+1)).getD k []).length≠m+1:=by have:=nS hn;omega
  have hk:k<(ah s m).length:=Decidable.byContradiction λh=>hn (ap1 (by omega) (by omega))
  have bp5:s*(k+1)<=s*(ah s m).length:=Nat.mul_le_mul_left _ hk;rw[Nat.mul_succ] at bp5;have hfl:=Qq (k:=s) (n:=m) hk;have hst:=ap0 (k:=s) (n:=m) hk;rw[Nat.mul_succ] at hst;refine AW.skip (AW.seq (AW.sg hE rfl (jq rfl (G5 sl.fQ rfl rfl (ai rfl (bo rfl rfl (jB (c:=((1+s*k+s:Nat):Int)) (by omega) (wrap_i64 (by omega))) (iO rfl rfl rfl ?_)))))))
  refine OL.nil (AW.cond rfl (λhno=>absurd hno (by simp;omega)) (λ_=>?_))
  refine AW.skip (AW.sg hE rfl (aF rfl (OL.nil (AW.block ?_))));refine AW.aV (α:=Nat × Nat × Nat) [(0,_),(1,_),(7,_)] [] (λ(j,b,c)=>[(6,.bF 58 b (1+s*k+j) c),(8,.d (dI ((1+j:Nat):Int)))]) (λ(j,b,c)=>[(58,.row b c T.ints 1 (((ah s (m+1)).take (1+s*k)++(cu s ((ah s (m+1)).getD k [])).take j).map ints))]) (λ(j,b,c)=>j<=s) (λ(j,b,c)=>s-j) (0,bq,cq) (.cons (bK rfl) (.cons (bK rfl) (.cons (bK rfl) .nil))) .nil ⟨Nat.zero_le _,.iq,.cons (by rw[List.take_zero,List.append_nil];rfl) .nil⟩ ?_
  rintro⟨j,b,c⟩ h2
  have h2:j<=s:=h2;have hkl:((cu s ((ah s (m+1)).getD k [])).take j).length=j:=by rw[List.length_take,wZ];omega
  refine AW.seq (AW.sg hE rfl (ai rfl (ai rfl (xN rfl rfl rfl (OL.nil (AW.cond rfl (λhj=>?_) (λhj=>?_)))))))
  .have hj:j<s:=by have:=lq hj;omega
   refine AW.skip (AW.seq (AW.block (AW.rg hE rfl (jq rfl (jq rfl (ai rfl (iM sl.fQ rfl rfl (by omega) ?_)))))))
   refine J6 ce.ints [] (by decide) rfl rfl (by rw[jG,htl];omega) (d:=ints ((ah s (m+1)).getD k [])) (by rw[ig,List.getElem?_append_left (by rw[htl];omega),<- ig,hgk];rfl) ?_
   refine clR rfl .bZ (Eu (l:=((ah s (m+1)).getD k [])) (by omega)) rfl λb53 c53=>(ai rfl (zX (y:=dI ((1+j:Nat):Int)) sl.ints (VC.d _).vd rfl (by decide) ?_))
   refine ad7 sl.ints rfl rfl rfl (by rw[dJ]) (VC.d _) (λy hy=>by rw[lW hy];rfl) (by simp only[oU];omega) (by simp only[oU];omega) (.inl rfl) (ys:=(((ah s (m+1)).getD k [])++[((j+1:Nat):Int)]).map dI) (by rw[List.map_append,Nat.add_comm j 1];rfl) ?_
   refine zX (y:=ints (((ah s (m+1)).getD k [])++[((j+1:Nat):Int)])) sl.fQ (VC.d _).vd rfl (by decide) ?_
   refine Ce sl.fQ rfl rfl rfl (by rw[dJ,jG,htl,hkl]) (VC.d _) (λy hy=>by rw[lW hy];rfl) (by simp only[oU];omega) (by simp only[oU];omega) (.inr rfl) (ys:=((ah s (m+1)).take (1+s*k)++(cu s ((ah s (m+1)).getD k [])).take (j+1)).map ints) (by rw[Qo hj,<- List.append_assoc,List.map_append (l₂:=[_])];rfl) (n2:=1+s*k+(j+1)) rfl λb58 c58=>?_
   exact tJ rfl (OL.nil (AW.rg hE rfl (ai rfl (bo rfl rfl (jB (c:=((1+(j+1):Nat):Int)) (by omega) (wrap_i64 (by omega))) (aF rfl (OL.nil (AW.again (x:=(j,b,c)) (j+1,b58,c58) (by (simp only[];omega)) ⟨by omega,Knows.app .Ah .iq,.cons rfl .nil⟩)))))))
  .have hj:¬ j<s:=by have:=nS hj;omega
   obtain rfl:s=j:=by omega
   have hall:(cu s ((ah s (m+1)).getD k [])).take s=cu s ((ah s (m+1)).getD k []):=List.take_of_length_le (by rw[wZ];exact Nat.le_refl _)
   have hst2:=hst;rw[<- hall] at hst2;refine AW.exit (AW.rg hE rfl (ai rfl (aI rfl rfl (by omega) (aF rfl (OL.nil ?_)))))
   exact AW.again (x:=(k,bq,cq)) (k+1,b,c) (by (simp only[];omega)) ⟨by omega,Knows.app .iq (.cons (by rw[Nat.mul_succ,<- Nat.add_assoc];exact bG.bF) .bZ),.cons (by rw[Nat.mul_succ,hst2];rfl) .nil⟩
