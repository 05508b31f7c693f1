/-
  Walks of layers 5 and 8 of the specification: words, weights of words (printed by mk2.py).
-/
import Derived.Test.YteiohkpjgcioaaaGreatDoorKWkS
import Derived.Test.YteiohkpjgcioaaaGreatDoorKWgA
set_option linter.unusedVariables false
set_option linter.unusedSimpArgs false
namespace Go.Proofs.YteiohkpjgcioaaaGreatDoor
open Go Go.AL
theorem ae8 (x y:aT):Bv [(x.f:Int),(x.l:Int),(x.t:Int)] [(y.f:Int),(y.l:Int),(y.t:Int)]=iH x y:=by
 have key:∀ (a b:Nat) (u v:List Int),cmpL ((a:Int)::u) ((b:Int)::v)=if cI a b≠0 then cI a b else cmpL u v:=λa b u v=>by
  rw[cmpL];unfold cI;by_cases h1:a<b
  .rw[if_pos (by omega),if_pos h1,if_pos (by decide)]
  .rw[if_neg (by omega),if_neg h1]
   by_cases h2:b<a
   .rw[if_pos (by omega),if_pos h2,if_pos (by decide)]
   .rw[if_neg (by omega),if_neg h2,if_neg (by decide)]
 unfold Bv iH;rw[if_neg (by simp),key,key,key]
 congr 2
 split
 .rfl
 .rename_i h;rw[show cmpL [] []=0 from rfl];exact (Decidable.not_not.1 h).symm
def bW (l:List aT)(i:Nat):List aT:=(l.take i).foldl wG []
theorem uV {l:List aT}{i:Nat}(hi:i<l.length):bW l (i+1)=wG (bW l i) (l.getD i default):=by
 unfold bW;rw[take_snoc default hi,List.foldl_append];rfl
theorem au2 (out:List aT)(x:aT):(wG out x).length<=out.length+1:=by
 unfold wG
 split
 .rw[List.length_set];omega
 .rw[jT,List.length_cons,List.length_take,List.length_drop];omega
theorem aH2 {k:Nat}{out:List aT}{x:aT}(h:ad5 k out)(hx:sz x.q<=134217728):ad5 (k+1) (wG out x):=by
 have up:∀ y,sz y<=(k+1)*134217730->sz y<=(k+1+1)*134217730:=λy hy=>Nat.le_trans hy (Nat.mul_le_mul_right _ (Nat.le_succ _));intro y hy;unfold wG at hy
 split at hy
 .rename_i hc;rcases List.mem_or_eq_of_mem_set hy with hy|rfl
  .exact up _ (h y hy)
  .have h1:=h _ (getD_mem hc.1 default);have h2:=vz (out.getD (qJ out x) default).q x.q;show sz ((out.getD (qJ out x) default).q+x.q)<=_
   omega
 .rcases BO hy with hy|hy
  .exact up _ (h y (List.mem_of_mem_take hy))
  .rcases List.mem_cons.1 hy with rfl|hy
   .omega
   .exact up _ (h y (List.mem_of_mem_drop hy))
theorem VR (l:List aT):∀ i,(bW l i).length<=i
 | 0=>Nat.le_refl _
 | i + 1 => by
  have ih:=VR l i;rcases Nat.lt_or_ge i l.length with h|h
  .rw[uV h];have:=au2 (bW l i) (l.getD i default);omega
  .unfold bW at *;rw[List.take_of_length_le h] at ih;rw[List.take_of_length_le (by omega)];omega
theorem MJ {l:List aT}(hz:∀ x,x ∈ l->sz x.q<=134217728):∀ i,ad5 i (bW l i)
 | 0=>λx hx=>by cases hx
 | i + 1 => by
  rcases Nat.lt_or_ge i l.length with h|h
  .rw[uV h];exact aH2 (MJ hz i) (hz _ (getD_mem h default))
  .have e:bW l (i+1)=bW l i:=by unfold bW;rw[List.take_of_length_le h,List.take_of_length_le (by omega)]
   rw[e];exact λx hx=>Nat.le_trans (MJ hz i x hx) (Nat.mul_le_mul_right _ (Nat.le_succ _))
theorem au3 (l:List aT):QC (bW l l.length)=uT l:=by unfold bW uT;rw[List.take_length]
theorem au4 {out:List aT}{x:aT}{k:Nat}(hk:k<=out.length)(h:∀ j,j<k->iH (out.getD j default) x<0)(h2:k=out.length \/ ¬ iH (out.getD k default) x<0):qJ out x=k:=by
 unfold qJ;have get:∀ j,j<out.length->out[j]? = some (out.getD j default):=λj hj=>by rw[iZ,sU hj];rfl
 rcases Nat.lt_or_ge k out.length with hl|hl
 .have hn:¬ iH (out.getD k default) x<0:=h2.resolve_left (by omega)
  refine (List.findIdx_eq hl).2 ⟨?_,λj hj=>?_⟩
  .have e:out[k]=out.getD k default:=by rw[iZ,sU hl];rfl
   rw[e];exact decide_eq_true hn
  .have e:out[j]=out.getD j default:=by rw[iZ,sU (by omega)];rfl
   rw[e];exact decide_eq_false (λk9=>k9 (h j hj))
 .have hk9:k=out.length:=by omega
  subst hk9;refine List.findIdx_eq_length.2 λy hy=>?_;obtain⟨j,hj,rfl⟩:=List.mem_iff_getElem.1 hy;have e:out[j]=out.getD j default:=by rw[iZ,sU hj];rfl
  rw[e];exact decide_eq_false (λk9=>k9 (h j hj))
theorem JI {l:List aT}{i:Nat}(hi:i<l.length):QC (l.take (i+1))=QC (l.take i)++(if (l.getD i default).q≠0 then [l.getD i default] else []):=by
 rw[take_snoc default hi];unfold QC;rw[List.filter_append];congr 1;by_cases h:(l.getD i default).q≠0
 .rw[if_pos h];simp only[List.filter_cons,decide_eq_true h,List.filter_nil,if_true]
 .rw[if_neg h];simp only[List.filter_cons,decide_eq_false h,List.filter_nil];rfl
theorem OZ {l m:List Int}(nl:l.length<=1099511627776):ai P F.nT [.d (ints l),.d (ints m)] (.d (dI (Bv l m))):=by
 refine ai.intro fn.nT (by rfl) (by rfl) (au (by rfl)) λE hE=>(AW.sg hE rfl (ay rfl (OL.nil (AW.seq (AW.sg hE rfl (ah rfl (eH sl.ints rfl rfl ?_)))))))
 refine ah rfl (eH sl.ints rfl rfl (bU rfl rfl rfl (OL.nil (AW.cond rfl (λhn=>?_) (λhn=>?_)))))
 .have hn:l.length≠m.length:=λe=>L6 hn (by rw[e])
  refine AW.seq (AW.sg hE rfl (ah rfl (eH sl.ints rfl rfl (ah rfl (eH sl.ints rfl rfl (aN rfl rfl rfl (OL.nil ?_)))))));refine AW.cond rfl (λhlt=>?_) (λhlt=>?_)
  .have hlt:l.length<m.length:=by have:=jC hlt;omega
   exact AW.sg hE rfl (ay rfl (OL.nil (AW.ret (aH.r ⟨_,.tmp rfl .nil,.le (aZ.int (by unfold Bv;rw[if_pos hn,if_pos hlt]))⟩))))
  .have hlt:¬ l.length<m.length:=by have:=kK hlt;omega
   exact AW.skip (AW.sg hE rfl (ay rfl (OL.nil (AW.ret (aH.r ⟨_,.tmp rfl .nil,.le (aZ.int (by unfold Bv;rw[if_pos hn,if_neg hlt]))⟩)))))
 .have hn:l.length=m.length:=by have:=J3 hn;omega
  rw[show Bv l m=cmpL l m from if_neg (by omega)]
  refine AW.skip (AW.seq (AW.sg hE rfl (ay rfl (OL.nil (AW.block ?_)))));refine AW.aK (α:=Nat) [(0,_),(1,_)] [] (λi=>[(5,.d (dI i))]) (λi=>[]) (λi=>i<=l.length/\cmpL l m=cmpL (l.drop i) (m.drop i)) (λi=>l.length-i) 0 (.cons (bM rfl) (.cons (bM rfl) .nil)) .nil ⟨⟨Nat.zero_le _,rfl⟩,.bC,.nil⟩ ?_
  rintro i ⟨h1,h3⟩
  have h1:i<=l.length:=h1;have h3:cmpL l m=cmpL (l.drop i) (m.drop i):=h3;refine AW.seq (AW.sg hE rfl (ah rfl (ah rfl (eH sl.ints rfl rfl (aN rfl rfl rfl (OL.nil (AW.cond rfl (λh19=>?_) (λh19=>?_))))))))
  .try simp only[bY] at h19
   refine AW.skip (AW.seq (AW.block (AW.seq (AW.seq (AW.dg 1 [0,1,2,3,4,5,6,7,8] aj hE rfl (by kernel_rfl) (OI.aP (os:=[_,_,_,_,_,_,_,_,_]) rfl ?_))))))
   refine ah rfl (ah rfl (bg sl.ints 0 rfl rfl (by omega) rfl rfl (bP ce.int rfl (ah rfl (ah rfl (bg sl.ints 0 rfl rfl (by omega) rfl rfl (bP ce.int rfl ?_)))))))
   refine aN rfl rfl rfl (OL.nil (AW.cond rfl (λha=>?_) (λha=>?_)))
   .have ha:=jC ha;exact AW.sg hE rfl (ay rfl (OL.nil (AW.ret (aH.r ⟨_,.tmp rfl .nil,.le (aZ.int (by rw[h3,KJ (by omega) (by omega),show D9 (l.getD i 0) (m.getD i 0) = -1 from if_pos ha,if_neg (by decide)]))⟩))))
   .have ha:=kK ha;refine AW.skip (AW.seq (AW.dg 1 [0,1,2,3,4,5,6,7,8] aj hE rfl (by kernel_rfl) (OI.aP (os:=[_,_,_,_,_,_,_,_,_]) rfl ?_)))
    refine ah rfl (ah rfl (bg sl.ints 0 rfl rfl (by omega) rfl rfl (bP ce.int rfl (ah rfl (ah rfl (bg sl.ints 0 rfl rfl (by omega) rfl rfl (bP ce.int rfl ?_)))))))
    refine iI rfl rfl rfl (OL.nil (AW.cond rfl (λhb=>?_) (λhb=>?_)))
    .have hb:=jC hb;exact AW.sg hE rfl (ay rfl (OL.nil (AW.ret (aH.r ⟨_,.tmp rfl .nil,.le (aZ.int (by rw[h3,KJ (by omega) (by omega),show D9 (l.getD i 0) (m.getD i 0)=1 by unfold D9;rw[if_neg ha,if_pos hb],if_neg (by decide)]))⟩))))
    .have hb:=kK hb;exact AW.skip (AW.rg hE rfl (ah rfl (aB rfl rfl (by omega) (ay rfl (OL.nil (AW.again (x:=i) (i+1) (by omega) ⟨⟨by omega,by rw[h3,KJ (by omega) (by omega),if_pos (by unfold D9;rw[if_neg ha,if_neg hb])]⟩,Knows.app .dR .bC,.nil⟩))))))
  .try simp only[bY] at h19
   exact AW.exit (AW.sg hE rfl (ay rfl (OL.nil (AW.ret (aH.r ⟨_,.tmp rfl .nil,.le (aZ.int (by rw[h3,List.drop_eq_nil_of_le (show l.length<=i by omega),List.drop_eq_nil_of_le (show m.length<=i by omega),cmpL]))⟩)))))
theorem Zr {x y:aT}:ai P F.Bj [KG x,KG y] (.d (dI (iH x y))):=by
 refine ai.intro fn.Bj (by rfl) (by rfl) (au (by rfl)) λE hE=>(AW.sg hE rfl (iC rfl rfl λb2=>(iC rfl rfl λb3=>(ay rfl (OL.nil (AW.sg hE rfl (aF fd.LC rfl rfl ?_)))))))
 refine ak ce.int rfl rfl rfl (aF fd.Fb rfl rfl (ak ce.int rfl rfl rfl (aF fd.Ht rfl rfl (ak ce.int rfl rfl rfl (Hr (ys:=[dI x.f,dI x.l,dI x.t]) sl.ints rfl (pdC (VC.d _).vd (pdC (VC.d _).vd (pdC (VC.d _).vd pdN))) rfl (by decide) (by decide) (λy hy=>by simp at hy;rcases hy with rfl|rfl|rfl <;> rfl) (aF fd.LC rfl rfl (ak ce.int rfl rfl rfl ?_)))))))
 refine aF fd.Fb rfl rfl (ak ce.int rfl rfl rfl (aF fd.Ht rfl rfl (ak ce.int rfl rfl rfl (Hr (ys:=[dI y.f,dI y.l,dI y.t]) sl.ints rfl (pdC (VC.d _).vd (pdC (VC.d _).vd (pdC (VC.d _).vd pdN))) rfl (by decide) (by decide) (λy hy=>by simp at hy;rcases hy with rfl|rfl|rfl <;> rfl) (aY rfl vL (OZ (l:=[(x.f:Int),(x.l:Int),(x.t:Int)]) (m:=[(y.f:Int),(y.l:Int),(y.t:Int)]) (show 3<=1099511627776 by decide)) ?_)))))
 rw[ae8];exact ay rfl (OL.nil (AW.ret (aH.r ⟨_,.tmp rfl .nil,.le vR⟩)))
theorem aH3 {l:List Rat}(nl:l.length<=64)(hz:∀ x,x ∈ l->sz x<=134217728):kR P F.Ac [l7,.d (yE l)] l.length T.aA 8 (l.map dW):=by
 refine kR.intro fn.Ac (by rfl) (by rfl) (au (by rfl)) 4 rfl λE hE=>(AW.sg hE rfl (iC rfl rfl λb2=>(oq rfl (OL.nil (AW.sg hE rfl (oq rfl (OL.nil ?_)))))))
 refine AW.seq (AW.seq (AW.own 5 21 T.aA 8 rfl rfl (AW.rg hE rfl (ay rfl (OL.nil (AW.block ?_))))));refine AW.aK (α:=Nat × Nat × Nat) [(1,_),(2,_),(4,_)] [(2,_)] (λ(i,bq,cq)=>[(5,.bJ 21 bq i cq),(6,.d (dI i))]) (λ(i,bq,cq)=>[(21,.row bq cq T.aA 8 ((l.take i).map dW))]) (λ(i,bq,cq)=>i<=l.length) (λ(i,bq,cq)=>l.length-i) (0,0,0) (.cons (bM rfl) (.cons (fG rfl) (.cons (zi rfl) .nil))) (.cons (iJ rfl) .nil) ⟨Nat.zero_le _,.dR,.cons rfl .nil⟩ ?_
 rintro⟨i,bq,cq⟩ h1
 have h1:i<=l.length:=h1;refine AW.seq (AW.sg hE rfl (ah rfl (ah rfl (eH sl.aS rfl rfl (aN rfl rfl rfl (OL.nil (AW.cond rfl (λh10=>?_) (λh10=>?_))))))))
 .try simp only[bY] at h10
  refine AW.skip (AW.seq (AW.block ?_));have hx:=hz (l.getD i 0) (getD_mem (by omega) 0)
  refine AW.dg 2 [0,1,2,3,4,5,6,7,8,9] aj hE rfl (by kernel_rfl) (OI.aP (os:=[_,_,_,_,_,_,_,_,_,_]) rfl ?_)
  refine fQ rfl (aG ag.Ring rfl rfl (vs:=[_,_]) rfl (au rfl) (ah rfl (ah rfl (bg sl.aS 0 rfl rfl (by omega) rfl rfl (iU ag.aA rfl (vs:=[_,_,_,_,_,_,_,_]) rfl (au rfl) (aY rfl vL (KQ (q:=(l.getD i 0)) (by omega)) (tC (y:=dW (l.getD i 0)) sl.aS G8 rfl (by decide) ?_)))))))
  refine yG sl.aS rfl rfl rfl (by rw[dF,List.length_take];omega) (VC.d _) (λy hy=>by rw[qm hy];rfl) (by simp;omega) (by simp;omega) (.inr rfl) (ys:=(l.take (i+1)).map dW) (by rw[take_snoc 0 (show i<l.length by omega),List.map_append];rfl) (n2:=i+1) rfl λb2 c2=>?_
  exact uj rfl (OL.nil (AW.rg hE rfl (ah rfl (aB rfl rfl (by omega) (ay rfl (OL.nil (AW.again (x:=(i,bq,cq)) (i+1,b2,c2) (by (simp only[];omega)) ⟨by omega,Knows.app .wL .dR,bn.app (.cons rfl .nil) (.cons rfl .nil)⟩)))))))
 .try simp only[bY] at h10
  refine AW.exit (AW.seq ?_);obtain rfl:i=l.length:=by omega
  have e9:l.take l.length=l:=List.take_length;exact AW.rg hE rfl (fQ rfl (uj rfl (OL.nil (AW.ret ⟨.inr rfl,21,bq,cq,(l.take l.length).map dW,rfl,rfl,by rw[e9,dF];exact Nat.le_refl _,by rw[e9];exact List.take_of_length_le (by rw[dF];exact Nat.le_refl _)⟩))))
theorem au5 {l:List Rat}(nl:l.length<=64)(hz:∀ x,x ∈ l->sz x<=134217728):ai P F.Ac [l7,.d (yE l)] (.d (yE l)):=kR.data (aH3 nl hz) (dF ..).symm
theorem aT1  : ai P F.DU [l7] (l7):=by
 refine ai.intro fn.DU (by rfl) (by rfl) (au (by rfl)) λE hE=>(AW.sg hE rfl (iC rfl rfl λb1=>(al z.Ring rfl λb2=>(OL.nil (AW.seq (AW.dg 2 [0,1,2,3,4,5,6] aj hE rfl (by kernel_rfl) (OI.aP (os:=[_,_,_,_,_,_,_]) rfl ?_)))))))
 refine aF fd.nX rfl rfl (ak ce.int rfl rfl rfl (aF fd.J5 rfl rfl (ak ce.ints rfl rfl rfl (UD sl.ints rfl rfl (VC.d _) (λy hy=>by cases hy) (by decide) (by decide) (bd z.Ring pl.Ring (cs:=[_,_]) rfl (dA sz.Ring rfl rfl rfl rfl rfl (au rfl) (cells2:=[_,_]) rfl (OL.nil ?_)))))))
 exact AW.ret (aH.r ⟨_,.dD rfl rfl ag.Ring (au rfl) .nil,.ag (.cons (.le vR) (.cons (.le vR) .nil))⟩)
theorem Zt {s:Nat}(hs:1<=s/\s<=32):ai P F.vX [.d (dI s)] (.d (dB true)):=by
 refine ai.intro fn.vX (by rfl) (by rfl) (au (by rfl)) λE hE=>(AW.sg hE rfl (ay rfl (OL.nil (AW.sg hE rfl (ah rfl (lG rfl rfl (c:=true) (by exact decide_eq_true (by omega)) (ah rfl ?_)))))))
 exact OL.yes rfl (ah rfl (OL.yes rfl (x8 rfl rfl (c:=true) (by exact decide_eq_true (by omega)) (iV rfl rfl (ay rfl (OL.nil (AW.ret (aH.r ⟨_,.tmp rfl .nil,.le vR⟩))))))))
theorem aH4 {v lo hi:Int}(h:lo<=v/\v<=hi):ai P F.Jj [.d (dI v),.d (dI lo),.d (dI hi)] (.d (dB true)):=by
 refine ai.intro fn.Jj (by rfl) (by rfl) (au (by rfl)) λE hE=>(AW.sg hE rfl (ay rfl (OL.nil (AW.sg hE rfl (ah rfl (ah rfl (lG rfl rfl (c:=true) (by exact decide_eq_true (by omega)) ?_)))))))
 refine ah rfl (OL.yes rfl (ah rfl (OL.yes rfl (ah rfl (OL.yes rfl (x8 rfl rfl (c:=true) (by exact decide_eq_true (by omega)) (iV rfl rfl ?_)))))))
 exact ay rfl (OL.nil (AW.ret (aH.r ⟨_,.tmp rfl .nil,.le vR⟩)))
theorem aH5 {l:List Rat}{i:Nat}(hi:i<l.length):(l.map dW)[i]? = some (dW (l.getD i 0)):=by rw[List.getElem?_map,iZ,sU hi];rfl
theorem Zu {p q:Rat}(hp:sz p<=68719476736)(hq:sz q<=68719476736):ai P F.A7 [l7,vW p,vW q] (vW (p*q)):=by
 refine ai.intro fn.A7 (by rfl) (by rfl) (au (by rfl)) λE hE=>(AW.sg hE rfl (iC rfl rfl λb3=>(iC rfl rfl λb4=>(iC rfl rfl λb5=>(al z.aA rfl λb6=>(OL.nil (AW.seq ?_)))))))
 refine AW.sg hE rfl (aG ag.Ring rfl rfl (vs:=[_,_]) rfl (au rfl) (aY rfl .bC (GK) (nt rfl (OL.nil (jD rfl ?_)))));refine AW.skip (AW.seq (AW.dg 1 [0,1,2,3,4,5,6,7] aj hE rfl (by kernel_rfl) (OI.aP (os:=[_,_,_,_,_,_,_,_]) rfl ?_)))
 refine aG ag.Ring rfl rfl (vs:=[_,_]) rfl (au rfl) (aG ag.aA rfl rfl (vs:=[_,_,_,_,_,_,_,_]) rfl (au rfl) (aY rfl vL (KQ hp) (aG ag.Ring rfl rfl (vs:=[_,_]) rfl (au rfl) (aG ag.aA rfl rfl (vs:=[_,_,_,_,_,_,_,_]) rfl (au rfl) (aY rfl vL (KQ hq) (dA sz.aA rfl rfl rfl rfl rfl (au rfl) (cells2:=[_,_,_,_,_,_,_,_]) rfl (dA sz.aA rfl rfl rfl rfl rfl (au rfl) (cells2:=[_,_,_,_,_,_,_,_]) rfl ?_)))))));refine OL.nil (AW.seq (AW.sg hE rfl (aF fd.nX rfl rfl (ak ce.int rfl rfl rfl (OL.nil (AW.block (AW.seq ?_)))))));refine AW.sg hE rfl (dm rfl rfl (c:=true) (by exact decide_eq_true (by omega)) (ay rfl (OL.nil (Hl rfl ?_))))
 refine AW.skip (Hl rfl ?_);refine AW.sg hE rfl (aF fd.iP rfl rfl (aG ag.Rat rfl rfl (vs:=[_,_,_]) rfl (au rfl) (aF fd.iP rfl rfl (aG ag.Rat rfl rfl (vs:=[_,_,_]) rfl (au rfl) (aY rfl vL (OY (x:=p) (y:=q) hp hq) (bd z.aA pl.aA (cs:=[_,_,_,_,_,_,_,_]) rfl (dA sz.aA rfl rfl rfl rfl rfl (au rfl) (cells2:=[_,_,_,_,_,_,_,_]) rfl ?_)))))));exact OL.nil (AW.ret (aH.r ⟨_,.dD rfl rfl ag.aA (au rfl) .nil,.le KH⟩))
theorem QW {l:List Rat}(nl:l.length<=64)(hz:∀ x,x ∈ l->sz x<=134217728):ai P F.xN [l7,.d (yE l),.d (dI l.length)] (.d (dB true)):=by
 refine ai.intro fn.xN (by rfl) (by rfl) (au (by rfl)) λE hE=>(AW.sg hE rfl (iC rfl rfl λb3=>(ay rfl (OL.nil (AW.seq (AW.sg hE rfl (ah rfl ?_)))))))
 refine eH sl.aS rfl rfl (ah rfl (bU rfl rfl (c:=false) (eF rfl) (OL.nil (jD rfl ?_))));refine AW.skip (AW.seq (AW.sg hE rfl (ay rfl (OL.nil (AW.block ?_)))));refine AW.aK (α:=Nat) [(1,_),(2,_),(3,_)] [(3,_)] (λi=>[(7,.d (dI i))]) (λi=>[]) (λi=>i<=l.length) (λi=>l.length-i) 0 (.cons (bM rfl) (.cons (bM rfl) (.cons (fG rfl) .nil))) (.cons (iJ rfl) .nil) ⟨Nat.zero_le _,.bC,.nil⟩ ?_
 rintro i h1
 have h1:i<=l.length:=h1;refine AW.seq (AW.sg hE rfl (ah rfl (ah rfl (aN rfl rfl rfl (OL.nil (AW.cond rfl (λAO=>?_) (λAO=>?_)))))))
 .try simp only[bY] at AO
  refine AW.skip (AW.seq (AW.block (AW.seq ?_)));have hx:=hz (l.getD i 0) (getD_mem (by omega) 0)
  refine AW.dg 1 [0,1,2,3,4,5,6] aj hE rfl (by kernel_rfl) (OI.aP (os:=[_,_,_,_,_,_,_]) rfl ?_)
  refine aG ag.Ring rfl rfl (vs:=[_,_]) rfl (au rfl) (ah rfl (ah rfl (bg sl.aS 0 rfl rfl (by omega) rfl rfl (iU ag.aA rfl (vs:=[_,_,_,_,_,_,_,_]) rfl (au rfl) (aY rfl vL (Tt (q:=(l.getD i 0)) (by omega)) (nt rfl (OL.nil ?_)))))))
  refine jD rfl ?_;exact AW.skip (AW.rg hE rfl (ah rfl (aB rfl rfl (by omega) (ay rfl (OL.nil (AW.again (x:=i) (i+1) (by omega) ⟨by omega,Knows.app .wL .bC,bn.app (.cons rfl .nil) (.nil)⟩))))))
 .try simp only[bY] at AO
  exact AW.exit (AW.sg hE rfl (ay rfl (OL.nil (AW.ret (aH.r ⟨_,.tmp rfl .nil,.le vR⟩)))))
theorem X3 {n i:Nat}(h:i<n):(List.replicate n (0:Rat)).take (i+1)=(List.replicate n (0:Rat)).take i++[0]:=by
 rw[List.take_replicate,List.take_replicate,Nat.min_eq_left h,Nat.min_eq_left (Nat.le_of_lt h),List.replicate_succ']
structure Au.Wt (a:Au):Prop where
 ok:a.Ok
 sz:a.Sz 6 20
 s2:a.sym<=32
 st:a.st<=64
theorem Au.Wt.wide {a:Au}(f:Au.Wt a):a.Sz 134217728 20:=f.sz.up (by decide) (Nat.le_refl _)
theorem SQ {a:Au}(f:Au.Wt a){v:List Rat}{B s i j:Nat}(hv:∀ i,sz (v.getD i 0)<=B):sz ((jo a.st v s (a.aX.take i)).getD j 0)<=20*(B+7)+1:=by
 have h2:(a.aX.take i).length<=a.aX.length:=by rw[List.length_take];exact Nat.min_le_right ..
 exact as7 hv (λx hx=>⟨(f.ok.arc x (List.mem_of_mem_take hx)).2.1,f.sz.arc x (List.mem_of_mem_take hx)⟩) (Nat.le_trans h2 f.sz.num)
theorem aT2 {v out:List Rat}{s:Nat}{x:aT}(h:x.l=s):OH v s out x=out.set x.t (out.getD x.t 0+v.getD x.f 0*x.q):=if_pos h
theorem aT3 {v out:List Rat}{s:Nat}{x:aT}(h:¬ x.l=s):OH v s out x=out:=if_neg h
theorem aH6 {w:List Int}{s:Nat}(hs:1<=s/\s<=32)(hw:G6 s w)(hl:w.length<=256):ai P F.Be [.d (ints w),.d (dI s)] (.d (dB true)):=by
 refine ai.intro fn.Be (by rfl) (by rfl) (au (by rfl)) λE hE=>(AW.sg hE rfl (ay rfl (OL.nil (AW.seq (AW.sg hE rfl (ah rfl (aY rfl vL (Zt (s:=s) hs) ?_)))))))
 refine nt rfl (ah rfl (OL.yes rfl (ah rfl (OL.yes rfl (eH sl.ints rfl rfl (OL.yes rfl (iI rfl rfl (c:=false) (by exact decide_eq_false (by omega)) ?_)))))))
 refine eG rfl rfl (OL.nil (jD rfl ?_));refine AW.skip (AW.seq (AW.sg hE rfl (ay rfl (OL.nil (AW.block (AW.aK (α:=Nat) [(0,_),(1,_)] [] (λi=>[(5,.d (dI i))]) (λi=>[]) (λi=>i<=w.length) (λi=>w.length-i) 0 (.cons (bM rfl) (.cons (bM rfl) .nil)) .nil ⟨Nat.zero_le _,.bC,.nil⟩ ?_))))))
 rintro i h1
 have h1:i<=w.length:=h1;refine AW.seq (AW.sg hE rfl (ah rfl (ah rfl (eH sl.ints rfl rfl (aN rfl rfl rfl (OL.nil (AW.cond rfl (λh17=>?_) (λh17=>?_))))))))
 .try simp only[bY] at h17
  refine AW.skip (AW.seq (AW.block (AW.seq ?_)));have hx:=hw (w.getD i 0) (getD_mem (by omega) 0)
  refine AW.rg hE rfl (ah rfl (ah rfl (bg sl.ints 0 rfl rfl (by omega) rfl rfl (bP ce.int rfl (aN rfl rfl (c:=false) (by exact decide_eq_false (by omega)) (ah rfl (OL.yes rfl ?_)))))))
  refine ah rfl (OL.yes rfl (ah rfl (OL.yes rfl (bg sl.ints 0 rfl rfl (by omega) rfl rfl (OL.yes rfl (bP ce.int rfl (OL.yes rfl ?_)))))))
  refine ah rfl (OL.yes rfl (iI rfl rfl (c:=false) (by exact decide_eq_false (by omega)) (eG rfl rfl (OL.nil (jD rfl ?_)))))
  exact AW.skip (AW.rg hE rfl (ah rfl (aB rfl rfl (by omega) (ay rfl (OL.nil (AW.again (x:=i) (i+1) (by omega) ⟨by omega,Knows.app .dR .bC,.nil⟩))))))
 .try simp only[bY] at h17
  exact AW.exit (AW.sg hE rfl (ay rfl (OL.nil (AW.ret (aH.r ⟨_,.tmp rfl .nil,.le vR⟩)))))
theorem aH7 {n:Nat}(hn:n<=64):kR P F.Bf [l7,.d (dI n)] n T.aA 8 ((List.replicate n (0:Rat)).map dW):=by
 have hzl:(List.replicate n (0:Rat)).length=n:=List.length_replicate;refine kR.intro fn.Bf (by rfl) (by rfl) (au (by rfl)) 4 rfl λE hE=>(AW.sg hE rfl (iC rfl rfl λb2=>(oq rfl (OL.nil (AW.sg hE rfl (oq rfl (OL.nil ?_)))))))
 refine AW.seq (AW.seq (AW.own 5 16 T.aA 8 rfl rfl (AW.rg hE rfl (ay rfl (OL.nil (AW.block ?_))))));refine AW.aK (α:=Nat × Nat × Nat) [(1,_),(2,_),(4,_)] [(2,_)] (λ(i,bq,cq)=>[(5,.bJ 16 bq i cq),(6,.d (dI i))]) (λ(i,bq,cq)=>[(16,.row bq cq T.aA 8 (((List.replicate n (0:Rat)).take i).map dW))]) (λ(i,bq,cq)=>i<=n) (λ(i,bq,cq)=>n-i) (0,0,0) (.cons (bM rfl) (.cons (fG rfl) (.cons (zi rfl) .nil))) (.cons (iJ rfl) .nil) ⟨Nat.zero_le _,.dR,.cons rfl .nil⟩ ?_
 rintro⟨i,bq,cq⟩ h1
 have h1:i<=n:=h1;refine AW.seq (AW.sg hE rfl (ah rfl (ah rfl (aN rfl rfl rfl (OL.nil (AW.cond rfl (λh9=>?_) (λh9=>?_)))))))
 .try simp only[bY] at h9
  refine AW.skip (AW.seq (AW.block (AW.rg hE rfl (fQ rfl (aG ag.Ring rfl rfl (vs:=[_,_]) rfl (au rfl) (aY rfl vL (XZ) (tC (y:=dW 0) sl.aS G8 rfl (by decide) ?_)))))))
  refine yG sl.aS rfl rfl rfl (by rw[dF,List.length_take];omega) (VC.d _) (λy hy=>by rw[qm hy];rfl) (by simp only[nN];omega) (by simp only[nN];omega) (.inr rfl) (ys:=((List.replicate n (0:Rat)).take (i+1)).map dW) (by rw[X3 (by omega),List.map_append];rfl) (n2:=i+1) rfl λb16 c16=>?_
  exact uj rfl (OL.nil (AW.rg hE rfl (ah rfl (aB rfl rfl (by omega) (ay rfl (OL.nil (AW.again (x:=(i,bq,cq)) (i+1,b16,c16) (by (simp only[];omega)) ⟨by omega,Knows.app .wL .dR,bn.app (.cons rfl .nil) (.cons rfl .nil)⟩)))))))
 .try simp only[bY] at h9
  refine AW.exit (AW.seq ?_);obtain rfl:i=n:=by omega
  have e9:(List.replicate i (0:Rat)).take i=List.replicate i 0:=List.take_of_length_le (by omega)
  exact AW.rg hE rfl (fQ rfl (uj rfl (OL.nil (AW.ret ⟨.inr rfl,16,bq,cq,((List.replicate i (0:Rat)).take i).map dW,rfl,rfl,by rw[e9,dF];omega,by rw[e9];exact List.take_of_length_le (by rw[dF];omega)⟩))))
