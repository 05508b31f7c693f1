/-
  Walks of package weigh: the weight of a word (printed by mk2.py).
-/
import Derived.Test.YteiohkpjgcioaaaGreatDoorKWkI
set_option maxHeartbeats 1600000
set_option linter.unusedVariables false
set_option linter.unusedSimpArgs false
namespace Go.AL
open Go Go.BigFrame
section
variable {r:kV}{w t:List Rat}{rs:List kV}{k n:Nat}
theorem PO.last (z:PO 16777215 rs)(hl:rs.length<=6)(zv:∀ i,sz (w.getD i 0)<=16777215):(∀ i,sz ((nK rs w).getD i 0)<=68719476735)/\∀ i,sz ((BK rs w).getD i 0)<=68719476735:=by
 have h4:4 ^ rs.length*(16777215+1)<=68719476736:=by
  have:=Nat.pow_le_pow_right (n:=4) (by decide) hl
  have:=Nat.mul_le_mul_right (16777215+1) this;omega
 have h1:=λi=>z.red zv i;have h2:=λi=>z.Oa (by decide) zv rs.length i
 refine⟨λi=>?_,λi=>?_⟩
 .have:=h1 i;omega
 .have:=h2 i;unfold BK;omega
end
section
variable {a b:Au}{B k:Nat}{l out:List aT}{x:aT}
theorem as4 (h:∀ y,y ∈ out->sz y.q<=(k+1)*(B+2))(hx:sz x.q<=B):∀ y,y ∈ wG out x->sz y.q<=(k+2)*(B+2):=by
 have up:∀ n,n<=(k+1)*(B+2)->n<=(k+2)*(B+2):=λn hn=>Nat.le_trans hn (Nat.mul_le_mul_right _ (by omega))
 intro y hy;have h2:(k+2)*(B+2)=(k+1)*(B+2)+(B+2):=Nat.succ_mul _ _;unfold wG at hy
 split at hy
 .rename_i hc;rcases List.mem_or_eq_of_mem_set hy with hy|rfl
  .exact up _ (h y hy)
  .have h1:=h _ (getD_mem hc.1 default);have h3:=vz (out.getD (qJ out x) default).q x.q;show sz ((out.getD (qJ out x) default).q+x.q)<=_
   omega
 .rcases BO hy with hy|hy
  .exact up _ (h y (List.mem_of_mem_take hy))
  .rcases List.mem_cons.1 hy with rfl|hy
   .omega
   .exact up _ (h y (List.mem_of_mem_drop hy))
theorem VB:∀ (l out:List aT) (k:Nat),(∀ x,x ∈ l->sz x.q<=B)->(∀ y,y ∈ out->sz y.q<=(k+1)*(B+2))->∀ y,y ∈ l.foldl wG out->sz y.q<=(k+l.length+1)*(B+2)
 | [],out,k,_,h=>h
 | x::l,out,k,hz,h=>by
  rw[List.foldl_cons,List.length_cons,show k+(l.length+1)+1=(k+1)+l.length+1 by omega]
  exact VB l _ (k+1) (λy hy=>hz y (List.mem_cons_of_mem _ hy)) (as4 h (hz x yD))
theorem ae0 (out:List aT)(x:aT):(wG out x).length<=out.length+1:=by
 unfold wG
 split
 .rw[List.length_set];omega
 .rw[jT,List.length_cons,List.length_take,List.length_drop];omega
theorem QR:∀ (l out:List aT),(l.foldl wG out).length<=out.length+l.length
 | [],out=>Nat.le_refl _
 | x::l,out=>by
  rw[List.foldl_cons,List.length_cons];have:=QR l (wG out x);have:=ae0 out x;omega
theorem Gy (l:List aT):(uT l).length<=l.length:=by
 unfold uT QC;refine Nat.le_trans (List.length_filter_le ..) ?_;have:=QR l [];rw[List.length_nil,Nat.zero_add] at this;exact this
theorem as5 (hz:∀ x,x ∈ l->sz x.q<=B):∀ y,y ∈ uT l->sz y.q<=(l.length+1)*(B+2):=λy hy=>by
 have:=VB l [] 0 hz (λy hy=>by cases hy) y (List.mem_filter.1 hy).1
 rwa [Nat.zero_add] at this
theorem Au.Sz.wide (h:a.Sz 1 10):a.Sz 134217728 20 :=
 ⟨λq hq=>Nat.le_trans (h.ini q hq) (by decide),λq hq=>Nat.le_trans (h.fin q hq) (by decide),λx hx=>Nat.le_trans (h.arc x hx) (by decide),Nat.le_trans h.num (by decide)⟩
theorem Au.Sz.form (h:a.Sz 1 10):(kH a).Sz 134217728 20:=by
 refine⟨h.wide.ini,h.wide.fin,λx hx=>?_,Nat.le_trans (Gy a.aX) (Nat.le_trans h.num (by decide))⟩
 have h1:=as5 h.arc x hx;have h2:=Nat.mul_le_mul_right (1+2) (show a.aX.length+1<=11 by have:=h.num;omega)
 omega
theorem Au.Few.form (h:a.Few):(kH a).Few:=⟨h.st,h.ini,h.fin,λs i j=>by rw[show gV (kH a).aX s i j=gV a.aX s i j from Gw];exact h.ent s i j⟩
end
section
variable {a b:Au}{B N K:Nat}{q:Rat}{s i j:Nat}
theorem Au.Sz.up {B2 N2:Nat}(h:a.Sz B N)(hb:B<=B2)(hn:N<=N2):a.Sz B2 N2 :=
 ⟨λq hq=>Nat.le_trans (h.ini q hq) hb,λq hq=>Nat.le_trans (h.fin q hq) hb,λx hx=>Nat.le_trans (h.arc x hx) hb,Nat.le_trans h.num hn⟩
end
section
variable {a b:Au}{n s i j k:Nat}{v w out:List Rat}{l:List aT}{x:aT}
theorem xu {α:Type}(d:α){l:List α}{i:Nat}(h:i<l.length):l.take (i+1)=l.take i++[l.getD i d]:=by
 rw[List.take_succ_eq_append_getElem h,iZ,sU h];rfl
def OH (v:List Rat)(s:Nat)(out:List Rat)(x:aT):List Rat:=if x.l=s then out.set x.t (out.getD x.t 0+v.getD x.f 0*x.q) else out
def jo (n:Nat)(v:List Rat)(s:Nat)(l:List aT):List Rat:=l.foldl (OH v s) (List.replicate n 0)
theorem VE:(OH v s out x).length=out.length:=by unfold OH;split <;> simp
theorem xw:(jo n v s l).length=n:=by
 have:∀ (l:List aT) (out:List Rat),(l.foldl (OH v s) out).length=out.length:=λl=>by
  induction l with
  | nil=>exact λ_=>rfl
  | cons x l ih=>exact λout=>by rw[List.foldl_cons,ih,VE]
 unfold jo;rw[this,List.length_replicate]
theorem Ei (h:i<l.length):jo n v s (l.take (i+1))=OH v s (jo n v s (l.take i)) (l.getD i default):=by
 unfold jo;rw[xu default h,List.foldl_append];rfl
theorem ae1 {l:List Rat}{y:Rat}(hi:i<l.length):(l.set i y).getD j 0=if i=j then y else l.getD j 0:=by
 rw[iZ,List.getElem?_set,iZ];by_cases h:i=j
 .subst h;rw[if_pos rfl,if_pos hi,if_pos rfl];rfl
 .rw[if_neg h,if_neg h]
def inF (v:List Rat)(s j:Nat)(x:aT):Rat:=if x.l=s/\x.t=j then v.getD x.f 0*x.q else 0
theorem QS:∀ (l:List aT) (out:List Rat),(∀ x,x ∈ l->x.t<out.length)->(l.foldl (OH v s) out).getD j 0=out.getD j 0+qC (inF v s j) l
 | [],out,_=>by rw[List.foldl_nil,qC,Rat.add_zero]
 | x :: l, out, h => by
  have hx:=h x yD;rw[List.foldl_cons,QS l _ (λy hy=>by rw[VE];exact h y (List.mem_cons_of_mem _ hy)),qC,<- Rat.add_assoc]
  congr 1;unfold OH inF;by_cases hl:x.l=s
  .rw[if_pos hl,ae1 hx];by_cases ht:x.t=j
   .rw[if_pos ht,if_pos ⟨hl,ht⟩,ht]
   .rw[if_neg ht,if_neg (λe=>ht e.2),Rat.add_zero]
  .rw[if_neg hl,if_neg (λe=>hl e.1),Rat.add_zero]
theorem Ti:(List.replicate n (0:Rat)).getD j 0=0:=by
 rw[iZ,List.getElem?_replicate]
 split <;> rfl
theorem KN (h:∀ x,x ∈ l->x.t<n):(jo n v s l).getD j 0=qC (inF v s j) l:=by
 unfold jo;rw[QS l _ (λx hx=>by rw[List.length_replicate];exact h x hx),Ti,Rat.zero_add]
theorem aG2 (l:List aT)(hf:∀ x,x ∈ l->x.f<n):dw (λi=>v.getD i 0*gV l k i j) n=qC (inF v (k+1) j) l:=by
 induction l with
 | nil=>rw[qC];exact oU λi _=>by rw[Ap,Rat.mul_zero]
 | cons x l ih =>
  rw[qC,<- ih λy hy=>hf y (List.mem_cons_of_mem _ hy)];have e:(λi=>v.getD i 0*gV (x::l) k i j)=λi=>v.getD i 0*yA k i j x+v.getD i 0*gV l k i j:=by
   funext i;rw[xk,Rat.mul_add]
  rw[e,CG];congr 1;unfold inF;by_cases hc:x.l=k+1/\x.t=j
  .rw[if_pos hc];have e2:(λi=>v.getD i 0*yA k i j x)=λi=>if x.f=i then v.getD i 0*x.q else 0:=by
    funext i;unfold yA;by_cases hi:x.f=i
    .rw[if_pos ⟨hi,hc.1,hc.2⟩,if_pos hi]
    .rw[if_neg (λe=>hi e.1),if_neg hi,Rat.mul_zero]
   rw[e2,Kr (v:=λi=>v.getD i 0*x.q) (hf x yD)]
  .rw[if_neg hc];exact oU λi _=>by
    unfold yA;rw[if_neg (λe=>hc ⟨e.2.1,e.2.2⟩),Rat.mul_zero]
theorem XU (ha:a.Ok)(s1:1<=s)(s2:s<=a.sym):jo a.st v s a.aX=stepM (iR [a]) v (s-1):=by
 have hn:(iR [a]).n=a.st:=kG;refine List.ext_getElem (by rw[xw,Ku,hn]) λj h1 h2=>?_
 rw[xw] at h1;have e1:(jo a.st v s a.aX)[j]=(jo a.st v s a.aX).getD j 0:=by rw[iZ,sU];rfl
 have e2:(stepM (iR [a]) v (s-1))[j]=(stepM (iR [a]) v (s-1)).getD j 0:=by rw[iZ,sU];rfl
 rw[e1,e2,KN λx hx=>(ha.arc x hx).2.1];unfold stepM;rw[hn,dM _ _ h1];have e3:s-1+1=s:=by omega
 rw[show qC (inF v s j) a.aX=qC (inF v (s-1+1) j) a.aX by rw[e3],<- aG2 (n:=a.st) a.aX λx hx=>(ha.arc x hx).1]
 refine dZ λi hi=>?_;rw[KD (l:=[a]) (by show s-1<a.sym;omega) (by rw[kG];exact hi) (by rw[kG];exact h1)]
 show _=_*(if i<a.st then (if j<a.st then gV a.aX (s-1) i j else 0) else _)
 rw[if_pos hi,if_pos h1]
def JE (a:Au)(u:List Int):List Rat:=u.foldl (λv x=>jo a.st v x.toNat a.aX) a.ini
theorem VF {u:List Int}(h:i<u.length):JE a (u.take (i+1))=jo a.st (JE a (u.take i)) (u.getD i 0).toNat a.aX:=by
 unfold JE;rw[xu 0 h,List.foldl_append];rfl
theorem MI (ha:a.Ok)(u:List Int):(JE a u).length=a.st:=by
 have:∀ (u:List Int) (v:List Rat),v.length=a.st->(u.foldl (λv x=>jo a.st v x.toNat a.aX) v).length=a.st:=λu=>by
  induction u with
  | nil=>exact λ_ h=>h
  | cons x u ih=>exact λv _=>ih _ xw
 exact this u a.ini ha.ini
theorem Tj (ha:a.Ok){u:List Int}(hu:G6 a.sym u):JE a u=iq (iR [a]) u:=by
 have:∀ (u:List Int) (v:List Rat),G6 a.sym u->u.foldl (λv x=>jo a.st v x.toNat a.aX) v=u.foldl (λv x=>stepM (iR [a]) v (x.toNat-1)) v:=λu=>by
  induction u with
  | nil=>exact λ_ _=>rfl
  | cons x u ih =>
   intro v hx;have h1:=hx x yD;rw[List.foldl_cons,List.foldl_cons,XU ha (by omega) (by omega)]
   exact ih _ λy hy=>hx y (List.mem_cons_of_mem _ hy)
 unfold JE iq;rw[this u a.ini hu,show (iR [a]).ini=a.ini from List.append_nil _]
def EH (v w:List Rat)(i:Nat):Rat:=dw (λi=>v.getD i 0*w.getD i 0) i
theorem VG (ha:a.Ok){u:List Int}(hu:G6 a.sym u):EH (JE a u) a.fin a.st=G7 a u:=by
 rw[Tj ha hu];unfold EH G7 U8 XF;rw[show (iR [a]).n=a.st from kG,show (iR [a]).fin=a.fin from List.append_nil _]
theorem as7 {B:Nat}(hv:∀ i,sz (v.getD i 0)<=B)(hl:∀ x,x ∈ l->x.t<n/\sz x.q<=6)(h10:l.length<=20):sz ((jo n v s l).getD j 0)<=20*(B+7)+1:=by
 rw[KN λx hx=>(hl x hx).1];have h1:=JD (f:=inF v s j) (C:=B+6) (l:=l) λx hx=>by
  unfold inF
  split
  .have:=jZ (v.getD x.f 0) x.q;have:=hv x.f;have:=(hl x hx).2;omega
  .rw[gJ];omega
 have h2:=Nat.mul_le_mul_right (B+6+1) h10;omega
end
end Go.AL
namespace Go.Proofs.YteiohkpjgcioaaaGreatDoor
open Go Go.AL
theorem fc.xe:Dc P T.Auto 3 4:=⟨by kernel_rfl⟩
theorem VH {n i:Nat}(h:i<n):(List.replicate n (0:Rat)).take (i+1)=(List.replicate n (0:Rat)).take i++[0]:=by
 rw[List.take_replicate,List.take_replicate,Nat.min_eq_left h,Nat.min_eq_left (Nat.le_of_lt h),List.replicate_succ']
theorem as8 {l:List Rat}{i:Nat}(hi:i<l.length):(l.map dW)[i]? = some (dW (l.getD i 0)):=by rw[List.getElem?_map,iZ,sU hi];rfl
theorem aG3 {v out:List Rat}{s:Nat}{x:aT}(h:x.l=s):OH v s out x=out.set x.t (out.getD x.t 0+v.getD x.f 0*x.q):=if_pos h
theorem aG4 {v out:List Rat}{s:Nat}{x:aT}(h:¬ x.l=s):OH v s out x=out:=if_neg h
theorem Tm {s:Nat}{w:List Int}(hw:G6 s w)(hl:w.length<=256)(hs:1<=s/\s<=32):ai P F.rf [.d (ints w),.d (dI s)] (.d (dB true)) :=
 rf (h:=⟨s,0,0,[],[],[],[],[],[]⟩) ⟨hl,hw⟩ hs
theorem KO (a:Au):Fv (fM a) a:=⟨rfl,rfl,rfl,rfl,λ_ _ _=>CP⟩
theorem OJ (a:Au):G7 (fM a)=G7 a:=(KO a).ser
theorem Gz {a:Au}(h:a.Ok):(fM a).Ok:=⟨h.qR,h.ini,h.fin,gu.tidy (p:=λf l t=>f<a.st/\t<a.st/\1<=l/\l<=a.sym) h.arc⟩
structure aS2 (a:Au) (v:List Rat) (s:Nat):Prop where
 zv:∀ j,sz (v.getD j 0)<=17179869184
 zq:∀ x,x ∈ a.aX->sz x.q<=17179869184
 zs:∀ i j,sz ((jo a.st v s (a.aX.take i)).getD j 0)<=17179869184
structure VI (a:Au) (w:List Int):Prop where
 st:∀ k,k<w.length->aS2 a (JE a (w.take k)) (w.getD k 0).toNat
 zv:∀ j,sz ((JE a w).getD j 0)<=17179869184
 zf:∀ j,sz (a.fin.getD j 0)<=17179869184
 zd:∀ i,i<=a.st->sz (EH (JE a w) a.fin i)<=17179869184
theorem aS3 {a:Au}(hn:a.st<=64):kR P F.Bh [Gx a] a.st T.aA 8 ((List.replicate a.st (0:Rat)).map dW):=by
 have hzl:(List.replicate a.st (0:Rat)).length=a.st:=List.length_replicate;refine kR.intro fn.Bh (by rfl) (by rfl) (au (by rfl)) 2 rfl λE hE=>(AW.sg hE rfl (iC rfl rfl λb1=>(oq rfl (OL.nil (AW.sg hE rfl (oq rfl (OL.nil ?_)))))))
 refine AW.seq (AW.seq (AW.own 3 13 T.aA 8 rfl rfl (AW.rg hE rfl (aF fd.rD rfl rfl (ak ce.int rfl rfl rfl (ah rfl (OL.nil ?_)))))));refine AW.block ?_;refine AW.aK (α:=Nat × Nat × Nat) [(1,_),(2,_),(5,_)] [(1,_)] (λ(i,bq,cq)=>[(3,.bJ 13 bq i cq),(6,.d (dI i))]) (λ(i,bq,cq)=>[(13,.row bq cq T.aA 8 (((List.replicate a.st (0:Rat)).take i).map dW))]) (λ(i,bq,cq)=>i<=a.st) (λ(i,bq,cq)=>a.st-i) (0,0,0) (.cons (fG rfl) (.cons (zi rfl) (.cons (bM rfl) .nil))) (.cons (iJ rfl) .nil) ⟨Nat.zero_le _,.dR,.cons rfl .nil⟩ ?_
 rintro⟨i,bq,cq⟩ h1
 have h1:i<=a.st:=h1;refine AW.sg hE rfl (aN rfl rfl rfl (OL.nil (AW.seq (AW.cond rfl (λh7=>?_) (λh7=>?_)))))
 .try simp only[bY] at h7
  refine AW.skip (AW.seq (AW.block (AW.rg hE rfl (fQ rfl (aF fd.kU rfl rfl (aG ag.Ring rfl rfl (vs:=[_,_]) rfl (au rfl) (aY rfl vL (QF) ?_)))))));refine tC (y:=dW 0) sl.aS G8 rfl (by decide) ?_
  refine yG sl.aS rfl rfl rfl (by rw[dF,List.length_take];omega) (VC.d _) (λy hy=>by rw[qm hy];rfl) (by simp only[nN];omega) (by simp only[nN];omega) (.inr rfl) (ys:=((List.replicate a.st (0:Rat)).take (i+1)).map dW) (by rw[VH (by omega),List.map_append];rfl) (n2:=i+1) rfl λb13 c13=>?_
  exact uj rfl (OL.nil (AW.rg hE rfl (aB rfl rfl (by omega) (ah rfl (OL.nil (AW.again (x:=(i,bq,cq)) (i+1,b13,c13) (by (simp only[];omega)) ⟨by omega,Knows.app .wL .dR,bn.app (.cons rfl .nil) (.cons rfl .nil)⟩))))))
 .try simp only[bY] at h7
  refine AW.exit (AW.seq ?_);obtain rfl:i=a.st:=by omega
  have e9:(List.replicate a.st (0:Rat)).take a.st=(List.replicate a.st (0:Rat)):=List.take_of_length_le (by omega)
  exact AW.rg hE rfl (fQ rfl (uj rfl (OL.nil (AW.ret ⟨.inr rfl,13,bq,cq,((List.replicate a.st (0:Rat)).take a.st).map dW,rfl,rfl,by rw[e9,dF];omega,by rw[e9];exact List.take_of_length_le (by rw[dF];omega)⟩))))
set_option maxRecDepth 8000 in
theorem ba2 {a:Au}{v:List Rat}{s:Nat}(h:a.Ok)(hv:v.length=a.st)(zz:aS2 a v s)(s2:a.st<=64)(e3:a.aX.length<=2048):ai P F.DK [Gx a,.d (yE v),.d (dI s)] (.d (yE (jo a.st v s a.aX))):=by
 refine ai.intro fn.DK (by rfl) (by rfl) (au (by rfl)) λE hE=>(AW.sg hE rfl (iC rfl rfl λb3=>(oq rfl (OL.nil (AW.sg hE rfl (aG ag.Auto rfl rfl (vs:=[_,_,_,_,_,_,_]) rfl (au rfl) (clR rfl .bC (aS3 (a:=a) s2) rfl λb11 c11=>?_)))))))
 refine uj rfl (OL.nil (AW.seq (AW.sg hE rfl (aF fd.lX rfl rfl (ak ce.cZ rfl rfl rfl (eH sl.cZ rfl rfl (ah rfl ?_)))))));refine OL.nil (AW.block ?_);refine AW.aK (α:=Nat) [(1,_),(2,_),(3,_),(6,_),(7,_),(13,_),(14,_)] [(3,_)] (λi=>[(15,.d (dI i))]) (λi=>[(11,.row b11 c11 T.aA 8 ((jo a.st v s (a.aX.take i)).map dW))]) (λi=>i<=a.aX.length) (λi=>a.aX.length-i) 0 (.cons (bM rfl) (.cons (bM rfl) (.cons (fG rfl) (.cons (zi rfl) (.cons (uH rfl) (.cons (bM rfl) (.cons (bM rfl) .nil))))))) (.cons (iJ rfl) .nil) ⟨Nat.zero_le _,.bC,.cons rfl .nil⟩ ?_
 rintro i h1
 have h1:i<=a.aX.length:=h1;have hsl:(jo a.st v s (a.aX.take i)).length=a.st:=xw;refine AW.sg hE rfl (aN rfl rfl rfl (OL.nil (AW.seq (AW.cond rfl (λh16=>?_) (λh16=>?_)))))
 .try simp only[bY] at h16
  refine AW.skip (AW.seq (AW.block (AW.seq ?_)));have hm:=getD_mem (l:=a.aX) (i:=i) (by omega) default
  obtain⟨hx1,hx2,hx3,hx4⟩:=h.arc (a.aX.getD i default) hm;have hxz:=zz.zq (a.aX.getD i default) hm;have hz1:=zz.zv (a.aX.getD i default).f;have hz2:=zz.zs i (a.aX.getD i default).t;have hz3:=jZ (v.getD (a.aX.getD i default).f 0) (a.aX.getD i default).q;refine AW.rg hE rfl (bg sl.cZ default rfl rfl (by omega) rfl rfl (iU ag.mD rfl (vs:=[_,_,_,_,_,_,_,_,_,_,_]) rfl (au rfl) (al z.mD rfl λb9=>(dA sz.mD rfl rfl rfl rfl rfl (au rfl) (cells2:=[_,_,_,_,_,_,_,_,_,_,_]) rfl (OL.nil (AW.sg hE rfl (aF fd.Fb rfl rfl ?_)))))))
  refine ak ce.int rfl rfl rfl (ah rfl (dm rfl rfl rfl (OL.nil (AW.cond rfl (λhc=>?_) (λhc=>?_)))))
  .have hc:(a.aX.getD i default).l=s:=by have:=jC hc;omega
   refine AW.dg 1 [0,1,2,3,4,5,6,7,8,9,10,11,12,13,14,15,16,17,18,19,20,21,22] aj hE rfl (by kernel_rfl) (OI.aP (os:=[_,_,_,_,_,_,_,_,_,_,_,_,_,_,_,_,_,_,_,_,_,_,_]) rfl ?_)
   refine fQ rfl (aF fd.Ht rfl rfl (ak ce.int rfl rfl rfl (aF fd.kU rfl rfl (aG ag.Ring rfl rfl (vs:=[_,_]) rfl (au rfl) (fQ rfl (aF fd.Ht rfl rfl (ak ce.int rfl rfl rfl ?_)))))));refine dV sl.aS rfl rfl (by omega) ?_
   refine wS ag.aA (by decide) rfl rfl (as8 (show (a.aX.getD i default).t<(jo a.st v s (a.aX.take i)).length by omega)) (vs:=[.d (dB (eU ((jo a.st v s (a.aX.take i)).getD (a.aX.getD i default).t 0)).neg),.d (aC (eU ((jo a.st v s (a.aX.take i)).getD (a.aX.getD i default).t 0)).num),.d (aC (eU ((jo a.st v s (a.aX.take i)).getD (a.aX.getD i default).t 0)).den),.d (dI 0),.d (dB false),.d (dU 0),.d (.sl []),.d (.sl [])]) rfl (au rfl) ?_
   refine aF fd.kU rfl rfl (aG ag.Ring rfl rfl (vs:=[_,_]) rfl (au rfl) (ah rfl (aF fd.LC rfl rfl (ak ce.int rfl rfl rfl (bg sl.aS 0 rfl rfl (by omega) rfl rfl (iU ag.aA rfl (vs:=[_,_,_,_,_,_,_,_]) rfl (au rfl) (aF fd.wz rfl rfl ?_)))))))
   refine aG ag.aA rfl rfl (vs:=[_,_,_,_,_,_,_,_]) rfl (au rfl) (aY rfl vL (aq4 (p:=v.getD (a.aX.getD i default).f 0) (q:=(a.aX.getD i default).q) (by omega) (by omega)) (aY rfl vL (QG (p:=(jo a.st v s (a.aX.take i)).getD (a.aX.getD i default).t 0) (q:=v.getD (a.aX.getD i default).f 0*(a.aX.getD i default).q) (by omega) (by omega)) (dV sl.aS rfl rfl (by omega) ?_)))
   refine AA sz.aA rfl (d:=dW ((jo a.st v s (a.aX.take i)).getD (a.aX.getD i default).t 0+v.getD (a.aX.getD i default).f 0*(a.aX.getD i default).q)) G8 rfl rfl (by rw[dF];omega) (es2:=((jo a.st v s (a.aX.take i)).set (a.aX.getD i default).t ((jo a.st v s (a.aX.take i)).getD (a.aX.getD i default).t 0+v.getD (a.aX.getD i default).f 0*(a.aX.getD i default).q)).map dW) (by rw[List.map_set]) ?_
   refine OL.nil (AW.rg hE rfl (aB rfl rfl (by omega) (ah rfl (OL.nil ?_))))
   exact AW.again (x:=i) (i+1) (by omega) ⟨by omega,Knows.app .Nw .bC,bn.app (.cons rfl .nil) (.cons (by rw[Ei (by omega),aG3 hc];rfl) .nil)⟩
  .have hc:¬ (a.aX.getD i default).l=s:=by have:=kK hc;omega
   refine AW.skip (AW.rg hE rfl (aB rfl rfl (by omega) (ah rfl (OL.nil ?_))))
   exact AW.again (x:=i) (i+1) (by omega) ⟨by omega,Knows.app .Nw .bC,bn.app (.cons rfl .nil) (.cons (by rw[Ei (by omega),aG4 hc];rfl) .nil)⟩
 .try simp only[bY] at h16
  refine AW.exit (AW.seq ?_);obtain rfl:i=a.aX.length:=by omega
  exact AW.rg hE rfl (fQ rfl (uj rfl (OL.nil (AW.ret (aH.r ⟨_,.tmp rfl .nil,RO.all rfl rfl (by rw[dF,xw]) (by rw[List.take_length])⟩)))))
theorem bk0 {v u:List Rat}{n:Nat}(hv:v.length=n)(hu:u.length=n)(hn:n<=64)(zv:∀ i,sz (v.getD i 0)<=17179869184)(zu:∀ i,sz (u.getD i 0)<=17179869184)(zd:∀ i,i<=n->sz (EH v u i)<=17179869184):ai P F.Gf [l7,.d (yE v),.d (yE u)] (vW (EH v u n)):=by
 refine ai.intro fn.Gf (by rfl) (by rfl) (au (by rfl)) λE hE=>(AW.sg hE rfl (iC rfl rfl λb3=>(al z.aA rfl λb6=>(OL.nil (AW.sg hE rfl (aG ag.Ring rfl rfl (vs:=[_,_]) rfl (au rfl) (aY rfl vL (QF) ?_)))))))
 refine al z.aA rfl λb7=>(dA sz.aA rfl rfl rfl rfl rfl (au rfl) (cells2:=[_,_,_,_,_,_,_,_]) rfl (OL.nil (AW.seq (AW.sg hE rfl (ah rfl (eH sl.aS rfl rfl (ah rfl ?_)))))));refine OL.nil (AW.block ?_);refine AW.aK (α:=Nat) [(1,_),(2,_),(3,_),(6,_),(7,_),(12,_)] [(3,_),(6,_)] (λi=>[(13,.d (dI i))]) (λi=>[(7,.box b7 T.aA [.d (dB (eU (EH v u i)).neg),.d (aC (eU (EH v u i)).num),.d (aC (eU (EH v u i)).den),.d (dI 0),.d (dB false),.d (dU 0),.d (.sl []),.d (.sl [])])]) (λi=>i<=n) (λi=>n-i) 0 (.cons (bM rfl) (.cons (bM rfl) (.cons (fG rfl) (.cons (fG rfl) (.cons (fG rfl) (.cons (bM rfl) .nil)))))) (.cons (iJ rfl) (.cons (iJ rfl) .nil)) ⟨Nat.zero_le _,.bC,.cons rfl .nil⟩ ?_
 rintro i h1
 have h1:i<=n:=h1;have z1:=zv i;have z2:=zu i;have z3:=jZ (v.getD i 0) (u.getD i 0);have z4:=zd i h1;refine AW.sg hE rfl (aN rfl rfl rfl (OL.nil (AW.seq (AW.cond rfl (λAO=>?_) (λAO=>?_)))))
 .try simp only[bY] at AO
  refine AW.skip (AW.seq (AW.block (AW.sg hE rfl (ah rfl (ay rfl (OL.nil (AW.dg 1 [0,1,2,3,4,5,6,7,8,9,10,11,12,13] aj hE rfl (by kernel_rfl) (OI.aP (os:=[_,_,_,_,_,_,_,_,_,_,_,_,_,_]) rfl ?_))))))))
  refine aG ag.Ring rfl rfl (vs:=[_,_]) rfl (au rfl) (aG ag.aA rfl rfl (vs:=[_,_,_,_,_,_,_,_]) rfl (au rfl) (aG ag.Ring rfl rfl (vs:=[_,_]) rfl (au rfl) (ah rfl (ah rfl (bg sl.aS 0 rfl rfl (by omega) rfl rfl (iU ag.aA rfl (vs:=[_,_,_,_,_,_,_,_]) rfl (au rfl) (ah rfl ?_)))))))
  refine ah rfl (bg sl.aS 0 rfl rfl (by omega) rfl rfl (iU ag.aA rfl (vs:=[_,_,_,_,_,_,_,_]) rfl (au rfl) (aY rfl vL (aq4 (p:=v.getD i 0) (q:=u.getD i 0) (by omega) (by omega)) (aY rfl vL (QG (p:=(EH v u i)) (q:=v.getD i 0*u.getD i 0) (by omega) (by omega)) (dA sz.aA rfl rfl rfl rfl rfl (au rfl) (cells2:=[_,_,_,_,_,_,_,_]) rfl (OL.nil (AW.rg hE rfl ?_)))))))
  refine aB rfl rfl (by omega) (ah rfl (OL.nil ?_))
  exact AW.again (x:=i) (i+1) (by omega) ⟨by omega,Knows.app .Lj .bC,bn.app (.cons rfl (.cons rfl .nil)) (.cons rfl .nil)⟩
 .try simp only[bY] at AO
  refine AW.exit (AW.seq ?_);obtain rfl:i=n:=by omega
  refine AW.rg hE rfl (aG ag.aA rfl rfl (vs:=[_,_,_,_,_,_,_,_]) rfl (au rfl) (dA sz.aA rfl rfl rfl rfl rfl (au rfl) (cells2:=[_,_,_,_,_,_,_,_]) rfl (OL.nil ?_)));exact AW.ret (aH.r ⟨_,.dD rfl rfl ag.aA (au rfl) .nil,.ag (.cons (.le vR) (.cons (.le vR) (.cons (.le vR) (.cons (.le vR) (.cons (.le vR) (.cons (.le vR) (.cons (.le vR) (.cons (.le vR) .nil))))))))⟩)
