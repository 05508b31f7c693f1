/-
  Walks of layers 22 and 23 of the specification, part 1: vectors (printed by mk2.py).
-/
import Derived.Test.YtnjoncgnjdkaoaaGreatDoorKWkY
set_option maxHeartbeats 800000
set_option linter.unusedVariables false
set_option linter.unusedSimpArgs false
namespace Go.Proofs.YtnjoncgnjdkaoaaGreatDoor
open Go Go.AL
theorem aQ9 {l:List Rat}:∀ y,y ∈ l.map dQ->y.cells.length=3:=λy hy=>by obtain⟨a,_,rfl⟩:=jY hy;rfl
theorem Qn {v:List Rat}{i:Nat}(h:∀ j,j<i->v.getD j 0=0)(h0:v.getD i 0=0):∀ j,j<i+1->v.getD j 0=0:=λj hj=>by
 rcases Nat.lt_or_ge j i with g|g
 .exact h j g
 .rw[show j=i by omega];exact h0
abbrev Qo (v w:List Rat)(c:Rat)(i:Nat):List Rat:=(BI v w c).take i
theorem WT {v w:List Rat}{c:Rat}{i:Nat}(h:i<v.length):Qo v w c (i+1)=Qo v w c i++[v.getD i 0-w.getD i 0*c]:=by
 unfold Qo;rw[oW 0 (by rw[I8];exact h)]
 congr 2;exact aK _ _ h
theorem Fv {rs:List bJ}{w:List Rat}:BJ (aQ rs w)<0 ↔ bg rs w=false:=by
 unfold BJ bg
 split
 .rename_i h;rw[decide_eq_true h];constructor
  .intro;omega
  .intro k;cases k
 .rename_i h;rw[decide_eq_false h];exact⟨λ_=>rfl,λ_=>by decide⟩
def Ey:List bJ->List Rat->List Rat->List Rat
 | [],_,t=>t
 | r::rs,w,t=>Ey rs (iQ w r) (BI t r.c (ou w r))
theorem NT:∀ (rs:List bJ) (w t:List Rat),(Ey rs w t).length=t.length
 | [],_,_=>rfl
 | r::rs,w,t=>by rw[Ey,NT rs,I8]
theorem Qp {r:bJ}:∀ (a:List bJ) (w t:List Rat),Ey (a++[r]) w t=BI (Ey a w t) r.c (ou (aQ a w) r)
 | [],_,_=>rfl
 | x::a,w,t=>by rw[List.cons_append,Ey,Ey,aQ,Qp a]
theorem ZN {rs:List bJ}{w t:List Rat}{k:Nat}(hk:k<rs.length):Ey (rs.take (k+1)) w t=BI (Ey (rs.take k) w t) (rs.getD k default).c (ou (aQ (rs.take k) w) (rs.getD k default)):=by rw[Gl hk,Qp]
abbrev dSK (r:bJ):D:=.ag [iG r.v,iG r.c]
abbrev vSK (r:bJ):V:=.ag [.d (iG r.v),.d (iG r.c)]
abbrev Yo (b c:Nat)(rs:List bJ):iF:=.row b c T.row 2 (rs.map dSK)
theorem a92 {r:bJ}:VD (vSK r) (dSK r):=VD.ag (.cons (VC.d _) (.cons (VC.d _) .nil))
theorem Io {rs:List bJ}{i:Nat}(hi:i<rs.length):(rs.map dSK)[i]? = some (dSK (rs.getD i default)):=by rw[List.getElem?_map,gI,kL hi];rfl
structure Yp (n N:Nat) (rs:List bJ):Prop where
 len:∀ r,r ∈ rs->r.v.length=n
 piv:∀ r,r ∈ rs->r.p=dV r.v/\r.p<n/\r.v.getD r.p 0≠0
 cl:∀ r,r ∈ rs->r.c.length=N
 zr:Ko 16777215 rs
 le:rs.length<=6
theorem ap9 {t c:List Rat}{q:Rat}{T C:Nat}(ht:∀ i,sz (t.getD i 0)<=T)(hc:∀ i,sz (c.getD i 0)+sz q<=C)(i:Nat):sz ((BI t c q).getD i 0)<=T+C+1:=by
 unfold BI;refine Ho t.length (f:=λi=>t.getD i 0-c.getD i 0*q) (by omega) (λi=>?_) i
 have h1:=QR (t.getD i 0) (c.getD i 0*q);have h2:=lU (c.getD i 0) q;have h3:=ht i;have h4:=hc i;omega
theorem U8 {B:Nat}:∀ (rs:List bJ) (j:Nat) (w t:List Rat),(∀ k r,rs[k]? = some r->(∀ i,sz (r.v.getD i 0)+1<=4 ^ (j+k)*(B+1))/\∀ i,sz (r.c.getD i 0)+1<=4 ^ (j+k)*(B+1))->(∀ i,sz (w.getD i 0)+1<=4 ^ j*(B+1))->(∀ i,sz (t.getD i 0)+1<=4 ^ j*(B+1)) ->
  ∀ i,sz ((Ey rs w t).getD i 0)+1<=4 ^ (j+rs.length)*(B+1)
 | [],_,_,_,_,_,ht,i=>ht i
 | r :: rs, j, w, t, h, hw, ht, i => by
  have h0:=h 0 r rfl;rw[Nat.add_zero] at h0;have:=U8 rs (j+1) (iQ w r) (BI t r.c (ou w r)) (λk q hq=>by
   have:=h (k+1) q hq
   rwa [show j+(k+1)=j+1+k by omega] at this) (λi=>by
   have:=Go.AL.Hq hw h0.1 i
   rwa [Nat.pow_succ,Nat.mul_comm (4 ^ j),Nat.mul_assoc]) (λi=>by
   have h2:=V8 hw h0.1;have:=ap9 (t:=t) (c:=r.c) (q:=ou w r) (T:=4 ^ j*(B+1)-1) (C:=3*(4 ^ j*(B+1))-3) (λi=>by have:=ht i;omega) (λi=>by have:=h0.2 i;omega) i
   have h3:=hw 0;rw[Nat.pow_succ,Nat.mul_comm (4 ^ j),Nat.mul_assoc];omega) i
  rwa [Ey,List.length_cons,show j+(rs.length+1)=j+1+rs.length by omega]
theorem Yp.bounds {n N k:Nat}{rs:List bJ}{w:List Rat}(z:Yp n N rs)(hk:k<rs.length)(zw:∀ i,sz (w.getD i 0)<=16777215) :
  (∀ i,sz ((aQ (rs.take k) w).getD i 0)<=17179869183)/\(∀ i,sz ((Ey (rs.take k) w (List.replicate N 0)).getD i 0)<=17179869183)/\(∀ i,sz ((rs.getD k default).v.getD i 0)<=17179869183)/\∀ i,sz ((rs.getD k default).c.getD i 0)<=17179869183:=by
 obtain⟨h1,_,h3,h4⟩:=z.zr.bounds (n:=N) z.le hk zw;refine⟨h1,λi=>?_,h3,h4⟩;have ht:(rs.take k).length=k:=by rw[List.length_take];omega
 have hle:=z.le;have hb:=JI (show k<=5 by omega)
 have h:=U8 (B:=16777215) (rs.take k) 0 w (List.replicate N 0) (λk r hk=>by rw[Nat.zero_add];exact (z.zr.take _) k r hk) (λi=>by rw[Nat.pow_zero,Nat.one_mul];have:=zw i;omega) (λi=>by rw[Nat.pow_zero,Nat.one_mul,MJ,fK];decide) i
 rw[Nat.zero_add,ht] at h;omega
theorem Yq {x y:Raw}(hx:x.Ok)(hy:y.Ok)(h0:y.q≠0):aj P F.Ba [qc x,qc y] (vQ (x.q / y.q)):=by
 have a1:=DV hx hx.ln hx.ld (by decide)
 have a2:=DV hy hy.ln hy.ld (by decide)
 have sn1:=jT x.q;have sn2:=jT y.q;have sd1:=jU x.q;have sd2:=jU y.q;have hn0:y.q.num.natAbs≠0:=λe=>h0 (Rat.num_eq_zero.1 (by omega))
 have m1:=fQ x.q.num.natAbs y.q.den;have m2:=fQ x.q.den y.q.num.natAbs;have dd0:=Nat.mul_ne_zero x.q.den_nz hn0;have hp:=VN (s:=decide (x.q.num<0)) (t:=decide (y.q.num<0)) (a:=x.q.num.natAbs) x.q.den_nz y.q.den_nz hn0;rw[lT,lT] at hp;refine aj.intro fn.Ba (by rfl) (by rfl) (aA (by rfl)) λE hE=>(AW.sg hE rfl (gW rfl rfl λb2=>(gW rfl rfl λb3=>(al z.Rat rfl λb4=>(OL.nil (AW.seq (AW.dg 1 [0,1,2,3,4,5] au hE rfl (by kernel_rfl) (OI.aS (os:=[_,_,_,_,_,_]) rfl ?_))))))))
 refine aN ag.Rat rfl rfl (vs:=[_,_,_]) rfl (aA rfl) (bF rfl .di (ve (by assumption)) (aN ag.Rat rfl rfl (vs:=[_,_,_]) rfl (aA rfl) (bF rfl .di (ve (by assumption)) (fG sz.Rat rfl rfl rfl rfl rfl (aA rfl) (cells2:=[_,_,_]) rfl (fG sz.Rat rfl rfl rfl rfl rfl (aA rfl) (cells2:=[_,_,_]) rfl (OL.nil (AW.seq ?_)))))))
 refine AW.dg 1 [0,1,2,3,4,5,6,7,8,9,10,11,12,13,14,15,16] au hE rfl (by kernel_rfl) (OI.aS (os:=[_,_,_,_,_,_,_,_,_,_,_,_,_,_,_,_,_]) rfl ?_)
 refine aV fd.qE rfl rfl (aG ce.bool rfl rfl rfl (aV fd.qE rfl rfl (aG ce.bool rfl rfl rfl (neb bt.bool rfl rfl (aV fd.pW rfl rfl (aG ce.aF rfl rfl rfl (aN ag.Rat rfl rfl (vs:=[_,_,_]) rfl (aA rfl) ?_)))))));refine bF rfl .di (Ar) (bF rfl vL (tV (a:=x.q.num.natAbs) (b:=y.q.den) (by omega) (by omega)) (aN ag.Rat rfl rfl (vs:=[_,_,_]) rfl (aA rfl) (bF rfl .di (Ar) (aV fd.pW rfl rfl (aG ce.aF rfl rfl rfl (bF rfl vL (tV (a:=x.q.den) (b:=y.q.num.natAbs) (by omega) (by omega)) (bF rfl vL (Bg (s:=(decide (x.q.num<0) != decide (y.q.num<0))) (by omega) (by omega) dd0) ?_)))))))
 rw[<- hp];exact fG sz.Rat rfl rfl rfl rfl rfl (aA rfl) (cells2:=[_,_,_]) rfl (OL.nil (AW.ret (aO.r ⟨_,.dL rfl rfl ag.Rat (aA rfl) .nil,.ag (.cons (.le vR) (.cons (.le vR) (.cons (.le vR) .nil)))⟩)))
theorem aF2 {x y:Raw}(hx:x.Ok)(hy:y.Ok)(h0:y.q≠0):aj P F.Bc [qc x,qc y] (.jE [vQ (x.q / y.q),.d (dI 0)]):=by
 refine aj.intro fn.Bc (by rfl) (by rfl) (aA (by rfl)) λE hE=>(AW.sg hE rfl (gW rfl rfl λb2=>(gW rfl rfl λb3=>(al z.Rat rfl λb4=>(aC rfl (OL.nil (AW.seq ?_)))))))
 refine AW.sg hE rfl (aN ag.Rat rfl rfl (vs:=[_,_,_]) rfl (aA rfl) (bF rfl vL (TB hy) (dG rfl rfl rfl (OL.nil (AW.cond rfl (λhno=>absurd hno (by rw[decide_eq_false λe=>h0 (lY.1 e)];decide)) (λ_=>?_))))))
 refine AW.skip (AW.sg hE rfl (aN ag.Rat rfl rfl (vs:=[_,_,_]) rfl (aA rfl) (aN ag.Rat rfl rfl (vs:=[_,_,_]) rfl (aA rfl) (bF rfl vL (Yq hx hy h0) (fG sz.Rat rfl rfl rfl rfl rfl (aA rfl) (cells2:=[_,_,_]) rfl (aC rfl (OL.nil ?_)))))));exact AW.ret (aO.r ⟨_,.dL rfl rfl ag.Rat (aA rfl) (.tmp rfl .nil),_,.cons (.ag (.cons (.le vR) (.cons (.le vR) (.cons (.le vR) .nil)))) (.cons (.le vR) .nil),rfl⟩)
theorem aq0 {x y:Rat}(hx:sz x<=68719476736)(hy:sz y<=68719476736)(h0:y≠0):aj P F.Bc [vQ x,vQ y] (.jE [vQ (x / y),.d (dI 0)]):=by
 have h:=aF2 (x:=fP x) (y:=fP y) (jo (by omega)) (jo (by omega)) (by rw[kz];exact h0)
 rw[kz,kz] at h;exact h
theorem aq1 {x y:Rat}(hx:sz x<=68719476736)(hy:sz y<=68719476736)(h0:y≠0):aj P F.Ba [vQ x,vQ y] (vQ (x / y)):=by
 have h:=Yq (x:=fP x) (y:=fP y) (jo (by omega)) (jo (by omega)) (by rw[kz];exact h0)
 rw[kz,kz] at h;exact h
theorem aR1 {v u:List Rat}{n:Nat}(hv:v.length=n)(hu:u.length=n)(hn:n<=64)(zv:∀ i,sz (v.getD i 0)<=16777215)(zu:∀ i,sz (u.getD i 0)<=16777215):aj P F.EM [.d (iG v),.d (iG u)] (vQ (zH v u n)):=by
 refine aj.intro fn.EM (by rfl) (by rfl) (aA (by rfl)) λE hE=>(AW.sg hE rfl (al z.Rat rfl λb4=>(OL.nil (AW.sg hE rfl (bd z.Rat pl.Rat (cs:=[_,_,_]) rfl (al z.Rat rfl λb5=>(fG sz.Rat rfl rfl rfl rfl rfl (aA rfl) (cells2:=[_,_,_]) rfl ?_)))))))
 refine OL.nil (AW.seq (AW.sg hE rfl (aC rfl (OL.nil (AW.block (AW.DX 5 (Le 0) rfl aK9 ?_))))));refine AW.aU (α:=Nat) [(0,_),(1,_),(4,_),(5,_)] [(4,_)] (λi=>[(6,.d (dI i))]) (λi=>[(5,.box b5 T.Rat (Le (zH v u i)))]) (λi=>i<=n) (λi=>n-i) 0 (.cons (bY rfl) (.cons (bY rfl) (.cons (iJ rfl) (.cons (iJ rfl) .nil)))) (.cons (kC rfl) .nil) ⟨Nat.zero_le _,.di,.cons rfl .nil⟩ ?_
 rintro i h1
 have h1:i<=n:=h1;have z1:=zv i;have z2:=zu i;have z3:=lU (v.getD i 0) (u.getD i 0);have z4:sz (zH v u i)<=1+i*(33554430+1):=LZ i λj _=>by have:=lU (v.getD j 0) (u.getD j 0);have:=zv j;have:=zu j;omega
 refine AW.seq (AW.sg hE rfl (ai rfl (ai rfl (fJ sl.bT rfl rfl (aX rfl rfl rfl (OL.split 11 rfl (λha=>?_) (λha=>?_)))))))
 .have ha:i<n:=by have:=kK ha;omega
  refine ai rfl (OL.yes rfl (ai rfl (OL.yes rfl (ai rfl (OL.yes rfl (fJ sl.bT rfl rfl (OL.yes rfl ?_)))))));refine aX rfl rfl (c:=true) (decide_eq_true (by omega)) (lJ rfl rfl (OL.nil (J4 rfl ?_)))
  refine AW.skip (AW.seq (AW.block (AW.dg 1 [0,1,2,3,4,5,6,7,8,9,10,11] au hE rfl (by kernel_rfl) (OI.aS (os:=[_,_,_,_,_,_,_,_,_,_,_,_]) rfl ?_))))
  refine aN ag.Rat rfl rfl (vs:=[_,_,_]) rfl (aA rfl) (ai rfl (ai rfl (fM sl.bT 0 rfl rfl (by omega) rfl rfl (jS ag.Rat rfl (vs:=[_,_,_]) rfl (aA rfl) (ai rfl (ai rfl (fM sl.bT 0 rfl rfl (by omega) rfl rfl ?_)))))))
  refine jS ag.Rat rfl (vs:=[_,_,_]) rfl (aA rfl) (bF rfl vL (Eu (x:=v.getD i 0) (y:=u.getD i 0) (by omega) (by omega)) (bF rfl vL (LM (x:=zH v u i) (y:=v.getD i 0*u.getD i 0) (by omega) (by omega)) (fG sz.Rat rfl rfl rfl rfl rfl (aA rfl) (cells2:=[_,_,_]) rfl (OL.nil (AW.rg hE rfl (ai rfl (aH rfl rfl (by omega) ?_)))))))
  exact aC rfl (OL.nil (AW.again (x:=i) (i+1) (by omega) ⟨by omega,Knows.app .GL .di,dw.app (.cons rfl .nil) (.cons rfl .nil)⟩))
 .have ha:¬ i<n:=by have:=lD ha;omega
  obtain rfl:i=n:=by omega
  refine ai rfl (OL.nd rfl (OL.nd rfl (OL.nd rfl (OL.nd rfl (jZ rfl rfl (OL.nil (oz rfl ?_)))))));exact AW.exit (AW.sg hE rfl (aN ag.Rat rfl rfl (vs:=[_,_,_]) rfl (aA rfl) (fG sz.Rat rfl rfl rfl rfl rfl (aA rfl) (cells2:=[_,_,_]) rfl (OL.nil (AW.ret (aO.r ⟨_,.dL rfl rfl ag.Rat (aA rfl) .nil,.ag (.cons (.le vR) (.cons (.le vR) (.cons (.le vR) .nil)))⟩))))))
theorem aF3 {l:List Rat}(nl:l.length<=64)(hz:∀ i,sz (l.getD i 0)<=68719476736):aj P F.CW [.d (iG l)] (.d (iG l)):=by
 refine aj.intro fn.CW (by rfl) (by rfl) (aA (by rfl)) λE hE=>(AW.sg hE rfl (jg rfl (OL.nil (AW.sg hE rfl (jg rfl (OL.nil (AW.seq ?_)))))))
 refine AW.seq (AW.own 3 18 T.Rat 3 rfl rfl (AW.rg hE rfl (aC rfl (OL.nil (AW.block ?_)))));refine AW.aU (α:=Nat × Nat × Nat) [(0,_),(2,_)] [] (λ(i,bq,cq)=>[(3,.bH 18 bq i cq),(4,.d (dI i))]) (λ(i,bq,cq)=>[(18,.row bq cq T.Rat 3 ((l.take i).map dQ))]) (λ(i,bq,cq)=>i<=l.length) (λ(i,bq,cq)=>l.length-i) (0,0,0) (.cons (bY rfl) (.cons (AO rfl) .nil)) .nil ⟨Nat.zero_le _,.gy,.cons rfl .nil⟩ ?_
 rintro⟨i,bq,cq⟩ h1
 have h1:i<=l.length:=h1;refine AW.seq (AW.sg hE rfl (ai rfl (ai rfl (fJ sl.bT rfl rfl (aX rfl rfl rfl (OL.nil (AW.cond rfl (λh8=>?_) (λh8=>?_))))))))
 .try simp only[eG] at h8
  refine AW.skip (AW.seq (AW.block ?_));have hx:=hz i;refine AW.rg hE rfl (gU rfl (ai rfl (ai rfl (fM sl.bT 0 rfl rfl (by omega) rfl rfl (jS ag.Rat rfl (vs:=[_,_,_]) rfl (aA rfl) (bF rfl vL (Qi (q:=l.getD i 0) (by omega)) (xe (y:=dQ (l.getD i 0)) sl.bT yP rfl (by decide) ?_)))))))
  refine zB sl.bT rfl rfl rfl (by rw[dD,List.length_take];omega) (VC.d _) (λy hy=>by rw[kJ hy];rfl) (by simp only[jL];omega) (by simp only[jL];omega) (.inr rfl) (ys:=(l.take (i+1)).map dQ) (by rw[oW 0 (by omega),List.map_append];rfl) (n2:=i+1) rfl λb18 c18=>?_
  exact oC rfl (OL.nil (AW.rg hE rfl (ai rfl (aH rfl rfl (by omega) (aC rfl (OL.nil (AW.again (x:=(i,bq,cq)) (i+1,b18,c18) (by (simp only[];omega)) ⟨by omega,Knows.app .gy .gy,.cons rfl .nil⟩)))))))
 .try simp only[eG] at h8
  refine AW.exit (AW.seq ?_);obtain rfl:i=l.length:=by omega
  exact AW.rg hE rfl (gU rfl (oC rfl (OL.nil (AW.ret (aO.r ⟨_,.tmp rfl .nil,RO.all rfl rfl (by simp) (by rw[List.take_length])⟩)))))
theorem WU {l:List Rat}(nl:l.length<=64):aj P F.wO [.d (tH l)] (.d (iG l)):=by
 refine aj.intro fn.wO (by rfl) (by rfl) (aA (by rfl)) λE hE=>(AW.sg hE rfl (jg rfl (OL.nil (AW.sg hE rfl (jg rfl (OL.nil (AW.seq ?_)))))))
 refine AW.seq (AW.own 3 18 T.Rat 3 rfl rfl (AW.rg hE rfl (aC rfl (OL.nil (AW.block ?_)))));refine AW.aU (α:=Nat × Nat × Nat) [(0,_),(2,_)] [] (λ(i,bq,cq)=>[(3,.bH 18 bq i cq),(4,.d (dI i))]) (λ(i,bq,cq)=>[(18,.row bq cq T.Rat 3 ((l.take i).map dQ))]) (λ(i,bq,cq)=>i<=l.length) (λ(i,bq,cq)=>l.length-i) (0,0,0) (.cons (bY rfl) (.cons (AO rfl) .nil)) .nil ⟨Nat.zero_le _,.gy,.cons rfl .nil⟩ ?_
 rintro⟨i,bq,cq⟩ h1
 have h1:i<=l.length:=h1;refine AW.seq (AW.sg hE rfl (ai rfl (ai rfl (fJ sl.aT rfl rfl (aX rfl rfl rfl (OL.nil (AW.cond rfl (λh8=>?_) (λh8=>?_))))))))
 .try simp only[eG] at h8
  refine AW.skip (AW.seq (AW.block (AW.rg hE rfl (gU rfl (ai rfl (ai rfl (fM sl.aT 0 rfl rfl (by omega) rfl rfl ?_)))))))
  refine YK fd.gK rfl rfl (jS ag.Rat rfl (vs:=[_,_,_]) rfl (aA rfl) (xe (y:=dQ (l.getD i 0)) sl.bT yP rfl (by decide) ?_))
  refine zB sl.bT rfl rfl rfl (by rw[dD,List.length_take];omega) (VC.d _) (λy hy=>by rw[kJ hy];rfl) (by simp only[jL];omega) (by simp only[jL];omega) (.inr rfl) (ys:=(l.take (i+1)).map dQ) (by rw[oW 0 (by omega),List.map_append];rfl) (n2:=i+1) rfl λb18 c18=>?_
  exact oC rfl (OL.nil (AW.rg hE rfl (ai rfl (aH rfl rfl (by omega) (aC rfl (OL.nil (AW.again (x:=(i,bq,cq)) (i+1,b18,c18) (by (simp only[];omega)) ⟨by omega,Knows.app .gy .gy,.cons rfl .nil⟩)))))))
 .try simp only[eG] at h8
  refine AW.exit (AW.seq ?_);obtain rfl:i=l.length:=by omega
  exact AW.rg hE rfl (gU rfl (oC rfl (OL.nil (AW.ret (aO.r ⟨_,.tmp rfl .nil,RO.all rfl rfl (by simp) (by rw[List.take_length])⟩)))))
theorem Yr {v:List Rat}(nl:v.length<=64)(hz:∀ i,sz (v.getD i 0)<=274877906944):aj P F.CB [.d (iG v)] (.d (dI (BJ v))):=by
 refine aj.intro fn.CB (by rfl) (by rfl) (aA (by rfl)) λE hE=>(AW.sg hE rfl (aC rfl (OL.nil (AW.seq (AW.sg hE rfl (aC rfl (OL.nil ?_)))))))
 refine AW.block (AW.aU (α:=Nat) [(0,_)] [] (λi=>[(3,.d (dI i))]) (λi=>[]) (λi=>i<=v.length/\∀ j,j<i->v.getD j 0=0) (λi=>v.length-i) 0 (.cons (bY rfl) .nil) .nil ⟨⟨Nat.zero_le _,λj hj=>by omega⟩,.di,.nil⟩ ?_)
 rintro i ⟨h1,h2⟩
 have h1:i<=v.length:=h1;have h2:∀ j,j<i->v.getD j 0=0:=h2;refine AW.seq (AW.sg hE rfl (ai rfl (ai rfl (fJ sl.bT rfl rfl (aX rfl rfl rfl (OL.nil (AW.cond rfl (λh7=>?_) (λh7=>?_))))))))
 .try simp only[eG] at h7
  refine AW.skip (AW.seq (AW.block (AW.seq ?_)));have zx:=hz i;refine AW.rg hE rfl (ai rfl (ai rfl (fM sl.bT 0 rfl rfl (by omega) rfl rfl (jS ag.Rat rfl (vs:=[_,_,_]) rfl (aA rfl) (bF rfl vL (ER (x:=v.getD i 0) (by omega)) (fC rfl rfl rfl (OL.nil ?_)))))))
  refine AW.cond rfl (λhx=>?_) (λhx=>?_)
  .have hx:v.getD i 0≠0:=λe=>DC hx (lY.2 e);exact AW.sg hE rfl (ai rfl (aC rfl (OL.nil (AW.ret (aO.r ⟨_,.tmp rfl .nil,.le (bG.int ((UA (by omega) hx h2).symm))⟩)))))
  .have hx:v.getD i 0=0:=lY.1 (BV hx);exact AW.skip (AW.rg hE rfl (ai rfl (aH rfl rfl (by omega) (aC rfl (OL.nil (AW.again (x:=i) (i+1) (by omega) ⟨⟨by omega,Qn h2 hx⟩,Knows.app .di .di,.nil⟩))))))
 .try simp only[eG] at h7
  exact AW.exit (AW.sg hE rfl (aC rfl (OL.nil (AW.ret (aO.r ⟨_,.tmp rfl .nil,.le (bG.int ((PY λj hj=>h2 j (by omega)).symm))⟩)))))
theorem RH {v:List Rat}(nl:v.length<=64)(hz:∀ i,sz (v.getD i 0)<=274877906944):aj P F.CQ [.d (iG v)] (.d (dI (BJ v))):=by
 refine aj.intro fn.CQ (by rfl) (by rfl) (aA (by rfl)) λE hE=>(AW.sg hE rfl (aC rfl (OL.nil (AW.seq (AW.sg hE rfl (aC rfl (OL.nil ?_)))))))
 refine AW.block (AW.aU (α:=Nat) [(0,_)] [] (λi=>[(3,.d (dI i))]) (λi=>[]) (λi=>i<=v.length/\∀ j,j<i->v.getD j 0=0) (λi=>v.length-i) 0 (.cons (bY rfl) .nil) .nil ⟨⟨Nat.zero_le _,λj hj=>by omega⟩,.di,.nil⟩ ?_)
 rintro i ⟨h1,h2⟩
 have h1:i<=v.length:=h1;have h2:∀ j,j<i->v.getD j 0=0:=h2;refine AW.seq (AW.sg hE rfl (ai rfl (ai rfl (fJ sl.bT rfl rfl (aX rfl rfl rfl (OL.nil (AW.cond rfl (λh7=>?_) (λh7=>?_))))))))
 .try simp only[eG] at h7
  refine AW.skip (AW.seq (AW.block (AW.seq ?_)));have zx:=hz i;refine AW.rg hE rfl (ai rfl (ai rfl (fM sl.bT 0 rfl rfl (by omega) rfl rfl (jS ag.Rat rfl (vs:=[_,_,_]) rfl (aA rfl) (bF rfl vL (ER (x:=v.getD i 0) (by omega)) (fC rfl rfl rfl (OL.nil ?_)))))))
  refine AW.cond rfl (λhx=>?_) (λhx=>?_)
  .have hx:v.getD i 0≠0:=λe=>DC hx (lY.2 e);exact AW.sg hE rfl (ai rfl (aC rfl (OL.nil (AW.ret (aO.r ⟨_,.tmp rfl .nil,.le (bG.int ((UA (by omega) hx h2).symm))⟩)))))
  .have hx:v.getD i 0=0:=lY.1 (BV hx);exact AW.skip (AW.rg hE rfl (ai rfl (aH rfl rfl (by omega) (aC rfl (OL.nil (AW.again (x:=i) (i+1) (by omega) ⟨⟨by omega,Qn h2 hx⟩,Knows.app .di .di,.nil⟩))))))
 .try simp only[eG] at h7
  exact AW.exit (AW.sg hE rfl (aC rfl (OL.nil (AW.ret (aO.r ⟨_,.tmp rfl .nil,.le (bG.int ((PY λj hj=>h2 j (by omega)).symm))⟩)))))
theorem Yt {v w:List Rat}{c:Rat}(nl:v.length<=64)(hw:v.length<=w.length)(zv:∀ i,sz (v.getD i 0)<=17179869183)(zw:∀ i,sz (w.getD i 0)<=17179869183)(zc:sz c<=34359738366):aj P F.CX [.d (iG v),.d (iG w),vQ c] (.d (iG (BI v w c))):=by
 have hll:=I8 (v:=v) (w:=w) (c:=c);refine aj.intro fn.CX (by rfl) (by rfl) (aA (by rfl)) λE hE=>(AW.sg hE rfl (gW rfl rfl λb5=>(jg rfl (OL.nil (AW.sg hE rfl (jg rfl (OL.nil ?_)))))))
 refine AW.seq (AW.seq (AW.own 7 28 T.Rat 3 rfl rfl (AW.rg hE rfl (aC rfl (OL.nil (AW.block ?_))))));refine AW.aU (α:=Nat × Nat × Nat) [(0,_),(1,_),(5,_),(6,_)] [(5,_)] (λ(i,bq,cq)=>[(7,.bH 28 bq i cq),(8,.d (dI i))]) (λ(i,bq,cq)=>[(28,.row bq cq T.Rat 3 ((Qo v w c i).map dQ))]) (λ(i,bq,cq)=>i<=v.length) (λ(i,bq,cq)=>v.length-i) (0,0,0) (.cons (bY rfl) (.cons (bY rfl) (.cons (iJ rfl) (.cons (AO rfl) .nil)))) (.cons (kC rfl) .nil) ⟨Nat.zero_le _,.gy,.cons rfl .nil⟩ ?_
 rintro⟨i,bq,cq⟩ h1
 have h1:i<=v.length:=h1;have z1:=zv i;have z2:=zw i;have z3:=lU (w.getD i 0) c;refine AW.seq (AW.sg hE rfl (ai rfl (ai rfl (fJ sl.bT rfl rfl (aX rfl rfl rfl (OL.nil (AW.cond rfl (λh12=>?_) (λh12=>?_))))))))
 .try simp only[eG] at h12
  refine AW.skip (AW.seq (AW.block (AW.dg 2 [0,1,2,3,4,5,6,7,8,9,10,11,12,13,14] au hE rfl (by kernel_rfl) (OI.aS (os:=[_,_,_,_,_,_,_,_,_,_,_,_,_,_,_]) rfl ?_))))
  refine gU rfl (ai rfl (ai rfl (fM sl.bT 0 rfl rfl (by omega) rfl rfl (jS ag.Rat rfl (vs:=[_,_,_]) rfl (aA rfl) (ai rfl (ai rfl (fM sl.bT 0 rfl rfl (by omega) rfl rfl ?_)))))))
  refine jS ag.Rat rfl (vs:=[_,_,_]) rfl (aA rfl) (aN ag.Rat rfl rfl (vs:=[_,_,_]) rfl (aA rfl) (bF rfl vL (Eu (x:=w.getD i 0) (y:=c) (by omega) (by omega)) (bF rfl vL (TD (x:=v.getD i 0) (y:=w.getD i 0*c) (by omega) (by omega)) (xe (y:=dQ (v.getD i 0-w.getD i 0*c)) sl.bT yP rfl (by decide) ?_))))
  refine zB sl.bT rfl rfl rfl (by rw[dD,List.length_take];omega) (VC.d _) (λy hy=>by rw[kJ hy];rfl) (by simp only[jL];omega) (by simp only[jL];omega) (.inr rfl) (ys:=(Qo v w c (i+1)).map dQ) (by rw[WT (by omega),List.map_append];rfl) (n2:=i+1) rfl λb28 c28=>?_
  refine oC rfl (OL.nil (AW.rg hE rfl (ai rfl (aH rfl rfl (by omega) (aC rfl (OL.nil ?_))))))
  exact AW.again (x:=(i,bq,cq)) (i+1,b28,c28) (by (simp only[];omega)) ⟨by omega,Knows.app .GL .gy,dw.app (.cons rfl .nil) (.cons rfl .nil)⟩
 .try simp only[eG] at h12
  refine AW.exit (AW.seq ?_);obtain rfl:i=v.length:=by omega
  exact AW.rg hE rfl (gU rfl (oC rfl (OL.nil (AW.ret (aO.r ⟨_,.tmp rfl .nil,RO.all rfl rfl (by rw[dD,List.length_take];omega) (by rw[show Qo v w c v.length=BI v w c from List.take_of_length_le (by omega)])⟩)))))
theorem aq2 {l:List (List Rat)}{n:Nat}(nl:l.length<=256)(hn:1<=n/\n<=64)(hl:∀ v,v ∈ l->v.length=n):aj P F.Aa [.d (.sl (l.map iG))] (.d (dB true)):=by
 refine aj.intro fn.Aa (by rfl) (by rfl) (aA (by rfl)) λE hE=>(AW.sg hE rfl (aC rfl (OL.nil (AW.seq (AW.sg hE rfl (aC rfl (OL.nil ?_)))))))
 refine AW.block (AW.aU (α:=Nat) [(0,_)] [] (λi=>[(3,.d (dI i))]) (λi=>[]) (λi=>i<=l.length) (λi=>l.length-i) 0 (.cons (bY rfl) .nil) .nil ⟨Nat.zero_le _,.di,.nil⟩ ?_)
 rintro i h1
 have h1:i<=l.length:=h1;refine AW.seq (AW.sg hE rfl (ai rfl (ai rfl (fJ sl.gB rfl rfl (aX rfl rfl rfl (OL.nil (AW.cond rfl (λh7=>?_) (λh7=>?_))))))))
 .try simp only[eG] at h7
  refine AW.skip (AW.seq (AW.block (AW.seq ?_)));have hx:=hl _ (getD_mem (show i<l.length by omega) [])
  have hy:=hl _ (getD_mem (show 0<l.length by omega) [])
  refine AW.dg 1 [0,1,2,3,4,5,6,7,8,9,10,11,12,13,14,15,16,17,18,19,20,21,22,23,24,25] au hE rfl (by kernel_rfl) (OI.aS (os:=[_,_,_,_,_,_,_,_,_,_,_,_,_,_,_,_,_,_,_,_,_,_,_,_,_,_]) rfl ?_)
  refine ai rfl (ai rfl (fM sl.gB [] rfl rfl (by omega) rfl rfl (iE ce.bT rfl (fJ sl.bT rfl rfl (aX rfl rfl (c:=false) (by exact decide_eq_false (by omega)) (ai rfl (OL.yes rfl ?_)))))))
  refine ai rfl (OL.yes rfl (ai rfl (OL.yes rfl (fM sl.gB [] rfl rfl (by omega) rfl rfl (OL.yes rfl (iE ce.bT rfl (OL.yes rfl ?_)))))))
  refine fJ sl.bT rfl rfl (OL.yes rfl (gV rfl rfl (c:=false) (by exact decide_eq_false (by omega)) (jZ rfl rfl (ai rfl (OL.yes rfl (ai rfl (OL.yes rfl ?_)))))))
  refine ai rfl (OL.yes rfl (fM sl.gB [] rfl rfl (by omega) rfl rfl (OL.yes rfl (iE ce.bT rfl (OL.yes rfl (fJ sl.bT rfl rfl (OL.yes rfl ?_)))))))
  refine ai rfl (OL.yes rfl (QS 0 sl.gB [] rfl rfl rfl (by omega) rfl rfl (OL.yes rfl (iE ce.bT rfl (OL.yes rfl (fJ sl.bT rfl rfl (OL.yes rfl ?_)))))))
  refine fC rfl rfl (c:=false) (nZ (by omega)) (jZ rfl rfl (OL.nil (oz rfl ?_)))
  exact AW.skip (AW.rg hE rfl (ai rfl (aH rfl rfl (by omega) (aC rfl (OL.nil (AW.again (x:=i) (i+1) (by omega) ⟨by omega,Knows.app .di .di,.nil⟩))))))
 .try simp only[eG] at h7
  exact AW.exit (AW.sg hE rfl (aC rfl (OL.nil (AW.ret (aO.r ⟨_,.tmp rfl .nil,.le vR⟩)))))
