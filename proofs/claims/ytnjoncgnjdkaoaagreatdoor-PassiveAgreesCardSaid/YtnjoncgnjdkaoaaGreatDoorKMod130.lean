/-
  M, chapters 25 to 45: automata out of plans.
-/
import Derived.Test.YtnjoncgnjdkaoaaGreatDoorKMod129
set_option linter.unusedVariables false
set_option linter.unusedSimpArgs false
namespace Go.Proofs.YtnjoncgnjdkaoaaGreatDoor
open Go Go.AL
theorem nI {h:HM}{w:List Int}(k:MC h w)(hs:1<=h.sym/\h.sym<=32):aj P F.nI [.d (ints w),.d (dI h.sym)] (.d (dB true)):=by
 have k1:=k.1;refine aj.intro fn.nI (by rfl) (by rfl) (aB (by rfl)) λE hE=>(AW.sg hE rfl (aF rfl (OL.nil (AW.seq (AW.sg hE rfl (ai rfl (fJ sl.ints rfl rfl ?_)))))))
 refine ai rfl (OL.nil (AW.block ?_));refine AW.aV (α:=Nat) [(0,_),(1,_),(7,_),(8,_)] [] (λi=>[(9,.d (dI i))]) (λi=>[]) (λi=>i<=w.length) (λi=>w.length-i) 0 (.cons (bK rfl) (.cons (bK rfl) (.cons (bK rfl) (.cons (bK rfl) .nil)))) .nil ⟨Nat.zero_le _,.bZ,.nil⟩ ?_;intro i h1;refine AW.sg hE rfl (aY rfl rfl rfl (OL.nil (AW.seq (AW.cond rfl (λh10=>?_) (λh10=>?_)))))
 .try simp only[dX] at h10
  refine AW.skip (AW.seq (AW.block (AW.sg hE rfl (fO sl.ints 0 rfl rfl (by omega) rfl rfl (iH ce.int rfl (aF rfl (OL.nil ?_)))))))
  refine AW.seq ?_;have kg:=k.get (t:=i) (by omega)
  refine AW.rg hE rfl (ai rfl (aY rfl rfl (c:=false) (by exact decide_eq_false (by omega)) (ai rfl (OL.yes rfl (ai rfl (OL.yes rfl (ai rfl ?_)))))))
  refine OL.yes rfl (iO rfl rfl (c:=false) (by exact decide_eq_false (by omega)) (kL rfl rfl (OL.nil (qW rfl ?_))))
  exact AW.skip (AW.rg hE rfl (aI rfl rfl (by omega) (ai rfl (OL.nil (AW.again (x:=i) (i+1) (by omega) ⟨by omega,Knows.app .Jz .bZ,.nil⟩)))))
 .try simp only[dX] at h10
  refine AW.exit (AW.sg hE rfl (ai rfl (qY rfl rfl (c:=true) (by exact decide_eq_true (by omega)) (ai rfl (OL.yes rfl (ai rfl (OL.yes rfl ?_)))))))
  refine xN rfl rfl (c:=true) (by exact decide_eq_true (by omega)) (oC rfl rfl (ai rfl (OL.yes rfl (ai rfl (OL.yes rfl (fJ sl.ints rfl rfl (OL.yes rfl ?_)))))))
  exact xN rfl rfl (c:=true) (by exact decide_eq_true (by omega)) (oC rfl rfl (aF rfl (OL.nil (AW.ret (aP.r ⟨_,.tmp rfl .nil,.le vR⟩)))))
theorem wQ {q:Rat}(hz:sz q<=68719476736):aj P F.wQ [vQ q] (vQ q):=by
 have s1:=lF q;have s2:=lG q;have l1:(fZ q).num.length<=8796093022208:=by rw[show (fZ q).num=lim q.num.natAbs from rfl];omega
 have l2:(fZ q).den.length<=8796093022208:=by by_cases e:q.den=1 <;> simp[fZ,e];omega
 refine aj.intro fn.wQ (by rfl) (by rfl) (aB (by rfl)) λE hE=>(AW.sg hE rfl (iI rfl rfl λb1=>(al z.Rat rfl λb2=>(OL.nil (AW.seq (AW.dg 1 [0,1,2,3,4,5,6,7,8,9] ay hE rfl (by kernel_rfl) (OI.aK (os:=[_,_,_,_,_,_,_,_,_,_]) rfl ?_)))))))
 refine aW fd.tZ rfl rfl (aG ce.bool rfl rfl rfl (aW fd.sQ rfl rfl (aG ce.aH rfl rfl rfl (bJ rfl .bZ (MB l1) (aW fd.oD rfl rfl (aG ce.aH rfl rfl rfl (bJ rfl .bZ (MB l2) ?_)))))));exact VX (cs:=[_,_,_]) z.Rat pl.Rat (ve (by exact DV rfl) (ve (by exact DV rfl) (ve (by exact DV rfl) (VW)))) (by rfl) (eH sz.Rat rfl rfl rfl rfl rfl (aB rfl) (cells2:=[_,_,_]) rfl (OL.nil (AW.ret (aP.r ⟨_,.dV rfl rfl ag.Rat (aB rfl) .nil,.ag (.cons (.le vR) (.cons (.le vR) (.cons (.le vR) .nil)))⟩))))
end Go.Proofs.YtnjoncgnjdkaoaaGreatDoor
namespace Go.AL
open Go Go.BigFrame
def qM (k:Nat):Nat->List (List Int)
 | 0=>[[]]
 | n+1=>(qM k n).flatMap (cu k)
def ah (k:Nat):Nat->List (List Int)
 | 0=>[[]]
 | n+1=>ah k n++qM k (n+1)
section
variable {k n:Nat}{w:List Int}
theorem zQ:∀ {n:Nat} {w:List Int},w ∈ qM k n ↔ kC k w/\w.length=n
 | 0,w=>by
  rw[qM,List.mem_singleton];constructor
  .rintro rfl;exact⟨λx hx=>(by cases hx),rfl⟩
  .rintro⟨_,h⟩;exact IK h
 | n + 1, w => by
  rw[qM,List.mem_flatMap];constructor
  .rintro⟨u,hu,hw⟩
   obtain⟨h1,h2⟩:=zQ.1 hu;obtain⟨s,hs,rfl⟩:=sH.1 hw;refine⟨λx hx=>?_,by rw[jG,h2];rfl⟩
   rcases ul hx with hx|hx
   .exact h1 x hx
   .rw[lW hx];omega
  .rintro⟨h1,h2⟩
   have hne:w≠[]:=λe=>by rw[e] at h2;cases h2
   refine⟨w.dropLast,zQ.2 ⟨λx hx=>h1 x (List.dropLast_subset w hx),by rw[List.length_dropLast,h2];rfl⟩,sH.2 ?_⟩
   obtain⟨q1,q2⟩:=h1 _ (List.getLast_mem hne);refine⟨(w.getLast hne).toNat-1,by omega,?_⟩
   rw[show (((w.getLast hne).toNat-1+1:Nat):Int)=w.getLast hne by omega]
   exact (List.dropLast_concat_getLast hne).symm
theorem gQ:∀ {n:Nat} {w:List Int},w ∈ ah k n ↔ kC k w/\w.length<=n
 | 0,w=>by
  rw[ah,List.mem_singleton];constructor
  .rintro rfl;exact⟨λx hx=>(by cases hx),Nat.le_refl _⟩
  .rintro⟨_,h⟩;exact IK (Nat.le_zero.1 h)
 | n + 1, w => by
  rw[ah,List.mem_append,gQ,zQ];constructor
  .rintro (⟨a,b⟩|⟨a,b⟩)
   .exact⟨a,by omega⟩
   .exact⟨a,by omega⟩
  .rintro⟨a,b⟩
   rcases Nat.lt_or_ge w.length (n+1) with c|c
   .exact .inl ⟨a,by omega⟩
   .exact .inr ⟨a,by omega⟩
theorem UO {i:Nat}(hi:i<(ah k n).length):(ah k (n+1)).getD i []=(ah k n).getD i []:=by
 rw[ah,ig,List.getElem?_append_left hi,ig]
end
def IB (k C:Nat)(q:Rat):Prop:=∃ n:Int,q*((6 ^ k:Nat):Rat)=(n:Rat)/\n.natAbs<=C
section
variable {a b k C E:Nat}{p q:Rat}
theorem an8 (k:Nat):((6 ^ k:Nat):Rat)≠0:=λe=>by
 have:(6 ^ k:Nat)=0:=by exact_mod_cast e
 have:=Nat.pow_pos (n:=k) (show 0<6 by decide)
 omega
theorem IB.zero:IB k C 0:=⟨0,by rw[Rat.zero_mul];rfl,Nat.zero_le _⟩
theorem IB.add (h:IB k C p)(g:IB k E q):IB k (C+E) (p+q):=by
 obtain⟨n,hn,cn⟩:=h;obtain⟨m,hm,cm⟩:=g;exact⟨n+m,by rw[Rat.add_mul,hn,hm,Rat.intCast_add],by omega⟩
theorem IB.neg (h:IB k C p):IB k C (-p):=by
 obtain⟨n,hn,cn⟩:=h;exact⟨-n,by rw[Rat.neg_mul,hn,Rat.intCast_neg],by omega⟩
theorem IB.sub (h:IB k C p)(g:IB k E q):IB k (C+E) (p-q):=by rw[Rat.sub_eq_add_neg];exact h.add g.neg
theorem IB.mul (h:IB a C p)(g:IB b E q):IB (a+b) (C*E) (p*q):=by
 obtain⟨n,hn,cn⟩:=h;obtain⟨m,hm,cm⟩:=g;refine⟨n*m,?_,by rw[Int.natAbs_mul];exact Nat.mul_le_mul cn cm⟩
 rw[Nat.pow_add,Rat.natCast_mul,Rat.intCast_mul,<- hn,<- hm]
 grind
theorem IB.mono (h:IB k C q)(hC:C<=E):IB k E q:=by
 obtain⟨n,hn,cn⟩:=h;exact⟨n,hn,Nat.le_trans cn hC⟩
theorem IB.up (h:IB a C q)(j:Nat):IB (a+j) (C*6 ^ j) q:=by
 obtain⟨n,hn,cn⟩:=h;refine⟨n*((6 ^ j:Nat):Int),?_,?_⟩
 .rw[Nat.pow_add,Rat.natCast_mul,Rat.intCast_mul,<- hn];rw[<- Rat.mul_assoc];rfl
 .rw[Int.natAbs_mul,Int.natAbs_natCast];exact Nat.mul_le_mul_right _ cn
theorem IB.aX {f:Nat->Rat}(hf:∀ i,IB k C (f i)):∀ n,IB k (n*C) (Go.AL.aX f n)
 | 0=>IB.zero
 | n+1=>by rw[Nat.succ_mul];exact (IB.aX hf n).add (hf n)
theorem IB.jR {α:Type}{f:α->Rat}:∀ {l:List α},(∀ x,x ∈ l->IB k C (f x))->IB k (l.length*C) (Go.AL.jR f l)
 | [],_=>IB.zero
 | x::l,h=>by
  rw[List.length_cons,Nat.succ_mul,Nat.add_comm];exact (h x uZ).add (IB.jR λy hy=>h y (List.mem_cons_of_mem _ hy))
theorem IB.ratio (h:IB k C p)(g:IB k C q)(hq:q≠0){t:Nat}(hC:C<Bp t):sz (p / q)<=t:=by
 obtain⟨n,hn,cn⟩:=h;obtain⟨m,hm,cm⟩:=g;have h6:=an8 k;generalize ((6 ^ k:Nat):Rat)=D at *;have hm0:m≠0:=λe=>by
  rw[e] at hm;have hm:q*D=0:=hm;rcases Rat.mul_eq_zero.1 hm with e|e
  .exact hq e
  .exact h6 e
 have e:p / q=(n:Rat) / (m:Rat):=by
  rw[<- hn,<- hm,Rat.div_def,Rat.div_def,Rat.inv_mul_rev];rw[Rat.mul_assoc,<- Rat.mul_assoc D,Rat.mul_inv_cancel _ h6,Rat.one_mul]
 rw[e,<- LG];exact O0 (by omega) (dO (by omega)) (dO (by omega))
theorem IB.sz (h:IB k C q){t:Nat}(hC:C<Bp t)(hk:6 ^ k<Bp t):Go.AL.sz q<=t:=by
 obtain⟨n,hn,cn⟩:=h;have h6:=an8 k;have e:q=(n:Rat) / (((6 ^ k:Nat):Int):Rat):=by
  rw[<- hn,Rat.div_def];show q=q*((6 ^ k:Nat):Rat)*((6 ^ k:Nat):Rat)⁻¹
  rw[Rat.mul_assoc,Rat.mul_inv_cancel _ h6,Rat.mul_one]
 rw[e,<- LG];refine O0 ?_ (dO (by omega)) (dO (by rw[Int.natAbs_natCast];exact hk))
 have:=Nat.pow_pos (n:=k) (show 0<6 by decide)
 omega
end
section
variable {m:Rq}{sym:Nat}{l w:List Int}{i s j c:Nat}
theorem an9 {f:Nat->Rat}{n k C:Nat}(hf:∀ i,IB k C (f i))(i:Nat):IB k C (((List.range n).map f).getD i 0):=by
 rcases Nat.lt_or_ge i n with h|h
 .rw[aT _ _ h];exact hf i
 .rw[Ai (by simp;exact h)];exact IB.zero
end
def d3 (a b c:Nat->Rat):Rat:=a 0*(b 1*c 2-b 2*c 1)-a 1*(b 0*c 2-b 2*c 0)+a 2*(b 0*c 1-b 1*c 0)
def d2 (a b:Nat->Rat):Rat:=a 0*b 1-a 1*b 0
theorem Qj {C:Nat}{a b c:Nat->Rat}(ha:∀ i,IB 7 C (a i))(hb:∀ i,IB 7 C (b i))(hc:∀ i,IB 7 C (c i)):IB 21 (6*(C*(C*C))) (d3 a b c):=by
 have t:∀ i j k,IB 21 (C*(C*C)) (a i*(b j*c k)):=λi j k=>(ha i).mul ((hb j).mul (hc k));have t2:∀ i j k p q,IB 21 (C*(C*C)+C*(C*C)) (a i*(b j*c k-b p*c q)):=λi j k p q=>by
  rw[show a i*(b j*c k-b p*c q)=a i*(b j*c k)-a i*(b p*c q) by grind]
  exact (t i j k).sub (t i p q)
 exact (((t2 0 1 2 2 1).sub (t2 1 0 2 2 0)).add (t2 2 0 1 1 0)).mono (by omega)
theorem Yl {C:Nat}{a b:Nat->Rat}(ha:∀ i,IB 7 C (a i))(hb:∀ i,IB 7 C (b i)):IB 14 (2*(C*C)) (d2 a b) :=
 (((ha 0).mul (hb 1)).sub ((ha 1).mul (hb 0))).mono (by omega)
section
variable {R:Nat->Nat->Rat}{v c:Nat->Rat}
theorem s1 (f:Nat->Rat):aX f 1=f 0:=by show 0+f 0=_;rw[Rat.zero_add]
theorem s2 (f:Nat->Rat):aX f 2=f 0+f 1:=by show 0+f 0+f 1=_;rw[Rat.zero_add]
theorem s3 (f:Nat->Rat):aX f 3=f 0+f 1+f 2:=by show 0+f 0+f 1+f 2=_;rw[Rat.zero_add]
theorem bd8 (ind:∀ c:Nat->Rat,(∀ j,j<2->aX (λi=>c i*R i j) 2=0)->∀ i,i<2->c i=0):d2 (R 0) (R 1)≠0:=λh=>by
 simp only[s2] at ind;unfold d2 at h;have all:∀ a b:Rat,a*R 0 0+b*R 1 0=0->a*R 0 1+b*R 1 1=0->a=0/\b=0:=λa b h0 h1=>by
  have:=ind (λi=>if i=0 then a else b) (λj hj=>by
   rcases (by omega:j=0 \/ j=1) with rfl|rfl
   .exact h0
   .exact h1)
  exact⟨this 0 (by omega),this 1 (by omega)⟩
 have h1:=all (R 1 1) (-(R 0 1)) (by grind) (by grind)
 have h2:=all (R 1 0) (-(R 0 0)) (by grind) (by grind)
 have h3:=all 1 0 (by grind) (by grind)
 exact absurd h3.1 (by decide)
theorem bd9 (ind:∀ c:Nat->Rat,(∀ j,j<3->aX (λi=>c i*R i j) 3=0)->∀ i,i<3->c i=0):d3 (R 0) (R 1) (R 2)≠0:=λh=>by
 simp only[s3] at ind;unfold d3 at h;have all:∀ a b c:Rat,a*R 0 0+b*R 1 0+c*R 2 0=0->a*R 0 1+b*R 1 1+c*R 2 1=0->a*R 0 2+b*R 1 2+c*R 2 2=0->a=0/\b=0/\c=0:=λa b c h0 h1 h2=>by
  have:=ind (λi=>if i=0 then a else if i=1 then b else c) (λj hj=>by
   rcases (by omega:j=0 \/ j=1 \/ j=2) with rfl|rfl|rfl
   .exact h0
   .exact h1
   .exact h2)
  exact⟨this 0 (by omega),this 1 (by omega),this 2 (by omega)⟩
 generalize R 0 0=a0 at *;generalize R 0 1=a1 at *;generalize R 0 2=a2 at *;generalize R 1 0=b0 at *;generalize R 1 1=b1 at *;generalize R 1 2=b2 at *;generalize R 2 0=c0 at *;generalize R 2 1=c1 at *;generalize R 2 2=c2 at *;have k0:=all (b1*c2-b2*c1) (-(a1*c2-a2*c1)) (a1*b2-a2*b1) (by grind) (by grind) (by grind)
 have k1:=all (b0*c2-b2*c0) (-(a0*c2-a2*c0)) (a0*b2-a2*b0) (by grind) (by grind) (by grind)
 have k2:=all (b0*c1-b1*c0) (-(a0*c1-a1*c0)) (a0*b1-a1*b0) (by grind) (by grind) (by grind)
 have j0:=all b0 (-a0) 0 (by grind) (by grind) (by grind)
 have j1:=all b1 (-a1) 0 (by grind) (by grind) (by grind)
 have j2:=all b2 (-a2) 0 (by grind) (by grind) (by grind)
 have j:=all 1 0 0 (by grind) (by grind) (by grind)
 exact absurd j.1 (by decide)
theorem aS5 {n:Nat}(hn:n<=3)(ind:∀ c:Nat->Rat,(∀ j,j<n->aX (λi=>c i*R i j) n=0)->∀ i,i<n->c i=0)(hR:∀ i j,IB 7 (3888*1080 ^ 5) (R i j))(hv:∀ j,IB 7 (3888*1080 ^ 5) (v j))
  (e:∀ j,j<n->v j=aX (λi=>c i*R i j) n):∀ i,i<n->sz (c i)<=6:=by
 rcases (by omega:n=0 \/ n=1 \/ n=2 \/ n=3) with rfl|rfl|rfl|rfl
 .intro i hi;omega
 .intro i hi;obtain rfl:i=0:=by omega
  have h0:=e 0 (by omega)
  rw[s1] at h0;have hr:R 0 0≠0:=λh=>by
   have:=ind (λ_=>1) (λj hj=>by obtain rfl:j=0:=(by omega);rw[s1,h,Rat.mul_zero]) 0 (by omega)
   exact absurd this (by decide)
  have:c 0=v 0 / R 0 0:=by rw[h0];grind
  rw[this];exact IB.ratio (hv 0) (hR 0 0) hr (by decide +kernel)
 .intro i hi;have hr:=bd8 ind;have h0:=e 0 (by omega)
  have h1:=e 1 (by omega)
  rw[s2] at h0 h1;have g0:c 0=d2 v (R 1) / d2 (R 0) (R 1):=by
   have:c 0*d2 (R 0) (R 1)=d2 v (R 1):=by unfold d2;rw[h0,h1];grind
   rw[<- this];grind
  have g1:c 1=d2 (R 0) v / d2 (R 0) (R 1):=by
   have:c 1*d2 (R 0) (R 1)=d2 (R 0) v:=by unfold d2;rw[h0,h1];grind
   rw[<- this];grind
  rcases (by omega:i=0 \/ i=1) with rfl|rfl
  .rw[g0];exact IB.ratio (Yl hv (hR 1)) (Yl (hR 0) (hR 1)) hr (by decide +kernel)
  .rw[g1];exact IB.ratio (Yl (hR 0) hv) (Yl (hR 0) (hR 1)) hr (by decide +kernel)
 .intro i hi;have hr:=bd9 ind;have h0:=e 0 (by omega)
  have h1:=e 1 (by omega)
  have h2:=e 2 (by omega)
  rw[s3] at h0 h1 h2;have g0:c 0=d3 v (R 1) (R 2) / d3 (R 0) (R 1) (R 2):=by
   have:c 0*d3 (R 0) (R 1) (R 2)=d3 v (R 1) (R 2):=by unfold d3;rw[h0,h1,h2];grind
   rw[<- this];grind
  have g1:c 1=d3 (R 0) v (R 2) / d3 (R 0) (R 1) (R 2):=by
   have:c 1*d3 (R 0) (R 1) (R 2)=d3 (R 0) v (R 2):=by unfold d3;rw[h0,h1,h2];grind
   rw[<- this];grind
  have g2:c 2=d3 (R 0) (R 1) v / d3 (R 0) (R 1) (R 2):=by
   have:c 2*d3 (R 0) (R 1) (R 2)=d3 (R 0) (R 1) v:=by unfold d3;rw[h0,h1,h2];grind
   rw[<- this];grind
  rcases (by omega:i=0 \/ i=1 \/ i=2) with rfl|rfl|rfl
  .rw[g0];exact IB.ratio (Qj hv (hR 1) (hR 2)) (Qj (hR 0) (hR 1) (hR 2)) hr (by decide +kernel)
  .rw[g1];exact IB.ratio (Qj (hR 0) hv (hR 2)) (Qj (hR 0) (hR 1) (hR 2)) hr (by decide +kernel)
  .rw[g2];exact IB.ratio (Qj (hR 0) (hR 1) hv) (Qj (hR 0) (hR 1) (hR 2)) hr (by decide +kernel)
end
structure Pla (a:Au) (s most:Nat):Prop where
 ok:a.Ok
 sym:a.sym=s
 s3:s<=3
 st:a.st<=most
 ini:∀ q,q ∈ a.ini->IB 1 24 q
 fin:∀ q,q ∈ a.fin->IB 1 24 q
 arc:∀ x,x ∈ a.aS->IB 1 24 x.q
 num:a.aS.length<=14
section
variable {a:Au}{s most B N:Nat}{q:Rat}
theorem Ip (h:IB 1 24 q):sz q<=1:=h.sz (t:=1) (by decide) (by decide)
theorem aF0 {x y:Int}(h1:-4<=x/\x<=4)(h2:1<=y/\y<=3):IB 1 24 ((x:Rat) / (y:Rat)):=by
 rcases (by omega:y=1 \/ y=2 \/ y=3) with rfl|rfl|rfl
 .exact⟨x*6,by rw[Rat.intCast_mul];show (x:Rat) / 1*6=(x:Rat)*6;grind,by omega⟩
 .exact⟨x*3,by rw[Rat.intCast_mul];show (x:Rat) / 2*6=(x:Rat)*3;grind,by omega⟩
 .exact⟨x*2,by rw[Rat.intCast_mul];show (x:Rat) / 3*6=(x:Rat)*2;grind,by omega⟩
theorem Pla.sz (p:Pla a s most):a.Sz 1 14:=⟨λq hq=>Ip (p.ini q hq),λq hq=>Ip (p.fin q hq),λx hx=>Ip (p.arc x hx),p.num⟩
theorem Pla.few (p:Pla a s most)(h6:most<=6):a.Pj :=
 ⟨Nat.le_trans p.st h6,λq hq=>Nat.le_trans (Ip (p.ini q hq)) (by decide),λq hq=>Nat.le_trans (Ip (p.fin q hq)) (by decide),λs i j=>by
  have h:IB 1 (a.aS.length*24) (iU a.aS s i j):=IB.jR λx hx=>by
   split
   .exact p.arc x hx
   .exact IB.zero
  have h2:=Nat.mul_le_mul_right 24 p.num;exact Nat.le_trans ((h.mono h2).sz (t:=1) (by decide) (by decide)) (by decide)⟩
theorem Pla.fw (p:Pla a s most)(h6:most<=6)(h1:1<=a.st):a.Fw :=
 ⟨p.ok,p.few h6,by have:=p.s3;have:=p.sym;omega,h1,λx hx=>Nat.le_trans (p.sz.arc x hx) (by decide),Nat.le_trans p.num (by decide)⟩
theorem Pla.ser (p:Pla a s most)(h6:most<=6){w:List Int}(hw:kC a.sym w)(hl:w.length<=5):AL.sz (iD a w)<=16777215:=by
 have f:=p.few h6;have z:(cZ [a]).Sz 24:=Ii (λx hx=>by rw[lW hx];exact f) (by rw[jm];exact f.st) (by show a.sym<=4;have:=p.s3;have:=p.sym;omega)
 have hv:=λi=>Uu z hl i;have hn:(cZ [a]).n<=6:=z.n6;have hf:=z.fin;exact Nat.le_trans (Rw hn hv hf) (by decide)
