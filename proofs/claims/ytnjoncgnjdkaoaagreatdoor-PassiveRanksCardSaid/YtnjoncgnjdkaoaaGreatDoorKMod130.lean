/-
  M, chapters 25 to 45: automata out of plans.
-/
import Derived.Test.YtnjoncgnjdkaoaaGreatDoorKMod129
set_option linter.unusedVariables false
set_option linter.unusedSimpArgs false
namespace Go.Proofs.YtnjoncgnjdkaoaaGreatDoor
open Go Go.AL
theorem qA {h:HM}{w:List Int}(k:LP h w)(hs:1<=h.sym/\h.sym<=32):aj P F.qA [.d (ints w),.d (dI h.sym)] (.d (dB true)):=by
 have k1:=k.1;refine aj.intro fn.qA (by rfl) (by rfl) (aA (by rfl)) λE hE=>(AW.sg hE rfl (aC rfl (OL.nil (AW.seq (AW.sg hE rfl (ai rfl (fJ sl.ints rfl rfl ?_)))))))
 refine ai rfl (OL.nil (AW.block ?_));refine AW.aU (α:=Nat) [(0,_),(1,_),(7,_),(8,_)] [] (λi=>[(9,.d (dI i))]) (λi=>[]) (λi=>i<=w.length) (λi=>w.length-i) 0 (.cons (bY rfl) (.cons (bY rfl) (.cons (bY rfl) (.cons (bY rfl) .nil)))) .nil ⟨Nat.zero_le _,.di,.nil⟩ ?_;intro i h1;refine AW.sg hE rfl (aX rfl rfl rfl (OL.nil (AW.seq (AW.cond rfl (λh10=>?_) (λh10=>?_)))))
 .try simp only[eG] at h10
  refine AW.skip (AW.seq (AW.block (AW.sg hE rfl (fM sl.ints 0 rfl rfl (by omega) rfl rfl (iE ce.int rfl (aC rfl (OL.nil ?_)))))))
  refine AW.seq ?_;have kg:=k.get (t:=i) (by omega)
  refine AW.rg hE rfl (ai rfl (aX rfl rfl (c:=false) (by exact decide_eq_false (by omega)) (ai rfl (OL.yes rfl (ai rfl (OL.yes rfl (ai rfl ?_)))))))
  refine OL.yes rfl (gV rfl rfl (c:=false) (by exact decide_eq_false (by omega)) (jZ rfl rfl (OL.nil (oz rfl ?_))))
  exact AW.skip (AW.rg hE rfl (aH rfl rfl (by omega) (ai rfl (OL.nil (AW.again (x:=i) (i+1) (by omega) ⟨by omega,Knows.app .GL .di,.nil⟩)))))
 .try simp only[eG] at h10
  refine AW.exit (AW.sg hE rfl (ai rfl (ql rfl rfl (c:=true) (by exact decide_eq_true (by omega)) (ai rfl (OL.yes rfl (ai rfl (OL.yes rfl ?_)))))))
  refine wZ rfl rfl (c:=true) (by exact decide_eq_true (by omega)) (lJ rfl rfl (ai rfl (OL.yes rfl (ai rfl (OL.yes rfl (fJ sl.ints rfl rfl (OL.yes rfl ?_)))))))
  exact wZ rfl rfl (c:=true) (by exact decide_eq_true (by omega)) (lJ rfl rfl (aC rfl (OL.nil (AW.ret (aO.r ⟨_,.tmp rfl .nil,.le vR⟩)))))
theorem vT {q:Rat}(hz:sz q<=68719476736):aj P F.vT [vQ q] (vQ q):=by
 have s1:=jT q;have s2:=jU q;have l1:(fP q).num.length<=8796093022208:=by rw[show (fP q).num=lim q.num.natAbs from rfl];omega
 have l2:(fP q).den.length<=8796093022208:=by by_cases e:q.den=1 <;> simp[fP,e];omega
 refine aj.intro fn.vT (by rfl) (by rfl) (aA (by rfl)) λE hE=>(AW.sg hE rfl (gW rfl rfl λb1=>(al z.Rat rfl λb2=>(OL.nil (AW.seq (AW.dg 1 [0,1,2,3,4,5,6,7,8,9] au hE rfl (by kernel_rfl) (OI.aS (os:=[_,_,_,_,_,_,_,_,_,_]) rfl ?_)))))))
 refine aV fd.qE rfl rfl (aG ce.bool rfl rfl rfl (aV fd.pW rfl rfl (aG ce.aF rfl rfl rfl (bF rfl .di (LK l1) (aV fd.nK rfl rfl (aG ce.aF rfl rfl rfl (bF rfl .di (LK l2) ?_)))))));exact Vk (cs:=[_,_,_]) z.Rat pl.Rat (rG (by exact zC rfl) (rG (by exact zC rfl) (rG (by exact zC rfl) (Vj)))) (by rfl) (fG sz.Rat rfl rfl rfl rfl rfl (aA rfl) (cells2:=[_,_,_]) rfl (OL.nil (AW.ret (aO.r ⟨_,.dL rfl rfl ag.Rat (aA rfl) .nil,.ag (.cons (.le vR) (.cons (.le vR) (.cons (.le vR) .nil)))⟩))))
end Go.Proofs.YtnjoncgnjdkaoaaGreatDoor
namespace Go.AL
open Go Go.BigFrame
def pO (k:Nat):Nat->List (List Int)
 | 0=>[[]]
 | n+1=>(pO k n).flatMap (dh k)
def ah (k:Nat):Nat->List (List Int)
 | 0=>[[]]
 | n+1=>ah k n++pO k (n+1)
section
variable {k n:Nat}{w:List Int}
theorem zh:∀ {n:Nat} {w:List Int},w ∈ pO k n ↔ iV k w/\w.length=n
 | 0,w=>by
  rw[pO,List.mem_singleton];constructor
  .rintro rfl;exact⟨λx hx=>(by cases hx),rfl⟩
  .rintro⟨_,h⟩;exact Gt h
 | n + 1, w => by
  rw[pO,List.mem_flatMap];constructor
  .rintro⟨u,hu,hw⟩
   obtain⟨h1,h2⟩:=zh.1 hu;obtain⟨s,hs,rfl⟩:=rf.1 hw;refine⟨λx hx=>?_,by rw[iU,h2];rfl⟩
   rcases rD hx with hx|hx
   .exact h1 x hx
   .rw[kJ hx];omega
  .rintro⟨h1,h2⟩
   have hne:w≠[]:=λe=>by rw[e] at h2;cases h2
   refine⟨w.dropLast,zh.2 ⟨λx hx=>h1 x (List.dropLast_subset w hx),by rw[List.length_dropLast,h2];rfl⟩,rf.2 ?_⟩
   obtain⟨q1,q2⟩:=h1 _ (List.getLast_mem hne);refine⟨(w.getLast hne).toNat-1,by omega,?_⟩
   rw[show (((w.getLast hne).toNat-1+1:Nat):Int)=w.getLast hne by omega]
   exact (List.dropLast_concat_getLast hne).symm
theorem bW:∀ {n:Nat} {w:List Int},w ∈ ah k n ↔ iV k w/\w.length<=n
 | 0,w=>by
  rw[ah,List.mem_singleton];constructor
  .rintro rfl;exact⟨λx hx=>(by cases hx),Nat.le_refl _⟩
  .rintro⟨_,h⟩;exact Gt (Nat.le_zero.1 h)
 | n + 1, w => by
  rw[ah,List.mem_append,bW,zh];constructor
  .rintro (⟨a,b⟩|⟨a,b⟩)
   .exact⟨a,by omega⟩
   .exact⟨a,by omega⟩
  .rintro⟨a,b⟩
   rcases Nat.lt_or_ge w.length (n+1) with c|c
   .exact .inl ⟨a,by omega⟩
   .exact .inr ⟨a,by omega⟩
theorem Nz {i:Nat}(hi:i<(ah k n).length):(ah k (n+1)).getD i []=(ah k n).getD i []:=by
 rw[ah,gI,List.getElem?_append_left hi,gI]
theorem aC1:(ah k n).length<=(ah k (n+1)).length:=by rw[ah,iU];omega
end
section
variable {n n2 B r k:Nat}{vs vs2:List (List Rat)}{rs rs2:List bJ}{s:List Int->Rat}{K S:List (List Int)}
theorem UH (e:Ip n rs)(j:BB n vs rs)(j2:BB n2 vs2 rs2)(g:Nat->Nat)(hg:∀ i,i<n->g i<n2)(hv:∀ v,v ∈ vs->∃ v2,v2 ∈ vs2/\∀ i,i<n->v.getD i 0=v2.getD (g i) 0):rs.length<=rs2.length:=by
 have lin:Y7 n2 n λu i=>u (g i):=⟨λu v h j hj=>h _ (hg j hj),λu v c j _=>rfl,λj _=>rfl⟩;have h:=y7 (n:=n) ((lu rs2).map λv=>(List.range n).map λi=>v.getD (g i) 0) rs e λr hr=>(j.rows r hr).trans λb hb=>by
  obtain⟨v2,h2,e2⟩:=hv b hb;refine ((j2.kept v2 h2).map lin λc hc=>?_).congr λi hi=>e2 i hi;refine (bK.mem (List.mem_map.2 ⟨c,hc,rfl⟩)).congr λi hi=>?_;show c.getD (g i) 0=((List.range n).map λi=>c.getD (g i) 0).getD i 0
  rw[aK _ _ hi]
 rw[dD,show (lu rs2).length=rs2.length by simp[lu]] at h
 exact h
theorem UI (h:IL (zD k s) r)(hK:∀ u,u ∈ K->iV k u)(hS:∀ u,u ∈ S->iV k u)(e:Ip S.length rs)(j:BB S.length (K.map (bU s S)) rs):rs.length<=r:=by
 classical
 obtain⟨A,D,hs⟩:=h;have hw:∀ i,i<S.length->iV k (S.getD i []).reverse:=λi hi=>Aw (hS _ (getD_mem hi []));have h:=y7 (n:=S.length) ((List.range r).map λq=>(List.range S.length).map λi=>if h:iV k (S.getD i []).reverse then D q ⟨_,h⟩ else 0) rs e λx hx=>(j.rows x hx).trans λb hb=>by
  obtain⟨u,hu,rfl⟩:=jY hb;have key:∀ t,t<=r->bK S.length ((List.range r).map λq=>(List.range S.length).map λi=>if h:iV k (S.getD i []).reverse then D q ⟨_,h⟩ else 0) λi=>aW (λq=>A ⟨u,hK u hu⟩ q*if h:iV k (S.getD i []).reverse then D q ⟨_,h⟩ else 0) t:=by
   intro t
   induction t with
   | zero=>intro _;exact .zero λ_ _=>rfl
   | succ t ih =>
    intro ht;refine .add (A ⟨u,hK u hu⟩ t) (List.mem_map.2 ⟨t,List.mem_range.2 (by omega),rfl⟩) (ih (by omega)) λi hi=>?_
    rw[aW,aK _ _ hi]
  refine (key r (Nat.le_refl r)).congr λi hi=>?_;show (bU s S u).getD i 0=_
  rw[uy hi];have h2:=hs ⟨u,hK u hu⟩ ⟨_,hw i hi⟩;unfold zD at h2;rw[List.reverse_reverse] at h2;rw[h2];exact aJ λq _=>by rw[dif_pos (hw i hi)]
 rw[dD,List.length_range] at h;exact h
end
def Ot (k:Nat)(s:List Int->Rat)(q:Nat):Nat:=(Es ((ah k q).map (bU s (ah k q)))).length
section
variable {m:dZ}{B q k e:Nat}{s:List Int->Rat}
theorem Fj (h1:1<=B)(hz:∀ u l,u ∈ ah k q->l ∈ ah k q->sz (s (u++l))<=B):pK (ah k q).length B (Es ((ah k q).map (bU s (ah k q))))/\BB (ah k q).length ((ah k q).map (bU s (ah k q))) (Es ((ah k q).map (bU s (ah k q)))):=by
 have h:=H9 (n:=(ah k q).length) h1 ((ah k q).map (bU s (ah k q))) (λv hv=>by obtain⟨u,_,rfl⟩:=jY hv;exact dD ..) λv hv i=>by
  obtain⟨u,hu,rfl⟩:=jY hv;rcases Nat.lt_or_ge i (ah k q).length with hi|hi
  .rw[uy hi];exact hz u _ hu (getD_mem hi [])
  .rw[uq (by rw[show (bU s (ah k q) u).length=(ah k q).length from dD ..];exact hi),fK];exact h1
 exact⟨h.1,h.2.1⟩
theorem al6 (h1:1<=B)(hz:∀ u l,u ∈ ah k (q+1)->l ∈ ah k (q+1)->sz (s (u++l))<=B):Ot k s q<=Ot k s (q+1):=by
 have sub:∀ u,u ∈ ah k q->u ∈ ah k (q+1):=λu hu=>by rw[ah];exact List.mem_append.2 (.inl hu)
 have a:=Fj (q:=q) h1 λu l hu hl=>hz u l (sub u hu) (sub l hl);have b:=Fj h1 hz;have hle:=aC1 (k:=k) (n:=q);refine UH a.1.ech a.2 b.2 id (λi hi=>Nat.lt_of_lt_of_le hi hle) λv hv=>?_;obtain⟨u,hu,rfl⟩:=jY hv;refine⟨_,List.mem_map.2 ⟨u,sub u hu,rfl⟩,λi hi=>?_⟩;show _=(bU s (ah k (q+1)) u).getD i 0
 rw[uy hi,uy (Nat.lt_of_lt_of_le hi hle),Nz hi]
theorem aO3 {r:Nat}(h:IL (zD k s) r)(h1:1<=B)(hz:∀ u l,u ∈ ah k q->l ∈ ah k q->sz (s (u++l))<=B):Ot k s q<=r:=by
 have a:=Fj h1 hz;exact UI h (λu hu=>(bW.1 hu).1) (λu hu=>(bW.1 hu).1) a.1.ech a.2
theorem aC2 (ok:m.Ok)(z:m.Sz e)(hq:m.n<=q+1)(h1:1<=B)(hz:∀ u l,u ∈ ah m.k q->l ∈ ah m.k q->sz (wW m (u++l))<=B):Bz m.k (wW m)<=Ot m.k (wW m) q:=by
 have iv:∀ {m:dZ},m.Ok->m.Sz e->∃ y,kH m 16777215 [] y/\y.ks.length<=m.n:=λ{m} ok z=>by
  obtain⟨y,hy,_⟩:=X6 ok z.n6 (by decide:1<=16777215) λw _ h6 i=>Nat.le_trans (Hz z h6 i) (by decide)
  exact⟨y,hy,hy.b.few.2⟩
 obtain⟨y,hy,yl⟩:=iv ok z;obtain⟨x,hx,xl⟩:=iv (Hl ok) z.turn;rw[show (bI m).n=m.n from rfl] at xl
 obtain⟨V,j,_⟩:=hy.join;obtain⟨V2,j2,_⟩:=hx.join;have ys:∀ u,u ∈ y.ks->u ∈ ah m.k q:=λu hu=>bW.2 ⟨hy.xB u hu,by have:=hy.short u hu;omega⟩
 have xs:∀ u,u ∈ x.ks->u.reverse ∈ ah m.k q:=λu hu=>bW.2 ⟨Aw (by have:=hx.xB u hu;rwa [oU] at this),by have:=hx.short u hu;rw[List.length_reverse];omega⟩
 have zv:∀ u,u ∈ y.ks->∀ i,sz ((dJ m x.ks u).getD i 0)<=B:=λu hu i=>by
  rcases Nat.lt_or_ge i x.ks.length with hi|hi
  .rw[show (dJ m x.ks u).getD i 0=jP m u (x.ks.getD i []) from aK _ _ hi,yg _ _ (by have:=hx.xB _ (getD_mem hi []);rwa [oU] at this)]
   exact hz u _ (ys u hu) (xs _ (getD_mem hi []))
  .rw[uq (by rw[sK];exact hi),fK];exact h1
 have hr:=Un ok h1 zv j j2;rw[<- hr];obtain⟨a,b⟩:=aj9 h1 zv;have c:=Fj h1 hz;refine UH a.ech b c.2 (λi=>(ah m.k q).idxOf (x.ks.getD i []).reverse) (λi hi=>List.idxOf_lt_length_of_mem (xs _ (getD_mem hi []))) λv hv=>?_;obtain⟨u,hu,rfl⟩:=jY hv;refine⟨_,List.mem_map.2 ⟨u,ys u hu,rfl⟩,λi hi=>?_⟩;have hm:=xs _ (getD_mem hi []);have hp:=List.idxOf_lt_length_of_mem hm;rw[uy hp,show (dJ m x.ks u).getD i 0=jP m u (x.ks.getD i []) from aK _ _ hi,yg _ _ (by have:=hx.xB _ (getD_mem hi []);rwa [oU] at this)]
 rw[show (ah m.k q).getD ((ah m.k q).idxOf (x.ks.getD i []).reverse) []=(x.ks.getD i []).reverse by
  rw[gI,kL hp,Option.getD_some,List.getElem_idxOf hp]]
end
def IB (k C:Nat)(q:Rat):Prop:=∃ n:Int,q*((6 ^ k:Nat):Rat)=(n:Rat)/\n.natAbs<=C
section
variable {a b k C E:Nat}{p q:Rat}
theorem al7 (k:Nat):((6 ^ k:Nat):Rat)≠0:=λe=>by
 have:(6 ^ k:Nat)=0:=by exact_mod_cast e
 have:=Nat.pow_pos (n:=k) (show 0<6 by decide)
 omega
theorem IB.zero:IB k C 0:=⟨0,by rw[Rat.zero_mul];rfl,Nat.zero_le _⟩
theorem IB.add (h:IB k C p)(g:IB k E q):IB k (C+E) (p+q):=by
 obtain⟨n,hn,cn⟩:=h;obtain⟨m,hm,cm⟩:=g;exact⟨n+m,by rw[Rat.add_mul,hn,hm,Rat.intCast_add],by omega⟩
theorem IB.neg (h:IB k C p):IB k C (-p):=by
 obtain⟨n,hn,cn⟩:=h;exact⟨-n,by rw[Rat.neg_mul,hn,Rat.intCast_neg],by omega⟩
theorem IB.sub (h:IB k C p)(g:IB k E q):IB k (C+E) (p-q):=by rw[Rat.sub_eq_add_neg];exact h.add g.neg
theorem IB.mul (h:IB a C p)(g:IB b E q):IB (a+b) (C*E) (p*q):=by
 obtain⟨n,hn,cn⟩:=h;obtain⟨m,hm,cm⟩:=g;refine⟨n*m,?_,by rw[Int.natAbs_mul];exact Nat.mul_le_mul cn cm⟩
 rw[Nat.pow_add,Rat.natCast_mul,Rat.intCast_mul,<- hn,<- hm]
 grind
theorem IB.mono (h:IB k C q)(hC:C<=E):IB k E q:=by
 obtain⟨n,hn,cn⟩:=h;exact⟨n,hn,Nat.le_trans cn hC⟩
theorem IB.up (h:IB a C q)(j:Nat):IB (a+j) (C*6 ^ j) q:=by
 obtain⟨n,hn,cn⟩:=h;refine⟨n*((6 ^ j:Nat):Int),?_,?_⟩
 .rw[Nat.pow_add,Rat.natCast_mul,Rat.intCast_mul,<- hn];rw[<- Rat.mul_assoc];rfl
 .rw[Int.natAbs_mul,Int.natAbs_natCast];exact Nat.mul_le_mul_right _ cn
theorem IB.aW {f:Nat->Rat}(hf:∀ i,IB k C (f i)):∀ n,IB k (n*C) (Go.AL.aW f n)
 | 0=>IB.zero
 | n+1=>by rw[Nat.succ_mul];exact (IB.aW hf n).add (hf n)
theorem IB.jD {α:Type}{f:α->Rat}:∀ {l:List α},(∀ x,x ∈ l->IB k C (f x))->IB k (l.length*C) (Go.AL.jD f l)
 | [],_=>IB.zero
 | x::l,h=>by
  rw[List.length_cons,Nat.succ_mul,Nat.add_comm];exact (h x vC).add (IB.jD λy hy=>h y (List.mem_cons_of_mem _ hy))
theorem IB.ratio (h:IB k C p)(g:IB k C q)(hq:q≠0){t:Nat}(hC:C<Bp t):sz (p / q)<=t:=by
 obtain⟨n,hn,cn⟩:=h;obtain⟨m,hm,cm⟩:=g;have h6:=al7 k;generalize ((6 ^ k:Nat):Rat)=D at *;have hm0:m≠0:=λe=>by
  rw[e] at hm;have hm:q*D=0:=hm;rcases Rat.mul_eq_zero.1 hm with e|e
  .exact hq e
  .exact h6 e
 have e:p / q=(n:Rat) / (m:Rat):=by
  rw[<- hn,<- hm,Rat.div_def,Rat.div_def,Rat.inv_mul_rev];rw[Rat.mul_assoc,<- Rat.mul_assoc D,Rat.mul_inv_cancel _ h6,Rat.one_mul]
 rw[e,<- KZ];exact OM (by omega) (dN (by omega)) (dN (by omega))
theorem IB.sz (h:IB k C q){t:Nat}(hC:C<Bp t)(hk:6 ^ k<Bp t):Go.AL.sz q<=t:=by
 obtain⟨n,hn,cn⟩:=h;have h6:=al7 k;have e:q=(n:Rat) / (((6 ^ k:Nat):Int):Rat):=by
  rw[<- hn,Rat.div_def];show q=q*((6 ^ k:Nat):Rat)*((6 ^ k:Nat):Rat)⁻¹
  rw[Rat.mul_assoc,Rat.mul_inv_cancel _ h6,Rat.mul_one]
 rw[e,<- KZ];refine OM ?_ (dN (by omega)) (dN (by rw[Int.natAbs_natCast];exact hk))
 have:=Nat.pow_pos (n:=k) (show 0<6 by decide)
 omega
end
section
variable {m:Rf}{sym:Nat}{l w:List Int}{i s j c:Nat}
theorem al8 {f:Nat->Rat}{n k C:Nat}(hf:∀ i,IB k C (f i))(i:Nat):IB k C (((List.range n).map f).getD i 0):=by
 rcases Nat.lt_or_ge i n with h|h
 .rw[aK _ _ h];exact hf i
 .rw[EH (by simp;exact h)];exact IB.zero
end
def d3 (a b c:Nat->Rat):Rat:=a 0*(b 1*c 2-b 2*c 1)-a 1*(b 0*c 2-b 2*c 0)+a 2*(b 0*c 1-b 1*c 0)
def d2 (a b:Nat->Rat):Rat:=a 0*b 1-a 1*b 0
theorem P8 {C:Nat}{a b c:Nat->Rat}(ha:∀ i,IB 7 C (a i))(hb:∀ i,IB 7 C (b i))(hc:∀ i,IB 7 C (c i)):IB 21 (6*(C*(C*C))) (d3 a b c):=by
 have t:∀ i j k,IB 21 (C*(C*C)) (a i*(b j*c k)):=λi j k=>(ha i).mul ((hb j).mul (hc k));have t2:∀ i j k p q,IB 21 (C*(C*C)+C*(C*C)) (a i*(b j*c k-b p*c q)):=λi j k p q=>by
  rw[show a i*(b j*c k-b p*c q)=a i*(b j*c k)-a i*(b p*c q) by grind]
  exact (t i j k).sub (t i p q)
 exact (((t2 0 1 2 2 1).sub (t2 1 0 2 2 0)).add (t2 2 0 1 1 0)).mono (by omega)
theorem X9 {C:Nat}{a b:Nat->Rat}(ha:∀ i,IB 7 C (a i))(hb:∀ i,IB 7 C (b i)):IB 14 (2*(C*C)) (d2 a b) :=
 (((ha 0).mul (hb 1)).sub ((ha 1).mul (hb 0))).mono (by omega)
section
variable {R:Nat->Nat->Rat}{v c:Nat->Rat}
theorem s1 (f:Nat->Rat):aW f 1=f 0:=by show 0+f 0=_;rw[Rat.zero_add]
theorem s2 (f:Nat->Rat):aW f 2=f 0+f 1:=by show 0+f 0+f 1=_;rw[Rat.zero_add]
theorem s3 (f:Nat->Rat):aW f 3=f 0+f 1+f 2:=by show 0+f 0+f 1+f 2=_;rw[Rat.zero_add]
theorem aZ3 (ind:∀ c:Nat->Rat,(∀ j,j<2->aW (λi=>c i*R i j) 2=0)->∀ i,i<2->c i=0):d2 (R 0) (R 1)≠0:=λh=>by
 simp only[s2] at ind;unfold d2 at h;have all:∀ a b:Rat,a*R 0 0+b*R 1 0=0->a*R 0 1+b*R 1 1=0->a=0/\b=0:=λa b h0 h1=>by
  have:=ind (λi=>if i=0 then a else b) (λj hj=>by
   rcases (by omega:j=0 \/ j=1) with rfl|rfl
   .exact h0
   .exact h1)
  exact⟨this 0 (by omega),this 1 (by omega)⟩
 have h1:=all (R 1 1) (-(R 0 1)) (by grind) (by grind)
 have h2:=all (R 1 0) (-(R 0 0)) (by grind) (by grind)
 have h3:=all 1 0 (by grind) (by grind)
 exact absurd h3.1 (by decide)
theorem aZ4 (ind:∀ c:Nat->Rat,(∀ j,j<3->aW (λi=>c i*R i j) 3=0)->∀ i,i<3->c i=0):d3 (R 0) (R 1) (R 2)≠0:=λh=>by
 simp only[s3] at ind;unfold d3 at h;have all:∀ a b c:Rat,a*R 0 0+b*R 1 0+c*R 2 0=0->a*R 0 1+b*R 1 1+c*R 2 1=0->a*R 0 2+b*R 1 2+c*R 2 2=0->a=0/\b=0/\c=0:=λa b c h0 h1 h2=>by
  have:=ind (λi=>if i=0 then a else if i=1 then b else c) (λj hj=>by
   rcases (by omega:j=0 \/ j=1 \/ j=2) with rfl|rfl|rfl
   .exact h0
   .exact h1
   .exact h2)
  exact⟨this 0 (by omega),this 1 (by omega),this 2 (by omega)⟩
 generalize R 0 0=a0 at *;generalize R 0 1=a1 at *;generalize R 0 2=a2 at *;generalize R 1 0=b0 at *;generalize R 1 1=b1 at *;generalize R 1 2=b2 at *;generalize R 2 0=c0 at *;generalize R 2 1=c1 at *;generalize R 2 2=c2 at *;have k0:=all (b1*c2-b2*c1) (-(a1*c2-a2*c1)) (a1*b2-a2*b1) (by grind) (by grind) (by grind)
 have k1:=all (b0*c2-b2*c0) (-(a0*c2-a2*c0)) (a0*b2-a2*b0) (by grind) (by grind) (by grind)
 have k2:=all (b0*c1-b1*c0) (-(a0*c1-a1*c0)) (a0*b1-a1*b0) (by grind) (by grind) (by grind)
 have j0:=all b0 (-a0) 0 (by grind) (by grind) (by grind)
 have j1:=all b1 (-a1) 0 (by grind) (by grind) (by grind)
 have j2:=all b2 (-a2) 0 (by grind) (by grind) (by grind)
 have j:=all 1 0 0 (by grind) (by grind) (by grind)
 exact absurd j.1 (by decide)
theorem aO4 {n:Nat}(hn:n<=3)(ind:∀ c:Nat->Rat,(∀ j,j<n->aW (λi=>c i*R i j) n=0)->∀ i,i<n->c i=0)(hR:∀ i j,IB 7 (3888*1080 ^ 5) (R i j))(hv:∀ j,IB 7 (3888*1080 ^ 5) (v j))
  (e:∀ j,j<n->v j=aW (λi=>c i*R i j) n):∀ i,i<n->sz (c i)<=6:=by
 rcases (by omega:n=0 \/ n=1 \/ n=2 \/ n=3) with rfl|rfl|rfl|rfl
 .intro i hi;omega
 .intro i hi;obtain rfl:i=0:=by omega
  have h0:=e 0 (by omega)
  rw[s1] at h0;have hr:R 0 0≠0:=λh=>by
   have:=ind (λ_=>1) (λj hj=>by obtain rfl:j=0:=(by omega);rw[s1,h,Rat.mul_zero]) 0 (by omega)
   exact absurd this (by decide)
  have:c 0=v 0 / R 0 0:=by rw[h0];grind
  rw[this];exact IB.ratio (hv 0) (hR 0 0) hr (by decide +kernel)
 .intro i hi;have hr:=aZ3 ind;have h0:=e 0 (by omega)
  have h1:=e 1 (by omega)
  rw[s2] at h0 h1;have g0:c 0=d2 v (R 1) / d2 (R 0) (R 1):=by
   have:c 0*d2 (R 0) (R 1)=d2 v (R 1):=by unfold d2;rw[h0,h1];grind
   rw[<- this];grind
  have g1:c 1=d2 (R 0) v / d2 (R 0) (R 1):=by
   have:c 1*d2 (R 0) (R 1)=d2 (R 0) v:=by unfold d2;rw[h0,h1];grind
   rw[<- this];grind
  rcases (by omega:i=0 \/ i=1) with rfl|rfl
  .rw[g0];exact IB.ratio (X9 hv (hR 1)) (X9 (hR 0) (hR 1)) hr (by decide +kernel)
  .rw[g1];exact IB.ratio (X9 (hR 0) hv) (X9 (hR 0) (hR 1)) hr (by decide +kernel)
 .intro i hi;have hr:=aZ4 ind;have h0:=e 0 (by omega)
  have h1:=e 1 (by omega)
  have h2:=e 2 (by omega)
  rw[s3] at h0 h1 h2;have g0:c 0=d3 v (R 1) (R 2) / d3 (R 0) (R 1) (R 2):=by
   have:c 0*d3 (R 0) (R 1) (R 2)=d3 v (R 1) (R 2):=by unfold d3;rw[h0,h1,h2];grind
   rw[<- this];grind
  have g1:c 1=d3 (R 0) v (R 2) / d3 (R 0) (R 1) (R 2):=by
   have:c 1*d3 (R 0) (R 1) (R 2)=d3 (R 0) v (R 2):=by unfold d3;rw[h0,h1,h2];grind
   rw[<- this];grind
  have g2:c 2=d3 (R 0) (R 1) v / d3 (R 0) (R 1) (R 2):=by
   have:c 2*d3 (R 0) (R 1) (R 2)=d3 (R 0) (R 1) v:=by unfold d3;rw[h0,h1,h2];grind
   rw[<- this];grind
  rcases (by omega:i=0 \/ i=1 \/ i=2) with rfl|rfl|rfl
  .rw[g0];exact IB.ratio (P8 hv (hR 1) (hR 2)) (P8 (hR 0) (hR 1) (hR 2)) hr (by decide +kernel)
  .rw[g1];exact IB.ratio (P8 (hR 0) hv (hR 2)) (P8 (hR 0) (hR 1) (hR 2)) hr (by decide +kernel)
  .rw[g2];exact IB.ratio (P8 (hR 0) (hR 1) hv) (P8 (hR 0) (hR 1) (hR 2)) hr (by decide +kernel)
end
structure Pla (a:Au) (s most:Nat):Prop where
 ok:a.Ok
 sym:a.sym=s
 s3:s<=3
 st:a.st<=most
 ini:∀ q,q ∈ a.ini->IB 1 24 q
 fin:∀ q,q ∈ a.fin->IB 1 24 q
 arc:∀ x,x ∈ a.aP->IB 1 24 x.q
 num:a.aP.length<=14
section
variable {a:Au}{s most B N:Nat}{q:Rat}
theorem Ib (h:IB 1 24 q):sz q<=1:=h.sz (t:=1) (by decide) (by decide)
theorem aC3 {x y:Int}(h1:-4<=x/\x<=4)(h2:1<=y/\y<=3):IB 1 24 ((x:Rat) / (y:Rat)):=by
 rcases (by omega:y=1 \/ y=2 \/ y=3) with rfl|rfl|rfl
 .exact⟨x*6,by rw[Rat.intCast_mul];show (x:Rat) / 1*6=(x:Rat)*6;grind,by omega⟩
 .exact⟨x*3,by rw[Rat.intCast_mul];show (x:Rat) / 2*6=(x:Rat)*3;grind,by omega⟩
 .exact⟨x*2,by rw[Rat.intCast_mul];show (x:Rat) / 3*6=(x:Rat)*2;grind,by omega⟩
theorem Pla.sz (p:Pla a s most):a.Sz 1 14:=⟨λq hq=>Ib (p.ini q hq),λq hq=>Ib (p.fin q hq),λx hx=>Ib (p.arc x hx),p.num⟩
theorem Pla.few (p:Pla a s most)(h6:most<=6):a.Oi :=
 ⟨Nat.le_trans p.st h6,λq hq=>Nat.le_trans (Ib (p.ini q hq)) (by decide),λq hq=>Nat.le_trans (Ib (p.fin q hq)) (by decide),λs i j=>by
  have h:IB 1 (a.aP.length*24) (jd a.aP s i j):=IB.jD λx hx=>by
   split
   .exact p.arc x hx
   .exact IB.zero
  have h2:=Nat.mul_le_mul_right 24 p.num;exact Nat.le_trans ((h.mono h2).sz (t:=1) (by decide) (by decide)) (by decide)⟩
theorem Au.Sz.al9 (h:a.Sz 1 14):(sJ a).Sz 45 14:=by
 have hl:(a.aP.map λx=>(⟨x.t,x.l,x.f,x.q⟩:bD)).length=a.aP.length:=dD ..;refine⟨λy hy=>Nat.le_trans (h.fin y hy) (by decide),λy hy=>Nat.le_trans (h.ini y hy) (by decide),λx hx=>?_,Nat.le_trans (yB _) (by rw[hl];exact h.num)⟩
 have hy9:∀ y,y ∈ (a.aP.map λx=>(⟨x.t,x.l,x.f,x.q⟩:bD))->AL.sz y.q<=1:=λy hy=>by
  obtain⟨x,hx,rfl⟩:=jY hy;exact h.arc x hx
 have h1:AL.sz x.q<=_:=H7 hy9 x hx;have h2:=Nat.mul_le_mul_right (1+2) (show (a.aP.map λx=>(⟨x.t,x.l,x.f,x.q⟩:bD)).length+1<=15 by rw[hl];have:=h.num;omega)
 omega
theorem UJ (h:a.Ok)(f:a.Oi)(z:a.Sz 45 14)(s4:a.sym<=4)(s1:1<=a.st):(rQ a).Fw :=
 ⟨h.form,f.form,s4,s1,λx hx=>by
  have h1:=H7 z.arc x hx;have h2:=Nat.mul_le_mul_right (45+2) (show a.aP.length+1<=15 by have:=z.num;omega)
  omega,Nat.le_trans (yB a.aP) (Nat.le_trans z.num (by decide))⟩
theorem Pla.fw (p:Pla a s most)(h6:most<=6)(h1:1<=a.st):a.Fw :=
 ⟨p.ok,p.few h6,by have:=p.s3;have:=p.sym;omega,h1,λx hx=>Nat.le_trans (p.sz.arc x hx) (by decide),Nat.le_trans p.num (by decide)⟩
theorem Pla.ser (p:Pla a s most)(h6:most<=6){w:List Int}(hw:iV a.sym w)(hl:w.length<=5):AL.sz (jm a w)<=16777215:=by
 have f:=p.few h6;have z:(aY [a]).Sz 24:=Eh (λx hx=>by rw[kJ hx];exact f) (by rw[gG];exact f.st) (by show a.sym<=4;have:=p.s3;have:=p.sym;omega)
 have hv:=λi=>HY z hl i;have hn:(aY [a]).n<=6:=z.n6;have hf:=z.fin;exact Nat.le_trans (Ws hn hv hf) (by decide)
