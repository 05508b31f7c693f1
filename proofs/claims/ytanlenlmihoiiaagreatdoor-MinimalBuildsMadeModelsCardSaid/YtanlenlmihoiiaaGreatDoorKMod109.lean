/-
  M, chapter 24: when two minimal realisations are the same; a further state that has no effect.
-/
import Derived.Test.YtanlenlmihoiiaaGreatDoorKWkBH
set_option maxHeartbeats 6400000
set_option linter.unusedVariables false
set_option linter.unusedSimpArgs false
namespace Go.AL
open Go Go.BigFrame
def H8 (w:List Int):List (List Int)->List (List Int)
 | []=>[w]
 | q::l=>if mG q w<0 then q::H8 w l else w::q::l
section
variable {k n B:Nat}{f:List Int->List Rat}{Q K l:List (List Int)}{rs:List bZ}{w q u:List Int}{i:Nat}
theorem QF:∀ {l:List (List Int)},q ∈ H8 w l ↔ q=w \/ q ∈ l
 | []=>by simp[H8]
 | x :: l => by
  unfold H8
  split
  .rw[List.mem_cons,QF,List.mem_cons];constructor
   .rintro (h|h|h)
    .exact .inr (.inl h)
    .exact .inl h
    .exact .inr (.inr h)
   .rintro (h|h|h)
    .exact .inr (.inl h)
    .exact .inl h
    .exact .inr (.inr h)
  .rw[List.mem_cons]
theorem XL:∀ {l:List (List Int)},(H8 w l).length=l.length+1
 | []=>rfl
 | x::l=>by
  unfold H8
  split
  .rw[List.length_cons,XL,List.length_cons]
  .rfl
theorem XM:∀ {l:List (List Int)},l.Pairwise (λa b=>mG a b<0)->w ∉ l->(H8 w l).Pairwise λa b=>mG a b<0
 | [],_,_=>List.pairwise_singleton ..
 | x :: l, h, hn => by
  obtain⟨h1,h2⟩:=List.pairwise_cons.1 h;unfold H8
  split
  .rename_i hx;refine List.pairwise_cons.2 ⟨λq hq=>?_,XM h2 λhm=>hn (List.mem_cons_of_mem _ hm)⟩;rcases QF.1 hq with rfl|hq
   .exact hx
   .exact h1 q hq
  .rename_i hx;have hw:mG w x<0:=by
    have h3:=E5 x w;have h4:mG x w≠0:=λe=>hn (by rw[F7 e];exact List.mem_cons_self ..)
    omega
   refine List.pairwise_cons.2 ⟨λq hq=>?_,h⟩;rcases List.mem_cons.1 hq with rfl|hq
   .exact hw
   .exact wV hw (Int.le_of_lt (h1 q hq))
theorem Vm:∀ {l:List (List Int)} {i:Nat},i<=l.length->(∀ j,j<i->mG (l.getD j []) w<0)->(i<l.length->¬ mG (l.getD i []) w<0)->H8 w l=l.take i++w::l.drop i
 | [],i,hi,_,_=>by
  have:i=0:=by simpa using hi
  subst this;rfl
 | x::l,0,_,_,h=>by
  unfold H8;rw[if_neg (show ¬ mG x w<0 from h (Nat.succ_pos _))];rfl
 | x::l,i+1,hi,hj,h=>by
  unfold H8;rw[if_pos (show mG x w<0 from hj 0 (Nat.succ_pos _)),Vm (i:=i) (by simpa using hi) (λj hj9=>hj (j+1) (by omega)) λh9=>h (by simpa using h9)]
  rfl
def QG (w:List Int)(Q:List (List Int))(s:Nat):List (List Int):=(List.range s).foldl (λl s=>H8 (((s+1:Nat):Int)::w) l) Q
theorem Hf {s:Nat}:QG w Q (s+1)=H8 (((s+1:Nat):Int)::w) (QG w Q s):=by
 unfold QG;rw[List.range_succ,List.foldl_append];rfl
theorem QH:∀ {s:Nat},(QG w Q s).length=Q.length+s
 | 0=>rfl
 | s+1=>by rw[Hf,XL,QH];omega
theorem xk:∀ {s:Nat},q ∈ QG w Q s ↔ q ∈ Q \/ ∃ t,t<s/\q=((t+1:Nat):Int)::w
 | 0=>⟨λh=>.inl h,λh=>h.elim id λ⟨t,ht,_⟩=>absurd ht (Nat.not_lt_zero _)⟩
 | s + 1 => by
  rw[Hf,QF,xk];constructor
  .rintro (h|h|⟨t,ht,h⟩)
   .exact .inr ⟨s,Nat.lt_succ_self _,h⟩
   .exact .inl h
   .exact .inr ⟨t,Nat.lt_succ_of_lt ht,h⟩
  .rintro (h|⟨t,ht,h⟩)
   .exact .inr (.inl h)
   .rcases Nat.lt_or_ge t s with h1|h1
    .exact .inr (.inr ⟨t,h1,h⟩)
    .have:t=s:=by omega
     subst this;exact .inl h
theorem XO (ho:Q.Pairwise λa b=>mG a b<0)(hn:∀ t:Nat,(((t+1:Nat):Int)::w) ∉ Q):∀ s,(QG w Q s).Pairwise λa b=>mG a b<0
 | 0=>ho
 | s + 1 => by
  rw[Hf];refine XM (XO ho hn s) λhm=>?_;rcases xk.1 hm with h|⟨t,ht,h⟩
  .exact hn s h
  .have:=(List.cons.inj h).1;omega
structure TV (k n B:Nat) (f:List Int->List Rat) (Q K:List (List Int)) (rs:List bZ):Prop where
 s:H6 k n B f (λw=>iV k w/\w ∉ Q/\(w=[] \/ ∃ s u,w=s::u/\u ∈ K)) K rs
 qo:Q.Pairwise λa b=>mG a b<0
 qw:∀ q,q ∈ Q->iV k q
 qt:∀ q,q ∈ Q->q=[] \/ ∃ s u,q=s::u/\u ∈ K
 lt:∀ u,u ∈ K->∀ q,q ∈ Q->mG u q<0
theorem TV.start:TV k n B f [[]] [] [] :=
 ⟨H6.start.weaken (λw hw=>by
  obtain⟨_,h1,h2⟩:=hw;rcases h2 with rfl|⟨s,u,_,hu⟩
  .exact h1 (List.mem_singleton.2 rfl)
  .cases hu),List.pairwise_singleton ..,λq hq=>(by rw[jJ hq];exact λx hx=>by cases hx),λq hq=>.inl (jJ hq),λu hu=>(by cases hu)⟩
theorem TV.drop (h:TV k n B f (w::Q) K rs)(hfl:(f w).length=n)(hg:bM rs (f w)=false):TV k n B f Q K rs:=by
 have hd:=h.s.drop hfl (λu hu=>h.lt u hu w pU) hg;refine⟨hd.weaken λv hv=>?_,(List.pairwise_cons.1 h.qo).2,λq hq=>h.qw q (List.mem_cons_of_mem _ hq),λq hq=>h.qt q (List.mem_cons_of_mem _ hq),λu hu q hq=>h.lt u hu q (List.mem_cons_of_mem _ hq)⟩;by_cases e:v=w
 .exact .inr e
 .exact .inl ⟨hv.1,λhm=>(List.mem_cons.1 hm).elim e hv.2.1,hv.2.2⟩
theorem TV.grow (h:TV k n B f (w::Q) K rs)(hfl:(f w).length=n)(h1:1<=B)(hz:∀ i,sz ((f w).getD i 0)<=B)(hg:bM rs (f w)=true):TV k n B f (QG w Q k) (K++[w]) (rs++[newR rs (f w)]):=by
 have hww:=h.qw w pU;have hlt:=λu hu=>h.lt u hu w pU;have ht:∀ s u,w=s::u->u ∈ K:=λs u e=>by
  rcases h.qt w pU with e2|⟨s2,u2,e2,hu⟩
  .rw[e2] at e;cases e
  .rw[e] at e2;obtain⟨_,rfl⟩:=List.cons.inj e2;exact hu
 have hs:=h.s.grow hfl h1 hz hww hlt ht hg;obtain⟨q1,q2⟩:=List.pairwise_cons.1 h.qo;have hwK:w ∉ K:=λhm=>by have:=hlt w hm;rw[Bo] at this;omega
 have hnew:∀ t:Nat,(((t+1:Nat):Int)::w) ∉ Q:=λt hm=>by
  rcases h.qt _ (List.mem_cons_of_mem _ hm) with e|⟨s,u,e,hu⟩
  .cases e
  .obtain⟨_,rfl⟩:=List.cons.inj e;exact hwK hu
 refine⟨hs.weaken λv hv=>?_,XO q2 hnew k,λq hq=>?_,λq hq=>?_,λu hu q hq=>?_⟩
 .obtain⟨hv1,hv2,hv3⟩:=hv;by_cases e:v=w
  .exact .inr e
  .refine .inl ⟨hv1,λhm=>?_,?_⟩
   .rcases List.mem_cons.1 hm with hm|hm
    .exact e hm
    .exact hv2 (xk.2 (.inl hm))
   .rcases hv3 with hv3|⟨s,u,rfl,hu⟩
    .exact .inl hv3
    .rcases uy hu with hu|hu
     .exact .inr ⟨s,u,rfl,hu⟩
     .rw[jJ hu] at hv2 hv1;have hx:=hv1 s pU;exact absurd (xk.2 (.inr ⟨s.toNat-1,by omega,by rw[show ((s.toNat-1+1:Nat):Int)=s by omega]⟩)) hv2
 .rcases xk.1 hq with hq|⟨t,ht9,rfl⟩
  .exact h.qw q (List.mem_cons_of_mem _ hq)
  .intro x hx;rcases List.mem_cons.1 hx with rfl|hx
   .omega
   .exact hww x hx
 .rcases xk.1 hq with hq|⟨t,ht9,rfl⟩
  .rcases h.qt q (List.mem_cons_of_mem _ hq) with e|⟨s,u,e,hu⟩
   .exact .inl e
   .exact .inr ⟨s,u,e,List.mem_append.2 (.inl hu)⟩
  .exact .inr ⟨_,_,rfl,List.mem_append.2 (.inr (List.mem_singleton.2 rfl))⟩
 .have up:∀ t:Nat,mG w (((t+1:Nat):Int)::w)<0:=λt=>DW (by rw[List.length_cons];omega)
  rcases uy hu with hu|hu
  .rcases xk.1 hq with hq|⟨t,ht9,rfl⟩
   .exact h.lt u hu q (List.mem_cons_of_mem _ hq)
   .exact wV (hlt u hu) (Int.le_of_lt (up t))
  .rw[jJ hu];rcases xk.1 hq with hq|⟨t,ht9,rfl⟩
   .exact q1 q hq
   .exact up t
theorem TV.all (h:TV k n B f [] K rs)(hf:Qr k n f):∀ (q:Nat) (w:List Int),w.length=q->iV k w->dh n ((upTo K w).map f) (vf (f w)):=by
 intro q
 induction q with
 | zero =>
  intro w hw hi;exact h.s.reach w ⟨hi,λhm=>(by cases hm),.inl (Hl hw)⟩
 | succ q ih =>
  intro w hw hi;cases w with
  | nil=>cases hw
  | cons x y =>
   have hx:=hi x pU;obtain⟨s,hs,rfl⟩:∃ s:Nat,s<k/\x=((s+1:Nat):Int):=⟨x.toNat-1,by omega,by omega⟩
   have hy:iV k y:=λq hq=>hi q (List.mem_cons_of_mem _ hq);rw[List.length_cons] at hw;refine hf.map hs hy (λu hu=>h.s.vF u (dV.1 hu).1) (ih y (by omega) hy) λu hu=>?_
   obtain⟨hu1,hu2⟩:=dV.1 hu;refine (h.s.reach (((s+1:Nat):Int)::u) ⟨λq hq=>?_,λhm=>(by cases hm),.inr ⟨_,_,rfl,hu1⟩⟩).mono λb hb=>?_
   .rcases List.mem_cons.1 hq with rfl|hq
    .omega
    .exact h.s.vF u hu1 q hq
   .obtain⟨z,hz,rfl⟩:=kK hb;obtain⟨hz1,hz2⟩:=dV.1 hz;exact List.mem_map.2 ⟨z,dV.2 ⟨hz1,DV hz2 (by rw[J5];exact hu2)⟩,rfl⟩
theorem TV.fin {m:bV}{y:y7}{B9:Nat}(ok:m.Ok)(hk:1<=m.k)(hy:gu (aA (aA m)) B9 [] y)(h:TV m.k (jU (aA (aA m))).length B9 (oL m) [] K rs):Ns m K:=by
 have hall:=h.all (Ee ok hy);have hsh:=pY h.s.ord λu hu hne=>by
  cases u with
  | nil=>exact absurd rfl hne
  | cons s u=>exact⟨u,h.s.tail s u hu,rfl⟩
 refine Ff.fin (l:=K.length+2) ok hk hy ⟨⟨h.s.sp,h.s.len,h.s.rows,h.s.kept,h.s.ord,h.s.vF,h.s.tail,λw hw=>hall w.length w rfl hw.1⟩,λu hu=>by have:=hsh u hu;omega,⟨λc hc=>(by cases hc),λc hc=>(by cases hc),λc hc=>(by cases hc),.nil,λe=>(by omega),λ_ u hu e=>by have:=hsh u hu;omega⟩⟩
def pqL (n k:Nat)(Q K:List (List Int)):Nat:=Q.length+(k+1)*(n-K.length)
theorem XP:pqL n k Q K<pqL n k (w::Q) K:=by unfold pqL;rw[List.length_cons];omega
theorem XQ (h:K.length<n):pqL n k (QG w Q k) (K++[w])<pqL n k (w::Q) K:=by
 unfold pqL;rw[QH,jd,iY,List.length_cons];obtain⟨d,hd⟩:∃ d,n-K.length=d+1:=⟨n-K.length-1,by omega⟩
 rw[hd,show n-(K.length+1)=d by omega,Nat.mul_succ]
 omega
end
end Go.AL
namespace Go.Proofs.YtanlenlmihoiiaaGreatDoor
open Go Go.AL
theorem aW5 {w:List Int}{i:Nat}(hi:i<w.length):w.reverse.getD i 0=w.getD ((w.length:Int)-1-(i:Int)).toNat 0:=by
 rw[show ((w.length:Int)-1-(i:Int)).toNat=w.length-1-i by omega,jh,List.getElem?_reverse hi,<- jh]
theorem Hg {l:List (List Int)}:∀ y,y ∈ l.map ints->y.cells.length=1:=λy hy=>by
 obtain⟨x,_,rfl⟩:=kK hy;rfl
theorem ao9 {w:List Int}(nl:w.length<=1000):ai P F.zG [.d (ints w)] (.d (ints w.reverse)):=by
 refine ai.intro fn.zG (by rfl) (by rfl) (ay (by rfl)) λE hE=>(AW.sg hE rfl (jK rfl (OL.nil (AW.sg hE rfl (jK rfl (OL.nil (AW.seq ?_)))))))
 refine AW.seq (AW.own 3 18 T.int 1 rfl rfl (AW.rg hE rfl (aj rfl (fF sl.ints rfl rfl (bo rfl rfl (mg (c:=(w.length:Int)-1) (by omega) (wrap_i64 (by omega))) (aF rfl (OL.nil ?_)))))))
 refine AW.block ?_;refine AW.aY (α:=Nat × Nat × Nat) [(0,_),(2,_)] [] (λ(i,bq,cq)=>[(3,.bI 18 bq i cq),(4,.d (dI ((w.length:Int)-1-(i:Int))))]) (λ(i,bq,cq)=>[(18,.row bq cq T.int 1 ((w.reverse.take i).map dI))]) (λ(i,bq,cq)=>i<=w.length) (λ(i,bq,cq)=>w.length-i) (0,0,0) (.cons (di rfl) (.cons (xK rfl) .nil)) .nil ⟨Nat.zero_le _,.cons vR (.cons (bW.int (by omega)) .nil),.cons rfl .nil⟩ ?_
 rintro⟨i,bq,cq⟩ h1
 have h1:i<=w.length:=h1;refine AW.seq (AW.sg hE rfl (aj rfl (qX rfl rfl rfl (OL.nil (AW.cond rfl (λh9=>?_) (λh9=>?_))))))
 .have h9:i<w.length:=by have:=lK h9;omega
  refine AW.skip (AW.seq (AW.block (AW.rg hE rfl (iU rfl (aj rfl (aj rfl (ixL sl.ints 0 rfl rfl (by omega) (by omega) rfl rfl ?_)))))))
  refine iE ce.int rfl (rF (y:=dI (w.getD ((w.length:Int)-1-(i:Int)).toNat 0)) sl.ints (VC.d _).vd rfl (by decide) ?_)
  refine xZ sl.ints rfl rfl rfl (by rw[dA,List.length_take,List.length_reverse];omega) (VC.d _) (λy hy=>by rw[jJ hy];rfl) (by simp only[iY];omega) (by simp only[iY];omega) (.inr rfl) (ys:=(w.reverse.take (i+1)).map dI) (by rw[iL 0 (by rw[List.length_reverse];exact h9),aW5 h9,List.map_append];rfl) (n2:=i+1) rfl λb18 c18=>?_
  exact pV rfl (OL.nil (AW.rg hE rfl (aj rfl (bo rfl rfl (mg (c:=(w.length:Int)-1-((i+1:Nat):Int)) (by omega) (wrap_i64 (by omega))) (aF rfl (OL.nil (AW.again (x:=(i,bq,cq)) (i+1,b18,c18) (by (simp only[];omega)) ⟨by omega,Knows.app .iW (.cons vR (.cons (bW.int (by omega)) .nil)),.cons rfl .nil⟩)))))))
 .have h9:i=w.length:=by have:=nZ h9;omega
  refine AW.exit (AW.seq ?_);obtain rfl:i=w.length:=h9;exact AW.rg hE rfl (iU rfl (pV rfl (OL.nil (AW.ret (aP.r ⟨_,.tmp rfl .nil,RO.all rfl rfl (by rw[dA,List.length_take,List.length_reverse];omega) (by rw[List.take_of_length_le (by rw[List.length_reverse];exact Nat.le_refl _)])⟩)))))
theorem ap0 {l:List (List Int)}{w:List Int}(nl:l.length<=1000)(hl:∀ q,q ∈ l->q.length<=1000):ai P F.zH [.d (.sl (l.map ints)),.d (ints w)] (.d (.sl ((H8 w l).map ints))):=by
 refine ai.intro fn.zH (by rfl) (by rfl) (ay (by rfl)) λE hE=>(AW.sg hE rfl (jK rfl (OL.nil (AW.sg hE rfl (aF rfl (OL.nil (AW.seq ?_)))))))
 refine AW.block ?_;refine AW.aY (α:=Nat) [(0,_),(1,_),(4,_)] [] (λi=>[(5,.d (dI i))]) (λi=>[]) (λi=>i<=l.length/\∀ j,j<i->mG (l.getD j []) w<0) (λi=>l.length-i) 0 (.cons (di rfl) (.cons (di rfl) (.cons (xK rfl) .nil))) .nil ⟨⟨Nat.zero_le _,λj hj=>absurd hj (Nat.not_lt_zero _)⟩,.dD,.nil⟩ ?_
 rintro i ⟨h1,h2⟩
 have h1:i<=l.length:=h1;have h2:∀ j,j<i->mG (l.getD j []) w<0:=h2;refine AW.seq (AW.sg hE rfl (aj rfl (aj rfl (fF sl.gB rfl rfl (bG rfl rfl rfl (aj rfl (OL.split 10 rfl (λhi=>?_) (λhi=>?_))))))))
 .have hi:i<l.length:=by have:=lK hi;omega
  refine OL.yes rfl (aj rfl (OL.yes rfl (aj rfl (OL.yes rfl (dR sl.gB [] rfl rfl hi rfl rfl (OL.yes rfl (iE ce.ints rfl ?_)))))));refine OL.yes rfl (aj rfl (OL.yes rfl (bH rfl vL (BB (l:=l.getD i []) (m:=w) (Nat.le_trans (hl _ (getD_mem hi [])) (by decide))) (OL.yes rfl (bG rfl rfl rfl (oK rfl rfl (OL.nil ?_)))))))
  refine AW.cond rfl (λhc=>?_) (λhc=>?_)
  .have hc:mG (l.getD i []) w<0:=lK hc;refine AW.skip (AW.block (AW.rg hE rfl (aj rfl (aI rfl rfl (by omega) (aF rfl (OL.nil ?_))))))
   exact AW.again (x:=i) (i+1) (by omega) ⟨⟨by omega,λj hj=>by
    by_cases e:j=i
    .rw[e];exact hc
    .exact h2 j (by omega)⟩,Knows.app .yU .dD,.nil⟩
  .have hc:¬ mG (l.getD i []) w<0:=nZ hc;refine AW.exit (AW.seq ?_);have hat:i<l.length->¬ mG (l.getD i []) w<0:=by first|exact λh=>absurd h hi|exact λ_=>hc
   have e9:=Vm h1 h2 hat;have hdl:(l.drop i).length<=l.length:=by rw[List.length_drop];omega
   have htl:(l.take i).length<=l.length:=by rw[List.length_take];omega
   refine AW.dg 2 [0,1,2,4,5,7,8,9,3,6,10,11] ak hE rfl (by kernel_rfl) (OI.aK (os:=[_,_,_,_,_,_,_,_,_,_,_,_]) rfl ?_)
   refine aj rfl (aj rfl (ah6 sl.gB rfl rfl (λ_=>rfl) (by omega) (l2:=l.take i) (by rw[Int.toNat_natCast]) (aj rfl (rF (y:=ints w) sl.gB (VC.d _).vd rfl (by decide) (aj rfl (aj rfl (Ox sl.gB rfl rfl (λ_=>rfl) (by omega) (l2:=l.drop i) (by rw[Int.toNat_natCast]) ?_)))))))
   refine apM sl.gB rfl rfl (VC.d _) Hg (by rw[dA];omega) (by rw[dA];omega) rfl λb24 c24=>?_
   refine xZ sl.gB rfl rfl rfl rfl (VC.d _) (λy hy=>by rw[jJ hy];rfl) (by rw[dA];simp only[iY];omega) (by rw[dA];simp only[iY];omega) (.inl rfl) (ys:=(l.take i++[w]).map ints) (by rw[List.map_append];rfl) (n2:=(l.take i).length+1) (by rw[dA];rfl) λb27 c27=>?_
   exact Yn sl.gB rfl rfl rfl (by rw[dA,jd];rfl) (VC.d _) Hg (by rw[dA];omega) (by rw[dA];omega) (.inl rfl) (ys:=(H8 w l).map ints) (by rw[e9,<- List.map_append,List.append_assoc];rfl) (aF rfl (OL.nil (AW.ret (aP.r ⟨_,.tmp rfl .nil,.le vR⟩))))
 .have hi:¬ i<l.length:=by have:=nZ hi;omega
  refine OL.nd rfl (OL.nd rfl (OL.nd rfl (OL.nd rfl (OL.nd rfl (OL.nd rfl (OL.nd rfl (oI rfl rfl ?_)))))));refine OL.nil (oH rfl ?_);refine AW.exit (AW.seq ?_);have hat:i<l.length->¬ mG (l.getD i []) w<0:=by first|exact λh=>absurd h hi|exact λ_=>hc
  have e9:=Vm h1 h2 hat;have hdl:(l.drop i).length<=l.length:=by rw[List.length_drop];omega
  have htl:(l.take i).length<=l.length:=by rw[List.length_take];omega
  refine AW.dg 2 [0,1,2,4,5,7,8,9,3,6,10,11] ak hE rfl (by kernel_rfl) (OI.aK (os:=[_,_,_,_,_,_,_,_,_,_,_,_]) rfl ?_)
  refine aj rfl (aj rfl (ah6 sl.gB rfl rfl (λ_=>rfl) (by omega) (l2:=l.take i) (by rw[Int.toNat_natCast]) (aj rfl (rF (y:=ints w) sl.gB (VC.d _).vd rfl (by decide) (aj rfl (aj rfl (Ox sl.gB rfl rfl (λ_=>rfl) (by omega) (l2:=l.drop i) (by rw[Int.toNat_natCast]) ?_)))))))
  refine apM sl.gB rfl rfl (VC.d _) Hg (by rw[dA];omega) (by rw[dA];omega) rfl λb24 c24=>?_
  refine xZ sl.gB rfl rfl rfl rfl (VC.d _) (λy hy=>by rw[jJ hy];rfl) (by rw[dA];simp only[iY];omega) (by rw[dA];simp only[iY];omega) (.inl rfl) (ys:=(l.take i++[w]).map ints) (by rw[List.map_append];rfl) (n2:=(l.take i).length+1) (by rw[dA];rfl) λb27 c27=>?_
  exact Yn sl.gB rfl rfl rfl (by rw[dA,jd];rfl) (VC.d _) Hg (by rw[dA];omega) (by rw[dA];omega) (.inl rfl) (ys:=(H8 w l).map ints) (by rw[e9,<- List.map_append,List.append_assoc];rfl) (aF rfl (OL.nil (AW.ret (aP.r ⟨_,.tmp rfl .nil,.le vR⟩))))
theorem aW6 {a:Au}{w:List Int}{L:List (List Int)}{s:Nat}(ft:Au.Fit a s)(ff:(lF a).Fw)(ok:(ah [a]).Ok)(z6:(ah [a]).Sz 24)(hw:iV a.sym w)(hl:w.length<=6)(nl:L.length<=6)(hL:∀ l,l ∈ L->l.length<=6):ai P F.xN [yV a,.d (.sl ((tV (aA (ah [a])) L).map dJ)),.d (ints w)] (.d (dJ (aZ (ah [a]) L w))):=by
 have n6:=z6.n6;have hvl:(aZ (ah [a]) L w).length=L.length:=fU;have hll:=J4 (m:=(aA (ah [a]))) (L:=L);refine ai.intro fn.xN (by rfl) (by rfl) (ay (by rfl)) λE hE=>(AW.sg hE rfl (iO rfl rfl λb3=>(jK rfl (OL.nil (AW.sg hE rfl (aQ ag.Auto rfl rfl (vs:=[_,_,_,_,_,_,_]) rfl (ay rfl) (bH rfl vL (Lp (a:=a) ft.ok ft.sz ft.st) ?_)))))))
 refine aj rfl (bH rfl vL (IJ (a:=lF a) (w:=w) ff hw hl) ?_);rw[Xl ft.ok hw,CS ft.ok hw];refine aF rfl (OL.nil (AW.sg hE rfl (jK rfl (OL.nil (AW.seq (AW.seq (AW.own 8 28 T.Rat 3 rfl rfl ?_)))))));refine AW.rg hE rfl (aF rfl (OL.nil (AW.block ?_)));refine AW.aY (α:=Nat × Nat × Nat) [(1,_),(6,_),(7,_)] [] (λ(i,bq,cq)=>[(8,.bI 28 bq i cq),(9,.d (dI i))]) (λ(i,bq,cq)=>[(28,.row bq cq T.Rat 3 (((aZ (ah [a]) L w).take i).map dQ))]) (λ(i,bq,cq)=>i<=L.length) (λ(i,bq,cq)=>L.length-i) (0,0,0) (.cons (di rfl) (.cons (xK rfl) (.cons (di rfl) .nil))) .nil ⟨Nat.zero_le _,.iW,.cons rfl .nil⟩ ?_
 rintro⟨i,bq,cq⟩ h1
 have h1:i<=L.length:=h1;refine AW.seq (AW.sg hE rfl (aj rfl (aj rfl (fF sl.dw rfl rfl (bG rfl rfl rfl (OL.nil (AW.cond rfl (λh17=>?_) (λh17=>?_))))))))
 .try simp only[fD] at h17
  refine AW.skip (AW.seq (AW.block ?_));have hi:i<L.length:=by omega
  refine AW.rg hE rfl (iU rfl (aj rfl (aj rfl (aj rfl (dR sl.dw [] rfl rfl (by omega) rfl rfl (iE ce.bg rfl ?_))))))
  rw[XA hi];refine bH rfl vL (aG4 (v:=bF (ah [a]) w) (u:=bF (aA (ah [a])) (L.getD i [])) (n:=(ah [a]).n) (jl ok w) (jl (iH ok) _) (by omega) (λj=>Nat.le_trans (jY z6 hl j) (by decide)) (λj=>Nat.le_trans (jY z6.turn (hL _ (getD_mem hi [])) j) (by decide))) ?_
  rw[<- Xm hi];refine rF (y:=dQ ((aZ (ah [a]) L w).getD i 0)) sl.bg BJ rfl (by decide) ?_
  refine xZ sl.bg rfl rfl rfl (by rw[dA,List.length_take];omega) (VC.d _) (λy hy=>by rw[jJ hy];rfl) (by simp only[iY];omega) (by simp only[iY];omega) (.inr rfl) (ys:=((aZ (ah [a]) L w).take (i+1)).map dQ) (by rw[TL hi,List.map_append];rfl) (n2:=i+1) rfl λb28 c28=>?_
  exact pV rfl (OL.nil (AW.rg hE rfl (aj rfl (aI rfl rfl (by omega) (aF rfl (OL.nil (AW.again (x:=(i,bq,cq)) (i+1,b28,c28) (by (simp only[];omega)) ⟨by omega,Knows.app .yU .iW,.cons rfl .nil⟩)))))))
 .try simp only[fD] at h17
  refine AW.exit (AW.seq ?_);obtain rfl:i=L.length:=by omega
  exact AW.rg hE rfl (iU rfl (pV rfl (OL.nil (AW.ret (aP.r ⟨_,.tmp rfl .nil,RO.all rfl rfl (by rw[dA,List.length_take];omega) (by rw[List.take_of_length_le (by omega)])⟩)))))
theorem MX {a:Au}{s9:Nat}(k:Au.Rk a s9)(st5:a.st<=5):ai P F.rV [yV a,.d (.sl ((tV (aA (ah [a])) (bL (ah [a]))).map dJ))] (.mM [.d (.sl ((aV (ah [a])).map ints)),.d (.sl (((aV (ah [a])).map (aZ (ah [a]) (bL (ah [a])))).map dJ))]):=by
 obtain⟨ok,fl,z6,hn⟩:=k.fa.Qe;obtain⟨zs,hz,_⟩:=(C9 ok z6).inv;obtain⟨mv,v⟩:=CX ok hz;exact TK (Vl k st5 v) λy hy=>by rw[CY (hz.first ok v hy.1)]
theorem XR {a:Au}{s:Nat}(k:Au.Rk a s)(st5:a.st<=5):ai P F.wC [yV a] (.mM [.d (.sl ((aV (ah [a])).map ints)),.d (dI 0)]):=by
 refine ai.intro fn.wC (by rfl) (by rfl) (ay (by rfl)) λE hE=>(AW.sg hE rfl (iO rfl rfl λb1=>(jK rfl (aF rfl (OL.nil (AW.seq (AW.sg hE rfl ?_)))))))
 refine aQ ag.Auto rfl rfl (vs:=[_,_,_,_,_,_,_]) rfl (ay rfl) (bH rfl vL (Qq k.take.fit k.wt) (aF rfl (OL.nil (AW.sg hE rfl (aj rfl (eX rfl rfl (c:=false) (kY rfl) (OL.nil ?_)))))));refine oH rfl ?_;refine AW.skip (AW.seq (AW.dg 1 [0,1,2,3,4,5,6,7,8] ak hE rfl (by kernel_rfl) (OI.aK (os:=[_,_,_,_,_,_,_,_,_]) rfl ?_)))
 refine aQ ag.Auto rfl rfl (vs:=[_,_,_,_,_,_,_]) rfl (ay rfl) (aQ ag.Auto rfl rfl (vs:=[_,_,_,_,_,_,_]) rfl (ay rfl) (bH rfl vL (Vd (a:=a) k.take.fit k.rz k.fr) (bH rfl vL (MX k st5) (Di rfl (ex rfl rfl (ex rfl rfl (aF rfl ?_)))))));exact aF rfl (OL.nil (AW.sg hE rfl (aj rfl (aF rfl (aF rfl (OL.nil (AW.ret (aP.r ⟨_,.tmp rfl (.tmp rfl .nil),_,.cons (.le vR) (.cons (.le vR) .nil),rfl⟩))))))))
structure Au.Sx (a:Au) (s:Nat):Prop where
 rk:Au.Rk a s
 fit:Au.Fit (pJ a) s
 rz:(pJ (pJ a)).Sz 134217728 20
 ff:(lF (pJ (pJ a))).Fw
theorem aW7 {a:Au}{s:Nat}(x:Au.Sx a s){w:List Int}(hw:iV a.sym w)(hl:w.length<=5):ai P F.xN [yV (pJ a),.d (.sl ((tV (aA (aA (ah [a]))) (bL (aA (ah [a])))).map dJ)),.d (ints w.reverse)] (.d (dJ (oL (ah [a]) w))):=by
 obtain⟨ok,fl,z6,hn⟩:=x.rk.fa.Qe;have hT:Nu (aA (ah [a])):=C9 (iH ok) z6.turn;obtain⟨hl4,hl5,_⟩:=hT.len (show (aA (ah [a])).n<=6 from z6.n6)
 have hn6:(aA (ah [a])).n<=6:=z6.n6;have h:=aW6 (a:=pJ a) (w:=w.reverse) (L:=bL (aA (ah [a]))) x.fit x.rk.fr (by rw[D8];exact iH ok) (by rw[D8];exact z6.turn) (yJ (k:=a.sym) hw) (by rw[List.length_reverse];omega) (by omega) (λl hl=>Nat.le_succ_of_le (hl5 l hl))
 rw[D8] at h;exact h
theorem aI5 {k n B:Nat}{f:List Int->List Rat}{Q K:List (List Int)}{rs:List bZ}(h:TV k n B f Q K rs):∀ q,q ∈ Q->q.length<=K.length:=λq hq=>by
 have hsh:=pY h.s.ord λu hu hne=>by
  cases u with
  | nil=>exact absurd rfl hne
  | cons s u=>exact⟨u,h.s.tail s u hu,rfl⟩
 rcases h.qt q hq with rfl|⟨s,u,rfl,hu⟩
 .exact Nat.zero_le _
 .exact hsh u hu
set_option maxRecDepth 8000 in
theorem XT {a:Au}{s9:Nat}(x:Au.Sx a s9)(st4:a.st<=4):ai P F.wE [yV a] (.mM [.d (.sl ((FB (ah [a])).map ints)),.d (dI 0)]):=by
 obtain⟨ok,fl,z6,hn⟩:=x.rk.fa.Qe;have s4:=x.rk.fa.s4;have hk:(ah [a]).k=a.sym:=xE;have hs1:1<=a.sym:=x.rk.take.fit.ok.Jl;have hT:Nu (aA (ah [a])):=C9 (iH ok) z6.turn;have htn:(aA (ah [a])).n=(ah [a]).n:=rfl;obtain⟨hl4,hl5,_⟩:=hT.len (show (aA (ah [a])).n<=6 by omega)
 have hl4:(bL (aA (ah [a]))).length<=(ah [a]).n:=hl4;obtain⟨z9,hz9,_⟩:=hT.inv;have hsf:=Ee ok hz9;have hm0:pqL (bL (aA (ah [a]))).length a.sym [[]] []<=100:=by
   unfold pqL;have:=Nat.mul_le_mul (show a.sym+1<=5 by omega) (show (bL (aA (ah [a]))).length-([]:List (List Int)).length<=6 by omega)
   simp only[iY];omega
 have hll:(tV (aA (aA (ah [a]))) (jU (aA (aA (ah [a]))))).length=(bL (aA (ah [a]))).length:=J4;refine ai.intro fn.wE (by rfl) (by rfl) (ay (by rfl)) λE hE=>(AW.sg hE rfl (iO rfl rfl λb1=>(jK rfl (aF rfl (OL.nil (AW.seq (AW.sg hE rfl ?_)))))))
 refine aQ ag.Auto rfl rfl (vs:=[_,_,_,_,_,_,_]) rfl (ay rfl) (bH rfl vL (Qq x.rk.take.fit x.rk.wt) (aF rfl (OL.nil (AW.sg hE rfl (aj rfl (eX rfl rfl (c:=false) (kY rfl) (OL.nil ?_)))))));refine oH rfl ?_;refine AW.skip (AW.sg hE rfl (aQ ag.Auto rfl rfl (vs:=[_,_,_,_,_,_,_]) rfl (ay rfl) (bH rfl vL (Qn x.rk.take.fit) (Di rfl (ex rfl rfl (ex rfl rfl (al z.Auto rfl λb5=>?_)))))));refine fA sz.Auto rfl rfl rfl rfl rfl (ay rfl) (cells2:=[_,_,_,_,_,_,_]) rfl (aF rfl (OL.nil (AW.sg hE rfl (aQ ag.Auto rfl rfl (vs:=[_,_,_,_,_,_,_]) rfl (ay rfl) (bH rfl vL (Vd (a:=pJ a) x.fit x.rz x.ff) ?_)))));rw[D8];refine aF rfl (OL.nil (AW.seq (AW.sg hE rfl (aj rfl (fF sl.dw rfl rfl (fG rfl rfl rfl (OL.nil ?_)))))));refine AW.cond rfl (λh0=>?_) (λh0=>?_)
 .have h0:(bL (aA (ah [a]))).length=0:=by have:=lK h0;omega
  have hnil:FB (ah [a])=[]:=by
   refine NV (TV.fin ok (by omega) hz9 (TV.drop (w:=[]) TV.start fU ?_))
   have hv:(oL (ah [a])) []=[]:=Hl (fU.trans h0);rw[hv];rfl
  exact AW.sg hE rfl (jK rfl (aF rfl (OL.nil (AW.ret (aP.r ⟨_,.tmp rfl (.tmp rfl .nil),_,.cons (.le (by rw[hnil];exact bW.mt)) (.cons (.le vR) .nil),rfl⟩)))))
 .have h0:0<(bL (aA (ah [a]))).length:=by have:=nZ h0;omega
  refine AW.skip (AW.sg hE rfl (jK rfl (OL.nil (AW.seq (AW.own 8 56 T.ints 1 rfl rfl (AW.rg hE rfl (jK rfl ?_)))))));refine OL.nil (AW.sg hE rfl (rF (y:=ints []) sl.gB VC.mt.vd rfl (by decide) (aF rfl (OL.nil (AW.seq (AW.block ?_))))))
  refine AW.aY (α:=List (List Int) × List bZ × List (List Int) × Nat × Nat) [(1,_),(2,_),(3,_),(5,_),(7,_)] [(1,_),(5,_)] (λ(K,rs,Q,bw,cw)=>[(8,.bI 56 bw K.length cw),(9,.d (.sl ((K.map (oL (ah [a]))).map dJ))),(10,.d (.sl (Q.map ints)))]) (λ(K,rs,Q,bw,cw)=>[(56,.row bw cw T.ints 1 (K.map ints))]) (λ(K,rs,Q,bw,cw)=>TV (ah [a]).k (bL (aA (ah [a]))).length 16777215 (oL (ah [a])) Q K rs/\rs=eG (K.map (oL (ah [a])))/\pqL (bL (aA (ah [a]))).length a.sym Q K<=100) (λ(K,rs,Q,bw,cw)=>pqL (bL (aA (ah [a]))).length a.sym Q K) ([],[],[[]],0,0) (.cons (iw rfl) (.cons (xK rfl) (.cons (di rfl) (.cons (iw rfl) (.cons (di rfl) .nil))))) (.cons (je rfl) (.cons (je rfl) .nil)) ⟨⟨TV.start,rfl,hm0⟩,.cons vR (.cons (bW.mt) .dD),.cons rfl .nil⟩ ?_
  rintro⟨K,rs,Q,bw,cw⟩ ⟨hP,hR,hm1⟩
  have hP:TV (ah [a]).k (bL (aA (ah [a]))).length 16777215 (oL (ah [a])) Q K rs:=hP;have hR:rs=eG (K.map (oL (ah [a]))):=hR;have hm1:pqL (bL (aA (ah [a]))).length a.sym Q K<=100:=hm1;have hQl:Q.length<=pqL (bL (aA (ah [a]))).length a.sym Q K:=Nat.le_add_right _ _;have hKn:K.length<=(bL (aA (ah [a]))).length:=by have:=hP.s.sp.le;have:=hP.s.len;omega
  have hkl:(K.map (oL (ah [a]))).length=K.length:=dA ..;refine AW.seq (AW.sg hE rfl (aj rfl (fF sl.gB rfl rfl (jI rfl rfl rfl (OL.nil (AW.cond rfl (λhQ=>?_) (λhQ=>?_)))))))
  .have hQ:0<Q.length:=by have:=lK hQ;omega
   refine AW.skip (AW.block (AW.seq ?_));obtain⟨w,Q,rfl⟩:∃ w Q9,Q=w::Q9:=(match Q,hQ with|w::Q9,_=>⟨w,Q9,rfl⟩)
   have hwl:=aI5 hP w pU;have hwi:iV a.sym w:=by have:=hP.qw w pU;rwa [hk] at this
   have hcl:(oL (ah [a]) w).length=(bL (aA (ah [a]))).length:=fU;have hcz:∀ i,sz ((oL (ah [a]) w).getD i 0)<=16777215:=λi=>ug z6.turn (by rw[List.length_reverse];omega) hl5 i
   have hsh:=pY hP.s.ord λu hu hne=>by
    cases u with
    | nil=>exact absurd rfl hne
    | cons s u=>exact⟨u,hP.s.tail s u hu,rfl⟩
   have hG:vV (K.map (oL (ah [a]))):=Kw _ _ rfl (by rw[<- hR,hkl,hP.s.len])
   have hlv:∀ u,u ∈ K.map (oL (ah [a]))->u.length=(bL (aA (ah [a]))).length:=λu hu=>by obtain⟨z,_,rfl⟩:=kK hu;exact fU
   have hzs:∀ u,u ∈ K.map (oL (ah [a]))->∀ i,sz (u.getD i 0)<=16777215:=λu hu i=>by obtain⟨z,hz,rfl⟩:=kK hu;exact ug z6.turn (by rw[List.length_reverse];have:=hsh z hz;omega) hl5 i
   rw[List.length_cons] at hQl;refine AW.rg hE rfl (aj rfl (dR (i:=0) sl.gB [] rfl rfl (by rw[List.length_cons];omega) rfl rfl (iE ce.ints rfl (aF rfl (OL.nil (AW.sg hE rfl (aj rfl ?_)))))))
   refine Ox sl.gB rfl rfl (λ_=>rfl) (by rw[List.length_cons];omega) (l2:=Q) rfl (aF rfl (OL.nil (AW.seq (AW.dg 1 [0,1,2,3,4,5,6,7,8,9,10,11,12,13] ak hE rfl (by kernel_rfl) (OI.aK (os:=[_,_,_,_,_,_,_,_,_,_,_,_,_,_]) rfl ?_)))))
   refine aj rfl (aQ ag.Auto rfl rfl (vs:=[_,_,_,_,_,_,_]) rfl (ay rfl) (aj rfl (aj rfl (bH rfl vL (ao9 (w:=w) (by omega)) (bH rfl vL (aW7 x hwi (by omega)) (bH rfl vL (QE hG hlv (by omega) (by omega) hzs h0 hcl hcz) ?_))))))
   rw[<- hR];refine Di rfl (ex rfl rfl (ex rfl rfl (ex rfl rfl (aF rfl (aF rfl (aF rfl (OL.nil ?_)))))));refine AW.seq (AW.sg hE rfl (aj rfl (nt rfl (OL.nil (AW.cond rfl (λhg=>?_) (λhg=>?_))))))
   .have hg:bM rs (oL (ah [a]) w)=false:=by simpa using hg
    refine AW.exit ?_;exact AW.again (x:=(K,rs,w::Q,bw,cw)) (K,rs,Q,bw,cw) (by exact XP) ⟨⟨hP.drop fU hg,hR,by have h9:=XP (n:=(bL (aA (ah [a]))).length) (k:=a.sym) (w:=w) (Q:=Q) (K:=K);omega⟩,Knows.app .Ky .yU,dL.app (.cons rfl (.cons rfl .nil)) (.cons rfl .nil)⟩
   .have hg:bM rs (oL (ah [a]) w)=true:=by simpa using hg
    have hP2:=hP.grow fU (by decide) hcz hg
    rw[hk] at hP2;have hKl:K.length<(bL (aA (ah [a]))).length:=by
     have h1:=hP2.s.sp.le;have h2:=hP2.s.len;rw[jd] at h1 h2;simp only[iY,jd] at h1 h2;omega
    have hR2:rs++[newR rs (oL (ah [a]) w)]=eG ((K++[w]).map (oL (ah [a]))):=by
     rw[List.map_append,List.map_cons,List.map_nil,oG,<- hR];exact (if_pos hg).symm
    rw[if_pos hg,show K.map (oL (ah [a]))++[(oL (ah [a]) w)]=(K++[w]).map (oL (ah [a])) from by rw[List.map_append];rfl]
    refine AW.skip (AW.sg hE rfl (iU rfl (aj rfl (rF (y:=ints w) sl.gB (VC.d _).vd rfl (by decide) ?_))))
    refine xZ sl.gB rfl rfl rfl (by rw[dA]) (VC.d _) (λy hy=>by rw[jJ hy];rfl) (by simp only[iY];omega) (by simp only[iY];omega) (.inr rfl) (ys:=(K++[w]).map ints) (by rw[List.map_append];rfl) (n2:=(K++[w]).length) (by rw[jd];rfl) λb56 c56=>?_
    refine aj rfl (pV rfl (aF rfl (OL.nil (AW.sg hE rfl (aF rfl (OL.nil (AW.block ?_)))))));refine AW.aY (α:=Nat) [(1,_),(2,_),(3,_),(5,_),(7,_),(8,_),(9,_),(11,_)] [(1,_),(5,_),(56,_)] (λs=>[(10,.d (.sl ((QG w Q s).map ints))),(15,.d (dI ((s:Int)+1)))]) (λs=>[]) (λs=>s<=a.sym) (λs=>a.sym-s) 0 (.cons (iw rfl) (.cons (xK rfl) (.cons (di rfl) (.cons (iw rfl) (.cons (di rfl) (.cons (zA rfl) (.cons (di rfl) (.cons (di rfl) .nil)))))))) (.cons (je rfl) (.cons (je rfl) (.cons (qZ rfl) .nil))) ⟨Nat.zero_le _,.cons vR (.cons (bW.int (by omega)) .nil),.nil⟩ ?_
    rintro s h1
    have h1:s<=a.sym:=h1;refine AW.seq (AW.sg hE rfl (aj rfl (bC fd.lX rfl rfl (aG ce.int rfl rfl rfl (yM rfl rfl rfl (OL.nil (AW.cond rfl (λh61=>?_) (λh61=>?_))))))))
    .try simp only[fD] at h61
     refine AW.skip (AW.seq (AW.block ?_));have hsk:s<a.sym:=by omega
     have hil:=QH (w:=w) (Q:=Q) (s:=s);refine AW.rg hE rfl (aj rfl (aj rfl (rF (y:=dI ((s:Int)+1)) sl.ints (VC.d _).vd rfl (by decide) (aj rfl (bH rfl vL (Vb (w:=[(s:Int)+1]) (u:=w) (ay rfl) (by omega)) ?_)))))
     refine bH rfl vL (ap0 (l:=QG w Q s) (w:=((s+1:Nat):Int)::w) (by omega) (λq hq=>by
      rcases xk.1 hq with hq|⟨t,_,rfl⟩
      .have:=aI5 hP q (List.mem_cons_of_mem _ hq);omega
      .rw[List.length_cons];omega)) ?_
     refine aF rfl (OL.nil (AW.rg hE rfl (aj rfl (aI rfl rfl (by omega) (aF rfl (OL.nil ?_))))))
     exact AW.again (x:=s) (s+1) (by omega) ⟨by omega,Knows.app .rq8 (.cons (by rw[Hf];exact bW.refl _) (.cons (bW.int (by omega)) .nil)),dL.app (.cons rfl (.cons rfl (.cons rfl .nil))) (.nil)⟩
    .try simp only[fD] at h61
     refine AW.exit ?_;obtain rfl:s=a.sym:=(by omega)
     exact AW.again (x:=(K,rs,w::Q,bw,cw)) (K++[w],rs++[newR rs (oL (ah [a]) w)],QG w Q a.sym,b56,c56) (by exact XQ hKl) ⟨⟨by rw[hk];exact hP2,hR2,by have h9:=XQ (n:=(bL (aA (ah [a]))).length) (k:=a.sym) (w:=w) (Q:=Q) (K:=K) hKl;omega⟩,Knows.app .Ky .yU,dL.app (.cons rfl (.cons rfl .nil)) (.cons rfl .nil)⟩
  .have hQ:Q.length=0:=by have:=nZ hQ;omega
   obtain rfl:Q=[]:=Hl hQ;have hfin:FB (ah [a])=K:=NV (TV.fin ok (by omega) hz9 hP)
   exact AW.exit (AW.sg hE rfl (iU rfl (pV rfl (aF rfl (OL.nil (AW.ret (aP.r ⟨_,.tmp rfl (.tmp rfl .nil),_,.cons (RO.all rfl rfl (dA ..).symm (by rw[hfin])) (.cons (.le vR) .nil),rfl⟩)))))))
end Go.Proofs.YtanlenlmihoiiaaGreatDoor
namespace Go.AL
open Go Go.BigFrame
noncomputable def ZA (a:Au):Au:=⟨a.sym,(aV (ah [a])).length,BG (aV (ah [a])).length,(aV (ah [a])).map (xA a),dK (dK (vG (ah [a]) (aV (ah [a]))))⟩
