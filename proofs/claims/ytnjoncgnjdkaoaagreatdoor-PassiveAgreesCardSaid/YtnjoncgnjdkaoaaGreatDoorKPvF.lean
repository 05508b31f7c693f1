/-
  Walks for chapter 30, part 5: the specification's words, weights of a tape, samples of a model (printed by mk2.py).
-/
import Derived.Test.YtnjoncgnjdkaoaaGreatDoorKPvE
import Derived.Test.YtnjoncgnjdkaoaaGreatDoorKWkY
set_option maxRecDepth 8000
set_option maxHeartbeats 1600000
set_option linter.unusedVariables false
set_option linter.unusedSimpArgs false
namespace Go.AL
open Go Go.BigFrame
def V.Flat (x:V):Prop:=∀ (F F':Hp) (v:Value),dm F v x->dm F' v x
theorem YE {u:Value}:V.Flat (.d (.sc u)):=λF F' v h=>by
 cases h with
 | d hd ho=>cases hd with
  | sc hs=>exact .d (.sc hs) ho
theorem flat_nil:V.Flat (.d (.sl [])):=λF F' v h=>by
 cases h with
 | d hd ho => cases hd with
  | sl hn hc hsz ha ho2 hr =>
   refine .d (.sl hn hc hsz (λi hi=>?_) ho2 λi d hd=>?_) ho
   .rw[<- hn] at hi;simp at hi
   .simp at hd
theorem at1 {l:List V}(h:∀ x,x ∈ l->V.Flat x):V.Flat (.jS l):=λF F' v hv=>by
 cases hv with
 | jS hl hr=>exact .jS hl λi c u hc hu=>h c (List.mem_of_getElem? hc) F F' u (hr i c u hc hu)
theorem aj.bg9 {P:Program}{f id b c e sz:Nat}{es:List D}{args pR:List V}{x:V}(hx0:V.Flat x)(h:aj P f args x)(ha:fH (pR.map (V.YZ id b c es)) args) :
  eX P f pR (mem1 id (.row b c e sz es)) x (mem1 id (.row b c e sz es)) :=
 ⟨h.1,λF w vals hS hv=>by
  obtain⟨F',h1,h2,h3,h4⟩:=wK hS (Bo id (.row b c e sz es));have hv':kU F' vals args:=qw ⟨by rw[hv.1,dJ],λi y u hy hu=>by
   rw[List.getElem?_map] at hy;cases hq:pR[i]? with
   | none=>rw[hq] at hy;cases hy
   | some z=>rw[hq] at hy;cases hy;exact V.KA h1 h4 (hv.2 i z u hq hu)⟩ ha
  refine (h.2 F' w vals h2.rM hv').mono λe2 w' ⟨v,F'',he,hx,hr⟩=>⟨v,F,he,⟨hx.grow.mono λi k=>k.elim,Hp.le.refl _,⟨λk o hk=>hx.rM k o (hx.le k o (h1 k o hk)),λj blk hm=>?_,hS.apart,hS.inj⟩,λk p q=>absurd p q,λk k2=>.inr k2⟩,hx0 _ _ _ hr⟩;exact (hS.own j blk hm).keep (Hp.le.refl _) λk ho=>hx.grow.block k ((hS.own j blk hm).lt ho) λq=>q⟩
end Go.AL
namespace Go.Proofs.YtnjoncgnjdkaoaaGreatDoor
open Go Go.AL
def zV (L:List Int)(a:Nat):Rat:=((wF L a 9-4:Int):Rat) / ((1+wF L (jF L a) 3:Int):Rat)
def wz (L:List Int)(a:Nat):Nat:=jF L (jF L a)
theorem KQ (L:List Int)(a:Nat):IB 1 24 (zV L a):=by
 have h1:=kV (L:=L) (a:=a) (m:=9) (by decide)
 have h2:=kV (L:=L) (a:=jF L a) (m:=3) (by decide)
 exact aF0 (by omega) (by omega)
theorem uO {A:List (List Int)}{k i:Nat}(hi:i<A.length):(A.take (i+1)).flatMap (cu k)=(A.take i).flatMap (cu k)++cu k (A.getD i []):=by
 rw[rH [] hi,List.flatMap_append];simp
theorem Js {k:Nat}:∀ A:List (List Int),(A.flatMap (cu k)).length=k*A.length
 | []=>by rw[List.length_nil,Nat.mul_zero];rfl
 | w::A=>by rw[List.flatMap_cons,jG,wZ,Js A,List.length_cons,Nat.mul_succ];omega
theorem aH4 {n:Int}:(n:Rat) / ((1:Int):Rat)=(n:Rat):=by rw[show ((1:Int):Rat)=1 from rfl];grind
theorem aH5 {A:List (List Int)}{f:List Int->Rat}{i:Nat}(hi:i<A.length):(A.map f).getD i 0=f (A.getD i []):=by
 rw[ig,List.getElem?_map,lu hi,ig,lu hi];rfl
theorem Vk {s n:Nat}(hs:1<=s/\s<=32)(hm:n<=256)(hb:(ah s n).length<=4000):aj P F.Am [.d (dI s),.d (dI n)] (.jS [.d (uN (ah s n)),.d (dI 0)]):=by
 refine aj.intro fn.Am (by rfl) (by rfl) (aB (by rfl)) λE hE=>(AW.sg hE rfl (oK rfl (aF rfl (OL.nil (AW.seq (AW.sg hE rfl (ai rfl ?_)))))))
 refine aY rfl rfl (c:=false) (decide_eq_false (by omega)) (ai rfl (OL.yes rfl (ai rfl (OL.yes rfl (iO rfl rfl (c:=false) (decide_eq_false (by omega)) (kL rfl rfl (ai rfl ?_)))))))
 refine OL.yes rfl (ai rfl (OL.yes rfl (aY rfl rfl (c:=false) (decide_eq_false (by omega)) (kL rfl rfl (ai rfl (OL.yes rfl (ai rfl ?_)))))))
 refine OL.yes rfl (iO rfl rfl (c:=false) (decide_eq_false (by omega)) (kL rfl rfl (OL.nil (qW rfl ?_))))
 refine AW.skip (AW.sg hE rfl (lt0 sl.ints (aO8 (y:=ints []) sl.fQ VC.mt.vd rfl (by decide) rfl λb27=>(tJ rfl (OL.nil (AW.sg hE rfl (lt0 sl.ints ?_)))))))
 refine zX (y:=ints []) sl.fQ VC.mt.vd rfl (by decide) (aF rfl (OL.nil (AW.seq (AW.sg hE rfl (aF rfl (OL.nil (AW.block ?_)))))))
 refine AW.rename 27 67 rfl ?_;refine AW.aV (α:=Nat × Nat × Nat) [(0,_),(1,_)] [] (λ(q,b,c)=>[(6,.bF 67 b (ah s q).length c),(7,.d (uN (qM s q))),(8,.d (dI ((q+1:Nat):Int)))]) (λ(q,b,c)=>[(67,.row b c T.ints 1 ((ah s q).map ints))]) (λ(q,b,c)=>q<=n) (λ(q,b,c)=>n-q) (0,b27,1) (.cons (bK rfl) (.cons (bK rfl) .nil)) .nil ⟨Nat.zero_le _,.cons bG.bF .iq,.cons rfl .nil⟩ ?_
 rintro⟨q,b,c⟩ h1
 have h1:q<=n:=h1;have hql:=(zU (k:=s) h1).2.1;refine AW.seq (AW.sg hE rfl (ai rfl (ai rfl (xN rfl rfl rfl (OL.nil (AW.cond rfl (λhq=>?_) (λhq=>?_)))))))
 .have hq:q<n:=by have:=lq hq;omega
  have hq1:=(zU (k:=s) (show q+1<=n by omega)).2.1
  rw[ah,jG] at hq1;have hlv:(qM s (q+1)).length=s*(qM s q).length:=Js _;have hsl:(qM s q).length<=s*(qM s q).length:=Nat.le_mul_of_pos_left _ (by omega)
  refine AW.skip (AW.seq (AW.block (AW.sg hE rfl (oK rfl (OL.nil (AW.seq (AW.seq ?_)))))));refine AW.own 9 57 T.ints 1 rfl rfl (AW.rg hE rfl (aF rfl (OL.nil (AW.block ?_))));refine AW.aV (α:=Nat × Nat × Nat) [(0,_),(1,_),(6,_),(7,_),(8,_)] [(67,_)] (λ(i,b2,c2)=>[(10,.d (dI i)),(9,.bF 57 b2 (s*i) c2)]) (λ(i,b2,c2)=>[(57,.row b2 c2 T.ints 1 ((((qM s q).take i).flatMap (cu s)).map ints))]) (λ(i,b2,c2)=>i<=(qM s q).length) (λ(i,b2,c2)=>(qM s q).length-i) (0,0,0) (.cons (bK rfl) (.cons (bK rfl) (.cons (yj rfl) (.cons (bK rfl) (.cons (bK rfl) .nil))))) (.cons (lg rfl) .nil) ⟨Nat.zero_le _,.cons vR (.cons (by rw[Nat.mul_zero];exact bG.refl _) .nil),.cons rfl .nil⟩ ?_
  rintro⟨i,b2,c2⟩ h2
  have h2:i<=(qM s q).length:=h2;have hsi:s*i<=s*(qM s q).length:=Nat.mul_le_mul_left _ h2;have hnl:(((qM s q).take i).flatMap (cu s)).length=s*i:=by rw[Js,List.length_take,Nat.min_eq_left h2]
  refine AW.seq (AW.sg hE rfl (ai rfl (ai rfl (fJ (f:=ints) sl.fQ rfl rfl (aY rfl rfl rfl (OL.nil (AW.cond rfl (λh38=>?_) (λh38=>?_))))))))
  .try simp only[dX] at h38
   refine AW.skip (AW.seq (AW.block (AW.sg hE rfl (aF rfl (OL.nil (AW.block ?_))))));refine AW.aV (α:=Nat × Nat × Nat) [(0,_),(1,_),(6,_),(7,_),(8,_),(10,_)] [(67,_)] (λ(j,b3,c3)=>[(11,.d (dI ((j+1:Nat):Int))),(9,.bF 57 b3 (s*i+j) c3)]) (λ(j,b3,c3)=>[(57,.row b3 c3 T.ints 1 (((((qM s q).take i).flatMap (cu s))++(cu s ((qM s q).getD i [])).take j).map ints))]) (λ(j,b3,c3)=>j<=s) (λ(j,b3,c3)=>s-j) (0,b2,c2) (.cons (bK rfl) (.cons (bK rfl) (.cons (yj rfl) (.cons (bK rfl) (.cons (bK rfl) (.cons (bK rfl) .nil)))))) (.cons (lg rfl) .nil) ⟨Nat.zero_le _,.iq,.cons (by rw[List.take_zero,List.append_nil (((qM s q).take i).flatMap (cu s))];rfl) .nil⟩ ?_
   rintro⟨j,b3,c3⟩ h3
   have h3:j<=s:=h3;have hi:i<(qM s q).length:=by omega
   have bs2:s*(i+1)<=s*(qM s q).length:=Nat.mul_le_mul_left _ hi;rw[Nat.mul_succ] at bs2;have hkl:((cu s ((qM s q).getD i [])).take j).length=j:=by rw[List.length_take,wZ];omega
   have hll:=(zQ.1 (getD_mem hi [])).2;refine AW.seq (AW.sg hE rfl (ai rfl (ai rfl (xN rfl rfl rfl (OL.nil (AW.cond rfl (λhj=>?_) (λhj=>?_)))))))
   .have hj:j<s:=by have:=lq hj;omega
    refine AW.skip (AW.seq (AW.block (AW.rg hE rfl (jq rfl (lt0 sl.ints (ai rfl (ai rfl ?_)))))));refine fO (f:=ints) sl.fQ [] rfl rfl (by omega) rfl rfl (iH ce.ints rfl (apM sl.ints rfl rfl (VC.d _) VY (by rw[dJ];omega) (by rw[dJ];omega) rfl λb52 c52=>(ai rfl (zX (y:=dI ((j+1:Nat):Int)) sl.ints (VC.d _).vd rfl (by decide) ?_))))
    refine ad7 sl.ints rfl rfl rfl rfl (VC.d _) (λy hy=>by rw[lW hy];rfl) (by simp only[oU,dJ];omega) (by simp only[oU,dJ];omega) (.inl rfl) (ys:=(((qM s q).getD i [])++[((j+1:Nat):Int)]).map dI) (by rw[List.map_append];rfl) ?_
    refine zX (y:=ints (((qM s q).getD i [])++[((j+1:Nat):Int)])) sl.fQ (VC.d _).vd rfl (by decide) ?_
    refine Ce sl.fQ rfl rfl rfl (by rw[dJ,jG,hnl,hkl]) (VC.d _) (λy hy=>by rw[lW hy];rfl) (by simp only[oU];omega) (by simp only[oU];omega) (.inr rfl) (ys:=((((qM s q).take i).flatMap (cu s))++(cu s ((qM s q).getD i [])).take (j+1)).map ints) (by rw[Qo hj,<- List.append_assoc,List.map_append (l₂:=[_])];rfl) (n2:=s*i+(j+1)) rfl λOj c57=>?_
    refine tJ rfl (OL.nil (AW.rg hE rfl (ai rfl (bo rfl rfl (jB (c:=((j+1+1:Nat):Int)) (by omega) (wrap_i64 (by omega))) (aF rfl (OL.nil ?_))))))
    exact AW.again (x:=(j,b3,c3)) (j+1,Oj,c57) (by (simp only[];omega)) ⟨by omega,Knows.app .RZ .iq,dw.app (.cons rfl .nil) (.cons rfl .nil)⟩
   .have hj:¬ j<s:=by have:=nS hj;omega
    obtain rfl:s=j:=by omega
    have hall:(cu s ((qM s q).getD i [])).take s=cu s ((qM s q).getD i []):=List.take_of_length_le (by rw[wZ];exact Nat.le_refl _)
    have bh0:=uO (k:=s) hi;rw[<- hall] at bh0;refine AW.exit (AW.rg hE rfl (ai rfl (aI rfl rfl (by omega) (aF rfl (OL.nil ?_)))))
    exact AW.again (x:=(i,b2,c2)) (i+1,b3,c3) (by (simp only[];omega)) ⟨by omega,Knows.app .DR (.cons vR (.cons (by rw[Nat.mul_succ];exact bG.bF) .nil)),dw.app (.cons rfl .nil) (.cons (by rw[bh0];rfl) .nil)⟩
  .try simp only[dX] at h38
   refine AW.exit (AW.seq (AW.seq ?_));obtain rfl:i=(qM s q).length:=by omega
   refine AW.rg hE rfl (jq rfl (G5 sl.fQ rfl rfl (jq rfl (G5 sl.fQ rfl rfl (bo rfl rfl (jB (c:=(((ah s q).length+s*(qM s q).length:Nat):Int)) (by omega) (wrap_i64 (by omega))) (iO rfl rfl rfl (OL.nil ?_)))))))
   refine AW.cond rfl (λhno=>absurd hno (by simp;omega)) (λ_=>?_)
   refine AW.skip (AW.seq ?_);have hlf:(((qM s q).take (qM s q).length).flatMap (cu s))=qM s (q+1):=by rw[List.take_length];rfl
   refine AW.freeze 57 rfl (AW.to [(9,.d (uN (qM s (q+1)))),(0,_),(1,_),(6,_),(8,_)] [(67,_)] (.cons (dL (by rw[dJ,hlf];omega) (by rw[hlf])) .Jz) (.cons rfl .nil) ?_)
   refine AW.rg hE rfl (ai rfl (aF rfl (OL.nil (AW.rg hE rfl (jq rfl (ai rfl ?_))))));refine Ce sl.fQ rfl rfl rfl (by rw[dJ]) (VC.d _) ZV (by rw[dJ];omega) (by rw[dJ];omega) (.inr rfl) (ys:=(ah s (q+1)).map ints) (by rw[ah,List.map_append]) (n2:=(ah s (q+1)).length) (by rw[ah,dJ,jG]) λb67 c67=>?_
   exact tJ rfl (OL.nil (AW.rg hE rfl (ai rfl (bo rfl rfl (jB (c:=((q+1+1:Nat):Int)) (by omega) (wrap_i64 (by omega))) (aF rfl (OL.nil (AW.again (x:=(q,b,c)) (q+1,b67,c67) (by (simp only[];omega)) ⟨by omega,Knows.app .iq .Ah,.cons rfl .nil⟩)))))))
 .have hq:¬ q<n:=by have:=nS hq;omega
  obtain rfl:n=q:=by omega
  refine AW.exit (AW.seq (AW.freeze 67 rfl (AW.to [(6,.d (uN (ah s n)))] [] (.cons (dL (by rw[dJ]) rfl) .nil) .nil ?_)))
  exact AW.rg hE rfl (ai rfl (aF rfl (aF rfl (OL.nil (AW.ret (aP.r ⟨_,.tmp rfl (.tmp rfl .nil),_,.cons (.le vR) (.cons (.le vR) .nil),rfl⟩))))))
theorem EN {L:List Int}{a b:Nat}(nL:L.length<=9223372036854775807):eX P F.yC [.d (dI 1),.ptr 1000 b 0] (mem1 1000 (qB b L a)) (vW (zV L a)) (mem1 1000 (qB b L (wz L a))):=by
 have t1:=kV (L:=L) (a:=a) (m:=9) (by decide)
 have t2:=kV (L:=L) (a:=jF L a) (m:=3) (by decide)
 refine eX.intro fn.yC (by rfl) (by rfl) (aB (by rfl)) λE hE=>(AW.sg hE rfl (al z.aA rfl λb4=>(OL.nil (AW.seq (AW.sg hE rfl (ai rfl (OL.nil ?_)))))))
 refine AW.block (AW.sg hE rfl (dR rfl rfl (c:=false) (decide_eq_false (by decide)) (aF rfl (OL.nil (qW rfl ?_)))))
 refine AW.sg hE rfl (dR rfl rfl (c:=false) (decide_eq_false (by decide)) (aF rfl (OL.nil (qW rfl ?_))))
 refine AW.skip (AW.sg hE rfl (Aa rfl (OL.tH (v:=.d (dI (wF L a 9))) (.mk (args':=[.ptr 1000 b 0,.d (dI 9)]) rfl (.cons vR (.cons vR (.nil))) (dh (id:=1000) (blk:=qB b L a) rfl) iT (xe (by decide) nL)) (bo rfl rfl (lQ (c:=wF L a 9-4) rfl (wrap_i64 (by omega))) (Aa rfl (OL.tH (v:=.d (dI (wF L (jF L a) 3))) (.mk (args':=[.ptr 1000 b 0,.d (dI 3)]) rfl (.cons vR (.cons vR (.nil))) (dh (id:=1000) (blk:=qB b L (jF L a)) rfl) iT (xe (by decide) nL)) (bo rfl rfl (jB (c:=1+wF L (jF L a) 3) rfl (wrap_i64 (by omega))) ?_)))))))
 refine bJ rfl .iq (TM (by omega) (by omega) (by omega)) (zW rfl (ex rfl rfl (ex rfl rfl (al z.Rat rfl λb7=>(eH sz.Rat rfl rfl rfl rfl rfl (aB rfl) (cells2:=[_,_,_]) rfl (aF rfl (OL.nil ?_)))))))
 exact AW.sg hE rfl (aO ag.Rat rfl rfl (vs:=[_,_,_]) rfl (aB rfl) (bd z.aA pl.aA (cs:=[_,_,_,_,_,_,_,_]) rfl (eH sz.aA rfl rfl rfl rfl rfl (aB rfl) (cells2:=[_,_,_,_,_,_,_,_]) rfl (OL.nil (AW.ret ⟨⟨_,.dV rfl rfl ag.aA (aB rfl) .nil,.le (Jb)⟩,dh rfl⟩)))))
theorem Bh {n:Int}(hn:-4611686018427387904<=n/\n<=4611686018427387904):aj P F.Ak [.d (dI n)] (vQ (n:Rat)):=by
 refine aj.intro fn.Ak (by rfl) (by rfl) (aB (by rfl)) λE hE=>(AW.sg hE rfl (al z.Rat rfl λb2=>(OL.nil (AW.sg hE rfl (ai rfl (bJ rfl .iq (TM (by omega) (by decide) (by decide)) ?_))))))
 rw[aH4];refine zW rfl (ex rfl rfl (ex rfl rfl (al z.Rat rfl λb3=>(eH sz.Rat rfl rfl rfl rfl rfl (aB rfl) (cells2:=[_,_,_]) rfl (aF rfl (OL.nil (AW.sg hE rfl ?_)))))));exact aO ag.Rat rfl rfl (vs:=[_,_,_]) rfl (aB rfl) (eH sz.Rat rfl rfl rfl rfl rfl (aB rfl) (cells2:=[_,_,_]) rfl (OL.nil (AW.ret (aP.r ⟨_,.dV rfl rfl ag.Rat (aB rfl) .nil,.ag (.cons (.le vR) (.cons (.le vR) (.cons (.le vR) .nil)))⟩))))
theorem aH6 {a:Au}{n:Nat}(hs:1<=a.sym/\a.sym<=32)(hm:n<=256)(hb:(ah a.sym n).length<=4000)(hw:∀ w,w ∈ ah a.sym n->aj P F.rW [zL a,.d (ints w)] (.jS [vW (iD a w),.d (dI 0)])):jd P F.yB [zL a,.d (dI n)] (ah a.sym n).length T.Rat 3 (((ah a.sym n).map (λw=>iD a w)).map dQ):=by
 refine jd.intro fn.yB (by rfl) (by rfl) (aB (by rfl)) 4 rfl λE hE=>(AW.sg hE rfl (iI rfl rfl λb2=>(oK rfl (OL.nil (AW.sg hE rfl (aW fd.qp rfl rfl (aG ce.int rfl rfl rfl ?_)))))))
 refine ai rfl (bJ rfl vL (Vk hs hm hb) (zW rfl (ex rfl rfl (ex rfl rfl (aF rfl (aF rfl (OL.nil ?_)))))));refine AW.sg hE rfl (oK rfl (OL.nil (AW.seq (AW.seq (AW.own 7 37 T.Rat 3 rfl rfl (AW.rg hE rfl (aF rfl ?_)))))));refine OL.nil (AW.block ?_);refine AW.aV (α:=Nat × Nat × Nat) [(2,_),(4,_),(5,_)] [(2,_)] (λ(i,bq,cq)=>[(7,.bF 37 bq i cq),(8,.d (dI i))]) (λ(i,bq,cq)=>[(37,.row bq cq T.Rat 3 ((((ah a.sym n).map (λw=>iD a w)).take i).map dQ))]) (λ(i,bq,cq)=>i<=(ah a.sym n).length) (λ(i,bq,cq)=>(ah a.sym n).length-i) (0,0,0) (.cons (gB rfl) (.cons (Ea rfl) (.cons (bK rfl) .nil))) (.cons (iR rfl) .nil) ⟨Nat.zero_le _,.iq,.cons rfl .nil⟩ ?_
 rintro⟨i,bq,cq⟩ h1
 have h1:i<=(ah a.sym n).length:=h1;refine AW.seq (AW.sg hE rfl (ai rfl (ai rfl (fJ (f:=ints) sl.fQ rfl rfl (aY rfl rfl rfl (OL.nil (AW.cond rfl (λh21=>?_) (λh21=>?_))))))))
 .try simp only[dX] at h21
  refine AW.skip (AW.seq (AW.block (AW.seq ?_)));have hi:i<(ah a.sym n).length:=by omega
  have hm9:=getD_mem hi [];refine AW.dg 1 [0,1,2,3,4,5,6,7,8,9,10,11] ay hE rfl (by kernel_rfl) (OI.aK (os:=[_,_,_,_,_,_,_,_,_,_,_,_]) rfl ?_)
  refine aO ag.Auto rfl rfl (vs:=[_,_,_,_,_,_,_]) rfl (aB rfl) (ai rfl (ai rfl (fO (f:=ints) sl.fQ [] rfl rfl hi rfl rfl (iH ce.ints rfl (bJ rfl vL (hw _ hm9) (zW rfl (ex rfl rfl ?_)))))));refine ex rfl rfl (al z.aA rfl λb9=>(eH sz.aA rfl rfl rfl rfl rfl (aB rfl) (cells2:=[_,_,_,_,_,_,_,_]) rfl (aF rfl (OL.nil (AW.rg hE rfl (jq rfl (aW fd.gK rfl rfl ?_)))))));refine aO ag.Rat rfl rfl (vs:=[_,_,_]) rfl (aB rfl) (zX (y:=dQ (iD a ((ah a.sym n).getD i []))) sl.bQ xP rfl (by decide) ?_)
  refine Ce sl.bQ rfl rfl rfl (by rw[dJ,List.length_take,dJ];omega) (VC.d _) (λy hy=>by rw[lW hy];rfl) (by simp only[oU];omega) (by simp only[oU];omega) (.inr rfl) (ys:=(((ah a.sym n).map (λw=>iD a w)).take (i+1)).map dQ) (by rw[rH 0 (by rw[dJ];exact hi),List.map_append,aH5 hi];rfl) (n2:=i+1) rfl λb37 c37=>?_
  exact tJ rfl (OL.nil (AW.rg hE rfl (ai rfl (aI rfl rfl (by omega) (aF rfl (OL.nil (AW.again (x:=(i,bq,cq)) (i+1,b37,c37) (by (simp only[];omega)) ⟨by omega,Knows.app .Ah .iq,dw.app (.cons rfl .nil) (.cons rfl .nil)⟩)))))))
 .try simp only[dX] at h21
  refine AW.exit (AW.seq ?_);obtain rfl:i=(ah a.sym n).length:=by omega
  have hfull:((ah a.sym n).map (λw=>iD a w)).take (ah a.sym n).length=((ah a.sym n).map (λw=>iD a w)):=List.take_of_length_le (by rw[dJ];exact Nat.le_refl _)
  refine AW.rg hE rfl (jq rfl (tJ rfl (OL.nil ?_)));exact AW.ret ⟨.inr rfl,37,bq,cq,(((ah a.sym n).map (λw=>iD a w)).take (ah a.sym n).length).map dQ,rfl,rfl,by rw[dJ,List.length_take,dJ];omega,by rw[hfull];exact List.take_of_length_le (by rw[dJ,dJ];exact Nat.le_refl _)⟩
