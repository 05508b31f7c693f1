/-
  Walks of package hmm on a valid model with silent states: the order of these with its list, Valid (printed by mk2.py).
-/
import Derived.Test.YteiohkpjgcioaaaGreatDoorKVaB
import Derived.Test.YteiohkpjgcioaaaGreatDoorKMod123
set_option maxRecDepth 6000
set_option maxHeartbeats 1600000
set_option linter.unusedVariables false
set_option linter.unusedSimpArgs false
namespace Go.Proofs.YteiohkpjgcioaaaGreatDoor
open Go Go.AL
def aU9 (h:HM)(n:Nat):Prop:=∀ (s o:List Int) (i b1 b4 b5 b6 b10 t6 b c N:Nat),oZ h s<=n->WQ h s->EI h s o->(h.silent.getD i false=true->Abv h s i)->i<h.st->o.length+oZ h s<=N->N<=12 ->
 jv P F.lJ [.d (dI i),.ptr 1 b1 0,.ptr 5 b5 0,.ptr 6 b6 0,.ptr 4 b4 0] (O1 h b1 b4 b5 b6 b10 t6 s b c o) (λx:ba6=>.d (dB x.2.1)) (λx=>O1 h b1 b4 b5 b6 b10 t6 x.1 x.2.2.1 x.2.2.2.1 x.2.2.2.2)
  (λx=>Tz h s i x.1 x.2.1/\(x.2.1=true->x.2.2.2.2.length+oZ h x.1<=N)/\(x.2.1=true->EI h x.1 x.2.2.2.2))
def O6 (l:List Int)(i:Nat):List Int:=(List.range l.length).map λp=>if p<i \/ l.length<=p+i then l.getD (l.length-1-p) 0 else l.getD p 0
theorem wJ {l:List Int}{i:Nat}:(O6 l i).length=l.length:=by simp[O6]
theorem CX {l:List Int}{i p:Nat}(hp:p<l.length):(O6 l i).getD p 0=if p<i \/ l.length<=p+i then l.getD (l.length-1-p) 0 else l.getD p 0:=dM _ _ hp
theorem ag0 {l:List Int}:O6 l 0=l:=by
 refine iK wJ 0 λp hp=>?_;rw[wJ] at hp;rw[CX hp,if_neg (by omega)]
theorem ag1 {l:List Int}{i q:Nat}(hq:i+q+1=l.length)(hi:i<q):((O6 l i).set i ((O6 l i).getD q 0)).set q ((O6 l i).getD i 0)=O6 l (i+1):=by
 refine iK (by rw[List.length_set,List.length_set,wJ,wJ]) 0 λp hp=>?_
 rw[List.length_set,List.length_set,wJ] at hp;rw[o5 (by rw[List.length_set,wJ];omega),CX hp,CX (by omega)]
 by_cases e:p=q
 .subst e;rw[if_pos rfl,if_neg (by omega),if_pos (by omega)]
  congr 1;omega
 .rw[if_neg e,o5 (by rw[wJ];omega),CX (by omega)]
  by_cases e2:p=i
  .subst e2;rw[if_pos rfl,if_neg (by omega),if_pos (by omega)]
   congr 1;omega
  .rw[if_neg e2,CX hp];by_cases c:p<i \/ l.length<=p+i
   .rw[if_pos c,if_pos (by omega)]
   .rw[if_neg c,if_neg (by omega)]
theorem av8 {l:List Int}{i:Nat}(h:l.length<=i+i+1):O6 l i=l.reverse:=by
 refine iK (by rw[wJ,List.length_reverse]) 0 λp hp=>?_
 rw[wJ] at hp;rw[CX hp];have e:l.reverse.getD p 0=l.getD (l.length-1-p) 0:=by
  rw[iZ,List.getElem?_reverse hp,iZ]
 rw[e]
 split
 .rfl
 .have:l.length-1-p=p:=by omega
  rw[this]
theorem TL {h:HM}(f:h.oh){n:Nat}(ih:∀ k,k<n->aU9 h k):aU9 h n:=by
 have e1:=f.ini;have e2:=f.trans;have e3:=f.stop;have e4:=f.emit;have e5:=f.ties;have e6:=f.yJ;have s0:=f.qR;have s1:=f.sZ;have n0:=f.st0;have n1:=f.st1;intro s o i b1 b4 b5 b6 b10 t6 b c N hn hd lo ha hi hN hN2;have hl:=hd.len;refine jv.intro fn.lJ (by rfl) (by rfl) (au (by rfl)) λE hE=>(AW.sg hE rfl (ay rfl (OL.nil (AW.seq (AW.seq ?_)))))
 have hel:(s.map dI)[i]? = some (dI (s.getD i 0)):=by rw[List.getElem?_map,iZ,sU (show i<s.length by omega)];rfl
 refine AW.rg hE rfl (aF fd.bZ rfl rfl (ak ce.bools rfl rfl rfl (ah rfl (bg sl.bools false rfl rfl (by omega) rfl rfl (bP ce.bool rfl (nt rfl (ah rfl ?_)))))))
 refine OL.split 15 rfl (λa1=>?_) (λa1=>?_)
 .have a1:h.silent.getD i false=false:=by simpa using a1
  refine OL.nd rfl (OL.nd rfl (OL.nd rfl (OL.nd rfl (OL.nd rfl (iV rfl rfl (OL.nil (Hl rfl ?_)))))));refine AW.sg hE rfl (aF fd.bZ rfl rfl (ak ce.bools rfl rfl rfl (ah rfl (bg sl.bools false rfl rfl (by omega) rfl rfl (bP ce.bool rfl (nt rfl (ah rfl ?_)))))))
  refine OL.split 28 rfl (λa2=>?_) (λa2=>?_)
  .have a2:h.silent.getD i false=false:=by simpa using a2
   refine OL.nd rfl (OL.nd rfl (OL.nd rfl (OL.nd rfl (OL.nd rfl (iV rfl rfl (ay rfl (OL.nil ?_)))))));exact AW.ret ⟨(s,true,b,c,o),⟨Tz.same hd (λ_ e=>by rw[a1] at e;cases e) (λe=>by cases e),λ_=>hN,λ_=>lo⟩,⟨_,.tmp rfl .nil,.le vR⟩,λid blk hk=>uF (l:=JJ h b1 b4 b5 b6 b10 t6 _ _ _ _) (.cons rfl (.cons rfl (.cons rfl (.cons rfl (.cons rfl (.cons rfl trivial)))))) id blk hk⟩
  .have a2:h.silent.getD i false=true:=by simpa using a2
   refine OL.yes rfl (ak ce.ints rfl rfl rfl (OL.yes rfl (ah rfl (OL.yes rfl (dV sl.ints rfl rfl (by omega) (OL.yes rfl (GY ce.int (by decide) rfl rfl hel rfl ?_)))))))
   exact OL.yes rfl (dm rfl rfl rfl (eG rfl rfl (ay rfl (OL.nil (absurd (a1.symm.trans a2) (by decide))))))
 .have a1:h.silent.getD i false=true:=by simpa using a1
  refine OL.yes rfl (ak ce.ints rfl rfl rfl (OL.yes rfl (ah rfl (OL.yes rfl (dV sl.ints rfl rfl (by omega) (OL.yes rfl (GY ce.int (by decide) rfl rfl hel rfl ?_)))))))
  refine OL.yes rfl (bU rfl rfl rfl (eG rfl rfl (OL.nil (AW.cond rfl (λc21=>?_) (λc21=>?_)))))
  .have c21:s.getD i 0≠0:=by simpa using c21
   refine AW.sg hE rfl (aF fd.bZ rfl rfl (ak ce.bools rfl rfl rfl (ah rfl (bg sl.bools false rfl rfl (by omega) rfl rfl (bP ce.bool rfl (nt rfl (ah rfl ?_)))))))
   refine OL.split 28 rfl (λa2=>?_) (λa2=>?_)
   .have a2:h.silent.getD i false=false:=by simpa using a2
    refine OL.nd rfl (OL.nd rfl (OL.nd rfl (OL.nd rfl (OL.nd rfl (iV rfl rfl (ay rfl (OL.nil ?_)))))));exact absurd (a1.symm.trans a2) (by decide)
   .have a2:h.silent.getD i false=true:=by simpa using a2
    refine OL.yes rfl (ak ce.ints rfl rfl rfl (OL.yes rfl (ah rfl (OL.yes rfl (dV sl.ints rfl rfl (by omega) (OL.yes rfl (GY ce.int (by decide) rfl rfl hel rfl ?_)))))))
    refine OL.yes rfl (dm rfl rfl rfl (eG rfl rfl (ay rfl (OL.nil ?_))));exact AW.ret ⟨(s,decide (s.getD i 0=2),b,c,o),⟨Tz.same hd (λe _=>jC e) (λe=>(ha a1).bad hi (by have h1:=hd.rng i;have h2:=kK e;omega)),λ_=>hN,λ_=>lo⟩,⟨_,.tmp rfl .nil,.le vR⟩,λid blk hk=>uF (l:=JJ h b1 b4 b5 b6 b10 t6 _ _ _ _) (.cons rfl (.cons rfl (.cons rfl (.cons rfl (.cons rfl (.cons rfl trivial)))))) id blk hk⟩
  .have c21:s.getD i 0=0:=by simpa using c21
   have hz:=V3 (h:=h) hl hi c21;refine AW.skip (AW.sg hE rfl (ak ce.ints rfl rfl rfl (ah rfl (dV sl.ints rfl rfl (by omega) (AA sz.int rfl (VC.d _).vd rfl rfl (by rw[dF];omega) (es2:=(s.set i 1).map dI) (by rw[List.map_set]) (OL.nil (AW.seq ?_)))))))
   refine AW.seq ?_;have t1:=f.x9 i hi;refine AW.rg hE rfl (aF fd.fD rfl rfl (ak ce.aW rfl rfl rfl (ah rfl (bg sl.aW [] rfl rfl (by omega) rfl rfl (bP ce.aQ rfl (eH sl.aQ rfl rfl (ah rfl ?_)))))))
   refine OL.nil (AW.block ?_);refine AW.aK (α:=Nat × List Int × Nat × Nat × List Int) [(0,_),(2,_),(3,_),(4,_),(42,_),(43,_)] [(1,_),(5,_),(6,_)] (λ(j,s2,p,q,o2)=>[(44,.d (dI j))]) (λ(j,s2,p,q,o2)=>[(4,.box b4 T.ints [.bJ 1004 p o2.length q]),(10,.row b10 h.st T.int 1 (s2.map dI)),(1004,.row p q T.int 1 (o2.map dI))]) (λ(j,s2,p,q,o2)=>j<=h.st/\Mid h s i s2 j/\o2.length+oZ h s2+1<=N/\EI h s2 o2) (λ(j,s2,p,q,o2)=>h.st-j) (0,s.set i 1,b,c,o) (.cons (bM rfl) (.cons (fG rfl) (.cons (fG rfl) (.cons (fG rfl) (.cons (bM rfl) (.cons (bM rfl) .nil)))))) (.cons (iJ rfl) (.cons (iJ rfl) (.cons (iJ rfl) .nil))) ⟨⟨Nat.zero_le _,Mid.start hd hi c21,by omega,lo.start hl hi c21 a1⟩,.bC,.cons rfl (.cons rfl (.cons rfl .nil))⟩ ?_
   rintro⟨j,s2,p,q,o2⟩ ⟨h1,hm,hN3,lo2⟩
   have h1:j<=h.st:=h1;have hm:Mid h s i s2 j:=hm;have hN3:o2.length+oZ h s2+1<=N:=hN3;have hl2:=hm.dfs.len;refine AW.sg hE rfl (aN rfl rfl rfl (OL.nil (AW.seq (AW.cond rfl (λh45=>?_) (λh45=>?_)))))
   .try simp only[bY] at h45
    refine AW.skip (AW.seq (AW.block (AW.sg hE rfl (ah rfl (bg sl.aQ 0 rfl rfl (by omega) rfl rfl (iU ag.Rat rfl (vs:=[_,_,_]) rfl (au rfl) (al z.Rat rfl λb8=>?_)))))))
    refine ay rfl (dA sz.Rat rfl rfl rfl rfl rfl (au rfl) (cells2:=[_,_,_]) rfl (OL.nil (AW.seq ?_)));have zT:=(f.zT i).get (by decide) j
    by_cases hp:0<(h.trans.getD i []).getD j 0
    .refine AW.oz (by rw[hE];rfl) (SK.dG (aG ag.Rat rfl rfl (vs:=[_,_,_]) rfl (au rfl) (OL.nil ?_)))
     refine SK.dG (aY rfl .bC (lZ (x:=(h.trans.getD i []).getD j 0) (by omega)) (OL.nil ?_))
     refine SK.dG (iI rfl rfl (c:=true) (decide_eq_true (KU.2 hp)) (OL.nil ?_));refine SK.dG (ah rfl (OL.nil ?_));refine SK.dG (OL.yes rfl (ak (ce.yu) rfl rfl rfl (OL.nil ?_)));refine SK.dG (OL.yes rfl (ah rfl (OL.nil ?_)));refine SK.aK6 rfl (SO.Ey (args':=[.d (dI j),.ptr 1 b1 0,.ptr 5 b5 0,.ptr 6 b6 0,.ptr 4 b4 0]) (show 55<E.n by rw[hE];exact Nat.le_of_ble_eq_true (by rfl)) rfl vL (Mc:=O1 h b1 b4 b5 b6 b10 t6 s2 p q o2) (λid blk hk=>uF (l:=JJ h b1 b4 b5 b6 b10 t6 s2 p q o2) (.cons rfl (.cons rfl (.cons rfl (.cons rfl (.cons rfl (.cons rfl trivial)))))) id blk hk) (ih (oZ h s2) (Nat.lt_of_lt_of_le (hm.oZ c21 hi) hn) s2 o2 j b1 b4 b5 b6 b10 t6 p q (N-1) (Nat.le_refl _) hm.dfs lo2 (λsj=>hm.abv (ha a1) hi a1 (by omega) sj hp) (by omega) (by omega) (by omega)) (λx _ id hk=>GU id hk) ?_)
     rintro⟨s3,ok,p3,q3,o3⟩ ⟨v,w,w9⟩
     have v:Tz h s2 j s3 ok:=v;have w:ok=true->o3.length+oZ h s3<=N-1:=w;have w9:ok=true->EI h s3 o3:=w9;refine SK.dG (OL.yes rfl (nt rfl (OL.nil ?_)));refine SK.dG (iV rfl rfl (OL.nil ?_));refine SK.nil (AW.cond rfl (λUf=>?_) (λUf=>?_))
     .have Uf:ok=false:=by simpa using Uf
      refine AW.sg hE rfl (ay rfl (OL.nil ?_));exact AW.ret ⟨(s3,false,p3,q3,o3),⟨Tz.fail hm v Uf rfl,(λe=>by cases e),λe=>by cases e⟩,⟨_,.tmp rfl .nil,.le vR⟩,λid blk hk=>uF (l:=JJ h b1 b4 b5 b6 b10 t6 _ _ _ _) (.cons rfl (.cons rfl (.cons rfl (.cons rfl (.cons rfl (.cons rfl trivial)))))) id blk hk⟩
     .have Uf:ok=true:=by simpa using Uf
      have hw:o3.length+oZ h s3+1<=N:=by have:=w Uf;omega
      have hw2:=w9 Uf;refine AW.skip (AW.rg hE rfl (aB rfl rfl (by omega) (ah rfl (OL.nil ?_))))
      exact AW.again (x:=(j,s2,p,q,o2)) (j+1,s3,p3,q3,o3) (by (simp only[];omega)) ⟨⟨by omega,hm.step (Uf ▸ v),hw,hw2⟩,Knows.app .Lj .bC,bn.app (.cons rfl (.cons rfl (.cons rfl .nil))) (.cons rfl (.cons rfl (.cons rfl .nil)))⟩
    .refine AW.oz (by rw[hE];rfl) (SK.dG (aG ag.Rat rfl rfl (vs:=[_,_,_]) rfl (au rfl) (OL.nil ?_)))
     refine SK.dG (aY rfl .bC (lZ (x:=(h.trans.getD i []).getD j 0) (by omega)) (OL.nil ?_))
     refine SK.dG (iI rfl rfl (c:=false) (decide_eq_false λe=>hp (KU.1 e)) (OL.nil ?_));refine SK.dG (ah rfl (OL.nil ?_));refine SK.dG (OL.nd rfl (OL.nil ?_));refine SK.dG (OL.nd rfl (OL.nil ?_));refine SK.dG (OL.nd rfl (OL.nil ?_));refine SK.dG (OL.nd rfl (OL.nil ?_));refine SK.dG (eG rfl rfl (OL.nil ?_));refine SK.nil (jD rfl ?_);refine AW.skip (AW.rg hE rfl (aB rfl rfl (by omega) (ah rfl (OL.nil ?_))))
     exact AW.again (x:=(j,s2,p,q,o2)) (j+1,s2,p,q,o2) (by (simp only[];omega)) ⟨⟨by omega,hm.skip hp,hN3,lo2⟩,Knows.app .Lj .bC,bn.app (.cons rfl (.cons rfl (.cons rfl .nil))) (.cons rfl (.cons rfl (.cons rfl .nil)))⟩
   .try simp only[bY] at h45
    refine AW.exit (AW.seq ?_);obtain rfl:j=h.st:=by omega
    refine AW.rg hE rfl (ak ce.ints rfl rfl rfl (ah rfl (dV sl.ints rfl rfl (by omega) (AA sz.int rfl (VC.d _).vd rfl rfl (by rw[dF];omega) (es2:=(s2.set i 2).map dI) (by rw[List.map_set]) (OL.nil (AW.sg hE rfl (ak ce.ints rfl rfl rfl ?_)))))))
    refine ah rfl (tC sl.ints (VC.d _).vd rfl (by decide) ?_)
    refine yG sl.ints rfl rfl rfl (by rw[dF]) (VC.d _) (xs:=[dI i]) (λy hy=>by rw[qm hy];rfl) (by simp;omega) (by simp;omega) (.inl rfl) (ys:=(o2++[(i:Int)]).map dI) (by rw[List.map_append];rfl) (n2:=(o2++[(i:Int)]).length) (by rw[jT];rfl) λp2 q2=>?_
    refine dA sz.ints rfl rfl rfl rfl rfl (au rfl) rfl (OL.nil (AW.seq (AW.to [] [(1,_),(5,_),(6,_),(4,_),(10,_),(65,_)] .nil (.cons rfl (.cons rfl (.cons rfl (.cons rfl (.cons rfl (.cons rfl trivial)))))) (AW.rename 65 1004 rfl (AW.vC 4 [.bJ 1004 p2 (o2++[(i:Int)]).length q2] rfl (.cons YS .nil) (AW.rg hE rfl (ay rfl ?_)))))));refine OL.nil ?_;exact AW.ret ⟨(s2.set i 2,true,p2,q2,o2++[(i:Int)]),⟨hm.fin hi c21,λ_=>by have:=V4 (h:=h) hl2 hi;show (o2++[(i:Int)]).length+oZ h (s2.set i 2)<=N;rw[jT,nN];omega,λ_=>lo2.fin hm hi a1⟩,⟨_,.tmp rfl .nil,.le vR⟩,λid blk hk=>uF (l:=JJ h b1 b4 b5 b6 b10 t6 _ _ _ _) (.cons rfl (.cons rfl (.cons rfl (.cons rfl (.cons rfl (.cons rfl trivial)))))) id blk hk⟩
theorem bm1 {h:HM}(f:h.oh)(n:Nat):aU9 h n:=Nat.strongRecOn n λ_ ih=>TL f ih
theorem av9 {l:List Int}{b c:Nat}(nl:l.length<=1024):fV P F.iw [.bJ 1004 b l.length c] (mem1 1004 (.row b c T.int 1 (l.map dI))) (.jM []) (mem1 1004 (.row b c T.int 1 (l.reverse.map dI))):=by
 refine fV.intro fn.iw (by rfl) (by rfl) (au (by rfl)) λE hE=>(AW.sg hE rfl (fQ rfl (WI sl.ints rfl rfl (fC rfl rfl (by omega) (ay rfl (ay rfl (OL.nil ?_)))))))
 refine AW.block ?_;refine AW.aK (α:=Nat × Int × List Int) [(0,_)] [] (λ(i,j,l2)=>[(2,.d (dI i)),(3,.d (dI j))]) (λ(i,j,l2)=>[(1004,.row b c T.int 1 (l2.map dI))]) (λ(i,j,l2)=>l2.length=l.length/\(i:Int)<=l.length /\ -1<=j/\j<l.length/\l2=O6 l i/\(i:Int)+j+1=l.length) (λ(i,j,l2)=>(j+1-i).toNat) (0,(l.length:Int)-1,l) (.cons (uH rfl) .nil) .nil ⟨⟨rfl,by omega,by omega,by omega,ag0.symm,by omega⟩,.dR,.cons rfl .nil⟩ ?_
 rintro⟨i,j,l2⟩ ⟨hl,h1,h2,h3,h4,h5⟩
 have hl:l2.length=l.length:=hl;have h1:(i:Int)<=l.length:=h1;have h2:-1<=j:=h2;have h3:j<l.length:=h3;have h4:l2=O6 l i:=h4;have h5:(i:Int)+j+1=l.length:=h5;refine AW.seq (AW.sg hE rfl (ah rfl (ah rfl (aN rfl rfl rfl (OL.nil (AW.cond rfl (λh9=>?_) (λh9=>?_)))))))
 .try simp only[bY] at h9
  refine AW.skip (AW.seq (AW.block ?_));obtain⟨q,rfl⟩:∃ q:Nat,j=q:=⟨j.toNat,by omega⟩
  have el1:(l2.map dI)[i]? = some (dI (l2.getD i 0)):=by rw[List.getElem?_map,iZ,sU (show i<l2.length by omega)];rfl
  have el2:(l2.map dI)[q]? = some (dI (l2.getD q 0)):=by rw[List.getElem?_map,iZ,sU (show q<l2.length by omega)];rfl
  refine AW.dg 1 [0,1,2,3,4,5,6,7,8,9,10,11,12,13,14,15] aj hE rfl (by kernel_rfl) (OI.aP (os:=[_,_,_,_,_,_,_,_,_,_,_,_,_,_,_,_]) rfl ?_)
  refine fQ rfl (ah rfl (fQ rfl (ah rfl (fQ rfl (ah rfl (dV sl.ints rfl rfl (by omega) (GY ce.int (by decide) rfl rfl el2 rfl ?_)))))))
  refine fQ rfl (ah rfl (dV sl.ints rfl rfl (by omega) (GY ce.int (by decide) rfl rfl el1 rfl (dV sl.ints rfl rfl (by omega) (AA sz.int rfl (VC.d _).vd rfl rfl (by rw[dF];omega) (es2:=(l2.set i (l2.getD q 0)).map dI) (by rw[List.map_set]) (dV sl.ints rfl rfl (by omega) (AA sz.int rfl (VC.d _).vd rfl rfl (by rw[dF,List.length_set];omega) (es2:=((l2.set i (l2.getD q 0)).set q (l2.getD i 0)).map dI) (by simp only[List.map_set]) ?_)))))))
  refine OL.nil (AW.rg hE rfl (ah rfl (aB rfl rfl (by omega) (ah rfl (fC rfl rfl (by omega) (ay rfl (ay rfl ?_)))))))
  refine OL.nil ?_;exact AW.again (x:=(i,(q:Int),l2)) (i+1,(q:Int)-1,(l2.set i (l2.getD q 0)).set q (l2.getD i 0)) (by (simp only[];omega)) ⟨⟨by rw[List.length_set,List.length_set];exact hl,by omega,by omega,by omega,by rw[h4];exact ag1 (by omega) (by omega),by omega⟩,Knows.app .bC .dR,.cons rfl .nil⟩
 .try simp only[bY] at h9
  refine AW.exit ?_;have hfin:l2=l.reverse:=by rw[h4];exact av8 (by omega)
  rw[<- hfin];exact⟨⟨[],.nil,[],.nil,rfl⟩,bH rfl⟩
theorem O7 {h:HM}(f:h.oh)(rk:h.ql):jv P F.zo [uY h] jm (λO:List Nat=>.jM [.d (.sl (O.map λk:Nat=>dI (k:Int))),.d (dB true)]) (λ_=>jm) (λO=>He h O):=by
 have e1:=f.ini;have e2:=f.trans;have e3:=f.stop;have e4:=f.emit;have e5:=f.ties;have e6:=f.yJ;have s0:=f.qR;have s1:=f.sZ;have n0:=f.st0;have n1:=f.st1;refine jv.intro fn.zo (by rfl) (by rfl) (au (by rfl)) λE hE=>(AW.sg hE rfl (iC rfl rfl λb1=>(oq rfl (ay rfl (OL.nil (AW.sg hE rfl (al z.ints rfl λb4=>?_)))))))
 refine OL.nil (AW.sg hE rfl (aF fd.bQ rfl rfl (ak ce.int rfl rfl rfl (Xd dI 0 sl.ints z.int (.cons (VC.d _) .nil) rfl rfl (Nat.le_refl _) (by omega) (by omega) rfl λb10=>(al z.ints rfl λb5=>(dA sz.ints rfl rfl rfl rfl rfl (au rfl) (cells2:=[_]) rfl (OL.nil ?_)))))))
 refine AW.sg hE rfl (al z.yu rfl λb6=>(OL.nil (AW.sg hE rfl (mkF (vs:=[_,_,_,_]) rfl (dA sz.yu rfl rfl rfl rfl rfl (au rfl) (cells2:=[_]) rfl (OL.nil (AW.seq ?_)))))));refine AW.sg hE rfl (aF fd.bQ rfl rfl (ak ce.int rfl rfl rfl (ah rfl (OL.nil (AW.block (AW.aK7 1004 T.int 1 rfl (AW.vC 4 [.bJ 1004 0 0 0] rfl (.cons YV .nil) ?_)))))));refine AW.aK (α:=Nat × List Int × Nat × Nat × List Int) [(1,_),(4,_),(5,_),(6,_),(13,_)] [(1,_),(5,_),(6,_)] (λ(i,s,p,q,o)=>[(14,.d (dI i))]) (λ(i,s,p,q,o)=>[(4,.box b4 T.ints [.bJ 1004 p o.length q]),(10,.row b10 h.st T.int 1 (s.map dI)),(1004,.row p q T.int 1 (o.map dI))]) (λ(i,s,p,q,o)=>i<=h.st/\WQ h s/\(∀ k,s.getD k 0≠1)/\(∀ j,j<i->h.silent.getD j false=true->s.getD j 0=2)/\o.length+oZ h s<=h.st/\EI h s o) (λ(i,s,p,q,o)=>h.st-i) (0,List.replicate h.st 0,0,0,[]) (.cons (fG rfl) (.cons (fG rfl) (.cons (fG rfl) (.cons (fG rfl) (.cons (bM rfl) .nil))))) (.cons (iJ rfl) (.cons (iJ rfl) (.cons (iJ rfl) .nil))) ⟨⟨Nat.zero_le _,WQ.zero h,λk=>by rw[EY];decide,λj hj=>absurd hj (Nat.not_lt_zero j),by have:=GR (p:=λk=>(List.replicate h.st (0:Int)).getD k 0 == 0) h.st;show 0+oZ h _<=h.st;unfold oZ;omega,EI.zero⟩,.bC,.cons rfl (.cons rfl (.cons rfl .nil))⟩ ?_
 rintro⟨i,s,p,q,o⟩ ⟨h1,hd,h2,h3,h4,lo⟩
 have h1:i<=h.st:=h1;have hd:WQ h s:=hd;have h2:∀ k,s.getD k 0≠1:=h2;have h3:∀ j,j<i->h.silent.getD j false=true->s.getD j 0=2:=h3;have h4:o.length+oZ h s<=h.st:=h4;have lo:EI h s o:=lo;refine AW.sg hE rfl (aN rfl rfl rfl (OL.nil (AW.seq (AW.cond rfl (λh15=>?_) (λh15=>?_)))))
 .try simp only[bY] at h15
  refine AW.skip (AW.seq (AW.block (AW.sg hE rfl (ah rfl (ay rfl (OL.nil (AW.seq ?_)))))));refine AW.oz (by rw[hE];rfl) (SK.dG (ak ce.yu rfl rfl rfl (OL.nil ?_)))
  refine SK.dG (ah rfl (OL.nil ?_));refine SK.G5 (SO.Ey (args':=[.d (dI i),.ptr 1 b1 0,.ptr 5 b5 0,.ptr 6 b6 0,.ptr 4 b4 0]) (show 19<E.n by rw[hE];exact Nat.le_of_ble_eq_true (by rfl)) rfl vL (Mc:=O1 h b1 b4 b5 b6 b10 T.yu s p q o) (λid blk hk=>uF (l:=JJ h b1 b4 b5 b6 b10 T.yu s p q o) (.cons rfl (.cons rfl (.cons rfl (.cons rfl (.cons rfl (.cons rfl trivial)))))) id blk hk) (bm1 f (oZ h s) s o i b1 b4 b5 b6 b10 T.yu p q h.st (Nat.le_refl _) hd lo (λ_ r _ k _ e=>absurd e (h2 k)) (by omega) h4 n1) (λx _ id hk=>GU id hk) ?_)
  rintro⟨s3,ok,p3,q3,o3⟩ ⟨v,w,w9⟩
  have v:Tz h s i s3 ok:=v;obtain rfl:ok=true:=by
   cases ok with
   | true=>rfl
   | false=>exact absurd rk (v.bad rfl)
  have hv:=v.good rfl;have w:o3.length+oZ h s3<=h.st:=w rfl;have w9:EI h s3 o3:=w9 rfl;refine SK.dG (nt rfl (OL.nil ?_));refine SK.nil (AW.cond rfl (λhno=>absurd hno (by show ¬ (false=true);decide)) (λ_=>?_))
  refine AW.skip (AW.rg hE rfl (aB rfl rfl (by omega) (ah rfl (OL.nil ?_))))
  exact AW.again (x:=(i,s,p,q,o)) (i+1,s3,p3,q3,o3) (by (simp only[];omega)) ⟨⟨by omega,hv.1,λk e=>h2 k ((hv.2.1 k).1 e),uf (λj hj sj=>hv.2.2.1 j (h3 j hj sj)) hv.2.2.2,w,w9⟩,Knows.app .y9 .bC,bn.app (.cons rfl (.cons rfl (.cons rfl .nil))) (.cons rfl (.cons rfl (.cons rfl .nil)))⟩
 .try simp only[bY] at h15
  refine AW.exit (AW.seq ?_);obtain rfl:i=h.st:=by omega
  refine AW.oz (by rw[hE];rfl) (SK.dG (ak ce.ints rfl rfl rfl (OL.nil ?_)))
  refine SK.dG (OL.qo (v:=.jM []) (.mk (args':=[.bJ 1004 p o.length q]) rfl vL (bH (id:=1004) (blk:=.row p q T.int 1 (o.map dI)) rfl) gy (av9 (by omega))) (OL.nil ?_))
  refine SK.nil (AW.sg hE rfl (ak ce.ints rfl rfl rfl (uj rfl (ay rfl (OL.nil ?_)))));exact AW.ret ⟨o.reverse.map Int.toNat,lo.ord f (λk hk sk=>h3 k hk sk) (by omega),⟨_,.tmp rfl (.tmp rfl .nil),_,.cons (RO.row rfl (by rw[dF,List.length_reverse]) (by rw[List.map_map];exact List.map_congr_left λx hx=>by show dI x=dI ((x.toNat:Nat):Int);rw[Int.toNat_of_nonneg (lo.nat x (List.mem_reverse.1 hx))])) (.cons (.le vR) .nil),rfl⟩,λ_ _ h=>by cases h⟩
theorem V9 {h:HM}(f:h.oh):ai P F.Dz [uY h] (.d (dB true)):=by
 have e1:=f.ini;have e2:=f.trans;have e3:=f.stop;have e4:=f.emit;have e5:=f.ties;have e6:=f.yJ;have s0:=f.qR;have s1:=f.sZ;have n0:=f.st0;have n1:=f.st1;have pE:=f.pE;have pI:=f.pI;have pS:=f.pS;have zE:=f.zE;have zI:=f.zI;have zS0:=f.zS;refine ai.intro fn.Dz (by rfl) (by rfl) (au (by rfl)) λE hE=>(AW.sg hE rfl (iC rfl rfl λb1=>(ay rfl (OL.nil (AW.sg hE rfl (aF fd.bQ rfl rfl (ak ce.int rfl rfl rfl ?_)))))))
 refine ay rfl (OL.nil (AW.seq (AW.sg hE rfl (aF fd.gZ rfl rfl (aG ag.Rat rfl rfl (vs:=[_,_,_]) rfl (au rfl) (aY rfl .bC (Sv (by assumption) (by omega)) (nt rfl ?_)))))))
 refine ah rfl (OL.yes rfl (aF fd.fO rfl rfl (OL.yes rfl (ak ce.aQ rfl rfl rfl (OL.yes rfl (eH sl.aQ rfl rfl (OL.yes rfl ?_)))))));refine ah rfl (OL.yes rfl (bU rfl rfl (c:=false) (by exact eF (by omega)) (eG rfl rfl (ah rfl (OL.yes rfl (aF fd.jf rfl rfl (OL.yes rfl ?_)))))))
 refine ak ce.aQ rfl rfl rfl (OL.yes rfl (eH sl.aQ rfl rfl (OL.yes rfl (ah rfl (OL.yes rfl (bU rfl rfl (c:=false) (by exact eF (by omega)) (eG rfl rfl ?_)))))))
 refine ah rfl (OL.yes rfl (aF fd.bZ rfl rfl (OL.yes rfl (ak ce.bools rfl rfl rfl (OL.yes rfl (eH sl.bools rfl rfl (OL.yes rfl ?_)))))));refine ah rfl (OL.yes rfl (bU rfl rfl (c:=false) (by exact eF (by omega)) (eG rfl rfl (ah rfl (OL.yes rfl (aF fd.fF rfl rfl (OL.yes rfl ?_)))))))
 refine ak ce.ints rfl rfl rfl (OL.yes rfl (eH sl.ints rfl rfl (OL.yes rfl (ah rfl (OL.yes rfl (bU rfl rfl (c:=false) (by exact eF (by omega)) (eG rfl rfl ?_)))))))
 refine ah rfl (OL.yes rfl (aF fd.fD rfl rfl (OL.yes rfl (ak ce.aW rfl rfl rfl (OL.yes rfl (eH sl.aW rfl rfl (OL.yes rfl ?_)))))));refine ah rfl (OL.yes rfl (bU rfl rfl (c:=false) (by exact eF (by omega)) (eG rfl rfl (ah rfl (OL.yes rfl (aF fd.dS rfl rfl (OL.yes rfl ?_)))))))
 refine ak ce.aW rfl rfl rfl (OL.yes rfl (eH sl.aW rfl rfl (OL.yes rfl (ah rfl (OL.yes rfl (bU rfl rfl (c:=false) (by exact eF (by omega)) (eG rfl rfl ?_)))))))
 refine ah rfl (OL.yes rfl (aF fd.fO rfl rfl (OL.yes rfl (ak ce.aQ rfl rfl rfl (OL.yes rfl (aY rfl .bC (xR (by assumption) (by assumption) (by omega)) (OL.yes rfl ?_)))))))
 refine nt rfl (eG rfl rfl (ah rfl (OL.yes rfl (aF fd.jf rfl rfl (OL.yes rfl (ak ce.aQ rfl rfl rfl (OL.yes rfl ?_)))))));refine aY rfl .bC (xR (by assumption) (by assumption) (by omega)) (OL.yes rfl (nt rfl (eG rfl rfl (OL.nil (jD rfl ?_)))))
 refine AW.skip (AW.seq (AW.sg hE rfl (ah rfl (ah rfl (OL.nil (AW.block ?_))))));refine AW.aK (α:=Nat) [(1,_),(3,_),(66,_)] [(1,_)] (λi=>[(67,.d (dI i))]) (λi=>[]) (λi=>i<=h.st) (λi=>h.st-i) 0 (.cons (fG rfl) (.cons (bM rfl) (.cons (bM rfl) .nil))) (.cons (iJ rfl) .nil) ⟨Nat.zero_le _,.bC,.nil⟩ ?_;intro i h1;refine AW.sg hE rfl (aN rfl rfl rfl (OL.nil (AW.seq (AW.cond rfl (λh68=>?_) (λh68=>?_)))))
 .try simp only[bY] at h68
  refine AW.skip (AW.seq (AW.block (AW.sg hE rfl (ah rfl (ay rfl (OL.nil (AW.sg hE rfl ?_)))))));refine aF fd.jL rfl rfl (ak ce.int rfl rfl rfl (ay rfl (OL.nil ?_)));refine AW.AP (α:=Unit) [(1,_),(3,_),(4,_),(66,_),(67,_)] [(1,_)] (λ_u=>[(5,.d (dI ((h.emit.getD i []).length:Nat)))]) (λ_u=>[]) (λ_u=>True) (.cons (fG rfl) (.cons (bM rfl) (.cons (bM rfl) (.cons (bM rfl) (.cons (bM rfl) .nil))))) (.cons (iJ rfl) .nil) ?_ ?_
  .refine AW.seq ?_;have er:=f.AQ i (by omega)
   refine AW.rg hE rfl (aF fd.bZ rfl rfl (ak ce.bools rfl rfl rfl (ah rfl (bg sl.bools false rfl rfl (by omega) rfl rfl (bP ce.bool rfl (OL.nil (AW.cond rfl (λhs=>?_) (λhs=>?_))))))))
   .have hs:=hs;exact AW.rg hE rfl (ay rfl (OL.nil (AW.reach () ⟨trivial,Knows.app .y9 (.cons (aZ.int (by rw[er,if_pos hs];rfl)) .nil),bn.app (.cons rfl .nil) (.nil)⟩)))
   .have hs:=hs;exact AW.skip (AW.reach () ⟨trivial,Knows.app .y9 (.cons (aZ.int (by rw[er,hs];rfl)) .nil),bn.app (.cons rfl .nil) (.nil)⟩)
  rintro⟨⟩ hφ
  refine AW.seq ?_;have t1:=f.x9 i (by omega)
  have t3:=f.tie i (by omega)
  have t2:=f.wH i (by omega)
  have pT:=f.pT i;have pM:=f.pM i;have zT:=f.zT i;have zM:=f.zM i;refine AW.rg hE rfl (aF fd.fD rfl rfl (ak ce.aW rfl rfl rfl (ah rfl (bg sl.aW [] rfl rfl (by omega) rfl rfl (bP ce.aQ rfl (eH sl.aQ rfl rfl (ah rfl ?_)))))))
  refine bU rfl rfl (c:=false) (by exact eF (by omega)) (ah rfl (OL.yes rfl (aF fd.dS rfl rfl (OL.yes rfl (ak ce.aW rfl rfl rfl (OL.yes rfl (ah rfl ?_)))))))
  refine OL.yes rfl (bg sl.aW [] rfl rfl (by omega) rfl rfl (OL.yes rfl (bP ce.aQ rfl (OL.yes rfl (eH sl.aQ rfl rfl (OL.yes rfl (ah rfl ?_)))))))
  refine OL.yes rfl (bU rfl rfl (c:=false) (eF rfl) (eG rfl rfl (ah rfl (OL.yes rfl (aF fd.fD rfl rfl (OL.yes rfl (ak ce.aW rfl rfl rfl ?_)))))));refine OL.yes rfl (ah rfl (OL.yes rfl (bg sl.aW [] rfl rfl (by omega) rfl rfl (OL.yes rfl (bP ce.aQ rfl (OL.yes rfl (aY rfl .bC (xR (by assumption) (by assumption) (by omega)) ?_)))))))
  refine OL.yes rfl (nt rfl (eG rfl rfl (ah rfl (OL.yes rfl (aF fd.dS rfl rfl (OL.yes rfl (ak ce.aW rfl rfl rfl ?_)))))));refine OL.yes rfl (ah rfl (OL.yes rfl (bg sl.aW [] rfl rfl (by omega) rfl rfl (OL.yes rfl (bP ce.aQ rfl (OL.yes rfl (aY rfl .bC (xR (by assumption) (by assumption) (by omega)) ?_)))))))
  refine OL.yes rfl (nt rfl (eG rfl rfl (ah rfl (OL.yes rfl (aF fd.fF rfl rfl (OL.yes rfl (ak ce.ints rfl rfl rfl ?_)))))));refine OL.yes rfl (ah rfl (OL.yes rfl (bg sl.ints 0 rfl rfl (by omega) rfl rfl (OL.yes rfl (bP ce.int rfl (OL.yes rfl (aN rfl rfl (c:=false) (by exact decide_eq_false (by omega)) ?_)))))))
  refine eG rfl rfl (ah rfl (OL.yes rfl (aF fd.fF rfl rfl (OL.yes rfl (ak ce.ints rfl rfl rfl (OL.yes rfl (ah rfl ?_)))))));refine OL.yes rfl (bg sl.ints 0 rfl rfl (by omega) rfl rfl (OL.yes rfl (bP ce.int rfl (OL.yes rfl (ah rfl (OL.yes rfl (lG rfl rfl (c:=false) (by exact decide_eq_false (by omega)) ?_)))))))
  refine eG rfl rfl (OL.nil (jD rfl ?_));exact AW.skip (AW.rg hE rfl (aB rfl rfl (by omega) (ah rfl (OL.nil (AW.again (x:=i) (i+1) (by omega) ⟨by omega,Knows.app .wL .bC,bn.app (.cons rfl .nil) (.nil)⟩)))))
 .try simp only[bY] at h68
  exact AW.exit (AW.sg hE rfl (ay rfl (OL.nil (AW.ret (aH.r ⟨_,.tmp rfl .nil,.le vR⟩)))))
theorem En {h:HM}(f:h.oh)(sm:h.Me)(rk:h.ql)(td:h.PZ):ai P F.wZ [uY h] (.d (dI 0)):=by
 have e1:=f.ini;have e2:=f.trans;have e3:=f.stop;have e4:=f.emit;have e5:=f.ties;have e6:=f.yJ;have s0:=f.qR;have s1:=f.sZ;have n0:=f.st0;have n1:=f.st1;refine ai.intro fn.wZ (by rfl) (by rfl) (au (by rfl)) λE hE=>(AW.sg hE rfl (iC rfl rfl λb1=>(ay rfl (OL.nil (AW.seq (AW.sg hE rfl (aF fd.jL rfl rfl ?_)))))))
 refine ak ce.int rfl rfl rfl (aN rfl rfl (c:=false) (by exact decide_eq_false (by omega)) (ah rfl (OL.yes rfl (aF fd.jL rfl rfl (OL.yes rfl (ak ce.int rfl rfl rfl (OL.yes rfl ?_)))))))
 refine iI rfl rfl (c:=false) (by exact decide_eq_false (by omega)) (eG rfl rfl (ah rfl (OL.yes rfl (aF fd.bQ rfl rfl (OL.yes rfl (ak ce.int rfl rfl rfl (OL.yes rfl ?_)))))))
 refine aN rfl rfl (c:=false) (by exact decide_eq_false (by omega)) (eG rfl rfl (ah rfl (OL.yes rfl (aF fd.bQ rfl rfl (OL.yes rfl (ak ce.int rfl rfl rfl (OL.yes rfl ?_)))))))
 refine iI rfl rfl (c:=false) (by exact decide_eq_false (by omega)) (eG rfl rfl (OL.nil (jD rfl ?_)))
 refine AW.skip (AW.seq (AW.sg hE rfl (aG ag.aU rfl rfl (vs:=[_,_,_,_,_,_,_,_,_,_,_]) rfl (au rfl) (aY rfl .bC (V9 f) (nt rfl (OL.nil (jD rfl ?_)))))));refine AW.skip (AW.seq (AW.sg hE rfl (aG ag.aU rfl rfl (vs:=[_,_,_,_,_,_,_,_,_,_,_]) rfl (au rfl) (aY rfl .bC (af6 f) ?_))));rw[<- av2 sm];refine nt rfl (OL.nil (jD rfl ?_));refine AW.skip (AW.seq (AW.sg hE rfl (aG ag.aU rfl rfl (vs:=[_,_,_,_,_,_,_,_,_,_,_]) rfl (au rfl) (aY rfl .bC (Yc f) ?_))));rw[<- TA rk];refine BN rfl (ex rfl rfl (ex rfl rfl (asJ rfl (ay rfl (OL.nil (AW.sg hE rfl (ah rfl ?_)))))));refine nt rfl (OL.nil (jD rfl ?_));refine AW.skip (AW.seq (AW.sg hE rfl (aG ag.aU rfl rfl (vs:=[_,_,_,_,_,_,_,_,_,_,_]) rfl (au rfl) (aY rfl .bC (af7 f) ?_))));rw[<- av3 td];refine nt rfl (OL.nil (jD rfl ?_));exact AW.skip (AW.sg hE rfl (ay rfl (OL.nil (AW.ret (aH.r ⟨_,.tmp rfl .nil,.le vR⟩)))))
