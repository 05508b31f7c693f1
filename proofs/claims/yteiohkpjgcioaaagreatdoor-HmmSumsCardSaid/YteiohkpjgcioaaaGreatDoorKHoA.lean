/-
  Walks of package hmm on a valid model with silent states: the order of these with its list, Valid (printed by mk2.py).
-/
import Derived.Test.YteiohkpjgcioaaaGreatDoorKVaB
import Derived.Test.YteiohkpjgcioaaaGreatDoorKHxA
import Derived.Test.YteiohkpjgcioaaaGreatDoorKMod123
set_option linter.unusedVariables false
set_option linter.unusedSimpArgs false
namespace Go.Proofs.YteiohkpjgcioaaaGreatDoor
open Go Go.AL
def VisL (h:HM)(n:Nat):Prop:=∀ (s o:List Int) (i b1 b4 b5 b6 b10 t6 b c N:Nat),zers h s≤n→Dfs h s→LstO h s o→(h.silent.getD i false=true→Abv h s i)→i<h.st→o.length+zers h s≤N→N≤12 →
 FSpecE P F.hmm_order_1 [.d (dI i),.ptr 1 b1 0,.ptr 5 b5 0,.ptr 6 b6 0,.ptr 4 b4 0] (ordM h b1 b4 b5 b6 b10 t6 s b c o) (fun x:OrdX=>.d (dB x.2.1)) (fun x=>ordM h b1 b4 b5 b6 b10 t6 x.1 x.2.2.1 x.2.2.2.1 x.2.2.2.2)
  (fun x=>Vis h s i x.1 x.2.1∧(x.2.1=true→x.2.2.2.2.length+zers h x.1≤N)∧(x.2.1=true→LstO h x.1 x.2.2.2.2))
def revF (l:List Int)(i:Nat):List Int:=(List.range l.length).map fun p=>if p<i ∨ l.length≤p+i then l.getD (l.length-1-p) 0 else l.getD p 0
theorem revF_len {l:List Int}{i:Nat}:(revF l i).length=l.length:=by simp [revF]
theorem revF_get {l:List Int}{i p:Nat}(hp:p<l.length):(revF l i).getD p 0=if p<i ∨ l.length≤p+i then l.getD (l.length-1-p) 0 else l.getD p 0:=map_getD_range _ _ hp
theorem revF_zero {l:List Int}:revF l 0=l:=by
 refine list_eq_getD revF_len 0 fun p hp=>?_
 rw [revF_len] at hp
 rw [revF_get hp,if_neg (by omega)]
theorem revF_step {l:List Int}{i q:Nat}(hq:i+q+1=l.length)(hi:i<q):((revF l i).set i ((revF l i).getD q 0)).set q ((revF l i).getD i 0)=revF l (i+1):=by
 refine list_eq_getD (by rw [List.length_set,List.length_set,revF_len,revF_len]) 0 fun p hp=>?_
 rw [List.length_set,List.length_set,revF_len] at hp
 rw [set_getD (by rw [List.length_set,revF_len];omega),revF_get hp,revF_get (by omega)]
 by_cases e:p=q
 ·subst e
  rw [if_pos rfl,if_neg (by omega),if_pos (by omega)]
  congr 1;omega
 ·rw [if_neg e,set_getD (by rw [revF_len];omega),revF_get (by omega)]
  by_cases e2:p=i
  ·subst e2
   rw [if_pos rfl,if_neg (by omega),if_pos (by omega)]
   congr 1;omega
  ·rw [if_neg e2,revF_get hp]
   by_cases c:p<i ∨ l.length≤p+i
   ·rw [if_pos c,if_pos (by omega)]
   ·rw [if_neg c,if_neg (by omega)]
theorem revF_all {l:List Int}{i:Nat}(h:l.length≤i+i+1):revF l i=l.reverse:=by
 refine list_eq_getD (by rw [revF_len,List.length_reverse]) 0 fun p hp=>?_
 rw [revF_len] at hp
 rw [revF_get hp]
 have e:l.reverse.getD p 0=l.getD (l.length-1-p) 0:=by
  rw [gd9,List.getElem?_reverse hp,gd9]
 rw [e]
 split
 ·rfl
 ·have:l.length-1-p=p:=by omega
  rw [this]
set_option maxRecDepth 6000 in
set_option maxHeartbeats 1600000 in
theorem hmm_order_1L {h:HM}(f:h.FormS){n:Nat}(ih:∀ k,k<n→VisL h k):VisL h n:=by
 have e1:=f.ini
 have e2:=f.trans
 have e3:=f.stop
 have e4:=f.emit
 have e5:=f.ties
 have e6:=f.sill
 have s0:=f.sym0
 have s1:=f.sym1
 have n0:=f.st0
 have n1:=f.st1
 intro s o i b1 b4 b5 b6 b10 t6 b c N hn hd lo ha hi hN hN2
 have hl:=hd.len
 refine FSpecE.intro fn.hmm_order_1 (by rfl) (by rfl) (nb9 (by rfl)) fun E hE=>(AW.sg hE rfl (asD rfl (OL.nil (AW.seq (AW.seq ?_)))))
 have hel:(s.map dI)[i]? = some (dI (s.getD i 0)):=by rw [List.getElem?_map,gd9,ge9 (show i<s.length by omega)];rfl
 refine AW.rg hE rfl (faP fd.Hidden_7 rfl rfl (ldPC ce.bools rfl rfl rfl (mvD rfl (ixLn sl.bools false rfl rfl (by omega) rfl rfl (ldRC ce.bool rfl (nt rfl (mvD rfl ?_)))))))
 refine OL.split 15 rfl (fun a1=>?_) (fun a1=>?_)
 ·have a1:h.silent.getD i false=false:=by simpa using a1
  refine OL.nd rfl (OL.nd rfl (OL.nd rfl (OL.nd rfl (OL.nd rfl (pkT rfl rfl (OL.nil (cnT rfl ?_)))))))
  refine AW.sg hE rfl (faP fd.Hidden_7 rfl rfl (ldPC ce.bools rfl rfl rfl (mvD rfl (ixLn sl.bools false rfl rfl (by omega) rfl rfl (ldRC ce.bool rfl (nt rfl (mvD rfl ?_)))))))
  refine OL.split 28 rfl (fun a2=>?_) (fun a2=>?_)
  ·have a2:h.silent.getD i false=false:=by simpa using a2
   refine OL.nd rfl (OL.nd rfl (OL.nd rfl (OL.nd rfl (OL.nd rfl (pkT rfl rfl (asD rfl (OL.nil ?_)))))))
   exact AW.ret ⟨(s,true,b,c,o),⟨Vis.same hd (fun _ e=>by rw [a1] at e;cases e) (fun e=>by cases e),fun _=>hN,fun _=>lo⟩,⟨_,.tmp rfl .nil,.le vR⟩,fun id blk hk=>lk_own (l:=ordL h b1 b4 b5 b6 b10 t6 _ _ _ _) (.cons rfl (.cons rfl (.cons rfl (.cons rfl (.cons rfl (.cons rfl trivial)))))) id blk hk⟩
  ·have a2:h.silent.getD i false=true:=by simpa using a2
   refine OL.yes rfl (ldPC ce.ints rfl rfl rfl (OL.yes rfl (mvD rfl (OL.yes rfl (ixOn sl.ints rfl rfl (by omega) (OL.yes rfl (ldEC ce.int (by decide) rfl rfl hel rfl ?_)))))))
   exact OL.yes rfl (c_eql rfl rfl rfl (pkF rfl rfl (asD rfl (OL.nil (absurd (a1.symm.trans a2) (by decide))))))
 ·have a1:h.silent.getD i false=true:=by simpa using a1
  refine OL.yes rfl (ldPC ce.ints rfl rfl rfl (OL.yes rfl (mvD rfl (OL.yes rfl (ixOn sl.ints rfl rfl (by omega) (OL.yes rfl (ldEC ce.int (by decide) rfl rfl hel rfl ?_)))))))
  refine OL.yes rfl (c_neq rfl rfl rfl (pkF rfl rfl (OL.nil (AW.cond rfl (fun c21=>?_) (fun c21=>?_)))))
  ·have c21:s.getD i 0≠0:=by simpa using c21
   refine AW.sg hE rfl (faP fd.Hidden_7 rfl rfl (ldPC ce.bools rfl rfl rfl (mvD rfl (ixLn sl.bools false rfl rfl (by omega) rfl rfl (ldRC ce.bool rfl (nt rfl (mvD rfl ?_)))))))
   refine OL.split 28 rfl (fun a2=>?_) (fun a2=>?_)
   ·have a2:h.silent.getD i false=false:=by simpa using a2
    refine OL.nd rfl (OL.nd rfl (OL.nd rfl (OL.nd rfl (OL.nd rfl (pkT rfl rfl (asD rfl (OL.nil ?_)))))))
    exact absurd (a1.symm.trans a2) (by decide)
   ·have a2:h.silent.getD i false=true:=by simpa using a2
    refine OL.yes rfl (ldPC ce.ints rfl rfl rfl (OL.yes rfl (mvD rfl (OL.yes rfl (ixOn sl.ints rfl rfl (by omega) (OL.yes rfl (ldEC ce.int (by decide) rfl rfl hel rfl ?_)))))))
    refine OL.yes rfl (c_eql rfl rfl rfl (pkF rfl rfl (asD rfl (OL.nil ?_))))
    exact AW.ret ⟨(s,decide (s.getD i 0=2),b,c,o),⟨Vis.same hd (fun e _=>dt9 e) (fun e=>(ha a1).bad hi (by have h1:=hd.rng i;have h2:=df9 e;omega)),fun _=>hN,fun _=>lo⟩,⟨_,.tmp rfl .nil,.le vR⟩,fun id blk hk=>lk_own (l:=ordL h b1 b4 b5 b6 b10 t6 _ _ _ _) (.cons rfl (.cons rfl (.cons rfl (.cons rfl (.cons rfl (.cons rfl trivial)))))) id blk hk⟩
  ·have c21:s.getD i 0=0:=by simpa using c21
   have hz:=zers_set (h:=h) hl hi c21
   refine AW.skip (AW.sg hE rfl (ldPC ce.ints rfl rfl rfl (mvD rfl (ixOn sl.ints rfl rfl (by omega) (stE sz.int rfl (VC.d _).vd rfl rfl (by rw [lm9];omega) (es2:=(s.set i 1).map dI) (by rw [List.map_set]) (OL.nil (AW.seq ?_)))))))
   refine AW.seq ?_
   have t1:=f.trow i hi
   refine AW.rg hE rfl (faP fd.Hidden_4 rfl rfl (ldPC ce.Ratss rfl rfl rfl (mvD rfl (ixLn sl.Ratss [] rfl rfl (by omega) rfl rfl (ldRC ce.Rats rfl (lnL sl.Rats rfl rfl (mvD rfl ?_)))))))
   refine OL.nil (AW.block ?_)
   refine AW.whileK (α:=Nat × List Int × Nat × Nat × List Int) [(0,_),(2,_),(3,_),(4,_),(42,_),(43,_)] [(1,_),(5,_),(6,_)] (fun (j,s2,p,q,o2)=>[(44,.d (dI j))]) (fun (j,s2,p,q,o2)=>[(4,.box b4 T.ints [.osl 1004 p o2.length q]),(10,.row b10 h.st T.int 1 (s2.map dI)),(1004,.row p q T.int 1 (o2.map dI))]) (fun (j,s2,p,q,o2)=>j≤h.st∧Mid h s i s2 j∧o2.length+zers h s2+1≤N∧LstO h s2 o2) (fun (j,s2,p,q,o2)=>h.st-j) (0,s.set i 1,b,c,o) (.cons (knD rfl) (.cons (knP rfl) (.cons (knP rfl) (.cons (knP rfl) (.cons (knD rfl) (.cons (knD rfl) .nil)))))) (.cons (owB rfl) (.cons (owB rfl) (.cons (owB rfl) .nil))) ⟨⟨Nat.zero_le _,Mid.start hd hi c21,by omega,lo.start hl hi c21 a1⟩,.rq1,.cons rfl (.cons rfl (.cons rfl .nil))⟩ ?_
   rintro ⟨j,s2,p,q,o2⟩ ⟨h1,hm,hN3,lo2⟩
   have h1:j≤h.st:=h1
   have hm:Mid h s i s2 j:=hm
   have hN3:o2.length+zers h s2+1≤N:=hN3
   have hl2:=hm.dfs.len
   refine AW.sg hE rfl (c_lss rfl rfl rfl (OL.nil (AW.seq (AW.cond rfl (fun h45=>?_) (fun h45=>?_)))))
   ·try simp only [dx9] at h45
    refine AW.skip (AW.seq (AW.block (AW.sg hE rfl (mvD rfl (ixLn sl.Rats 0 rfl rfl (by omega) rfl rfl (ldRA ag.Rat rfl (vs:=[_,_,_]) rfl (nb9 rfl) (al z.Rat rfl fun b8=>?_)))))))
    refine asD rfl (sto sz.Rat rfl rfl rfl rfl rfl (nb9 rfl) (cells2:=[_,_,_]) rfl (OL.nil (AW.seq ?_)))
    have zT:=(f.zT i).get (by decide) j
    by_cases hp:0<(h.trans.getD i []).getD j 0
    ·refine AW.regionK (by rw [hE];rfl) (SK.ofOL (ldPA ag.Rat rfl rfl (vs:=[_,_,_]) rfl (nb9 rfl) (OL.nil ?_)))
     refine SK.ofOL (clv rfl .rq1 (rational_SignQ (x:=(h.trans.getD i []).getD j 0) (by omega)) (OL.nil ?_))
     refine SK.ofOL (c_gtr rfl rfl (c:=true) (decide_eq_true (sgn_gt.2 hp)) (OL.nil ?_))
     refine SK.ofOL (mvD rfl (OL.nil ?_))
     refine SK.ofOL (OL.yes rfl (ldPC (ce.fn110) rfl rfl rfl (OL.nil ?_)))
     refine SK.ofOL (OL.yes rfl (mvD rfl (OL.nil ?_)))
     refine SK.ofSOg rfl (SO.callE (args':=[.d (dI j),.ptr 1 b1 0,.ptr 5 b5 0,.ptr 6 b6 0,.ptr 4 b4 0]) (show 55<E.n by rw [hE];exact Nat.le_of_ble_eq_true (by rfl)) rfl vL (Mc:=ordM h b1 b4 b5 b6 b10 t6 s2 p q o2) (fun id blk hk=>lk_own (l:=ordL h b1 b4 b5 b6 b10 t6 s2 p q o2) (.cons rfl (.cons rfl (.cons rfl (.cons rfl (.cons rfl (.cons rfl trivial)))))) id blk hk) (ih (zers h s2) (Nat.lt_of_lt_of_le (hm.zers c21 hi) hn) s2 o2 j b1 b4 b5 b6 b10 t6 p q (N-1) (Nat.le_refl _) hm.dfs lo2 (fun sj=>hm.abv (ha a1) hi a1 (by omega) sj hp) (by omega) (by omega) (by omega)) (fun x _ id hk=>ordM_none id hk) ?_)
     rintro ⟨s3,ok,p3,q3,o3⟩ ⟨v,w,w9⟩
     have v:Vis h s2 j s3 ok:=v
     have w:ok=true→o3.length+zers h s3≤N-1:=w
     have w9:ok=true→LstO h s3 o3:=w9
     refine SK.ofOL (OL.yes rfl (nt rfl (OL.nil ?_)))
     refine SK.ofOL (pkT rfl rfl (OL.nil ?_))
     refine SK.nil (AW.cond rfl (fun c57=>?_) (fun c57=>?_))
     ·have c57:ok=false:=by simpa using c57
      refine AW.sg hE rfl (asD rfl (OL.nil ?_))
      exact AW.ret ⟨(s3,false,p3,q3,o3),⟨Vis.fail hm v c57 rfl,(fun e=>by cases e),fun e=>by cases e⟩,⟨_,.tmp rfl .nil,.le vR⟩,fun id blk hk=>lk_own (l:=ordL h b1 b4 b5 b6 b10 t6 _ _ _ _) (.cons rfl (.cons rfl (.cons rfl (.cons rfl (.cons rfl (.cons rfl trivial)))))) id blk hk⟩
     ·have c57:ok=true:=by simpa using c57
      have hw:o3.length+zers h s3+1≤N:=by have:=w c57;omega
      have hw2:=w9 c57
      refine AW.skip (AW.rg hE rfl (add_i64 rfl rfl (by omega) (mvD rfl (OL.nil ?_))))
      exact AW.again (x:=(j,s2,p,q,o2)) (j+1,s3,p3,q3,o3) (by (simp only [];omega)) ⟨⟨by omega,hm.step (c57 ▸ v),hw,hw2⟩,Knows.app .rq6 .rq1,Owns.app (.cons rfl (.cons rfl (.cons rfl .nil))) (.cons rfl (.cons rfl (.cons rfl .nil)))⟩
    ·refine AW.regionK (by rw [hE];rfl) (SK.ofOL (ldPA ag.Rat rfl rfl (vs:=[_,_,_]) rfl (nb9 rfl) (OL.nil ?_)))
     refine SK.ofOL (clv rfl .rq1 (rational_SignQ (x:=(h.trans.getD i []).getD j 0) (by omega)) (OL.nil ?_))
     refine SK.ofOL (c_gtr rfl rfl (c:=false) (decide_eq_false fun e=>hp (sgn_gt.1 e)) (OL.nil ?_))
     refine SK.ofOL (mvD rfl (OL.nil ?_))
     refine SK.ofOL (OL.nd rfl (OL.nil ?_))
     refine SK.ofOL (OL.nd rfl (OL.nil ?_))
     refine SK.ofOL (OL.nd rfl (OL.nil ?_))
     refine SK.ofOL (OL.nd rfl (OL.nil ?_))
     refine SK.ofOL (pkF rfl rfl (OL.nil ?_))
     refine SK.nil (cnF rfl ?_)
     refine AW.skip (AW.rg hE rfl (add_i64 rfl rfl (by omega) (mvD rfl (OL.nil ?_))))
     exact AW.again (x:=(j,s2,p,q,o2)) (j+1,s2,p,q,o2) (by (simp only [];omega)) ⟨⟨by omega,hm.skip hp,hN3,lo2⟩,Knows.app .rq6 .rq1,Owns.app (.cons rfl (.cons rfl (.cons rfl .nil))) (.cons rfl (.cons rfl (.cons rfl .nil)))⟩
   ·try simp only [dx9] at h45
    refine AW.exit (AW.seq ?_)
    obtain rfl:j=h.st:=by omega
    refine AW.rg hE rfl (ldPC ce.ints rfl rfl rfl (mvD rfl (ixOn sl.ints rfl rfl (by omega) (stE sz.int rfl (VC.d _).vd rfl rfl (by rw [lm9];omega) (es2:=(s2.set i 2).map dI) (by rw [List.map_set]) (OL.nil (AW.sg hE rfl (ldPC ce.ints rfl rfl rfl ?_)))))))
    refine mvD rfl (lt1 sl.ints (VC.d _).vd rfl (by decide) ?_)
    refine apO sl.ints rfl rfl rfl (by rw [lm9]) (VC.d _) (xs:=[dI i]) (fun y hy=>by rw [ms9 hy];rfl) (by simp;omega) (by simp;omega) (.inl rfl) (ys:=(o2++[(i:Int)]).map dI) (by rw [List.map_append];rfl) (n2:=(o2++[(i:Int)]).length) (by rw [la9];rfl) fun p2 q2=>?_
    refine sto sz.ints rfl rfl rfl rfl rfl (nb9 rfl) rfl (OL.nil (AW.seq (AW.to [] [(1,_),(5,_),(6,_),(4,_),(10,_),(65,_)] .nil (.cons rfl (.cons rfl (.cons rfl (.cons rfl (.cons rfl (.cons rfl trivial)))))) (AW.rename 65 1004 rfl (AW.boxW 4 [.osl 1004 p2 (o2++[(i:Int)]).length q2] rfl (.cons vle_osl .nil) (AW.rg hE rfl (asD rfl ?_)))))))
    refine OL.nil ?_
    exact AW.ret ⟨(s2.set i 2,true,p2,q2,o2++[(i:Int)]),⟨hm.fin hi c21,fun _=>by have:=zers_fin (h:=h) hl2 hi;show (o2++[(i:Int)]).length+zers h (s2.set i 2)≤N;rw [la9,ls9];omega,fun _=>lo2.fin hm hi a1⟩,⟨_,.tmp rfl .nil,.le vR⟩,fun id blk hk=>lk_own (l:=ordL h b1 b4 b5 b6 b10 t6 _ _ _ _) (.cons rfl (.cons rfl (.cons rfl (.cons rfl (.cons rfl (.cons rfl trivial)))))) id blk hk⟩
theorem visL {h:HM}(f:h.FormS)(n:Nat):VisL h n:=Nat.strongRecOn n fun _ ih=>hmm_order_1L f ih
theorem reverseL {l:List Int}{b c:Nat}(nl:l.length≤1024):FSpecM P F.slices_Reverse_ints_int [.osl 1004 b l.length c] (mem1 1004 (.row b c T.int 1 (l.map dI))) (.tup []) (mem1 1004 (.row b c T.int 1 (l.reverse.map dI))):=by
 refine FSpecM.intro fn.slices_Reverse_ints_int (by rfl) (by rfl) (nb9 (by rfl)) fun E hE=>(AW.sg hE rfl (mvO rfl (lnO sl.ints rfl rfl (sub_i64 rfl rfl (by omega) (asD rfl (asD rfl (OL.nil ?_)))))))
 refine AW.block ?_
 refine AW.whileK (α:=Nat × Int × List Int) [(0,_)] [] (fun (i,j,l2)=>[(2,.d (dI i)),(3,.d (dI j))]) (fun (i,j,l2)=>[(1004,.row b c T.int 1 (l2.map dI))]) (fun (i,j,l2)=>l2.length=l.length∧(i:Int)≤l.length ∧ -1≤j∧j<l.length∧l2=revF l i∧(i:Int)+j+1=l.length) (fun (i,j,l2)=>(j+1-i).toNat) (0,(l.length:Int)-1,l) (.cons (knO rfl) .nil) .nil ⟨⟨rfl,by omega,by omega,by omega,revF_zero.symm,by omega⟩,.rq2,.cons rfl .nil⟩ ?_
 rintro ⟨i,j,l2⟩ ⟨hl,h1,h2,h3,h4,h5⟩
 have hl:l2.length=l.length:=hl
 have h1:(i:Int)≤l.length:=h1
 have h2:-1≤j:=h2
 have h3:j<l.length:=h3
 have h4:l2=revF l i:=h4
 have h5:(i:Int)+j+1=l.length:=h5
 refine AW.seq (AW.sg hE rfl (mvD rfl (mvD rfl (c_lss rfl rfl rfl (OL.nil (AW.cond rfl (fun h9=>?_) (fun h9=>?_)))))))
 ·try simp only [dx9] at h9
  refine AW.skip (AW.seq (AW.block ?_))
  obtain ⟨q,rfl⟩:∃ q:Nat,j=q:=⟨j.toNat,by omega⟩
  have el1:(l2.map dI)[i]? = some (dI (l2.getD i 0)):=by rw [List.getElem?_map,gd9,ge9 (show i<l2.length by omega)];rfl
  have el2:(l2.map dI)[q]? = some (dI (l2.getD q 0)):=by rw [List.getElem?_map,gd9,ge9 (show q<l2.length by omega)];rfl
  refine AW.dg 1 [0,1,2,3,4,5,6,7,8,9,10,11,12,13,14,15] order_free hE rfl (by kernel_rfl) (OI.of_OL (os:=[_,_,_,_,_,_,_,_,_,_,_,_,_,_,_,_]) rfl ?_)
  refine mvO rfl (mvD rfl (mvO rfl (mvD rfl (mvO rfl (mvD rfl (ixOn sl.ints rfl rfl (by omega) (ldEC ce.int (by decide) rfl rfl el2 rfl ?_)))))))
  refine mvO rfl (mvD rfl (ixOn sl.ints rfl rfl (by omega) (ldEC ce.int (by decide) rfl rfl el1 rfl (ixOn sl.ints rfl rfl (by omega) (stE sz.int rfl (VC.d _).vd rfl rfl (by rw [lm9];omega) (es2:=(l2.set i (l2.getD q 0)).map dI) (by rw [List.map_set]) (ixOn sl.ints rfl rfl (by omega) (stE sz.int rfl (VC.d _).vd rfl rfl (by rw [lm9,List.length_set];omega) (es2:=((l2.set i (l2.getD q 0)).set q (l2.getD i 0)).map dI) (by simp only [List.map_set]) ?_)))))))
  refine OL.nil (AW.rg hE rfl (mvD rfl (add_i64 rfl rfl (by omega) (mvD rfl (sub_i64 rfl rfl (by omega) (asD rfl (asD rfl ?_)))))))
  refine OL.nil ?_
  exact AW.again (x:=(i,(q:Int),l2)) (i+1,(q:Int)-1,(l2.set i (l2.getD q 0)).set q (l2.getD i 0)) (by (simp only [];omega)) ⟨⟨by rw [List.length_set,List.length_set];exact hl,by omega,by omega,by omega,by rw [h4];exact revF_step (by omega) (by omega),by omega⟩,Knows.app .rq1 .rq2,.cons rfl .nil⟩
 ·try simp only [dx9] at h9
  refine AW.exit ?_
  have hfin:l2=l.reverse:=by rw [h4];exact revF_all (by omega)
  rw [← hfin]
  exact ⟨⟨[],.nil,[],.nil,rfl⟩,mem1_keep rfl⟩
set_option maxRecDepth 6000 in
set_option maxHeartbeats 1600000 in
theorem hmm_orderL {h:HM}(f:h.FormS)(rk:h.Ranked):FSpecE P F.hmm_order [vHM h] noMem (fun O:List Nat=>.tup [.d (.sl (O.map fun k:Nat=>dI (k:Int))),.d (dB true)]) (fun _=>noMem) (fun O=>OrdS h O):=by
 have e1:=f.ini
 have e2:=f.trans
 have e3:=f.stop
 have e4:=f.emit
 have e5:=f.ties
 have e6:=f.sill
 have s0:=f.sym0
 have s1:=f.sym1
 have n0:=f.st0
 have n1:=f.st1
 refine FSpecE.intro fn.hmm_order (by rfl) (by rfl) (nb9 (by rfl)) fun E hE=>(AW.sg hE rfl (bxA rfl rfl fun b1=>(asM rfl (asD rfl (OL.nil (AW.sg hE rfl (al z.ints rfl fun b4=>?_)))))))
 refine OL.nil (AW.sg hE rfl (faP fd.Hidden_1 rfl rfl (ldPC ce.int rfl rfl rfl (mkL dI 0 sl.ints z.int (.cons (VC.d _) .nil) rfl rfl (Nat.le_refl _) (by omega) (by omega) rfl fun b10=>(al z.ints rfl fun b5=>(sto sz.ints rfl rfl rfl rfl rfl (nb9 rfl) (cells2:=[_]) rfl (OL.nil ?_)))))))
 refine AW.sg hE rfl (al z.fn110 rfl fun b6=>(OL.nil (AW.sg hE rfl (mkF (vs:=[_,_,_,_]) rfl (sto sz.fn110 rfl rfl rfl rfl rfl (nb9 rfl) (cells2:=[_]) rfl (OL.nil (AW.seq ?_)))))))
 refine AW.sg hE rfl (faP fd.Hidden_1 rfl rfl (ldPC ce.int rfl rfl rfl (mvD rfl (OL.nil (AW.block (AW.deadR 1004 T.int 1 rfl (AW.boxW 4 [.osl 1004 0 0 0] rfl (.cons vle_mtO .nil) ?_)))))))
 refine AW.whileK (α:=Nat × List Int × Nat × Nat × List Int) [(1,_),(4,_),(5,_),(6,_),(13,_)] [(1,_),(5,_),(6,_)] (fun (i,s,p,q,o)=>[(14,.d (dI i))]) (fun (i,s,p,q,o)=>[(4,.box b4 T.ints [.osl 1004 p o.length q]),(10,.row b10 h.st T.int 1 (s.map dI)),(1004,.row p q T.int 1 (o.map dI))]) (fun (i,s,p,q,o)=>i≤h.st∧Dfs h s∧(∀ k,s.getD k 0≠1)∧(∀ j,j<i→h.silent.getD j false=true→s.getD j 0=2)∧o.length+zers h s≤h.st∧LstO h s o) (fun (i,s,p,q,o)=>h.st-i) (0,List.replicate h.st 0,0,0,[]) (.cons (knP rfl) (.cons (knP rfl) (.cons (knP rfl) (.cons (knP rfl) (.cons (knD rfl) .nil))))) (.cons (owB rfl) (.cons (owB rfl) (.cons (owB rfl) .nil))) ⟨⟨Nat.zero_le _,Dfs.zero h,fun k=>by rw [replicate_getD];decide,fun j hj=>absurd hj (Nat.not_lt_zero j),by have:=cnt_bound (p:=fun k=>(List.replicate h.st (0:Int)).getD k 0 == 0) h.st;show 0+zers h _≤h.st;unfold zers;omega,LstO.zero⟩,.rq1,.cons rfl (.cons rfl (.cons rfl .nil))⟩ ?_
 rintro ⟨i,s,p,q,o⟩ ⟨h1,hd,h2,h3,h4,lo⟩
 have h1:i≤h.st:=h1
 have hd:Dfs h s:=hd
 have h2:∀ k,s.getD k 0≠1:=h2
 have h3:∀ j,j<i→h.silent.getD j false=true→s.getD j 0=2:=h3
 have h4:o.length+zers h s≤h.st:=h4
 have lo:LstO h s o:=lo
 refine AW.sg hE rfl (c_lss rfl rfl rfl (OL.nil (AW.seq (AW.cond rfl (fun h15=>?_) (fun h15=>?_)))))
 ·try simp only [dx9] at h15
  refine AW.skip (AW.seq (AW.block (AW.sg hE rfl (mvD rfl (asD rfl (OL.nil (AW.seq ?_)))))))
  refine AW.regionK (by rw [hE];rfl) (SK.ofOL (ldPC ce.fn110 rfl rfl rfl (OL.nil ?_)))
  refine SK.ofOL (mvD rfl (OL.nil ?_))
  refine SK.ofSO (SO.callE (args':=[.d (dI i),.ptr 1 b1 0,.ptr 5 b5 0,.ptr 6 b6 0,.ptr 4 b4 0]) (show 19<E.n by rw [hE];exact Nat.le_of_ble_eq_true (by rfl)) rfl vL (Mc:=ordM h b1 b4 b5 b6 b10 T.fn110 s p q o) (fun id blk hk=>lk_own (l:=ordL h b1 b4 b5 b6 b10 T.fn110 s p q o) (.cons rfl (.cons rfl (.cons rfl (.cons rfl (.cons rfl (.cons rfl trivial)))))) id blk hk) (visL f (zers h s) s o i b1 b4 b5 b6 b10 T.fn110 p q h.st (Nat.le_refl _) hd lo (fun _ r _ k _ e=>absurd e (h2 k)) (by omega) h4 n1) (fun x _ id hk=>ordM_none id hk) ?_)
  rintro ⟨s3,ok,p3,q3,o3⟩ ⟨v,w,w9⟩
  have v:Vis h s i s3 ok:=v
  obtain rfl:ok=true:=by
   cases ok with
   | true=>rfl
   | false=>exact absurd rk (v.bad rfl)
  have hv:=v.good rfl
  have w:o3.length+zers h s3≤h.st:=w rfl
  have w9:LstO h s3 o3:=w9 rfl
  refine SK.ofOL (nt rfl (OL.nil ?_))
  refine SK.nil (AW.cond rfl (fun hno=>absurd hno (by show ¬ (false=true);decide)) (fun _=>?_))
  refine AW.skip (AW.rg hE rfl (add_i64 rfl rfl (by omega) (mvD rfl (OL.nil ?_))))
  exact AW.again (x:=(i,s,p,q,o)) (i+1,s3,p3,q3,o3) (by (simp only [];omega)) ⟨⟨by omega,hv.1,fun k e=>h2 k ((hv.2.1 k).1 e),upto_stp (fun j hj sj=>hv.2.2.1 j (h3 j hj sj)) hv.2.2.2,w,w9⟩,Knows.app .rq5 .rq1,Owns.app (.cons rfl (.cons rfl (.cons rfl .nil))) (.cons rfl (.cons rfl (.cons rfl .nil)))⟩
 ·try simp only [dx9] at h15
  refine AW.exit (AW.seq ?_)
  obtain rfl:i=h.st:=by omega
  refine AW.regionK (by rw [hE];rfl) (SK.ofOL (ldPC ce.ints rfl rfl rfl (OL.nil ?_)))
  refine SK.ofOL (OL.callM (v:=.tup []) (.mk (args':=[.osl 1004 p o.length q]) rfl vL (mem1_keep (id:=1004) (blk:=.row p q T.int 1 (o.map dI)) rfl) mem1_sub (reverseL (by omega))) (OL.nil ?_))
  refine SK.nil (AW.sg hE rfl (ldPC ce.ints rfl rfl rfl (asO rfl (asD rfl (OL.nil ?_)))))
  exact AW.ret ⟨o.reverse.map Int.toNat,lo.ord f (fun k hk sk=>h3 k hk sk) (by omega),⟨_,.tmp rfl (.tmp rfl .nil),_,.cons (RO.row rfl (by rw [lm9,List.length_reverse]) (by rw [List.map_map];exact List.map_congr_left fun x hx=>by show dI x=dI ((x.toNat:Nat):Int);rw [Int.toNat_of_nonneg (lo.nat x (List.mem_reverse.1 hx))])) (.cons (.le vR) .nil),rfl⟩,fun _ _ h=>by cases h⟩
theorem hmm_formedS {h:HM}(f:h.FormS):FSpec P F.hmm_formed [vHM h] (.d (dB true)):=by
 have e1:=f.ini
 have e2:=f.trans
 have e3:=f.stop
 have e4:=f.emit
 have e5:=f.ties
 have e6:=f.sill
 have s0:=f.sym0
 have s1:=f.sym1
 have n0:=f.st0
 have n1:=f.st1
 have pE:=f.pE
 have pI:=f.pI
 have pS:=f.pS
 have zE:=f.zE
 have zI:=f.zI
 have zS0:=f.zS
 refine FSpec.intro fn.hmm_formed (by rfl) (by rfl) (nb9 (by rfl)) fun E hE=>(AW.sg hE rfl (bxA rfl rfl fun b1=>(asD rfl (OL.nil (AW.sg hE rfl (faP fd.Hidden_1 rfl rfl (ldPC ce.int rfl rfl rfl ?_)))))))
 refine asD rfl (OL.nil (AW.seq (AW.sg hE rfl (faP fd.Hidden_2 rfl rfl (ldPA ag.Rat rfl rfl (vs:=[_,_,_]) rfl (nb9 rfl) (clv rfl .rq1 (hmm_share_ok (by assumption) (by omega)) (nt rfl ?_)))))))
 refine mvD rfl (OL.yes rfl (faP fd.Hidden_3 rfl rfl (OL.yes rfl (ldPC ce.Rats rfl rfl rfl (OL.yes rfl (lnL sl.Rats rfl rfl (OL.yes rfl ?_)))))))
 refine mvD rfl (OL.yes rfl (c_neq rfl rfl (c:=false) (by exact cne_f (by omega)) (pkF rfl rfl (mvD rfl (OL.yes rfl (faP fd.Hidden_5 rfl rfl (OL.yes rfl ?_)))))))
 refine ldPC ce.Rats rfl rfl rfl (OL.yes rfl (lnL sl.Rats rfl rfl (OL.yes rfl (mvD rfl (OL.yes rfl (c_neq rfl rfl (c:=false) (by exact cne_f (by omega)) (pkF rfl rfl ?_)))))))
 refine mvD rfl (OL.yes rfl (faP fd.Hidden_7 rfl rfl (OL.yes rfl (ldPC ce.bools rfl rfl rfl (OL.yes rfl (lnL sl.bools rfl rfl (OL.yes rfl ?_)))))))
 refine mvD rfl (OL.yes rfl (c_neq rfl rfl (c:=false) (by exact cne_f (by omega)) (pkF rfl rfl (mvD rfl (OL.yes rfl (faP fd.Hidden_8 rfl rfl (OL.yes rfl ?_)))))))
 refine ldPC ce.ints rfl rfl rfl (OL.yes rfl (lnL sl.ints rfl rfl (OL.yes rfl (mvD rfl (OL.yes rfl (c_neq rfl rfl (c:=false) (by exact cne_f (by omega)) (pkF rfl rfl ?_)))))))
 refine mvD rfl (OL.yes rfl (faP fd.Hidden_4 rfl rfl (OL.yes rfl (ldPC ce.Ratss rfl rfl rfl (OL.yes rfl (lnL sl.Ratss rfl rfl (OL.yes rfl ?_)))))))
 refine mvD rfl (OL.yes rfl (c_neq rfl rfl (c:=false) (by exact cne_f (by omega)) (pkF rfl rfl (mvD rfl (OL.yes rfl (faP fd.Hidden_6 rfl rfl (OL.yes rfl ?_)))))))
 refine ldPC ce.Ratss rfl rfl rfl (OL.yes rfl (lnL sl.Ratss rfl rfl (OL.yes rfl (mvD rfl (OL.yes rfl (c_neq rfl rfl (c:=false) (by exact cne_f (by omega)) (pkF rfl rfl ?_)))))))
 refine mvD rfl (OL.yes rfl (faP fd.Hidden_3 rfl rfl (OL.yes rfl (ldPC ce.Rats rfl rfl rfl (OL.yes rfl (clv rfl .rq1 (hmm_shares_ok (by assumption) (by assumption) (by omega)) (OL.yes rfl ?_)))))))
 refine nt rfl (pkF rfl rfl (mvD rfl (OL.yes rfl (faP fd.Hidden_5 rfl rfl (OL.yes rfl (ldPC ce.Rats rfl rfl rfl (OL.yes rfl ?_)))))))
 refine clv rfl .rq1 (hmm_shares_ok (by assumption) (by assumption) (by omega)) (OL.yes rfl (nt rfl (pkF rfl rfl (OL.nil (cnF rfl ?_)))))
 refine AW.skip (AW.seq (AW.sg hE rfl (mvD rfl (mvD rfl (OL.nil (AW.block ?_))))))
 refine AW.whileK (α:=Nat) [(1,_),(3,_),(66,_)] [(1,_)] (fun i=>[(67,.d (dI i))]) (fun i=>[]) (fun i=>i≤h.st) (fun i=>h.st-i) 0 (.cons (knP rfl) (.cons (knD rfl) (.cons (knD rfl) .nil))) (.cons (owB rfl) .nil) ⟨Nat.zero_le _,.rq1,.nil⟩ ?_
 intro i h1
 refine AW.sg hE rfl (c_lss rfl rfl rfl (OL.nil (AW.seq (AW.cond rfl (fun h68=>?_) (fun h68=>?_)))))
 ·try simp only [dx9] at h68
  refine AW.skip (AW.seq (AW.block (AW.sg hE rfl (mvD rfl (asD rfl (OL.nil (AW.sg hE rfl ?_)))))))
  refine faP fd.Hidden_0 rfl rfl (ldPC ce.int rfl rfl rfl (asD rfl (OL.nil ?_)))
  refine AW.midK (α:=Unit) [(1,_),(3,_),(4,_),(66,_),(67,_)] [(1,_)] (fun _u=>[(5,.d (dI ((h.emit.getD i []).length:Nat)))]) (fun _u=>[]) (fun _u=>True) (.cons (knP rfl) (.cons (knD rfl) (.cons (knD rfl) (.cons (knD rfl) (.cons (knD rfl) .nil))))) (.cons (owB rfl) .nil) ?_ ?_
  ·refine AW.seq ?_
   have er:=f.erow i (by omega)
   refine AW.rg hE rfl (faP fd.Hidden_7 rfl rfl (ldPC ce.bools rfl rfl rfl (mvD rfl (ixLn sl.bools false rfl rfl (by omega) rfl rfl (ldRC ce.bool rfl (OL.nil (AW.cond rfl (fun hs=>?_) (fun hs=>?_))))))))
   ·have hs:=hs
    exact AW.rg hE rfl (asD rfl (OL.nil (AW.reach () ⟨trivial,Knows.app .rq5 (.cons (VLe.int (by rw [er,if_pos hs];rfl)) .nil),Owns.app (.cons rfl .nil) (.nil)⟩)))
   ·have hs:=hs
    exact AW.skip (AW.reach () ⟨trivial,Knows.app .rq5 (.cons (VLe.int (by rw [er,hs];rfl)) .nil),Owns.app (.cons rfl .nil) (.nil)⟩)
  rintro ⟨⟩ hφ
  refine AW.seq ?_
  have t1:=f.trow i (by omega)
  have t3:=f.tie i (by omega)
  have t2:=f.erow_le i (by omega)
  have pT:=f.pT i
  have pM:=f.pM i
  have zT:=f.zT i
  have zM:=f.zM i
  refine AW.rg hE rfl (faP fd.Hidden_4 rfl rfl (ldPC ce.Ratss rfl rfl rfl (mvD rfl (ixLn sl.Ratss [] rfl rfl (by omega) rfl rfl (ldRC ce.Rats rfl (lnL sl.Rats rfl rfl (mvD rfl ?_)))))))
  refine c_neq rfl rfl (c:=false) (by exact cne_f (by omega)) (mvD rfl (OL.yes rfl (faP fd.Hidden_6 rfl rfl (OL.yes rfl (ldPC ce.Ratss rfl rfl rfl (OL.yes rfl (mvD rfl ?_)))))))
  refine OL.yes rfl (ixLn sl.Ratss [] rfl rfl (by omega) rfl rfl (OL.yes rfl (ldRC ce.Rats rfl (OL.yes rfl (lnL sl.Rats rfl rfl (OL.yes rfl (mvD rfl ?_)))))))
  refine OL.yes rfl (c_neq rfl rfl (c:=false) (cne_f rfl) (pkF rfl rfl (mvD rfl (OL.yes rfl (faP fd.Hidden_4 rfl rfl (OL.yes rfl (ldPC ce.Ratss rfl rfl rfl ?_)))))))
  refine OL.yes rfl (mvD rfl (OL.yes rfl (ixLn sl.Ratss [] rfl rfl (by omega) rfl rfl (OL.yes rfl (ldRC ce.Rats rfl (OL.yes rfl (clv rfl .rq1 (hmm_shares_ok (by assumption) (by assumption) (by omega)) ?_)))))))
  refine OL.yes rfl (nt rfl (pkF rfl rfl (mvD rfl (OL.yes rfl (faP fd.Hidden_6 rfl rfl (OL.yes rfl (ldPC ce.Ratss rfl rfl rfl ?_)))))))
  refine OL.yes rfl (mvD rfl (OL.yes rfl (ixLn sl.Ratss [] rfl rfl (by omega) rfl rfl (OL.yes rfl (ldRC ce.Rats rfl (OL.yes rfl (clv rfl .rq1 (hmm_shares_ok (by assumption) (by assumption) (by omega)) ?_)))))))
  refine OL.yes rfl (nt rfl (pkF rfl rfl (mvD rfl (OL.yes rfl (faP fd.Hidden_8 rfl rfl (OL.yes rfl (ldPC ce.ints rfl rfl rfl ?_)))))))
  refine OL.yes rfl (mvD rfl (OL.yes rfl (ixLn sl.ints 0 rfl rfl (by omega) rfl rfl (OL.yes rfl (ldRC ce.int rfl (OL.yes rfl (c_lss rfl rfl (c:=false) (by exact decide_eq_false (by omega)) ?_)))))))
  refine pkF rfl rfl (mvD rfl (OL.yes rfl (faP fd.Hidden_8 rfl rfl (OL.yes rfl (ldPC ce.ints rfl rfl rfl (OL.yes rfl (mvD rfl ?_)))))))
  refine OL.yes rfl (ixLn sl.ints 0 rfl rfl (by omega) rfl rfl (OL.yes rfl (ldRC ce.int rfl (OL.yes rfl (mvD rfl (OL.yes rfl (c_geq rfl rfl (c:=false) (by exact decide_eq_false (by omega)) ?_)))))))
  refine pkF rfl rfl (OL.nil (cnF rfl ?_))
  exact AW.skip (AW.rg hE rfl (add_i64 rfl rfl (by omega) (mvD rfl (OL.nil (AW.again (x:=i) (i+1) (by omega) ⟨by omega,Knows.app .rq3 .rq1,Owns.app (.cons rfl .nil) (.nil)⟩)))))
 ·try simp only [dx9] at h68
  exact AW.exit (AW.sg hE rfl (asD rfl (OL.nil (AW.ret (RetQ.r ⟨_,.tmp rfl .nil,.le vR⟩)))))
theorem hmm_ValidS {h:HM}(f:h.FormS)(sm:h.Sums)(rk:h.Ranked)(td:h.Tied):FSpec P F.hmm_Valid [vHM h] (.d (dI 0)):=by
 have e1:=f.ini
 have e2:=f.trans
 have e3:=f.stop
 have e4:=f.emit
 have e5:=f.ties
 have e6:=f.sill
 have s0:=f.sym0
 have s1:=f.sym1
 have n0:=f.st0
 have n1:=f.st1
 refine FSpec.intro fn.hmm_Valid (by rfl) (by rfl) (nb9 (by rfl)) fun E hE=>(AW.sg hE rfl (bxA rfl rfl fun b1=>(asD rfl (OL.nil (AW.seq (AW.sg hE rfl (faP fd.Hidden_0 rfl rfl ?_)))))))
 refine ldPC ce.int rfl rfl rfl (c_lss rfl rfl (c:=false) (by exact decide_eq_false (by omega)) (mvD rfl (OL.yes rfl (faP fd.Hidden_0 rfl rfl (OL.yes rfl (ldPC ce.int rfl rfl rfl (OL.yes rfl ?_)))))))
 refine c_gtr rfl rfl (c:=false) (by exact decide_eq_false (by omega)) (pkF rfl rfl (mvD rfl (OL.yes rfl (faP fd.Hidden_1 rfl rfl (OL.yes rfl (ldPC ce.int rfl rfl rfl (OL.yes rfl ?_)))))))
 refine c_lss rfl rfl (c:=false) (by exact decide_eq_false (by omega)) (pkF rfl rfl (mvD rfl (OL.yes rfl (faP fd.Hidden_1 rfl rfl (OL.yes rfl (ldPC ce.int rfl rfl rfl (OL.yes rfl ?_)))))))
 refine c_gtr rfl rfl (c:=false) (by exact decide_eq_false (by omega)) (pkF rfl rfl (OL.nil (cnF rfl ?_)))
 refine AW.skip (AW.seq (AW.sg hE rfl (ldPA ag.Hidden rfl rfl (vs:=[_,_,_,_,_,_,_,_,_,_,_]) rfl (nb9 rfl) (clv rfl .rq1 (hmm_formedS f) (nt rfl (OL.nil (cnF rfl ?_)))))))
 refine AW.skip (AW.seq (AW.sg hE rfl (ldPA ag.Hidden rfl rfl (vs:=[_,_,_,_,_,_,_,_,_,_,_]) rfl (nb9 rfl) (clv rfl .rq1 (hmm_sumsS f) ?_))))
 rw [← sumB_t sm]
 refine nt rfl (OL.nil (cnF rfl ?_))
 refine AW.skip (AW.seq (AW.sg hE rfl (ldPA ag.Hidden rfl rfl (vs:=[_,_,_,_,_,_,_,_,_,_,_]) rfl (nb9 rfl) (clv rfl .rq1 (hmm_orderS f) ?_))))
 rw [← ranB_t rk]
 refine mvT rfl (ex rfl rfl (ex rfl rfl (asJ rfl (asD rfl (OL.nil (AW.sg hE rfl (mvD rfl ?_)))))))
 refine nt rfl (OL.nil (cnF rfl ?_))
 refine AW.skip (AW.seq (AW.sg hE rfl (ldPA ag.Hidden rfl rfl (vs:=[_,_,_,_,_,_,_,_,_,_,_]) rfl (nb9 rfl) (clv rfl .rq1 (hmm_tiedS f) ?_))))
 rw [← tieB_t td]
 refine nt rfl (OL.nil (cnF rfl ?_))
 exact AW.skip (AW.sg hE rfl (asD rfl (OL.nil (AW.ret (RetQ.r ⟨_,.tmp rfl .nil,.le vR⟩)))))
end Go.Proofs.YteiohkpjgcioaaaGreatDoor
