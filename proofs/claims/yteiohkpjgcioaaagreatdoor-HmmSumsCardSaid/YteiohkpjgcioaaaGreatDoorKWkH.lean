/-
  Walks of package automaton, part 6: what is valid (printed by mk2.py).
-/
import Derived.Test.YteiohkpjgcioaaaGreatDoorKMod111
import Derived.Test.YteiohkpjgcioaaaGreatDoorKHxA
set_option linter.unusedVariables false
set_option linter.unusedSimpArgs false
namespace Go.Proofs.YteiohkpjgcioaaaGreatDoor
open Go Go.AL
abbrev rRing:V:=.ref [dI 1,.sl []]
theorem vcs_arc0:VCs [.d (dI 0),.d (dI 0),.d (dI 0),.d (dB false),.mt,.mt,.d (dI 0),.d (dB false),.d (dU 0),.mt,.mt] (dArc default).cells:=by
 show VCs _ [dI 0,dI 0,dI 0,dB (ofQ 0).neg,u32s (ofQ 0).num,u32s (ofQ 0).den,dI 0,dB false,dU 0,.sl [],.sl []]
 rw [ofQ_zero]
 exact .cons (VC.d _) (.cons (VC.d _) (.cons (VC.d _) (.cons (VC.d _) (.cons VC.mt (.cons VC.mt (.cons (VC.d _) (.cons (VC.d _) (.cons (VC.d _) (.cons VC.mt (.cons VC.mt .nil))))))))))
theorem tidy_1 {x:Arc9}(hz:sz x.q≤68719476736):FSpec P F.automaton_Tidy_1 [vArc x,rRing] (.d (dB (decide (x.q=0)))):=by
 refine FSpec.intro fn.automaton_Tidy_1 (by rfl) (by rfl) (nb9 (by rfl)) fun E hE=>(AW.sg hE rfl (bxA rfl rfl fun b2=>(asD rfl (OL.nil (AW.sg hE rfl (ldRA ag.Ring rfl (vs:=[_,_]) rfl (nb9 rfl) (faP fd.Arc_3 rfl rfl ?_)))))))
 exact ldPA ag.Weight rfl rfl (vs:=[_,_,_,_,_,_,_,_]) rfl (nb9 rfl) (clv rfl .rq2 (IsZeroR hz) (asD rfl (OL.nil (AW.ret (RetQ.r ⟨_,.tmp rfl .nil,.le vR⟩)))))
theorem indexAM {l:List Arc9}{f:Nat}{cap:V}{p:Arc9→Bool}(hf:∀ x,x ∈ l→FSpec P f [vArc x,cap] (.d (dB (p x)))){n b c:Nat}(hl:l.length=n)(nl:n≤1099511627776):FSpecM P F.slices_IndexFunc_Arc_Arc [.osl 1000 b n c,.fn f [cap]] (mem1 1000 (rowA b c l)) (.d (dI (idx1 p l))) (mem1 1000 (rowA b c l)):=by
 refine FSpecM.intro fn.slices_IndexFunc_Arc_Arc (by rfl) (by rfl) (nb9 (by rfl)) fun E hE=>(AW.sg hE rfl (asD rfl (OL.nil (AW.seq (AW.sg hE rfl (mvO rfl (lnO sl.Arcs rfl rfl ?_)))))))
 refine mvD rfl (OL.nil (AW.block ?_))
 refine AW.whileK (α:=Nat) [(0,_),(1,_),(7,_)] [] (fun i=>[(8,.d (dI i))]) (fun i=>[(1000,rowA b c l)]) (fun i=>i≤l.length∧∀ j,j<i→p (l.getD j default)=false) (fun i=>l.length-i) 0 (.cons (knO rfl) (.cons (knF rfl) (.cons (knD rfl) .nil))) .nil ⟨⟨Nat.zero_le _,fun j hj=>by omega⟩,.rq1,.cons rfl .nil⟩ ?_
 rintro i ⟨h1,h2⟩
 refine AW.sg hE rfl (c_lss rfl rfl rfl (OL.nil (AW.seq (AW.cond rfl (fun h9=>?_) (fun h9=>?_)))))
 ·try simp only [dx9] at h9
  refine AW.skip (AW.seq (AW.block (AW.sg hE rfl (mvD rfl (asD rfl (OL.nil (AW.sg hE rfl ?_)))))))
  refine mvF rfl (mvO rfl (mvD rfl (ixOn sl.Arcs rfl rfl (by omega) (ldEA ag.Arc (by decide) rfl rfl (rowA_el (show i<l.length by omega)) (vs:=cellsArc (l.getD i default)) rfl (nb9 rfl) (clv rfl .rq2 (hf (l.getD i default) (getD_mem (by omega) _)) (OL.nil (AW.cond rfl (fun h16=>?_) (fun h16=>?_))))))))
  ·have h16:=h16
   exact AW.sg hE rfl (mvD rfl (asD rfl (OL.nil (AW.ret ⟨⟨_,.tmp rfl .nil,.le (VLe.int ((idx1_found (by omega) default h16 h2).symm))⟩,mem1_keep rfl⟩))))
  ·have h16:=h16
   refine AW.skip (AW.rg hE rfl (add_i64 rfl rfl (by omega) (mvD rfl (OL.nil ?_))))
   exact AW.again (x:=i) (i+1) (by omega) ⟨⟨by omega,fun j hj=>by rcases Nat.lt_or_ge j i with h|h;exact h2 j h;obtain rfl:j=i:=(by omega);exact h16⟩,Knows.app .rq3 .rq1,.cons rfl .nil⟩
 ·try simp only [dx9] at h9
  exact AW.exit (AW.sg hE rfl (asD rfl (OL.nil (AW.ret ⟨⟨_,.tmp rfl .nil,.le (VLe.int ((idx1_none default fun j hj=>h2 j (by omega)).symm))⟩,mem1_keep rfl⟩))))
theorem filtN {p:Arc9→Bool}{l:List Arc9}{j:Nat}(hj:j<l.length):(l.take (j+1)).filter (fun x=>!p x)=(l.take j).filter (fun x=>!p x)++if p (l.getD j default)=true then [] else [l.getD j default]:=by
 rw [List.take_add_one,List.filter_append,gd9,ge9 hj]
 simp only [Option.toList_some,Option.getD_some,List.filter_cons,List.filter_nil]
 cases p l[j] <;> rfl
theorem set_take {u:List Arc9}{i:Nat}{x:Arc9}(h:i<u.length):(u.set i x).take (i+1)=u.take i++[x]:=by
 rw [List.take_add_one,List.take_set_of_le (Nat.le_refl _),List.getElem?_set_self h];rfl
theorem filt_none {p:Arc9→Bool}{l:List Arc9}{j:Nat}(hj:j≤l.length)(h:∀ k,k<j→p (l.getD k default)=false):(l.take j).filter (fun x=>!p x)=l.take j:=by
 refine List.filter_eq_self.2 fun x hx=>?_
 obtain ⟨k,hk,e⟩:=List.mem_iff_getElem.1 hx
 rw [List.length_take] at hk
 rw [List.getElem_take] at e
 have:=h k (by omega)
 rw [gd9,ge9 (by omega),Option.getD_some,e] at this
 rw [this];rfl
theorem idx1_at {p:Arc9→Bool}{l:List Arc9}:(idx1 p l = -1∧∀ k,k<l.length→p (l.getD k default)=false) ∨ ∃ i:Nat,idx1 p l=(i:Int)∧i<l.length∧p (l.getD i default)=true∧∀ k,k<i→p (l.getD k default)=false:=by
 by_cases h:∃ i,i<l.length∧p (l.getD i default)=true
 ·obtain ⟨i,⟨h1,h2⟩,h3⟩:=least_ex (p:=fun i=>i<l.length∧p (l.getD i default)=true) _ h.choose_spec
  have hk:∀ k,k<i→p (l.getD k default)=false:=fun k hk=>Bool.eq_false_iff.2 fun e=>by have:=h3 k ⟨by omega,e⟩;omega
  exact .inr ⟨i,idx1_found h1 default h2 hk,h1,h2,hk⟩
 ·have hk:∀ k,k<l.length→p (l.getD k default)=false:=fun k hk=>Bool.eq_false_iff.2 fun e=>h ⟨k,hk,e⟩
  exact .inl ⟨idx1_none default hk,hk⟩
set_option maxHeartbeats 800000 in
theorem deleteA {l:List Arc9}{n f:Nat}{cap:V}{p:Arc9→Bool}(hf:∀ x,x ∈ l→FSpec P f [vArc x,cap] (.d (dB (p x))))(hl:l.length=n)(nl:n≤134217728):FSpecO P F.slices_DeleteFunc_Arc_Arc (fun s=>[s,.fn f [cap]]) n T.Arc 11 (l.map dArc) (l.filter (fun x=>!p x)).length ((l.filter (fun x=>!p x)).map dArc):=by
 refine FSpecO.intro fn.slices_DeleteFunc_Arc_Arc (by rfl) (by rfl) (fun _=>Nat.le_of_ble_eq_true (by rfl)) 4 rfl fun E b c hE=>(AW.rename 0 1000 rfl (AW.to [(0,.osl 1000 b n c),(1,.fn f [cap])] [(1000,rowA b c l)] (.cons VLe.osl .rq1) (.cons rfl .nil) (AW.sg hE rfl (asM rfl (OL.nil (AW.sg hE rfl (mvO rfl ?_)))))))
 refine mvF rfl (OL.callM (v:=.d (dI (idx1 p l))) (.mk (args':=[.osl 1000 b n c,.fn f [cap]]) rfl (.cons VLe.osl .rq1) (mem1_keep (id:=1000) (blk:=rowA b c l) rfl) mem1_sub (indexAM hf hl (by omega))) (asD rfl (OL.nil (AW.seq (AW.sg hE rfl (mvD rfl (c_eql rfl rfl rfl ?_)))))))
 refine OL.nil (AW.cond rfl (fun h12=>?_) (fun h12=>?_))
 ·have h12:idx1 p l = -1:=dt9 h12
  have e0:l.filter (fun x=>!p x)=l:=by have:=filt_none (p:=p) (Nat.le_refl l.length) (idx1_at.resolve_right (fun ⟨i,e,_⟩=>by omega)).2;rwa [List.take_length] at this
  rw [e0,hl]
  exact AW.sg hE rfl (mvO rfl (asO rfl (OL.nil (AW.ret ⟨.inr rfl,1000,b,c,l.map dArc,rfl,rfl,by rw [lm9];omega,by rw [List.take_of_length_le (by rw [lm9];omega)]⟩))))
 ·have h12:idx1 p l ≠ -1:=df9 h12
  obtain ⟨i0,g1,g2,g3,g4⟩:=idx1_at.resolve_left (fun e=>h12 e.1)
  rw [g1]
  refine AW.skip (AW.seq (AW.sg hE rfl (mvD rfl (add_i64 rfl rfl (by omega) (asD rfl (OL.nil (AW.block ?_)))))))
  refine AW.whileK (α:=Nat × Nat × List Arc9) [(0,_),(1,_),(4,_)] [] (fun (i,j,u)=>[(5,.d (dI i)),(6,.d (dI j))]) (fun (i,j,u)=>[(1000,rowA b c u)]) (fun (i,j,u)=>i<j∧j≤n∧u.length=n∧u.take i=(l.take j).filter (fun x=>!p x)∧∀ k,j≤k→u.getD k default=l.getD k default) (fun (i,j,u)=>n-j) (i0,i0+1,l) (.cons (knO rfl) (.cons (knF rfl) (.cons (knM rfl) .nil))) .nil ⟨⟨by omega,by omega,hl,by rw [filtN (by omega),filt_none (by omega) g4,if_pos g3,List.append_nil],fun k _=>rfl⟩,.rq2,.cons rfl .nil⟩ ?_
  rintro ⟨i,j,u⟩ ⟨h1,h2,h3,h4,h5⟩
  have h1:i<j:=h1
  have h2:j≤n:=h2
  have h3:u.length=n:=h3
  refine AW.seq (AW.sg hE rfl (mvD rfl (mvO rfl (lnO sl.Arcs rfl rfl (c_lss rfl rfl rfl (OL.nil (AW.cond rfl (fun h19=>?_) (fun h19=>?_))))))))
  ·try simp only [dx9] at h19
   refine AW.skip (AW.seq (AW.block (AW.sg hE rfl (mvO rfl (mvD rfl (ixOn sl.Arcs rfl rfl (by omega) (ldEA ag.Arc (by decide) rfl rfl (rowA_el (show j<u.length by omega)) (vs:=cellsArc (u.getD j default)) rfl (nb9 rfl) ?_)))))))
   rw [h5 j (Nat.le_refl _)]
   refine al z.Arc rfl fun b7=>(sto sz.Arc rfl rfl rfl rfl rfl (nb9 rfl) (cells2:=[_,_,_,_,_,_,_,_,_,_,_]) rfl (OL.nil (AW.sg hE rfl (mvF rfl (ldPA ag.Arc rfl rfl (vs:=[_,_,_,_,_,_,_,_,_,_,_]) rfl (nb9 rfl) (clv rfl .rq2 (hf (l.getD j default) (getD_mem (by omega) _)) (nt rfl ?_)))))))
   refine OL.nil (AW.cond rfl (fun hp=>?_) (fun hp=>?_))
   ·have hp:p (l.getD j default)=false:=by simpa using hp
    refine AW.sg hE rfl (mvO rfl (mvD rfl (ldPA ag.Arc rfl rfl (vs:=[_,_,_,_,_,_,_,_,_,_,_]) rfl (nb9 rfl) (ixOn sl.Arcs rfl rfl (by omega) (stE sz.Arc rfl (d:=dArc (l.getD j default)) vd_arc rfl rfl (by rw [lm9];omega) (es2:=(u.set i (l.getD j default)).map dArc) (by rw [List.map_set]) (OL.nil (AW.rg hE rfl ?_)))))))
    refine mvD rfl (add_i64 rfl rfl (by omega) (asD rfl (OL.nil (AW.rg hE rfl (mvD rfl (add_i64 rfl rfl (by omega) (asD rfl ?_)))))))
    refine OL.nil ?_
    exact AW.again (x:=(i,j,u)) (i+1,j+1,u.set i (l.getD j default)) (by (simp only [];omega)) ⟨⟨by omega,by omega,by rw [List.length_set];exact h3,by rw [filtN (by omega),← h4,if_neg (by rw [hp];decide)];exact set_take (by omega),fun k hk=>by rw [getD_setG (by omega),if_neg (by omega)];exact h5 k (by omega)⟩,Knows.app .rq3 .rq2,.cons rfl .nil⟩
   ·have hp:p (l.getD j default)=true:=by simpa using hp
    refine AW.skip (AW.rg hE rfl (mvD rfl (add_i64 rfl rfl (by omega) (asD rfl (OL.nil ?_)))))
    exact AW.again (x:=(i,j,u)) (i,j+1,u) (by (simp only [];omega)) ⟨⟨by omega,by omega,h3,by rw [filtN (by omega),if_pos hp,List.append_nil];exact h4,fun k hk=>h5 k (by omega)⟩,Knows.app .rq3 .rq2,.cons rfl .nil⟩
  ·try simp only [dx9] at h19
   refine AW.exit (AW.seq ?_)
   obtain rfl:j=n:=by omega
   have hf0:l.filter (fun x=>!p x)=u.take i:=by rw [h4,List.take_of_length_le (by omega)]
   have hti:(u.take i).length=i:=by rw [List.length_take];omega
   rw [hf0,hti]
   refine AW.regionS (by rw [hE];rfl) (SL.ofOL (mvO rfl (OL.nil ?_)))
   refine SL.ofOL (mvD rfl (OL.nil ?_))
   refine SL.ofOL (slB (l:=i) (n2:=j-i) sl.Arcs rfl rfl (by omega) rfl (OL.nil ?_))
   refine SL.ofSO rfl (SO.clearB (z:=dArc default) trivial sl.Arcs z.Arc vcs_arc0 rfl rfl (by rw [lm9];omega) ?_)
   refine AW.sg hE rfl (mvO rfl (mvD rfl (slO (h:=i) sl.Arcs rfl rfl (by omega) (asO rfl (OL.nil ?_)))))
   exact AW.ret ⟨.inr rfl,1000,b,c,_,rfl,rfl,by rw [la9,List.length_take,lm9,List.length_replicate];omega,by rw [List.take_append_of_le_length (by rw [List.length_take,lm9];omega),List.take_take,Nat.min_self,List.map_take]⟩
def SumZ (k:Nat)(l:List Arc9):Prop:=∀ x,x ∈ l→sz x.q≤(k+1)*134217730
theorem mergeA_sz {k:Nat}{out:List Arc9}{x:Arc9}(h:SumZ k out)(hx:sz x.q≤134217728):SumZ (k+1) (mergeA out x):=by
 have up:∀ y,sz y≤(k+1)*134217730→sz y≤(k+1+1)*134217730:=fun y hy=>Nat.le_trans hy (Nat.mul_le_mul_right _ (Nat.le_succ _))
 intro y hy
 unfold mergeA at hy
 split at hy
 ·rename_i hc
  rcases List.mem_or_eq_of_mem_set hy with hy|rfl
  ·exact up _ (h y hy)
  ·have h1:=h _ (getD_mem (show out.length-1<out.length by omega) default)
   have h2:=sz_add (out.getD (out.length-1) default).q x.q
   show sz ((out.getD (out.length-1) default).q+x.q)≤_
   omega
 ·rcases mp9 hy with hy|hy
  ·exact up _ (h y hy)
  ·rw [ms9 hy];omega
theorem fold_take {l:List Arc9}{i:Nat}(hi:i<l.length):(l.take (i+1)).foldl mergeA []=mergeA ((l.take i).foldl mergeA []) (l.getD i default):=by
 rw [List.take_add_one,List.foldl_append,ge9 hi,gd9,ge9 hi];rfl
theorem mergeA_len (out:List Arc9)(x:Arc9):(mergeA out x).length≤out.length+1:=by
 unfold mergeA
 split
 ·rw [List.length_set];omega
 ·rw [la9];exact Nat.le_refl _
theorem cloneAR {l:List Arc9}(nl:l.length≤134217728):FSpecR P F.slices_Clone_Arc_Arc [.d (dArcs l)] l.length T.Arc 11 (l.map dArc):=by
 refine FSpecR.intro fn.slices_Clone_Arc_Arc (by rfl) (by rfl) (nb9 (by rfl)) 2 rfl fun E hE=>(AW.sg hE rfl (asM rfl (OL.nil (AW.seq (AW.sg hE rfl (mvD rfl (isNil sl.Arcs.u rfl (fun y hy=>by obtain ⟨a,_,rfl⟩:=mm9 hy;exact Nat.succ_pos _) rfl fun b hb=>?_)))))))
 refine OL.nil (AW.cond rfl (fun h=>?_) (fun h=>?_))
 ·have hL:l=[]:=by have:=hb h;simpa using this
  subst hL
  exact AW.sg hE rfl (asM rfl (OL.nil (AW.own 2 99 T.Arc 11 rfl rfl (AW.ret ⟨.inr rfl,99,0,0,[],rfl,rfl,Nat.le_refl _,rfl⟩))))
 ·have _h:=h
  exact AW.skip (AW.sg hE rfl (lt0 sl.Arcs (mvD rfl (apM sl.Arcs rfl rfl (VC.d _) arcs_len (by simp;omega) (by simp;omega) rfl fun b7 c7=>(asO rfl (OL.nil (AW.ret ⟨.inr rfl,7,b7,c7,l.map dArc,by show V.osl 7 b7 (List.map dArc l).length c7=_;rw [lm9],rfl,by rw [lm9];exact Nat.le_refl _,List.take_of_length_le (by rw [lm9];exact Nat.le_refl _)⟩)))))))
def outA (S:List Arc9)(i:Nat):List Arc9:=(S.take i).foldl mergeA []
theorem outA_succ {S:List Arc9}{i:Nat}(hi:i<S.length):outA S (i+1)=mergeA (outA S i) (S.getD i default):=fold_take hi
theorem outA_all {S:List Arc9}{i:Nat}(hi:S.length≤i):outA S i=S.foldl mergeA []:=by unfold outA;rw [List.take_of_length_le hi]
theorem outA_len (S:List Arc9):∀ i,(outA S i).length≤i
 | 0=>Nat.le_refl _
 | i + 1 => by
  rcases Nat.lt_or_ge i S.length with h|h
  ·rw [outA_succ h]
   have:=mergeA_len (outA S i) (S.getD i default)
   have:=outA_len S i
   omega
  ·rw [outA_all (Nat.le_succ_of_le h),← outA_all h]
   have:=outA_len S i
   omega
theorem outA_sz {S:List Arc9}(hz:∀ x,x ∈ S→sz x.q≤134217728):∀ i,SumZ i (outA S i)
 | 0=>fun x hx=>by cases hx
 | i + 1 => by
  rcases Nat.lt_or_ge i S.length with h|h
  ·rw [outA_succ h]
   exact mergeA_sz (outA_sz hz i) (hz _ (getD_mem h default))
  ·rw [outA_all (Nat.le_succ_of_le h),← outA_all h]
   exact fun x hx=>Nat.le_trans (outA_sz hz i x hx) (Nat.mul_le_mul_right _ (Nat.le_succ _))
abbrev rAu (a:Au):V:=.ref [dI 1,.sl [],dI a.sym,dI a.st,dWs a.ini,dWs a.fin,dArcs a.arcs]
theorem indexW {l:List Rat}{f:Nat}{cap:V}{p:Rat→Bool}(hf:∀ x,x ∈ l→FSpec P f [vW x,cap] (.d (dB (p x))))(nl:l.length≤1099511627776):FSpec P F.slices_IndexFunc_Weight_Weight [.d (dWs l),.fn f [cap]] (.d (dI (idx1 p l))):=by
 refine FSpec.intro fn.slices_IndexFunc_Weight_Weight (by rfl) (by rfl) (nb9 (by rfl)) fun E hE=>(AW.sg hE rfl (asD rfl (OL.nil (AW.seq (AW.sg hE rfl (mvD rfl (lnL sl.Weights rfl rfl ?_)))))))
 refine mvD rfl (OL.nil (AW.block ?_))
 refine AW.whileK (α:=Nat) [(0,_),(1,_),(7,_)] [] (fun i=>[(8,.d (dI i))]) (fun i=>[]) (fun i=>i≤l.length∧∀ j,j<i→p (l.getD j 0)=false) (fun i=>l.length-i) 0 (.cons (knD rfl) (.cons (knF rfl) (.cons (knD rfl) .nil))) .nil ⟨⟨Nat.zero_le _,fun j hj=>by omega⟩,.rq1,.nil⟩ ?_
 rintro i ⟨h1,h2⟩
 refine AW.sg hE rfl (c_lss rfl rfl rfl (OL.nil (AW.seq (AW.cond rfl (fun h9=>?_) (fun h9=>?_)))))
 ·try simp only [dx9] at h9
  refine AW.skip (AW.seq (AW.block (AW.sg hE rfl (mvD rfl (asD rfl (OL.nil (AW.sg hE rfl ?_)))))))
  refine mvF rfl (mvD rfl (mvD rfl (ixLn sl.Weights 0 rfl rfl (by omega) rfl rfl (ldRA ag.Weight rfl (vs:=[_,_,_,_,_,_,_,_]) rfl (nb9 rfl) (clv rfl .rq2 (hf (l.getD i 0) (getD_mem (by omega) _)) (OL.nil (AW.cond rfl (fun h16=>?_) (fun h16=>?_))))))))
  ·have h16:=h16
   exact AW.sg hE rfl (mvD rfl (asD rfl (OL.nil (AW.ret (RetQ.r ⟨_,.tmp rfl .nil,.le (VLe.int ((idx1_found (by omega) 0 h16 h2).symm))⟩)))))
  ·have h16:=h16
   refine AW.skip (AW.rg hE rfl (add_i64 rfl rfl (by omega) (mvD rfl (OL.nil ?_))))
   exact AW.again (x:=i) (i+1) (by omega) ⟨⟨by omega,fun j hj=>by rcases Nat.lt_or_ge j i with h|h;exact h2 j h;obtain rfl:j=i:=(by omega);exact h16⟩,Knows.app .rq3 .rq1,.nil⟩
 ·try simp only [dx9] at h9
  exact AW.exit (AW.sg hE rfl (asD rfl (OL.nil (AW.ret (RetQ.r ⟨_,.tmp rfl .nil,.le (VLe.int ((idx1_none 0 fun j hj=>h2 j (by omega)).symm))⟩)))))
theorem containsW {l:List Rat}{f:Nat}{cap:V}{p:Rat→Bool}(hf:∀ x,x ∈ l→FSpec P f [vW x,cap] (.d (dB (p x))))(nl:l.length≤1099511627776):FSpec P F.slices_ContainsFunc_Weight_Weight [.d (dWs l),.fn f [cap]] (.d (dB (l.any p))):=by
 refine FSpec.intro fn.slices_ContainsFunc_Weight_Weight (by rfl) (by rfl) (nb9 (by rfl)) fun E hE=>(AW.sg hE rfl (asD rfl (OL.nil (AW.sg hE rfl (mvD rfl (mvF rfl (clv rfl vL (indexW hf nl) ?_)))))))
 exact c_geq rfl rfl rfl (asD rfl (OL.nil (AW.ret (RetQ.r ⟨_,.tmp rfl .nil,.le (VLe.bool (idx1_any p l))⟩))))
theorem weights_1 {q:Rat}(hz:sz q≤68719476736):FSpec P F.automaton_weights_1 [vW q,rRing] (.d (dB false)):=by
 refine FSpec.intro fn.automaton_weights_1 (by rfl) (by rfl) (nb9 (by rfl)) fun E hE=>(AW.sg hE rfl (bxA rfl rfl fun b2=>(asD rfl (OL.nil (AW.sg hE rfl (ldRA ag.Ring rfl (vs:=[_,_]) rfl (nb9 rfl) (ldPA ag.Weight rfl rfl (vs:=[_,_,_,_,_,_,_,_]) rfl (nb9 rfl) ?_)))))))
 exact clv rfl .rq2 (checkR hz) (nt rfl (asD rfl (OL.nil (AW.ret (RetQ.r ⟨_,.tmp rfl .nil,.le vR⟩)))))
theorem weightsA {l:List Rat}(hz:∀ x,x ∈ l→sz x≤68719476736)(nl:l.length≤1099511627776):FSpec P F.automaton_weights [vRing,.d (dWs l)] (.d (dB true)):=by
 refine FSpec.intro fn.automaton_weights (by rfl) (by rfl) (nb9 (by rfl)) fun E hE=>(AW.sg hE rfl (bxA rfl rfl fun b2=>(asD rfl (OL.nil (AW.seq (AW.freezeBox 2 [dI 1,.sl []] rfl (VCs.map_d [dI 1,.sl []]) (AW.to [(1,.d (dWs l)),(2,rRing),(4,.d (dB false))] [] (.cons vR (.cons (vle_of_eq (show V.frb 2 b2 [dI 1,.sl []] (.ptr 2 b2 0)=rRing from frb_self)) .rq1)) .nil ?_)))))))
 refine AW.rg hE rfl (mvD rfl (mkF (vs:=[_]) rfl (clv rfl vL (containsW (l:=l) (f:=F.automaton_weights_1) (cap:=rRing) (p:=fun _=>false) (fun x hx=>weights_1 (hz x hx)) nl) ?_)))
 rw [any_false fun x _=>rfl]
 exact nt rfl (asD rfl (OL.nil (AW.ret (RetQ.r ⟨_,.tmp rfl .nil,.le vR⟩))))
theorem inside_1 {a:Au}{v:Nat}(hv:v<a.st):FSpec P F.automaton_inside_1 [.d (dI v),rAu a] (.d (dB true)):=by
 refine FSpec.intro fn.automaton_inside_1 (by rfl) (by rfl) (nb9 (by rfl)) fun E hE=>(AW.sg hE rfl (asD rfl (OL.nil (AW.sg hE rfl (mvD rfl (c_geq rfl rfl (c:=true) (by exact decide_eq_true (by omega)) (mvD rfl ?_)))))))
 refine OL.yes rfl (mvD rfl (OL.yes rfl (faR fd.Auto_2 rfl rfl (OL.yes rfl (ldRC ce.int rfl (OL.yes rfl (c_lss rfl rfl (c:=true) (by exact decide_eq_true (by omega)) ?_)))))))
 exact pkT rfl rfl (asD rfl (OL.nil (AW.ret (RetQ.r ⟨_,.tmp rfl .nil,.le vR⟩))))
theorem insideA {a:Au}{x:Arc9}(hx:x.f<a.st∧x.t<a.st∧1≤x.l∧x.l≤a.sym)(hz:sz x.q≤68719476736):FSpec P F.automaton_inside [vArc x,vAu a] (.d (dB true)):=by
 refine FSpec.intro fn.automaton_inside (by rfl) (by rfl) (nb9 (by rfl)) fun E hE=>(AW.sg hE rfl (bxA rfl rfl fun b2=>(bxA rfl rfl fun b3=>(asD rfl (OL.nil (AW.seq (AW.freezeBox 3 [dI 1,.sl [],dI a.sym,dI a.st,dWs a.ini,dWs a.fin,dArcs a.arcs] rfl (VCs.map_d [dI 1,.sl [],dI a.sym,dI a.st,dWs a.ini,dWs a.fin,dArcs a.arcs]) ?_)))))))
 refine AW.to [(2,.ptr 2 b2 0),(3,rAu a),(4,.d (dB false))] [(2,.box b2 T.Arc (cellsArc x))] (.cons vR (.cons (vle_of_eq (show V.frb 3 b3 [dI 1,.sl [],dI a.sym,dI a.st,dWs a.ini,dWs a.fin,dArcs a.arcs] (.ptr 3 b3 0)=rAu a from frb_self)) .rq1)) (.cons rfl .nil) ?_
 refine AW.rg hE rfl (mkF (vs:=[_]) rfl (asF rfl (OL.nil (AW.sg hE rfl (mvF rfl (faP fd.Arc_0 rfl rfl (ldPC ce.int rfl rfl rfl ?_)))))))
 refine clv rfl vL (inside_1 (a:=a) (v:=x.f) hx.1) (mvD rfl (OL.yes rfl (mvF rfl (OL.yes rfl (faP fd.Arc_2 rfl rfl (OL.yes rfl (ldPC ce.int rfl rfl rfl ?_)))))))
 refine OL.yes rfl (clv rfl vL (inside_1 (a:=a) (v:=x.t) hx.2.1) (pkT rfl rfl (mvD rfl (OL.yes rfl (faP fd.Arc_1 rfl rfl (OL.yes rfl (ldPC ce.int rfl rfl rfl ?_)))))))
 refine OL.yes rfl (c_geq rfl rfl (c:=true) (by exact decide_eq_true (by omega)) (pkT rfl rfl (mvD rfl (OL.yes rfl (faP fd.Arc_1 rfl rfl (OL.yes rfl (ldPC ce.int rfl rfl rfl ?_)))))))
 refine OL.yes rfl (faR fd.Auto_1 rfl rfl (OL.yes rfl (ldRC ce.int rfl (OL.yes rfl (c_leq rfl rfl (c:=true) (by exact decide_eq_true (by omega)) (pkT rfl rfl (mvD rfl ?_)))))))
 refine OL.yes rfl (faR fd.Auto_0 rfl rfl (OL.yes rfl (ldRA ag.Ring rfl (vs:=[_,_]) rfl (nb9 rfl) (OL.yes rfl (faP fd.Arc_3 rfl rfl (OL.yes rfl (ldPA ag.Weight rfl rfl (vs:=[_,_,_,_,_,_,_,_]) rfl (nb9 rfl) ?_)))))))
 exact OL.yes rfl (clv rfl .rq2 (checkR hz) (pkT rfl rfl (asD rfl (OL.nil (AW.ret (RetQ.r ⟨_,.tmp rfl .nil,.le vR⟩))))))
theorem Valid_1 {a:Au}{x:Arc9}(hx:x.f<a.st∧x.t<a.st∧1≤x.l∧x.l≤a.sym)(hz:sz x.q≤68719476736):FSpec P F.automaton_Valid_1 [vArc x,rAu a] (.d (dB false)):=by
 refine FSpec.intro fn.automaton_Valid_1 (by rfl) (by rfl) (nb9 (by rfl)) fun E hE=>(AW.sg hE rfl (bxA rfl rfl fun b2=>(asD rfl (OL.nil (AW.sg hE rfl (ldPA ag.Arc rfl rfl (vs:=[_,_,_,_,_,_,_,_,_,_,_]) rfl (nb9 rfl) (ldRA ag.Auto rfl (vs:=[_,_,_,_,_,_,_]) rfl (nb9 rfl) ?_)))))))
 exact clv rfl .rq2 (insideA hx hz) (nt rfl (asD rfl (OL.nil (AW.ret (RetQ.r ⟨_,.tmp rfl .nil,.le vR⟩)))))
end Go.Proofs.YteiohkpjgcioaaaGreatDoor
