/-
  Walks of package hmm, part 1: numbers, lists (printed by mk2.py).
-/
import Derived.Test.YteiohkpjgcioaaaGreatDoorKRefC
import Derived.Test.YteiohkpjgcioaaaGreatDoorKNumb
set_option linter.unusedVariables false
set_option linter.unusedSimpArgs false
namespace Go.Proofs.YteiohkpjgcioaaaGreatDoor
open Go Go.AL
theorem rational_AddQ {x y:Rat}(hx:sz x≤68719476736)(hy:sz y≤68719476736):FSpec P F.rational_Add [vQ x,vQ y] (vQ (x+y)):=by
 have h:=rational_Add (x:=ofQ x) (y:=ofQ y) (ofQ_ok (by omega)) (ofQ_ok (by omega))
 rw [q_ofQ,q_ofQ] at h;exact h
theorem rational_MulQ {x y:Rat}(hx:sz x≤68719476736)(hy:sz y≤68719476736):FSpec P F.rational_Mul [vQ x,vQ y] (vQ (x*y)):=by
 have h:=rational_Mul (x:=ofQ x) (y:=ofQ y) (ofQ_ok (by omega)) (ofQ_ok (by omega))
 rw [q_ofQ,q_ofQ] at h;exact h
theorem rational_SignQ {x:Rat}(hx:sz x≤68719476736):FSpec P F.rational_Sign [vQ x] (.d (dI (sgnQ x))):=by
 have h:=rational_Sign (x:=ofQ x) (ofQ_ok (by omega))
 rw [q_ofQ] at h;exact h
theorem rational_CompareQ {x y:Rat}(hx:sz x≤68719476736)(hy:sz y≤68719476736):FSpec P F.rational_Compare [vQ x,vQ y] (.d (dI (cmpQ x y))):=by
 have h:=rational_Compare (x:=ofQ x) (y:=ofQ y) (ofQ_sm hx) (ofQ_sm hy)
 rw [q_ofQ,q_ofQ] at h;exact h
theorem rational_ValidQ {x:Rat}(hx:sz x≤274877906944):FSpec P F.rational_Valid [vQ x] (.d (dB true)):=by
 have h:=rational_Valid (r:=ofQ x) (ofQ_ok hx)
 rw [ofQ_good] at h;exact h
theorem rational_MakeQ {n d:Int}(hn:-9223372036854775808≤n∧n≤9223372036854775807)(hd:-9223372036854775808≤d∧d≤9223372036854775807)(h0:d≠0) :
  FSpec P F.rational_Make [.d (dI n),.d (dI d)] (.tup [vQ ((n:Rat) / (d:Rat)),.d (dI 0)]):=rational_Make hn hd h0
theorem q11:((1:Int):Rat) / ((1:Int):Rat)=1:=by show (1:Rat) / 1=1;grind
theorem z1K:sz 1≤68719476736:=by rw [sz_one];decide
theorem z0K:sz 0≤68719476736:=by rw [sz_zero];decide
theorem hmm_one  : FSpec P F.hmm_one [] (vQ 1):=by
 refine FSpec.intro fn.hmm_one (by rfl) (by rfl) (nb9 (by rfl)) fun E hE=>(AW.sg hE rfl (al z.Rat rfl fun b0=>(OL.nil (AW.sg hE rfl (clv rfl .rq2 (rational_MakeQ (n:=1) (d:=1) (by decide) (by decide) (by decide)) ?_)))))
 rw [q11]
 refine mvT rfl (ex rfl rfl (ex rfl rfl (al z.Rat rfl fun b1=>(sto sz.Rat rfl rfl rfl rfl rfl (nb9 rfl) (cells2:=[_,_,_]) rfl (asD rfl (OL.nil (AW.sg hE rfl ?_)))))))
 exact ldPA ag.Rat rfl rfl (vs:=[_,_,_]) rfl (nb9 rfl) (sto sz.Rat rfl rfl rfl rfl rfl (nb9 rfl) (cells2:=[_,_,_]) rfl (OL.nil (AW.ret (RetQ.r ⟨_,.cellA rfl rfl ag.Rat (nb9 rfl) .nil,.ag (.cons (.le vR) (.cons (.le vR) (.cons (.le vR) .nil)))⟩))))
theorem hmm_share {q:Rat}(hz:sz q≤68719476736):FSpec P F.hmm_share [vQ q] (.d (dB (decide (Share q)))):=by
 have h1K:=z1K
 refine FSpec.intro fn.hmm_share (by rfl) (by rfl) (nb9 (by rfl)) fun E hE=>(AW.sg hE rfl (bxA rfl rfl fun b1=>(asD rfl (OL.nil (AW.seq (AW.dg 1 [0,1,2,3,4,5,6,7,8,9,10,11,12,13] order_free hE rfl (by kernel_rfl) (OI.of_OL (os:=[_,_,_,_,_,_,_,_,_,_,_,_,_,_]) rfl ?_)))))))
 refine ldPA ag.Rat rfl rfl (vs:=[_,_,_]) rfl (nb9 rfl) (clv rfl .rq1 (rational_ValidQ (by omega)) (mvD rfl (OL.yes rfl (ldPA ag.Rat rfl rfl (vs:=[_,_,_]) rfl (nb9 rfl) (OL.yes rfl (clv rfl .rq1 (rational_SignQ (by assumption)) (OL.yes rfl ?_)))))))
 refine c_geq rfl rfl rfl (pkT rfl rfl (mvD rfl (OL.split 10 rfl (fun g=>?_) (fun g=>?_))))
 ·have g:0≤q:=sgnQ_nonneg.1 (dt9 g)
  refine OL.yes rfl (ldPA ag.Rat rfl rfl (vs:=[_,_,_]) rfl (nb9 rfl) (OL.yes rfl (clv rfl (.nil) (hmm_one) (OL.yes rfl (clv rfl .rq2 (rational_CompareQ (by assumption) (by assumption)) (OL.yes rfl (c_leq rfl rfl rfl ?_)))))))
  exact pkT rfl rfl (asD rfl (OL.nil (AW.ret (RetQ.r ⟨_,.tmp rfl .nil,.le (VLe.bool (decide_eq_decide.2 ⟨fun h=>⟨g,cmpQ_le.1 h⟩,fun h=>cmpQ_le.2 h.2⟩))⟩))))
 ·have g:¬ 0≤q:=fun e=>df9 g (sgnQ_nonneg.2 e)
  exact OL.nd rfl (OL.nd rfl (OL.nd rfl (OL.nd rfl (pkF rfl rfl (asD rfl (OL.nil (AW.ret (RetQ.r ⟨_,.tmp rfl .nil,.le (VLe.bool ((decide_eq_false fun h=>g h.1).symm))⟩))))))))
theorem hmm_share_ok {q:Rat}(hq:Share q)(hz:sz q≤68719476736):FSpec P F.hmm_share [vQ q] (.d (dB true)):=by
 have h:=hmm_share hz
 rw [decide_eq_true hq] at h;exact h
theorem hmm_shares_1 {q:Rat}(hz:sz q≤68719476736):FSpec P F.hmm_shares_1 [vQ q] (.d (dB (!decide (Share q)))):=by
 refine FSpec.intro fn.hmm_shares_1 (by rfl) (by rfl) (nb9 (by rfl)) fun E hE=>(AW.sg hE rfl (bxA rfl rfl fun b1=>(asD rfl (OL.nil (AW.sg hE rfl (ldPA ag.Rat rfl rfl (vs:=[_,_,_]) rfl (nb9 rfl) (clv rfl .rq1 (hmm_share (by assumption)) ?_)))))))
 exact nt rfl (asD rfl (OL.nil (AW.ret (RetQ.r ⟨_,.tmp rfl .nil,.le vR⟩))))
theorem index_Rats {l:List Rat}{f:Nat}{p:Rat→Bool}(hf:∀ q,q ∈ l→FSpec P f [vQ q] (.d (dB (p q))))(nl:l.length≤1099511627776):FSpec P F.slices_IndexFunc_Rats_Rat [.d (dQs l),.fn f []] (.d (dI (idx1 p l))):=by
 refine FSpec.intro fn.slices_IndexFunc_Rats_Rat (by rfl) (by rfl) (nb9 (by rfl)) fun E hE=>(AW.sg hE rfl (asD rfl (OL.nil (AW.seq (AW.sg hE rfl (mvD rfl (lnL sl.Rats rfl rfl ?_)))))))
 refine mvD rfl (OL.nil (AW.block ?_))
 refine AW.whileK (α:=Nat) [(0,_),(1,_),(7,_)] [] (fun i=>[(8,.d (dI i))]) (fun i=>[]) (fun i=>i≤l.length∧∀ j,j<i→p (l.getD j 0)=false) (fun i=>l.length-i) 0 (.cons (knD rfl) (.cons (knF rfl) (.cons (knD rfl) .nil))) .nil ⟨⟨Nat.zero_le _,fun j hj=>by omega⟩,.rq1,.nil⟩ ?_
 rintro i ⟨h1,h2⟩
 refine AW.sg hE rfl (c_lss rfl rfl rfl (OL.nil (AW.seq (AW.cond rfl (fun h9=>?_) (fun h9=>?_)))))
 ·try simp only [dx9] at h9
  refine AW.skip (AW.seq (AW.block (AW.sg hE rfl (mvD rfl (asD rfl (OL.nil (AW.sg hE rfl ?_)))))))
  refine mvF rfl (mvD rfl (mvD rfl (ixLn sl.Rats 0 rfl rfl (by omega) rfl rfl (ldRA ag.Rat rfl (vs:=[_,_,_]) rfl (nb9 rfl) (clv rfl .rq1 (hf (l.getD i 0) (getD_mem (by omega) _)) (OL.nil (AW.cond rfl (fun h16=>?_) (fun h16=>?_))))))))
  ·have h16:=h16
   exact AW.sg hE rfl (mvD rfl (asD rfl (OL.nil (AW.ret (RetQ.r ⟨_,.tmp rfl .nil,.le (VLe.int ((idx1_found (by omega) 0 h16 h2).symm))⟩)))))
  ·have h16:=h16
   refine AW.skip (AW.rg hE rfl (add_i64 rfl rfl (by omega) (mvD rfl (OL.nil ?_))))
   exact AW.again (x:=i) (i+1) (by omega) ⟨⟨by omega,fun j hj=>by rcases Nat.lt_or_ge j i with h|h;exact h2 j h;obtain rfl:j=i:=(by omega);exact h16⟩,Knows.app .rq3 .rq1,.nil⟩
 ·try simp only [dx9] at h9
  exact AW.exit (AW.sg hE rfl (asD rfl (OL.nil (AW.ret (RetQ.r ⟨_,.tmp rfl .nil,.le (VLe.int ((idx1_none 0 fun j hj=>h2 j (by omega)).symm))⟩)))))
theorem contains_Rats {l:List Rat}{f:Nat}{p:Rat→Bool}(hf:∀ q,q ∈ l→FSpec P f [vQ q] (.d (dB (p q))))(nl:l.length≤1099511627776):FSpec P F.slices_ContainsFunc_Rats_Rat [.d (dQs l),.fn f []] (.d (dB (l.any p))):=by
 refine FSpec.intro fn.slices_ContainsFunc_Rats_Rat (by rfl) (by rfl) (nb9 (by rfl)) fun E hE=>(AW.sg hE rfl (asD rfl (OL.nil (AW.sg hE rfl (mvD rfl (mvF rfl (clv rfl .rq2 (index_Rats hf nl) ?_)))))))
 exact c_geq rfl rfl rfl (asD rfl (OL.nil (AW.ret (RetQ.r ⟨_,.tmp rfl .nil,.le (VLe.bool (idx1_any p l))⟩))))
theorem hmm_shares_ok {l:List Rat}{B:Nat}(hs:Shares l)(hz:Small B l)(hB:B≤1048576∧l.length≤1099511627776):FSpec P F.hmm_shares [.d (dQs l)] (.d (dB true)):=by
 refine FSpec.intro fn.hmm_shares (by rfl) (by rfl) (nb9 (by rfl)) fun E hE=>(AW.sg hE rfl (asD rfl (OL.nil (AW.sg hE rfl (mvD rfl (clv rfl .rq2 (contains_Rats (f:=F.hmm_shares_1) (p:=fun q=>!decide (Share q)) (fun q hq=>hmm_shares_1 (Nat.le_trans (hz q hq) (by omega))) hB.2) ?_))))))
 rw [any_false fun x hx=>by simp [hs x hx]]
 exact nt rfl (asD rfl (OL.nil (AW.ret (RetQ.r ⟨_,.tmp rfl .nil,.le vR⟩))))
theorem grow_Rats {n:Nat}(hn:n≤1099511627776):FSpecR P F.slices_Grow_Rats_Rat [.mt,.d (dI n)] 0 T.Rat 3 []:=by
 refine FSpecR.intro fn.slices_Grow_Rats_Rat (by rfl) (by rfl) (nb9 (by rfl)) 4 rfl fun E hE=>(AW.sg hE rfl (asM rfl (OL.nil (AW.seq (AW.sg hE rfl (mvD rfl (c_lss rfl rfl rfl ?_)))))))
 refine OL.nil (AW.cond rfl (fun hno=>absurd hno (by simp)) (fun _=>?_))
 refine AW.skip (AW.seq (AW.sg hE rfl (mvD rfl (mvM rfl (OL.pure (.capM rfl rfl sl.Rats) (mvM rfl (lnM sl.Rats rfl rfl ?_)))))))
 refine sub_i64 rfl rfl (by omega) (sub_i64 rfl rfl (by omega) (asD rfl (OL.nil (AW.sg hE rfl (mvD rfl (c_gtr rfl rfl rfl (OL.nil ?_)))))))
 refine AW.cond rfl (fun h16=>?_) (fun h16=>?_)
 ·try simp only [dx9] at h16
  refine AW.rg hE rfl (mvM rfl (mvM rfl (OL.pure (.capM rfl rfl sl.Rats) (OL.pure (v:=.mt) (.cutM rfl sl.Rats rfl ⟨.i64,rfl⟩) (mvD rfl (apZ (n:=n) sl.Rats it.int rfl rfl (by show V.d (D.sc (Value.int IntKind.i64 _))=_;congr 3) (by omega) (by omega) (by omega) rfl fun b c=>(mvM rfl ?_)))))))
  refine lnM sl.Rats rfl rfl (slO (h:=0) sl.Rats rfl rfl (Nat.zero_le _) (asO rfl (OL.nil (AW.sg hE rfl (mvO rfl (asO rfl (OL.nil ?_)))))))
  exact AW.ret ⟨.inr rfl,22,b,c,[],rfl,rfl,Nat.le_refl _,rfl⟩
 ·have h16:=h16
  exact AW.own 0 99 T.Rat 3 rfl rfl (AW.skip (AW.sg hE rfl (mvO rfl (asO rfl (OL.nil (AW.ret ⟨.inr rfl,99,0,0,[],rfl,rfl,Nat.le_refl _,rfl⟩))))))
theorem concat_Rats {L:List (List Rat)}(nL:L.length≤1099511627776)(nF:L.flatten.length≤68719476736):FSpec P F.slices_Concat_Rats_Rat [.d (dQss L)] (.d (dQs L.flatten)):=by
 refine FSpec.intro fn.slices_Concat_Rats_Rat (by rfl) (by rfl) (nb9 (by rfl)) fun E hE=>(AW.sg hE rfl (asM rfl (OL.nil (AW.sg hE rfl (asD rfl (OL.nil (AW.seq ?_)))))))
 refine AW.sg hE rfl (mvD rfl (lnL sl.Ratss rfl rfl (mvD rfl (OL.nil (AW.block ?_)))))
 refine AW.whileK (α:=Nat) [(0,_),(2,_),(9,_),(10,_)] [] (fun i=>[(3,.d (dI (L.take i).flatten.length)),(11,.d (dI i))]) (fun i=>[]) (fun i=>i≤L.length) (fun i=>L.length-i) 0 (.cons (knD rfl) (.cons (knM rfl) (.cons (knD rfl) (.cons (knD rfl) .nil)))) .nil ⟨Nat.zero_le _,.rq2,.nil⟩ ?_
 intro i h1
 refine AW.sg hE rfl (c_lss rfl rfl rfl (OL.nil (AW.seq (AW.cond rfl (fun h12=>?_) (fun h12=>?_)))))
 ·try simp only [dx9] at h12
  refine AW.skip (AW.seq (AW.block (AW.sg hE rfl (ixLn sl.Ratss [] rfl rfl (by omega) rfl rfl (ldRC ce.Rats rfl (asD rfl (OL.nil ?_)))))))
  refine AW.seq ?_
  have hle:=flatten_take_le (L:=L) (i+1)
  rw [flatten_take_succ (by omega),la9] at hle
  refine AW.rg hE rfl (mvD rfl (mvD rfl (lnL sl.Rats rfl rfl (add_i64 rfl rfl (by omega) (asD rfl (OL.nil (AW.sg hE rfl ?_)))))))
  refine mvD rfl (c_lss rfl rfl rfl (OL.nil (AW.cond rfl (fun hno=>absurd hno (by simp;omega)) (fun _=>?_))))
  refine AW.skip (AW.rg hE rfl (add_i64 rfl rfl (by omega) (mvD rfl (OL.nil ?_))))
  exact AW.again (x:=i) (i+1) (by omega) ⟨by omega,Knows.app .rq4 (.cons (VLe.int (by rw [flatten_take_succ (by omega),la9];omega)) .rq1),.nil⟩
 ·try simp only [dx9] at h12
  refine AW.exit (AW.seq ?_)
  obtain rfl:i=L.length:=by omega
  rw [List.take_length]
  refine AW.rg hE rfl (mvD rfl (clR rfl .rq2 (grow_Rats (n:=L.flatten.length) (by omega)) rfl fun b24 c24=>(asO rfl (OL.nil (AW.seq (AW.sg hE rfl (mvD rfl ?_)))))))
  refine lnL sl.Ratss rfl rfl (mvD rfl (OL.nil (AW.block (AW.rename 24 33 rfl ?_))))
  refine AW.whileK (α:=Nat × Nat × Nat) [(2,_),(25,_),(26,_)] [] (fun (i,b,c)=>[(6,.osl 33 b (L.take i).flatten.length c),(27,.d (dI i))]) (fun (i,b,c)=>[(33,.row b c T.Rat 3 ((L.take i).flatten.map dQ))]) (fun (i,b,c)=>i≤L.length) (fun (i,b,c)=>L.length-i) (0,b24,c24) (.cons (knM rfl) (.cons (knD rfl) (.cons (knD rfl) .nil))) .nil ⟨Nat.zero_le _,.cons (VLe.osl) .rq1,.cons rfl .nil⟩ ?_
  rintro ⟨i,b,c⟩ h1
  refine AW.sg hE rfl (c_lss rfl rfl rfl (OL.nil (AW.seq (AW.cond rfl (fun h28=>?_) (fun h28=>?_)))))
  ·try simp only [dx9] at h28
   refine AW.skip (AW.seq (AW.block (AW.sg hE rfl (ixLn sl.Ratss [] rfl rfl (by omega) rfl rfl (ldRC ce.Rats rfl (asD rfl (OL.nil ?_)))))))
   have hle:=flatten_take_le (L:=L) (i+1)
   rw [flatten_take_succ (by omega),la9] at hle
   refine AW.rg hE rfl (mvO rfl (mvD rfl ?_))
   refine apO sl.Rats rfl rfl rfl (by rw [lm9]) (VC.d _) dQ_len (by rw [lm9];omega) (by rw [lm9];omega) (.inr rfl) (ys:=((L.take i).flatten++L.getD i []).map dQ) (by rw [List.map_append]) (n2:=((L.take i).flatten++L.getD i []).length) (by rw [lm9,la9]) fun b2 c2=>?_
   refine asO rfl (OL.nil (AW.rg hE rfl (add_i64 rfl rfl (by omega) (mvD rfl (OL.nil ?_)))))
   exact AW.again (x:=(i,b,c)) (i+1,b2,c2) (by (simp only [];omega)) ⟨by omega,Knows.app .rq3 (.cons (by rw [flatten_take_succ (by omega)];exact VLe.refl _) .rq1),.cons (by rw [flatten_take_succ (by omega)];rfl) .nil⟩
  ·try simp only [dx9] at h28
   refine AW.exit (AW.seq ?_)
   obtain rfl:i=L.length:=by omega
   refine AW.freeze 33 rfl (AW.to [(6,.d (dQs L.flatten))] [] (.cons (frz_osl (by rw [lm9]) (by rw [List.take_length])) .nil) .nil ?_)
   exact AW.rg hE rfl (mvD rfl (asD rfl (OL.nil (AW.ret (RetQ.r ⟨_,.tmp rfl .nil,.le vR⟩)))))
theorem hmm_whole {l m:List Rat}{B:Nat}(hl:Small B l)(hm:Small B m)(hB:B≤1048576∧l.length+m.length≤1024):FSpec P F.hmm_whole [.d (dQs l),.d (dQs m)] (.d (dB (decide (sumQ (l++m)=1)))):=by
 have h1K:=z1K
 have hlm:=hl.app hm
 have hlen:(l++m).length≤1024:=by rw [la9];omega
 refine FSpec.intro fn.hmm_whole (by rfl) (by rfl) (nb9 (by rfl)) fun E hE=>(AW.sg hE rfl (asD rfl (OL.nil (AW.sg hE rfl (bd z.Rat pl.Rat (cs:=[_,_,_]) rfl (al z.Rat rfl fun b5=>(sto sz.Rat rfl rfl rfl rfl rfl (nb9 rfl) (cells2:=[_,_,_]) rfl ?_)))))))
 refine OL.nil (AW.seq (AW.sg hE rfl (mvD rfl (mvD rfl (lt2 sl.Ratss (VC.d _).vd (VC.d _).vd ⟨rfl,rfl⟩ (by decide) (clv rfl .rq1 (concat_Rats (L:=[l,m]) (by simp) (by simp;omega)) ?_))))))
 rw [show List.flatten [l,m]=l++m by simp]
 refine lnL sl.Rats rfl rfl (mvD rfl (OL.nil (AW.block (AW.boxW 5 (cellsQ 0) rfl vles_q ?_))))
 refine AW.whileK (α:=Nat) [(4,_),(5,_),(12,_),(13,_)] [] (fun i=>[(14,.d (dI i))]) (fun i=>[(5,.box b5 T.Rat (cellsQ (sumQ ((l++m).take i))))]) (fun i=>i≤(l++m).length) (fun i=>(l++m).length-i) 0 (.cons (knD rfl) (.cons (knP rfl) (.cons (knD rfl) (.cons (knD rfl) .nil)))) .nil ⟨Nat.zero_le _,.rq1,.cons rfl .nil⟩ ?_
 intro i h1
 refine AW.sg hE rfl (c_lss rfl rfl rfl (OL.nil (AW.seq (AW.cond rfl (fun h15=>?_) (fun h15=>?_)))))
 ·try simp only [dx9] at h15
  refine AW.skip (AW.seq (AW.block (AW.sg hE rfl (ixLn sl.Rats 0 rfl rfl (by omega) rfl rfl (ldRA ag.Rat rfl (vs:=[_,_,_]) rfl (nb9 rfl) (al z.Rat rfl fun b7=>(sto sz.Rat rfl rfl rfl rfl rfl (nb9 rfl) (cells2:=[_,_,_]) rfl ?_)))))))
  refine OL.nil ?_
  have hs:=sumQ_szB (hlm.take i) (by rw [List.length_take,la9];omega) hB.1
  have hx:=(hlm.mono (Nat.le_max_left B 1)).get (Nat.le_max_right B 1) i
  refine AW.rg hE rfl (ldPA ag.Rat rfl rfl (vs:=[_,_,_]) rfl (nb9 rfl) (ldPA ag.Rat rfl rfl (vs:=[_,_,_]) rfl (nb9 rfl) (clv rfl .rq2 (rational_AddQ (by omega) (by omega)) (sto sz.Rat rfl rfl rfl rfl rfl (nb9 rfl) (cells2:=[_,_,_]) rfl (OL.nil (AW.rg hE rfl (add_i64 rfl rfl (by omega) ?_)))))))
  exact mvD rfl (OL.nil (AW.again (x:=i) (i+1) (by omega) ⟨by omega,Knows.app .rq4 .rq1,.cons (by rw [sumQ_take_succ (by omega)];rfl) .nil⟩))
 ·try simp only [dx9] at h15
  refine AW.exit (AW.seq ?_)
  obtain rfl:i=(l++m).length:=by omega
  rw [List.take_length]
  have hs:=sumQ_szB hlm (by rw [la9];omega) hB.1
  refine AW.dg 1 [0,1,2,3,4] order_free hE rfl (by kernel_rfl) (OI.of_OL (os:=[_,_,_,_,_]) rfl ?_)
  exact ldPA ag.Rat rfl rfl (vs:=[_,_,_]) rfl (nb9 rfl) (clv rfl (.nil) (hmm_one) (clv rfl .rq2 (rational_CompareQ (by omega) (by assumption)) (c_eql rfl rfl rfl (asD rfl (OL.nil (AW.ret (RetQ.r ⟨_,.tmp rfl .nil,.le (VLe.bool (decide_eq_decide.2 cmpQ_eq))⟩)))))))
end Go.Proofs.YteiohkpjgcioaaaGreatDoor
