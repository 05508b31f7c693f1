/-
  Walks of package equal, part 1: the checks (printed by mk2.py).
-/
import Derived.Test.YtmcoihfkniccdaaGreatDoorKMod83
import Derived.Test.YtmcoihfkniccdaaGreatDoorKMod85
set_option linter.unusedVariables false
set_option linter.unusedSimpArgs false
namespace Go.Proofs.YtmcoihfkniccdaaGreatDoor
open Go Go.AL
theorem take_snoc {α:Type}{l:List α}{i:Nat}(d:α)(hi:i<l.length):l.take (i+1)=l.take i++[l.getD i d]:=by
 rw [List.take_succ_eq_append_getElem hi,gd9,ge9 hi];rfl
def normOf (a:Au):Au:={ a with arcs:=tidyA a.arcs }
theorem normOf_lab {a:Au}(h:a.Ok):∀ x,x ∈ (normOf a).arcs→1≤x.l:=PlaceA.tidy (p:=fun _ l _=>1≤l) fun x hx=>(h.arc x hx).2.2.1
theorem tidyA_len (l:List Arc9):(tidyA l).length≤l.length:=by
 unfold tidyA nzA
 refine Nat.le_trans (List.length_filter_le ..) ?_
 have h:=outA_len (sortA l) (sortA l).length
 unfold outA at h
 rw [List.take_length] at h
 have:(sortA l).length=l.length:=sortG_len ..
 omega
abbrev dAu (a:Au):D:=.ag [dI 1,.sl [],dI a.sym,dI a.st,dWs a.ini,dWs a.fin,dArcs a.arcs]
theorem indexAc {l:List Arc9}{f:Nat}{caps:List V}{p:Arc9→Bool}(hf:∀ x,x ∈ l→FSpec P f (vArc x::caps) (.d (dB (p x))))(nl:l.length≤1099511627776):FSpec P F.slices_IndexFunc_Arc_Arc [.d (dArcs l),.fn f caps] (.d (dI (idx1 p l))):=by
 refine FSpec.intro fn.slices_IndexFunc_Arc_Arc (by rfl) (by rfl) (nb9 (by rfl)) fun E hE=>(AW.sg hE rfl (asD rfl (OL.nil (AW.seq (AW.sg hE rfl (mvD rfl (lnL sl.Arcs rfl rfl ?_)))))))
 refine mvD rfl (OL.nil (AW.block ?_))
 refine AW.whileK (α:=Nat) [(0,_),(1,_),(7,_)] [] (fun i=>[(8,.d (dI i))]) (fun i=>[]) (fun i=>i≤l.length∧∀ j,j<i→p (l.getD j default)=false) (fun i=>l.length-i) 0 (.cons (knD rfl) (.cons (knF rfl) (.cons (knD rfl) .nil))) .nil ⟨⟨Nat.zero_le _,fun j hj=>by omega⟩,.rq1,.nil⟩ ?_
 rintro i ⟨h1,h2⟩
 refine AW.sg hE rfl (c_lss rfl rfl rfl (OL.nil (AW.seq (AW.cond rfl (fun h9=>?_) (fun h9=>?_)))))
 ·try simp only [dx9] at h9
  refine AW.skip (AW.seq (AW.block (AW.sg hE rfl (mvD rfl (asD rfl (OL.nil (AW.sg hE rfl ?_)))))))
  refine mvF rfl (mvD rfl (mvD rfl (ixLn sl.Arcs default rfl rfl (by omega) rfl rfl (ldRA ag.Arc rfl (vs:=[_,_,_,_,_,_,_,_,_,_,_]) rfl (nb9 rfl) (clv rfl (.cons vR vL) (hf (l.getD i default) (getD_mem (by omega) _)) (OL.nil (AW.cond rfl (fun h16=>?_) (fun h16=>?_))))))))
  ·have h16:=h16
   exact AW.sg hE rfl (mvD rfl (asD rfl (OL.nil (AW.ret (RetQ.r ⟨_,.tmp rfl .nil,.le (VLe.int ((idx1_found (by omega) default h16 h2).symm))⟩)))))
  ·have h16:=h16
   refine AW.skip (AW.rg hE rfl (add_i64 rfl rfl (by omega) (mvD rfl (OL.nil ?_))))
   exact AW.again (x:=i) (i+1) (by omega) ⟨⟨by omega,fun j hj=>by rcases Nat.lt_or_ge j i with h|h;exact h2 j h;obtain rfl:j=i:=(by omega);exact h16⟩,Knows.app .rq3 .rq1,.nil⟩
 ·try simp only [dx9] at h9
  exact AW.exit (AW.sg hE rfl (asD rfl (OL.nil (AW.ret (RetQ.r ⟨_,.tmp rfl .nil,.le (VLe.int ((idx1_none default fun j hj=>h2 j (by omega)).symm))⟩)))))
theorem containsAc {l:List Arc9}{f:Nat}{caps:List V}{p:Arc9→Bool}(hf:∀ x,x ∈ l→FSpec P f (vArc x::caps) (.d (dB (p x))))(nl:l.length≤1099511627776):FSpec P F.slices_ContainsFunc_Arc_Arc [.d (dArcs l),.fn f caps] (.d (dB (l.any p))):=by
 refine FSpec.intro fn.slices_ContainsFunc_Arc_Arc (by rfl) (by rfl) (nb9 (by rfl)) fun E hE=>(AW.sg hE rfl (asD rfl (OL.nil (AW.sg hE rfl (mvD rfl (mvF rfl (clv rfl vL (indexAc hf nl) ?_)))))))
 exact c_geq rfl rfl rfl (asD rfl (OL.nil (AW.ret (RetQ.r ⟨_,.tmp rfl .nil,.le (VLe.bool (idx1_any p l))⟩))))
theorem CopyR {l:List Rat}(nl:l.length≤64)(hz:∀ x,x ∈ l→sz x≤134217728):FSpec P F.automaton_Copy [vRing,.d (dWs l)] (.d (dWs l)):=by
 refine FSpec.intro fn.automaton_Copy (by rfl) (by rfl) (nb9 (by rfl)) fun E hE=>(AW.sg hE rfl (bxA rfl rfl fun b2=>(asM rfl (OL.nil (AW.sg hE rfl (asM rfl (OL.nil ?_)))))))
 refine AW.seq (AW.seq (AW.own 5 21 T.Weight 8 rfl rfl (AW.rg hE rfl (mvD rfl (lnL sl.Weights rfl rfl (mvD rfl (OL.nil ?_)))))))
 refine AW.block ?_
 refine AW.whileK (α:=Nat × Nat × Nat) [(2,_),(4,_),(8,_),(9,_)] [(2,_)] (fun (i,bq,cq)=>[(5,.osl 21 bq i cq),(10,.d (dI i))]) (fun (i,bq,cq)=>[(21,.row bq cq T.Weight 8 ((l.take i).map dW))]) (fun (i,bq,cq)=>i≤l.length) (fun (i,bq,cq)=>l.length-i) (0,0,0) (.cons (knP rfl) (.cons (knM rfl) (.cons (knD rfl) (.cons (knD rfl) .nil)))) (.cons (owB rfl) .nil) ⟨Nat.zero_le _,.rq2,.cons rfl .nil⟩ ?_
 rintro ⟨i,bq,cq⟩ h1
 have h1:i≤l.length:=h1
 refine AW.sg hE rfl (c_lss rfl rfl rfl (OL.nil (AW.seq (AW.cond rfl (fun h11=>?_) (fun h11=>?_)))))
 ·try simp only [dx9] at h11
  refine AW.skip (AW.seq (AW.block (AW.seq ?_)))
  have hx:=hz (l.getD i 0) (getD_mem (by omega) 0)
  refine AW.rg hE rfl (ixLn sl.Weights 0 rfl rfl (by omega) rfl rfl (ldRA ag.Weight rfl (vs:=[_,_,_,_,_,_,_,_]) rfl (nb9 rfl) (al z.Weight rfl fun b7=>(sto sz.Weight rfl rfl rfl rfl rfl (nb9 rfl) (cells2:=[_,_,_,_,_,_,_,_]) rfl (OL.nil (AW.dg 2 [0,1,2,3,4,5,6,7,8] order_free hE rfl (by kernel_rfl) (OI.of_OL (os:=[_,_,_,_,_,_,_,_,_]) rfl ?_)))))))
  refine mvO rfl (ldPA ag.Ring rfl rfl (vs:=[_,_]) rfl (nb9 rfl) (ldPA ag.Weight rfl rfl (vs:=[_,_,_,_,_,_,_,_]) rfl (nb9 rfl) (ldPA ag.Ring rfl rfl (vs:=[_,_]) rfl (nb9 rfl) (clv rfl vL (ZeroR) (clv rfl vL (PlusR (p:=(l.getD i 0)) (q:=0) (by omega) z0K) ?_)))))
  rw [Rat.add_zero]
  refine lt1 (y:=dW (l.getD i 0)) sl.Weights vd_w rfl (by decide) ?_
  refine apO sl.Weights rfl rfl rfl (by rw [lm9,List.length_take];omega) (VC.d _) (fun y hy=>by rw [ms9 hy];rfl) (by simp;omega) (by simp;omega) (.inr rfl) (ys:=(l.take (i+1)).map dW) (by rw [take_snoc 0 (show i<l.length by omega),List.map_append];rfl) (n2:=i+1) rfl fun b2 c2=>?_
  refine asO rfl (OL.nil (AW.rg hE rfl (add_i64 rfl rfl (by omega) (mvD rfl (OL.nil ?_)))))
  exact AW.again (x:=(i,bq,cq)) (i+1,b2,c2) (by (simp only [];omega)) ⟨by omega,Knows.app .rq4 .rq2,Owns.app (.cons rfl .nil) (.cons rfl .nil)⟩
 ·try simp only [dx9] at h11
  refine AW.exit (AW.seq ?_)
  obtain rfl:i=l.length:=by omega
  refine AW.freeze 21 rfl (AW.to [(5,.d (dWs l))] [] (.cons (frz_osl (by rw [lm9,List.length_take,Nat.min_self]) (by rw [List.take_length])) .nil) .nil ?_)
  exact AW.rg hE rfl (mvD rfl (asD rfl (OL.nil (AW.ret (RetQ.r ⟨_,.tmp rfl .nil,.le vR⟩)))))
theorem ringR  : FSpec P F.automaton_ring [vRing] (vRing):=by
 refine FSpec.intro fn.automaton_ring (by rfl) (by rfl) (nb9 (by rfl)) fun E hE=>(AW.sg hE rfl (bxA rfl rfl fun b1=>(al z.Ring rfl fun b2=>(OL.nil (AW.seq (AW.dg 1 [0,1,2,3,4,5,6] order_free hE rfl (by kernel_rfl) (OI.of_OL (os:=[_,_,_,_,_,_,_]) rfl ?_)))))))
 refine faP fd.Ring_0 rfl rfl (ldPC ce.int rfl rfl rfl (faP fd.Ring_1 rfl rfl (ldPC ce.ints rfl rfl rfl (clv rfl vL (clone_ints (l:=[]) (by decide)) (bd z.Ring pl.Ring (cs:=[_,_]) rfl (sto sz.Ring rfl rfl rfl rfl rfl (nb9 rfl) (cells2:=[_,_]) rfl (OL.nil ?_)))))))
 exact AW.ret (RetQ.r ⟨_,.cellA rfl rfl ag.Ring (nb9 rfl) .nil,.ag (.cons (.le vR) (.cons (.le vR) .nil))⟩)
theorem ValidA {a:Au}(h:a.Ok)(za:a.Sz 134217728 20)(s1:a.sym≤32)(s2:a.st≤64):FSpec P F.automaton_Valid [vAu a] (.d (dB true)):=by
 have e0:=h.sym0
 have e1:=h.ini
 have e2:=h.fin
 have e3:=za.num
 refine FSpec.intro fn.automaton_Valid (by rfl) (by rfl) (nb9 (by rfl)) fun E hE=>(AW.sg hE rfl (bxA rfl rfl fun b1=>(asD rfl (OL.nil (AW.seq (AW.sg hE rfl (faP fd.Auto_0 rfl rfl ?_)))))))
 refine ldPA ag.Ring rfl rfl (vs:=[_,_]) rfl (nb9 rfl) (clv rfl .rq1 (validR) (nt rfl (mvD rfl (OL.yes rfl (faP fd.Auto_1 rfl rfl (OL.yes rfl (ldPC ce.int rfl rfl rfl ?_)))))))
 refine OL.yes rfl (c_lss rfl rfl (c:=false) (by exact decide_eq_false (by omega)) (pkF rfl rfl (mvD rfl (OL.yes rfl (faP fd.Auto_1 rfl rfl (OL.yes rfl (ldPC ce.int rfl rfl rfl ?_)))))))
 refine OL.yes rfl (c_gtr rfl rfl (c:=false) (by exact decide_eq_false (by omega)) (pkF rfl rfl (mvD rfl (OL.yes rfl (faP fd.Auto_2 rfl rfl (OL.yes rfl (ldPC ce.int rfl rfl rfl ?_)))))))
 refine OL.yes rfl (c_lss rfl rfl (c:=false) (by exact decide_eq_false (by omega)) (pkF rfl rfl (mvD rfl (OL.yes rfl (faP fd.Auto_2 rfl rfl (OL.yes rfl (ldPC ce.int rfl rfl rfl ?_)))))))
 refine OL.yes rfl (c_gtr rfl rfl (c:=false) (by exact decide_eq_false (by omega)) (pkF rfl rfl (mvD rfl (OL.yes rfl (faP fd.Auto_3 rfl rfl (OL.yes rfl (ldPC ce.Weights rfl rfl rfl ?_)))))))
 refine OL.yes rfl (lnL sl.Weights rfl rfl (OL.yes rfl (faP fd.Auto_2 rfl rfl (OL.yes rfl (ldPC ce.int rfl rfl rfl (OL.yes rfl (c_neq rfl rfl (c:=false) (by exact cne_f (by omega)) ?_)))))))
 refine pkF rfl rfl (mvD rfl (OL.yes rfl (faP fd.Auto_4 rfl rfl (OL.yes rfl (ldPC ce.Weights rfl rfl rfl (OL.yes rfl (lnL sl.Weights rfl rfl ?_)))))))
 refine OL.yes rfl (faP fd.Auto_2 rfl rfl (OL.yes rfl (ldPC ce.int rfl rfl rfl (OL.yes rfl (c_neq rfl rfl (c:=false) (by exact cne_f (by omega)) (pkF rfl rfl (mvD rfl ?_)))))))
 refine OL.yes rfl (faP fd.Auto_5 rfl rfl (OL.yes rfl (ldPC ce.Arcs rfl rfl rfl (OL.yes rfl (lnL sl.Arcs rfl rfl (OL.yes rfl (c_gtr rfl rfl (c:=false) (by exact decide_eq_false (by omega)) ?_)))))))
 refine pkF rfl rfl (OL.nil (cnF rfl ?_))
 refine AW.skip (AW.seq (AW.seq (AW.freezeBox 1 [dI 1,.sl [],dI a.sym,dI a.st,dWs a.ini,dWs a.fin,dArcs a.arcs] rfl (VCs.map_d [dI 1,.sl [],dI a.sym,dI a.st,dWs a.ini,dWs a.fin,dArcs a.arcs]) (AW.to [(1,rAu a),(2,.d (dB false))] [] (.cons (vle_of_eq (show V.frb 1 b1 [dI 1,.sl [],dI a.sym,dI a.st,dWs a.ini,dWs a.fin,dArcs a.arcs] (.ptr 1 b1 0)=rAu a from frb_self)) .rq1) .nil (AW.rg hE rfl (faR fd.Auto_5 rfl rfl (ldRC ce.Arcs rfl ?_)))))))
 refine mkF (vs:=[_]) rfl (clv rfl vL (containsAc (l:=a.arcs) (f:=F.automaton_Valid_1) (caps:=[rAu a]) (p:=fun _=>false) (fun x hx=>Valid_1 (h.arc x hx) (Nat.le_trans (za.arc x hx) (by decide))) (by omega)) ?_)
 rw [any_false fun x _=>rfl]
 refine OL.nil (cnF rfl ?_)
 refine AW.skip (AW.sg hE rfl (faR fd.Auto_0 rfl rfl (ldRA ag.Ring rfl (vs:=[_,_]) rfl (nb9 rfl) (faR fd.Auto_3 rfl rfl (ldRC ce.Weights rfl (clv rfl vL (weightsA (l:=a.ini) (fun x hx=>Nat.le_trans (za.ini x hx) (by decide)) (by omega)) (mvD rfl ?_)))))))
 refine OL.yes rfl (faR fd.Auto_0 rfl rfl (OL.yes rfl (ldRA ag.Ring rfl (vs:=[_,_]) rfl (nb9 rfl) (OL.yes rfl (faR fd.Auto_4 rfl rfl (OL.yes rfl (ldRC ce.Weights rfl ?_)))))))
 exact OL.yes rfl (clv rfl vL (weightsA (l:=a.fin) (fun x hx=>Nat.le_trans (za.fin x hx) (by decide)) (by omega)) (pkT rfl rfl (asD rfl (OL.nil (AW.ret (RetQ.r ⟨_,.tmp rfl .nil,.le vR⟩))))))
theorem NormalA {a:Au}(h:a.Ok)(za:a.Sz 134217728 20)(s1:a.sym≤32)(s2:a.st≤64):FSpec P F.automaton_Normal [vAu a] (.tup [vAu (normOf a),.d (dI 0)]):=by
 have e0:=h.sym0
 have e1:=h.ini
 have e2:=h.fin
 have e3:=za.num
 refine FSpec.intro fn.automaton_Normal (by rfl) (by rfl) (nb9 (by rfl)) fun E hE=>(AW.sg hE rfl (bxA rfl rfl fun b1=>(al z.Auto rfl fun b2=>(asD rfl (OL.nil (AW.seq (AW.sg hE rfl ?_)))))))
 refine ldPA ag.Auto rfl rfl (vs:=[_,_,_,_,_,_,_]) rfl (nb9 rfl) (clv rfl .rq1 (ValidA h za s1 s2) (nt rfl (OL.nil (cnF rfl ?_))))
 refine AW.skip (AW.seq (AW.dg 1 [0,1,2,3,4,5,6,7,8,9,10,11,12,13,14,15,16,17,18,19,20,21,22,23,24] order_free hE rfl (by kernel_rfl) (OI.of_OL (os:=[_,_,_,_,_,_,_,_,_,_,_,_,_,_,_,_,_,_,_,_,_,_,_,_,_]) rfl ?_)))
 refine faP fd.Auto_0 rfl rfl (ldPA ag.Ring rfl rfl (vs:=[_,_]) rfl (nb9 rfl) (clv rfl .rq1 (ringR) (faP fd.Auto_1 rfl rfl (ldPC ce.int rfl rfl rfl (faP fd.Auto_2 rfl rfl (ldPC ce.int rfl rfl rfl (faP fd.Auto_0 rfl rfl ?_)))))))
 refine ldPA ag.Ring rfl rfl (vs:=[_,_]) rfl (nb9 rfl) (faP fd.Auto_3 rfl rfl (ldPC ce.Weights rfl rfl rfl (clv rfl vL (CopyR (l:=a.ini) (by omega) za.ini) (faP fd.Auto_0 rfl rfl (ldPA ag.Ring rfl rfl (vs:=[_,_]) rfl (nb9 rfl) (faP fd.Auto_4 rfl rfl (ldPC ce.Weights rfl rfl rfl ?_)))))))
 refine clv rfl vL (CopyR (l:=a.fin) (by omega) za.fin) (faP fd.Auto_0 rfl rfl (ldPA ag.Ring rfl rfl (vs:=[_,_]) rfl (nb9 rfl) (faP fd.Auto_5 rfl rfl (ldPC ce.Arcs rfl rfl rfl (clv rfl vL (TidyR (l:=a.arcs) e3 za.arc) (bd2 (cs:=[_,_,_,_,_,_,_]) z.Auto pl.Auto (pvC (by exact evA rfl) (pvC (by exact evD rfl) (pvC (by exact evD rfl) (pvC (by exact evD rfl) (pvC (by exact evD rfl) (pvC (by exact evD rfl) (pvN))))))) (by rfl) (sto sz.Auto rfl rfl rfl rfl rfl (nb9 rfl) (cells2:=[_,_,_,_,_,_,_]) rfl ?_)))))))
 refine asD rfl (OL.nil ?_)
 exact AW.ret (RetQ.r ⟨_,.cellA rfl rfl ag.Auto (nb9 rfl) (.tmp rfl .nil),_,.cons (.ag (.cons (.le vR) (.cons (.le vR) (.cons (.le vR) (.cons (.le vR) (.cons (.le vR) (.cons (.le vR) (.cons (.le vR) .nil)))))))) (.cons (.le vR) .nil),rfl⟩)
theorem wordsV0 {s:Nat}(hs:1≤s∧s≤32):FSpec P F.words_Valid [.d (ints []),.d (dI s)] (.d (dB true)):=by
 refine FSpec.intro fn.words_Valid (by rfl) (by rfl) (nb9 (by rfl)) fun E hE=>(AW.sg hE rfl (asD rfl (OL.nil (AW.seq (AW.sg hE rfl (mvD rfl (lnL sl.ints rfl rfl ?_)))))))
 refine mvD rfl (OL.nil (AW.block ?_))
 refine AW.whileK (α:=Unit) [(0,_),(1,_),(7,_),(8,_)] [] (fun _u=>[(9,.d (dI 0))]) (fun _u=>[]) (fun _u=>True) (fun _u=>0) () (.cons (knD rfl) (.cons (knD rfl) (.cons (knD rfl) (.cons (knD rfl) .nil)))) .nil ⟨trivial,.rq1,.nil⟩ ?_
 intro _ _
 refine AW.sg hE rfl (c_lss rfl rfl rfl (OL.nil (AW.seq (AW.cond rfl (fun hno=>absurd hno (by simp)) (fun _=>?_)))))
 refine AW.exit (AW.sg hE rfl (mvD rfl (c_geq rfl rfl (c:=true) (by exact decide_eq_true (by omega)) (mvD rfl (OL.yes rfl (mvD rfl (OL.yes rfl ?_)))))))
 refine c_leq rfl rfl (c:=true) (by exact decide_eq_true (by omega)) (pkT rfl rfl (mvD rfl (OL.yes rfl (mvD rfl (OL.yes rfl (lnL sl.ints rfl rfl (OL.yes rfl ?_)))))))
 exact c_leq rfl rfl (c:=true) (by rfl) (pkT rfl rfl (asD rfl (OL.nil (AW.ret (RetQ.r ⟨_,.tmp rfl .nil,.le vR⟩)))))
theorem Ready_1 {x:Arc9}(hx:1≤x.l):FSpec P F.weigh_Ready_1 [vArc x] (.d (dB false)):=by
 refine FSpec.intro fn.weigh_Ready_1 (by rfl) (by rfl) (nb9 (by rfl)) fun E hE=>(AW.sg hE rfl (bxA rfl rfl fun b1=>(asD rfl (OL.nil (AW.sg hE rfl (faP fd.Arc_1 rfl rfl (ldPC ce.int rfl rfl rfl ?_)))))))
 exact c_eql rfl rfl (c:=false) (by exact decide_eq_false (by omega)) (asD rfl (OL.nil (AW.ret (RetQ.r ⟨_,.tmp rfl .nil,.le vR⟩))))
theorem ReadyA {a:Au}(h:a.Ok)(za:a.Sz 134217728 20)(s1:a.sym≤32)(s2:a.st≤64):FSpec P F.weigh_Ready [vAu a,.d (ints [])] (.tup [vAu (normOf a),.d (dI 0)]):=by
 have e0:=h.sym0
 have e1:=h.ini
 have e2:=h.fin
 have e3:=za.num
 have tl:=tidyA_len a.arcs
 refine FSpec.intro fn.weigh_Ready (by rfl) (by rfl) (nb9 (by rfl)) fun E hE=>(AW.sg hE rfl (bxA rfl rfl fun b2=>(al z.Auto rfl fun b4=>(asD rfl (OL.nil (AW.sg hE rfl (ldPA ag.Auto rfl rfl (vs:=[_,_,_,_,_,_,_]) rfl (nb9 rfl) ?_)))))))
 refine clv rfl .rq1 (NormalA h za s1 s2) (mvT rfl (ex rfl rfl (ex rfl rfl (al z.Auto rfl fun b6=>(sto sz.Auto rfl rfl rfl rfl rfl (nb9 rfl) (cells2:=[_,_,_,_,_,_,_]) rfl (asD rfl (OL.nil ?_)))))))
 refine AW.seq (AW.block (AW.sg hE rfl (mvD rfl (c_neq rfl rfl (c:=false) (by exact cne_f (by omega)) (asD rfl (OL.nil (cnF rfl ?_)))))))
 refine AW.sg hE rfl (faP fd.Auto_5 rfl rfl (ldPC ce.Arcs rfl rfl rfl (clv rfl vL (containsAc (l:=(normOf a).arcs) (f:=F.weigh_Ready_1) (caps:=[]) (p:=fun _=>false) (fun x hx=>Ready_1 (normOf_lab h x hx)) (by show (tidyA a.arcs).length≤_;omega)) ?_)))
 rw [any_false fun x _=>rfl]
 refine asD rfl (OL.nil (cnF rfl ?_))
 refine AW.sg hE rfl (mvD rfl (faP fd.Auto_1 rfl rfl (ldPC ce.int rfl rfl rfl (clv rfl vL (wordsV0 (s:=a.sym) ⟨e0,s1⟩) (nt rfl (asD rfl (OL.nil ?_)))))))
 refine cnF rfl ?_
 refine AW.skip (AW.sg hE rfl (ldPA ag.Auto rfl rfl (vs:=[_,_,_,_,_,_,_]) rfl (nb9 rfl) (sto sz.Auto rfl rfl rfl rfl rfl (nb9 rfl) (cells2:=[_,_,_,_,_,_,_]) rfl (asD rfl (OL.nil ?_)))))
 exact AW.ret (RetQ.r ⟨_,.cellA rfl rfl ag.Auto (nb9 rfl) (.tmp rfl .nil),_,.cons (.ag (.cons (.le vR) (.cons (.le vR) (.cons (.le vR) (.cons (.le vR) (.cons (.le vR) (.cons (.le vR) (.cons (.le vR) .nil)))))))) (.cons (.le vR) .nil),rfl⟩)
theorem is_ok {e:Int}:FSpec P F.equal_is [.d (dB true),.d (dI e)] (.d (dI 0)):=by
 refine FSpec.intro fn.equal_is (by rfl) (by rfl) (nb9 (by rfl)) fun E hE=>(AW.sg hE rfl (asD rfl (OL.nil (AW.seq (AW.sg hE rfl (mvD rfl (OL.nil ?_)))))))
 refine cnT rfl ?_
 exact AW.sg hE rfl (asD rfl (OL.nil (AW.ret (RetQ.r ⟨_,.tmp rfl .nil,.le vR⟩))))
theorem Check_1 {a:Au}(h:a.Ok)(za:a.Sz 134217728 20)(s1:a.sym≤32)(s2:a.st≤64):FSpec P F.equal_Check_1 [vAu a] (.d (dI 0)):=by
 refine FSpec.intro fn.equal_Check_1 (by rfl) (by rfl) (nb9 (by rfl)) fun E hE=>(AW.sg hE rfl (bxA rfl rfl fun b1=>(asD rfl (OL.nil (AW.sg hE rfl (ldPA ag.Auto rfl rfl (vs:=[_,_,_,_,_,_,_]) rfl (nb9 rfl) (clv rfl vL (ValidA h za s1 s2) ?_)))))))
 exact clv rfl vL (is_ok) (asD rfl (OL.nil (AW.ret (RetQ.r ⟨_,.tmp rfl .nil,.le vR⟩))))
theorem Check_2 {a:Au}(h:a.Ok)(za:a.Sz 134217728 20)(s1:a.sym≤32)(s2:a.st≤64):FSpec P F.equal_Check_2 [vAu a] (.d (dI 0)):=by
 refine FSpec.intro fn.equal_Check_2 (by rfl) (by rfl) (nb9 (by rfl)) fun E hE=>(AW.sg hE rfl (bxA rfl rfl fun b1=>(asD rfl (OL.nil (AW.sg hE rfl (faP fd.Auto_0 rfl rfl (faP fd.Ring_0 rfl rfl ?_)))))))
 exact ldPC ce.int rfl rfl rfl (c_eql rfl rfl (c:=true) (by exact decide_eq_true (by omega)) (clv rfl vL (is_ok) (asD rfl (OL.nil (AW.ret (RetQ.r ⟨_,.tmp rfl .nil,.le vR⟩))))))
theorem Check_3 {a:Au}(h:a.Ok)(za:a.Sz 134217728 20)(s1:a.sym≤32)(s2:a.st≤64):FSpec P F.equal_Check_3 [vAu a] (.d (dI 0)):=by
 refine FSpec.intro fn.equal_Check_3 (by rfl) (by rfl) (nb9 (by rfl)) fun E hE=>(AW.sg hE rfl (bxA rfl rfl fun b1=>(asD rfl (OL.nil (AW.sg hE rfl (ldPA ag.Auto rfl rfl (vs:=[_,_,_,_,_,_,_]) rfl (nb9 rfl) (clv rfl (.cons vR (.cons VLe.mt .nil)) (ReadyA h za s1 s2) ?_)))))))
 refine mvT rfl (ex rfl rfl (ex rfl rfl (al z.Auto rfl fun b3=>(sto sz.Auto rfl rfl rfl rfl rfl (nb9 rfl) (cells2:=[_,_,_,_,_,_,_]) rfl (asD rfl (OL.nil (AW.sg hE rfl ?_)))))))
 exact mvD rfl (asD rfl (OL.nil (AW.ret (RetQ.r ⟨_,.tmp rfl .nil,.le vR⟩))))
theorem FSpecM.frame {P:Program}{f:Nat}{args:List V}{M Mc:Mem}{res:V}(hc:∀ id blk,Mc id=some blk→M id=some blk)(h:FSpecM P f args Mc res Mc):FSpecM P f args M res M :=
 ⟨h.1,fun F w vals hS hv=>(h.2 F w vals (sim_sub hS hc) hv).mono fun e w' ⟨v,F',he,ha,hs⟩=>by
  have k:=After.over hS hc (fun _ h=>h) ha
  rw [over_self hc] at k
  exact ⟨v,F',he,k,hs⟩⟩
theorem FSpec.toM {P:Program}{f:Nat}{args:List V}{M:Mem}{res:V}(h:FSpec P f args res):FSpecM P f args M res M:=by
 refine FSpecM.frame (Mc:=noMem) (fun _ _ h=>by cases h) ⟨h.1,fun F w vals hS hv=>(h.2 F w vals hS.imm hv).mono fun e w' ⟨v,F',he,hx,hs⟩=>⟨v,F',he,⟨hx.grow.mono (fun i h=>h.elim),hx.le,sim_none hx.imm,fun k a b=>.inl (hx.new k a b),fun k ho=>(owned_none k ho).elim⟩,hs⟩⟩
abbrev fC (f:Nat)(us:List Value):D:=.sc (.func (.func f) #[] us.toArray)
theorem fn_caps {F:Hp}{v:Value}{f:Nat}{cs:List V}{us:List Value}(h:SimV F v (.fn f cs))(he:∀ (xs:List Value),xs.length=cs.length→(∀ (i:Nat) (c:V) (u:Value),cs[i]? = some c→xs[i]? = some u→SimV F u c)→xs=us):v=.func (.func f) #[] us.toArray:=by
 cases h with
 | fn hl hr=>rw [he _ hl hr]
theorem vc_fn0 {f:Nat}:VC (.fn f []) (fC f []):=fun F v h=>by
 rw [fn_caps (us:=[]) h fun xs hl _=>en9 hl]
 exact ⟨.sc rfl,rfl⟩
theorem vc_fn1 {f id b:Nat}:VC (.fn f [.ptr id b 0]) (fC f [.pointer (some ⟨b,0,none⟩)]):=fun F v h=>by
 rw [fn_caps (us:=[.pointer (some ⟨b,0,none⟩)]) h fun xs hl hr=>by
  match xs,hl with
  | [x],_ =>
   have h1:=hr 0 _ x rfl rfl
   cases h1;rfl]
 exact ⟨.sc rfl,rfl⟩
theorem vle_fC0 {f:Nat}:VLe (.d (fC f [])) (.fn f []):=fun F v h=>by
 cases h with
 | d h _=>cases h;exact .fn (us:=[]) rfl fun i c u hc _=>by simp at hc
theorem vle_fC1 {f id b:Nat}:VLe (.d (fC f [.pointer (some ⟨b,0,none⟩)])) (.fn f [.ptr id b 0]):=fun F v h=>by
 cases h with
 | d h _ =>
  cases h
  refine .fn (us:=[.pointer (some ⟨b,0,none⟩)]) rfl fun i c u hc hu=>?_
  match i,hc,hu with
  | 0,hc,hu=>cases hc;cases hu;exact .ptr
  | i+1,hc,hu=>simp at hc
abbrev dAus (l:List Au):D:=.sl (l.map dAu)
theorem vd_au {a:Au}:VD (vAu a) (dAu a):=VD.ag (.cons (VC.d _) (.cons (VC.d _) (.cons (VC.d _) (.cons (VC.d _) (.cons (VC.d _) (.cons (VC.d _) (.cons (VC.d _) .nil)))))))
abbrev boxL (b:Nat)(l:List Au):Blk:=.box b T.Autos [.d (dAus l)]
structure Au.Fit (a:Au) (s:Nat):Prop where
 ok:a.Ok
 sz:a.Sz 134217728 20
 sym:a.sym=s
 s1:a.sym≤32
 st:a.st≤64
def chkL (b:Nat):List (Nat × List Value):=[(F.equal_Check_1,[]),(F.equal_Check_2,[]),(F.equal_Check_3,[]),(F.equal_Check_4,[.pointer (some ⟨b,0,none⟩)])]
abbrev chkD (b:Nat):List D:=(chkL b).map fun p:Nat × List Value=>fC p.1 p.2
def chkF (i:Nat):Nat:=if i=0 then F.equal_Check_1 else if i=1 then F.equal_Check_2 else if i=2 then F.equal_Check_3 else F.equal_Check_4
def chkC (b i:Nat):List V:=if i=3 then [.ptr 1 b 0] else []
theorem chk_vle {b i:Nat}(hi:i<4):VLe (.d (fC ((chkL b).getD i default).1 ((chkL b).getD i default).2)) (.fn (chkF i) (chkC b i)):=by
 rcases (by omega:i=0 ∨ i=1 ∨ i=2 ∨ i=3) with rfl|rfl|rfl|rfl
 ·exact vle_fC0
 ·exact vle_fC0
 ·exact vle_fC0
 ·exact vle_fC1
theorem Check_4 {a:Au}{l:List Au}{b:Nat}(nl:1≤l.length)(hs:a.sym=(l.getD 0 default).sym):FSpecM P F.equal_Check_4 [vAu a,.ptr 1 b 0] (mem1 1 (boxL b l)) (.d (dI 0)) (mem1 1 (boxL b l)):=by
 refine FSpecM.intro fn.equal_Check_4 (by rfl) (by rfl) (nb9 (by rfl)) fun E hE=>(AW.sg hE rfl (bxA rfl rfl fun b2=>(asD rfl (OL.nil (AW.seq (AW.dg 1 [0,1,2,3,4,5,6,7,8] order_free hE rfl (by kernel_rfl) (OI.of_OL (os:=[_,_,_,_,_,_,_,_,_]) rfl ?_)))))))
 refine faP fd.Auto_1 rfl rfl (ldPC ce.int rfl rfl rfl (ldPC ce.Autos rfl rfl rfl (ixLe 0 sl.Autos default rfl rfl rfl (by omega) rfl rfl (faR fd.Auto_1 rfl rfl (ldRC ce.int rfl (c_eql rfl rfl (c:=true) (by exact decide_eq_true (by omega)) (clv rfl vL (is_ok) ?_)))))))
 exact asD rfl (OL.nil (AW.ret ⟨⟨_,.tmp rfl .nil,.le vR⟩,mem1_keep rfl⟩))
theorem chk_all {a:Au}{s b i:Nat}{l:List Au}(hl:∀ x,x ∈ l→Au.Fit x s)(nl:1≤l.length)(ha:a ∈ l)(hi:i<4):FSpecM P (chkF i) (vAu a::chkC b i) (mem1 1 (boxL b l)) (.d (dI 0)) (mem1 1 (boxL b l)):=by
 have f:=hl a ha
 have f0:=hl _ (getD_mem (show 0<l.length by omega) default)
 rcases (by omega:i=0 ∨ i=1 ∨ i=2 ∨ i=3) with rfl|rfl|rfl|rfl
 ·exact FSpec.toM (Check_1 f.ok f.sz f.s1 f.st)
 ·exact FSpec.toM (Check_2 f.ok f.sz f.s1 f.st)
 ·exact FSpec.toM (Check_3 f.ok f.sz f.s1 f.st)
 ·exact Check_4 nl (f.sym.trans f0.sym.symm)
set_option maxHeartbeats 800000 in
theorem CheckA {l:List Au}{s:Nat}(hl:∀ a,a ∈ l→Au.Fit a s)(nl:1≤l.length∧l.length≤64):FSpec P F.equal_Check [.d (dAus l)] (.d (dI 0)):=by
 have n1:=nl.1
 have n2:=nl.2
 refine FSpec.intro fn.equal_Check (by rfl) (by rfl) (nb9 (by rfl)) fun E hE=>?_
 refine AW.sg hE rfl ?_
 refine bxD rfl rfl fun b1=>?_
 refine asD rfl ?_
 refine OL.nil ?_
 refine AW.sg hE rfl ?_
 refine mkF (vs:=[_]) rfl ?_
 refine ltN (ys:=chkD b1) sl.fnsCheck rfl (pdC vc_fn0.vd (pdC vc_fn0.vd (pdC vc_fn0.vd (pdC vc_fn1.vd pdN)))) rfl (by decide) (by decide) (fun y hy=>by obtain ⟨p,_,rfl⟩:=mm9 hy;rfl) (asD rfl (OL.nil (AW.seq (AW.sg hE rfl (mvD rfl (lnL sl.fnsCheck rfl rfl (mvD rfl ?_)))))))
 refine OL.nil (AW.block ?_)
 refine AW.whileK (α:=Nat) [(1,_),(11,_),(12,_)] [(1,_)] (fun i=>[(13,.d (dI i))]) (fun i=>[]) (fun i=>i≤4) (fun i=>4-i) 0 (.cons (knP rfl) (.cons (knD rfl) (.cons (knD rfl) .nil))) (.cons (owB rfl) .nil) ⟨Nat.zero_le _,.rq1,.nil⟩ ?_
 intro i h1
 have h1:i≤4:=h1
 have hk4:(chkL b1).length=4:=rfl
 refine AW.sg hE rfl (c_lss rfl rfl rfl (OL.nil (AW.seq (AW.cond rfl (fun h14=>?_) (fun h14=>?_)))))
 ·try simp only [dx9] at h14
  refine AW.skip (AW.seq (AW.block (AW.sg hE rfl (ixLn sl.fnsCheck default rfl rfl (by omega) rfl rfl (ldRC ce.fnCheck rfl (asD rfl (OL.nil ?_)))))))
  refine AW.seq ?_
  refine AW.to [(1,.ptr 1 b1 0),(5,.fn (chkF i) (chkC b1 i)),(11,.d (.sl (chkD b1))),(12,.d (dI 4)),(13,.d (dI i))] [(1,boxL b1 l)] (.cons vR (.cons (chk_vle (by omega)) .rq3)) (.cons rfl .nil) ?_
  refine AW.rg hE rfl (ldPC ce.Autos rfl rfl rfl (lnL sl.Autos rfl rfl (mvD rfl (OL.nil (AW.block ?_)))))
  refine AW.whileK (α:=Nat) [(1,_),(5,_),(11,_),(12,_),(13,_),(17,_),(18,_)] [(1,_)] (fun j=>[(19,.d (dI j))]) (fun j=>[]) (fun j=>j≤l.length) (fun j=>l.length-j) 0 (.cons (knP rfl) (.cons (knF rfl) (.cons (knD rfl) (.cons (knD rfl) (.cons (knD rfl) (.cons (knD rfl) (.cons (knD rfl) .nil))))))) (.cons (owB rfl) .nil) ⟨Nat.zero_le _,.rq1,.nil⟩ ?_
  intro j h2
  have h2:j≤l.length:=h2
  refine AW.sg hE rfl (c_lss rfl rfl rfl (OL.nil (AW.seq (AW.cond rfl (fun h20=>?_) (fun h20=>?_)))))
  ·try simp only [dx9] at h20
   refine AW.skip (AW.seq (AW.block (AW.sg hE rfl (ixLn sl.Autos default rfl rfl (by omega) rfl rfl (ldRA ag.Auto rfl (vs:=[_,_,_,_,_,_,_]) rfl (nb9 rfl) (al z.Auto rfl fun b7=>(sto sz.Auto rfl rfl rfl rfl rfl (nb9 rfl) (cells2:=[_,_,_,_,_,_,_]) rfl ?_)))))))
   refine OL.nil (AW.sg hE rfl (mvF rfl (ldPA ag.Auto rfl rfl (vs:=[_,_,_,_,_,_,_]) rfl (nb9 rfl) (clC0 (args2:=vAu (l.getD j default)::chkC b1 i) rfl (.cons vR vL) (chk_all hl n1 (getD_mem (by omega) default) (by omega)) (mem1_keep rfl) (asD rfl (OL.nil (AW.sg hE rfl ?_)))))))
   refine mvD rfl (c_neq rfl rfl (c:=false) (by exact cne_f (by omega)) (OL.nil (cnF rfl ?_)))
   refine AW.skip (AW.rg hE rfl (add_i64 rfl rfl (by omega) (mvD rfl (OL.nil ?_))))
   exact AW.again (x:=j) (j+1) (by omega) ⟨by omega,Knows.app .rq7 .rq1,Owns.app (.cons rfl .nil) (.nil)⟩
  ·try simp only [dx9] at h20
   exact AW.exit (AW.rg hE rfl (add_i64 rfl rfl (by omega) (mvD rfl (OL.nil (AW.again (x:=i) (i+1) (by omega) ⟨by omega,Knows.app .rq3 .rq1,Owns.app (.cons rfl .nil) (.nil)⟩)))))
 ·try simp only [dx9] at h14
  exact AW.exit (AW.sg hE rfl (asD rfl (OL.nil (AW.ret (RetQ.r ⟨_,.tmp rfl .nil,.le vR⟩)))))
end Go.Proofs.YtmcoihfkniccdaaGreatDoor
