/-
  Walks of layers 3, 6 and 15 of the specification and of equal.Zero (printed by mk2.py).
-/
import Derived.Test.YtfbblpngcmjooaaGreatDoorKWkU
import Derived.Test.YtfbblpngcmjooaaGreatDoorKWkF
import Derived.Test.YtfbblpngcmjooaaGreatDoorKMod97
set_option linter.unusedVariables false
set_option linter.unusedSimpArgs false
namespace Go.Proofs.YtfbblpngcmjooaaGreatDoor
open Go Go.AL
theorem take_auto {m:MModel}:Au.Take (autoOf m 2 3) 2 :=
 have ok:=auto_ok (m:=m) (sym:=2) (most:=3) (by decide) (by decide)
 have hs:=stOf_le (m:=m) (most:=3) (by decide)
 ⟨⟨ok,auto_sz.wide,rfl,(show 2≤32 by decide),(by show stOf m 3≤64;omega)⟩,auto_sz.few (by show stOf m 3≤6;omega),hs.1⟩
end Go.Proofs.YtfbblpngcmjooaaGreatDoor
namespace Go.AL
open Go Go.BigFrame
section
variable {P:Program}{E:Env}{K:S→Prop}{s:S}{ty:Nat}{pos:String}{after:Array Edge}
theorem RO.all {M Mk:Mem}{id b n c e sz:Nat}{es:List D}{d:D}(hM:M id=some (.row b c e sz es))(hk:Mk id=Option.none)(hn:n=es.length)(hd:d=.sl es):RO M Mk (.osl id b n c) (.d d):=by
 subst hn hd
 have h:=RO.osl (M:=M) (Mk:=Mk) hM hk (Nat.le_refl es.length)
 rwa [List.take_length] at h
end
end Go.AL
namespace Go.Proofs.YtfbblpngcmjooaaGreatDoor
open Go Go.AL
theorem rowW_el {l:List Rat}{i:Nat}(hi:i<l.length):(l.map dW)[i]? = some (dW (l.getD i 0)):=by rw [List.getElem?_map,gd9,ge9 hi];rfl
theorem r3Times {p q:Rat}(hp:sz p≤68719476736)(hq:sz q≤68719476736):FSpec P F.ref03_Times [vRing,vW p,vW q] (vW (p*q)):=by
 refine FSpec.intro fn.ref03_Times (by rfl) (by rfl) (nb9 (by rfl)) fun E hE=>(AW.sg hE rfl (bxA rfl rfl fun b3=>(bxA rfl rfl fun b4=>(bxA rfl rfl fun b5=>(al z.Weight rfl fun b6=>(OL.nil (AW.seq ?_)))))))
 refine AW.sg hE rfl (ldPA ag.Ring rfl rfl (vs:=[_,_]) rfl (nb9 rfl) (clv rfl .rq1 (r3Valid) (nt rfl (OL.nil (AW.cond rfl (fun hno=>absurd hno (by decide)) (fun _=>?_))))))
 refine AW.skip (AW.seq (AW.dg 1 [0,1,2,3,4,5,6,7] order_free hE rfl (by kernel_rfl) (OI.of_OL (os:=[_,_,_,_,_,_,_,_]) rfl ?_)))
 refine ldPA ag.Ring rfl rfl (vs:=[_,_]) rfl (nb9 rfl) (ldPA ag.Weight rfl rfl (vs:=[_,_,_,_,_,_,_,_]) rfl (nb9 rfl) (clv rfl (VLes.refl _) (r3Take hp) (ldPA ag.Ring rfl rfl (vs:=[_,_]) rfl (nb9 rfl) (ldPA ag.Weight rfl rfl (vs:=[_,_,_,_,_,_,_,_]) rfl (nb9 rfl) (clv rfl (VLes.refl _) (r3Take hq) (sto sz.Weight rfl rfl rfl rfl rfl (nb9 rfl) (cells2:=[_,_,_,_,_,_,_,_]) rfl (sto sz.Weight rfl rfl rfl rfl rfl (nb9 rfl) (cells2:=[_,_,_,_,_,_,_,_]) rfl ?_)))))))
 refine OL.nil (AW.seq (AW.sg hE rfl (faP fd.Ring_0 rfl rfl (ldPC ce.int rfl rfl rfl (OL.nil (AW.block (AW.seq ?_)))))))
 refine AW.sg hE rfl (c_eql rfl rfl (c:=true) (by exact decide_eq_true (by omega)) (asD rfl (OL.nil (AW.cond rfl (fun _=>?_) (fun hno=>absurd hno (by decide))))))
 refine AW.skip (AW.cond rfl (fun _=>?_) (fun hno=>absurd hno (by decide)))
 refine AW.sg hE rfl (faP fd.Weight_0 rfl rfl (ldPA ag.Rat rfl rfl (vs:=[_,_,_]) rfl (nb9 rfl) (faP fd.Weight_0 rfl rfl (ldPA ag.Rat rfl rfl (vs:=[_,_,_]) rfl (nb9 rfl) (clv rfl (VLes.refl _) (ref_MulQ (x:=p) (y:=q) hp hq) (bd z.Weight pl.Weight (cs:=[_,_,_,_,_,_,_,_]) rfl (sto sz.Weight rfl rfl rfl rfl rfl (nb9 rfl) (cells2:=[_,_,_,_,_,_,_,_]) rfl ?_)))))))
 exact OL.nil (AW.ret (RetQ.r ⟨_,.cellA rfl rfl ag.Weight (nb9 rfl) .nil,.le vle_wq⟩))
theorem r6Weights {l:List Rat}(nl:l.length≤64)(hz:∀ x,x ∈ l→sz x≤134217728):FSpec P F.ref06_Weights [vRing,.d (dWs l),.d (dI l.length)] (.d (dB true)):=by
 refine FSpec.intro fn.ref06_Weights (by rfl) (by rfl) (nb9 (by rfl)) fun E hE=>(AW.sg hE rfl (bxA rfl rfl fun b3=>(asD rfl (OL.nil (AW.seq (AW.sg hE rfl (mvD rfl ?_)))))))
 refine lnL sl.Weights rfl rfl (mvD rfl (c_neq rfl rfl (c:=false) (cne_f rfl) (OL.nil (AW.cond rfl (fun hno=>absurd hno (by decide)) (fun _=>?_)))))
 refine AW.skip (AW.seq (AW.sg hE rfl (asD rfl (OL.nil (AW.block ?_)))))
 refine AW.whileK (α:=Nat) [(1,_),(2,_),(3,_)] [(3,_)] (fun i=>[(7,.d (dI i))]) (fun i=>[]) (fun i=>i≤l.length) (fun i=>l.length-i) 0 (.cons (knD rfl) (.cons (knD rfl) (.cons (knP rfl) .nil))) (.cons (owB rfl) .nil) ⟨Nat.zero_le _,.rq1,.nil⟩ ?_
 rintro i h1
 have h1:i≤l.length:=h1
 refine AW.seq (AW.sg hE rfl (mvD rfl (mvD rfl (c_lss rfl rfl rfl (OL.nil (AW.cond rfl (fun h14=>?_) (fun h14=>?_)))))))
 ·try simp only [dx9] at h14
  refine AW.skip (AW.seq (AW.block (AW.seq ?_)))
  have hx:=hz (l.getD i 0) (getD_mem (by omega) 0)
  refine AW.dg 1 [0,1,2,3,4,5,6] order_free hE rfl (by kernel_rfl) (OI.of_OL (os:=[_,_,_,_,_,_,_]) rfl ?_)
  refine ldPA ag.Ring rfl rfl (vs:=[_,_]) rfl (nb9 rfl) (mvD rfl (mvD rfl (ixLn sl.Weights 0 rfl rfl (by omega) rfl rfl (ldRA ag.Weight rfl (vs:=[_,_,_,_,_,_,_,_]) rfl (nb9 rfl) (clv rfl (VLes.refl _) (r3Check (q:=(l.getD i 0)) (by omega)) (nt rfl (OL.nil ?_)))))))
  refine AW.cond rfl (fun hno=>absurd hno (by decide)) (fun _=>?_)
  exact AW.skip (AW.rg hE rfl (mvD rfl (add_i64 rfl rfl (by omega) (asD rfl (OL.nil (AW.again (x:=i) (i+1) (by omega) ⟨by omega,Knows.app .rq3 .rq1,Owns.app (.cons rfl .nil) (.nil)⟩))))))
 ·try simp only [dx9] at h14
  exact AW.exit (AW.sg hE rfl (asD rfl (OL.nil (AW.ret (RetQ.r ⟨_,.tmp rfl .nil,.le vR⟩)))))
set_option maxHeartbeats 3200000 in
theorem r6Valid {a:Au}(h:a.Ok)(za:a.Sz 134217728 20)(s1:a.sym≤32)(s2:a.st≤64):FSpec P F.ref06_Valid [vAu a] (.d (dB true)):=by
 have e1:=h.ini
 have e2:=h.fin
 have e3:=za.num
 have h0:=h.sym0
 refine FSpec.intro fn.ref06_Valid (by rfl) (by rfl) (nb9 (by rfl)) fun E hE=>(AW.sg hE rfl (bxA rfl rfl fun b1=>(asD rfl (OL.nil (AW.seq (AW.sg hE rfl (faP fd.Auto_0 rfl rfl ?_)))))))
 refine ldPA ag.Ring rfl rfl (vs:=[_,_]) rfl (nb9 rfl) (clv rfl .rq1 (r3Valid) (nt rfl (mvD rfl (OL.yes rfl (faP fd.Auto_1 rfl rfl (OL.yes rfl (ldPC ce.int rfl rfl rfl ?_)))))))
 refine OL.yes rfl (clv rfl (VLes.refl _) (r5Alpha (s:=a.sym) (by omega)) (OL.yes rfl (nt rfl (pkF rfl rfl (mvD rfl (OL.yes rfl (faP fd.Auto_2 rfl rfl ?_)))))))
 refine OL.yes rfl (ldPC ce.int rfl rfl rfl (OL.yes rfl (clv rfl (VLes.refl _) (r6In (v:=a.st) (lo:=0) (hi:=64) (by omega)) (OL.yes rfl (nt rfl (pkF rfl rfl (mvD rfl ?_)))))))
 refine OL.yes rfl (faP fd.Auto_0 rfl rfl (OL.yes rfl (ldPA ag.Ring rfl rfl (vs:=[_,_]) rfl (nb9 rfl) (OL.yes rfl (faP fd.Auto_3 rfl rfl (OL.yes rfl (ldPC ce.Weights rfl rfl rfl ?_)))))))
 refine OL.yes rfl (faP fd.Auto_2 rfl rfl (OL.yes rfl (ldPC ce.int rfl rfl rfl (OL.yes rfl (clv rfl (.cons vR (.cons vR (.cons (VLe.int (by omega)) .nil))) (r6Weights (l:=a.ini) (by omega) za.ini) (OL.yes rfl (nt rfl ?_)))))))
 refine pkF rfl rfl (mvD rfl (OL.yes rfl (faP fd.Auto_0 rfl rfl (OL.yes rfl (ldPA ag.Ring rfl rfl (vs:=[_,_]) rfl (nb9 rfl) (OL.yes rfl (faP fd.Auto_4 rfl rfl ?_)))))))
 refine OL.yes rfl (ldPC ce.Weights rfl rfl rfl (OL.yes rfl (faP fd.Auto_2 rfl rfl (OL.yes rfl (ldPC ce.int rfl rfl rfl (OL.yes rfl (clv rfl (.cons vR (.cons vR (.cons (VLe.int (by omega)) .nil))) (r6Weights (l:=a.fin) (by omega) za.fin) ?_)))))))
 refine OL.yes rfl (nt rfl (pkF rfl rfl (mvD rfl (OL.yes rfl (faP fd.Auto_5 rfl rfl (OL.yes rfl (ldPC ce.Arcs rfl rfl rfl ?_)))))))
 refine OL.yes rfl (lnL sl.Arcs rfl rfl (OL.yes rfl (c_gtr rfl rfl (c:=false) (by exact decide_eq_false (by omega)) (pkF rfl rfl (OL.nil (AW.cond rfl (fun hno=>absurd hno (by decide)) (fun _=>?_)))))))
 refine AW.skip (AW.seq (AW.sg hE rfl (asD rfl (OL.nil (AW.block (AW.whileK (α:=Nat) [(1,_)] [(1,_)] (fun i=>[(3,.d (dI i))]) (fun i=>[]) (fun i=>i≤a.arcs.length) (fun i=>a.arcs.length-i) 0 (.cons (knP rfl) .nil) (.cons (owB rfl) .nil) ⟨Nat.zero_le _,.rq1,.nil⟩ ?_))))))
 rintro i h1
 have h1:i≤a.arcs.length:=h1
 refine AW.seq (AW.sg hE rfl (mvD rfl (faP fd.Auto_5 rfl rfl (ldPC ce.Arcs rfl rfl rfl (lnL sl.Arcs rfl rfl (c_lss rfl rfl rfl (OL.nil ?_)))))))
 refine AW.cond rfl (fun h51=>?_) (fun h51=>?_)
 ·try simp only [dx9] at h51
  refine AW.skip (AW.seq (AW.block (AW.seq ?_)))
  have hm:=getD_mem (l:=a.arcs) (i:=i) (by omega) default
  have hx:=za.arc (a.arcs.getD i default) hm
  obtain ⟨hx1,hx2,hx3,hx4⟩:=h.arc (a.arcs.getD i default) hm
  refine AW.rg hE rfl (faP fd.Auto_5 rfl rfl (ldPC ce.Arcs rfl rfl rfl (mvD rfl (ixLn sl.Arcs default rfl rfl (by omega) rfl rfl (ldRA ag.Arc rfl (vs:=[_,_,_,_,_,_,_,_,_,_,_]) rfl (nb9 rfl) (al z.Arc rfl fun b4=>(sto sz.Arc rfl rfl rfl rfl rfl (nb9 rfl) (cells2:=[_,_,_,_,_,_,_,_,_,_,_]) rfl ?_)))))))
  refine OL.nil (AW.sg hE rfl (faP fd.Arc_0 rfl rfl (ldPC ce.int rfl rfl rfl (faP fd.Auto_2 rfl rfl (ldPC ce.int rfl rfl rfl (bo rfl rfl (bin_sub (c:=(a.st:Int)-1) (by omega) (wrap_i64 (by omega))) (clv rfl (VLes.refl _) (r6In (v:=(a.arcs.getD i default).f) (lo:=0) (hi:=(a.st:Int)-1) (by omega)) ?_)))))))
  refine nt rfl (mvD rfl (OL.yes rfl (faP fd.Arc_2 rfl rfl (OL.yes rfl (ldPC ce.int rfl rfl rfl (OL.yes rfl (faP fd.Auto_2 rfl rfl ?_)))))))
  refine OL.yes rfl (ldPC ce.int rfl rfl rfl (OL.yes rfl (bo rfl rfl (bin_sub (c:=(a.st:Int)-1) (by omega) (wrap_i64 (by omega))) (OL.yes rfl (clv rfl (VLes.refl _) (r6In (v:=(a.arcs.getD i default).t) (lo:=0) (hi:=(a.st:Int)-1) (by omega)) (OL.yes rfl (nt rfl ?_)))))))
  refine pkF rfl rfl (mvD rfl (OL.yes rfl (faP fd.Arc_1 rfl rfl (OL.yes rfl (ldPC ce.int rfl rfl rfl (OL.yes rfl (faP fd.Auto_1 rfl rfl ?_)))))))
  refine OL.yes rfl (ldPC ce.int rfl rfl rfl (OL.yes rfl (clv rfl (VLes.refl _) (r6In (v:=(a.arcs.getD i default).l) (lo:=0) (hi:=a.sym) (by omega)) (OL.yes rfl (nt rfl (pkF rfl rfl (mvD rfl ?_)))))))
  refine OL.yes rfl (faP fd.Auto_0 rfl rfl (OL.yes rfl (ldPA ag.Ring rfl rfl (vs:=[_,_]) rfl (nb9 rfl) (OL.yes rfl (faP fd.Arc_3 rfl rfl (OL.yes rfl (ldPA ag.Weight rfl rfl (vs:=[_,_,_,_,_,_,_,_]) rfl (nb9 rfl) ?_)))))))
  refine OL.yes rfl (clv rfl (VLes.refl _) (r3Check (q:=(a.arcs.getD i default).q) (by omega)) (OL.yes rfl (nt rfl (pkF rfl rfl (OL.nil (AW.cond rfl (fun hno=>absurd hno (by decide)) (fun _=>?_)))))))
  exact AW.skip (AW.rg hE rfl (mvD rfl (add_i64 rfl rfl (by omega) (asD rfl (OL.nil (AW.again (x:=i) (i+1) (by omega) ⟨by omega,Knows.app .rq1 .rq1,Owns.app (.cons rfl .nil) (.nil)⟩))))))
 ·try simp only [dx9] at h51
  exact AW.exit (AW.sg hE rfl (asD rfl (OL.nil (AW.ret (RetQ.r ⟨_,.tmp rfl .nil,.le vR⟩)))))
end Go.Proofs.YtfbblpngcmjooaaGreatDoor
