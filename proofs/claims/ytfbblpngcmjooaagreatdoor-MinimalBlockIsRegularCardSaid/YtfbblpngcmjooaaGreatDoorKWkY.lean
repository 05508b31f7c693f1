/-
  Walks of layers 5 and 8 of the specification: words, weights of words (printed by mk2.py).
-/
import Derived.Test.YtfbblpngcmjooaaGreatDoorKWkW
set_option linter.unusedVariables false
set_option linter.unusedSimpArgs false
namespace Go.Proofs.YtfbblpngcmjooaaGreatDoor
open Go Go.AL
theorem fc.Auto_3:FieldC P T.Auto 3 4:=⟨by kernel_rfl⟩
theorem ints_len {l:List Int}:∀ y,y ∈ l.map dI→y.cells.length=1:=fun y hy=>by obtain ⟨a,_,rfl⟩:=List.mem_map.1 hy;rfl
theorem zeros_snoc {n i:Nat}(h:i<n):(List.replicate n (0:Rat)).take (i+1)=(List.replicate n (0:Rat)).take i++[0]:=by
 rw [List.take_replicate,List.take_replicate,Nat.min_eq_left h,Nat.min_eq_left (Nat.le_of_lt h),List.replicate_succ']
theorem dotF_sz {v w:List Rat}{B i:Nat}(hv:∀ i,sz (v.getD i 0)≤B)(hw:∀ i,sz (w.getD i 0)≤1):sz (dotF v w i)≤1+i*(B+1+1):=sumN_szL i fun j _=>by
 have:=sz_mul (v.getD j 0) (w.getD j 0)
 have:=hv j
 have:=hw j
 omega
structure Au.Wt (a:Au):Prop where
 ok:a.Ok
 sz:a.Sz 1 10
 s2:a.sym≤32
 st:a.st≤64
theorem Au.Wt.wide {a:Au}(f:Au.Wt a):a.Sz 134217728 20:=Go.AL.Au.Sz.wide f.sz
theorem step_sz {a:Au}(f:Au.Wt a){v:List Rat}{B s i j:Nat}(hv:∀ i,sz (v.getD i 0)≤B):sz ((stepF a.st v s (a.arcs.take i)).getD j 0)≤10*(B+2)+1:=by
 have h2:(a.arcs.take i).length≤a.arcs.length:=by rw [List.length_take];exact Nat.min_le_right ..
 exact stepF_sz hv (fun x hx=>⟨(f.ok.arc x (List.mem_of_mem_take hx)).2.1,f.sz.arc x (List.mem_of_mem_take hx)⟩) (Nat.le_trans h2 f.sz.num)
theorem addF_t {v out:List Rat}{s:Nat}{x:Arc9}(h:x.l=s):addF v s out x=out.set x.t (out.getD x.t 0+v.getD x.f 0*x.q):=if_pos h
theorem addF_f {v out:List Rat}{s:Nat}{x:Arc9}(h:¬ x.l=s):addF v s out x=out:=if_neg h
theorem r5Valid {w:List Int}{s:Nat}(hs:1≤s∧s≤32)(hw:InW s w)(hl:w.length≤256):FSpec P F.ref05_Valid [.d (ints w),.d (dI s)] (.d (dB true)):=by
 refine FSpec.intro fn.ref05_Valid (by rfl) (by rfl) (nb9 (by rfl)) fun E hE=>(AW.sg hE rfl (asD rfl (OL.nil (AW.seq (AW.sg hE rfl (mvD rfl (clv rfl (VLes.refl _) (r5Alpha (s:=s) hs) ?_)))))))
 refine nt rfl (mvD rfl (OL.yes rfl (mvD rfl (OL.yes rfl (lnL sl.ints rfl rfl (OL.yes rfl (c_gtr rfl rfl (c:=false) (by exact decide_eq_false (by omega)) ?_)))))))
 refine pkF rfl rfl (OL.nil (AW.cond rfl (fun hno=>absurd hno (by decide)) (fun _=>?_)))
 refine AW.skip (AW.seq (AW.sg hE rfl (asD rfl (OL.nil (AW.block (AW.whileK (α:=Nat) [(0,_),(1,_)] [] (fun i=>[(5,.d (dI i))]) (fun i=>[]) (fun i=>i≤w.length) (fun i=>w.length-i) 0 (.cons (knD rfl) (.cons (knD rfl) .nil)) .nil ⟨Nat.zero_le _,.rq1,.nil⟩ ?_))))))
 rintro i h1
 have h1:i≤w.length:=h1
 refine AW.seq (AW.sg hE rfl (mvD rfl (mvD rfl (lnL sl.ints rfl rfl (c_lss rfl rfl rfl (OL.nil (AW.cond rfl (fun h17=>?_) (fun h17=>?_))))))))
 ·try simp only [dx9] at h17
  refine AW.skip (AW.seq (AW.block (AW.seq ?_)))
  have hx:=hw (w.getD i 0) (getD_mem (by omega) 0)
  refine AW.rg hE rfl (mvD rfl (mvD rfl (ixLn sl.ints 0 rfl rfl (by omega) rfl rfl (ldRC ce.int rfl (c_lss rfl rfl (c:=false) (by exact decide_eq_false (by omega)) (mvD rfl (OL.yes rfl ?_)))))))
  refine mvD rfl (OL.yes rfl (mvD rfl (OL.yes rfl (ixLn sl.ints 0 rfl rfl (by omega) rfl rfl (OL.yes rfl (ldRC ce.int rfl (OL.yes rfl ?_)))))))
  refine mvD rfl (OL.yes rfl (c_gtr rfl rfl (c:=false) (by exact decide_eq_false (by omega)) (pkF rfl rfl (OL.nil (AW.cond rfl (fun hno=>absurd hno (by decide)) (fun _=>?_))))))
  exact AW.skip (AW.rg hE rfl (mvD rfl (add_i64 rfl rfl (by omega) (asD rfl (OL.nil (AW.again (x:=i) (i+1) (by omega) ⟨by omega,Knows.app .rq2 .rq1,.nil⟩))))))
 ·try simp only [dx9] at h17
  exact AW.exit (AW.sg hE rfl (asD rfl (OL.nil (AW.ret (RetQ.r ⟨_,.tmp rfl .nil,.le vR⟩)))))
theorem r3Zeros {n:Nat}(hn:n≤64):FSpecR P F.ref03_Zeros [vRing,.d (dI n)] n T.Weight 8 ((List.replicate n (0:Rat)).map dW):=by
 have hzl:(List.replicate n (0:Rat)).length=n:=List.length_replicate
 refine FSpecR.intro fn.ref03_Zeros (by rfl) (by rfl) (nb9 (by rfl)) 4 rfl fun E hE=>(AW.sg hE rfl (bxA rfl rfl fun b2=>(asM rfl (OL.nil (AW.sg hE rfl (asM rfl (OL.nil ?_)))))))
 refine AW.seq (AW.seq (AW.own 5 16 T.Weight 8 rfl rfl (AW.rg hE rfl (asD rfl (OL.nil (AW.block ?_))))))
 refine AW.whileK (α:=Nat × Nat × Nat) [(1,_),(2,_),(4,_)] [(2,_)] (fun (i,bq,cq)=>[(5,.osl 16 bq i cq),(6,.d (dI i))]) (fun (i,bq,cq)=>[(16,.row bq cq T.Weight 8 (((List.replicate n (0:Rat)).take i).map dW))]) (fun (i,bq,cq)=>i≤n) (fun (i,bq,cq)=>n-i) (0,0,0) (.cons (knD rfl) (.cons (knP rfl) (.cons (knM rfl) .nil))) (.cons (owB rfl) .nil) ⟨Nat.zero_le _,.rq2,.cons rfl .nil⟩ ?_
 rintro ⟨i,bq,cq⟩ h1
 have h1:i≤n:=h1
 refine AW.seq (AW.sg hE rfl (mvD rfl (mvD rfl (c_lss rfl rfl rfl (OL.nil (AW.cond rfl (fun h9=>?_) (fun h9=>?_)))))))
 ·try simp only [dx9] at h9
  refine AW.skip (AW.seq (AW.block (AW.rg hE rfl (mvO rfl (ldPA ag.Ring rfl rfl (vs:=[_,_]) rfl (nb9 rfl) (clv rfl (VLes.refl _) (r3Zero) (lt1 (y:=dW 0) sl.Weights vd_w rfl (by decide) ?_)))))))
  refine apO sl.Weights rfl rfl rfl (by rw [lm9,List.length_take];omega) (VC.d _) (fun y hy=>by rw [List.mem_singleton.1 hy];rfl) (by simp only [ls9];omega) (by simp only [ls9];omega) (.inr rfl) (ys:=((List.replicate n (0:Rat)).take (i+1)).map dW) (by rw [zeros_snoc (by omega),List.map_append];rfl) (n2:=i+1) rfl fun b16 c16=>?_
  exact asO rfl (OL.nil (AW.rg hE rfl (mvD rfl (add_i64 rfl rfl (by omega) (asD rfl (OL.nil (AW.again (x:=(i,bq,cq)) (i+1,b16,c16) (by (simp only [];omega)) ⟨by omega,Knows.app .rq3 .rq2,Owns.app (.cons rfl .nil) (.cons rfl .nil)⟩)))))))
 ·try simp only [dx9] at h9
  refine AW.exit (AW.seq ?_)
  obtain rfl:i=n:=by omega
  have e9:(List.replicate i (0:Rat)).take i=List.replicate i 0:=List.take_of_length_le (by omega)
  exact AW.rg hE rfl (mvO rfl (asO rfl (OL.nil (AW.ret ⟨.inr rfl,16,bq,cq,((List.replicate i (0:Rat)).take i).map dW,rfl,rfl,by rw [e9,lm9];omega,by rw [e9];exact List.take_of_length_le (by rw [lm9];omega)⟩))))
theorem r8Plain {a:Au}(f:Au.Wt a):FSpec P F.ref08_Plain [vAu a] (.d (dB true)):=by
 have e3:=f.wide.num
 have e4:=formA_len a.arcs
 have hfo:∀ x,x ∈ formA a.arcs→x.f<a.st∧x.t<a.st∧1≤x.l∧x.l≤a.sym:=f.ok.form.arc
 refine FSpec.intro fn.ref08_Plain (by rfl) (by rfl) (nb9 (by rfl)) fun E hE=>(AW.sg hE rfl (bxA rfl rfl fun b1=>(asD rfl (OL.nil (AW.sg hE rfl (faP fd.Auto_0 rfl rfl (ldPA ag.Ring rfl rfl (vs:=[_,_]) rfl (nb9 rfl) ?_)))))))
 refine faP fd.Auto_5 rfl rfl (ldPC ce.Arcs rfl rfl rfl (clv rfl (VLes.refl _) (r6Arcs (l:=a.arcs) e3 f.wide.arc) (asD rfl (OL.nil (AW.seq (AW.sg hE rfl (asD rfl ?_)))))))
 refine OL.nil (AW.block (AW.whileK (α:=Nat) [(3,_)] [] (fun i=>[(4,.d (dI i))]) (fun i=>[]) (fun i=>i≤(formA a.arcs).length) (fun i=>(formA a.arcs).length-i) 0 (.cons (knD rfl) .nil) .nil ⟨Nat.zero_le _,.rq1,.nil⟩ ?_))
 rintro i h1
 have h1:i≤(formA a.arcs).length:=h1
 refine AW.seq (AW.sg hE rfl (mvD rfl (mvD rfl (lnL sl.Arcs rfl rfl (c_lss rfl rfl rfl (OL.nil (AW.cond rfl (fun h13=>?_) (fun h13=>?_))))))))
 ·try simp only [dx9] at h13
  refine AW.skip (AW.seq (AW.block (AW.seq ?_)))
  have hx:=(hfo ((formA a.arcs).getD i default) (getD_mem (by omega) default)).2.2.1
  refine AW.rg hE rfl (mvD rfl (mvD rfl (ixLn sl.Arcs default rfl rfl (by omega) rfl rfl (faR fd.Arc_1 rfl rfl (ldRC ce.int rfl (c_eql rfl rfl (c:=false) (by exact decide_eq_false (by omega)) (OL.nil ?_)))))))
  refine AW.cond rfl (fun hno=>absurd hno (by decide)) (fun _=>?_)
  exact AW.skip (AW.rg hE rfl (mvD rfl (add_i64 rfl rfl (by omega) (asD rfl (OL.nil (AW.again (x:=i) (i+1) (by omega) ⟨by omega,Knows.app .rq1 .rq1,.nil⟩))))))
 ·try simp only [dx9] at h13
  exact AW.exit (AW.sg hE rfl (asD rfl (OL.nil (AW.ret (RetQ.r ⟨_,.tmp rfl .nil,.le vR⟩)))))
theorem r8check {a:Au}{w:List Int}(f:Au.Wt a)(hw:InW a.sym w)(hl:w.length≤4):FSpec P F.ref08_check [vAu a,.d (ints w)] (.d (dI 0)):=by
 have h0:=f.ok.sym0
 have s2:=f.s2
 refine FSpec.intro fn.ref08_check (by rfl) (by rfl) (nb9 (by rfl)) fun E hE=>(AW.sg hE rfl (bxA rfl rfl fun b2=>(asD rfl (OL.nil (AW.seq (AW.block (AW.sg hE rfl ?_)))))))
 refine ldPA ag.Auto rfl rfl (vs:=[_,_,_,_,_,_,_]) rfl (nb9 rfl) (clv rfl (VLes.refl _) (r6Valid (a:=a) f.ok f.wide f.s2 f.st) (nt rfl (asD rfl (OL.nil (AW.cond rfl (fun hno=>absurd hno (by decide)) (fun _=>?_))))))
 refine AW.sg hE rfl (ldPA ag.Auto rfl rfl (vs:=[_,_,_,_,_,_,_]) rfl (nb9 rfl) (clv rfl (VLes.refl _) (r8Plain f) (nt rfl (asD rfl (OL.nil (AW.cond rfl (fun hno=>absurd hno (by decide)) (fun _=>?_)))))))
 refine AW.sg hE rfl (mvD rfl (faP fd.Auto_1 rfl rfl (ldPC ce.int rfl rfl rfl (clv rfl (VLes.refl _) (r5Valid (w:=w) (s:=a.sym) (by omega) hw (by omega)) (nt rfl (asD rfl (OL.nil ?_)))))))
 refine AW.cond rfl (fun hno=>absurd hno (by decide)) (fun _=>?_)
 exact AW.skip (AW.sg hE rfl (asD rfl (OL.nil (AW.ret (RetQ.r ⟨_,.tmp rfl .nil,.le vR⟩)))))
set_option maxRecDepth 8000 in
set_option maxHeartbeats 1600000 in
theorem r8step {a:Au}{v:List Rat}{s:Nat}(f:Au.Wt a)(hv:v.length=a.st)(hz:∀ i,sz (v.getD i 0)≤33331):FSpec P F.ref08_step [vAu a,.d (dWs v),.d (dI s)] (.d (dWs (stepF a.st v s a.arcs))):=by
 have e3:=f.wide.num
 have s2:=f.st
 refine FSpec.intro fn.ref08_step (by rfl) (by rfl) (nb9 (by rfl)) fun E hE=>(AW.sg hE rfl (bxA rfl rfl fun b3=>(asM rfl (OL.nil (AW.sg hE rfl (faP fd.Auto_0 rfl rfl (ldPA ag.Ring rfl rfl (vs:=[_,_]) rfl (nb9 rfl) ?_)))))))
 refine faP fd.Auto_2 rfl rfl (ldPC ce.int rfl rfl rfl (clR rfl .rq2 (r3Zeros (n:=a.st) s2) rfl fun b14 c14=>(asO rfl (OL.nil (AW.seq (AW.sg hE rfl (asD rfl ?_)))))))
 refine OL.nil (AW.block ?_)
 refine AW.whileK (α:=Nat) [(1,_),(2,_),(3,_),(6,_),(7,_)] [(3,_)] (fun i=>[(8,.d (dI i))]) (fun i=>[(14,.row b14 c14 T.Weight 8 ((stepF a.st v s (a.arcs.take i)).map dW))]) (fun i=>i≤a.arcs.length) (fun i=>a.arcs.length-i) 0 (.cons (knD rfl) (.cons (knD rfl) (.cons (knP rfl) (.cons (knM rfl) (.cons (knO rfl) .nil))))) (.cons (owB rfl) .nil) ⟨Nat.zero_le _,.rq1,.cons rfl .nil⟩ ?_
 rintro i h1
 have h1:i≤a.arcs.length:=h1
 have hsl:(stepF a.st v s (a.arcs.take i)).length=a.st:=stepF_len
 refine AW.seq (AW.sg hE rfl (mvD rfl (faP fd.Auto_5 rfl rfl (ldPC ce.Arcs rfl rfl rfl (lnL sl.Arcs rfl rfl (c_lss rfl rfl rfl (OL.nil ?_)))))))
 refine AW.cond rfl (fun h19=>?_) (fun h19=>?_)
 ·try simp only [dx9] at h19
  refine AW.skip (AW.seq (AW.block (AW.seq ?_)))
  have hm:=getD_mem (l:=a.arcs) (i:=i) (by omega) default
  obtain ⟨hx1,hx2,hx3,hx4⟩:=f.ok.arc (a.arcs.getD i default) hm
  have hxz:=f.sz.arc (a.arcs.getD i default) hm
  have hz1:=hz (a.arcs.getD i default).f
  have hz2:=step_sz f (i:=i) (j:=(a.arcs.getD i default).t) (s:=s) hz
  have hz3:=sz_mul (v.getD (a.arcs.getD i default).f 0) (a.arcs.getD i default).q
  refine AW.rg hE rfl (faP fd.Auto_5 rfl rfl (ldPC ce.Arcs rfl rfl rfl (mvD rfl (ixLn sl.Arcs default rfl rfl (by omega) rfl rfl (ldRA ag.Arc rfl (vs:=[_,_,_,_,_,_,_,_,_,_,_]) rfl (nb9 rfl) (al z.Arc rfl fun b9=>(sto sz.Arc rfl rfl rfl rfl rfl (nb9 rfl) (cells2:=[_,_,_,_,_,_,_,_,_,_,_]) rfl ?_)))))))
  refine OL.nil (AW.sg hE rfl (faP fd.Arc_1 rfl rfl (ldPC ce.int rfl rfl rfl (mvD rfl (c_eql rfl rfl rfl (OL.split 30 rfl (fun hc=>?_) (fun hc=>?_)))))))
  ·have hc:(a.arcs.getD i default).l=s:=by have:=of_decide_eq_true hc;omega
   refine OL.nil (AW.cond rfl (fun _=>?_) (fun hno=>absurd hno (by decide)))
   refine AW.dg 1 [0,1,2,3,4,5,6,7,8,9,10,11,12,13,14,15,16,17,18,19,20,21,22] order_free hE rfl (by kernel_rfl) (OI.of_OL (os:=[_,_,_,_,_,_,_,_,_,_,_,_,_,_,_,_,_,_,_,_,_,_,_]) rfl ?_)
   refine mvO rfl (faP fd.Arc_2 rfl rfl (ldPC ce.int rfl rfl rfl (faP fd.Auto_0 rfl rfl (ldPA ag.Ring rfl rfl (vs:=[_,_]) rfl (nb9 rfl) (mvO rfl (faP fd.Arc_2 rfl rfl (ldPC ce.int rfl rfl rfl ?_)))))))
   refine ixOn sl.Weights rfl rfl (by omega) ?_
   refine ldEA ag.Weight (by decide) rfl rfl (rowW_el (show (a.arcs.getD i default).t<(stepF a.st v s (a.arcs.take i)).length by omega)) (vs:=[.d (dB (ofQ ((stepF a.st v s (a.arcs.take i)).getD (a.arcs.getD i default).t 0)).neg),.d (u32s (ofQ ((stepF a.st v s (a.arcs.take i)).getD (a.arcs.getD i default).t 0)).num),.d (u32s (ofQ ((stepF a.st v s (a.arcs.take i)).getD (a.arcs.getD i default).t 0)).den),.d (dI 0),.d (dB false),.d (dU 0),.d (.sl []),.d (.sl [])]) rfl (nb9 rfl) ?_
   refine faP fd.Auto_0 rfl rfl (ldPA ag.Ring rfl rfl (vs:=[_,_]) rfl (nb9 rfl) (mvD rfl (faP fd.Arc_0 rfl rfl (ldPC ce.int rfl rfl rfl (ixLn sl.Weights 0 rfl rfl (by omega) rfl rfl (ldRA ag.Weight rfl (vs:=[_,_,_,_,_,_,_,_]) rfl (nb9 rfl) (faP fd.Arc_3 rfl rfl ?_)))))))
   refine ldPA ag.Weight rfl rfl (vs:=[_,_,_,_,_,_,_,_]) rfl (nb9 rfl) (clv rfl (VLes.refl _) (r3Times (p:=v.getD (a.arcs.getD i default).f 0) (q:=(a.arcs.getD i default).q) (by omega) (by omega)) (clv rfl (VLes.refl _) (r3Plus (p:=(stepF a.st v s (a.arcs.take i)).getD (a.arcs.getD i default).t 0) (q:=v.getD (a.arcs.getD i default).f 0*(a.arcs.getD i default).q) (by omega) (by omega)) (ixOn sl.Weights rfl rfl (by omega) ?_)))
   refine stE sz.Weight rfl (d:=dW ((stepF a.st v s (a.arcs.take i)).getD (a.arcs.getD i default).t 0+v.getD (a.arcs.getD i default).f 0*(a.arcs.getD i default).q)) vd_w rfl rfl (by rw [lm9];omega) (es2:=((stepF a.st v s (a.arcs.take i)).set (a.arcs.getD i default).t ((stepF a.st v s (a.arcs.take i)).getD (a.arcs.getD i default).t 0+v.getD (a.arcs.getD i default).f 0*(a.arcs.getD i default).q)).map dW) (by rw [List.map_set]) ?_
   refine OL.nil (AW.rg hE rfl (mvD rfl (add_i64 rfl rfl (by omega) (asD rfl (OL.nil ?_)))))
   exact AW.again (x:=i) (i+1) (by omega) ⟨by omega,Knows.app .rq5 .rq1,Owns.app (.cons rfl .nil) (.cons (by rw [stepF_snoc (by omega),addF_t hc];rfl) .nil)⟩
  ·have hc:¬ (a.arcs.getD i default).l=s:=by have:=of_decide_eq_false hc;omega
   refine OL.nil (AW.cond rfl (fun hno=>absurd hno (by decide)) (fun _=>?_))
   refine AW.skip (AW.rg hE rfl (mvD rfl (add_i64 rfl rfl (by omega) (asD rfl (OL.nil ?_)))))
   exact AW.again (x:=i) (i+1) (by omega) ⟨by omega,Knows.app .rq5 .rq1,Owns.app (.cons rfl .nil) (.cons (by rw [stepF_snoc (by omega),addF_f hc];rfl) .nil)⟩
 ·try simp only [dx9] at h19
  refine AW.exit (AW.seq ?_)
  obtain rfl:i=a.arcs.length:=by omega
  exact AW.rg hE rfl (mvO rfl (asO rfl (OL.nil (AW.ret (RetQ.r ⟨_,.tmp rfl .nil,RO.all rfl rfl (by rw [lm9,stepF_len]) (by rw [List.take_length])⟩)))))
set_option maxHeartbeats 800000 in
theorem r8Forward {a:Au}{w:List Int}(f:Au.Wt a)(hw:InW a.sym w)(hl:w.length≤4):FSpec P F.ref08_Forward [vAu a,.d (ints w)] (.tup [.d (dWs (fwA a w)),.d (dI 0)]):=by
 have h0:=f.ok.sym0
 refine FSpec.intro fn.ref08_Forward (by rfl) (by rfl) (nb9 (by rfl)) fun E hE=>(AW.sg hE rfl (bxA rfl rfl fun b2=>(asM rfl (asD rfl (OL.nil (AW.seq (AW.sg hE rfl ?_)))))))
 refine ldPA ag.Auto rfl rfl (vs:=[_,_,_,_,_,_,_]) rfl (nb9 rfl) (mvD rfl (clv rfl (VLes.refl _) (r8check f hw hl) (asD rfl (OL.nil (AW.sg hE rfl (mvD rfl (c_neq rfl rfl (c:=false) (by exact cne_f (by omega)) ?_)))))))
 refine OL.nil (AW.cond rfl (fun hno=>absurd hno (by decide)) (fun _=>?_))
 refine AW.skip (AW.sg hE rfl (ldPA ag.Auto rfl rfl (vs:=[_,_,_,_,_,_,_]) rfl (nb9 rfl) (clv rfl (VLes.refl _) (r6Form (a:=a) f.ok f.wide f.st) (fdC fc.Auto_3 rfl rfl (asD rfl (OL.nil (AW.seq ?_)))))))
 refine AW.sg hE rfl (asD rfl (OL.nil (AW.block ?_)))
 refine AW.whileK (α:=Nat) [(1,_),(2,_),(4,_),(5,_)] [(2,_)] (fun i=>[(7,.d (dWs (fwA a (w.take i)))),(8,.d (dI i))]) (fun i=>[]) (fun i=>i≤w.length) (fun i=>w.length-i) 0 (.cons (knD rfl) (.cons (knP rfl) (.cons (knM rfl) (.cons (knD rfl) .nil)))) (.cons (owB rfl) .nil) ⟨Nat.zero_le _,.rq2,.nil⟩ ?_
 rintro i h1
 have h1:i≤w.length:=h1
 have hfz:∀ j,sz ((fwA a (w.take i)).getD j 0)≤33331:=fun j=>Nat.le_trans (fwA_sz f.ok f.sz w i h1 j) (fB_le (by omega))
 refine AW.seq (AW.sg hE rfl (mvD rfl (mvD rfl (lnL sl.ints rfl rfl (c_lss rfl rfl rfl (OL.nil (AW.cond rfl (fun h21=>?_) (fun h21=>?_))))))))
 ·try simp only [dx9] at h21
  refine AW.skip (AW.seq (AW.block ?_))
  have hx:=hw (w.getD i 0) (getD_mem (by omega) 0)
  refine AW.dg 1 [0,1,2,3,4,5,6,7] order_free hE rfl (by kernel_rfl) (OI.of_OL (os:=[_,_,_,_,_,_,_,_]) rfl ?_)
  refine ldPA ag.Auto rfl rfl (vs:=[_,_,_,_,_,_,_]) rfl (nb9 rfl) (mvD rfl (mvD rfl (mvD rfl (ixLn sl.ints 0 rfl rfl (by omega) rfl rfl (ldRC ce.int rfl (clv rfl (.cons vR (.cons vR (.cons (VLe.int (by omega)) .nil))) (r8step (a:=a) (v:=fwA a (w.take i)) (s:=(w.getD i 0).toNat) f (fwA_len f.ok _) hfz) (asD rfl ?_)))))))
  refine OL.nil (AW.rg hE rfl (mvD rfl (add_i64 rfl rfl (by omega) (asD rfl (OL.nil ?_)))))
  exact AW.again (x:=i) (i+1) (by omega) ⟨by omega,Knows.app .rq4 (.cons (by rw [fwA_snoc (by omega)];exact VLe.refl _) .rq1),Owns.app (.cons rfl .nil) (.nil)⟩
 ·try simp only [dx9] at h21
  refine AW.exit (AW.seq ?_)
  obtain rfl:i=w.length:=by omega
  exact AW.rg hE rfl (mvD rfl (asD rfl (asD rfl (OL.nil (AW.ret (RetQ.r ⟨_,.tmp rfl (.tmp rfl .nil),_,.cons (.le (by rw [List.take_length];exact VLe.refl _)) (.cons (.le vR) .nil),rfl⟩))))))
set_option maxHeartbeats 800000 in
theorem r8Dot {v u:List Rat}{n:Nat}(hv:v.length=n)(hu:u.length=n)(hn:n≤64)(zv:∀ i,sz (v.getD i 0)≤33331)(zu:∀ i,sz (u.getD i 0)≤1):FSpec P F.ref08_Dot [vRing,.d (dWs v),.d (dWs u)] (vW (dotF v u n)):=by
 refine FSpec.intro fn.ref08_Dot (by rfl) (by rfl) (nb9 (by rfl)) fun E hE=>(AW.sg hE rfl (bxA rfl rfl fun b3=>(al z.Weight rfl fun b6=>(OL.nil (AW.sg hE rfl (ldPA ag.Ring rfl rfl (vs:=[_,_]) rfl (nb9 rfl) (clv rfl (VLes.refl _) (r3Zero) ?_)))))))
 refine al z.Weight rfl fun b7=>(sto sz.Weight rfl rfl rfl rfl rfl (nb9 rfl) (cells2:=[_,_,_,_,_,_,_,_]) rfl (OL.nil (AW.seq (AW.sg hE rfl (asD rfl (OL.nil (AW.block ?_)))))))
 refine AW.whileK (α:=Nat) [(1,_),(2,_),(3,_),(6,_),(7,_)] [(3,_),(6,_)] (fun i=>[(8,.d (dI i))]) (fun i=>[(7,.box b7 T.Weight [.d (dB (ofQ (dotF v u i)).neg),.d (u32s (ofQ (dotF v u i)).num),.d (u32s (ofQ (dotF v u i)).den),.d (dI 0),.d (dB false),.d (dU 0),.d (.sl []),.d (.sl [])])]) (fun i=>i≤n) (fun i=>n-i) 0 (.cons (knD rfl) (.cons (knD rfl) (.cons (knP rfl) (.cons (knP rfl) (.cons (knP rfl) .nil))))) (.cons (owB rfl) (.cons (owB rfl) .nil)) ⟨Nat.zero_le _,.rq1,.cons rfl .nil⟩ ?_
 rintro i h1
 have h1:i≤n:=h1
 have z1:=zv i
 have z2:=zu i
 have z3:=sz_mul (v.getD i 0) (u.getD i 0)
 have z4:=dotF_sz (i:=i) zv zu
 refine AW.seq (AW.sg hE rfl (mvD rfl (mvD rfl (lnL sl.Weights rfl rfl (c_lss rfl rfl rfl (OL.split 14 rfl (fun ha=>?_) (fun ha=>?_)))))))
 ·have ha:i<n:=by have:=of_decide_eq_true ha;simp at this;omega
  refine mvD rfl (OL.yes rfl (mvD rfl (OL.yes rfl (mvD rfl (OL.yes rfl (lnL sl.Weights rfl rfl (OL.yes rfl ?_)))))))
  refine c_lss rfl rfl (c:=true) (decide_eq_true (by omega)) (pkT rfl rfl (OL.nil (AW.cond rfl (fun _=>?_) (fun hno=>absurd hno (by decide)))))
  refine AW.skip (AW.seq (AW.block (AW.dg 1 [0,1,2,3,4,5,6,7,8,9,10,11,12,13] order_free hE rfl (by kernel_rfl) (OI.of_OL (os:=[_,_,_,_,_,_,_,_,_,_,_,_,_,_]) rfl ?_))))
  refine ldPA ag.Ring rfl rfl (vs:=[_,_]) rfl (nb9 rfl) (ldPA ag.Weight rfl rfl (vs:=[_,_,_,_,_,_,_,_]) rfl (nb9 rfl) (ldPA ag.Ring rfl rfl (vs:=[_,_]) rfl (nb9 rfl) (mvD rfl (mvD rfl (ixLn sl.Weights 0 rfl rfl (by omega) rfl rfl (ldRA ag.Weight rfl (vs:=[_,_,_,_,_,_,_,_]) rfl (nb9 rfl) (mvD rfl ?_)))))))
  refine mvD rfl (ixLn sl.Weights 0 rfl rfl (by omega) rfl rfl (ldRA ag.Weight rfl (vs:=[_,_,_,_,_,_,_,_]) rfl (nb9 rfl) (clv rfl (VLes.refl _) (r3Times (p:=v.getD i 0) (q:=u.getD i 0) (by omega) (by omega)) (clv rfl (VLes.refl _) (r3Plus (p:=(dotF v u i)) (q:=v.getD i 0*u.getD i 0) (by omega) (by omega)) (sto sz.Weight rfl rfl rfl rfl rfl (nb9 rfl) (cells2:=[_,_,_,_,_,_,_,_]) rfl (OL.nil (AW.rg hE rfl ?_)))))))
  exact mvD rfl (add_i64 rfl rfl (by omega) (asD rfl (OL.nil (AW.again (x:=i) (i+1) (by omega) ⟨by omega,Knows.app .rq5 .rq1,Owns.app (.cons rfl (.cons rfl .nil)) (.cons rfl .nil)⟩))))
 ·have ha:¬ i<n:=by have:=of_decide_eq_false ha;simp at this;omega
  obtain rfl:i=n:=by omega
  refine mvD rfl (OL.nd rfl (OL.nd rfl (OL.nd rfl (OL.nd rfl (pkF rfl rfl (OL.nil (AW.cond rfl (fun hno=>absurd hno (by decide)) (fun _=>?_))))))))
  refine AW.exit (AW.sg hE rfl (ldPA ag.Weight rfl rfl (vs:=[_,_,_,_,_,_,_,_]) rfl (nb9 rfl) (sto sz.Weight rfl rfl rfl rfl rfl (nb9 rfl) (cells2:=[_,_,_,_,_,_,_,_]) rfl (OL.nil ?_))))
  exact AW.ret (RetQ.r ⟨_,.cellA rfl rfl ag.Weight (nb9 rfl) .nil,.ag (.cons (.le vR) (.cons (.le vR) (.cons (.le vR) (.cons (.le vR) (.cons (.le vR) (.cons (.le vR) (.cons (.le vR) (.cons (.le vR) .nil))))))))⟩)
set_option maxHeartbeats 800000 in
theorem r8Weight {a:Au}{w:List Int}(f:Au.Wt a)(hw:InW a.sym w)(hl:w.length≤4):FSpec P F.ref08_Weight [vAu a,.d (ints w)] (.tup [vW (serA a w),.d (dI 0)]):=by
 have hfz:∀ j,sz ((fwA a w).getD j 0)≤33331:=fun j=>by
   have h:=fwA_sz f.ok f.sz w w.length (Nat.le_refl _) j
   rw [List.take_length] at h
   exact Nat.le_trans h (fB_le hl)
 refine FSpec.intro fn.ref08_Weight (by rfl) (by rfl) (nb9 (by rfl)) fun E hE=>(AW.sg hE rfl (bxA rfl rfl fun b2=>(al z.Weight rfl fun b4=>(asD rfl (OL.nil (AW.sg hE rfl (ldPA ag.Auto rfl rfl (vs:=[_,_,_,_,_,_,_]) rfl (nb9 rfl) ?_)))))))
 refine mvD rfl (clv rfl (VLes.refl _) (r8Forward f hw hl) (mvT rfl (ex rfl rfl (ex rfl rfl (asD rfl (asD rfl (OL.nil ?_)))))))
 refine AW.seq (AW.sg hE rfl (mvD rfl (c_neq rfl rfl (c:=false) (by exact cne_f (by omega)) (OL.nil (AW.cond rfl (fun hno=>absurd hno (by decide)) (fun _=>?_))))))
 refine AW.skip (AW.sg hE rfl (faP fd.Auto_0 rfl rfl (ldPA ag.Ring rfl rfl (vs:=[_,_]) rfl (nb9 rfl) (mvD rfl (faP fd.Auto_4 rfl rfl (ldPC ce.Weights rfl rfl rfl (clv rfl (VLes.refl _) (r8Dot (v:=fwA a w) (u:=a.fin) (n:=a.st) (fwA_len f.ok w) f.ok.fin f.st hfz (fun i=>small_get f.sz.fin (Nat.le_refl _) i)) ?_)))))))
 rw [dotF_ser f.ok hw]
 refine sto sz.Weight rfl rfl rfl rfl rfl (nb9 rfl) (cells2:=[_,_,_,_,_,_,_,_]) rfl (asD rfl (OL.nil ?_))
 exact AW.ret (RetQ.r ⟨_,.cellA rfl rfl ag.Weight (nb9 rfl) (.tmp rfl .nil),_,.cons (.ag (.cons (.le vR) (.cons (.le vR) (.cons (.le vR) (.cons (.le vR) (.cons (.le vR) (.cons (.le vR) (.cons (.le vR) (.cons (.le vR) .nil))))))))) (.cons (.le vR) .nil),rfl⟩)
end Go.Proofs.YtfbblpngcmjooaaGreatDoor
