/-
  Walks of layers 3, 6 and 15 of the specification and of equal.Zero (printed by mk2.py).
-/
import Derived.Test.YtmcoihfkniccdaaGreatDoorKWkU
import Derived.Test.YtmcoihfkniccdaaGreatDoorKAlg38
import Derived.Test.YtmcoihfkniccdaaGreatDoorKMod91
set_option linter.unusedVariables false
set_option linter.unusedSimpArgs false
namespace Go.Proofs.YtmcoihfkniccdaaGreatDoor
open Go Go.AL
theorem eqbS {m:Nat}{ops:Array Oper}{K:S→Prop}{s:S}{dst:Option Nat}{ty:Nat}{pos:String}{after:Array Edge}{r:List Oper}{t yt:Nat}{x y:Operand}{a b:Bool}(hT:BoolT P t)(hx:s.ev x=.d (.sc (.bool a)))(hy:s.ev y=.d (.sc (.bool b)))(e:a=b)(h:OL P m ops K r (s.put dst (.d (.sc (.bool true))))):OL P m ops K (⟨dst,.binOp .eql t x y yt,ty,pos,after,none⟩ :: r) s :=
 eqb hT hx hy (by subst e;rw [beq_self_eq_true];exact h)
theorem take_auto {m:MModel}:Au.Take (autoOf m 2 3) 2 :=
 have ok:=auto_ok (m:=m) (sym:=2) (most:=3) (by decide) (by decide)
 have hs:=stOf_le (m:=m) (most:=3) (by decide)
 ⟨⟨ok,auto_sz.wide,rfl,(show 2≤32 by decide),(by show stOf m 3≤64;omega)⟩,auto_sz.few (by show stOf m 3≤6;omega),hs.1⟩
theorem auto6 {m n:MModel}:(autoOf m 2 3).st+(autoOf n 2 3).st≤6:=by
 have h1:=stOf_le (m:=m) (most:=3) (by decide)
 have h2:=stOf_le (m:=n) (most:=3) (by decide)
 show stOf m 3+stOf n 3≤6
 omega
end Go.Proofs.YtmcoihfkniccdaaGreatDoor
namespace Go.AL
open Go Go.BigFrame
section
variable {P:Program}{E:Env}{K:S→Prop}{s:S}{ty:Nat}{pos:String}{after:Array Edge}
theorem After.new1 {F F':Hp}{w w':World}{i:Nat}{blk:Blk}(h:After F noMem w F' (mem1 i blk) w'):Ext F w F' w' ∧ BlkOK F' w' blk∧∀ k,blk.owns k→w.heap.size≤k∧F' k=Option.none:=by
 have e:mem1 i blk i=some blk:=by unfold mem1;rw [if_pos rfl]
 exact ⟨⟨h.grow.mono fun i x=>owned_none i x,h.le,h.sim.imm,fun k p q=>(h.new k p q).resolve_right (owned_none k)⟩,h.sim.own i blk e,
  fun k hk=>⟨(h.mnew k ⟨i,blk,e,hk⟩).resolve_right (owned_none k),h.sim.apart i blk k e hk⟩⟩
theorem SO.callNew {α:Type}{f:Operand}{args:Array Operand}{ats:Array TypeId}{fid id:Nat}{caps args':List V}{blk:α→Blk}{res:α→V}{φ:α→Prop}{dst:Option Nat}{g:Option (Nat × Bool)}(hd:Below' E.n dst)
  (hf:s.ev f=.fn fid caps) (ha:VLes (args.toList.map s.ev++caps) args') (hs:FSpecE P fid args' noMem res (fun x=>mem1 id (blk x)) φ)
  (h:∀ x,φ x→K ((⟨s.ρ,upd s.M id (some (blk x))⟩:S).put dst (res x))):SO P E ⟨dst,.call { callee:=.value f,args:=args,argTypes:=ats },ty,pos,after,g⟩ K s:=fun F a w hr=>by
 have hf':=hr.eval f;rw [hf] at hf'
 generalize haf:a.eval f=af at hf'
 cases hf' with
 | @fn _ us _ hl hrr =>
  have hvs:SimVs F (args.toList.map a.eval++us) args':=simVs_le (simVs_app (simVs_map hr.eval _) ⟨hl,hrr⟩) ha
  have hcc:=hs.2 F w _ (sim_none hr.sim.imm) hvs
  unfold execOp
  have e1:(args.map a.eval++us.toArray)=(args.toList.map a.eval++us).toArray:=by simp
  simp only [resolve,haf,Deferred.ofValue,Sem.run_bind,Sem.run_pure,Result.andThen_ok,invoke,Array.empty_append,e1,run_call_fn hs.1]
  refine hcc.mono fun e2 w' ⟨x,hφ,v,F',he,hA,hv⟩=>?_
  obtain ⟨hx,hok,hfr⟩:=hA.new1
  exact ⟨v,he,F',_,hr.after_put (dst:=dst) (After.of_new hr.sim hx id _ hok hfr) hd (v:=res x) hv,h x hφ⟩
theorem RO.all {M Mk:Mem}{id b n c e sz:Nat}{es:List D}{d:D}(hM:M id=some (.row b c e sz es))(hk:Mk id=Option.none)(hn:n=es.length)(hd:d=.sl es):RO M Mk (.osl id b n c) (.d d):=by
 subst hn hd
 have h:=RO.osl (M:=M) (Mk:=Mk) hM hk (Nat.le_refl es.length)
 rwa [List.take_length] at h
end
end Go.AL
namespace Go.Proofs.YtmcoihfkniccdaaGreatDoor
open Go Go.AL
theorem ws_len {l:List Rat}:∀ y,y ∈ l.map dW→y.cells.length=8:=fun y hy=>by obtain ⟨a,_,rfl⟩:=mm9 hy;rfl
theorem moved_snoc {l:List Arc9}{n i:Nat}(hi:i<l.length):(moved l n).take (i+1)=(moved l n).take i++[⟨(l.getD i default).f+n,(l.getD i default).l,(l.getD i default).t+n,(l.getD i default).q⟩]:=by
 rw [take_snoc9 default (by rw [moved_len];exact hi)]
 congr 2
 unfold moved
 rw [gd9,List.getElem?_map,gd9,ge9 hi]
 rfl
theorem rowW_el {l:List Rat}{i:Nat}(hi:i<l.length):(l.map dW)[i]? = some (dW (l.getD i 0)):=by rw [List.getElem?_map,gd9,ge9 hi];rfl
abbrev sclT (l:List Rat)(q:Rat)(i:Nat):List Rat:=(l.take i).map (fun x=>x*q)++l.drop i
theorem sclT_len {l:List Rat}{q:Rat}{i:Nat}(hi:i≤l.length):(sclT l q i).length=l.length:=by simp [sclT];omega
theorem sclT_get {l:List Rat}{q:Rat}{i:Nat}(hi:i<l.length):(sclT l q i).getD i 0=l.getD i 0:=by
 have hl:((l.take i).map (fun x=>x*q)).length=i:=by rw [lm9,List.length_take];omega
 rw [gd9,List.getElem?_append_right (by omega),hl,Nat.sub_self,List.getElem?_drop,Nat.add_zero,gd9]
theorem sclT_set {l:List Rat}{q:Rat}{i:Nat}(hi:i<l.length):(sclT l q i).set i (l.getD i 0*q)=sclT l q (i+1):=by
 have hl:((l.take i).map (fun x=>x*q)).length=i:=by rw [lm9,List.length_take];omega
 unfold sclT
 rw [List.set_append_right _ _ (by omega),hl,Nat.sub_self,List.drop_eq_getElem_cons hi,List.set_cons_zero,take_snoc9 0 hi,List.map_append,List.append_assoc]
 rfl
theorem sclT_all {l:List Rat}{q:Rat}:sclT l q l.length=l.map fun x=>x*q:=by simp [sclT]
theorem r3SameR  : FSpec P F.ref03_Same [vRing,vRing] (.d (dB true)):=by
 refine FSpec.intro fn.ref03_Same (by rfl) (by rfl) (nb9 (by rfl)) fun E hE=>(AW.sg hE rfl (bxA rfl rfl fun b2=>(bxA rfl rfl fun b3=>(asD rfl (OL.nil (AW.seq (AW.sg hE rfl ?_)))))))
 refine faP fd.Ring_0 rfl rfl (ldPC ce.int rfl rfl rfl (faP fd.Ring_0 rfl rfl (ldPC ce.int rfl rfl rfl (c_neq rfl rfl (c:=false) (cne_f rfl) (mvD rfl (OL.yes rfl (faP fd.Ring_1 rfl rfl ?_)))))))
 refine OL.yes rfl (ldPC ce.ints rfl rfl rfl (OL.yes rfl (lnD sl.ints rfl rfl rfl (OL.yes rfl (faP fd.Ring_1 rfl rfl (OL.yes rfl (ldPC ce.ints rfl rfl rfl ?_)))))))
 refine OL.yes rfl (lnD sl.ints rfl rfl rfl (OL.yes rfl (c_neq rfl rfl (c:=false) (cne_f rfl) (pkF rfl rfl (OL.nil (cnF rfl ?_))))))
 refine AW.skip (AW.seq (AW.sg hE rfl (asD rfl (OL.nil (AW.block (AW.whileK (α:=Unit) [(2,_),(3,_)] [(2,_),(3,_)] (fun _u=>[(5,.d (dI 0))]) (fun _u=>[]) (fun _u=>True) (fun _u=>0) () (.cons (knP rfl) (.cons (knP rfl) .nil)) (.cons (owB rfl) (.cons (owB rfl) .nil)) ⟨trivial,.rq1,.nil⟩ ?_))))))
 intro _ _
 refine AW.seq (AW.sg hE rfl (mvD rfl (faP fd.Ring_1 rfl rfl (ldPC ce.ints rfl rfl rfl (lnD sl.ints rfl rfl rfl (c_lss rfl rfl rfl (OL.nil ?_)))))))
 refine AW.cond rfl (fun hno=>absurd hno (by simp)) (fun _=>?_)
 exact AW.exit (AW.sg hE rfl (asD rfl (OL.nil (AW.ret (RetQ.r ⟨_,.tmp rfl .nil,.le vR⟩)))))
theorem r3Times {p q:Rat}(hp:sz p≤68719476736)(hq:sz q≤68719476736):FSpec P F.ref03_Times [vRing,vW p,vW q] (vW (p*q)):=by
 refine FSpec.intro fn.ref03_Times (by rfl) (by rfl) (nb9 (by rfl)) fun E hE=>(AW.sg hE rfl (bxA rfl rfl fun b3=>(bxA rfl rfl fun b4=>(bxA rfl rfl fun b5=>(al z.Weight rfl fun b6=>(OL.nil (AW.seq ?_)))))))
 refine AW.sg hE rfl (ldPA ag.Ring rfl rfl (vs:=[_,_]) rfl (nb9 rfl) (clv rfl .rq1 (r3Valid) (nt rfl (OL.nil (cnF rfl ?_)))))
 refine AW.skip (AW.seq (AW.dg 1 [0,1,2,3,4,5,6,7] order_free hE rfl (by kernel_rfl) (OI.of_OL (os:=[_,_,_,_,_,_,_,_]) rfl ?_)))
 refine ldPA ag.Ring rfl rfl (vs:=[_,_]) rfl (nb9 rfl) (ldPA ag.Weight rfl rfl (vs:=[_,_,_,_,_,_,_,_]) rfl (nb9 rfl) (clv rfl vL (r3Take hp) (ldPA ag.Ring rfl rfl (vs:=[_,_]) rfl (nb9 rfl) (ldPA ag.Weight rfl rfl (vs:=[_,_,_,_,_,_,_,_]) rfl (nb9 rfl) (clv rfl vL (r3Take hq) (sto sz.Weight rfl rfl rfl rfl rfl (nb9 rfl) (cells2:=[_,_,_,_,_,_,_,_]) rfl (sto sz.Weight rfl rfl rfl rfl rfl (nb9 rfl) (cells2:=[_,_,_,_,_,_,_,_]) rfl ?_)))))))
 refine OL.nil (AW.seq (AW.sg hE rfl (faP fd.Ring_0 rfl rfl (ldPC ce.int rfl rfl rfl (OL.nil (AW.block (AW.seq ?_)))))))
 refine AW.sg hE rfl (c_eql rfl rfl (c:=true) (by exact decide_eq_true (by omega)) (asD rfl (OL.nil (cnT rfl ?_))))
 refine AW.skip (cnT rfl ?_)
 refine AW.sg hE rfl (faP fd.Weight_0 rfl rfl (ldPA ag.Rat rfl rfl (vs:=[_,_,_]) rfl (nb9 rfl) (faP fd.Weight_0 rfl rfl (ldPA ag.Rat rfl rfl (vs:=[_,_,_]) rfl (nb9 rfl) (clv rfl vL (ref_MulQ (x:=p) (y:=q) hp hq) (bd z.Weight pl.Weight (cs:=[_,_,_,_,_,_,_,_]) rfl (sto sz.Weight rfl rfl rfl rfl rfl (nb9 rfl) (cells2:=[_,_,_,_,_,_,_,_]) rfl ?_)))))))
 exact OL.nil (AW.ret (RetQ.r ⟨_,.cellA rfl rfl ag.Weight (nb9 rfl) .nil,.le vle_wq⟩))
theorem r6Weights {l:List Rat}(nl:l.length≤64)(hz:∀ x,x ∈ l→sz x≤134217728):FSpec P F.ref06_Weights [vRing,.d (dWs l),.d (dI l.length)] (.d (dB true)):=by
 refine FSpec.intro fn.ref06_Weights (by rfl) (by rfl) (nb9 (by rfl)) fun E hE=>(AW.sg hE rfl (bxA rfl rfl fun b3=>(asD rfl (OL.nil (AW.seq (AW.sg hE rfl (mvD rfl ?_)))))))
 refine lnL sl.Weights rfl rfl (mvD rfl (c_neq rfl rfl (c:=false) (cne_f rfl) (OL.nil (cnF rfl ?_))))
 refine AW.skip (AW.seq (AW.sg hE rfl (asD rfl (OL.nil (AW.block ?_)))))
 refine AW.whileK (α:=Nat) [(1,_),(2,_),(3,_)] [(3,_)] (fun i=>[(7,.d (dI i))]) (fun i=>[]) (fun i=>i≤l.length) (fun i=>l.length-i) 0 (.cons (knD rfl) (.cons (knD rfl) (.cons (knP rfl) .nil))) (.cons (owB rfl) .nil) ⟨Nat.zero_le _,.rq1,.nil⟩ ?_
 rintro i h1
 have h1:i≤l.length:=h1
 refine AW.seq (AW.sg hE rfl (mvD rfl (mvD rfl (c_lss rfl rfl rfl (OL.nil (AW.cond rfl (fun h14=>?_) (fun h14=>?_)))))))
 ·try simp only [dx9] at h14
  refine AW.skip (AW.seq (AW.block (AW.seq ?_)))
  have hx:=hz (l.getD i 0) (getD_mem (by omega) 0)
  refine AW.dg 1 [0,1,2,3,4,5,6] order_free hE rfl (by kernel_rfl) (OI.of_OL (os:=[_,_,_,_,_,_,_]) rfl ?_)
  refine ldPA ag.Ring rfl rfl (vs:=[_,_]) rfl (nb9 rfl) (mvD rfl (mvD rfl (ixLn sl.Weights 0 rfl rfl (by omega) rfl rfl (ldRA ag.Weight rfl (vs:=[_,_,_,_,_,_,_,_]) rfl (nb9 rfl) (clv rfl vL (r3Check (q:=(l.getD i 0)) (by omega)) (nt rfl (OL.nil ?_)))))))
  refine cnF rfl ?_
  exact AW.skip (AW.rg hE rfl (mvD rfl (add_i64 rfl rfl (by omega) (asD rfl (OL.nil (AW.again (x:=i) (i+1) (by omega) ⟨by omega,Knows.app .rq3 .rq1,Owns.app (.cons rfl .nil) (.nil)⟩))))))
 ·try simp only [dx9] at h14
  exact AW.exit (AW.sg hE rfl (asD rfl (OL.nil (AW.ret (RetQ.r ⟨_,.tmp rfl .nil,.le vR⟩)))))
set_option maxHeartbeats 3200000 in
theorem r6Valid {a:Au}(h:a.Ok)(za:a.Sz 134217728 20)(s1:a.sym≤32)(s2:a.st≤64):FSpec P F.ref06_Valid [vAu a] (.d (dB true)):=by
 have e1:=h.ini
 have e2:=h.fin
 have e3:=za.num
 have h0:=h.sym0
 refine FSpec.intro fn.ref06_Valid (by rfl) (by rfl) (nb9 (by rfl)) fun E hE=>(AW.sg hE rfl (bxA rfl rfl fun b1=>(asD rfl (OL.nil (AW.seq (AW.sg hE rfl (faP fd.Auto_0 rfl rfl ?_)))))))
 refine ldPA ag.Ring rfl rfl (vs:=[_,_]) rfl (nb9 rfl) (clv rfl .rq1 (r3Valid) (nt rfl (mvD rfl (OL.yes rfl (faP fd.Auto_1 rfl rfl (OL.yes rfl (ldPC ce.int rfl rfl rfl ?_)))))))
 refine OL.yes rfl (clv rfl vL (r5Alpha (s:=a.sym) (by omega)) (OL.yes rfl (nt rfl (pkF rfl rfl (mvD rfl (OL.yes rfl (faP fd.Auto_2 rfl rfl ?_)))))))
 refine OL.yes rfl (ldPC ce.int rfl rfl rfl (OL.yes rfl (clv rfl vL (r6In (v:=a.st) (lo:=0) (hi:=64) (by omega)) (OL.yes rfl (nt rfl (pkF rfl rfl (mvD rfl ?_)))))))
 refine OL.yes rfl (faP fd.Auto_0 rfl rfl (OL.yes rfl (ldPA ag.Ring rfl rfl (vs:=[_,_]) rfl (nb9 rfl) (OL.yes rfl (faP fd.Auto_3 rfl rfl (OL.yes rfl (ldPC ce.Weights rfl rfl rfl ?_)))))))
 refine OL.yes rfl (faP fd.Auto_2 rfl rfl (OL.yes rfl (ldPC ce.int rfl rfl rfl (OL.yes rfl (clv rfl (.cons vR (.cons vR (.cons (VLe.int (by omega)) .nil))) (r6Weights (l:=a.ini) (by omega) za.ini) (OL.yes rfl (nt rfl ?_)))))))
 refine pkF rfl rfl (mvD rfl (OL.yes rfl (faP fd.Auto_0 rfl rfl (OL.yes rfl (ldPA ag.Ring rfl rfl (vs:=[_,_]) rfl (nb9 rfl) (OL.yes rfl (faP fd.Auto_4 rfl rfl ?_)))))))
 refine OL.yes rfl (ldPC ce.Weights rfl rfl rfl (OL.yes rfl (faP fd.Auto_2 rfl rfl (OL.yes rfl (ldPC ce.int rfl rfl rfl (OL.yes rfl (clv rfl (.cons vR (.cons vR (.cons (VLe.int (by omega)) .nil))) (r6Weights (l:=a.fin) (by omega) za.fin) ?_)))))))
 refine OL.yes rfl (nt rfl (pkF rfl rfl (mvD rfl (OL.yes rfl (faP fd.Auto_5 rfl rfl (OL.yes rfl (ldPC ce.Arcs rfl rfl rfl ?_)))))))
 refine OL.yes rfl (lnL sl.Arcs rfl rfl (OL.yes rfl (c_gtr rfl rfl (c:=false) (by exact decide_eq_false (by omega)) (pkF rfl rfl (OL.nil (cnF rfl ?_))))))
 refine AW.skip (AW.seq (AW.sg hE rfl (asD rfl (OL.nil (AW.block (AW.whileK (α:=Nat) [(1,_)] [(1,_)] (fun i=>[(3,.d (dI i))]) (fun i=>[]) (fun i=>i≤a.arcs.length) (fun i=>a.arcs.length-i) 0 (.cons (knP rfl) .nil) (.cons (owB rfl) .nil) ⟨Nat.zero_le _,.rq1,.nil⟩ ?_))))))
 rintro i h1
 have h1:i≤a.arcs.length:=h1
 refine AW.seq (AW.sg hE rfl (mvD rfl (faP fd.Auto_5 rfl rfl (ldPC ce.Arcs rfl rfl rfl (lnL sl.Arcs rfl rfl (c_lss rfl rfl rfl (OL.nil ?_)))))))
 refine AW.cond rfl (fun h51=>?_) (fun h51=>?_)
 ·try simp only [dx9] at h51
  refine AW.skip (AW.seq (AW.block (AW.seq ?_)))
  have hm:=getD_mem (l:=a.arcs) (i:=i) (by omega) default
  have hx:=za.arc (a.arcs.getD i default) hm
  obtain ⟨hx1,hx2,hx3,hx4⟩:=h.arc (a.arcs.getD i default) hm
  refine AW.rg hE rfl (faP fd.Auto_5 rfl rfl (ldPC ce.Arcs rfl rfl rfl (mvD rfl (ixLn sl.Arcs default rfl rfl (by omega) rfl rfl (ldRA ag.Arc rfl (vs:=[_,_,_,_,_,_,_,_,_,_,_]) rfl (nb9 rfl) (al z.Arc rfl fun b4=>(sto sz.Arc rfl rfl rfl rfl rfl (nb9 rfl) (cells2:=[_,_,_,_,_,_,_,_,_,_,_]) rfl ?_)))))))
  refine OL.nil (AW.sg hE rfl (faP fd.Arc_0 rfl rfl (ldPC ce.int rfl rfl rfl (faP fd.Auto_2 rfl rfl (ldPC ce.int rfl rfl rfl (bo rfl rfl (bin_sub (c:=(a.st:Int)-1) (by omega) (wrap_i64 (by omega))) (clv rfl vL (r6In (v:=(a.arcs.getD i default).f) (lo:=0) (hi:=(a.st:Int)-1) (by omega)) ?_)))))))
  refine nt rfl (mvD rfl (OL.yes rfl (faP fd.Arc_2 rfl rfl (OL.yes rfl (ldPC ce.int rfl rfl rfl (OL.yes rfl (faP fd.Auto_2 rfl rfl ?_)))))))
  refine OL.yes rfl (ldPC ce.int rfl rfl rfl (OL.yes rfl (bo rfl rfl (bin_sub (c:=(a.st:Int)-1) (by omega) (wrap_i64 (by omega))) (OL.yes rfl (clv rfl vL (r6In (v:=(a.arcs.getD i default).t) (lo:=0) (hi:=(a.st:Int)-1) (by omega)) (OL.yes rfl (nt rfl ?_)))))))
  refine pkF rfl rfl (mvD rfl (OL.yes rfl (faP fd.Arc_1 rfl rfl (OL.yes rfl (ldPC ce.int rfl rfl rfl (OL.yes rfl (faP fd.Auto_1 rfl rfl ?_)))))))
  refine OL.yes rfl (ldPC ce.int rfl rfl rfl (OL.yes rfl (clv rfl vL (r6In (v:=(a.arcs.getD i default).l) (lo:=0) (hi:=a.sym) (by omega)) (OL.yes rfl (nt rfl (pkF rfl rfl (mvD rfl ?_)))))))
  refine OL.yes rfl (faP fd.Auto_0 rfl rfl (OL.yes rfl (ldPA ag.Ring rfl rfl (vs:=[_,_]) rfl (nb9 rfl) (OL.yes rfl (faP fd.Arc_3 rfl rfl (OL.yes rfl (ldPA ag.Weight rfl rfl (vs:=[_,_,_,_,_,_,_,_]) rfl (nb9 rfl) ?_)))))))
  refine OL.yes rfl (clv rfl vL (r3Check (q:=(a.arcs.getD i default).q) (by omega)) (OL.yes rfl (nt rfl (pkF rfl rfl (OL.nil (cnF rfl ?_))))))
  exact AW.skip (AW.rg hE rfl (mvD rfl (add_i64 rfl rfl (by omega) (asD rfl (OL.nil (AW.again (x:=i) (i+1) (by omega) ⟨by omega,Knows.app .rq1 .rq1,Owns.app (.cons rfl .nil) (.nil)⟩))))))
 ·try simp only [dx9] at h51
  exact AW.exit (AW.sg hE rfl (asD rfl (OL.nil (AW.ret (RetQ.r ⟨_,.tmp rfl .nil,.le vR⟩)))))
set_option maxHeartbeats 800000 in
theorem r6FormO {a:Au}(h:a.Ok)(za:a.Sz 134217728 20)(s2:a.st≤64):FSpecE P F.ref06_Form [vAu a] noMem (fun p:Nat × Nat=>.ag [.d (dI 1),.d (.sl []),.d (dI a.sym),.d (dI a.st),.osl 14 p.1 a.ini.length p.2,.d (dWs a.fin),.d (dArcs (formA a.arcs))]) (fun p=>mem1 14 (.row p.1 p.2 T.Weight 8 (a.ini.map dW))) (fun _=>True):=by
 have e1:=h.ini
 have e2:=h.fin
 have e3:=za.num
 refine FSpecE.intro fn.ref06_Form (by rfl) (by rfl) (nb9 (by rfl)) fun E hE=>(AW.sg hE rfl (bxA rfl rfl fun b1=>(al z.Auto rfl fun b2=>(OL.nil (AW.seq (AW.dg 32 [0,1,2,3,4,5,6,7,8,9,10,12,13,14,15,17,18,19,20,11,16,21,22,23] order_free hE rfl (by kernel_rfl) (OI.of_OL (os:=[_,_,_,_,_,_,_,_,_,_,_,_,_,_,_,_,_,_,_,_,_,_,_,_]) rfl ?_)))))))
 refine faP fd.Auto_0 rfl rfl (ldPA ag.Ring rfl rfl (vs:=[_,_]) rfl (nb9 rfl) (clv rfl .rq1 (r6ring) (faP fd.Auto_1 rfl rfl (ldPC ce.int rfl rfl rfl (faP fd.Auto_2 rfl rfl (ldPC ce.int rfl rfl rfl (faP fd.Auto_0 rfl rfl ?_)))))))
 refine ldPA ag.Ring rfl rfl (vs:=[_,_]) rfl (nb9 rfl) (faP fd.Auto_3 rfl rfl (ldPC ce.Weights rfl rfl rfl (faP fd.Auto_0 rfl rfl (ldPA ag.Ring rfl rfl (vs:=[_,_]) rfl (nb9 rfl) (faP fd.Auto_4 rfl rfl (ldPC ce.Weights rfl rfl rfl (faP fd.Auto_0 rfl rfl ?_)))))))
 refine ldPA ag.Ring rfl rfl (vs:=[_,_]) rfl (nb9 rfl) (faP fd.Auto_5 rfl rfl (ldPC ce.Arcs rfl rfl rfl (clRd rfl .rq2 (r6takeR (l:=a.ini) (by omega) za.ini) rfl rfl fun b14 c14=>(clv rfl vL (r6take (l:=a.fin) (by omega) za.fin) (clv rfl vL (r6Arcs (l:=a.arcs) e3 za.arc) (bd2 (cs:=[_,_,_,_,_,_,_]) z.Auto pl.Auto (pvC (by exact evA rfl) (pvC (by exact evD rfl) (pvC (by exact evD rfl) (pvC (by exact evO rfl) (pvC (by exact evD rfl) (pvC (by exact evD rfl) (pvN))))))) (by rfl) ?_))))))
 exact sto sz.Auto rfl rfl rfl rfl rfl (nb9 rfl) (cells2:=[_,_,_,_,_,_,_]) rfl (OL.nil (AW.ret ⟨(b14,c14),trivial,⟨_,.cellA rfl rfl ag.Auto (nb9 rfl) .nil,.le vR⟩,mem1_keep rfl⟩))
set_option maxRecDepth 8000 in
set_option maxHeartbeats 1600000 in
theorem r15Scale {a:Au}{q:Rat}{s:Nat}(f:Au.Fit a s)(hq:sz q≤134217728):FSpec P F.ref15_Scale [vAu a,vW q] (.tup [vAu (scaleOf a q),.d (dI 0)]):=by
 have e1:=f.ok.ini
 have s2:=f.st
 refine FSpec.intro fn.ref15_Scale (by rfl) (by rfl) (nb9 (by rfl)) fun E hE=>(AW.sg hE rfl (bxA rfl rfl fun b2=>(bxA rfl rfl fun b3=>(al z.Auto rfl fun b4=>(asD rfl (OL.nil (AW.seq ?_)))))))
 refine AW.sg hE rfl (ldPA ag.Auto rfl rfl (vs:=[_,_,_,_,_,_,_]) rfl (nb9 rfl) (clv rfl vL (r6Valid (a:=a) f.ok f.sz f.s1 f.st) (nt rfl (OL.nil (cnF rfl ?_)))))
 refine AW.skip (AW.seq (AW.regionK (by rw [hE];rfl) (SK.ofOL (ldPA ag.Auto rfl rfl (vs:=[_,_,_,_,_,_,_]) rfl (nb9 rfl) (OL.nil ?_)))))
 refine SK.ofSO (SO.callNew (id:=14) (args':=[vAu a]) (show 12<E.n by rw [hE];exact Nat.le_of_ble_eq_true (by rfl)) rfl vL (r6FormO f.ok f.sz f.st) ?_)
 rintro ⟨p,c⟩ -
 refine SK.ofOL (sto sz.Auto rfl rfl rfl rfl rfl (nb9 rfl) (cells2:=[_,_,_,_,_,_,_]) rfl (OL.nil ?_))
 refine SK.nil (AW.seq (AW.sg hE rfl (asD rfl (OL.nil (AW.block ?_)))))
 refine AW.whileK (α:=Nat) [(2,_),(3,_),(4,_),(5,_)] [(2,_),(3,_),(4,_)] (fun i=>[(6,.d (dI i))]) (fun i=>[(14,.row p c T.Weight 8 ((sclT a.ini q i).map dW))]) (fun i=>i≤a.st) (fun i=>a.st-i) 0 (.cons (knP rfl) (.cons (knP rfl) (.cons (knP rfl) (.cons (knD rfl) .nil)))) (.cons (owB rfl) (.cons (owB rfl) (.cons (owB rfl) .nil))) ⟨Nat.zero_le _,.rq1,.cons rfl .nil⟩ ?_
 rintro i h1
 have h1:i≤a.st:=h1
 have hsl:=sclT_len (l:=a.ini) (q:=q) (i:=i) (by omega)
 refine AW.seq (AW.sg hE rfl (mvD rfl (faP fd.Auto_2 rfl rfl (ldPC ce.int rfl rfl rfl (c_lss rfl rfl rfl (OL.nil (AW.cond rfl (fun h16=>?_) (fun h16=>?_))))))))
 ·try simp only [dx9] at h16
  refine AW.skip (AW.seq (AW.block ?_))
  have hx:=f.sz.ini (a.ini.getD i 0) (getD_mem (by omega) 0)
  have hg:(sclT a.ini q i).getD i 0=(a.ini.getD i 0):=sclT_get (by omega)
  refine AW.dg 1 [0,1,2,3,4,5,6,7,8,9,10,11,12,13] order_free hE rfl (by kernel_rfl) (OI.of_OL (os:=[_,_,_,_,_,_,_,_,_,_,_,_,_,_]) rfl ?_)
  refine faP fd.Auto_3 rfl rfl (ldPC ce.Weights rfl rfl rfl (mvD rfl (faP fd.Auto_0 rfl rfl (ldPA ag.Ring rfl rfl (vs:=[_,_]) rfl (nb9 rfl) (faP fd.Auto_3 rfl rfl (ldPC ce.Weights rfl rfl rfl (mvD rfl ?_)))))))
  refine ixOn sl.Weights rfl rfl (by omega) ?_
  refine ldEA ag.Weight (by decide) rfl rfl (rowW_el (show i<(sclT a.ini q i).length by omega)) (vs:=[.d (dB (ofQ ((sclT a.ini q i).getD i 0)).neg),.d (u32s (ofQ ((sclT a.ini q i).getD i 0)).num),.d (u32s (ofQ ((sclT a.ini q i).getD i 0)).den),.d (dI 0),.d (dB false),.d (dU 0),.d (.sl []),.d (.sl [])]) rfl (nb9 rfl) ?_
  rw [hg]
  refine ldPA ag.Weight rfl rfl (vs:=[_,_,_,_,_,_,_,_]) rfl (nb9 rfl) (clv rfl vL (r3Times (p:=(a.ini.getD i 0)) (q:=q) (by omega) (by omega)) (ixOn sl.Weights rfl rfl (by omega) (stE sz.Weight rfl (d:=dW ((a.ini.getD i 0)*q)) vd_w rfl rfl (by rw [lm9];omega) (es2:=(sclT a.ini q (i+1)).map dW) (by rw [← sclT_set (by omega),List.map_set]) (OL.nil (AW.rg hE rfl (mvD rfl (add_i64 rfl rfl (by omega) ?_)))))))
  exact asD rfl (OL.nil (AW.again (x:=i) (i+1) (by omega) ⟨by omega,Knows.app .rq4 .rq1,Owns.app (.cons rfl (.cons rfl (.cons rfl .nil))) (.cons rfl .nil)⟩))
 ·try simp only [dx9] at h16
  refine AW.exit (AW.seq ?_)
  obtain rfl:i=a.st:=by omega
  refine AW.freeze 14 rfl (AW.boxW 2 [.d (dI 1),.d (.sl []),.d (dI a.sym),.d (dI a.st),.d (dWs (a.ini.map fun x=>x*q)),.d (dWs a.fin),.d (dArcs (formA a.arcs))] rfl (.cons vR (.cons vR (.cons vR (.cons vR (.cons (frz_osl (by rw [lm9];omega) (by rw [← e1,sclT_all])) .rq2))))) ?_)
  refine AW.rg hE rfl (ldPA ag.Auto rfl rfl (vs:=[_,_,_,_,_,_,_]) rfl (nb9 rfl) (sto sz.Auto rfl rfl rfl rfl rfl (nb9 rfl) (cells2:=[_,_,_,_,_,_,_]) rfl (asD rfl (OL.nil ?_))))
  exact AW.ret (RetQ.r ⟨_,.cellA rfl rfl ag.Auto (nb9 rfl) (.tmp rfl .nil),_,.cons (.ag (.cons (.le vR) (.cons (.le vR) (.cons (.le vR) (.cons (.le vR) (.cons (.le vR) (.cons (.le vR) (.cons (.le vR) .nil)))))))) (.cons (.le vR) .nil),rfl⟩)
end Go.Proofs.YtmcoihfkniccdaaGreatDoor
