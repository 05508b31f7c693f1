/-
  Walks of package hmm: passing through no silent states, picking, spreading, stays (printed by mk2.py).
-/
import Derived.Test.YteiohkpjgcioaaaGreatDoorKAlg37
import Derived.Test.YteiohkpjgcioaaaGreatDoorKNumb
import Derived.Test.YteiohkpjgcioaaaGreatDoorKHmmB
import Derived.Test.YteiohkpjgcioaaaGreatDoorKMod70
import Derived.Test.YteiohkpjgcioaaaGreatDoorKWkB
set_option linter.unusedVariables false
set_option linter.unusedSimpArgs false
namespace Go.AL
open Go Go.BigFrame
section
variable {P:Program}{E:Env}{K:S→Prop}{s:S}{pos:String}{after:Array Edge}{ty:Nat}
theorem upd_again {M:Mem}{id:Nat}{blk:Blk}(h:M id=some blk):upd M id (some blk)=M:=by
 funext k
 unfold upd
 split
 ·rename_i e;rw [e];exact h.symm
 ·rfl
theorem After.none {F:Hp}{M:Mem}{w:World}(h:Sim F M w):After F M w F M w:=⟨Grow.refl _ _,Hp.le.refl F,h,fun k a b=>absurd a b,fun _ k=>.inr k⟩
theorem builtin_clear {ats:Array TypeId}{ty:TypeId}{cs:Array Bool}{args:Array Value}:builtin .clear ats ty cs args=(do pure (.value (← Builtin.clear_ ats ty args))):=rfl
theorem clear_exec {a:Act}{w w':World}{o:Oper}{x:Operand}{t:Nat}{v:Value}(ho:o.op=.call { callee:=.builtin .clear,args:=#[x],argTypes:=#[t] }){R:Value→World→Prop}
  (hr:(Builtin.clear_ #[t] o.type #[a.eval x]).run P w=.ok v w') (h:R v w'):Good P ((execOp a.eval o).run P w) R:=by
 unfold execOp;rw [ho]
 simp only [resolve,Sem.run_bind,Sem.run_pure,Result.andThen_ok,invoke,builtin_clear]
 have e1:(#[x].map a.eval) = #[a.eval x]:=by simp
 rw [e1,hr]
 exact h
theorem SO.clearB {dst:Option Nat}{t e sz by_ id b o n c cb:Nat}{x:Operand}{es:List D}{z:D}{zs:List V}(hd:Below' E.n dst)(hT:SliceT P t e sz by_)(hz:ZeroT P e zs)(hc:VCs zs z.cells)(hx:s.ev x=.osb id b sz o n c)(hM:s.M id=some (.row b cb e sz es))(hn:o+n=es.length)
  (h:K ((⟨s.ρ,upd s.M id (some (.row b cb e sz (es.take o++List.replicate n z)))⟩:S).put dst (.tup []))) :
  SO P E ⟨dst,.call { callee:=.builtin .clear,args:=#[x],argTypes:=#[t] },ty,pos,after,none⟩ K s:=fun F a w hr=>by
 have hx':=hr.eval x
 rw [hx] at hx'
 generalize hax:a.eval x=ax at hx'
 obtain ⟨g0,g1,g2⟩:=hr.sim.own id _ hM
 obtain ⟨i,zv,hi,hzv,h1,h2,h3⟩:=hT.parts
 obtain ⟨i',zv',hi',hzv',z1,z2,z3⟩:=hz.parts
 rw [hi] at hi';cases hi'
 rw [hzv] at hzv';cases hzv'
 have hzl:zs.length=sz:=by rw [← h2,z3]
 have hdl:z.cells.length=sz:=by rw [← hc.length,hzl]
 cases hx' with
 | @osb ao _ _ _ _ _ _ ha hnc =>
  rcases Nat.eq_zero_or_pos n with h0|h0
  ·subst h0
   have e1:es.take o++List.replicate 0 z=es:=by rw [List.replicate_zero,List.append_nil,List.take_of_length_le (by omega)]
   rw [e1,upd_again hM] at h
   refine clear_exec (o:=⟨dst,.call { callee:=.builtin .clear,args:=#[x],argTypes:=#[t] },ty,pos,after,none⟩) (v:=.tuple #[]) (w':=w) rfl ?_ ⟨F,_,hr.after_put (After.none hr.sim) hd (.tup (us:=[]) rfl fun i c u h=>by simp at h),h⟩
   rw [hax]
   cases ao <;> simp [Builtin.clear_,run_underlying hT.u]
  ·rw [ha (by omega)] at hax
   obtain ⟨cs,hh,hcl,c1,c2⟩:=g2 (by omega)
   have hfit:o*sz+n*sz≤cs.length:=by rw [hcl,← Nat.add_mul,hn];exact Nat.mul_le_mul_right _ g0
   have hget:∀ (j:Nat) (u:Value),(Builtin.zeroCells zv.cells n).toList[j]? = some u→j<n*sz∧zv.cells.toList[j % sz]? = some u:=fun j u hu=>by
    have hj:j<n*sz:=by have:=(List.getElem?_eq_some_iff.1 hu).1;simpa [Builtin.zeroCells,h1] using this
    refine ⟨hj,?_⟩
    simp only [Builtin.zeroCells,Array.toList_map,Array.toList_range,h1,List.getElem?_map,List.getElem?_range hj,Option.map_some,Option.some.injEq] at hu
    have hlt:j % sz<zv.cells.size:=by rw [h1];exact Nat.mod_lt _ hT.pos
    rw [getElem!_pos zv.cells (j % sz) hlt] at hu
    rw [← hu]
    simp [hlt]
   have hzlen:(Builtin.zeroCells zv.cells n).toList.length=n*sz:=by simp [Builtin.zeroCells,h1]
   have hone:∀ v,v ∈ (Builtin.zeroCells zv.cells n).toList→v.oneCell' = true:=fun u hu=>by
    obtain ⟨j,hj⟩:=List.mem_iff_getElem?.1 hu
    exact hT.one hi hzv u (List.mem_of_getElem? (hget j u hj).2)
   have hst:=run_storeCells_at P b (o*sz) e (Builtin.zeroCells zv.cells n).toList 0 cs.toArray w hh (by rw [hzlen];simp;omega) hone
   rw [Nat.add_zero,hzlen] at hst
   have hs:∀ y,y ∈ es.take o++List.replicate n z→y.cells.length=sz:=fun y hy=>by
    rcases mp9 hy with hy|hy
    ·exact g1 y (List.mem_of_mem_take hy)
    ·rw [(List.mem_replicate.1 hy).2];exact hdl
   have hto:(es.take o).length=o:=by rw [List.length_take];omega
   have hlen:(es.take o++List.replicate n z).length=es.length:=by rw [la9,hto,List.length_replicate];exact hn
   have hA:After F s.M w F (upd s.M id (some (.row b cb e sz (es.take o++List.replicate n z)))) (w.setRow b (cs.take (o*sz)++(Builtin.zeroCells zv.cells n).toList++cs.drop (o*sz+n*sz)).toArray):=by
    refine After.set_block hr.sim hM ⟨by omega,rfl⟩ (fun k hk=>hk.2) hh fun w' hw'=>⟨by rw [hlen];exact g0,hs,fun _=>⟨_,hw',?_,fun v hv=>?_,fun j d u hjd hju=>?_⟩⟩
    ·rw [la9,la9,List.length_take,List.length_drop,hzlen];omega
    ·rcases mp9 hv with hv|hv
     ·rcases mp9 hv with hv|hv
      ·exact c1 v (List.mem_of_mem_take hv)
      ·exact hone v hv
     ·exact c1 v (List.mem_of_mem_drop hv)
    ·rw [List.flatMap_append] at hjd
     have hfo:((es.take o).flatMap D.cells).length=o*sz:=by rw [flat_length fun y hy=>g1 y (List.mem_of_mem_take hy),hto]
     rcases Nat.lt_or_ge j (o*sz) with hj|hj
     ·rw [List.getElem?_append_left (by rw [hfo];exact hj)] at hjd
      rw [List.append_assoc,List.getElem?_append_left (by rw [List.length_take];omega),List.getElem?_take_of_lt hj] at hju
      refine c2 j d u ?_ hju
      obtain ⟨r,hr2⟩:=flat_take (es:=es) o
      rw [hr2,List.getElem?_append_left (by rw [hfo];exact hj)]
      exact hjd
     ·rw [List.getElem?_append_right (by rw [hfo];exact hj),hfo] at hjd
      have hsr:∀ y,y ∈ List.replicate n z→y.cells.length=sz:=fun y hy=>by rw [(List.mem_replicate.1 hy).2];exact hdl
      have hjn:j-o*sz<n*sz:=by
       have:=(List.getElem?_eq_some_iff.1 hjd).1
       rwa [flat_length hsr,List.length_replicate] at this
      rw [List.append_assoc,List.getElem?_append_right (by rw [List.length_take];omega),List.length_take,Nat.min_eq_left (by omega),List.getElem?_append_left (by rw [hzlen];exact hjn)] at hju
      obtain ⟨_,hzu⟩:=hget _ u hju
      have hq:(j-o*sz) / sz<n:=Nat.div_lt_of_lt_mul (by rw [Nat.mul_comm sz n];exact hjn)
      have hmod:(j-o*sz) % sz<sz:=Nat.mod_lt _ hT.pos
      have hg:=flat_get hsr (i:=(j-o*sz) / sz) (e:=z) (by rw [List.getElem?_replicate,if_pos hq]) ((j-o*sz) % sz) hmod
      rw [Nat.mul_comm,Nat.div_add_mod] at hg
      rw [hg] at hjd
      obtain ⟨x',hx2,hvc⟩:=hc.get _ _ hjd
      rw [← z1,List.getElem?_map,hzu] at hx2
      simp only [Option.map_some,Option.some.injEq] at hx2
      rw [← hx2] at hvc
      exact (hvc F u (absV_sim F u)).1
   refine clear_exec (o:=⟨dst,.call { callee:=.builtin .clear,args:=#[x],argTypes:=#[t] },ty,pos,after,none⟩) (v:=.tuple #[]) rfl ?_ ⟨F,_,hr.after_put hA hd (.tup (us:=[]) rfl fun i c u h=>by simp at h),h⟩
   rw [hax]
   have e2:(zeroValue e).run P w=.ok zv w:=by simp [zeroValue,typeInfo,hi,hzv]
   obtain ⟨m,rfl⟩:∃ m,n=m+1:=⟨n-1,by omega⟩
   simp [Builtin.clear_,run_underlying hT.u,e2,hst]
end
section
variable {P:Program}{E:Env}{K:S→Prop}{s:S}{ty:Nat}{pos:String}{after:Array Edge}
theorem RO.all {M Mk:Mem}{id b n c e sz:Nat}{es:List D}{d:D}(hM:M id=some (.row b c e sz es))(hk:Mk id=Option.none)(hn:n=es.length)(hd:d=.sl es):RO M Mk (.osl id b n c) (.d d):=by
 subst hn hd
 have h:=RO.osl (M:=M) (Mk:=Mk) hM hk (Nat.le_refl es.length)
 rwa [List.take_length] at h
end
section
variable {d l:List Rat}{s i k n:Nat}{h:HM}
theorem one_share:Share 1:=⟨by decide,by decide⟩
theorem zero_share:Share 0:=⟨by decide,by decide⟩
theorem map_mem {α β:Type}{f:α→β}{l:List α}{d:α}{e:β}{i:Nat}(h:i<l.length):(l.map f).getD i e=f (l.getD i d):=by
 rw [gd9,List.getElem?_map,ge9 h,gd9,ge9 h];rfl
theorem map_getD_self {α:Type}{e:α}(l:List α):((List.range l.length).map fun i=>l.getD i e)=l:=by
 refine List.ext_getElem (by simp) fun i h1 h2=>?_
 rw [List.getElem_map,List.getElem_range,gd9,ge9 h2];rfl
end
end Go.AL
namespace Go.Proofs.YteiohkpjgcioaaaGreatDoor
open Go Go.AL
abbrev upI (n:Nat):List Int:=(List.range n).map fun i:Nat=>(i:Int)
theorem upI_len {n:Nat}:(upI n).length=n:=by simp
theorem upI_get {n i:Nat}(h:i<n):(upI n).getD i 0=(i:Int):=map_getD_range _ _ h
theorem list_range_getD {α:Type}(l:List α)(d:α):(List.range l.length).map (fun j=>l.getD j d)=l:=by
 refine List.ext_getElem (by simp) fun k h1 h2=>?_
 simp [gd9,ge9 h2]
theorem fresh_eachRat {l:List (Rat)}{C:Nat}(hl:Small C l)(hC:1≤C∧C≤68719476736)(nl:l.length≤1048576):FSpec P F.fresh_each_Rat [.d (dQs l),.fn F.fresh_Rat []] (.d (dQs l)):=by
 refine FSpec.intro fn.fresh_each_Rat (by rfl) (by rfl) (nb9 (by rfl)) fun E hE=>(AW.sg hE rfl (asM rfl (OL.nil (AW.seq (AW.sg hE rfl (mvD rfl (isNil sl.Rats.u rfl (fun y hy=>by obtain ⟨a,_,rfl⟩:=mm9 hy;exact Nat.succ_pos _) rfl fun b hb=>?_)))))))
 refine OL.nil (AW.cond rfl (fun h=>?_) (fun h=>?_))
 ·have hL:l=[]:=by have:=hb h;simpa using this
  exact AW.sg hE rfl (asM rfl (OL.nil (AW.ret (RetQ.r ⟨_,.tmp rfl .nil,.le (hL ▸ VLe.mt)⟩))))
 ·have _h:=h
  refine AW.skip (AW.sg hE rfl (mvD rfl (lnL sl.Rats rfl rfl (mkL dQ 0 sl.Rats z.Rat vcs_q0 rfl rfl (Nat.le_refl _) (by omega) (by omega) rfl fun b12=>(asO rfl (OL.nil (AW.seq ?_)))))))
  refine AW.sg hE rfl (mvD rfl (lnL sl.Rats rfl rfl (mvD rfl (OL.nil (AW.block ?_)))))
  refine AW.whileK (α:=Nat) [(1,_),(4,_),(5,_),(13,_),(14,_)] [] (fun i=>[(15,.d (dI i))]) (fun i=>[(12,.row b12 l.length T.Rat 3 ((fillF 0 (fun j=>l.getD j 0) l.length i).map dQ))]) (fun i=>i≤l.length) (fun i=>l.length-i) 0 (.cons (knF rfl) (.cons (knM rfl) (.cons (knO rfl) (.cons (knD rfl) (.cons (knD rfl) .nil))))) .nil ⟨Nat.zero_le _,.rq1,.cons (by rw [fillF_zero];rfl) .nil⟩ ?_
  intro i h1
  have h1:i≤l.length:=h1
  have hfl:=fillF_len 0 (fun j=>l.getD j 0) l.length i
  refine AW.sg hE rfl (c_lss rfl rfl rfl (OL.nil (AW.seq (AW.cond rfl (fun h16=>?_) (fun h16=>?_)))))
  ·try simp only [dx9] at h16
   refine AW.skip (AW.seq (AW.block (AW.sg hE rfl (mvD rfl (ixLn sl.Rats 0 rfl rfl (by omega) rfl rfl (ldRA ag.Rat rfl (vs:=[_,_,_]) rfl (nb9 rfl) (al z.Rat rfl fun b7=>?_)))))))
   refine asD rfl (sto sz.Rat rfl rfl rfl rfl rfl (nb9 rfl) (cells2:=[_,_,_]) rfl (OL.nil (AW.rg hE rfl (mvO rfl (mvD rfl (mvF rfl (ldPA ag.Rat rfl rfl (vs:=[_,_,_]) rfl (nb9 rfl) ?_)))))))
   refine clv rfl vL (fresh_Rat (Nat.le_trans (hl.get hC.1 i) hC.2)) (ixOn sl.Rats rfl rfl (by omega) (stE sz.Rat rfl vd_q rfl rfl (by rw [lm9];omega) (es2:=(fillF 0 (fun j=>l.getD j 0) l.length (i+1)).map dQ) (by rw [← fillF_set (show i<l.length by omega),List.map_set]) (OL.nil (AW.rg hE rfl (add_i64 rfl rfl (by omega) (mvD rfl (OL.nil ?_)))))))
   exact AW.again (x:=i) (i+1) (by omega) ⟨by omega,Knows.app .rq5 .rq1,.cons rfl .nil⟩
  ·try simp only [dx9] at h16
   refine AW.exit (AW.seq ?_)
   obtain rfl:i=l.length:=by omega
   have hfr:(List.range l.length).map (fun j=>l.getD j 0)=l:=list_range_getD l 0
   refine AW.freeze 12 rfl (AW.to [(5,.d (dQs l))] [] (.cons (frz_osl (by rw [lm9,fillF_len]) (by rw [fillF_all,hfr])) .nil) .nil ?_)
   exact AW.rg hE rfl (mvD rfl (asD rfl (OL.nil (AW.ret (RetQ.r ⟨_,.tmp rfl .nil,.le vR⟩)))))
theorem fresh_Rats {l:List (Rat)}{C:Nat}(hl:Small C l)(hC:1≤C∧C≤68719476736)(nl:l.length≤1048576):FSpec P F.fresh_Rats [.d (dQs l)] (.d (dQs l)):=by
 refine FSpec.intro fn.fresh_Rats (by rfl) (by rfl) (nb9 (by rfl)) fun E hE=>(AW.sg hE rfl (asM rfl (OL.nil (AW.sg hE rfl (mvD rfl (clv rfl vL (fresh_eachRat hl hC nl) (asD rfl ?_)))))))
 exact OL.nil (AW.ret (RetQ.r ⟨_,.tmp rfl .nil,.le vR⟩))
theorem hmm_weightW {q:Rat}:FSpec P F.hmm_weight [vQ q] (vW q):=by
 refine FSpec.intro fn.hmm_weight (by rfl) (by rfl) (nb9 (by rfl)) fun E hE=>(AW.sg hE rfl (bxA rfl rfl fun b1=>(al z.Weight rfl fun b2=>(OL.nil (AW.sg hE rfl (ldPA ag.Rat rfl rfl (vs:=[_,_,_]) rfl (nb9 rfl) (bd z.Weight pl.Weight (cs:=[_,_,_,_,_,_,_,_]) rfl ?_)))))))
 refine sto sz.Weight rfl rfl rfl rfl rfl (nb9 rfl) (cells2:=[_,_,_,_,_,_,_,_]) rfl (OL.nil ?_)
 exact AW.ret (RetQ.r ⟨_,.cellA rfl rfl ag.Weight (nb9 rfl) .nil,.ag (.cons (.le vR) (.cons (.le vR) (.cons (.le vR) (.cons (.le vR) (.cons (.le vR) (.cons (.le vR) (.cons (.le (VLe.mt)) (.cons (.le (VLe.mt)) .nil))))))))⟩)
theorem through0 {h:HM}{l:List Rat}{e:Rat}{C:Nat}(hl:Small C l)(hC:1≤C∧C≤68719476736)(nl:l.length≤1048576)(he:sz e≤68719476736):FSpec P F.hmm_through [vHM h,.d (ints []),.d (dQs l),vQ e] (.tup [.d (dQs l),vQ e]):=by
 refine FSpec.intro fn.hmm_through (by rfl) (by rfl) (nb9 (by rfl)) fun E hE=>(AW.sg hE rfl (bxA rfl rfl fun b4=>(bxA rfl rfl fun b7=>(asM rfl (al z.Rat rfl fun b9=>(OL.nil (AW.seq ?_)))))))
 refine AW.dg 1 [0,1,2,3,4,5] order_free hE rfl (by kernel_rfl) (OI.of_OL (os:=[_,_,_,_,_,_]) rfl ?_)
 refine mvD rfl (clv rfl vL (fresh_Rats hl hC nl) (ldPA ag.Rat rfl rfl (vs:=[_,_,_]) rfl (nb9 rfl) (clv rfl vL (fresh_Rat (q:=e) he) (asD rfl (sto sz.Rat rfl rfl rfl rfl rfl (nb9 rfl) (cells2:=[_,_,_]) rfl (OL.nil (AW.seq ?_)))))))
 refine AW.sg hE rfl (mvD rfl (lnL sl.ints rfl rfl (mvD rfl (OL.nil (AW.block ?_)))))
 refine AW.whileK (α:=Unit) [(2,_),(4,_),(7,_),(8,_),(9,_),(19,_),(20,_)] [(4,_),(9,_)] (fun _u=>[(21,.d (dI 0))]) (fun _u=>[(7,.box b7 T.Rat (cellsQ e))]) (fun _u=>True) (fun _u=>0) () (.cons (knD rfl) (.cons (knP rfl) (.cons (knP rfl) (.cons (knM rfl) (.cons (knP rfl) (.cons (knD rfl) (.cons (knD rfl) .nil))))))) (.cons (owB rfl) (.cons (owB rfl) .nil)) ⟨trivial,.rq1,.cons rfl .nil⟩ ?_
 rintro ⟨⟩ -
 refine AW.sg hE rfl (c_lss rfl rfl rfl (OL.nil (AW.seq (AW.cond rfl (fun hno=>absurd hno (by simp)) (fun _=>?_)))))
 refine AW.exit (AW.seq (AW.region_tree order_free (by rw [hE];rfl) (OT.node [0,1] (os:=[_,_]) (by kernel_rfl) (by decide) rfl ⟨?_,?_,trivial⟩)))
 ·refine mvD rfl (OL.nil (OT.node [1,2] (os:=[_,_]) (by kernel_rfl) (by decide) rfl ⟨?_,?_,trivial⟩))
  ·refine ldPA ag.Rat rfl rfl (vs:=[_,_,_]) rfl (nb9 rfl) (OL.nil (OT.node [2] (os:=[_]) (by kernel_rfl) (by decide) rfl ⟨?_,trivial⟩))
   refine asD rfl (OL.nil (OT.node [3] (os:=[_]) (by kernel_rfl) (by decide) rfl ⟨?_,trivial⟩))
   exact sto sz.Rat rfl rfl rfl rfl rfl (nb9 rfl) (cells2:=[_,_,_]) rfl (OL.nil (OT.leaf (by kernel_rfl) (AW.ret (RetQ.r ⟨_,.tmp rfl (.cellA rfl rfl ag.Rat (nb9 rfl) .nil),_,.cons (.le vR) (.cons (.ag (.cons (.le vR) (.cons (.le vR) (.cons (.le vR) .nil)))) .nil),rfl⟩))))
  ·refine asD rfl (OL.nil (OT.node [1] (os:=[_]) (by kernel_rfl) (by decide) rfl ⟨?_,trivial⟩))
   refine ldPA ag.Rat rfl rfl (vs:=[_,_,_]) rfl (nb9 rfl) (OL.nil (OT.node [3] (os:=[_]) (by kernel_rfl) (by decide) rfl ⟨?_,trivial⟩))
   exact sto sz.Rat rfl rfl rfl rfl rfl (nb9 rfl) (cells2:=[_,_,_]) rfl (OL.nil (OT.leaf (by kernel_rfl) (AW.ret (RetQ.r ⟨_,.tmp rfl (.cellA rfl rfl ag.Rat (nb9 rfl) .nil),_,.cons (.le vR) (.cons (.ag (.cons (.le vR) (.cons (.le vR) (.cons (.le vR) .nil)))) .nil),rfl⟩))))
 ·refine ldPA ag.Rat rfl rfl (vs:=[_,_,_]) rfl (nb9 rfl) (OL.nil (OT.node [0] (os:=[_]) (by kernel_rfl) (by decide) rfl ⟨?_,trivial⟩))
  refine mvD rfl (OL.nil (OT.node [2] (os:=[_]) (by kernel_rfl) (by decide) rfl ⟨?_,trivial⟩))
  refine asD rfl (OL.nil (OT.node [3] (os:=[_]) (by kernel_rfl) (by decide) rfl ⟨?_,trivial⟩))
  exact sto sz.Rat rfl rfl rfl rfl rfl (nb9 rfl) (cells2:=[_,_,_]) rfl (OL.nil (OT.leaf (by kernel_rfl) (AW.ret (RetQ.r ⟨_,.tmp rfl (.cellA rfl rfl ag.Rat (nb9 rfl) .nil),_,.cons (.le vR) (.cons (.ag (.cons (.le vR) (.cons (.le vR) (.cons (.le vR) .nil)))) .nil),rfl⟩))))
theorem pickH {l:List Rat}{n:Nat}(hl:l.length=n)(hn:n≤1048576):FSpec P F.hmm_Emitting_1 [.d (dQs l),.ref [ints (upI n)]] (.d (dQs l)):=by
 have hul:=upI_len (n:=n)
 refine FSpec.intro fn.hmm_Emitting_1 (by rfl) (by rfl) (nb9 (by rfl)) fun E hE=>(AW.sg hE rfl (asM rfl (OL.nil (AW.sg hE rfl (ldRC ce.ints rfl (lnL sl.ints rfl rfl ?_))))))
 rw [hul]
 refine mkL dQ 0 sl.Rats z.Rat vcs_q0 rfl rfl (Nat.le_refl _) (by omega) (by omega) rfl fun b9=>(asO rfl (OL.nil (AW.seq (AW.sg hE rfl (ldRC ce.ints rfl (lnL sl.ints rfl rfl ?_))))))
 rw [hul]
 refine mvD rfl (OL.nil (AW.block ?_))
 refine AW.whileK (α:=Nat) [(0,_),(3,_),(4,_),(10,_),(11,_)] [] (fun i=>[(12,.d (dI i))]) (fun i=>[(9,.row b9 n T.Rat 3 ((fillF 0 (fun j=>l.getD j 0) n i).map dQ))]) (fun i=>i≤n) (fun i=>n-i) 0 (.cons (knD rfl) (.cons (knM rfl) (.cons (knO rfl) (.cons (knD rfl) (.cons (knD rfl) .nil))))) .nil ⟨Nat.zero_le _,.rq1,.cons (by rw [fillF_zero];rfl) .nil⟩ ?_
 intro i h1
 have h1:i≤n:=h1
 have hfl:=fillF_len (d:=(0:Rat)) (g:=fun j=>l.getD j 0) (n:=n) (i:=i)
 refine AW.sg hE rfl (c_lss rfl rfl rfl (OL.nil (AW.seq (AW.cond rfl (fun h13=>?_) (fun h13=>?_)))))
 ·try simp only [dx9] at h13
  refine AW.skip (AW.seq (AW.block (AW.seq ?_)))
  have hi:i<n:=by omega
  have hug:=upI_get hi
  refine AW.rg hE rfl (mvD rfl (ixLn sl.ints 0 rfl rfl (by omega) rfl rfl (ldRC ce.int rfl (asD rfl (asD rfl (OL.nil (AW.rg hE rfl ?_)))))))
  refine mvO rfl (mvD rfl (mvD rfl (mvD rfl (ixLe i sl.Rats 0 rfl (congrArg (fun z=>V.d (dI z)) hug) rfl (by omega) rfl rfl (ldRA ag.Rat rfl (vs:=[_,_,_]) rfl (nb9 rfl) (ixOn sl.Rats rfl rfl (by omega) (stE sz.Rat rfl (d:=dQ (l.getD i 0)) vd_q rfl rfl (by rw [lm9];omega) (es2:=(fillF 0 (fun j=>l.getD j 0) n (i+1)).map dQ) (by rw [← fillF_set hi,List.map_set]) ?_)))))))
  exact OL.nil (AW.rg hE rfl (add_i64 rfl rfl (by omega) (mvD rfl (OL.nil (AW.again (x:=i) (i+1) (by omega) ⟨by omega,Knows.app .rq5 .rq1,.cons rfl .nil⟩)))))
 ·try simp only [dx9] at h13
  refine AW.exit (AW.seq ?_)
  obtain rfl:i=n:=by omega
  have hfr:(List.range i).map (fun j=>l.getD j 0)=l:=by rw [← hl];exact list_range_getD l 0
  refine AW.freeze 9 rfl (AW.to [(4,.d (dQs l))] [] (.cons (frz_osl (by rw [lm9,fillF_len]) (by rw [fillF_all,hfr])) .nil) .nil ?_)
  exact AW.rg hE rfl (mvD rfl (asD rfl (OL.nil (AW.ret (RetQ.r ⟨_,.tmp rfl .nil,.le vR⟩)))))
end Go.Proofs.YteiohkpjgcioaaaGreatDoor
