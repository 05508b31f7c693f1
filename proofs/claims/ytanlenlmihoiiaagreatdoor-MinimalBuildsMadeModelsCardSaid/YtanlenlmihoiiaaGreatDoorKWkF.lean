/-
  Walks of package automaton, part 4: arcs in normal form (printed by mk2.py).
-/
import Derived.Test.YtanlenlmihoiiaaGreatDoorKWkC
set_option linter.unusedVariables false
set_option linter.unusedSimpArgs false
namespace Go.Proofs.YtanlenlmihoiiaaGreatDoor
open Go Go.AL
theorem Nr {q:Rat}:VD (vW q) (dW q):=VD.ag (.cons (VC.d _) (.cons (VC.d _) (.cons (VC.d _) (.cons (VC.d _) (.cons (VC.d _) (.cons (VC.d _) (.cons (VC.d _) (.cons (VC.d _) .nil))))))))
theorem WJ {l:List bU}{b n c:Nat}(hn:n<=20):gq P F.eU [.bI 1000 b n c,.d (dI n),.d (dI n),.fn F.dH []] (mem1 1000 (rowA b c (l))) (.mM []) (mem1 1000 (rowA b c (l))):=by
 refine gq.intro fn.eU (by rfl) (by rfl) (ay (by rfl)) λE hE=>(AW.sg hE rfl (aj rfl (aI rfl rfl (by omega) (aF rfl (OL.nil (AW.block ?_))))))
 refine AW.aY (α:=Unit) [(0,_),(1,_),(2,_),(3,_)] [] (λ_u=>[(8,.d (dI ((n:Int)+1)))]) (λ_u=>[(1000,rowA b c (l))]) (λ_u=>True) (λ_u=>0) () (.cons (zA rfl) (.cons (di rfl) (.cons (di rfl) (.cons (KF rfl) .nil)))) .nil ⟨trivial,.dD,.cons rfl .nil⟩ ?_
 rintro⟨⟩ -
 refine AW.seq (AW.sg hE rfl (aj rfl (aj rfl (bG rfl rfl rfl (OL.nil (AW.cond rfl (λhno=>absurd hno (by simp;omega)) (λ_=>?_)))))))
 exact AW.exit (⟨⟨_,.nil,_,.nil,rfl⟩,fP rfl⟩)
theorem aQ3 {l:List bU}{b n c:Nat}(hl:l.length=n)(hn:1<=n/\n<=20):gq P F.gZ [.bI 1000 b n c,.d (dI n),.fn F.dH []] (mem1 1000 (rowA b c (l))) (.mM []) (mem1 1000 (rowA b c (uj Sj (n-1) l))):=by
 refine gq.intro fn.gZ (by rfl) (by rfl) (ay (by rfl)) λE hE=>(AW.sg hE rfl (aF rfl (OL.nil (AW.sg hE rfl (aj rfl (aF rfl (aF rfl ?_)))))))
 refine OL.nil ?_;refine AW.YC (α:=Nat × List bU) [(0,_),(1,_),(2,_),(6,_)] [] (λ(k,u)=>[(7,.d (dI (20*k:Nat)))]) (λ(k,u)=>[(1000,rowA b c (u))]) (λ(k,u)=>(k=0/\l=u/\n<20) \/ (k=1/\n=20/\u=uj Sj (n-1) l)) (.cons (zA rfl) (.cons (di rfl) (.cons (KF rfl) (.cons (di rfl) .nil)))) .nil ?_ ?_
 .refine AW.block ?_;refine AW.aY (α:=Nat × List bU) [(0,_),(1,_),(2,_),(6,_)] [] (λ(k,u)=>[(7,.d (dI (20*k:Nat))),(8,.d (dI (20*k+20:Nat)))]) (λ(k,u)=>[(1000,rowA b c (u))]) (λ(k,u)=>(k=0/\l=u) \/ (k=1/\n=20/\u=uj Sj (n-1) l)) (λ(k,u)=>1-k) (0,l) (.cons (zA rfl) (.cons (di rfl) (.cons (KF rfl) (.cons (di rfl) .nil)))) .nil ⟨.inl ⟨rfl,rfl⟩,.iW,.cons rfl .nil⟩ ?_
  rintro⟨k,u⟩ h1
  have h1:(k=0/\l=u) \/ (k=1/\n=20/\u=uj Sj (n-1) l):=h1;refine AW.seq (AW.sg hE rfl (aj rfl (aj rfl (yM rfl rfl rfl (OL.nil (AW.cond rfl (λh13=>?_) (λh13=>?_)))))))
  .try simp only[fD] at h13
   refine AW.skip (AW.block (AW.sg hE rfl (iU rfl (aj rfl (aj rfl (QU rfl ?_))))));obtain⟨rfl,rfl⟩:k=0/\l=u:=h1.resolve_right λe=>by omega
   refine OL.Jb (v:=.mM []) (.mk (args':=[.bI 1000 b n c,.d (dI 0),.d (dI n),.fn F.dH []]) rfl (.cons vR (.cons vR (.cons (bW.int (by omega)) (.cons vR (.nil))))) (fP (id:=1000) (blk:=rowA b c l) rfl) yN (ac9 (n:=n) hl hn)) ?_
   refine OL.nil (AW.sg hE rfl (aj rfl (aF rfl (OL.nil (AW.rg hE rfl (aj rfl (aj rfl ?_)))))));refine aI rfl rfl (by omega) (aF rfl (OL.nil ?_))
   exact AW.again (x:=(0,l)) (1,uj Sj (n-1) l) (by (simp only[];omega)) ⟨.inr ⟨rfl,by omega,rfl⟩,Knows.app .LV .iW,.cons rfl .nil⟩
  .try simp only[fD] at h13
   exact AW.exit (AW.reach (k,u) ⟨h1.imp (λe=>⟨e.1,e.2,by omega⟩) id,Knows.app .LV .dD,.cons rfl .nil⟩)
 rintro⟨k,u⟩ h1
 refine AW.seq ?_;rcases h1 with ⟨rfl,rfl,h0⟩|⟨rfl,h0,rfl⟩
 .have h2:n<=20:=hn.2;refine AW.rg hE rfl (iU rfl (aj rfl (aj rfl (QU rfl ?_))));refine OL.Jb (v:=.mM []) (.mk (args':=[.bI 1000 b n c,.d (dI 0),.d (dI n),.fn F.dH []]) rfl (.cons vR (.cons vR (.cons vR (.cons vR (.nil))))) (fP (id:=1000) (blk:=rowA b c l) rfl) yN (ac9 (n:=n) hl hn)) ?_;refine OL.nil (AW.block ?_);refine AW.aY (α:=Unit) [(0,_),(1,_),(2,_)] [] (λ_u=>[(6,.d (dI 20))]) (λ_u=>[(1000,rowA b c (uj Sj (n-1) l))]) (λ_u=>True) (λ_u=>0) () (.cons (zA rfl) (.cons (di rfl) (.cons (KF rfl) .nil))) .nil ⟨trivial,.dD,.cons rfl .nil⟩ ?_
  rintro⟨⟩ -
  refine AW.seq (AW.sg hE rfl (aj rfl (aj rfl (bG rfl rfl rfl (OL.nil (AW.cond rfl (λhno=>absurd hno (by simp;omega)) (λ_=>?_)))))))
  exact AW.exit (⟨⟨_,.nil,_,.nil,rfl⟩,fP rfl⟩)
 .have h2:n<=20:=hn.2;refine AW.rg hE rfl (iU rfl (aj rfl (aj rfl (QU rfl ?_))));refine OL.Jb (v:=.mM []) (.mk (args':=[.bI 1000 b n c,.d (dI n),.d (dI n),.fn F.dH []]) rfl (.cons vR (.cons (bW.int (by omega)) (.cons vR (.cons vR (.nil))))) (fP (id:=1000) (blk:=rowA b c (uj Sj (n-1) l)) rfl) yN (WJ (n:=n) hn.2)) ?_
  refine OL.nil (AW.block ?_);refine AW.aY (α:=Unit) [(0,_),(1,_),(2,_)] [] (λ_u=>[(6,.d (dI 20))]) (λ_u=>[(1000,rowA b c (uj Sj (n-1) l))]) (λ_u=>True) (λ_u=>0) () (.cons (zA rfl) (.cons (di rfl) (.cons (KF rfl) .nil))) .nil ⟨trivial,.dD,.cons rfl .nil⟩ ?_
  rintro⟨⟩ -
  refine AW.seq (AW.sg hE rfl (aj rfl (aj rfl (bG rfl rfl rfl (OL.nil (AW.cond rfl (λhno=>absurd hno (by simp;omega)) (λ_=>?_)))))))
  exact AW.exit (⟨⟨_,.nil,_,.nil,rfl⟩,fP rfl⟩)
theorem WL {l:List bU}{b n c:Nat}(hl:l.length=n)(hn:1<=n/\n<=20):gq P F.dS [.bI 1000 b n c,.fn F.dH []] (mem1 1000 (rowA b c (l))) (.mM []) (mem1 1000 (rowA b c (uj Sj (n-1) l))):=by
 refine gq.intro fn.dS (by rfl) (by rfl) (ay (by rfl)) λE hE=>(AW.rg hE rfl (iU rfl (iU rfl (Vq sl.dm rfl rfl (QU rfl (OL.Jb (v:=.mM []) (.mk (args':=[.bI 1000 b n c,.d (dI n),.fn F.dH []]) rfl (.cons vR (.cons vR (.cons vR (.nil)))) (fP (id:=1000) (blk:=rowA b c l) rfl) yN (aQ3 hl hn)) (OL.nil ?_)))))))
 exact⟨⟨_,.nil,_,.nil,rfl⟩,fP rfl⟩
end Go.Proofs.YtanlenlmihoiiaaGreatDoor
namespace Go.AL
open Go Go.BigFrame
section
variable {P:Program}{E:Env}{K:S->Prop}{s:S}{pos:String}{after:Array Edge}{ty:Nat}
theorem al1 {M:Mem}{id:Nat}{blk:iF}(h:M id=some blk):upd M id (some blk)=M:=by
 funext k;unfold upd
 split
 .rename_i e;rw[e];exact h.symm
 .rfl
theorem After.none {F:Hp}{M:Mem}{w:World}(h:xw F M w):After F M w F M w:=⟨Grow.refl _ _,Hp.le.refl F,h,λk a b=>absurd a b,λ_ k=>.inr k⟩
theorem builtin_clear {ats:Array TypeId}{ty:TypeId}{cs:Array Bool}{args:Array Value}:builtin .clear ats ty cs args=(do pure (.value (<- Builtin.clear_ ats ty args))):=rfl
theorem PS {a:Act}{w w':World}{o:Oper}{x:Operand}{t:Nat}{v:Value}(ho:o.op=.call { callee:=.builtin .clear,args:=#[x],argTypes:=#[t] }){R:Value->World->Prop}
  (hr:(Builtin.clear_ #[t] o.type #[a.eval x]).run P w=.ok v w') (h:R v w'):Good P ((execOp a.eval o).run P w) R:=by
 unfold execOp;rw[ho];simp only[resolve,Sem.run_bind,Sem.run_pure,Result.andThen_ok,invoke,builtin_clear];have e1:(#[x].map a.eval) = #[a.eval x]:=by simp
 rw[e1,hr];exact h
theorem SO.bd5 {dst:Option Nat}{t e sz eH id b o n c cb:Nat}{x:Operand}{es:List D}{z:D}{zs:List V}(hd:oV E.n dst)(hT:bJ P t e sz eH)(hz:fE P e zs)(hc:VCs zs z.cells)(hx:s.ev x=.xu id b sz o n c)(hM:s.M id=some (.row b cb e sz es))(hn:o+n=es.length)
  (h:K ((⟨s.ρ,upd s.M id (some (.row b cb e sz (es.take o++List.replicate n z)))⟩:S).put dst (.mM []))) :
  SO P E ⟨dst,.call { callee:=.builtin .clear,args:=#[x],argTypes:=#[t] },ty,pos,after,none⟩ K s:=λF a w hr=>by
 have hx':=hr.eval x;rw[hx] at hx';generalize hax:a.eval x=ax at hx';obtain⟨g0,g1,g2⟩:=hr.gX.own id _ hM;obtain⟨i,zv,hi,hzv,h1,h2,h3⟩:=hT.parts;obtain⟨i',zv',hi',as1,z1,z2,z3⟩:=hz.parts;rw[hi] at hi';cases hi'
 rw[hzv] at as1;cases as1
 have hzl:zs.length=sz:=by rw[<- h2,z3]
 have hdl:z.cells.length=sz:=by rw[<- hc.length,hzl]
 cases hx' with
 | @xu ao _ _ _ _ _ _ ha hnc =>
  rcases Nat.eq_zero_or_pos n with h0|h0
  .subst h0;have e1:es.take o++List.replicate 0 z=es:=by rw[List.replicate_zero,List.append_nil,List.take_of_length_le (by omega)]
   rw[e1,al1 hM] at h;refine PS (o:=⟨dst,.call { callee:=.builtin .clear,args:=#[x],argTypes:=#[t] },ty,pos,after,none⟩) (v:=.tuple #[]) (w':=w) rfl ?_ ⟨F,_,hr.mV (After.none hr.gX) hd (.mM (us:=[]) rfl λi c u h=>by simp at h),h⟩
   rw[hax];cases ao <;> simp[Builtin.clear_,run_underlying hT.u]
  .rw[ha (by omega)] at hax
   obtain⟨cs,hh,hcl,c1,c2⟩:=g2 (by omega)
   have hfit:o*sz+n*sz<=cs.length:=by rw[hcl,<- Nat.add_mul,hn];exact Nat.mul_le_mul_right _ g0
   have hget:∀ (j:Nat) (u:Value),(Builtin.zeroCells zv.cells n).toList[j]? = some u->j<n*sz/\zv.cells.toList[j % sz]? = some u:=λj u hu=>by
    have hj:j<n*sz:=by have:=(List.getElem?_eq_some_iff.1 hu).1;simpa [Builtin.zeroCells,h1] using this
    refine⟨hj,?_⟩;simp only[Builtin.zeroCells,Array.toList_map,Array.toList_range,h1,List.getElem?_map,List.getElem?_range hj,Option.map_some,Option.some.injEq] at hu;have hlt:j % sz<zv.cells.size:=by rw[h1];exact Nat.mod_lt _ hT.pos
    rw[getElem!_pos zv.cells (j % sz) hlt] at hu;rw[<- hu];simp[hlt]
   have ad1:(Builtin.zeroCells zv.cells n).toList.length=n*sz:=by simp[Builtin.zeroCells,h1]
   have hone:∀ v,v ∈ (Builtin.zeroCells zv.cells n).toList->v.oneCell' = true:=λu hu=>by
    obtain⟨j,hj⟩:=List.mem_iff_getElem?.1 hu;exact hT.one hi hzv u (List.mem_of_getElem? (hget j u hj).2)
   have hst:=run_storeCells_at P b (o*sz) e (Builtin.zeroCells zv.cells n).toList 0 cs.toArray w hh (by rw[ad1];simp;omega) hone
   rw[Nat.add_zero,ad1] at hst;have hs:∀ y,y ∈ es.take o++List.replicate n z->y.cells.length=sz:=λy hy=>by
    rcases uy hy with hy|hy
    .exact g1 y (List.mem_of_mem_take hy)
    .rw[(List.mem_replicate.1 hy).2];exact hdl
   have hto:(es.take o).length=o:=by rw[List.length_take];omega
   have hlen:(es.take o++List.replicate n z).length=es.length:=by rw[jd,hto,List.length_replicate];exact hn
   have hA:After F s.M w F (upd s.M id (some (.row b cb e sz (es.take o++List.replicate n z)))) (w.setRow b (cs.take (o*sz)++(Builtin.zeroCells zv.cells n).toList++cs.drop (o*sz+n*sz)).toArray):=by
    refine After.Dn hr.gX hM ⟨by omega,rfl⟩ (λk hk=>hk.2) hh λw' hw'=>⟨by rw[hlen];exact g0,hs,λ_=>⟨_,hw',?_,λv hv=>?_,λj d u hjd hju=>?_⟩⟩
    .rw[jd,jd,List.length_take,List.length_drop,ad1];omega
    .rcases uy hv with hv|hv
     .rcases uy hv with hv|hv
      .exact c1 v (List.mem_of_mem_take hv)
      .exact hone v hv
     .exact c1 v (List.mem_of_mem_drop hv)
    .rw[List.flatMap_append] at hjd;have hfo:((es.take o).flatMap D.cells).length=o*sz:=by rw[flat_length λy hy=>g1 y (List.mem_of_mem_take hy),hto]
     rcases Nat.lt_or_ge j (o*sz) with hj|hj
     .rw[List.getElem?_append_left (by rw[hfo];exact hj)] at hjd
      rw[List.append_assoc,List.getElem?_append_left (by rw[List.length_take];omega),List.getElem?_take_of_lt hj] at hju
      refine c2 j d u ?_ hju;obtain⟨r,hr2⟩:=zX (es:=es) o;rw[hr2,List.getElem?_append_left (by rw[hfo];exact hj)]
      exact hjd
     .rw[List.getElem?_append_right (by rw[hfo];exact hj),hfo] at hjd
      have hsr:∀ y,y ∈ List.replicate n z->y.cells.length=sz:=λy hy=>by rw[(List.mem_replicate.1 hy).2];exact hdl
      have hjn:j-o*sz<n*sz:=by
       have:=(List.getElem?_eq_some_iff.1 hjd).1
       rwa [flat_length hsr,List.length_replicate] at this
      rw[List.append_assoc,List.getElem?_append_right (by rw[List.length_take];omega),List.length_take,Nat.min_eq_left (by omega),List.getElem?_append_left (by rw[ad1];exact hjn)] at hju
      obtain⟨_,hzu⟩:=hget _ u hju;have hq:(j-o*sz) / sz<n:=Nat.div_lt_of_lt_mul (by rw[Nat.mul_comm sz n];exact hjn)
      have hmod:(j-o*sz) % sz<sz:=Nat.mod_lt _ hT.pos;have hg:=flat_get hsr (i:=(j-o*sz) / sz) (e:=z) (by rw[List.getElem?_replicate,if_pos hq]) ((j-o*sz) % sz) hmod
      rw[Nat.mul_comm,Nat.div_add_mod] at hg;rw[hg] at hjd;obtain⟨x',hx2,hvc⟩:=hc.get _ _ hjd;rw[<- z1,List.getElem?_map,hzu] at hx2;simp only[Option.map_some,Option.some.injEq] at hx2;rw[<- hx2] at hvc;exact (hvc F u (IW F u)).1
   refine PS (o:=⟨dst,.call { callee:=.builtin .clear,args:=#[x],argTypes:=#[t] },ty,pos,after,none⟩) (v:=.tuple #[]) rfl ?_ ⟨F,_,hr.mV hA hd (.mM (us:=[]) rfl λi c u h=>by simp at h),h⟩
   rw[hax];have e2:(zeroValue e).run P w=.ok zv w:=by simp[zeroValue,typeInfo,hi,hzv]
   obtain⟨m,rfl⟩:∃ m,n=m+1:=⟨n-1,by omega⟩
   simp[Builtin.clear_,run_underlying hT.u,e2,hst]
end
end Go.AL
namespace Go.Proofs.YtanlenlmihoiiaaGreatDoor
open Go Go.AL
abbrev JF:V:=.ref [dI 1,.sl []]
theorem aA7:VCs [.d (dI 0),.d (dI 0),.d (dI 0),.d (dB false),.mt,.mt,.d (dI 0),.d (dB false),.d (dU 0),.mt,.mt] (jG default).cells:=by
 show VCs _ [dI 0,dI 0,dI 0,dB (fZ 0).neg,aH (fZ 0).num,aH (fZ 0).den,dI 0,dB false,dU 0,.sl [],.sl []]
 rw[rO];exact .cons (VC.d _) (.cons (VC.d _) (.cons (VC.d _) (.cons (VC.d _) (.cons VC.mt (.cons VC.mt (.cons (VC.d _) (.cons (VC.d _) (.cons (VC.d _) (.cons VC.mt (.cons VC.mt .nil))))))))))
theorem bd6 {x:bU}(hz:sz x.q<=68719476736):ai P F.o5 [KU x,JF] (.d (dB (decide (x.q=0)))):=by
 refine ai.intro fn.o5 (by rfl) (by rfl) (ay (by rfl)) λE hE=>(AW.sg hE rfl (iO rfl rfl λb2=>(aF rfl (OL.nil (AW.sg hE rfl (iD ag.Ring rfl (vs:=[_,_]) rfl (ay rfl) (bC fd.rC rfl rfl ?_)))))))
 exact aQ ag.aC rfl rfl (vs:=[_,_,_,_,_,_,_,_]) rfl (ay rfl) (bH rfl .iW (aQ0 hz) (aF rfl (OL.nil (AW.ret (aP.r ⟨_,.tmp rfl .nil,.le vR⟩)))))
theorem aQ4 {l:List bU}{f:Nat}{cap:V}{p:bU->Bool}(hf:∀ x,x ∈ l->ai P f [KU x,cap] (.d (dB (p x)))){n b c:Nat}(hl:l.length=n)(nl:n<=1099511627776):gq P F.ig [.bI 1000 b n c,.fn f [cap]] (mem1 1000 (rowA b c l)) (.d (dI (Jm p l))) (mem1 1000 (rowA b c l)):=by
 refine gq.intro fn.ig (by rfl) (by rfl) (ay (by rfl)) λE hE=>(AW.sg hE rfl (aF rfl (OL.nil (AW.seq (AW.sg hE rfl (iU rfl (Vq sl.dm rfl rfl ?_)))))))
 refine aj rfl (OL.nil (AW.block ?_));refine AW.aY (α:=Nat) [(0,_),(1,_),(7,_)] [] (λi=>[(8,.d (dI i))]) (λi=>[(1000,rowA b c l)]) (λi=>i<=l.length/\∀ j,j<i->p (l.getD j default)=false) (λi=>l.length-i) 0 (.cons (zA rfl) (.cons (KF rfl) (.cons (di rfl) .nil))) .nil ⟨⟨Nat.zero_le _,λj hj=>by omega⟩,.dD,.cons rfl .nil⟩ ?_
 rintro i ⟨h1,h2⟩
 refine AW.sg hE rfl (bG rfl rfl rfl (OL.nil (AW.seq (AW.cond rfl (λh9=>?_) (λh9=>?_)))))
 .try simp only[fD] at h9
  refine AW.skip (AW.seq (AW.block (AW.sg hE rfl (aj rfl (aF rfl (OL.nil (AW.sg hE rfl ?_)))))));refine QU rfl (iU rfl (aj rfl (jv sl.dm rfl rfl (by omega) (Ht ag.mX (by decide) rfl rfl (rD (show i<l.length by omega)) (vs:=pK (l.getD i default)) rfl (ay rfl) (bH rfl .iW (hf (l.getD i default) (getD_mem (by omega) _)) (OL.nil (AW.cond rfl (λh16=>?_) (λh16=>?_))))))))
  .have h16:=h16;exact AW.sg hE rfl (aj rfl (aF rfl (OL.nil (AW.ret ⟨⟨_,.tmp rfl .nil,.le (bW.int ((Eo (by omega) default h16 h2).symm))⟩,fP rfl⟩))))
  .have h16:=h16;refine AW.skip (AW.rg hE rfl (aI rfl rfl (by omega) (aj rfl (OL.nil ?_))))
   exact AW.again (x:=i) (i+1) (by omega) ⟨⟨by omega,λj hj=>by rcases Nat.lt_or_ge j i with h|h;exact h2 j h;obtain rfl:j=i:=(by omega);exact h16⟩,Knows.app .yU .dD,.cons rfl .nil⟩
 .try simp only[fD] at h9
  exact AW.exit (AW.sg hE rfl (aF rfl (OL.nil (AW.ret ⟨⟨_,.tmp rfl .nil,.le (bW.int ((Gy default λj hj=>h2 j (by omega)).symm))⟩,fP rfl⟩))))
theorem aA8 {p:bU->Bool}{l:List bU}{j:Nat}(hj:j<l.length):(l.take (j+1)).filter (λx=>!p x)=(l.take j).filter (λx=>!p x)++if p (l.getD j default)=true then [] else [l.getD j default]:=by
 rw[List.take_add_one,List.filter_append,jh,lQ hj];simp only[Option.toList_some,Option.getD_some,List.filter_cons,List.filter_nil];cases p l[j] <;> rfl
theorem aA9 {u:List bU}{i:Nat}{x:bU}(h:i<u.length):(u.set i x).take (i+1)=u.take i++[x]:=by
 rw[List.take_add_one,List.take_set_of_le (Nat.le_refl _),List.getElem?_set_self h];rfl
theorem SA {p:bU->Bool}{l:List bU}{j:Nat}(hj:j<=l.length)(h:∀ k,k<j->p (l.getD k default)=false):(l.take j).filter (λx=>!p x)=l.take j:=by
 refine List.filter_eq_self.2 λx hx=>?_;obtain⟨k,hk,e⟩:=List.mem_iff_getElem.1 hx;rw[List.length_take] at hk;rw[List.getElem_take] at e;have:=h k (by omega)
 rw[jh,lQ (by omega),Option.getD_some,e] at this
 rw[this];rfl
theorem ad2 {p:bU->Bool}{l:List bU}:(Jm p l = -1/\∀ k,k<l.length->p (l.getD k default)=false) \/ ∃ i:Nat,Jm p l=(i:Int)/\i<l.length/\p (l.getD i default)=true/\∀ k,k<i->p (l.getD k default)=false:=by
 by_cases h:∃ i,i<l.length/\p (l.getD i default)=true
 .obtain⟨i,⟨h1,h2⟩,h3⟩:=WC (p:=λi=>i<l.length/\p (l.getD i default)=true) _ h.choose_spec;have hk:∀ k,k<i->p (l.getD k default)=false:=λk hk=>Bool.eq_false_iff.2 λe=>by have:=h3 k ⟨by omega,e⟩;omega
  exact .inr ⟨i,Eo h1 default h2 hk,h1,h2,hk⟩
 .have hk:∀ k,k<l.length->p (l.getD k default)=false:=λk hk=>Bool.eq_false_iff.2 λe=>h ⟨k,hk,e⟩;exact .inl ⟨Gy default hk,hk⟩
set_option maxHeartbeats 800000 in
theorem aQ5 {l:List bU}{n f:Nat}{cap:V}{p:bU->Bool}(hf:∀ x,x ∈ l->ai P f [KU x,cap] (.d (dB (p x))))(hl:l.length=n)(nl:n<=134217728):OM P F.jM (λs=>[s,.fn f [cap]]) n T.mX 11 (l.map jG) (l.filter (λx=>!p x)).length ((l.filter (λx=>!p x)).map jG):=by
 refine OM.intro fn.jM (by rfl) (by rfl) (λ_=>Nat.le_of_ble_eq_true (by rfl)) 4 rfl λE b c hE=>(AW.rename 0 1000 rfl (AW.to [(0,.bI 1000 b n c),(1,.fn f [cap])] [(1000,rowA b c l)] (.cons bW.bI .dD) (.cons rfl .nil) (AW.sg hE rfl (jK rfl (OL.nil (AW.sg hE rfl (iU rfl ?_)))))))
 refine QU rfl (OL.Jb (v:=.d (dI (Jm p l))) (.mk (args':=[.bI 1000 b n c,.fn f [cap]]) rfl (.cons bW.bI .dD) (fP (id:=1000) (blk:=rowA b c l) rfl) yN (aQ4 hf hl (by omega))) (aF rfl (OL.nil (AW.seq (AW.sg hE rfl (aj rfl (fG rfl rfl rfl ?_)))))))
 refine OL.nil (AW.cond rfl (λh12=>?_) (λh12=>?_))
 .have h12:Jm p l = -1:=lK h12;have e0:l.filter (λx=>!p x)=l:=by have:=SA (p:=p) (Nat.le_refl l.length) (ad2.resolve_right (λ⟨i,e,_⟩=>by omega)).2;rwa [List.take_length] at this
  rw[e0,hl];exact AW.sg hE rfl (iU rfl (pV rfl (OL.nil (AW.ret ⟨.inr rfl,1000,b,c,l.map jG,rfl,rfl,by rw[dA];omega,by rw[List.take_of_length_le (by rw[dA];omega)]⟩))))
 .have h12:Jm p l ≠ -1:=nZ h12;obtain⟨i0,g1,g2,g3,g4⟩:=ad2.resolve_left (λe=>h12 e.1);rw[g1];refine AW.skip (AW.seq (AW.sg hE rfl (aj rfl (aI rfl rfl (by omega) (aF rfl (OL.nil (AW.block ?_)))))))
  refine AW.aY (α:=Nat × Nat × List bU) [(0,_),(1,_),(4,_)] [] (λ(i,j,u)=>[(5,.d (dI i)),(6,.d (dI j))]) (λ(i,j,u)=>[(1000,rowA b c u)]) (λ(i,j,u)=>i<j/\j<=n/\u.length=n/\u.take i=(l.take j).filter (λx=>!p x)/\∀ k,j<=k->u.getD k default=l.getD k default) (λ(i,j,u)=>n-j) (i0,i0+1,l) (.cons (zA rfl) (.cons (KF rfl) (.cons (xK rfl) .nil))) .nil ⟨⟨by omega,by omega,hl,by rw[aA8 (by omega),SA (by omega) g4,if_pos g3,List.append_nil],λk _=>rfl⟩,.iW,.cons rfl .nil⟩ ?_
  rintro⟨i,j,u⟩ ⟨h1,h2,h3,h4,h5⟩
  have h1:i<j:=h1;have h2:j<=n:=h2;have h3:u.length=n:=h3;refine AW.seq (AW.sg hE rfl (aj rfl (iU rfl (Vq sl.dm rfl rfl (bG rfl rfl rfl (OL.nil (AW.cond rfl (λh19=>?_) (λh19=>?_))))))))
  .try simp only[fD] at h19
   refine AW.skip (AW.seq (AW.block (AW.sg hE rfl (iU rfl (aj rfl (jv sl.dm rfl rfl (by omega) (Ht ag.mX (by decide) rfl rfl (rD (show j<u.length by omega)) (vs:=pK (u.getD j default)) rfl (ay rfl) ?_)))))))
   rw[h5 j (Nat.le_refl _)];refine al z.mX rfl λb7=>(fA sz.mX rfl rfl rfl rfl rfl (ay rfl) (cells2:=[_,_,_,_,_,_,_,_,_,_,_]) rfl (OL.nil (AW.sg hE rfl (QU rfl (aQ ag.mX rfl rfl (vs:=[_,_,_,_,_,_,_,_,_,_,_]) rfl (ay rfl) (bH rfl .iW (hf (l.getD j default) (getD_mem (by omega) _)) (nt rfl ?_)))))))
   refine OL.nil (AW.cond rfl (λhp=>?_) (λhp=>?_))
   .have hp:p (l.getD j default)=false:=by simpa using hp
    refine AW.sg hE rfl (iU rfl (aj rfl (aQ ag.mX rfl rfl (vs:=[_,_,_,_,_,_,_,_,_,_,_]) rfl (ay rfl) (jv sl.dm rfl rfl (by omega) (LQ sz.mX rfl (d:=jG (l.getD j default)) xQ rfl rfl (by rw[dA];omega) (es2:=(u.set i (l.getD j default)).map jG) (by rw[List.map_set]) (OL.nil (AW.rg hE rfl ?_)))))))
    refine aj rfl (aI rfl rfl (by omega) (aF rfl (OL.nil (AW.rg hE rfl (aj rfl (aI rfl rfl (by omega) (aF rfl ?_)))))))
    refine OL.nil ?_;exact AW.again (x:=(i,j,u)) (i+1,j+1,u.set i (l.getD j default)) (by (simp only[];omega)) ⟨⟨by omega,by omega,by rw[List.length_set];exact h3,by rw[aA8 (by omega),<- h4,if_neg (by rw[hp];decide)];exact aA9 (by omega),λk hk=>by rw[KR (by omega),if_neg (by omega)];exact h5 k (by omega)⟩,Knows.app .yU .iW,.cons rfl .nil⟩
   .have hp:p (l.getD j default)=true:=by simpa using hp
    refine AW.skip (AW.rg hE rfl (aj rfl (aI rfl rfl (by omega) (aF rfl (OL.nil ?_)))))
    exact AW.again (x:=(i,j,u)) (i,j+1,u) (by (simp only[];omega)) ⟨⟨by omega,by omega,h3,by rw[aA8 (by omega),if_pos hp,List.append_nil];exact h4,λk hk=>h5 k (by omega)⟩,Knows.app .yU .iW,.cons rfl .nil⟩
  .try simp only[fD] at h19
   refine AW.exit (AW.seq ?_);obtain rfl:j=n:=by omega
   have hf0:l.filter (λx=>!p x)=u.take i:=by rw[h4,List.take_of_length_le (by omega)]
   have hti:(u.take i).length=i:=by rw[List.length_take];omega
   rw[hf0,hti];refine AW.aa7 (by rw[hE];rfl) (SL.gV (iU rfl (OL.nil ?_)))
   refine SL.gV (aj rfl (OL.nil ?_));refine SL.gV (slB (l:=i) (n2:=j-i) sl.dm rfl rfl (by omega) rfl (OL.nil ?_))
   refine SL.Hu rfl (SO.bd5 (z:=jG default) trivial sl.dm z.mX aA7 rfl rfl (by rw[dA];omega) ?_)
   refine AW.sg hE rfl (iU rfl (aj rfl (slO (h:=i) sl.dm rfl rfl (by omega) (pV rfl (OL.nil ?_)))))
   exact AW.ret ⟨.inr rfl,1000,b,c,_,rfl,rfl,by rw[jd,List.length_take,dA,List.length_replicate];omega,by rw[List.take_append_of_le_length (by rw[List.length_take,dA];omega),List.take_take,Nat.min_self,List.map_take]⟩
def al2 (k:Nat)(l:List bU):Prop:=∀ x,x ∈ l->sz x.q<=(k+1)*134217730
theorem al3 {k:Nat}{out:List bU}{x:bU}(h:al2 k out)(hx:sz x.q<=134217728):al2 (k+1) (kH out x):=by
 have up:∀ y,sz y<=(k+1)*134217730->sz y<=(k+1+1)*134217730:=λy hy=>Nat.le_trans hy (Nat.mul_le_mul_right _ (Nat.le_succ _));intro y hy;unfold kH at hy
 split at hy
 .rename_i hc;rcases List.mem_or_eq_of_mem_set hy with hy|rfl
  .exact up _ (h y hy)
  .have h1:=h _ (getD_mem (show out.length-1<out.length by omega) default)
   have h2:=AX (out.getD (out.length-1) default).q x.q;show sz ((out.getD (out.length-1) default).q+x.q)<=_
   omega
 .rcases uy hy with hy|hy
  .exact up _ (h y hy)
  .rw[jJ hy];omega
theorem al4 {l:List bU}{i:Nat}(hi:i<l.length):(l.take (i+1)).foldl kH []=kH ((l.take i).foldl kH []) (l.getD i default):=by
 rw[List.take_add_one,List.foldl_append,lQ hi,jh,lQ hi];rfl
theorem YZ (out:List bU)(x:bU):(kH out x).length<=out.length+1:=by
 unfold kH
 split
 .rw[List.length_set];omega
 .rw[jd];exact Nat.le_refl _
theorem aQ6 {l:List bU}(nl:l.length<=134217728):kU P F.nH [.d (jW l)] l.length T.mX 11 (l.map jG):=by
 refine kU.intro fn.nH (by rfl) (by rfl) (ay (by rfl)) 2 rfl λE hE=>(AW.sg hE rfl (jK rfl (OL.nil (AW.seq (AW.sg hE rfl (aj rfl (isNil sl.dm.u rfl (λy hy=>by obtain⟨a,_,rfl⟩:=kK hy;exact Nat.succ_pos _) rfl λb hb=>?_)))))))
 refine OL.nil (AW.cond rfl (λh=>?_) (λh=>?_))
 .have hL:l=[]:=by have:=hb h;simpa using this
  subst hL;exact AW.sg hE rfl (jK rfl (OL.nil (AW.own 2 99 T.mX 11 rfl rfl (AW.ret ⟨.inr rfl,99,0,0,[],rfl,rfl,Nat.le_refl _,rfl⟩))))
 .have _h:=h;exact AW.skip (AW.sg hE rfl (lt0 sl.dm (aj rfl (apM sl.dm rfl rfl (VC.d _) Gg (by simp;omega) (by simp;omega) rfl λb7 c7=>(pV rfl (OL.nil (AW.ret ⟨.inr rfl,7,b7,c7,l.map jG,by show V.bI 7 b7 (List.map jG l).length c7=_;rw[dA],rfl,by rw[dA];exact Nat.le_refl _,List.take_of_length_le (by rw[dA];exact Nat.le_refl _)⟩)))))))
theorem aB0 {b c:Nat}:gq P F.gZ [.bI 1000 b 0 c,.d (dI 0),.fn F.dH []] (mem1 1000 (rowA b c [])) (.mM []) (mem1 1000 (rowA b c [])):=by
 refine gq.intro fn.gZ (by rfl) (by rfl) (ay (by rfl)) λE hE=>(AW.sg hE rfl (aF rfl (OL.nil (AW.sg hE rfl (aj rfl (aF rfl (aF rfl ?_)))))))
 refine OL.nil (AW.seq (AW.block ?_));refine AW.aY (α:=Unit) [(0,_),(1,_),(2,_),(6,_)] [] (λ_u=>[(7,.d (dI 0)),(8,.d (dI 20))]) (λ_u=>[(1000,rowA b c [])]) (λ_u=>True) (λ_u=>0) () (.cons (zA rfl) (.cons (di rfl) (.cons (KF rfl) (.cons (di rfl) .nil)))) .nil ⟨trivial,.iW,.cons rfl .nil⟩ ?_
 rintro⟨⟩ -
 refine AW.seq (AW.sg hE rfl (aj rfl (aj rfl (yM rfl rfl rfl (OL.nil (AW.cond rfl (λhno=>absurd hno (by simp)) (λ_=>?_)))))))
 refine AW.exit (AW.sg hE rfl (iU rfl (aj rfl (aj rfl (QU rfl ?_)))));refine OL.Jb (v:=.mM []) (.mk (args':=[.bI 1000 b 0 c,.d (dI 0),.d (dI 0),.fn F.dH []]) rfl (.cons vR (.cons vR (.cons vR (.cons vR (.nil))))) (fP (id:=1000) (blk:=rowA b c []) rfl) yN (WJ (n:=0) (by decide))) ?_
 refine OL.nil (AW.block ?_);refine AW.aY (α:=Unit) [(0,_),(1,_),(2,_)] [] (λ_u=>[(6,.d (dI 20))]) (λ_u=>[(1000,rowA b c [])]) (λ_u=>True) (λ_u=>0) () (.cons (zA rfl) (.cons (di rfl) (.cons (KF rfl) .nil))) .nil ⟨trivial,.dD,.cons rfl .nil⟩ ?_
 rintro⟨⟩ -
 refine AW.seq (AW.sg hE rfl (aj rfl (aj rfl (bG rfl rfl rfl (OL.nil (AW.cond rfl (λhno=>absurd hno (by simp)) (λ_=>?_)))))))
 exact AW.exit (⟨⟨_,.nil,_,.nil,rfl⟩,fP rfl⟩)
theorem UO {b c:Nat}:gq P F.dS [.bI 1000 b 0 c,.fn F.dH []] (mem1 1000 (rowA b c [])) (.mM []) (mem1 1000 (rowA b c [])):=by
 refine gq.intro fn.dS (by rfl) (by rfl) (ay (by rfl)) λE hE=>(AW.rg hE rfl (iU rfl (iU rfl (Vq sl.dm rfl rfl (QU rfl (OL.Jb (v:=.mM []) (.mk (args':=[.bI 1000 b 0 c,.d (dI 0),.fn F.dH []]) rfl (.cons vR (.cons vR (.cons vR (.nil)))) (fP (id:=1000) (blk:=rowA b c []) rfl) yN (aB0)) (OL.nil ?_)))))))
 exact⟨⟨_,.nil,_,.nil,rfl⟩,fP rfl⟩
theorem WM {l:List bU}{b n c:Nat}(hl:l.length=n)(hn:n<=20):gq P F.dS [.bI 1000 b n c,.fn F.dH []] (mem1 1000 (rowA b c l)) (.mM []) (mem1 1000 (rowA b c (sortA l))):=by
 rcases Nat.eq_zero_or_pos n with h0|h0
 .subst h0;rw[Hl hl];exact UO
 .have h:=WL (b:=b) (c:=c) hl ⟨h0,hn⟩;subst hl;exact h
