/-
  M, chapter 24: arcs in order, without zeros, are told by their matrices: Form and Tidy give the same.
-/
import Derived.Test.YteiohkpjgcioaaaGreatDoorKWkB
set_option linter.unusedVariables false
set_option linter.unusedSimpArgs false
namespace Go.AL
open Go Go.BigFrame
section
variable {P:Program}{E:Env}{K:S->Prop}{s:S}{pos:String}{after:Array Edge}{ty:Nat}
theorem ac7 {M:Mem}{id:Nat}{blk:kL}(h:M id=some blk):upd M id (some blk)=M:=by
 funext k;unfold upd
 split
 .rename_i e;rw[e];exact h.symm
 .rfl
theorem After.none {F:Hp}{M:Mem}{w:World}(h:wP F M w):After F M w F M w:=⟨Grow.refl _ _,Hp.le.refl F,h,λk a b=>absurd a b,λ_ k=>.inr k⟩
theorem builtin_clear {ats:Array TypeId}{ty:TypeId}{cs:Array Bool}{args:Array Value}:builtin .clear ats ty cs args=(do pure (.value (<- Builtin.clear_ ats ty args))):=rfl
theorem Oq {a:Act}{w w':World}{o:Oper}{x:Operand}{t:Nat}{v:Value}(ho:o.op=.call { callee:=.builtin .clear,args:=#[x],argTypes:=#[t] }){R:Value->World->Prop}
  (hr:(Builtin.clear_ #[t] o.type #[a.eval x]).run P w=.ok v w') (h:R v w'):Good P ((execOp a.eval o).run P w) R:=by
 unfold execOp;rw[ho];simp only[resolve,Sem.run_bind,Sem.run_pure,Result.andThen_ok,invoke,builtin_clear];have e1:(#[x].map a.eval) = #[a.eval x]:=by simp
 rw[e1,hr];exact h
theorem SO.aq5 {dst:Option Nat}{t e sz dX id b o n c cb:Nat}{x:Operand}{es:List D}{z:D}{zs:List V}(hd:pR E.n dst)(hT:bI P t e sz dX)(hz:gU P e zs)(hc:VCs zs z.cells)(hx:s.ev x=.BM id b sz o n c)(hM:s.M id=some (.row b cb e sz es))(hn:o+n=es.length)
  (h:K ((⟨s.ρ,upd s.M id (some (.row b cb e sz (es.take o++List.replicate n z)))⟩:S).put dst (.jM []))) :
  SO P E ⟨dst,.call { callee:=.builtin .clear,args:=#[x],argTypes:=#[t] },ty,pos,after,none⟩ K s:=λF a w hr=>by
 have hx':=hr.eval x;rw[hx] at hx';generalize hax:a.eval x=ax at hx';obtain⟨g0,g1,g2⟩:=hr.iF.own id _ hM;obtain⟨i,zv,hi,hzv,h1,h2,h3⟩:=hT.parts;obtain⟨i',zv',hi',aj7,z1,z2,z3⟩:=hz.parts;rw[hi] at hi';cases hi'
 rw[hzv] at aj7;cases aj7
 have hzl:zs.length=sz:=by rw[<- h2,z3]
 have hdl:z.cells.length=sz:=by rw[<- hc.length,hzl]
 cases hx' with
 | @BM ao _ _ _ _ _ _ ha hnc =>
  rcases Nat.eq_zero_or_pos n with h0|h0
  .subst h0;have e1:es.take o++List.replicate 0 z=es:=by rw[List.replicate_zero,List.append_nil,List.take_of_length_le (by omega)]
   rw[e1,ac7 hM] at h;refine Oq (o:=⟨dst,.call { callee:=.builtin .clear,args:=#[x],argTypes:=#[t] },ty,pos,after,none⟩) (v:=.tuple #[]) (w':=w) rfl ?_ ⟨F,_,hr.qy (After.none hr.iF) hd (.jM (us:=[]) rfl λi c u h=>by simp at h),h⟩
   rw[hax];cases ao <;> simp[Builtin.clear_,run_underlying hT.u]
  .rw[ha (by omega)] at hax
   obtain⟨cs,hh,hcl,c1,c2⟩:=g2 (by omega)
   have hfit:o*sz+n*sz<=cs.length:=by rw[hcl,<- Nat.add_mul,hn];exact Nat.mul_le_mul_right _ g0
   have hget:∀ (j:Nat) (u:Value),(Builtin.zeroCells zv.cells n).toList[j]? = some u->j<n*sz/\zv.cells.toList[j % sz]? = some u:=λj u hu=>by
    have hj:j<n*sz:=by have:=(List.getElem?_eq_some_iff.1 hu).1;simpa [Builtin.zeroCells,h1] using this
    refine⟨hj,?_⟩;simp only[Builtin.zeroCells,Array.toList_map,Array.toList_range,h1,List.getElem?_map,List.getElem?_range hj,Option.map_some,Option.some.injEq] at hu;have hlt:j % sz<zv.cells.size:=by rw[h1];exact Nat.mod_lt _ hT.pos
    rw[getElem!_pos zv.cells (j % sz) hlt] at hu;rw[<- hu];simp[hlt]
   have Za:(Builtin.zeroCells zv.cells n).toList.length=n*sz:=by simp[Builtin.zeroCells,h1]
   have hone:∀ v,v ∈ (Builtin.zeroCells zv.cells n).toList->v.oneCell' = true:=λu hu=>by
    obtain⟨j,hj⟩:=List.mem_iff_getElem?.1 hu;exact hT.one hi hzv u (List.mem_of_getElem? (hget j u hj).2)
   have hst:=run_storeCells_at P b (o*sz) e (Builtin.zeroCells zv.cells n).toList 0 cs.toArray w hh (by rw[Za];simp;omega) hone
   rw[Nat.add_zero,Za] at hst;have hs:∀ y,y ∈ es.take o++List.replicate n z->y.cells.length=sz:=λy hy=>by
    rcases BO hy with hy|hy
    .exact g1 y (List.mem_of_mem_take hy)
    .rw[(List.mem_replicate.1 hy).2];exact hdl
   have hto:(es.take o).length=o:=by rw[List.length_take];omega
   have hlen:(es.take o++List.replicate n z).length=es.length:=by rw[jT,hto,List.length_replicate];exact hn
   have hA:After F s.M w F (upd s.M id (some (.row b cb e sz (es.take o++List.replicate n z)))) (w.setRow b (cs.take (o*sz)++(Builtin.zeroCells zv.cells n).toList++cs.drop (o*sz+n*sz)).toArray):=by
    refine After.BP hr.iF hM ⟨by omega,rfl⟩ (λk hk=>hk.2) hh λw' hw'=>⟨by rw[hlen];exact g0,hs,λ_=>⟨_,hw',?_,λv hv=>?_,λj d u hjd hju=>?_⟩⟩
    .rw[jT,jT,List.length_take,List.length_drop,Za];omega
    .rcases BO hv with hv|hv
     .rcases BO hv with hv|hv
      .exact c1 v (List.mem_of_mem_take hv)
      .exact hone v hv
     .exact c1 v (List.mem_of_mem_drop hv)
    .rw[List.flatMap_append] at hjd;have hfo:((es.take o).flatMap D.cells).length=o*sz:=by rw[flat_length λy hy=>g1 y (List.mem_of_mem_take hy),hto]
     rcases Nat.lt_or_ge j (o*sz) with hj|hj
     .rw[List.getElem?_append_left (by rw[hfo];exact hj)] at hjd
      rw[List.append_assoc,List.getElem?_append_left (by rw[List.length_take];omega),List.getElem?_take_of_lt hj] at hju
      refine c2 j d u ?_ hju;obtain⟨r,hr2⟩:=y7 (es:=es) o;rw[hr2,List.getElem?_append_left (by rw[hfo];exact hj)]
      exact hjd
     .rw[List.getElem?_append_right (by rw[hfo];exact hj),hfo] at hjd
      have hsr:∀ y,y ∈ List.replicate n z->y.cells.length=sz:=λy hy=>by rw[(List.mem_replicate.1 hy).2];exact hdl
      have hjn:j-o*sz<n*sz:=by
       have:=(List.getElem?_eq_some_iff.1 hjd).1
       rwa [flat_length hsr,List.length_replicate] at this
      rw[List.append_assoc,List.getElem?_append_right (by rw[List.length_take];omega),List.length_take,Nat.min_eq_left (by omega),List.getElem?_append_left (by rw[Za];exact hjn)] at hju
      obtain⟨_,hzu⟩:=hget _ u hju;have hq:(j-o*sz) / sz<n:=Nat.div_lt_of_lt_mul (by rw[Nat.mul_comm sz n];exact hjn)
      have hmod:(j-o*sz) % sz<sz:=Nat.mod_lt _ hT.pos;have hg:=flat_get hsr (i:=(j-o*sz) / sz) (e:=z) (by rw[List.getElem?_replicate,if_pos hq]) ((j-o*sz) % sz) hmod
      rw[Nat.mul_comm,Nat.div_add_mod] at hg;rw[hg] at hjd;obtain⟨x',hx2,hvc⟩:=hc.get _ _ hjd;rw[<- z1,List.getElem?_map,hzu] at hx2;simp only[Option.map_some,Option.some.injEq] at hx2;rw[<- hx2] at hvc;exact (hvc F u (IG F u)).1
   refine Oq (o:=⟨dst,.call { callee:=.builtin .clear,args:=#[x],argTypes:=#[t] },ty,pos,after,none⟩) (v:=.tuple #[]) rfl ?_ ⟨F,_,hr.qy hA hd (.jM (us:=[]) rfl λi c u h=>by simp at h),h⟩
   rw[hax];have e2:(zeroValue e).run P w=.ok zv w:=by simp[zeroValue,typeInfo,hi,hzv]
   obtain⟨m,rfl⟩:∃ m,n=m+1:=⟨n-1,by omega⟩
   simp[Builtin.clear_,run_underlying hT.u,e2,hst]
end
section
variable {P:Program}{E:Env}{K:S->Prop}{s:S}{ty:Nat}{pos:String}{after:Array Edge}
theorem RO.all {M Mk:Mem}{id b n c e sz:Nat}{es:List D}{d:D}(hM:M id=some (.row b c e sz es))(hk:Mk id=Option.none)(hn:n=es.length)(hd:d=.sl es):RO M Mk (.bJ id b n c) (.d d):=by
 subst hn hd;have h:=RO.bJ (M:=M) (Mk:=Mk) hM hk (Nat.le_refl es.length)
 rwa [List.take_length] at h
end
section
variable {d l:List Rat}{s i k n:Nat}{h:HM}
theorem QH:sN 1:=⟨by decide,by decide⟩
theorem XK:sN 0:=⟨by decide,by decide⟩
theorem Ef {α β:Type}{f:α->β}{l:List α}{d:α}{e:β}{i:Nat}(h:i<l.length):(l.map f).getD i e=f (l.getD i d):=by
 rw[iZ,List.getElem?_map,sU h,iZ,sU h];rfl
theorem PS {α:Type}{e:α}(l:List α):((List.range l.length).map λi=>l.getD i e)=l:=by
 refine List.ext_getElem (by simp) λi h1 h2=>?_
 rw[List.getElem_map,List.getElem_range,iZ,sU h2];rfl
end
end Go.AL
namespace Go.Proofs.YteiohkpjgcioaaaGreatDoor
open Go Go.AL
abbrev upI (n:Nat):List Int:=(List.range n).map λi:Nat=>(i:Int)
theorem xU {n:Nat}:(upI n).length=n:=by simp
theorem SX {n i:Nat}(h:i<n):(upI n).getD i 0=(i:Int):=dM _ _ h
theorem uz {α:Type}(l:List α)(d:α):(List.range l.length).map (λj=>l.getD j d)=l:=by
 refine List.ext_getElem (by simp) λk h1 h2=>?_
 simp[iZ,sU h2]
theorem PU {l:List (Rat)}{C:Nat}(hl:Small C l)(hC:1<=C/\C<=68719476736)(nl:l.length<=1048576):ai P F.oO [.d (o9 l),.fn F.qB []] (.d (o9 l)):=by
 refine ai.intro fn.oO (by rfl) (by rfl) (au (by rfl)) λE hE=>(AW.sg hE rfl (oq rfl (OL.nil (AW.seq (AW.sg hE rfl (ah rfl (isNil sl.aQ.u rfl (λy hy=>by obtain⟨a,_,rfl⟩:=Az hy;exact Nat.succ_pos _) rfl λb hb=>?_)))))))
 refine OL.nil (AW.cond rfl (λh=>?_) (λh=>?_))
 .have hL:l=[]:=by have:=hb h;simpa using this
  exact AW.sg hE rfl (oq rfl (OL.nil (AW.ret (aH.r ⟨_,.tmp rfl .nil,.le (hL ▸ aZ.mt)⟩))))
 .have _h:=h;refine AW.skip (AW.sg hE rfl (ah rfl (eH sl.aQ rfl rfl (Xd dQ 0 sl.aQ z.Rat NG rfl rfl (Nat.le_refl _) (by omega) (by omega) rfl λb12=>(uj rfl (OL.nil (AW.seq ?_)))))))
  refine AW.sg hE rfl (ah rfl (eH sl.aQ rfl rfl (ah rfl (OL.nil (AW.block ?_)))));refine AW.aK (α:=Nat) [(1,_),(4,_),(5,_),(13,_),(14,_)] [] (λi=>[(15,.d (dI i))]) (λi=>[(12,.row b12 l.length T.Rat 3 ((tX 0 (λj=>l.getD j 0) l.length i).map dQ))]) (λi=>i<=l.length) (λi=>l.length-i) 0 (.cons (EM rfl) (.cons (zi rfl) (.cons (uH rfl) (.cons (bM rfl) (.cons (bM rfl) .nil))))) .nil ⟨Nat.zero_le _,.bC,.cons (by rw[D8];rfl) .nil⟩ ?_
  intro i h1;have h1:i<=l.length:=h1;have hfl:=uS 0 (λj=>l.getD j 0) l.length i;refine AW.sg hE rfl (aN rfl rfl rfl (OL.nil (AW.seq (AW.cond rfl (λh16=>?_) (λh16=>?_)))))
  .try simp only[bY] at h16
   refine AW.skip (AW.seq (AW.block (AW.sg hE rfl (ah rfl (bg sl.aQ 0 rfl rfl (by omega) rfl rfl (iU ag.Rat rfl (vs:=[_,_,_]) rfl (au rfl) (al z.Rat rfl λb7=>?_)))))))
   refine ay rfl (dA sz.Rat rfl rfl rfl rfl rfl (au rfl) (cells2:=[_,_,_]) rfl (OL.nil (AW.rg hE rfl (fQ rfl (ah rfl (EL rfl (aG ag.Rat rfl rfl (vs:=[_,_,_]) rfl (au rfl) ?_)))))));refine aY rfl vL (qB (Nat.le_trans (hl.get hC.1 i) hC.2)) (dV sl.aQ rfl rfl (by omega) (AA sz.Rat rfl Dp rfl rfl (by rw[dF];omega) (es2:=(tX 0 (λj=>l.getD j 0) l.length (i+1)).map dQ) (by rw[<- Gm (show i<l.length by omega),List.map_set]) (OL.nil (AW.rg hE rfl (aB rfl rfl (by omega) (ah rfl (OL.nil ?_)))))))
   exact AW.again (x:=i) (i+1) (by omega) ⟨by omega,Knows.app .y9 .bC,.cons rfl .nil⟩
  .try simp only[bY] at h16
   refine AW.exit (AW.seq ?_);obtain rfl:i=l.length:=by omega
   have hfr:(List.range l.length).map (λj=>l.getD j 0)=l:=uz l 0;refine AW.freeze 12 rfl (AW.to [(5,.d (o9 l))] [] (.cons (dP (by rw[dF,uS]) (by rw[Gn,hfr])) .nil) .nil ?_)
   exact AW.rg hE rfl (ah rfl (ay rfl (OL.nil (AW.ret (aH.r ⟨_,.tmp rfl .nil,.le vR⟩)))))
theorem qX {l:List (Rat)}{C:Nat}(hl:Small C l)(hC:1<=C/\C<=68719476736)(nl:l.length<=1048576):ai P F.qX [.d (o9 l)] (.d (o9 l)):=by
 refine ai.intro fn.qX (by rfl) (by rfl) (au (by rfl)) λE hE=>(AW.sg hE rfl (oq rfl (OL.nil (AW.sg hE rfl (ah rfl (aY rfl vL (PU hl hC nl) (ay rfl ?_)))))))
 exact OL.nil (AW.ret (aH.r ⟨_,.tmp rfl .nil,.le vR⟩))
theorem rG {q:Rat}:ai P F.Dx [vQ q] (vW q):=by
 refine ai.intro fn.Dx (by rfl) (by rfl) (au (by rfl)) λE hE=>(AW.sg hE rfl (iC rfl rfl λb1=>(al z.aA rfl λb2=>(OL.nil (AW.sg hE rfl (aG ag.Rat rfl rfl (vs:=[_,_,_]) rfl (au rfl) (bd z.aA pl.aA (cs:=[_,_,_,_,_,_,_,_]) rfl ?_)))))))
 refine dA sz.aA rfl rfl rfl rfl rfl (au rfl) (cells2:=[_,_,_,_,_,_,_,_]) rfl (OL.nil ?_);exact AW.ret (aH.r ⟨_,.dD rfl rfl ag.aA (au rfl) .nil,.ag (.cons (.le vR) (.cons (.le vR) (.cons (.le vR) (.cons (.le vR) (.cons (.le vR) (.cons (.le vR) (.cons (.le (aZ.mt)) (.cons (.le (aZ.mt)) .nil))))))))⟩)
def D9 (a b:Int):Int:=if a<b then -1 else if b<a then 1 else 0
theorem KJ {l m:List Int}{i:Nat}(h1:i<l.length)(h2:i<m.length):cmpL (l.drop i) (m.drop i)=if D9 (l.getD i 0) (m.getD i 0)=0 then cmpL (l.drop (i+1)) (m.drop (i+1)) else D9 (l.getD i 0) (m.getD i 0):=by
 have e1:l.getD i 0=l[i]:=by rw[iZ,sU h1];rfl
 have e2:m.getD i 0=m[i]:=by rw[iZ,sU h2];rfl
 rw[List.drop_eq_getElem_cons h1,List.drop_eq_getElem_cons h2,cmpL,e1,e2];unfold D9;by_cases a:l[i]<m[i]
 .rw[if_pos a,if_pos a,if_neg (by decide)]
 .rw[if_neg a,if_neg a];by_cases b:m[i]<l[i]
  .rw[if_pos b,if_pos b,if_neg (by decide)]
  .rw[if_neg b,if_neg b,if_pos rfl]
theorem cmp_isNaN_int {x:Int}:ai P F.cmp_isNaN_int [.d (dI x)] (.d (dB false)):=by
 refine ai.intro fn.cmp_isNaN_int (by rfl) (by rfl) (au (by rfl)) λE hE=>(AW.sg hE rfl (ay rfl (OL.nil (AW.sg hE rfl (ah rfl (ah rfl (bU rfl rfl rfl ?_)))))))
 exact ay rfl (OL.nil (AW.ret (aH.r ⟨_,.tmp rfl .nil,.le (aZ.bool (by simp_all))⟩)))
theorem cmp_Compare_int {x y:Int}:ai P F.cmp_Compare_int [.d (dI x),.d (dI y)] (.d (dI (D9 x y))):=by
 refine ai.intro fn.cmp_Compare_int (by rfl) (by rfl) (au (by rfl)) λE hE=>(AW.sg hE rfl (ay rfl (OL.nil (AW.sg hE rfl (ah rfl (aY rfl vL (cmp_isNaN_int) (ay rfl ?_)))))))
 refine OL.nil (AW.sg hE rfl (ah rfl (aY rfl vL (cmp_isNaN_int) (ay rfl (OL.nil (AW.seq (AW.sg hE rfl ?_)))))));refine ah rfl (OL.nil (jD rfl ?_));refine AW.skip (AW.seq (AW.sg hE rfl (ah rfl (OL.nil (jD rfl ?_)))));refine AW.skip (AW.seq (AW.sg hE rfl (ah rfl (ah rfl (aN rfl rfl rfl (OL.nil (AW.cond rfl (λh1=>?_) (λh1=>?_))))))))
 .have h1:=jC h1;exact AW.sg hE rfl (ay rfl (OL.nil (AW.ret (aH.r ⟨_,.tmp rfl .nil,.le (aZ.int ((if_pos h1).symm))⟩))))
 .have h1:=kK h1;refine AW.skip (AW.seq (AW.sg hE rfl (ah rfl (ah rfl (iI rfl rfl rfl (OL.nil (AW.cond rfl (λh2=>?_) (λh2=>?_))))))))
  .have h2:=jC h2;exact AW.sg hE rfl (ay rfl (OL.nil (AW.ret (aH.r ⟨_,.tmp rfl .nil,.le (aZ.int (by unfold D9;rw[if_neg h1,if_pos h2]))⟩))))
  .have h2:=kK h2;exact AW.skip (AW.sg hE rfl (ay rfl (OL.nil (AW.ret (aH.r ⟨_,.tmp rfl .nil,.le (aZ.int (by unfold D9;rw[if_neg h1,if_neg h2]))⟩)))))
theorem XL {l:List Int}(nl:l.length<=1099511627776):ai P F.mg [.d (ints l)] (.d (ints l)):=by
 refine ai.intro fn.mg (by rfl) (by rfl) (au (by rfl)) λE hE=>(AW.sg hE rfl (oq rfl (OL.nil (AW.seq (AW.sg hE rfl (ah rfl (isNil sl.ints.u rfl (λy hy=>by obtain⟨a,_,rfl⟩:=Az hy;exact Nat.succ_pos _) rfl λb hb=>?_)))))))
 refine OL.nil (AW.cond rfl (λh=>?_) (λh=>?_))
 .have hL:l=[]:=by have:=hb h;simpa using this
  exact AW.sg hE rfl (oq rfl (OL.nil (AW.ret (aH.r ⟨_,.tmp rfl .nil,.le (hL ▸ aZ.mt)⟩))))
 .have _h:=h;exact AW.skip (AW.sg hE rfl (lt0 sl.ints (ah rfl (UD sl.ints rfl rfl (VC.d _) (λy hy=>by obtain⟨a,_,rfl⟩:=Az hy;rfl) (by simp;omega) (by simp;omega) (ay rfl (OL.nil (AW.ret (aH.r ⟨_,.tmp rfl .nil,.le vR⟩))))))))
def orL:List Int->Int
 | []=>0
 | x::r=>if x=0 then orL r else x
theorem aq6:∀ {l:List Int} {i:Nat},i<l.length->(∀ j,j<i->l.getD j 0=0)->l.getD i 0≠0->orL l=l.getD i 0
 | x::r,0,_,_,h=>if_neg h
 | x::r,i+1,hi,hz,h=>(if_pos (hz 0 (Nat.zero_lt_succ _))).trans (aq6 (by simpa using hi) (λj hj=>hz (j+1) (by omega)) h)
theorem Vm:∀ {l:List Int},(∀ j,j<l.length->l.getD j 0=0)->orL l=0
 | [],_=>rfl
 | x::r,h=>(if_pos (h 0 (Nat.zero_lt_succ _))).trans (Vm λj hj=>h (j+1) (by simpa using hj))
theorem XM (a b:Nat):D9 (a:Int) (b:Int)=cI a b:=by
 unfold D9 cI;by_cases h1:a<b
 .rw[if_pos (by omega),if_pos h1]
 .rw[if_neg (by omega),if_neg h1]
  by_cases h2:b<a
  .rw[if_pos (by omega),if_pos h2]
  .rw[if_neg (by omega),if_neg h2]
theorem aR2 (x y:aT):orL [cI x.f y.f,cI x.l y.l,cI x.t y.t]=iH x y:=by
 unfold iH;by_cases h1:cI x.f y.f=0 <;> by_cases h2:cI x.l y.l=0 <;> by_cases h3:cI x.t y.t=0 <;> simp[orL,h1,h2,h3]
abbrev rowA (b c:Nat)(l:List aT):kL:=.row b c T.mD 11 (l.map iO)
theorem iT {l:List aT}{i:Nat}(hi:i<l.length):(l.map iO)[i]? = some (iO (l.getD i default)):=by rw[List.getElem?_map,iZ,sU hi];rfl
theorem tu {x:aT}:VD (KG x) (iO x):=VD.ag (.cons (VC.d _) (.cons (VC.d _) (.cons (VC.d _) (.cons (VC.d _) (.cons (VC.d _) (.cons (VC.d _) (.cons (VC.d _) (.cons (VC.d _) (.cons (VC.d _) (.cons (VC.d _) (.cons (VC.d _) .nil)))))))))))
abbrev gI (x:aT):List V:=[.d (dI x.f),.d (dI x.l),.d (dI x.t),.d (dB (eU x.q).neg),.d (aC (eU x.q).num),.d (aC (eU x.q).den),.d (dI 0),.d (dB false),.d (dU 0),.d (.sl []),.d (.sl [])]
theorem Fz {l:List aT}:∀ y,y ∈ l.map iO->y.cells.length=11:=λy hy=>by obtain⟨a,_,rfl⟩:=Az hy;rfl
theorem aF0 {l:List Int}(nl:l.length<=1099511627776):ai P F.DW [.d (ints l)] (.d (dI (orL l))):=by
 refine ai.intro fn.DW (by rfl) (by rfl) (au (by rfl)) λE hE=>(AW.sg hE rfl (ay rfl (OL.nil (AW.sg hE rfl (ay rfl (OL.nil (AW.seq ?_)))))))
 refine AW.sg hE rfl (ah rfl (eH sl.ints rfl rfl (ah rfl (OL.nil (AW.block ?_)))));refine AW.aK (α:=Nat) [(3,_),(6,_),(7,_)] [] (λi=>[(8,.d (dI i))]) (λi=>[]) (λi=>i<=l.length/\∀ j,j<i->l.getD j 0=0) (λi=>l.length-i) 0 (.cons (bM rfl) (.cons (bM rfl) (.cons (bM rfl) .nil))) .nil ⟨⟨Nat.zero_le _,λj hj=>by omega⟩,.bC,.nil⟩ ?_
 rintro i ⟨h1,h2⟩
 refine AW.sg hE rfl (aN rfl rfl rfl (OL.nil (AW.seq (AW.cond rfl (λh9=>?_) (λh9=>?_)))))
 .try simp only[bY] at h9
  refine AW.skip (AW.seq (AW.block (AW.sg hE rfl (bg sl.ints 0 rfl rfl (by omega) rfl rfl (bP ce.int rfl (ay rfl (OL.nil ?_)))))))
  refine AW.sg hE rfl (ah rfl (ah rfl (bU rfl rfl rfl (OL.nil (AW.cond rfl (λhc=>?_) (λhc=>?_))))))
  .have hc:l.getD i 0≠0:=L6 hc;exact AW.sg hE rfl (ah rfl (ay rfl (OL.nil (AW.ret (aH.r ⟨_,.tmp rfl .nil,.le (aZ.int ((aq6 (by omega) h2 hc).symm))⟩)))))
  .have hc:l.getD i 0=0:=J3 hc;refine AW.skip (AW.rg hE rfl (aB rfl rfl (by omega) (ah rfl (OL.nil ?_))))
   exact AW.again (x:=i) (i+1) (by omega) ⟨⟨by omega,λj hj=>by rcases Nat.lt_or_ge j i with h|h;exact h2 j h;obtain rfl:j=i:=(by omega);exact hc⟩,Knows.app .wL .bC,.nil⟩
 .try simp only[bY] at h9
  exact AW.exit (AW.sg hE rfl (ah rfl (ay rfl (OL.nil (AW.ret (aH.r ⟨_,.tmp rfl .nil,.le (aZ.int ((Vm λj hj=>h2 j (by omega)).symm))⟩))))))
theorem Ot {x y:aT}:ai P F.bK [KG x,KG y] (.d (dI (iH x y))):=by
 refine ai.intro fn.bK (by rfl) (by rfl) (au (by rfl)) λE hE=>(AW.sg hE rfl (iC rfl rfl λb2=>(iC rfl rfl λb3=>(ay rfl (OL.nil (AW.seq (AW.dg 1 [0,1,2,3,4,5,6,7,8,9,10,11,12,13,14,15,16,17] aj hE rfl (by kernel_rfl) (OI.aP (os:=[_,_,_,_,_,_,_,_,_,_,_,_,_,_,_,_,_,_]) rfl ?_))))))))
 refine aF fd.LC rfl rfl (ak ce.int rfl rfl rfl (aF fd.LC rfl rfl (ak ce.int rfl rfl rfl (aY rfl vL (cmp_Compare_int (x:=(x.f:Int)) (y:=(y.f:Int))) ?_))));rw[XM];refine aF fd.Fb rfl rfl (ak ce.int rfl rfl rfl (aF fd.Fb rfl rfl (ak ce.int rfl rfl rfl (aY rfl vL (cmp_Compare_int (x:=(x.l:Int)) (y:=(y.l:Int))) ?_))));rw[XM];refine aF fd.Ht rfl rfl (ak ce.int rfl rfl rfl (aF fd.Ht rfl rfl (ak ce.int rfl rfl rfl (aY rfl vL (cmp_Compare_int (x:=(x.t:Int)) (y:=(y.t:Int))) ?_))));rw[XM];refine Hr (ys:=[dI (cI x.f y.f),dI (cI x.l y.l),dI (cI x.t y.t)]) sl.ints rfl (pdC (VC.d _).vd (pdC (VC.d _).vd (pdC (VC.d _).vd pdN))) rfl (by decide) (by decide) (λy hy=>by simp at hy;rcases hy with rfl|rfl|rfl <;> rfl) (aY rfl vL (aF0 (l:=[cI x.f y.f,cI x.l y.l,cI x.t y.t]) (show 3<=1099511627776 by decide)) ?_)
 rw[aR2];exact ay rfl (OL.nil (AW.ret (aH.r ⟨_,.tmp rfl .nil,.le vR⟩)))
theorem G8 {q:Rat}:VD (vW q) (dW q):=VD.ag (.cons (VC.d _) (.cons (VC.d _) (.cons (VC.d _) (.cons (VC.d _) (.cons (VC.d _) (.cons (VC.d _) (.cons (VC.d _) (.cons (VC.d _) .nil))))))))
end Go.Proofs.YteiohkpjgcioaaaGreatDoor
namespace Go.AL
open Go Go.BigFrame
theorem Ou {α:Type}{R:α->α->Prop}(irr:∀ a,¬ R a a)(tr:∀ a b c,R a b->R b c->R a c):∀ {a b:List α},a.Pairwise R->b.Pairwise R->(∀ u,u ∈ a ↔ u ∈ b)->a=b
 | [],[],_,_,_=>rfl
 | [],y::b,_,_,h=>absurd ((h y).2 yD) (λhm=>by cases hm)
 | x::a,[],_,_,h=>absurd ((h x).1 yD) (λhm=>by cases hm)
 | x :: a, y :: b, ha, hb, h => by
  obtain⟨a1,a2⟩:=List.pairwise_cons.1 ha;obtain⟨b1,b2⟩:=List.pairwise_cons.1 hb;have e:x=y:=by
   rcases List.mem_cons.1 ((h x).1 yD) with e|h1
   .exact e
   .rcases List.mem_cons.1 ((h y).2 yD) with e|h2
    .exact e.symm
    .exact absurd (tr _ _ _ (b1 x h1) (a1 y h2)) (irr _)
  subst e;rw[Ou irr tr a2 b2 λu=>⟨λhu=>?_,λhu=>?_⟩]
  .rcases List.mem_cons.1 ((h u).1 (List.mem_cons_of_mem _ hu)) with e|h1
   .subst e;exact absurd (a1 u hu) (irr _)
   .exact h1
  .rcases List.mem_cons.1 ((h u).2 (List.mem_cons_of_mem _ hu)) with e|h1
   .subst e;exact absurd (b1 u hu) (irr _)
   .exact h1
section
variable {x y z:aT}{l out a b:List aT}
theorem Zb (h:iH x y<0)(k:iH y z<0):iH x z<0:=by
 rw[wF] at *;omega
theorem Vo:¬ iH x x<0:=by rw[Gt.2 ⟨rfl,rfl,rfl⟩];omega
theorem Ip {x' y':aT}(h1:x.f=x'.f)(h2:x.l=x'.l)(h3:x.t=x'.t)(k1:y.f=y'.f)(k2:y.l=y'.l)(k3:y.t=y'.t)(h:iH x y<0):iH x' y' < 0:=by
 rw[wF] at *;omega
theorem Vp:wG [] x=[x]:=rfl
theorem QI:wG (y::out) x=if iH y x<0 then y::wG out x else if iH y x=0 then { y with q:=y.q+x.q }::out else x::y::out:=by
 unfold wG;by_cases h:iH y x<0
 .have e:qJ (y::out) x=qJ out x+1:=by
   unfold qJ;rw[List.findIdx_cons,show (decide (¬ iH y x<0))=false from decide_eq_false λhh=>hh h];rfl
  rw[e,if_pos h];show (if qJ out x+1<out.length+1/\iH (out.getD (qJ out x) default) x=0 then _ else _)=_
  by_cases h2:qJ out x<out.length/\iH (out.getD (qJ out x) default) x=0
  .rw[if_pos ⟨by omega,h2.2⟩,if_pos h2];rfl
  .rw[if_neg λhh=>h2 ⟨by omega,hh.2⟩,if_neg h2];rfl
 .have e:qJ (y::out) x=0:=by
   unfold qJ;rw[List.findIdx_cons,show (decide (¬ iH y x<0))=true from decide_eq_true h];rfl
  rw[e,if_neg h];show (if 0<out.length+1/\iH y x=0 then _ else _)=_
  by_cases h2:iH y x=0
  .rw[if_pos ⟨by omega,h2⟩,if_pos h2];rfl
  .rw[if_neg λhh=>h2 hh.2,if_neg h2];rfl
theorem Ov:∀ {out:List aT},z ∈ wG out x->(∃ y,y ∈ out/\y.f=z.f/\y.l=z.l/\y.t=z.t) \/ (x.f=z.f/\x.l=z.l/\x.t=z.t)
 | [],h=>.inr (by rw[Vp] at h;rw[qm h];exact⟨rfl,rfl,rfl⟩)
 | y :: out, h => by
  rw[QI] at h
  split at h
  .rcases List.mem_cons.1 h with rfl|h
   .exact .inl ⟨_,List.mem_cons_self ..,rfl,rfl,rfl⟩
   .rcases Ov h with ⟨w,hw,e⟩|e
    .exact .inl ⟨w,List.mem_cons_of_mem _ hw,e⟩
    .exact .inr e
  .split at h
   .rcases List.mem_cons.1 h with rfl|h
    .exact .inl ⟨y,List.mem_cons_self ..,rfl,rfl,rfl⟩
    .exact .inl ⟨z,List.mem_cons_of_mem _ h,rfl,rfl,rfl⟩
   .rcases List.mem_cons.1 h with rfl|h
    .exact .inr ⟨rfl,rfl,rfl⟩
    .exact .inl ⟨z,h,rfl,rfl,rfl⟩
theorem Vq:∀ {out:List aT},out.Pairwise (λa b=>iH a b<0)->(wG out x).Pairwise λa b=>iH a b<0
 | [],_=>by rw[Vp];exact List.pairwise_singleton ..
 | y :: out, h => by
  obtain⟨h1,h2⟩:=List.pairwise_cons.1 h;rw[QI]
  split
  .rename_i hx;refine List.pairwise_cons.2 ⟨λz hz=>?_,Vq h2⟩;rcases Ov hz with ⟨w,hw,e1,e2,e3⟩|⟨e1,e2,e3⟩
   .exact Ip rfl rfl rfl e1 e2 e3 (h1 w hw)
   .exact Ip rfl rfl rfl e1 e2 e3 hx
  .split
   .exact List.pairwise_cons.2 ⟨λz hz=>Ip rfl rfl rfl rfl rfl rfl (h1 z hz),h2⟩
   .rename_i hx h0;have hxy:iH x y<0:=by
     rw[wF] at *;rw[Gt] at h0;omega
    refine List.pairwise_cons.2 ⟨λz hz=>?_,h⟩;rcases List.mem_cons.1 hz with rfl|hz
    .exact hxy
    .exact Zb hxy (h1 z hz)
theorem Vr (l:List aT):(uT l).Pairwise λa b=>iH a b<0:=by
 have:∀ (l out:List aT),out.Pairwise (λa b=>iH a b<0)->(l.foldl wG out).Pairwise λa b=>iH a b<0:=λl=>by
  induction l with
  | nil=>exact λ_ h=>h
  | cons x l ih=>exact λout h=>ih _ (Vq h)
 exact List.Pairwise.filter _ (this l [] .nil)
theorem aq7 (h:x ∈ QC l):x.q≠0:=jC (List.mem_filter.1 h).2
theorem aq8 {s i j:Nat}(h:gV l s i j≠0):∃ y,y ∈ l/\y.f=i/\y.l=s+1/\y.t=j:=by
 refine Classical.byContradiction λhn=>h (ap7 λy hy=>if_neg λe=>hn ⟨y,hy,e⟩)
theorem ac8 (ha:a.Pairwise λx y=>iH x y<0)(hb:b.Pairwise λx y=>iH x y<0)(la:∀ x,x ∈ a->1<=x.l/\x.q≠0)(lb:∀ x,x ∈ b->1<=x.l/\x.q≠0)(h:∀ s i j,gV a s i j=gV b s i j):a=b:=by
 have half:∀ {a b:List aT},a.Pairwise (λx y=>iH x y<0)->b.Pairwise (λx y=>iH x y<0)->(∀ x,x ∈ a->1<=x.l/\x.q≠0)->(∀ x,x ∈ b->1<=x.l/\x.q≠0)->(∀ s i j,gV a s i j=gV b s i j)->∀ x,x ∈ a->x ∈ b:=λ{a b} ha hb la lb h x hx=>by
  have e1:=Aq ha hx (la x hx).1;have e2:gV b (x.l-1) x.f x.t≠0:=by rw[<- h,e1];exact (la x hx).2
  obtain⟨y,hy,f1,f2,f3⟩:=aq8 e2;have hl:=(la x hx).1;have e3:=Aq hb hy (lb y hy).1;rw[f1,show y.l-1=x.l-1 by omega,f3,<- h,e1] at e3
  have:x=y:=by
   obtain⟨xf,xl,xt,xq⟩:=x;obtain⟨yf,yl,yt,yq⟩:=y;simp only at f1 f2 f3 e3 hl;obtain rfl:xl=yl:=by omega
   subst f1 f3 e3;rfl
  rw[this];exact hy
 exact Ou (R:=λx y=>iH x y<0) (λ_=>Vo) (λ_ _ _=>Zb) ha hb λu=>⟨half ha hb la lb h u,half hb ha lb la (λs i j=>(h s i j).symm) u⟩
