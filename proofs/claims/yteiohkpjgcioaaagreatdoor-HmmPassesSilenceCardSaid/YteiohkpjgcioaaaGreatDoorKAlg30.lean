/-
  AL, part 30: a region whose order is open, by a plan that tells the memory too; slices that are none.
-/
import Derived.Test.YteiohkpjgcioaaaGreatDoorKAlg26
set_option linter.unusedVariables false
set_option linter.unusedSimpArgs false
namespace Go.AL
open Go Go.BigFrame
def pS (s0:S)(val:Nat->(Nat->Nat × Nat)->V)(blk:Nat->(Nat->Nat × Nat)->Option kL)(own:Nat->Option Nat)(β:Nat->Nat × Nat)(L:Array Bool):S :=
  ⟨λt=>match own t with|some i=>if L.getD i false=true then val t β else s0.ρ t|none=>s0.ρ t,
   λt=>match own t with|some i=>if L.getD i false=true then (match blk t β with|some b=>some b|none=>s0.M t) else s0.M t|none=>s0.M t⟩
def L8 (ops:Array Oper)(i j:Nat):Bool:=match ops[i]? with|some o=>o.after.toList.any λe=>Region.binds .any e && e.on == j|none=>false
structure NP (ops:Array Oper) (L:Array Bool) (i:Nat):Prop where
 size:L.size=ops.size
 no:L.getD i false=false
 dep:∀ j,L8 ops i j=true->L.getD j false=true
 closed:∀ k j,L.getD k false=true->L8 ops k j=true->L.getD j false=true
section
variable {P:Program}{E:Env}{s0:S}{val:Nat->(Nat->Nat × Nat)->V}{blk:Nat->(Nat->Nat × Nat)->Option kL}{own:Nat->Option Nat}{β:Nat->Nat × Nat}{L:Array Bool}
theorem NQ {t:Nat}(h:own t=none):(pS s0 val blk own β L).ρ t=s0.ρ t:=by simp only[pS,h]
theorem RY {t i:Nat}(h:own t=some i)(hi:L.getD i false=true):(pS s0 val blk own β L).ρ t=val t β:=by simp only[pS,h,hi,if_true]
theorem YR {t:Nat}(h:own t=none):(pS s0 val blk own β L).M t=s0.M t:=by simp only[pS,h]
theorem aC9 (hL:∀ i,L.getD i false=false):pS s0 val blk own β L=s0:=by
 cases s0 with
 | mk ρ M =>
  simp only[pS,S.mk.injEq]
  constructor
  .funext t
   cases own t with
   | none=>rfl
   | some i=>simp[hL i]
  .funext t
   cases own t with
   | none=>rfl
   | some i=>simp[hL i]
theorem qV {i j:Nat}(hi:i<L.size):(L.setIfInBounds i true).getD j false=if j=i then true else L.getD j false:=by
 simp only[Array.getD_eq_getD_getElem?,Array.getElem?_setIfInBounds]
 by_cases hji:i=j
 .subst hji;simp[hi]
 .simp[hji,Ne.symm hji]
theorem aZ8 {a b:S}(h1:∀ t,a.ρ t=b.ρ t)(h2:∀ t,a.M t=b.M t):a=b:=by
 cases a;cases b
 simp only[S.mk.injEq]
 exact⟨funext h1,funext h2⟩
theorem UO {t i:Nat}(hi:i<L.size)(hne:own t≠some i):(pS s0 val blk own β L).ρ t=(pS s0 val blk own β (L.setIfInBounds i true)).ρ t/\(pS s0 val blk own β L).M t=(pS s0 val blk own β (L.setIfInBounds i true)).M t:=by
 cases ho:own t with
 | none=>rw[NQ ho,NQ ho,YR ho,YR ho];exact⟨rfl,rfl⟩
 | some j =>
  have hj:j≠i:=λe=>hne (by rw[ho,e])
  have e:=qV (L:=L) (i:=i) (j:=j) hi
  rw[if_neg hj] at e
  simp only[pS,ho,e]
  exact⟨by first|trivial|rfl,by first|trivial|rfl⟩
theorem an5 {d i:Nat}(h:own d=some i)(hu:∀ t,own t=some i->t=d)(hi:i<L.size)(hb:blk d β=none):(pS s0 val blk own β L).put (some d) (val d β)=pS s0 val blk own β (L.setIfInBounds i true):=by
 have hs:(L.setIfInBounds i true).getD i false=true:=by rw[qV hi,if_pos rfl]
 refine aZ8 (λt=>?_) (λt=>?_)
 .show upd (pS s0 val blk own β L).ρ d (val d β) t=_
  by_cases ht:t=d
  .subst ht;rw[upd_same,RY h hs]
  .rw[upd_ne _ _ ht];exact (UO hi λe=>ht (hu t e)).1
 .show (pS s0 val blk own β L).M t=_
  by_cases ht:t=d
  .subst ht
   simp only[pS,h,hs,hb,if_true,ite_self]
  .exact (UO hi λe=>ht (hu t e)).2
theorem OG.aP {m:Nat}{ops:Array Oper}{o:Oper}{K:S->Prop}{s:S}(h:OL P m ops K [o] s):OG P m ops o K s:=h
theorem lt_size {ops:Array Oper}(n:Nat){i:Nat}(h:L.size=ops.size)(hn:ops.size=n)(hi:i<n):i<L.size:=by omega
end
def SO (P:Program)(E:Env)(o:Oper)(K:S->Prop)(s:S):Prop :=
 ∀ F a w,Run E F s a w->Good P ((execOp a.eval o).run P w) λu w'=>∃ F' s',Run E F' s' (a.put o.dst u) w' /\ K s'
def SG (P:Program)(E:Env)(ops:Array Oper)(o:Oper)(K:S->Prop)(s:S):Prop:=OG P 0 ops o K s \/ (o.guard=none/\SO P E o K s)
theorem SG.sound {P:Program}{E:Env}{F:Hp}{s:S}{a:Act}{w:World}{ops:Array Oper}{i:Nat}{o:Oper}{K:S->Prop}{Q':Exit->Act->World->Prop}{next:Act->World->Prop}(ho:ops[i]? = some o)(h:SG P E ops o K s)(hr:Run E F s a w)(hd:pR E.n o.dst)
  (hk:∀ F' s' a' w',Run E F' s' a' w' -> K s' -> next a' w'):wpOp P ops Q' i next a w:=by
 rcases h with h|⟨hg,h⟩
 .exact OG.sound ho h hr hd hk
 .unfold wpOp
  simp only[ho]
  rw[if_pos (by simp[Region.wanted,hg])]
  exact .inl ((h F a w hr).wp λu w' ⟨F',s',hr',hk'⟩=>hk F' s' _ w' hr' hk')
def SL (P:Program)(E:Env)(ops:Array Oper)(K:S->Prop):List Oper->S->Prop
 | [],s=>K s
 | o::r,s=>SG P E ops o (SL P E ops K r) s
theorem SL.wpList {P:Program}{E:Env}{ops:Array Oper}{Q:Exit->S->Prop}:∀ (l:List Oper) {s:S} {a:Act} {F:Hp} {w:World},Run E F s a w->(∀ o,o ∈ l->pR E.n o.dst)->SL P E ops (Q .normal) l s ->
  Go.wpList P ops (Ld E Q) l a w
 | [],s,a,F,w,hr,_,h=>⟨F,s,hr,h⟩
 | o :: r, s, a, F, w, hr, hd, h => by
  have hdo:=hd o yD
  have hdr:=λx hx=>hd x (List.mem_cons_of_mem _ hx)
  unfold Go.wpList
  unfold SL at h
  rcases h with h|⟨hg,h⟩
  .unfold OG at h
   cases hg:o.guard with
   | none =>
    simp only[hg] at h
    rw[if_pos (by simp[Region.wanted,hg])]
    exact .inl ((h.sound hr hdo).wp λu w' ⟨F',s',hr',hk⟩=>SL.wpList r hr' hdr hk)
   | some q =>
    obtain⟨j,want⟩:=q
    simp only[hg] at h
    obtain⟨b,h1,h2⟩:=h
    have hy:=vk hr h1
    rcases h2 with ⟨e,h2⟩|⟨e,h2⟩
    .rw[if_pos (by simp[Region.wanted,hg,hy,e])]
     exact .inl ((h2.sound hr hdo).wp λu w' ⟨F',s',hr',hk⟩=>SL.wpList r hr' hdr hk)
    .rw[if_neg (by simp[Region.wanted,hg,hy,e])]
     exact SL.wpList r (hr.junk hdo) hdr h2
  .rw[if_pos (by simp[Region.wanted,hg])]
   exact .inl ((h F a w hr).wp λu w' ⟨F',s',hr',hk⟩=>SL.wpList r hr' hdr hk)
theorem AW.RZ {P:Program}{E:Env}{s:S}{id:Nat}{ops:Array Oper}{Q:Exit->S->Prop}(hd:xZ E.n ops=true)(h:SL P E ops (Q .normal) ops.toList s):AW P E (.region id ops false) Q s :=
 λ_ _ _ hr=>wp_region_list (SL.wpList _ hr (xZ.spec hd) h)
theorem SL.dG {P:Program}{E:Env}{ops:Array Oper}{K:S->Prop}{o:Oper}{r:List Oper}{s:S}(h:OL P 0 ops (SL P E ops K r) [o] s):SL P E ops K (o::r) s:=.inl h
theorem SL.G5 {P:Program}{E:Env}{ops:Array Oper}{K:S->Prop}{o:Oper}{r:List Oper}{s:S}(hg:o.guard=none)(h:SO P E o (SL P E ops K r) s):SL P E ops K (o::r) s:=.inr ⟨hg,h⟩
section
variable {P:Program}{E:Env}{K:S->Prop}{s:S}
theorem Run.drop {E:Env}{F:Hp}{s:S}{a:Act}{w:World}(h:Run E F s a w)(id:Nat):Run E F ⟨s.ρ,upd s.M id none⟩ a w:=by
 have part:∀ j q,(upd s.M id none) j=some q->s.M j=some q:=λj q hq=>by unfold upd at hq;split at hq;cases hq;exact hq
 exact⟨FX h.iF part,h.grow,h.f0,h.yL,λj q k hq hk=>h.lN j q k (part j q hq) hk,h.size,h.defers,h.slots⟩
theorem Run.aP4 {E:Env}{F:Hp}{s:S}{a:Act}{w:World}{id:Nat}(h:Run E F ⟨s.ρ,upd s.M id none⟩ a w):Run E F ⟨s.ρ,upd s.M id (some kY)⟩ a w:=by
 have part:∀ j q,(upd s.M id (some kY)) j=some q->q=kY \/ (upd s.M id none) j=some q:=λj q hq=>by
  unfold upd at hq ⊢
  split at hq
  .exact .inl (Option.some.inj hq).symm
  .rename_i e;rw[if_neg e];exact .inr hq
 have no:∀ k,¬ kY.owns k:=λk hk=>absurd hk.1 (Nat.lt_irrefl 0)
 refine⟨⟨h.iF.uD,λj q hq=>?_,λj q k hq hk=>?_,λi j bi bj k hi hj ki kj=>?_⟩,h.grow,h.f0,h.yL,λj q k hq hk=>?_,h.size,h.defers,h.slots⟩
 .rcases part j q hq with rfl|h1
  .exact⟨Nat.le_refl _,λx hx=>by simp at hx,λhc=>absurd hc (Nat.lt_irrefl 0)⟩
  .exact h.iF.own j q h1
 .rcases part j q hq with rfl|h1
  .exact absurd hk (no k)
  .exact h.iF.apart j q k h1 hk
 .rcases part i bi hi with rfl|h1
  .exact absurd ki (no k)
  .rcases part j bj hj with rfl|h2
   .exact absurd kj (no k)
   .exact h.iF.inj i j bi bj k h1 h2 ki kj
 .rcases part j q hq with rfl|h1
  .exact absurd hk (no k)
  .exact h.lN j q k h1 hk
end
section
variable {P:Program}{ev:Operand->V}{a:Act}{F:Hp}{w:World}{M:Mem}
theorem nY.shrink {b c e sz:Nat}{es:List D}(h:nY F w b c e sz es)(n:Nat):nY F w b c e sz (es.take n):=by
 obtain⟨g0,g1,g2⟩:=h
 refine⟨by rw[List.length_take];omega,λx hx=>g1 x (List.mem_of_mem_take hx),λhc=>?_⟩
 obtain⟨cs,k1,k2,k3,k4⟩:=g2 hc
 refine⟨cs,k1,k2,k3,λi d u hd hu=>k4 i d u ?_ hu⟩
 obtain⟨r,hr'⟩:=y7 (es:=es) n
 rw[hr',List.getElem?_append_left (List.getElem?_eq_some_iff.1 hd).1]
 exact hd
theorem wP.swap {id:Nat}{bl IC:kL}(h:wP F M w)(hM:M id=some bl)(ho:∀ k,IC.owns k->bl.owns k)(hb:xX F w IC):wP F (upd M id (some IC)) w:=by
 have part:∀ j q,(upd M id (some IC)) j=some q->(j=id/\q=IC) \/ (j≠id/\M j=some q):=λj q hq=>by
  unfold upd at hq
  split at hq
  .rename_i e1;cases hq;exact .inl ⟨e1,rfl⟩
  .rename_i e1;exact .inr ⟨e1,hq⟩
 have ab1:∀ j q k,(upd M id (some IC)) j=some q->q.owns k->∃ q',M j=some q' /\ q'.owns k:=λj q k hq hk=>by
  rcases part j q hq with ⟨rfl,rfl⟩|⟨_,h1⟩
  .exact⟨bl,hM,ho k hk⟩
  .exact⟨q,h1,hk⟩
 refine⟨h.uD,λj q hq=>?_,λj q k hq hk=>?_,λi j bi bj k hi hj ki kj=>?_⟩
 .rcases part j q hq with ⟨_,rfl⟩|⟨_,h1⟩
  .exact hb
  .exact h.own j q h1
 .obtain⟨q',h1,h2⟩:=ab1 j q k hq hk
  exact h.apart j q' k h1 h2
 .obtain⟨qi,h1,h2⟩:=ab1 i bi k hi ki
  obtain⟨qj,h3,h4⟩:=ab1 j bj k hj kj
  exact h.inj i j qi qj k h1 h3 h2 h4
theorem Run.swap {E:Env}{s:S}{id:Nat}{bl IC:kL}(h:Run E F s a w)(hM:s.M id=some bl)(ho:∀ k,IC.owns k->bl.owns k)(hb:xX F w IC):Run E F ⟨s.ρ,upd s.M id (some IC)⟩ a w :=
 ⟨h.iF.swap hM ho hb,h.grow,h.f0,h.yL,λj q k hq hk=>by
  have hq2:upd s.M id (some IC) j=some q:=hq
  unfold upd at hq2
  split at hq2
  .rename_i e1;subst e1
   obtain rfl:IC = q:=Option.some.inj hq2
   exact h.lN _ _ k hM (ho k hk)
  .exact h.lN j q k hq2 hk,h.size,h.defers,h.slots⟩
end
section
variable {P:Program}{E:Env}{K:S->Prop}{s:S}{pos:String}{after:Array Edge}{ty:Nat}
theorem SO.mono {o:Oper}{K':S->Prop}(h:SO P E o K s)(hk:∀ s,K s->K' s):SO P E o K' s:=λF a w hr=>(h F a w hr).mono λ_ _ ⟨F',s',h1,h2⟩=>⟨F',s',h1,hk s' h2⟩
theorem SO.shrink {o:Oper}{id b c e sz:Nat}{es:List D}(n:Nat)(hM:s.M id=some (.row b c e sz es))(h:SO P E o K ⟨s.ρ,upd s.M id (some (.row b c e sz (es.take n)))⟩):SO P E o K s:=λF a w hr =>
 h F a w (hr.swap hM (λk hk=>hk) ((hr.iF.own id _ hM:nY F w b c e sz es).shrink n))
theorem AW.shrink {k:Code}{Q:Exit->S->Prop}{id b c e sz:Nat}{es:List D}(n:Nat)(hM:s.M id=some (.row b c e sz es))(h:AW P E k Q ⟨s.ρ,upd s.M id (some (.row b c e sz (es.take n)))⟩):AW P E k Q s:=λF a w hr =>
 h F a w (hr.swap hM (λk hk=>hk) ((hr.iF.own id _ hM:nY F w b c e sz es).shrink n))
end
def NR (P:Program)(f:Nat)(args:V->List V)(n e sz:Nat)(es:List D)(n':Nat)(es':List D):Prop :=
 pU P f/\∀ (F:Hp) (w:World) (vals:List Value) (b c:Nat),wP F (mem1 0 (.row b c e sz es)) w->lS F vals (args (.bJ 0 b n c)) ->
  Calls P f vals.toArray w λx w'=>∃ v F' b' c',x=.returned v/\After F (mem1 0 (.row b c e sz es)) w F' (mem1 0 (.row b' c' e sz es')) w' /\ di F' v (.bJ 0 b' n' c')
section
variable {P:Program}
theorem NR.intro {f:Nat} {fn:Func} {code:Code} {args:V->List V} {n e sz n':Nat} {es es':List D} (hf:P.funcs[f]? = some fn) (hname:(fn.name == "runtime.NumGoroutine")=false) (hb:fn.body=some code) (hn:∀ v,(args v).length<=fn.ntmps) (t:Nat) (hres:fn.results.toList=[.tmp t])
  (h:∀ (E:Env) (b c:Nat),E.n=fn.ntmps->AW P E code (λx s=>(x=.normal \/ x=.ret)/\∃ id b' cp es0,s.ρ t=.bJ id b' n' cp/\s.M id=some (.row b' cp e sz es0)/\n' <= es0.length/\es0.take n' = es') ⟨sV (args (.bJ 0 b n c)),mem1 0 (.row b c e sz es)⟩):NR P f args n e sz es n' es':=by
 refine⟨by simp[pU,hf,hname,hb],λF w vals b c hS hv=>calls_of_wp hf hb ?_⟩
 generalize hA:args (.bJ 0 b n c)=A at hv
 have hAn:A.length<=fn.ntmps:=by rw[<- hA];exact hn _
 have hlen:vals.length=A.length:=hv.1
 have hrun:Run ⟨w,F,jS (mem1 0 (.row b c e sz es)),fn.ntmps⟩ F ⟨sV A,mem1 0 (.row b c e sz es)⟩ { tmps:=vals.toArray++Array.replicate (fn.ntmps-vals.toArray.size) undef,defers:=[] } w:=by
  refine⟨hS,Grow.refl _ _,Hp.le.refl F,λk p q=>absurd p q,λid blk k hm ho=>.inr ⟨id,blk,hm,ho⟩,by simp;omega,rfl,λt=>?_⟩
  simp only[sV]
  by_cases ht:t<A.length
  .have h1:A[t]? = some A[t]:=sU ht
   have h2:vals[t]? = some (vals[t]'(by omega)):=sU (by omega)
   rw[iZ,h1,Array.getD_eq_getD_getElem?,Array.getElem?_append_left (by simpa [hlen] using ht),List.getElem?_toArray,h2]
   exact hv.2 t _ _ h1 h2
  .rw[iZ,List.getElem?_eq_none (by omega)]
   exact .junk
 have hh:=h ⟨w,F,jS (mem1 0 (.row b c e sz es)),fn.ntmps⟩ b c rfl
 rw[hA] at hh
 refine wp_mono (hh F _ w hrun) λx a' w' ⟨F',s',hr,hq,id,b',cp,es0,h1,h2,h3,h4⟩=>?_
 have done:a'.defers=[]/\∃ v,(results fn a'.tmps).run P w' = .ok v w' /\ ∃ v' F' b' c',Ending.returned v=.returned v' /\ After F (mem1 0 (.row b c e sz es)) w F' (mem1 0 (.row b' c' e sz es')) w' /\ di F' v' (.bJ 0 b' n' c'):=by
  have ok:xX F' w' (.row b' cp e sz es'):=by subst h4;exact nY.shrink (hr.iF.own id _ h2) n'
  refine⟨hr.defers,a'.tmps.getD t undef,?_,a'.tmps.getD t undef,F',b',cp,rfl,⟨hr.grow,hr.f0,⟨hr.iF.uD,λj q hq=>?_,λj q k hq hk=>?_,λi j bi bj k hi hj _ _=>?_⟩,hr.yL,λk ⟨j,q,hq,hk⟩=>?_⟩,?_⟩
  .rw[zH,Sem.run_bind,Array.mapM_eq_mapM_toList,Sem.run_map,hres]
   simp[Hg,List.mapM_cons,List.mapM_nil]
  .obtain⟨_,rfl⟩:=qU hq
   exact ok
  .obtain⟨_,rfl⟩:=qU hq
   exact hr.iF.apart id _ k h2 hk
  .rw[(qU hi).1,(qU hj).1]
  .obtain⟨_,rfl⟩:=qU hq
   exact hr.lN id _ k h2 hk
  .have hs:=hr.slots t
   rw[h1] at hs
   generalize a'.tmps.getD t undef=v at hs
   cases hs with
   | bJ p q=>exact .bJ p q
 rcases hq with rfl|rfl
 .exact done
 .exact done
theorem YS {id id2 b n c:Nat}:aZ (.bJ id b n c) (.bJ id2 b n c):=λF v h=>by
 cases h with
 | bJ p q=>exact .bJ p q
theorem SO.aZ9 {E:Env}{K:S->Prop}{s:S}{pos:String}{after:Array Edge}{ty:Nat}{f:Operand}{args:Array Operand}{ats:Array TypeId}{nR id b c n e sz n':Nat}{caps:List V}{YT:V->List V}{es es':List D}{dst:Option Nat}(hd:pR E.n dst)(hf:s.ev f=.fn nR caps)
  (hM:s.M id=some (.row b c e sz es)) (ha:iy (args.toList.map s.ev++caps) (YT (.bJ 0 b n c))) (hs:NR P nR YT n e sz es n' es')
  (h:∀ b' c',K ((⟨s.ρ,upd s.M id (some (.row b' c' e sz es'))⟩:S).put dst (.bJ id b' n' c'))):SO P E ⟨dst,.call { callee:=.value f,args:=args,argTypes:=ats },ty,pos,after,none⟩ K s:=λF a w hr=>by
 have hf':=hr.eval f;rw[hf] at hf'
 generalize ZQ:a.eval f=af at hf'
 cases hf' with
 | @fn _ us _ hl hrr =>
  have hvs:lS F (args.toList.map a.eval++us) (YT (.bJ 0 b n c)):=qM (wQ (oJ hr.eval _) ⟨hl,hrr⟩) ha
  have hsub:∀ j q,mem1 id (.row b c e sz es) j=some q->s.M j=some q:=λj q hj=>by obtain⟨rfl,rfl⟩:=qU hj;exact hM
  have hcc:=hs.2 F w _ b c (wP.Jf (i:=0) (FX hr.iF hsub)) hvs
  unfold execOp
  have e1:(args.map a.eval++us.toArray)=(args.toList.map a.eval++us).toArray:=by simp
  simp only[resolve,ZQ,Deferred.ofValue,Sem.run_bind,Sem.run_pure,Result.andThen_ok,invoke,Array.empty_append,e1,mF hs.1]
  refine hcc.mono λe2 w' ⟨v,F',b',c',he,hA,hv⟩=>⟨v,he,F',_,?_,h b' c'⟩
  have hA2:After F (mem1 id (.row b c e sz es)) w F' (mem1 id (.row b' c' e sz es')) w' :=
   ⟨hA.grow.mono λk hk=>hk.Jf,hA.le,hA.iF.Jf,λk p q=>(hA.new k p q).imp (λx=>x) jS.Jf,λk hk=>(hA.lN k hk.Jf).imp (λx=>x) jS.Jf⟩
  have hov:=After.over hr.iF hsub (λj hj=>by unfold mem1 at hj ⊢;split at hj;cases hj;rename_i h1;rw[if_neg h1]) hA2
  have e3:s.M.over (mem1 id (.row b c e sz es)) (mem1 id (.row b' c' e sz es'))=upd s.M id (some (.row b' c' e sz es')):=by
   funext j
   unfold Mem.over mem1 upd
   by_cases hj:j=id
   .simp[hj]
   .simp[hj]
  rw[e3] at hov
  exact hr.qy hov hd (by cases hv with|bJ p q=>exact .bJ p q)
end
section
variable {P:Program}{E:Env}{s0:S}{St:(Nat->Nat × Nat)->Array Bool->S}
theorem UQ {Q:Exit->S->Prop}{ops:Array Oper}{last:Nat}(hd:∀ o,o ∈ ops.toList->pR E.n o.dst)(hsz:ops.size=last+1)(UB:∀ i o,ops[i]? = some o->∀ e,e ∈ o.after.toList->Region.binds .any e=true->e.on<i)
  (hall:∀ L,NP ops L last->∀ j,j<last->L.getD j false=true)
  (hob:∀ i,i<last->∀ β L,NP ops L i->∃ o,ops[i]? = some o/\SG P E ops o (λs'=>∃ β',s' = St β' (L.setIfInBounds i true)) (St β L))
  (hfin:∀ β L,NP ops L last->∃ o,ops[last]? = some o/\SG P E ops o (Q .normal) (St β L)) :
  ∀ (fuel:Nat) (listed:Array Bool) (β:Nat->Nat × Nat) (F:Hp) (a:Act) (w:World),listed.size=ops.size->((List.range ops.size).filter λi=>!listed.getD i true).length=fuel->listed.getD last false=false ->
   (∀ k j,listed.getD k false=true->L8 ops k j=true->listed.getD j false=true)->Run E F (St β listed) a w->wpAny P .any ops (Ld E Q) fuel listed a w:=by
 have an6:∀ i o,ops[i]? = some o->∀ j,L8 ops i j=true->∃ e,e ∈ o.after.toList/\Region.binds .any e=true/\e.on=j:=λi o ho j h=>by
  unfold L8 at h
  rw[ho] at h
  obtain⟨e,he,h2⟩:=List.any_eq_true.1 h
  rw[Bool.and_eq_true] at h2
  exact⟨e,he,h2.1,by simpa using h2.2⟩
 have bd6:∀ i o,ops[i]? = some o->∀ e,e ∈ o.after.toList->Region.binds .any e=true->L8 ops i e.on=true:=λi o ho e he hb=>by
  unfold L8
  rw[ho]
  exact List.any_eq_true.2 ⟨e,he,by rw[hb];simp⟩
 have mem_ready:∀ (listed:Array Bool) (i:Nat),i ∈ Region.ready .any ops listed ↔ i<ops.size/\listed.getD i true=false/\∃ o,ops[i]? = some o/\∀ e,e ∈ o.after.toList->Region.binds .any e=true->listed.getD e.on false=true:=λlisted i=>by
  unfold Region.ready
  rw[List.mem_filter,List.mem_range]
  constructor
  .rintro⟨h1,h2⟩
   rw[Bool.and_eq_true] at h2
   refine⟨h1,by simpa using h2.1,?_⟩
   have ho:ops[i]? = some ops[i]:=Array.getElem?_eq_getElem h1
   refine⟨_,ho,λe he hb=>?_⟩
   have h3:=h2.2
   rw[ho] at h3
   simp only[Option.map_some,Option.getD_some] at h3
   rw[<- Array.all_toList,List.all_eq_true] at h3
   have:=h3 e he
   rw[hb] at this
   simpa using this
  .rintro⟨h1,h2,o,ho,h3⟩
   refine⟨h1,?_⟩
   rw[Bool.and_eq_true]
   refine⟨by simp[h2],?_⟩
   rw[ho]
   simp only[Option.map_some,Option.getD_some]
   rw[<- Array.all_toList,List.all_eq_true]
   intro e he
   cases hb:Region.binds .any e with
   | false=>rfl
   | true=>simpa using h3 e he hb
 have tf:∀ (listed:Array Bool) k,k<listed.size->listed.getD k false=listed.getD k true:=λlisted k hk=>by simp[Array.getD,hk]
 have bp9:∀ (listed:Array Bool) k,listed.getD k false=true->k<listed.size:=λlisted k h=>by
  rcases Nat.lt_or_ge k listed.size with h1|h1
  .exact h1
  .simp[Array.getD,Nat.not_lt.2 h1] at h
 intro fuel
 induction fuel with
 | zero =>
  intro listed β F a w hL hlen hlast _ _
  exfalso
  have hm:last ∈ (List.range ops.size).filter λi=>!listed.getD i true:=List.mem_filter.2 ⟨List.mem_range.2 (by omega),by rw[<- tf listed last (by omega),hlast];rfl⟩
  rw[KZ hlen] at hm
  simp at hm
 | succ fuel ih =>
  intro listed β F a w hL hlen hlast hcl hr
  have Ib:∀ i,i<ops.size->listed.getD i true=false->∃ j,j ∈ Region.ready .any ops listed:=by
   intro i
   induction i using Nat.strongRecOn with
   | _ i ihi =>
    intro hi hli
    have ho:ops[i]? = some ops[i]:=Array.getElem?_eq_getElem hi
    by_cases hx:∃ e,e ∈ ops[i].after.toList/\Region.binds .any e=true/\listed.getD e.on false=false
    .obtain⟨e,he,hb,hl⟩:=hx
     have hei:=UB i _ ho e he hb
     exact ihi e.on hei (by omega) (by rw[<- tf listed e.on (by omega)];exact hl)
    .refine⟨i,(mem_ready listed i).2 ⟨hi,hli,_,ho,λe he hb=>?_⟩⟩
     cases hl:listed.getD e.on false with
     | true=>rfl
     | false=>exact absurd ⟨e,he,hb,hl⟩ hx
  refine⟨λhnil=>?_,λi hi=>?_⟩
  .exfalso
   obtain⟨j,hj⟩:=Ib last (by omega) (by rw[<- tf listed last (by omega)];exact hlast)
   rw[hnil] at hj
   simp at hj
  .obtain⟨hin,hli,o,ho,aB1⟩:=(mem_ready listed i).1 hi
   have bh7:listed.getD i false=false:=by rw[tf listed i (by omega)];exact hli
   have ak7:∀ j,L8 ops i j=true->listed.getD j false=true:=λj hj=>by
    obtain⟨e,he,hb,rfl⟩:=an6 i o ho j hj
    exact aB1 e he hb
   have YU:NP ops listed i:=⟨hL,bh7,ak7,hcl⟩
   have hdo:pR E.n o.dst:=hd o (by
    obtain⟨h1,h2⟩:=Array.getElem?_eq_some_iff.1 ho
    rw[<- h2];exact Array.getElem_mem_toList h1)
   have hset:∀ j,(listed.setIfInBounds i true).getD j true=if j=i then true else listed.getD j true:=λj=>by
    simp only[Array.getD_eq_getD_getElem?,Array.getElem?_setIfInBounds]
    by_cases hji:i=j
    .subst hji;simp[show i<listed.size by omega]
    .simp[hji,Ne.symm hji]
   by_cases hil:i=last
   .subst hil
    obtain⟨o',ho',hog⟩:=hfin β listed YU
    rw[ho] at ho';cases ho'
    have hone:fuel=0:=by
     have hsub:∀ x,x ∈ (List.range ops.size).filter (λi=>!listed.getD i true)->x=i:=λx hx=>by
      obtain⟨h1,h2⟩:=List.mem_filter.1 hx
      have h1:=List.mem_range.1 h1
      rcases Nat.lt_or_ge x i with h3|h3
      .have:=hall listed YU x h3
       rw[tf listed x (by omega)] at this
       rw[this] at h2
       simp at h2
      .omega
     have hnd:((List.range ops.size).filter λi=>!listed.getD i true).Nodup:=List.nodup_range.filter _
     rcases hq:(List.range ops.size).filter λi=>!listed.getD i true with _|⟨x,_|⟨y,r⟩⟩
     .rw[hq] at hlen;simp at hlen
     .rw[hq] at hlen;simp at hlen;omega
     .rw[hq] at hsub hnd
      have e1:=hsub x (by simp)
      have e2:=hsub y (by simp)
      rw[e1,e2] at hnd
      simp at hnd
    subst hone
    refine SG.sound ho hog hr hdo λF' s' a' w' hr' hk=>?_
    refine⟨List.eq_nil_iff_forall_not_mem.2 λj hj=>?_,⟨F',s',hr',hk⟩⟩
    obtain⟨h1,h2,_⟩:=(mem_ready _ j).1 hj
    rw[hset] at h2
    by_cases hji:j=i
    .rw[if_pos hji] at h2;cases h2
    .rw[if_neg hji] at h2
     have:=hall listed YU j (by omega)
     rw[tf listed j (by omega)] at this
     rw[this] at h2;cases h2
   .obtain⟨o',ho',hog⟩:=hob i (by omega) β listed YU
    rw[ho] at ho';cases ho'
    refine SG.sound ho hog hr hdo λF' s' a' w' hr' ⟨β',hk⟩=>?_
    subst hk
    refine ih _ β' F' a' w' (by simpa using hL) ?_ ?_ ?_ hr'
    .have e1:((List.range ops.size).filter λj=>!(listed.setIfInBounds i true).getD j true)=((List.range ops.size).filter λj=>!listed.getD j true).filter λj=>decide (j≠i):=by
      rw[List.filter_filter]
      apply List.filter_congr
      intro j _
      rw[hset]
      by_cases hji:j=i <;> simp[hji]
     have hnd:((List.range ops.size).filter λi=>!listed.getD i true).Nodup:=List.nodup_range.filter _
     have hmem:i ∈ (List.range ops.size).filter λi=>!listed.getD i true:=List.mem_filter.2 ⟨List.mem_range.2 hin,by simp[hli]⟩
     rw[e1]
     obtain⟨pre,post,hsp⟩:=List.append_of_mem hmem
     rw[hsp] at hlen hnd ⊢
     have hn2:∀ x,x ∈ pre \/ x ∈ post->x≠i:=λx hx e=>by
      subst e
      rw[List.nodup_append] at hnd
      obtain⟨_,n2,n3⟩:=hnd
      rcases hx with hx|hx
      .exact n3 x hx x yD rfl
      .exact (List.nodup_cons.1 n2).1 hx
     rw[List.filter_append,List.filter_cons]
     have f1:pre.filter (λj=>decide (j≠i))=pre:=List.filter_eq_self.2 λx hx=>by simpa using hn2 x (.inl hx)
     have f2:post.filter (λj=>decide (j≠i))=post:=List.filter_eq_self.2 λx hx=>by simpa using hn2 x (.inr hx)
     rw[f1,f2]
     simp at hlen ⊢
     omega
    .rw[qV (by omega),if_neg (λe=>hil e.symm)];exact hlast
    .intro k j hk hj
     rw[qV (by omega)] at hk ⊢
     by_cases hji:j=i
     .rw[if_pos hji]
     .rw[if_neg hji]
      by_cases hki:k=i
      .subst hki;exact ak7 j hj
      .rw[if_neg hki] at hk;exact hcl k j hk hj
end
def pG (s0:S)(val:Nat->(Nat->Nat × Nat)->V)(own:Nat->Option Nat)(mf:(Nat->Nat × Nat)->Array Bool->Mem)(β:Nat->Nat × Nat)(L:Array Bool):S:=⟨(pS s0 val (λ_ _=>none) own β L).ρ,mf β L⟩
section
variable {s0:S}{val:Nat->(Nat->Nat × Nat)->V}{own:Nat->Option Nat}{mf:(Nat->Nat × Nat)->Array Bool->Mem}{β:Nat->Nat × Nat}{L:Array Bool}
theorem vG {t:Nat}(h:own t=none):(pG s0 val own mf β L).ρ t=s0.ρ t:=NQ (blk:=λ_ _=>none) h
theorem ig {t i:Nat}(h:own t=some i)(hi:L.getD i false=true):(pG s0 val own mf β L).ρ t=val t β:=RY (blk:=λ_ _=>none) h hi
theorem uI {t:Nat}{v:Option kL}(h:mf β L t=v):(pG s0 val own mf β L).M t=v:=h
theorem aD0 (hL:∀ i,L.getD i false=false)(hm:mf β L=s0.M):pG s0 val own mf β L=s0:=by
 have e:=aC9 (s0:=s0) (val:=val) (blk:=λ_ _=>none) (own:=own) (β:=β) hL
 unfold pG
 rw[e,hm]
theorem lg {d i:Nat}(h:own d=some i)(hu:∀ t,own t=some i->t=d)(hi:i<L.size)(hm:mf β (L.setIfInBounds i true)=mf β L):(pG s0 val own mf β L).put (some d) (val d β)=pG s0 val own mf β (L.setIfInBounds i true):=by
 have e:=an5 (s0:=s0) (val:=val) (own:=own) (L:=L) (blk:=λ_ _=>none) (β:=β) h hu hi rfl
 unfold pG
 rw[<- e,hm]
 rfl
theorem Du {d i:Nat}{x:Nat × Nat}{v:V}{M':Mem}(h:own d=some i)(hu:∀ t,own t=some i->t=d)(hi:i<L.size)(hv:val d (upd β d x)=v)(hm:mf (upd β d x) (L.setIfInBounds i true)=M')(hs:∀ t j,own t=some j->L.getD j false=true->val t (upd β d x)=val t β) :
  (⟨upd (pG s0 val own mf β L).ρ d v,M'⟩:S)=pG s0 val own mf (upd β d x) (L.setIfInBounds i true):=by
 have e:=an5 (s0:=s0) (val:=val) (blk:=λ_ _=>none) (own:=own) (β:=upd β d x) (L:=L) h hu hi rfl
 unfold pG
 rw[<- e,hm,hv]
 have e2:(pS s0 val (λ_ _=>none) own β L).ρ=(pS s0 val (λ_ _=>none) own (upd β d x) L).ρ:=funext λt=>by
  cases ho:own t with
  | none=>rw[NQ ho,NQ ho]
  | some j =>
   cases hj:L.getD j false with
   | true=>rw[RY ho hj,RY ho hj,hs t j ho hj]
   | false=>simp only[pS,ho,hj];rw[if_neg (by decide),if_neg (by decide)]
 rw[e2]
 rfl
end
section
variable {P:Program}{E:Env}{K:S->Prop}{s:S}{pos:String}{after:Array Edge}{ty:Nat}
theorem SL.nil {ops:Array Oper}(h:K s):SL P E ops K [] s:=h
theorem AW.dead {k:Code}{Q:Exit->S->Prop}(id:Nat)(hM:s.M id=none)(h:AW P E k Q ⟨s.ρ,upd s.M id (some kY)⟩):AW P E k Q s:=λF a w hr=>by
 have e:upd s.M id none=s.M:=by funext j;unfold upd;split;rename_i e2;rw[e2,hM];rfl
 exact h F a w (Run.aP4 (s:=s) (by rw[e];exact hr))
