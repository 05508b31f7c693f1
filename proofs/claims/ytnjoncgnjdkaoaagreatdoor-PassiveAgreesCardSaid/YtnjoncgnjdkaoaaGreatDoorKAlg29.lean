/-
  AL, part 29: rows of rows, appended to in place: a function that takes an owned row over and hands one back.
-/
import Derived.Test.YtnjoncgnjdkaoaaGreatDoorKAlg26
set_option linter.unusedVariables false
set_option linter.unusedSimpArgs false
namespace Go.AL
open Go Go.BigFrame
def pS (s0:S)(val:Nat->(Nat->Nat × Nat)->V)(blk:Nat->(Nat->Nat × Nat)->Option iE)(own:Nat->Option Nat)(β:Nat->Nat × Nat)(L:Array Bool):S :=
  ⟨λt=>match own t with|some i=>if L.getD i false=true then val t β else s0.ρ t|none=>s0.ρ t,
   λt=>match own t with|some i=>if L.getD i false=true then (match blk t β with|some b=>some b|none=>s0.M t) else s0.M t|none=>s0.M t⟩
def J9 (ops:Array Oper)(i j:Nat):Bool:=match ops[i]? with|some o=>o.after.toList.any λe=>Region.binds .any e && e.on == j|none=>false
structure LU (ops:Array Oper) (L:Array Bool) (i:Nat):Prop where
 size:L.size=ops.size
 no:L.getD i false=false
 dep:∀ j,J9 ops i j=true->L.getD j false=true
 closed:∀ k j,L.getD k false=true->J9 ops k j=true->L.getD j false=true
section
variable {P:Program}{E:Env}{s0:S}{val:Nat->(Nat->Nat × Nat)->V}{blk:Nat->(Nat->Nat × Nat)->Option iE}{own:Nat->Option Nat}{β:Nat->Nat × Nat}{L:Array Bool}
theorem LV {t:Nat}(h:own t=none):(pS s0 val blk own β L).ρ t=s0.ρ t:=by simp only[pS,h]
theorem QY {t i:Nat}(h:own t=some i)(hi:L.getD i false=true):(pS s0 val blk own β L).ρ t=val t β:=by simp only[pS,h,hi,if_true]
theorem XP {t:Nat}(h:own t=none):(pS s0 val blk own β L).M t=s0.M t:=by simp only[pS,h]
theorem az6 (hL:∀ i,L.getD i false=false):pS s0 val blk own β L=s0:=by
 cases s0 with
 | mk ρ M =>
  simp only[pS,S.mk.injEq]
  constructor
  .funext t
   cases own t with
   | none=>rfl
   | some i=>simp[hL i]
  .funext t
   cases own t with
   | none=>rfl
   | some i=>simp[hL i]
theorem rC {i j:Nat}(hi:i<L.size):(L.setIfInBounds i true).getD j false=if j=i then true else L.getD j false:=by
 simp only[Array.getD_eq_getD_getElem?,Array.getElem?_setIfInBounds]
 by_cases hji:i=j
 .subst hji;simp[hi]
 .simp[hji,Ne.symm hji]
theorem a06 {a b:S}(h1:∀ t,a.ρ t=b.ρ t)(h2:∀ t,a.M t=b.M t):a=b:=by
 cases a;cases b
 simp only[S.mk.injEq]
 exact⟨funext h1,funext h2⟩
theorem TA {t i:Nat}(hi:i<L.size)(hne:own t≠some i):(pS s0 val blk own β L).ρ t=(pS s0 val blk own β (L.setIfInBounds i true)).ρ t/\(pS s0 val blk own β L).M t=(pS s0 val blk own β (L.setIfInBounds i true)).M t:=by
 cases ho:own t with
 | none=>rw[LV ho,LV ho,XP ho,XP ho];exact⟨rfl,rfl⟩
 | some j =>
  have hj:j≠i:=λe=>hne (by rw[ho,e])
  have e:=rC (L:=L) (i:=i) (j:=j) hi
  rw[if_neg hj] at e
  simp only[pS,ho,e]
  exact⟨by first|trivial|rfl,by first|trivial|rfl⟩
theorem Wi {d i:Nat}(h:own d=some i)(hu:∀ t,own t=some i->t=d)(hi:i<L.size)(hb:blk d β=none):(pS s0 val blk own β L).put (some d) (val d β)=pS s0 val blk own β (L.setIfInBounds i true):=by
 have hs:(L.setIfInBounds i true).getD i false=true:=by rw[rC hi,if_pos rfl]
 refine a06 (λt=>?_) (λt=>?_)
 .show upd (pS s0 val blk own β L).ρ d (val d β) t=_
  by_cases ht:t=d
  .subst ht;rw[upd_same,QY h hs]
  .rw[upd_ne _ _ ht];exact (TA hi λe=>ht (hu t e)).1
 .show (pS s0 val blk own β L).M t=_
  by_cases ht:t=d
  .subst ht
   simp only[pS,h,hs,hb,if_true,ite_self]
  .exact (TA hi λe=>ht (hu t e)).2
theorem OG.aK {m:Nat}{ops:Array Oper}{o:Oper}{K:S->Prop}{s:S}(h:OL P m ops K [o] s):OG P m ops o K s:=h
theorem lt_size {ops:Array Oper}(n:Nat){i:Nat}(h:L.size=ops.size)(hn:ops.size=n)(hi:i<n):i<L.size:=by omega
end
def SO (P:Program)(E:Env)(o:Oper)(K:S->Prop)(s:S):Prop :=
 ∀ F a w,Run E F s a w->Good P ((execOp a.eval o).run P w) λu w'=>∃ F' s',Run E F' s' (a.put o.dst u) w' /\ K s'
def SG (P:Program)(E:Env)(ops:Array Oper)(o:Oper)(K:S->Prop)(s:S):Prop:=OG P 0 ops o K s \/ (o.guard=none/\SO P E o K s)
theorem SG.sound {P:Program}{E:Env}{F:Hp}{s:S}{a:Act}{w:World}{ops:Array Oper}{i:Nat}{o:Oper}{K:S->Prop}{Q':Exit->Act->World->Prop}{next:Act->World->Prop}(ho:ops[i]? = some o)(h:SG P E ops o K s)(hr:Run E F s a w)(hd:oV E.n o.dst)
  (hk:∀ F' s' a' w',Run E F' s' a' w' -> K s' -> next a' w'):wpOp P ops Q' i next a w:=by
 rcases h with h|⟨hg,h⟩
 .exact OG.sound ho h hr hd hk
 .unfold wpOp
  simp only[ho]
  rw[if_pos (by simp[Region.wanted,hg])]
  exact .inl ((h F a w hr).wp λu w' ⟨F',s',hr',hk'⟩=>hk F' s' _ w' hr' hk')
theorem SG.a07 {P:Program}{E:Env}{ops:Array Oper}{K:S->Prop}{s:S}{dst:Option Nat}{op:Op}{ty:TypeId}{pos:String}{after:Array Edge}(h:SO P E ⟨dst,op,ty,pos,after,none⟩ K s):SG P E ops ⟨dst,op,ty,pos,after,none⟩ K s:=.inr ⟨rfl,h⟩
def SL (P:Program)(E:Env)(ops:Array Oper)(K:S->Prop):List Oper->S->Prop
 | [],s=>K s
 | o::r,s=>SG P E ops o (SL P E ops K r) s
theorem SL.wpList {P:Program}{E:Env}{ops:Array Oper}{Q:Exit->S->Prop}:∀ (l:List Oper) {s:S} {a:Act} {F:Hp} {w:World},Run E F s a w->(∀ o,o ∈ l->oV E.n o.dst)->SL P E ops (Q .normal) l s ->
  Go.wpList P ops (Jv E Q) l a w
 | [],s,a,F,w,hr,_,h=>⟨F,s,hr,h⟩
 | o :: r, s, a, F, w, hr, hd, h => by
  have hdo:=hd o uZ
  have hdr:=λx hx=>hd x (List.mem_cons_of_mem _ hx)
  unfold Go.wpList
  unfold SL at h
  rcases h with h|⟨hg,h⟩
  .unfold OG at h
   cases hg:o.guard with
   | none =>
    simp only[hg] at h
    rw[if_pos (by simp[Region.wanted,hg])]
    exact .inl ((h.sound hr hdo).wp λu w' ⟨F',s',hr',hk⟩=>SL.wpList r hr' hdr hk)
   | some q =>
    obtain⟨j,want⟩:=q
    simp only[hg] at h
    obtain⟨b,h1,h2⟩:=h
    have hy:=vw hr h1
    rcases h2 with ⟨e,h2⟩|⟨e,h2⟩
    .rw[if_pos (by simp[Region.wanted,hg,hy,e])]
     exact .inl ((h2.sound hr hdo).wp λu w' ⟨F',s',hr',hk⟩=>SL.wpList r hr' hdr hk)
    .rw[if_neg (by simp[Region.wanted,hg,hy,e])]
     exact SL.wpList r (hr.junk hdo) hdr h2
  .rw[if_pos (by simp[Region.wanted,hg])]
   exact .inl ((h F a w hr).wp λu w' ⟨F',s',hr',hk⟩=>SL.wpList r hr' hdr hk)
theorem AW.XQ {P:Program}{E:Env}{s:S}{id:Nat}{ops:Array Oper}{Q:Exit->S->Prop}(hd:xM E.n ops=true)(h:SL P E ops (Q .normal) ops.toList s):AW P E (.region id ops false) Q s :=
 λ_ _ _ hr=>wp_region_list (SL.wpList _ hr (xM.spec hd) h)
theorem SL.fM {P:Program}{E:Env}{ops:Array Oper}{K:S->Prop}{o:Oper}{r:List Oper}{s:S}(h:OL P 0 ops (SL P E ops K r) [o] s):SL P E ops K (o::r) s:=.inl h
theorem SL.IY {P:Program}{E:Env}{ops:Array Oper}{K:S->Prop}{o:Oper}{r:List Oper}{s:S}(hg:o.guard=none)(h:SO P E o (SL P E ops K r) s):SL P E ops K (o::r) s:=.inr ⟨hg,h⟩
section
variable {P:Program}{E:Env}{K:S->Prop}{s:S}
theorem Run.drop {E:Env}{F:Hp}{s:S}{a:Act}{w:World}(h:Run E F s a w)(id:Nat):Run E F ⟨s.ρ,upd s.M id none⟩ a w:=by
 have part:∀ j q,(upd s.M id none) j=some q->s.M j=some q:=λj q hq=>by unfold upd at hq;split at hq;cases hq;exact hq
 exact⟨Cm h.gU part,h.grow,h.f0,h.yc,λj q k hq hk=>h.kM j q k (part j q hq) hk,h.size,h.defers,h.slots⟩
theorem Run.aO9 {E:Env}{F:Hp}{s:S}{a:Act}{w:World}{id:Nat}(h:Run E F ⟨s.ρ,upd s.M id none⟩ a w):Run E F ⟨s.ρ,upd s.M id (some jA)⟩ a w:=by
 have part:∀ j q,(upd s.M id (some jA)) j=some q->q=jA \/ (upd s.M id none) j=some q:=λj q hq=>by
  unfold upd at hq ⊢
  split at hq
  .exact .inl (Option.some.inj hq).symm
  .rename_i e;rw[if_neg e];exact .inr hq
 have no:∀ k,¬ jA.owns k:=λk hk=>absurd hk.1 (Nat.lt_irrefl 0)
 refine⟨⟨h.gU.rM,λj q hq=>?_,λj q k hq hk=>?_,λi j bi bj k hi hj ki kj=>?_⟩,h.grow,h.f0,h.yc,λj q k hq hk=>?_,h.size,h.defers,h.slots⟩
 .rcases part j q hq with rfl|h1
  .exact⟨Nat.le_refl _,λx hx=>by simp at hx,λhc=>absurd hc (Nat.lt_irrefl 0)⟩
  .exact h.gU.own j q h1
 .rcases part j q hq with rfl|h1
  .exact absurd hk (no k)
  .exact h.gU.apart j q k h1 hk
 .rcases part i bi hi with rfl|h1
  .exact absurd ki (no k)
  .rcases part j bj hj with rfl|h2
   .exact absurd kj (no k)
   .exact h.gU.inj i j bi bj k h1 h2 ki kj
 .rcases part j q hq with rfl|h1
  .exact absurd hk (no k)
  .exact h.kM j q k h1 hk
end
section
variable {P:Program}{ev:Operand->V}{a:Act}{F:Hp}{w:World}{M:Mem}
theorem lX.shrink {b c e sz:Nat}{es:List D}(h:lX F w b c e sz es)(n:Nat):lX F w b c e sz (es.take n):=by
 obtain⟨g0,g1,g2⟩:=h
 refine⟨by rw[List.length_take];omega,λx hx=>g1 x (List.mem_of_mem_take hx),λhc=>?_⟩
 obtain⟨cs,k1,k2,k3,k4⟩:=g2 hc
 refine⟨cs,k1,k2,k3,λi d u hd hu=>k4 i d u ?_ hu⟩
 obtain⟨r,hr'⟩:=uO (es:=es) n
 rw[hr',List.getElem?_append_left (List.getElem?_eq_some_iff.1 hd).1]
 exact hd
theorem wI.swap {id:Nat}{bl GH:iE}(h:wI F M w)(hM:M id=some bl)(ho:∀ k,GH.owns k->bl.owns k)(hb:vg F w GH):wI F (upd M id (some GH)) w:=by
 have part:∀ j q,(upd M id (some GH)) j=some q->(j=id/\q=GH) \/ (j≠id/\M j=some q):=λj q hq=>by
  unfold upd at hq
  split at hq
  .rename_i e1;cases hq;exact .inl ⟨e1,rfl⟩
  .rename_i e1;exact .inr ⟨e1,hq⟩
 have Oz:∀ j q k,(upd M id (some GH)) j=some q->q.owns k->∃ q',M j=some q' /\ q'.owns k:=λj q k hq hk=>by
  rcases part j q hq with ⟨rfl,rfl⟩|⟨_,h1⟩
  .exact⟨bl,hM,ho k hk⟩
  .exact⟨q,h1,hk⟩
 refine⟨h.rM,λj q hq=>?_,λj q k hq hk=>?_,λi j bi bj k hi hj ki kj=>?_⟩
 .rcases part j q hq with ⟨_,rfl⟩|⟨_,h1⟩
  .exact hb
  .exact h.own j q h1
 .obtain⟨q',h1,h2⟩:=Oz j q k hq hk
  exact h.apart j q' k h1 h2
 .obtain⟨qi,h1,h2⟩:=Oz i bi k hi ki
  obtain⟨qj,h3,h4⟩:=Oz j bj k hj kj
  exact h.inj i j qi qj k h1 h3 h2 h4
theorem Run.swap {E:Env}{s:S}{id:Nat}{bl GH:iE}(h:Run E F s a w)(hM:s.M id=some bl)(ho:∀ k,GH.owns k->bl.owns k)(hb:vg F w GH):Run E F ⟨s.ρ,upd s.M id (some GH)⟩ a w :=
 ⟨h.gU.swap hM ho hb,h.grow,h.f0,h.yc,λj q k hq hk=>by
  have hq2:upd s.M id (some GH) j=some q:=hq
  unfold upd at hq2
  split at hq2
  .rename_i e1;subst e1
   obtain rfl:GH = q:=Option.some.inj hq2
   exact h.kM _ _ k hM (ho k hk)
  .exact h.kM j q k hq2 hk,h.size,h.defers,h.slots⟩
end
section
variable {P:Program}{E:Env}{K:S->Prop}{s:S}{pos:String}{after:Array Edge}{ty:Nat}
theorem SO.mono {o:Oper}{K':S->Prop}(h:SO P E o K s)(hk:∀ s,K s->K' s):SO P E o K' s:=λF a w hr=>(h F a w hr).mono λ_ _ ⟨F',s',h1,h2⟩=>⟨F',s',h1,hk s' h2⟩
theorem SO.a08 {o:Oper}(hd:oV E.n o.dst)(h:OW P 0 o K s):SO P E o K s:=λ_ _ _ hr=>h.sound hr hd
theorem SO.shrink {o:Oper}{id b c e sz:Nat}{es:List D}(n:Nat)(hM:s.M id=some (.row b c e sz es))(h:SO P E o K ⟨s.ρ,upd s.M id (some (.row b c e sz (es.take n)))⟩):SO P E o K s:=λF a w hr =>
 h F a w (hr.swap hM (λk hk=>hk) ((hr.gU.own id _ hM:lX F w b c e sz es).shrink n))
theorem AW.shrink {k:Code}{Q:Exit->S->Prop}{id b c e sz:Nat}{es:List D}(n:Nat)(hM:s.M id=some (.row b c e sz es))(h:AW P E k Q ⟨s.ρ,upd s.M id (some (.row b c e sz (es.take n)))⟩):AW P E k Q s:=λF a w hr =>
 h F a w (hr.swap hM (λk hk=>hk) ((hr.gU.own id _ hM:lX F w b c e sz es).shrink n))
end
def LW (P:Program)(f:Nat)(args:V->List V)(n e sz:Nat)(es:List D)(n':Nat)(es':List D):Prop :=
 pX P f/\∀ (F:Hp) (w:World) (vals:List Value) (b c:Nat),wI F (mem1 0 (.row b c e sz es)) w->kU F vals (args (.bF 0 b n c)) ->
  Calls P f vals.toArray w λx w'=>∃ v F' b' c',x=.returned v/\After F (mem1 0 (.row b c e sz es)) w F' (mem1 0 (.row b' c' e sz es')) w' /\ dm F' v (.bF 0 b' n' c')
section
variable {P:Program}
theorem LW.intro {f:Nat} {fn:Func} {code:Code} {args:V->List V} {n e sz n':Nat} {es es':List D} (hf:P.funcs[f]? = some fn) (hname:(fn.name == "runtime.NumGoroutine")=false) (hb:fn.body=some code) (hn:∀ v,(args v).length<=fn.ntmps) (t:Nat) (hres:fn.results.toList=[.tmp t])
  (h:∀ (E:Env) (b c:Nat),E.n=fn.ntmps->AW P E code (λx s=>(x=.normal \/ x=.ret)/\∃ id b' cp es0,s.ρ t=.bF id b' n' cp/\s.M id=some (.row b' cp e sz es0)/\n' <= es0.length/\es0.take n' = es') ⟨sW (args (.bF 0 b n c)),mem1 0 (.row b c e sz es)⟩):LW P f args n e sz es n' es':=by
 refine⟨by simp[pX,hf,hname,hb],λF w vals b c hS hv=>calls_of_wp hf hb ?_⟩
 generalize hA:args (.bF 0 b n c)=A at hv
 have hAn:A.length<=fn.ntmps:=by rw[<- hA];exact hn _
 have hlen:vals.length=A.length:=hv.1
 have hrun:Run ⟨w,F,jM (mem1 0 (.row b c e sz es)),fn.ntmps⟩ F ⟨sW A,mem1 0 (.row b c e sz es)⟩ { tmps:=vals.toArray++Array.replicate (fn.ntmps-vals.toArray.size) undef,defers:=[] } w:=by
  refine⟨hS,Grow.refl _ _,Hp.le.refl F,λk p q=>absurd p q,λid blk k hm ho=>.inr ⟨id,blk,hm,ho⟩,by simp;omega,rfl,λt=>?_⟩
  simp only[sW]
  by_cases ht:t<A.length
  .have h1:A[t]? = some A[t]:=lu ht
   have h2:vals[t]? = some (vals[t]'(by omega)):=lu (by omega)
   rw[ig,h1,Array.getD_eq_getD_getElem?,Array.getElem?_append_left (by simpa [hlen] using ht),List.getElem?_toArray,h2]
   exact hv.2 t _ _ h1 h2
  .rw[ig,List.getElem?_eq_none (by omega)]
   exact .junk
 have hh:=h ⟨w,F,jM (mem1 0 (.row b c e sz es)),fn.ntmps⟩ b c rfl
 rw[hA] at hh
 refine wp_mono (hh F _ w hrun) λx a' w' ⟨F',s',hr,hq,id,b',cp,es0,h1,h2,h3,h4⟩=>?_
 have done:a'.defers=[]/\∃ v,(results fn a'.tmps).run P w' = .ok v w' /\ ∃ v' F' b' c',Ending.returned v=.returned v' /\ After F (mem1 0 (.row b c e sz es)) w F' (mem1 0 (.row b' c' e sz es')) w' /\ dm F' v' (.bF 0 b' n' c'):=by
  have ok:vg F' w' (.row b' cp e sz es'):=by subst h4;exact lX.shrink (hr.gU.own id _ h2) n'
  refine⟨hr.defers,a'.tmps.getD t undef,?_,a'.tmps.getD t undef,F',b',cp,rfl,⟨hr.grow,hr.f0,⟨hr.gU.rM,λj q hq=>?_,λj q k hq hk=>?_,λi j bi bj k hi hj _ _=>?_⟩,hr.yc,λk ⟨j,q,hq,hk⟩=>?_⟩,?_⟩
  .rw[yU,Sem.run_bind,Array.mapM_eq_mapM_toList,Sem.run_map,hres]
   simp[FQ,List.mapM_cons,List.mapM_nil]
  .obtain⟨_,rfl⟩:=ru hq
   exact ok
  .obtain⟨_,rfl⟩:=ru hq
   exact hr.gU.apart id _ k h2 hk
  .rw[(ru hi).1,(ru hj).1]
  .obtain⟨_,rfl⟩:=ru hq
   exact hr.kM id _ k h2 hk
  .have hs:=hr.slots t
   rw[h1] at hs
   generalize a'.tmps.getD t undef=v at hs
   cases hs with
   | bF p q=>exact .bF p q
 rcases hq with rfl|rfl
 .exact done
 .exact done
theorem KE {id id2 b n c:Nat}:bG (.bF id b n c) (.bF id2 b n c):=λF v h=>by
 cases h with
 | bF p q=>exact .bF p q
theorem SO.a09 {E:Env}{K:S->Prop}{s:S}{pos:String}{after:Array Edge}{ty:Nat}{f:Operand}{args:Array Operand}{ats:Array TypeId}{nR id b c n e sz n':Nat}{caps:List V}{XR:V->List V}{es es':List D}{dst:Option Nat}(hd:oV E.n dst)(hf:s.ev f=.fn nR caps)
  (hM:s.M id=some (.row b c e sz es)) (ha:fH (args.toList.map s.ev++caps) (XR (.bF 0 b n c))) (hs:LW P nR XR n e sz es n' es')
  (h:∀ b' c',K ((⟨s.ρ,upd s.M id (some (.row b' c' e sz es'))⟩:S).put dst (.bF id b' n' c'))):SO P E ⟨dst,.call { callee:=.value f,args:=args,argTypes:=ats },ty,pos,after,none⟩ K s:=λF a w hr=>by
 have hf':=hr.eval f;rw[hf] at hf'
 generalize YQ:a.eval f=af at hf'
 cases hf' with
 | @fn _ us _ hl hrr =>
  have hvs:kU F (args.toList.map a.eval++us) (XR (.bF 0 b n c)):=qw (wJ (oZ hr.eval _) ⟨hl,hrr⟩) ha
  have hsub:∀ j q,mem1 id (.row b c e sz es) j=some q->s.M j=some q:=λj q hj=>by obtain⟨rfl,rfl⟩:=ru hj;exact hM
  have hcc:=hs.2 F w _ b c (wI.FM (i:=0) (Cm hr.gU hsub)) hvs
  unfold execOp
  have e1:(args.map a.eval++us.toArray)=(args.toList.map a.eval++us).toArray:=by simp
  simp only[resolve,YQ,Deferred.ofValue,Sem.run_bind,Sem.run_pure,Result.andThen_ok,invoke,Array.empty_append,e1,mO hs.1]
  refine hcc.mono λe2 w' ⟨v,F',b',c',he,hA,hv⟩=>⟨v,he,F',_,?_,h b' c'⟩
  have hA2:After F (mem1 id (.row b c e sz es)) w F' (mem1 id (.row b' c' e sz es')) w' :=
   ⟨hA.grow.mono λk hk=>hk.FM,hA.le,hA.gU.FM,λk p q=>(hA.new k p q).imp (λx=>x) jM.FM,λk hk=>(hA.kM k hk.FM).imp (λx=>x) jM.FM⟩
  have hov:=After.over hr.gU hsub (λj hj=>by unfold mem1 at hj ⊢;split at hj;cases hj;rename_i h1;rw[if_neg h1]) hA2
  have e3:s.M.over (mem1 id (.row b c e sz es)) (mem1 id (.row b' c' e sz es'))=upd s.M id (some (.row b' c' e sz es')):=by
   funext j
   unfold Mem.over mem1 upd
   by_cases hj:j=id
   .simp[hj]
   .simp[hj]
  rw[e3] at hov
  exact hr.qC hov hd (by cases hv with|bF p q=>exact .bF p q)
