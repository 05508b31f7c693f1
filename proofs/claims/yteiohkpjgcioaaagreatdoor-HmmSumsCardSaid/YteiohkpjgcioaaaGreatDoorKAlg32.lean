/-
  AL, part 32: functions that are handed owned blocks and leave them, and answer, in one of several ways.
-/
import Derived.Test.YteiohkpjgcioaaaGreatDoorKAlg30
set_option linter.unusedVariables false
set_option linter.unusedSimpArgs false
namespace Go.AL
open Go Go.BigFrame
structure Tell where
 id:Nat
 op:Nat
 b:(Nat→Nat × Nat)→Blk
def mfT:List Tell→Mem→(Nat→Nat × Nat)→Array Bool→Mem
 | [],M0,_,_=>M0
 | x::r,M0,β,L=>if L.getD x.op false=true then upd (mfT r M0 β L) x.id (some (x.b β)) else mfT r M0 β L
section
variable {x:Tell}{r ts:List Tell}{M0:Mem}{β β':Nat→Nat × Nat}{L:Array Bool}{i d t:Nat}
theorem mfT_none (hL:∀ i,L.getD i false=false):∀ ts,mfT ts M0 β L=M0
 | []=>rfl
 | x::r=>by rw [mfT,hL,if_neg (by decide),mfT_none hL r]
theorem mfT_skip (h:t≠x.id){v:Option Blk}(hr:mfT r M0 β L t=v):mfT (x::r) M0 β L t=v:=by
 rw [mfT]
 split
 ·rw [upd_ne _ _ h];exact hr
 ·exact hr
theorem mfT_no (h:L.getD x.op false=false){v:Option Blk}(hr:mfT r M0 β L t=v):mfT (x::r) M0 β L t=v:=by
 rw [mfT,h,if_neg (by decide)];exact hr
theorem mfT_yes {b:Blk}(h:L.getD x.op false=true)(hb:x.b β=b)(ht:t=x.id):mfT (x::r) M0 β L t=some b:=by
 subst ht
 rw [mfT,h,if_pos rfl,upd_same,hb]
theorem mfT_same (hi:i<L.size):∀ {ts:List Tell},(ts.all fun x=>x.op != i)=true→mfT ts M0 β (L.setIfInBounds i true)=mfT ts M0 β L
 | [],_=>rfl
 | x::r,h=>by
  rw [List.all_cons,Bool.and_eq_true] at h
  have h1:x.op≠i:=by simpa using h.1
  rw [mfT,mfT,mfT_same hi h.2,getD_set_b hi,if_neg h1]
theorem mfT_rest (hi:i<L.size):∀ {ts:List Tell},(ts.all fun x=>x.op != i)=true→(∀ y,y ∈ ts→L.getD y.op false=true→y.id≠d→y.b β' = y.b β)→∀ t,t≠d→mfT ts M0 β' (L.setIfInBounds i true) t=mfT ts M0 β L t
 | [],_,_,t,_=>rfl
 | x :: r, h, hs, t, ht => by
  rw [List.all_cons,Bool.and_eq_true] at h
  have h1:x.op≠i:=by simpa using h.1
  have ih:=mfT_rest hi h.2 (fun y hy=>hs y (List.mem_cons_of_mem _ hy)) t ht
  rw [mfT,mfT,getD_set_b hi,if_neg h1]
  by_cases hf:L.getD x.op false=true
  ·rw [if_pos hf,if_pos hf]
   by_cases hx:t=x.id
   ·subst hx;rw [upd_same,upd_same,hs x mc9 hf ht]
   ·rw [upd_ne _ _ hx,upd_ne _ _ hx,ih]
  ·rw [if_neg hf,if_neg hf,ih]
theorem mfT_here {b:Blk}(hi:i<L.size)(hx:x.op=i)(hd:x.id=d)(hb:x.b β' = b)(hn:L.getD i false=false)(h:(r.all fun x=>x.op != i)=true)
  (hs:∀ y,y ∈ r→L.getD y.op false=true→y.id≠d→y.b β' = y.b β):mfT (x::r) M0 β' (L.setIfInBounds i true)=upd (mfT (x::r) M0 β L) d (some b):=by
 subst hx hd
 rw [mfT,mfT,getD_set_b hi,if_pos rfl,if_pos rfl,hn,if_neg (by decide),hb]
 funext t
 by_cases ht:t=x.id
 ·subst ht;rw [upd_same,upd_same]
 ·rw [upd_ne _ _ ht,upd_ne _ _ ht,mfT_rest hi h hs t ht]
theorem mfT_pass {b:Blk}(hi:i<L.size)(hx:x.op≠i)(hd:x.id≠d ∨ L.getD x.op false=false)(hb:L.getD x.op false=true→x.b β' = x.b β)(hr:mfT r M0 β' (L.setIfInBounds i true)=upd (mfT r M0 β L) d (some b)) :
  mfT (x::r) M0 β' (L.setIfInBounds i true)=upd (mfT (x::r) M0 β L) d (some b):=by
 rw [mfT,mfT,getD_set_b hi,if_neg hx]
 by_cases hf:L.getD x.op false=true
 ·rw [if_pos hf,if_pos hf,hr,hb hf]
  have hne:x.id≠d:=hd.resolve_right fun e=>by rw [e] at hf;cases hf
  funext t
  by_cases h1:t=x.id
  ·subst h1;rw [upd_same,upd_ne _ _ hne,upd_same]
  ·rw [upd_ne _ _ h1]
   by_cases h2:t=d
   ·subst h2;rw [upd_same,upd_same]
   ·rw [upd_ne _ _ h2,upd_ne _ _ h2,upd_ne _ _ h1]
 ·rw [if_neg hf,if_neg hf,hr]
end
section
variable {s:S}{d t:Nat}{v:V}
theorem sto_rho {M':Mem}{w:V}(h:s.ρ t=w):(⟨s.ρ,M'⟩:S).ρ t=w:=h
theorem sto_new {ρ':Nat→V}{M:Mem}{w:Option Blk}:(⟨ρ',upd M d w⟩:S).M d=w:=upd_same _ _ _
theorem sto_old {ρ':Nat→V}{M:Mem}{w u:Option Blk}(h:t≠d)(hs:M t=u):(⟨ρ',upd M d w⟩:S).M t=u:=by
 show upd M d w t=u
 rw [upd_ne _ _ h];exact hs
end
def closB (ops:Array Oper):Nat→List Nat→List Nat
 | 0,S=>S
 | i+1,S=>closB ops i (if S.contains i then S++(List.range i).filter (depB ops i) else S)
theorem clos_listed {ops:Array Oper}{L:Array Bool}{last:Nat}(c:Come ops L last):∀ (n:Nat) (S:List Nat),(∀ j,j ∈ S→L.getD j false=true)→∀ j,j ∈ closB ops n S→L.getD j false=true
 | 0,S,h,j,hj=>h j hj
 | i + 1, S, h, j, hj => by
  rw [closB] at hj
  refine clos_listed c i _ (fun k hk=>?_) j hj
  split at hk
  ·rename_i hi
   rcases mp9 hk with hk|hk
   ·exact h k hk
   ·exact c.closed i k (h i (List.contains_iff_mem.1 hi)) (List.mem_filter.1 hk).2
  ·exact h k hk
def lastB (ops:Array Oper)(last:Nat):Bool:=(List.range last).all fun j=>(closB ops last ((List.range last).filter (depB ops last))).contains j
theorem lastB_all {ops:Array Oper}{L:Array Bool}{last:Nat}(c:Come ops L last)(h:lastB ops last=true):∀ j,j<last→L.getD j false=true:=fun j hj=>by
 have h1:=List.all_eq_true.1 h j (List.mem_range.2 hj)
 exact clos_listed c last _ (fun k hk=>c.dep k (List.mem_filter.1 hk).2) j (List.contains_iff_mem.1 h1)
theorem AW.region_planT {P:Program}{E:Env}{s0:S}{id:Nat}{ops:Array Oper}{Q:Exit→S→Prop}(val:Nat→(Nat→Nat × Nat)→V)(own:Nat→Option Nat)(ts:List Tell)(last:Nat)(hf:P.follows .mixedOrders=true)(hd:dstOK E.n ops=true)
  (hsz:ops.size=last+1) (he:edgesOK ops (List.range ops.size)=true) (hall:lastB ops last=true)
  (hob:∀ i,i<last→∀ β L,Come ops L i→∃ o,ops[i]? = some o∧SG P E ops o (fun s'=>∃ β',s' = pG s0 val own (mfT ts s0.M) β' (L.setIfInBounds i true)) (pG s0 val own (mfT ts s0.M) β L))
  (hfin:∀ β L,Come ops L last→(∀ j,j<last→L.getD j false=true)→∃ o,ops[last]? = some o∧SG P E ops o (Q .normal) (pG s0 val own (mfT ts s0.M) β L)):AW P E (.region id ops true) Q s0:=fun F a w hr=>by
 have hnone:∀ i,(Array.replicate ops.size false).getD i false=false:=fun i=>by
  simp only [Array.getD_eq_getD_getElem?,Array.getElem?_replicate]
  split <;> rfl
 have h0:pG s0 val own (mfT ts s0.M) (fun _=>(0,0)) (Array.replicate ops.size false)=s0:=pG_none hnone (mfT_none hnone _)
 have hrun:Run E F s0 a { w with drawn:=w.drawn+1 }:=⟨⟨hr.sim.imm,fun id blk hm=>(hr.sim.own id blk hm).keep (Hp.le.refl F) fun _ _=>rfl,hr.sim.apart,hr.sim.inj⟩,⟨hr.grow.os,hr.grow.tape,hr.grow.output,hr.grow.size,hr.grow.block⟩,hr.f0,hr.fnew,hr.mnew,hr.size,hr.defers,hr.slots⟩
 refine wp_region_any hf (wpAny_planG (St:=fun β L=>pG s0 val own (mfT ts s0.M) β L) (dstOK.spec hd) hsz (fun i o ho=>edgesOK.spec _ he i o (List.mem_range.2 (Array.getElem?_eq_some_iff.1 ho).1) ho)
  (fun L c j hj=>lastB_all c hall j hj) hob (fun β L c=>hfin β L c (lastB_all c hall)) ops.size _ (fun _=>(0,0)) F a _ (by simp) ?_ (hnone last) (fun k j hk=>by rw [hnone] at hk;cases hk) (by rw [h0];exact hrun))
 have:((List.range ops.size).filter fun i=>!(Array.replicate ops.size false).getD i true)=List.range ops.size:=List.filter_eq_self.2 fun x hx=>by
  have hx:=List.mem_range.1 hx
  simp [Array.getD,hx]
 rw [this,List.length_range]
def lateB (ops:Array Oper)(k j:Nat):Bool:=(closB ops k ((List.range k).filter (depB ops k))).contains j
theorem clos_closed {ops:Array Oper}{L:Array Bool}(hc:∀ k j,L.getD k false=true→depB ops k j=true→L.getD j false=true):∀ (n:Nat) (S:List Nat),(∀ j,j ∈ S→L.getD j false=true)→∀ j,j ∈ closB ops n S→L.getD j false=true
 | 0,S,h,j,hj=>h j hj
 | i + 1, S, h, j, hj => by
  rw [closB] at hj
  refine clos_closed hc i _ (fun k hk=>?_) j hj
  split at hk
  ·rename_i hi
   rcases mp9 hk with hk|hk
   ·exact h k hk
   ·exact hc i k (h i (List.contains_iff_mem.1 hi)) (List.mem_filter.1 hk).2
  ·exact h k hk
theorem come_lateT {ops:Array Oper}{L:Array Bool}{i k:Nat}(c:Come ops L i)(h:lateB ops k i=true):L.getD k false=false:=by
 cases e:L.getD k false with
 | false=>rfl
 | true =>
  have:=clos_closed c.closed k _ (fun j hj=>c.closed k j e (List.mem_filter.1 hj).2) i (List.contains_iff_mem.1 h)
  rw [c.no] at this
  cases this
theorem come_notT {ops:Array Oper}{L:Array Bool}{i k:Nat}{p:Prop}(c:Come ops L i)(h:lateB ops k i=true)(e:L.getD k false=true):p:=by
 rw [come_lateT c h] at e;cases e
theorem come_dep {ops:Array Oper}{L:Array Bool}{i j:Nat}(c:Come ops L i)(h:lateB ops i j=true):L.getD j false=true :=
 clos_closed c.closed i _ (fun k hk=>c.dep k (List.mem_filter.1 hk).2) j (List.contains_iff_mem.1 h)
def FSpecE {α:Type}(P:Program)(f:Nat)(args:List V)(M:Mem)(res:α→V)(M':α→Mem)(φ:α→Prop):Prop :=
 HasBody P f∧∀ (F:Hp) (w:World) (vals:List Value),Sim F M w→SimVs F vals args →
  Calls P f vals.toArray w fun e w'=>∃ x,φ x∧∃ v F',e=.returned v∧After F M w F' (M' x) w' ∧ SimV F' v (res x)
def RetE {α:Type}(P:Program)(fn:Func)(Mk:α→Mem)(res:α→V)(φ:α→Prop)(e:Exit)(s:S):Prop:=∃ x,φ x∧RetQ P fn (Mk x) (res x) e s
section
variable {P:Program}
theorem FSpecE.intro {α:Type} {f:Nat} {fn:Func} {c:Code} {args:List V} {Mc:Mem} {Mk:α→Mem} {res:α→V} {φ:α→Prop} (hf:P.funcs[f]? = some fn) (hname:(fn.name == "runtime.NumGoroutine")=false) (hb:fn.body=some c) (hn:args.length≤fn.ntmps)
  (h:∀ E:Env,E.n=fn.ntmps→AW P E c (RetE P fn Mk res φ) ⟨argsρ args,Mc⟩):FSpecE P f args Mc res Mk φ:=by
 refine ⟨by simp [HasBody,hf,hname,hb],fun F w vals hS hv=>calls_of_wp hf hb ?_⟩
 have hlen:vals.length=args.length:=hv.1
 have hrun:Run ⟨w,F,Owned Mc,fn.ntmps⟩ F ⟨argsρ args,Mc⟩ { tmps:=vals.toArray++Array.replicate (fn.ntmps-vals.toArray.size) undef,defers:=[] } w:=by
  refine ⟨hS,Grow.refl _ _,Hp.le.refl F,fun k p q=>absurd p q,fun id blk k hm ho=>.inr ⟨id,blk,hm,ho⟩,by simp;omega,rfl,fun t=>?_⟩
  simp only [argsρ]
  by_cases ht:t<args.length
  ·have h1:args[t]? = some args[t]:=ge9 ht
   have h2:vals[t]? = some (vals[t]'(by omega)):=ge9 (by omega)
   rw [gd9,h1,Array.getD_eq_getD_getElem?,Array.getElem?_append_left (by simpa [hlen] using ht),List.getElem?_toArray,h2]
   exact hv.2 t _ _ h1 h2
  ·rw [gd9,List.getElem?_eq_none (by omega)]
   exact .junk
 refine wp_mono (h ⟨w,F,Owned Mc,fn.ntmps⟩ rfl F _ w hrun) fun e a' w' ⟨F',s',hr,x,hφ,hq⟩=>?_
 have done:∀ (hq:(∃ xs,RVs P s' fn.results.toList xs∧ROres s'.M (Mk x) xs (res x))∧∀ id blk,Mk x id=some blk→s'.M id=some blk),
   a'.defers=[]∧∃ v,(results fn a'.tmps).run P w' = .ok v w' ∧ ∃ x,φ x∧∃ v' F',Ending.returned v=.returned v' ∧ After F Mc w F' (Mk x) w' ∧ SimV F' v' (res x):=by
  rintro ⟨⟨xs,hrv,hro⟩,hk⟩
  obtain ⟨us,h1,h2⟩:=hrv.run hr
  refine ⟨hr.defers,if h:us.toArray.size=1 then us.toArray[0] else .tuple us.toArray,?_,x,hφ,_,frozenHp F' s'.M (Mk x) w',rfl,?_,?_⟩
  ·rw [results_eq,Sem.run_bind,Array.mapM_eq_mapM_toList,Sem.run_map,h1]
   rfl
  ·refine ⟨hr.grow,hr.f0.trans (frozen_le hr.sim (Mk x)),⟨fun k o hk'=>?_,fun id blk hm=>(hr.sim.own id blk (hk id blk hm)).keep (frozen_le hr.sim (Mk x)) fun _ _=>rfl,fun id blk k hm ho=>?_,fun i j bi bj k hi hj=>hr.sim.inj i j bi bj k (hk i bi hi) (hk j bj hj)⟩,fun k p q=>?_,fun k ⟨id,blk,hm,ho⟩=>hr.mnew id blk k (hk id blk hm) ho⟩
   ·unfold frozenHp at hk'
    split at hk'
    ·exact hk'
    ·exact hr.sim.imm k o hk'
   ·unfold frozenHp
    split
    ·rename_i hfz
     obtain ⟨id',b,c,e,sz,es,hm',hk',hc,rfl⟩:=hfz
     have:=hr.sim.inj id id' _ _ k (hk id blk hm) hm' ho ⟨hc,rfl⟩
     subst this
     rw [hm] at hk';cases hk'
    ·exact hr.sim.apart id blk k (hk id blk hm) ho
   ·unfold frozenHp at q
    split at q
    ·rename_i hfz
     obtain ⟨id',b,c,e,sz,es,hm',hk',hc,rfl⟩:=hfz
     exact hr.mnew id' _ k hm' ⟨hc,rfl⟩
    ·exact hr.fnew k p q
  ·match xs,us,hro,h2 with
   | [x'],[u],hro,h2 =>
    simp only [List.size_toArray,ls9,dite_true]
    exact RO.sim hr.sim hro (h2.2 0 x' u rfl rfl)
   | [],us,hro,h2 =>
    have hu:us=[]:=en9 h2.1
    subst hu
    obtain ⟨ys,hys,e⟩:=hro
    rw [e]
    cases hys
    exact .tup rfl fun i c u hc _=>by simp at hc
   | x' :: y::xs,us,hro,h2 =>
    obtain ⟨ys,hys,e⟩:=hro
    rw [e]
    obtain ⟨e1,e2⟩:=ROs.sim hr.sim hys h2.1 h2.2
    have hne:¬ us.toArray.size=1:=by have:=h2.1;simp at this ⊢;omega
    rw [dif_neg hne]
    exact .tup e1 e2
 cases e with
 | normal=>exact done hq
 | ret=>exact done hq
 | _=>exact hq.elim
theorem SO.callE {α:Type}{E:Env}{K:S→Prop}{s:S}{pos:String}{after:Array Edge}{ty:Nat}{f:Operand}{args:Array Operand}{ats:Array TypeId}{fid:Nat}{caps args':List V}{Mc:Mem}{Mk:α→Mem}{res:α→V}{φ:α→Prop}{dst:Option Nat}{g:Option (Nat × Bool)}(hd:Below' E.n dst)
  (hf:s.ev f=.fn fid caps) (ha:VLes (args.toList.map s.ev++caps) args') (hc:∀ id blk,Mc id=some blk→s.M id=some blk) (hs:FSpecE P fid args' Mc res Mk φ) (hc':∀ x,φ x→∀ id,Mc id=none→Mk x id=none)
  (h:∀ x,φ x→K ((⟨s.ρ,s.M.over Mc (Mk x)⟩:S).put dst (res x))):SO P E ⟨dst,.call { callee:=.value f,args:=args,argTypes:=ats },ty,pos,after,g⟩ K s:=fun F a w hr=>by
 have hf':=hr.eval f;rw [hf] at hf'
 generalize haf:a.eval f=af at hf'
 cases hf' with
 | @fn _ us _ hl hrr =>
  have hvs:SimVs F (args.toList.map a.eval++us) args':=simVs_le (simVs_app (simVs_map hr.eval _) ⟨hl,hrr⟩) ha
  have hcc:=hs.2 F w _ (sim_sub hr.sim hc) hvs
  unfold execOp
  have e1:(args.map a.eval++us.toArray)=(args.toList.map a.eval++us).toArray:=by simp
  simp only [resolve,haf,Deferred.ofValue,Sem.run_bind,Sem.run_pure,Result.andThen_ok,invoke,Array.empty_append,e1,run_call_fn hs.1]
  refine hcc.mono fun e2 w' ⟨x,hφ,v,F',he,hA,hv⟩=>⟨v,he,F',_,hr.after_put (After.over hr.sim hc (hc' x hφ) hA) hd hv,h x hφ⟩
def SK (P:Program)(E:Env)(ops:Array Oper)(K:S→Prop):List Oper→S→Prop
 | [],s=>K s
 | o::r,s=>OG P 0 ops o (SK P E ops K r) s ∨ ((match o.guard with|none=>True|some (j,want)=>gval ops s j=some (some want))∧SO P E o (SK P E ops K r) s)
theorem SK.wpList {E:Env}{ops:Array Oper}{Q:Exit→S→Prop}:∀ (l:List Oper) {s:S} {a:Act} {F:Hp} {w:World},Run E F s a w→(∀ o,o ∈ l→Below' E.n o.dst)→SK P E ops (Q .normal) l s →
  Go.wpList P ops (PostQ E Q) l a w
 | [],s,a,F,w,hr,_,h=>⟨F,s,hr,h⟩
 | o :: r, s, a, F, w, hr, hd, h => by
  have hdo:=hd o mc9
  have hdr:=fun x hx=>hd x (List.mem_cons_of_mem _ hx)
  unfold Go.wpList
  unfold SK at h
  rcases h with h|⟨hg,h⟩
  ·unfold OG at h
   cases hg:o.guard with
   | none =>
    simp only [hg] at h
    rw [if_pos (by simp [Region.wanted,hg])]
    exact .inl ((h.sound hr hdo).wp fun u w' ⟨F',s',hr',hk⟩=>SK.wpList r hr' hdr hk)
   | some q =>
    obtain ⟨j,want⟩:=q
    simp only [hg] at h
    obtain ⟨b,h1,h2⟩:=h
    have hy:=gval_yielded hr h1
    rcases h2 with ⟨e,h2⟩|⟨e,h2⟩
    ·rw [if_pos (by simp [Region.wanted,hg,hy,e])]
     exact .inl ((h2.sound hr hdo).wp fun u w' ⟨F',s',hr',hk⟩=>SK.wpList r hr' hdr hk)
    ·rw [if_neg (by simp [Region.wanted,hg,hy,e])]
     exact SK.wpList r (hr.junk hdo) hdr h2
  ·cases hgd:o.guard with
   | none =>
    rw [if_pos (by simp [Region.wanted,hgd])]
    exact .inl ((h F a w hr).wp fun u w' ⟨F',s',hr',hk⟩=>SK.wpList r hr' hdr hk)
   | some q =>
    obtain ⟨j,want⟩:=q
    rw [hgd] at hg
    have hy:=gval_yielded hr hg
    rw [if_pos (by simp [Region.wanted,hgd,hy])]
    exact .inl ((h F a w hr).wp fun u w' ⟨F',s',hr',hk⟩=>SK.wpList r hr' hdr hk)
theorem AW.regionK {E:Env}{s:S}{id:Nat}{ops:Array Oper}{Q:Exit→S→Prop}(hd:dstOK E.n ops=true)(h:SK P E ops (Q .normal) ops.toList s):AW P E (.region id ops false) Q s :=
 fun _ _ _ hr=>wp_region_list (SK.wpList _ hr (dstOK.spec hd) h)
theorem SK.ofOL {E:Env}{ops:Array Oper}{K:S→Prop}{o:Oper}{r:List Oper}{s:S}(h:OL P 0 ops (SK P E ops K r) [o] s):SK P E ops K (o::r) s:=.inl h
theorem SK.ofSO {E:Env}{ops:Array Oper}{K:S→Prop}{dst:Option Nat}{op:Op}{ty:TypeId}{pos:String}{after:Array Edge}{r:List Oper}{s:S}(h:SO P E ⟨dst,op,ty,pos,after,none⟩ (SK P E ops K r) s):SK P E ops K (⟨dst,op,ty,pos,after,none⟩ :: r) s:=.inr ⟨trivial,h⟩
theorem SK.ofSOg {E:Env}{ops:Array Oper}{K:S→Prop}{dst:Option Nat}{op:Op}{ty:TypeId}{pos:String}{after:Array Edge}{j:Nat}{b:Bool}{r:List Oper}{s:S}(hg:gval ops s j=some (some b))(h:SO P E ⟨dst,op,ty,pos,after,some (j,b)⟩ (SK P E ops K r) s):SK P E ops K (⟨dst,op,ty,pos,after,some (j,b)⟩ :: r) s:=.inr ⟨hg,h⟩
theorem AW.deadR {E:Env}{c:Code}{Q:Exit→S→Prop}{s:S}(id e sz:Nat)(hM:s.M id=none)(h:AW P E c Q ⟨s.ρ,upd s.M id (some (.row 0 0 e sz []))⟩):AW P E c Q s:=fun F a w hr=>by
 refine h F a w ?_
 have hs:=mt_owned hr.sim id e sz
 refine ⟨hs,hr.grow,hr.f0,hr.fnew,fun j blk k hm ho=>?_,hr.size,hr.defers,hr.slots⟩
 simp only [upd] at hm
 split at hm
 ·cases hm;obtain ⟨h,_⟩:=ho;omega
 ·exact hr.mnew j blk k hm ho
theorem vle_mtO {id b:Nat}:VLe .mt (.osl id b 0 0):=fun F v h=>by
 cases h
 exact .osl (fun h=>absurd h (Nat.lt_irrefl 0)) (Nat.le_refl _)
theorem SK.nil {E:Env}{ops:Array Oper}{K:S→Prop}{s:S}(h:K s):SK P E ops K [] s:=h
end
end Go.AL
