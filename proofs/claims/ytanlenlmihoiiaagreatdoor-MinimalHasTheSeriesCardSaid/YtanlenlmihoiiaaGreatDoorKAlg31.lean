/-
  AL, part 31: regions whose order is open, with a memory that is told layer by layer.
-/
import Derived.Test.YtanlenlmihoiiaaGreatDoorKAlg26
set_option linter.unusedVariables false
set_option linter.unusedSimpArgs false
namespace Go.AL
open Go Go.BigFrame
def pS (s0:S)(val:Nat->(Nat->Nat × Nat)->V)(blk:Nat->(Nat->Nat × Nat)->Option iI)(own:Nat->Option Nat)(β:Nat->Nat × Nat)(L:Array Bool):S :=
  ⟨λt=>match own t with|some i=>if L.getD i false=true then val t β else s0.ρ t|none=>s0.ρ t,
   λt=>match own t with|some i=>if L.getD i false=true then (match blk t β with|some b=>some b|none=>s0.M t) else s0.M t|none=>s0.M t⟩
def MF (ops:Array Oper)(i j:Nat):Bool:=match ops[i]? with|some o=>o.after.toList.any λe=>Region.binds .any e && e.on == j|none=>false
structure N9 (ops:Array Oper) (L:Array Bool) (i:Nat):Prop where
 size:L.size=ops.size
 no:L.getD i false=false
 dep:∀ j,MF ops i j=true->L.getD j false=true
 closed:∀ k j,L.getD k false=true->MF ops k j=true->L.getD j false=true
section
variable {P:Program}{E:Env}{s0:S}{val:Nat->(Nat->Nat × Nat)->V}{blk:Nat->(Nat->Nat × Nat)->Option iI}{own:Nat->Option Nat}{β:Nat->Nat × Nat}{L:Array Bool}
theorem Oa {t:Nat}(h:own t=none):(pS s0 val blk own β L).ρ t=s0.ρ t:=by simp only[pS,h]
theorem TD {t i:Nat}(h:own t=some i)(hi:L.getD i false=true):(pS s0 val blk own β L).ρ t=val t β:=by simp only[pS,h,hi,if_true]
theorem ZG {t:Nat}(h:own t=none):(pS s0 val blk own β L).M t=s0.M t:=by simp only[pS,h]
theorem aM8 (hL:∀ i,L.getD i false=false):pS s0 val blk own β L=s0:=by
 cases s0 with
 | mk ρ M =>
  simp only[pS,S.mk.injEq]
  constructor
  .funext t
   cases own t with
   | none=>rfl
   | some i=>simp[hL i]
  .funext t
   cases own t with
   | none=>rfl
   | some i=>simp[hL i]
theorem rJ {i j:Nat}(hi:i<L.size):(L.setIfInBounds i true).getD j false=if j=i then true else L.getD j false:=by
 simp only[Array.getD_eq_getD_getElem?,Array.getElem?_setIfInBounds]
 by_cases hji:i=j
 .subst hji;simp[hi]
 .simp[hji,Ne.symm hji]
theorem bm2 {a b:S}(h1:∀ t,a.ρ t=b.ρ t)(h2:∀ t,a.M t=b.M t):a=b:=by
 cases a;cases b
 simp only[S.mk.injEq]
 exact⟨funext h1,funext h2⟩
theorem Ve {t i:Nat}(hi:i<L.size)(hne:own t≠some i):(pS s0 val blk own β L).ρ t=(pS s0 val blk own β (L.setIfInBounds i true)).ρ t/\(pS s0 val blk own β L).M t=(pS s0 val blk own β (L.setIfInBounds i true)).M t:=by
 cases ho:own t with
 | none=>rw[Oa ho,Oa ho,ZG ho,ZG ho];exact⟨rfl,rfl⟩
 | some j =>
  have hj:j≠i:=λe=>hne (by rw[ho,e])
  have e:=rJ (L:=L) (i:=i) (j:=j) hi
  rw[if_neg hj] at e
  simp only[pS,ho,e]
  exact⟨by first|trivial|rfl,by first|trivial|rfl⟩
theorem au7 {d i:Nat}(h:own d=some i)(hu:∀ t,own t=some i->t=d)(hi:i<L.size)(hb:blk d β=none):(pS s0 val blk own β L).put (some d) (val d β)=pS s0 val blk own β (L.setIfInBounds i true):=by
 have hs:(L.setIfInBounds i true).getD i false=true:=by rw[rJ hi,if_pos rfl]
 refine bm2 (λt=>?_) (λt=>?_)
 .show upd (pS s0 val blk own β L).ρ d (val d β) t=_
  by_cases ht:t=d
  .subst ht;rw[upd_same,TD h hs]
  .rw[upd_ne _ _ ht];exact (Ve hi λe=>ht (hu t e)).1
 .show (pS s0 val blk own β L).M t=_
  by_cases ht:t=d
  .subst ht
   simp only[pS,h,hs,hb,if_true,ite_self]
  .exact (Ve hi λe=>ht (hu t e)).2
theorem OG.aP {m:Nat}{ops:Array Oper}{o:Oper}{K:S->Prop}{s:S}(h:OL P m ops K [o] s):OG P m ops o K s:=h
theorem lt_size {ops:Array Oper}(n:Nat){i:Nat}(h:L.size=ops.size)(hn:ops.size=n)(hi:i<n):i<L.size:=by omega
end
def SO (P:Program)(E:Env)(o:Oper)(K:S->Prop)(s:S):Prop :=
 ∀ F a w,Run E F s a w->Good P ((execOp a.eval o).run P w) λu w'=>∃ F' s',Run E F' s' (a.put o.dst u) w' /\ K s'
def SG (P:Program)(E:Env)(ops:Array Oper)(o:Oper)(K:S->Prop)(s:S):Prop:=OG P 0 ops o K s \/ (o.guard=none/\SO P E o K s)
theorem SG.sound {P:Program}{E:Env}{F:Hp}{s:S}{a:Act}{w:World}{ops:Array Oper}{i:Nat}{o:Oper}{K:S->Prop}{Q':Exit->Act->World->Prop}{next:Act->World->Prop}(ho:ops[i]? = some o)(h:SG P E ops o K s)(hr:Run E F s a w)(hd:ou E.n o.dst)
  (hk:∀ F' s' a' w',Run E F' s' a' w' -> K s' -> next a' w'):wpOp P ops Q' i next a w:=by
 rcases h with h|⟨hg,h⟩
 .exact OG.sound ho h hr hd hk
 .unfold wpOp
  simp only[ho]
  rw[if_pos (by simp[Region.wanted,hg])]
  exact .inl ((h F a w hr).wp λu w' ⟨F',s',hr',hk'⟩=>hk F' s' _ w' hr' hk')
theorem SG.ZH {P:Program}{E:Env}{ops:Array Oper}{K:S->Prop}{s:S}{dst:Option Nat}{op:Op}{ty:TypeId}{pos:String}{after:Array Edge}(h:SO P E ⟨dst,op,ty,pos,after,none⟩ K s):SG P E ops ⟨dst,op,ty,pos,after,none⟩ K s:=.inr ⟨rfl,h⟩
def SL (P:Program)(E:Env)(ops:Array Oper)(K:S->Prop):List Oper->S->Prop
 | [],s=>K s
 | o::r,s=>SG P E ops o (SL P E ops K r) s
theorem SL.wpList {P:Program}{E:Env}{ops:Array Oper}{Q:Exit->S->Prop}:∀ (l:List Oper) {s:S} {a:Act} {F:Hp} {w:World},Run E F s a w->(∀ o,o ∈ l->ou E.n o.dst)->SL P E ops (Q .normal) l s ->
  Go.wpList P ops (Ll E Q) l a w
 | [],s,a,F,w,hr,_,h=>⟨F,s,hr,h⟩
 | o :: r, s, a, F, w, hr, hd, h => by
  have hdo:=hd o rY
  have hdr:=λx hx=>hd x (List.mem_cons_of_mem _ hx)
  unfold Go.wpList
  unfold SL at h
  rcases h with h|⟨hg,h⟩
  .unfold OG at h
   cases hg:o.guard with
   | none =>
    simp only[hg] at h
    rw[if_pos (by simp[Region.wanted,hg])]
    exact .inl ((h.sound hr hdo).wp λu w' ⟨F',s',hr',hk⟩=>SL.wpList r hr' hdr hk)
   | some q =>
    obtain⟨j,want⟩:=q
    simp only[hg] at h
    obtain⟨b,h1,h2⟩:=h
    have hy:=vT hr h1
    rcases h2 with ⟨e,h2⟩|⟨e,h2⟩
    .rw[if_pos (by simp[Region.wanted,hg,hy,e])]
     exact .inl ((h2.sound hr hdo).wp λu w' ⟨F',s',hr',hk⟩=>SL.wpList r hr' hdr hk)
    .rw[if_neg (by simp[Region.wanted,hg,hy,e])]
     exact SL.wpList r (hr.junk hdo) hdr h2
  .rw[if_pos (by simp[Region.wanted,hg])]
   exact .inl ((h F a w hr).wp λu w' ⟨F',s',hr',hk⟩=>SL.wpList r hr' hdr hk)
theorem AW.ZI {P:Program}{E:Env}{s:S}{id:Nat}{ops:Array Oper}{Q:Exit->S->Prop}(hd:x9 E.n ops=true)(h:SL P E ops (Q .normal) ops.toList s):AW P E (.region id ops false) Q s :=
 λ_ _ _ hr=>wp_region_list (SL.wpList _ hr (x9.spec hd) h)
theorem SL.jK {P:Program}{E:Env}{ops:Array Oper}{K:S->Prop}{o:Oper}{r:List Oper}{s:S}(h:OL P 0 ops (SL P E ops K r) [o] s):SL P E ops K (o::r) s:=.inl h
theorem SL.G6 {P:Program}{E:Env}{ops:Array Oper}{K:S->Prop}{o:Oper}{r:List Oper}{s:S}(hg:o.guard=none)(h:SO P E o (SL P E ops K r) s):SL P E ops K (o::r) s:=.inr ⟨hg,h⟩
section
variable {P:Program}{E:Env}{K:S->Prop}{s:S}
theorem Run.drop {E:Env}{F:Hp}{s:S}{a:Act}{w:World}(h:Run E F s a w)(id:Nat):Run E F ⟨s.ρ,upd s.M id none⟩ a w:=by
 have part:∀ j q,(upd s.M id none) j=some q->s.M j=some q:=λj q hq=>by unfold upd at hq;split at hq;cases hq;exact hq
 exact⟨FZ h.gU part,h.grow,h.f0,h.wU,λj q k hq hk=>h.kM j q k (part j q hq) hk,h.size,h.defers,h.slots⟩
theorem Run.ba8 {E:Env}{F:Hp}{s:S}{a:Act}{w:World}{id:Nat}(h:Run E F ⟨s.ρ,upd s.M id none⟩ a w):Run E F ⟨s.ρ,upd s.M id (some jY)⟩ a w:=by
 have part:∀ j q,(upd s.M id (some jY)) j=some q->q=jY \/ (upd s.M id none) j=some q:=λj q hq=>by
  unfold upd at hq ⊢
  split at hq
  .exact .inl (Option.some.inj hq).symm
  .rename_i e;rw[if_neg e];exact .inr hq
 have no:∀ k,¬ jY.owns k:=λk hk=>absurd hk.1 (Nat.lt_irrefl 0)
 refine⟨⟨h.gU.rC,λj q hq=>?_,λj q k hq hk=>?_,λi j bi bj k hi hj ki kj=>?_⟩,h.grow,h.f0,h.wU,λj q k hq hk=>?_,h.size,h.defers,h.slots⟩
 .rcases part j q hq with rfl|h1
  .exact⟨Nat.le_refl _,λx hx=>by simp at hx,λhc=>absurd hc (Nat.lt_irrefl 0)⟩
  .exact h.gU.own j q h1
 .rcases part j q hq with rfl|h1
  .exact absurd hk (no k)
  .exact h.gU.apart j q k h1 hk
 .rcases part i bi hi with rfl|h1
  .exact absurd ki (no k)
  .rcases part j bj hj with rfl|h2
   .exact absurd kj (no k)
   .exact h.gU.inj i j bi bj k h1 h2 ki kj
 .rcases part j q hq with rfl|h1
  .exact absurd hk (no k)
  .exact h.kM j q k h1 hk
end
section
variable {P:Program}{ev:Operand->V}{a:Act}{F:Hp}{w:World}{M:Mem}
theorem lX.shrink {b c e sz:Nat}{es:List D}(h:lX F w b c e sz es)(n:Nat):lX F w b c e sz (es.take n):=by
 obtain⟨g0,g1,g2⟩:=h
 refine⟨by rw[List.length_take];omega,λx hx=>g1 x (List.mem_of_mem_take hx),λhc=>?_⟩
 obtain⟨cs,k1,k2,k3,k4⟩:=g2 hc
 refine⟨cs,k1,k2,k3,λi d u hd hu=>k4 i d u ?_ hu⟩
 obtain⟨r,hr'⟩:=y7 (es:=es) n
 rw[hr',List.getElem?_append_left (List.getElem?_eq_some_iff.1 hd).1]
 exact hd
theorem wR.swap {id:Nat}{bl IC:iI}(h:wR F M w)(hM:M id=some bl)(ho:∀ k,IC.owns k->bl.owns k)(hb:vg F w IC):wR F (upd M id (some IC)) w:=by
 have part:∀ j q,(upd M id (some IC)) j=some q->(j=id/\q=IC) \/ (j≠id/\M j=some q):=λj q hq=>by
  unfold upd at hq
  split at hq
  .rename_i e1;cases hq;exact .inl ⟨e1,rfl⟩
  .rename_i e1;exact .inr ⟨e1,hq⟩
 have Qb:∀ j q k,(upd M id (some IC)) j=some q->q.owns k->∃ q',M j=some q' /\ q'.owns k:=λj q k hq hk=>by
  rcases part j q hq with ⟨rfl,rfl⟩|⟨_,h1⟩
  .exact⟨bl,hM,ho k hk⟩
  .exact⟨q,h1,hk⟩
 refine⟨h.rC,λj q hq=>?_,λj q k hq hk=>?_,λi j bi bj k hi hj ki kj=>?_⟩
 .rcases part j q hq with ⟨_,rfl⟩|⟨_,h1⟩
  .exact hb
  .exact h.own j q h1
 .obtain⟨q',h1,h2⟩:=Qb j q k hq hk
  exact h.apart j q' k h1 h2
 .obtain⟨qi,h1,h2⟩:=Qb i bi k hi ki
  obtain⟨qj,h3,h4⟩:=Qb j bj k hj kj
  exact h.inj i j qi qj k h1 h3 h2 h4
theorem Run.swap {E:Env}{s:S}{id:Nat}{bl IC:iI}(h:Run E F s a w)(hM:s.M id=some bl)(ho:∀ k,IC.owns k->bl.owns k)(hb:vg F w IC):Run E F ⟨s.ρ,upd s.M id (some IC)⟩ a w :=
 ⟨h.gU.swap hM ho hb,h.grow,h.f0,h.wU,λj q k hq hk=>by
  have hq2:upd s.M id (some IC) j=some q:=hq
  unfold upd at hq2
  split at hq2
  .rename_i e1;subst e1
   obtain rfl:IC = q:=Option.some.inj hq2
   exact h.kM _ _ k hM (ho k hk)
  .exact h.kM j q k hq2 hk,h.size,h.defers,h.slots⟩
theorem au8 (hS:wR F M w){t e eF n cp:Nat}{k k':IntKind}{zr:Value}(hT:bH P t e 1 eF)(hz:(P.info? e).bind (λi=>i.zero.map λz=>z.cells.toList)=some [zr])(hn:n<=cp)(hb:eF*cp<=281474976710656)(hm:cp<=9223372036854775807)(d:Nat) :
  ∃ (v:Value) (w':World) (b:Nat),(Instr.makeSlice t (.int k (n:Int)) (.int k' (cp:Int))).run P w=.ok v w' /\ After F M w F (upd M d (some (.row b cp e 1 (List.replicate n (.sc zr))))) w' /\
   dG F v (.bK d b n cp)/\v.oneCell' = true:=by
 obtain⟨i,zv,hi,hzv,h1,h2,h3⟩:=hT.parts
 rw[hi] at hz
 simp only[Option.bind_some,hzv,Option.map_some,Option.some.injEq] at hz
 have hone:=hT.one hi hzv
 rw[hz] at hone
 obtain⟨sz,hsz⟩:∃ sz,sz=1:=⟨1,rfl⟩
 rw[<- hsz] at h1 h2
 have hpos:0<sz:=by omega
 have hb':(i.bytes:Int)*(cp:Int)<=281474976710656:=by
  have:((i.bytes*cp:Nat):Int)<=281474976710656:=by rw[h3];omega
  rwa [Int.natCast_mul] at this
 have hrun:=run_make (P:=P) w t e i zv hT.u hi hzv k k' (n:Int) (cp:Int) (by omega) (by omega) hb' (by omega)
 simp only[Int.toNat_natCast] at hrun
 rw[h2] at hrun
 have hget:∀ (j:Nat) (u:Value),(madeCells zv.cells (cp*sz)).toList[j]? = some u->j<cp*sz/\zv.cells.toList[j % sz]? = some u:=λj u hu=>by
  have hj:j<cp*sz:=by have:=(List.getElem?_eq_some_iff.1 hu).1;simpa [madeCells] using this
  refine⟨hj,?_⟩
  simp only[madeCells,Array.toList_map,Array.toList_range,List.getElem?_map,List.getElem?_range hj,Option.map_some,Option.some.injEq] at hu
  have hlt:j % sz<zv.cells.size:=by rw[h1];exact Nat.mod_lt _ hpos
  rw[h1,getElem!_pos zv.cells (j % sz) hlt] at hu
  rw[<- hu]
  simp[hlt]
 refine⟨_,_,w.heap.size,hrun,IQ hS d e cp 1 (madeCells zv.cells (cp*sz)).toList _ (by simpa using hn) (by simp[madeCells,hsz]) (λu hu=>?_) (λx hx=>?_) (λj x u hx hu=>?_) rfl rfl rfl (by rw[Array.toArray_toList];rfl),.bK (λ_=>rfl) hn,rfl⟩
 .obtain⟨j,hj⟩:=List.mem_iff_getElem?.1 hu
  exact hT.one hi hzv u (List.mem_of_getElem? (hget j u hj).2)
 .rw[(List.mem_replicate.1 hx).2];rfl
 .obtain⟨hj,hzu⟩:=hget j u hu
  rw[hz,hsz,Nat.mod_one] at hzu
  obtain rfl:zr=u:=by simpa using hzu
  have hx2:x ∈ (List.replicate n (D.sc zr)).flatMap D.cells:=List.mem_of_getElem? hx
  obtain⟨y,hy,hxy⟩:=List.mem_flatMap.1 hx2
  rw[(List.mem_replicate.1 hy).2] at hxy
  obtain rfl:x=.sc zr:=by simpa [D.cells] using hxy
  exact .sc (hone zr (List.mem_singleton.2 rfl))
end
section
variable {P:Program}{E:Env}{K:S->Prop}{s:S}{pos:String}{after:Array Edge}{ty:Nat}
theorem SO.mono {o:Oper}{K':S->Prop}(h:SO P E o K s)(hk:∀ s,K s->K' s):SO P E o K' s:=λF a w hr=>(h F a w hr).mono λ_ _ ⟨F',s',h1,h2⟩=>⟨F',s',h1,hk s' h2⟩
theorem SO.bm3 {o:Oper}(hd:ou E.n o.dst)(h:OW P 0 o K s):SO P E o K s:=λ_ _ _ hr=>h.sound hr hd
theorem SO.shrink {o:Oper}{id b c e sz:Nat}{es:List D}(n:Nat)(hM:s.M id=some (.row b c e sz es))(h:SO P E o K ⟨s.ρ,upd s.M id (some (.row b c e sz (es.take n)))⟩):SO P E o K s:=λF a w hr =>
 h F a w (hr.swap hM (λk hk=>hk) ((hr.gU.own id _ hM:lX F w b c e sz es).shrink n))
theorem AW.shrink {k:Code}{Q:Exit->S->Prop}{id b c e sz:Nat}{es:List D}(n:Nat)(hM:s.M id=some (.row b c e sz es))(h:AW P E k Q ⟨s.ρ,upd s.M id (some (.row b c e sz (es.take n)))⟩):AW P E k Q s:=λF a w hr =>
 h F a w (hr.swap hM (λk hk=>hk) ((hr.gU.own id _ hM:lX F w b c e sz es).shrink n))
theorem SO.aM9 {t e eF n cp d:Nat}{x y:Operand}{k k':IntKind}{zr:Value}(hd:d<E.n)(hx:s.ev x=.d (.sc (.int k (n:Int))))(hy:s.ev y=.d (.sc (.int k' (cp:Int))))(hT:bH P t e 1 eF)(hz:(P.info? e).bind (λi=>i.zero.map λz=>z.cells.toList)=some [zr])
  (hn:n<=cp) (hb:eF*cp<=281474976710656) (hm:cp<=9223372036854775807) (h:∀ b,K ⟨upd s.ρ d (.bK d b n cp),upd s.M d (some (.row b cp e 1 (List.replicate n (.sc zr))))⟩) :
  SO P E ⟨some d,.makeSlice t x y,ty,pos,after,none⟩ K s:=λF a w hr=>by
 have hx':=hr.eval x;rw[hx] at hx'
 have hy':=hr.eval y;rw[hy] at hy'
 obtain⟨v,w',b,h1,h2,h3,_⟩:=au8 (P:=P) (k:=k) (k':=k') hr.gU hT hz hn hb hm d
 exact yL (o:=⟨some d,.makeSlice t x y,ty,pos,after,none⟩) rfl (by rw[iJ hx',iJ hy'];exact h1) ⟨F,_,hr.nD (dst:=some d) h2 hd h3,h b⟩
end
def Ob (P:Program)(f:Nat)(args:V->List V)(n e sz:Nat)(es:List D)(n':Nat)(es':List D):Prop :=
 qc P f/\∀ (F:Hp) (w:World) (vals:List Value) (b c:Nat),wR F (mem1 0 (.row b c e sz es)) w->lQ F vals (args (.bK 0 b n c)) ->
  Calls P f vals.toArray w λx w'=>∃ v F' b' c',x=.returned v/\After F (mem1 0 (.row b c e sz es)) w F' (mem1 0 (.row b' c' e sz es')) w' /\ dG F' v (.bK 0 b' n' c')
section
variable {P:Program}
theorem Ob.intro {f:Nat} {fn:Func} {code:Code} {args:V->List V} {n e sz n':Nat} {es es':List D} (hf:P.funcs[f]? = some fn) (hname:(fn.name == "runtime.NumGoroutine")=false) (hb:fn.body=some code) (hn:∀ v,(args v).length<=fn.ntmps) (t:Nat) (hres:fn.results.toList=[.tmp t])
  (h:∀ (E:Env) (b c:Nat),E.n=fn.ntmps->AW P E code (λx s=>(x=.normal \/ x=.ret)/\∃ id b' cp es0,s.ρ t=.bK id b' n' cp/\s.M id=some (.row b' cp e sz es0)/\n' <= es0.length/\es0.take n' = es') ⟨tZ (args (.bK 0 b n c)),mem1 0 (.row b c e sz es)⟩):Ob P f args n e sz es n' es':=by
 refine⟨by simp[qc,hf,hname,hb],λF w vals b c hS hv=>calls_of_wp hf hb ?_⟩
 generalize hA:args (.bK 0 b n c)=A at hv
 have hAn:A.length<=fn.ntmps:=by rw[<- hA];exact hn _
 have hlen:vals.length=A.length:=hv.1
 have hrun:Run ⟨w,F,lm (mem1 0 (.row b c e sz es)),fn.ntmps⟩ F ⟨tZ A,mem1 0 (.row b c e sz es)⟩ { tmps:=vals.toArray++Array.replicate (fn.ntmps-vals.toArray.size) undef,defers:=[] } w:=by
  refine⟨hS,Grow.refl _ _,Hp.le.refl F,λk p q=>absurd p q,λid blk k hm ho=>.inr ⟨id,blk,hm,ho⟩,by simp;omega,rfl,λt=>?_⟩
  simp only[tZ]
  by_cases ht:t<A.length
  .have h1:A[t]? = some A[t]:=lF ht
   have h2:vals[t]? = some (vals[t]'(by omega)):=lF (by omega)
   rw[iO,h1,Array.getD_eq_getD_getElem?,Array.getElem?_append_left (by simpa [hlen] using ht),List.getElem?_toArray,h2]
   exact hv.2 t _ _ h1 h2
  .rw[iO,List.getElem?_eq_none (by omega)]
   exact .junk
 have hh:=h ⟨w,F,lm (mem1 0 (.row b c e sz es)),fn.ntmps⟩ b c rfl
 rw[hA] at hh
 refine wp_mono (hh F _ w hrun) λx a' w' ⟨F',s',hr,hq,id,b',cp,es0,h1,h2,h3,h4⟩=>?_
 have done:a'.defers=[]/\∃ v,(results fn a'.tmps).run P w' = .ok v w' /\ ∃ v' F' b' c',Ending.returned v=.returned v' /\ After F (mem1 0 (.row b c e sz es)) w F' (mem1 0 (.row b' c' e sz es')) w' /\ dG F' v' (.bK 0 b' n' c'):=by
  have ok:vg F' w' (.row b' cp e sz es'):=by subst h4;exact lX.shrink (hr.gU.own id _ h2) n'
  refine⟨hr.defers,a'.tmps.getD t undef,?_,a'.tmps.getD t undef,F',b',cp,rfl,⟨hr.grow,hr.f0,⟨hr.gU.rC,λj q hq=>?_,λj q k hq hk=>?_,λi j bi bj k hi hj _ _=>?_⟩,hr.wU,λk ⟨j,q,hq,hk⟩=>?_⟩,?_⟩
  .rw[zF,Sem.run_bind,Array.mapM_eq_mapM_toList,Sem.run_map,hres]
   simp[Hl,List.mapM_cons,List.mapM_nil]
  .obtain⟨_,rfl⟩:=rH hq
   exact ok
  .obtain⟨_,rfl⟩:=rH hq
   exact hr.gU.apart id _ k h2 hk
  .rw[(rH hi).1,(rH hj).1]
  .obtain⟨_,rfl⟩:=rH hq
   exact hr.kM id _ k h2 hk
  .have hs:=hr.slots t
   rw[h1] at hs
   generalize a'.tmps.getD t undef=v at hs
   cases hs with
   | bK p q=>exact .bK p q
 rcases hq with rfl|rfl
 .exact done
 .exact done
theorem SO.bm4 {E:Env}{K:S->Prop}{s:S}{pos:String}{after:Array Edge}{ty:Nat}{f:Operand}{args:Array Operand}{ats:Array TypeId}{mJ id b c n e sz n':Nat}{caps:List V}{ZJ:V->List V}{es es':List D}{dst:Option Nat}(hd:ou E.n dst)(hf:s.ev f=.fn mJ caps)
  (hM:s.M id=some (.row b c e sz es)) (ha:fK (args.toList.map s.ev++caps) (ZJ (.bK 0 b n c))) (hs:Ob P mJ ZJ n e sz es n' es')
  (h:∀ b' c',K ((⟨s.ρ,upd s.M id (some (.row b' c' e sz es'))⟩:S).put dst (.bK id b' n' c'))):SO P E ⟨dst,.call { callee:=.value f,args:=args,argTypes:=ats },ty,pos,after,none⟩ K s:=λF a w hr=>by
 have hf':=hr.eval f;rw[hf] at hf'
 generalize Xo:a.eval f=af at hf'
 cases hf' with
 | @fn _ us _ hl hrr =>
  have hvs:lQ F (args.toList.map a.eval++us) (ZJ (.bK 0 b n c)):=qE (vk (ny hr.eval _) ⟨hl,hrr⟩) ha
  have hsub:∀ j q,mem1 id (.row b c e sz es) j=some q->s.M j=some q:=λj q hj=>by obtain⟨rfl,rfl⟩:=rH hj;exact hM
  have hcc:=hs.2 F w _ b c (wR.G5 (i:=0) (FZ hr.gU hsub)) hvs
  unfold execOp
  have e1:(args.map a.eval++us.toArray)=(args.toList.map a.eval++us).toArray:=by simp
  simp only[resolve,Xo,Deferred.ofValue,Sem.run_bind,Sem.run_pure,Result.andThen_ok,invoke,Array.empty_append,e1,lS hs.1]
  refine hcc.mono λe2 w' ⟨v,F',b',c',he,hA,hv⟩=>⟨v,he,F',_,?_,h b' c'⟩
  have hA2:After F (mem1 id (.row b c e sz es)) w F' (mem1 id (.row b' c' e sz es')) w' :=
   ⟨hA.grow.mono λk hk=>hk.G5,hA.le,hA.gU.G5,λk p q=>(hA.new k p q).imp (λx=>x) lm.G5,λk hk=>(hA.kM k hk.G5).imp (λx=>x) lm.G5⟩
  have hov:=After.over hr.gU hsub (λj hj=>by unfold mem1 at hj ⊢;split at hj;cases hj;rename_i h1;rw[if_neg h1]) hA2
  have e3:s.M.over (mem1 id (.row b c e sz es)) (mem1 id (.row b' c' e sz es'))=upd s.M id (some (.row b' c' e sz es')):=by
   funext j
   unfold Mem.over mem1 upd
   by_cases hj:j=id
   .simp[hj]
   .simp[hj]
  rw[e3] at hov
  exact hr.nD hov hd (by cases hv with|bK p q=>exact .bK p q)
end
section
variable {P:Program}{E:Env}{s0:S}{St:(Nat->Nat × Nat)->Array Bool->S}
theorem Vf {Q:Exit->S->Prop}{ops:Array Oper}{last:Nat}(hd:∀ o,o ∈ ops.toList->ou E.n o.dst)(hsz:ops.size=last+1)(U1:∀ i o,ops[i]? = some o->∀ e,e ∈ o.after.toList->Region.binds .any e=true->e.on<i)
  (hall:∀ L,N9 ops L last->∀ j,j<last->L.getD j false=true)
  (hob:∀ i,i<last->∀ β L,N9 ops L i->∃ o,ops[i]? = some o/\SG P E ops o (λs'=>∃ β',s' = St β' (L.setIfInBounds i true)) (St β L))
  (hfin:∀ β L,N9 ops L last->∃ o,ops[last]? = some o/\SG P E ops o (Q .normal) (St β L)) :
  ∀ (fuel:Nat) (listed:Array Bool) (β:Nat->Nat × Nat) (F:Hp) (a:Act) (w:World),listed.size=ops.size->((List.range ops.size).filter λi=>!listed.getD i true).length=fuel->listed.getD last false=false ->
   (∀ k j,listed.getD k false=true->MF ops k j=true->listed.getD j false=true)->Run E F (St β listed) a w->wpAny P .any ops (Ll E Q) fuel listed a w:=by
 have au9:∀ i o,ops[i]? = some o->∀ j,MF ops i j=true->∃ e,e ∈ o.after.toList/\Region.binds .any e=true/\e.on=j:=λi o ho j h=>by
  unfold MF at h
  rw[ho] at h
  obtain⟨e,he,h2⟩:=List.any_eq_true.1 h
  rw[Bool.and_eq_true] at h2
  exact⟨e,he,h2.1,by simpa using h2.2⟩
 have bw4:∀ i o,ops[i]? = some o->∀ e,e ∈ o.after.toList->Region.binds .any e=true->MF ops i e.on=true:=λi o ho e he hb=>by
  unfold MF
  rw[ho]
  exact List.any_eq_true.2 ⟨e,he,by rw[hb];simp⟩
 have mem_ready:∀ (listed:Array Bool) (i:Nat),i ∈ Region.ready .any ops listed ↔ i<ops.size/\listed.getD i true=false/\∃ o,ops[i]? = some o/\∀ e,e ∈ o.after.toList->Region.binds .any e=true->listed.getD e.on false=true:=λlisted i=>by
  unfold Region.ready
  rw[List.mem_filter,List.mem_range]
  constructor
  .rintro⟨h1,h2⟩
   rw[Bool.and_eq_true] at h2
   refine⟨h1,by simpa using h2.1,?_⟩
   have ho:ops[i]? = some ops[i]:=Array.getElem?_eq_getElem h1
   refine⟨_,ho,λe he hb=>?_⟩
   have h3:=h2.2
   rw[ho] at h3
   simp only[Option.map_some,Option.getD_some] at h3
   rw[<- Array.all_toList,List.all_eq_true] at h3
   have:=h3 e he
   rw[hb] at this
   simpa using this
  .rintro⟨h1,h2,o,ho,h3⟩
   refine⟨h1,?_⟩
   rw[Bool.and_eq_true]
   refine⟨by simp[h2],?_⟩
   rw[ho]
   simp only[Option.map_some,Option.getD_some]
   rw[<- Array.all_toList,List.all_eq_true]
   intro e he
   cases hb:Region.binds .any e with
   | false=>rfl
   | true=>simpa using h3 e he hb
 have tf:∀ (listed:Array Bool) k,k<listed.size->listed.getD k false=listed.getD k true:=λlisted k hk=>by simp[Array.getD,hk]
 have bH5:∀ (listed:Array Bool) k,listed.getD k false=true->k<listed.size:=λlisted k h=>by
  rcases Nat.lt_or_ge k listed.size with h1|h1
  .exact h1
  .simp[Array.getD,Nat.not_lt.2 h1] at h
 intro fuel
 induction fuel with
 | zero =>
  intro listed β F a w hL hlen hlast _ _
  exfalso
  have hm:last ∈ (List.range ops.size).filter λi=>!listed.getD i true:=List.mem_filter.2 ⟨List.mem_range.2 (by omega),by rw[<- tf listed last (by omega),hlast];rfl⟩
  rw[EQ hlen] at hm
  simp at hm
 | succ fuel ih =>
  intro listed β F a w hL hlen hlast hcl hr
  have H6:∀ i,i<ops.size->listed.getD i true=false->∃ j,j ∈ Region.ready .any ops listed:=by
   intro i
   induction i using Nat.strongRecOn with
   | _ i ihi =>
    intro hi hli
    have ho:ops[i]? = some ops[i]:=Array.getElem?_eq_getElem hi
    by_cases hx:∃ e,e ∈ ops[i].after.toList/\Region.binds .any e=true/\listed.getD e.on false=false
    .obtain⟨e,he,hb,hl⟩:=hx
     have hei:=U1 i _ ho e he hb
     exact ihi e.on hei (by omega) (by rw[<- tf listed e.on (by omega)];exact hl)
    .refine⟨i,(mem_ready listed i).2 ⟨hi,hli,_,ho,λe he hb=>?_⟩⟩
     cases hl:listed.getD e.on false with
     | true=>rfl
     | false=>exact absurd ⟨e,he,hb,hl⟩ hx
  refine⟨λhnil=>?_,λi hi=>?_⟩
  .exfalso
   obtain⟨j,hj⟩:=H6 last (by omega) (by rw[<- tf listed last (by omega)];exact hlast)
   rw[hnil] at hj
   simp at hj
  .obtain⟨hin,hli,o,ho,aL1⟩:=(mem_ready listed i).1 hi
   have bA6:listed.getD i false=false:=by rw[tf listed i (by omega)];exact hli
   have aq2:∀ j,MF ops i j=true->listed.getD j false=true:=λj hj=>by
    obtain⟨e,he,hb,rfl⟩:=au9 i o ho j hj
    exact aL1 e he hb
   have ZK:N9 ops listed i:=⟨hL,bA6,aq2,hcl⟩
   have hdo:ou E.n o.dst:=hd o (by
    obtain⟨h1,h2⟩:=Array.getElem?_eq_some_iff.1 ho
    rw[<- h2];exact Array.getElem_mem_toList h1)
   have hset:∀ j,(listed.setIfInBounds i true).getD j true=if j=i then true else listed.getD j true:=λj=>by
    simp only[Array.getD_eq_getD_getElem?,Array.getElem?_setIfInBounds]
    by_cases hji:i=j
    .subst hji;simp[show i<listed.size by omega]
    .simp[hji,Ne.symm hji]
   by_cases hil:i=last
   .subst hil
    obtain⟨o',ho',hog⟩:=hfin β listed ZK
    rw[ho] at ho';cases ho'
    have hone:fuel=0:=by
     have hsub:∀ x,x ∈ (List.range ops.size).filter (λi=>!listed.getD i true)->x=i:=λx hx=>by
      obtain⟨h1,h2⟩:=List.mem_filter.1 hx
      have h1:=List.mem_range.1 h1
      rcases Nat.lt_or_ge x i with h3|h3
      .have:=hall listed ZK x h3
       rw[tf listed x (by omega)] at this
       rw[this] at h2
       simp at h2
      .omega
     have hnd:((List.range ops.size).filter λi=>!listed.getD i true).Nodup:=List.nodup_range.filter _
     rcases hq:(List.range ops.size).filter λi=>!listed.getD i true with _|⟨x,_|⟨y,r⟩⟩
     .rw[hq] at hlen;simp at hlen
     .rw[hq] at hlen;simp at hlen;omega
     .rw[hq] at hsub hnd
      have e1:=hsub x (by simp)
      have e2:=hsub y (by simp)
      rw[e1,e2] at hnd
      simp at hnd
    subst hone
    refine SG.sound ho hog hr hdo λF' s' a' w' hr' hk=>?_
    refine⟨List.eq_nil_iff_forall_not_mem.2 λj hj=>?_,⟨F',s',hr',hk⟩⟩
    obtain⟨h1,h2,_⟩:=(mem_ready _ j).1 hj
    rw[hset] at h2
    by_cases hji:j=i
    .rw[if_pos hji] at h2;cases h2
    .rw[if_neg hji] at h2
     have:=hall listed ZK j (by omega)
     rw[tf listed j (by omega)] at this
     rw[this] at h2;cases h2
   .obtain⟨o',ho',hog⟩:=hob i (by omega) β listed ZK
    rw[ho] at ho';cases ho'
    refine SG.sound ho hog hr hdo λF' s' a' w' hr' ⟨β',hk⟩=>?_
    subst hk
    refine ih _ β' F' a' w' (by simpa using hL) ?_ ?_ ?_ hr'
    .have e1:((List.range ops.size).filter λj=>!(listed.setIfInBounds i true).getD j true)=((List.range ops.size).filter λj=>!listed.getD j true).filter λj=>decide (j≠i):=by
      rw[List.filter_filter]
      apply List.filter_congr
      intro j _
      rw[hset]
      by_cases hji:j=i <;> simp[hji]
     have hnd:((List.range ops.size).filter λi=>!listed.getD i true).Nodup:=List.nodup_range.filter _
     have hmem:i ∈ (List.range ops.size).filter λi=>!listed.getD i true:=List.mem_filter.2 ⟨List.mem_range.2 hin,by simp[hli]⟩
     rw[e1]
     obtain⟨pre,post,hsp⟩:=List.append_of_mem hmem
     rw[hsp] at hlen hnd ⊢
     have hn2:∀ x,x ∈ pre \/ x ∈ post->x≠i:=λx hx e=>by
      subst e
      rw[List.nodup_append] at hnd
      obtain⟨_,n2,n3⟩:=hnd
      rcases hx with hx|hx
      .exact n3 x hx x rY rfl
      .exact (List.nodup_cons.1 n2).1 hx
     rw[List.filter_append,List.filter_cons]
     have f1:pre.filter (λj=>decide (j≠i))=pre:=List.filter_eq_self.2 λx hx=>by simpa using hn2 x (.inl hx)
     have f2:post.filter (λj=>decide (j≠i))=post:=List.filter_eq_self.2 λx hx=>by simpa using hn2 x (.inr hx)
     rw[f1,f2]
     simp at hlen ⊢
     omega
    .rw[rJ (by omega),if_neg (λe=>hil e.symm)];exact hlast
    .intro k j hk hj
     rw[rJ (by omega)] at hk ⊢
     by_cases hji:j=i
     .rw[if_pos hji]
     .rw[if_neg hji]
      by_cases hki:k=i
      .subst hki;exact aq2 j hj
      .rw[if_neg hki] at hk;exact hcl k j hk hj
end
def pG (s0:S)(val:Nat->(Nat->Nat × Nat)->V)(own:Nat->Option Nat)(mf:(Nat->Nat × Nat)->Array Bool->Mem)(β:Nat->Nat × Nat)(L:Array Bool):S:=⟨(pS s0 val (λ_ _=>none) own β L).ρ,mf β L⟩
section
variable {s0:S}{val:Nat->(Nat->Nat × Nat)->V}{own:Nat->Option Nat}{mf:(Nat->Nat × Nat)->Array Bool->Mem}{β:Nat->Nat × Nat}{L:Array Bool}
theorem di {t:Nat}(h:own t=none):(pG s0 val own mf β L).ρ t=s0.ρ t:=Oa (blk:=λ_ _=>none) h
theorem bT {t i:Nat}(h:own t=some i)(hi:L.getD i false=true):(pG s0 val own mf β L).ρ t=val t β:=TD (blk:=λ_ _=>none) h hi
theorem iY {t:Nat}{v:Option iI}(h:mf β L t=v):(pG s0 val own mf β L).M t=v:=h
theorem aN0 (hL:∀ i,L.getD i false=false)(hm:mf β L=s0.M):pG s0 val own mf β L=s0:=by
 have e:=aM8 (s0:=s0) (val:=val) (blk:=λ_ _=>none) (own:=own) (β:=β) hL
 unfold pG
 rw[e,hm]
theorem cu {d i:Nat}(h:own d=some i)(hu:∀ t,own t=some i->t=d)(hi:i<L.size)(hm:mf β (L.setIfInBounds i true)=mf β L):(pG s0 val own mf β L).put (some d) (val d β)=pG s0 val own mf β (L.setIfInBounds i true):=by
 have e:=au7 (s0:=s0) (val:=val) (own:=own) (L:=L) (blk:=λ_ _=>none) (β:=β) h hu hi rfl
 unfold pG
 rw[<- e,hm]
 rfl
theorem Dz {d i:Nat}{x:Nat × Nat}{v:V}{M':Mem}(h:own d=some i)(hu:∀ t,own t=some i->t=d)(hi:i<L.size)(hv:val d (upd β d x)=v)(hm:mf (upd β d x) (L.setIfInBounds i true)=M')(hs:∀ t j,own t=some j->L.getD j false=true->val t (upd β d x)=val t β) :
  (⟨upd (pG s0 val own mf β L).ρ d v,M'⟩:S)=pG s0 val own mf (upd β d x) (L.setIfInBounds i true):=by
 have e:=au7 (s0:=s0) (val:=val) (blk:=λ_ _=>none) (own:=own) (β:=upd β d x) (L:=L) h hu hi rfl
 unfold pG
 rw[<- e,hm,hv]
 have e2:(pS s0 val (λ_ _=>none) own β L).ρ=(pS s0 val (λ_ _=>none) own (upd β d x) L).ρ:=funext λt=>by
  cases ho:own t with
  | none=>rw[Oa ho,Oa ho]
  | some j =>
   cases hj:L.getD j false with
   | true=>rw[TD ho hj,TD ho hj,hs t j ho hj]
   | false=>simp only[pS,ho,hj];rw[if_neg (by decide),if_neg (by decide)]
 rw[e2]
 rfl
end
section
variable {P:Program}{E:Env}{K:S->Prop}{s:S}{pos:String}{after:Array Edge}{ty:Nat}
theorem SL.nil {ops:Array Oper}(h:K s):SL P E ops K [] s:=h
theorem AW.dead {k:Code}{Q:Exit->S->Prop}(id:Nat)(hM:s.M id=none)(h:AW P E k Q ⟨s.ρ,upd s.M id (some jY)⟩):AW P E k Q s:=λF a w hr=>by
 have e:upd s.M id none=s.M:=by funext j;unfold upd;split;rename_i e2;rw[e2,hM];rfl
 exact h F a w (Run.ba8 (s:=s) (by rw[e];exact hr))
theorem SO.X4 {t id o b n c e sz bo co eo i:Nat}{x y:Operand}{es eso:List D}(hx:s.ev x=.oZ o bo 1 i 0)(hy:s.ev y=.bK id b n c)(hM:s.M id=some (.row b c e sz es))(hO:s.M o=some (.row bo co eo 1 eso))(hT:(P.info? t).map (·.size)=some 1)(hi:i<eso.length)(h0:0<es.length)
  (h:0<c->K ⟨s.ρ,upd s.M o (some (.row bo co eo 1 (eso.set i (GX b n c))))⟩):SO P E ⟨none,.store t x y,ty,pos,after,none⟩ K s:=λF a w hr=>by
 have hc:0<c:=by
  have:=(hr.gU.own id _ hM:lX F w b c e sz es).1
  omega
 refine SO.bm3 (o:=⟨none,.store t x y,ty,pos,after,none⟩) (E:=E) (K:=K) (s:=s) trivial ?_ F a w hr
 exact .inr (.inr (.inr (.inr (.inl ⟨rfl,_,.row hx (by rw[hy];exact ZC hc) hO hT rfl hi,h hc⟩))))
end
structure Oc where
 id:Nat
 op:Nat
 b:(Nat->Nat × Nat)->iI
def Fb:List Oc->Mem->(Nat->Nat × Nat)->Array Bool->Mem
 | [],M0,_,_=>M0
 | x::r,M0,β,L=>if L.getD x.op false=true then upd (Fb r M0 β L) x.id (some (x.b β)) else Fb r M0 β L
section
variable {x:Oc}{r ts:List Oc}{M0:Mem}{β β':Nat->Nat × Nat}{L:Array Bool}{i d t:Nat}
theorem Vg (hL:∀ i,L.getD i false=false):∀ ts,Fb ts M0 β L=M0
 | []=>rfl
 | x::r=>by rw[Fb,hL,if_neg (by decide),Vg hL r]
theorem aH (h:t≠x.id){v:Option iI}(hr:Fb r M0 β L t=v):Fb (x::r) M0 β L t=v:=by
 rw[Fb]
 split
 .rw[upd_ne _ _ h];exact hr
 .exact hr
theorem DC (h:L.getD x.op false=false){v:Option iI}(hr:Fb r M0 β L t=v):Fb (x::r) M0 β L t=v:=by
 rw[Fb,h,if_neg (by decide)];exact hr
theorem vU {b:iI}(h:L.getD x.op false=true)(hb:x.b β=b)(ht:t=x.id):Fb (x::r) M0 β L t=some b:=by
 subst ht
 rw[Fb,h,if_pos rfl,upd_same,hb]
theorem bg (hi:i<L.size):∀ {ts:List Oc},(ts.all λx=>x.op != i)=true->Fb ts M0 β (L.setIfInBounds i true)=Fb ts M0 β L
 | [],_=>rfl
 | x::r,h=>by
  rw[List.all_cons,Bool.and_eq_true] at h
  have h1:x.op≠i:=by simpa using h.1
  rw[Fb,Fb,bg hi h.2,rJ hi,if_neg h1]
theorem Vh (hi:i<L.size):∀ {ts:List Oc},(ts.all λx=>x.op != i)=true->(∀ y,y ∈ ts->L.getD y.op false=true->y.id≠d->y.b β' = y.b β)->∀ t,t≠d->Fb ts M0 β' (L.setIfInBounds i true) t=Fb ts M0 β L t
 | [],_,_,t,_=>rfl
 | x :: r, h, hs, t, ht => by
  rw[List.all_cons,Bool.and_eq_true] at h
  have h1:x.op≠i:=by simpa using h.1
  have ih:=Vh hi h.2 (λy hy=>hs y (List.mem_cons_of_mem _ hy)) t ht
  rw[Fb,Fb,rJ hi,if_neg h1]
  by_cases hf:L.getD x.op false=true
  .rw[if_pos hf,if_pos hf]
   by_cases hx:t=x.id
   .subst hx;rw[upd_same,upd_same,hs x rY hf ht]
   .rw[upd_ne _ _ hx,upd_ne _ _ hx,ih]
  .rw[if_neg hf,if_neg hf,ih]
theorem vV {b:iI}(hi:i<L.size)(hx:x.op=i)(hd:x.id=d)(hb:x.b β' = b)(hn:L.getD i false=false)(h:(r.all λx=>x.op != i)=true)
  (hs:∀ y,y ∈ r->L.getD y.op false=true->y.id≠d->y.b β' = y.b β):Fb (x::r) M0 β' (L.setIfInBounds i true)=upd (Fb (x::r) M0 β L) d (some b):=by
 subst hx hd
 rw[Fb,Fb,rJ hi,if_pos rfl,if_pos rfl,hn,if_neg (by decide),hb]
 funext t
 by_cases ht:t=x.id
 .subst ht;rw[upd_same,upd_same]
 .rw[upd_ne _ _ ht,upd_ne _ _ ht,Vh hi h hs t ht]
theorem BR {b:iI}(hi:i<L.size)(hx:x.op≠i)(hd:x.id≠d \/ L.getD x.op false=false)(hb:L.getD x.op false=true->x.b β' = x.b β)(hr:Fb r M0 β' (L.setIfInBounds i true)=upd (Fb r M0 β L) d (some b)) :
  Fb (x::r) M0 β' (L.setIfInBounds i true)=upd (Fb (x::r) M0 β L) d (some b):=by
 rw[Fb,Fb,rJ hi,if_neg hx]
 by_cases hf:L.getD x.op false=true
 .rw[if_pos hf,if_pos hf,hr,hb hf]
  have hne:x.id≠d:=hd.resolve_right λe=>by rw[e] at hf;cases hf
  funext t
  by_cases h1:t=x.id
  .subst h1;rw[upd_same,upd_ne _ _ hne,upd_same]
  .rw[upd_ne _ _ h1]
   by_cases h2:t=d
   .subst h2;rw[upd_same,upd_same]
   .rw[upd_ne _ _ h2,upd_ne _ _ h2,upd_ne _ _ h1]
 .rw[if_neg hf,if_neg hf,hr]
end
section
variable {s:S}{d t:Nat}{v:V}
theorem MV (h:t≠d){w:V}(hs:s.ρ t=w):(s.put (some d) v).ρ t=w:=by
 show upd s.ρ d v t=w
 rw[upd_ne _ _ h];exact hs
theorem av1:(s.put (some d) v).ρ d=v:=upd_same _ _ _
theorem put_mem {w:Option iI}(hs:s.M t=w):(s.put (some d) v).M t=w:=hs
theorem gW {M':Mem}{w:V}(h:s.ρ t=w):(⟨s.ρ,M'⟩:S).ρ t=w:=h
theorem MW {ρ':Nat->V}{M:Mem}{w:Option iI}:(⟨ρ',upd M d w⟩:S).M d=w:=upd_same _ _ _
theorem mM {ρ':Nat->V}{M:Mem}{w u:Option iI}(h:t≠d)(hs:M t=u):(⟨ρ',upd M d w⟩:S).M t=u:=by
 show upd M d w t=u
 rw[upd_ne _ _ h];exact hs
end
def Oe (ops:Array Oper):Nat->List Nat->List Nat
 | 0,S=>S
 | i+1,S=>Oe ops i (if S.contains i then S++(List.range i).filter (MF ops i) else S)
theorem LG {ops:Array Oper}{L:Array Bool}{last:Nat}(c:N9 ops L last):∀ (n:Nat) (S:List Nat),(∀ j,j ∈ S->L.getD j false=true)->∀ j,j ∈ Oe ops n S->L.getD j false=true
 | 0,S,h,j,hj=>h j hj
 | i + 1, S, h, j, hj => by
  rw[Oe] at hj
  refine LG c i _ (λk hk=>?_) j hj
  split at hk
  .rename_i hi
   rcases ru hk with hk|hk
   .exact h k hk
   .exact c.closed i k (h i (List.contains_iff_mem.1 hi)) (List.mem_filter.1 hk).2
  .exact h k hk
def lastB (ops:Array Oper)(last:Nat):Bool:=(List.range last).all λj=>(Oe ops last ((List.range last).filter (MF ops last))).contains j
theorem QI {ops:Array Oper}{L:Array Bool}{last:Nat}(c:N9 ops L last)(h:lastB ops last=true):∀ j,j<last->L.getD j false=true:=λj hj=>by
 have h1:=List.all_eq_true.1 h j (List.mem_range.2 hj)
 exact LG c last _ (λk hk=>c.dep k (List.mem_filter.1 hk).2) j (List.contains_iff_mem.1 h1)
theorem AW.vX {P:Program}{E:Env}{s0:S}{id:Nat}{ops:Array Oper}{Q:Exit->S->Prop}(val:Nat->(Nat->Nat × Nat)->V)(own:Nat->Option Nat)(ts:List Oc)(last:Nat)(hf:P.follows .mixedOrders=true)(hd:x9 E.n ops=true)
  (hsz:ops.size=last+1) (he:yM ops (List.range ops.size)=true) (hall:lastB ops last=true)
  (hob:∀ i,i<last->∀ β L,N9 ops L i->∃ o,ops[i]? = some o/\SG P E ops o (λs'=>∃ β',s' = pG s0 val own (Fb ts s0.M) β' (L.setIfInBounds i true)) (pG s0 val own (Fb ts s0.M) β L))
  (hfin:∀ β L,N9 ops L last->(∀ j,j<last->L.getD j false=true)->∃ o,ops[last]? = some o/\SG P E ops o (Q .normal) (pG s0 val own (Fb ts s0.M) β L)):AW P E (.region id ops true) Q s0:=λF a w hr=>by
 have hnone:∀ i,(Array.replicate ops.size false).getD i false=false:=λi=>by
  simp only[Array.getD_eq_getD_getElem?,Array.getElem?_replicate]
  split <;> rfl
 have h0:pG s0 val own (Fb ts s0.M) (λ_=>(0,0)) (Array.replicate ops.size false)=s0:=aN0 hnone (Vg hnone _)
 have hrun:Run E F s0 a { w with drawn:=w.drawn+1 }:=⟨⟨hr.gU.rC,λid blk hm=>(hr.gU.own id blk hm).keep (Hp.le.refl F) λ_ _=>rfl,hr.gU.apart,hr.gU.inj⟩,⟨hr.grow.os,hr.grow.tape,hr.grow.output,hr.grow.size,hr.grow.block⟩,hr.f0,hr.wU,hr.kM,hr.size,hr.defers,hr.slots⟩
 refine wp_region_any hf (Vf (St:=λβ L=>pG s0 val own (Fb ts s0.M) β L) (x9.spec hd) hsz (λi o ho=>yM.spec _ he i o (List.mem_range.2 (Array.getElem?_eq_some_iff.1 ho).1) ho)
  (λL c j hj=>QI c hall j hj) hob (λβ L c=>hfin β L c (QI c hall)) ops.size _ (λ_=>(0,0)) F a _ (by simp) ?_ (hnone last) (λk j hk=>by rw[hnone] at hk;cases hk) (by rw[h0];exact hrun))
 have:((List.range ops.size).filter λi=>!(Array.replicate ops.size false).getD i true)=List.range ops.size:=List.filter_eq_self.2 λx hx=>by
  have hx:=List.mem_range.1 hx
  simp[Array.getD,hx]
 rw[this,List.length_range]
def av2 (ops:Array Oper)(k j:Nat):Bool:=(Oe ops k ((List.range k).filter (MF ops k))).contains j
theorem Fe {ops:Array Oper}{L:Array Bool}(hc:∀ k j,L.getD k false=true->MF ops k j=true->L.getD j false=true):∀ (n:Nat) (S:List Nat),(∀ j,j ∈ S->L.getD j false=true)->∀ j,j ∈ Oe ops n S->L.getD j false=true
 | 0,S,h,j,hj=>h j hj
 | i + 1, S, h, j, hj => by
  rw[Oe] at hj
  refine Fe hc i _ (λk hk=>?_) j hj
  split at hk
  .rename_i hi
   rcases ru hk with hk|hk
   .exact h k hk
   .exact hc i k (h i (List.contains_iff_mem.1 hi)) (List.mem_filter.1 hk).2
  .exact h k hk
theorem Ib {ops:Array Oper}{L:Array Bool}{i k:Nat}(c:N9 ops L i)(h:av2 ops k i=true):L.getD k false=false:=by
 cases e:L.getD k false with
 | false=>rfl
 | true =>
  have:=Fe c.closed k _ (λj hj=>c.closed k j e (List.mem_filter.1 hj).2) i (List.contains_iff_mem.1 h)
  rw[c.no] at this
  cases this
theorem sF {ops:Array Oper}{L:Array Bool}{i k:Nat}{p:Prop}(c:N9 ops L i)(h:av2 ops k i=true)(e:L.getD k false=true):p:=by
 rw[Ib c h] at e;cases e
theorem aY {ops:Array Oper}{L:Array Bool}{i j:Nat}(c:N9 ops L i)(h:av2 ops i j=true):L.getD j false=true :=
 Fe c.closed i _ (λk hk=>c.dep k (List.mem_filter.1 hk).2) j (List.contains_iff_mem.1 h)
