/-
  AL, part 26: rows of rows: heads of rows as data, rows that are given to a pool and taken out of it, rows that become data within an outer row.
-/
import Derived.Test.YtnjoncgnjdkaoaaGreatDoorKNumb
set_option linter.unusedVariables false
set_option linter.unusedSimpArgs false
namespace Go.AL
open Go Go.BigFrame
theorem qw {i:Nat}{blk b:iF}{id:Nat}(h:mem1 i blk id=some b):id=i/\b=blk:=by
 unfold mem1 at h
 split at h
 .rename_i e;exact⟨e,by cases h;rfl⟩
 .cases h
theorem EI (i:Nat)(blk:iF):mem1 i blk i=some blk:=by unfold mem1;rw[if_pos rfl]
theorem vJ.DI {F:Hp}{i j:Nat}{blk:iF}{w:World}(h:vJ F (mem1 j blk) w):vJ F (mem1 i blk) w :=
 ⟨h.uf,λid b hb=>by obtain⟨_,rfl⟩:=qw hb;exact h.own j _ (EI _ _),λid b k hb hk=>by obtain⟨_,rfl⟩:=qw hb;exact h.apart j _ k (EI _ _) hk,
  λa b ba bb k ha hb _ _=>by rw[(qw ha).1,(qw hb).1]⟩
theorem jv.DI {i j:Nat}{blk:iF}{k:Nat}(h:jv (mem1 j blk) k):jv (mem1 i blk) k:=by
 obtain⟨id,b,hb,hk⟩:=h
 obtain⟨_,rfl⟩:=qw hb
 exact⟨i,_,EI _ _,hk⟩
theorem eF.DI {P:Program}{f i j:Nat}{args qm:List V}{blk ji:iF}{res:V}(h:eF P f args (mem1 i blk) res (mem1 i ji))(ha:fH qm args):eF P f qm (mem1 j blk) res (mem1 j ji) :=
 ⟨h.1,λF w vals hS hv=>(h.2 F w vals hS.DI (qg hv ha)).mono λe w' ⟨v,F',he,hA,hs⟩ =>
  ⟨v,F',he,⟨hA.grow.mono λk hk=>hk.DI,hA.le,hA.iq.DI,λk a b=>(hA.new k a b).imp (λx=>x) jv.DI,λk hk=>(hA.lS k hk.DI).imp (λx=>x) jv.DI⟩,hs⟩⟩
def V.VT (id b:Nat)(ds:List D):V->V
 | .ptr i b2 off=>if i=id then (if b2=b then .ref (ds.drop off) else .ptr i b2 off) else .ptr i b2 off
 | v=>v
def iF.VT (id b:Nat)(ds:List D):iF->iF
 | .box x t cells=>.box x t (cells.map (V.VT id b ds))
 | k=>k
theorem V.XB {F F':Hp}{id b:Nat}{ds:List D}(hle:Hp.le F F')(h:∀ off,cZ F' (.pointer (some ⟨b,off,none⟩)) (.ref (ds.drop off))){u:Value}{v:V}(hv:cZ F u v):cZ F' u (v.VT id b ds):=by
 cases v with
 | ptr i b2 off =>
  simp only[V.VT]
  split
  .split
   .rename_i e
    subst e
    cases hv
    exact h off
   .exact hv.mono hle
  .exact hv.mono hle
 | _=>exact hv.mono hle
theorem VU {F:Hp}{M:Mem}{w:World}(h:vJ F M w){id b t:Nat}{cells:List V}{ds:List D}(hM:M id=some (.box b t cells))(hd:VCs cells ds) :
  ∃ F',Hp.le F F' /\ vJ F' (upd M id none) w/\(∀ k,F k=none->F' k≠none->jv M k)/\∀ off,cZ F' (.pointer (some ⟨b,off,none⟩)) (.ref (ds.drop off)):=by
 have hin:∀ id' ji k,(upd M id none) id' = some ji -> ji.owns k->id' ≠ id/\M id' = some ji:=λid' ji k hm hk=>by
  unfold upd at hm
  split at hm
  .cases hm
  .rename_i hne;exact⟨hne,hm⟩
 obtain⟨cs,hh,hl,h1,hr⟩:=h.own id _ hM
 have hFb:F b=none:=h.apart id _ b hM rfl
 have hle:Hp.le F (F.add b (.cells cs.toArray t (0,0))):=λk o hk=>by
  unfold Hp.add
  split
  .rename_i e';subst e';rw[hFb] at hk;cases hk
  .exact hk
 refine⟨F.add b (.cells cs.toArray t (0,0)),hle,⟨λk o hk=>?_,λid' ji hm=>?_,λid' ji k hm hk=>?_,λi j bi bj k hi hj ki kj=>?_⟩,λk hk hn=>?_,λoff=>.ref (us:=λk=>cs.getD (off+k) undef) λk d hd'=>?_⟩
 .unfold Hp.add at hk
  split at hk
  .rename_i e';subst e';cases hk;exact hh
  .exact h.uf k o hk
 .have hm':M id' = some ji:=by unfold upd at hm;split at hm;cases hm;exact hm
  exact (h.own id' ji hm').keep hle λk _=>rfl
 .obtain⟨hne,hm'⟩:=hin id' ji k hm hk
  unfold Hp.add
  split
  .rename_i e';subst e'
   exact absurd (h.inj id' id _ _ _ hm' hM hk rfl) hne
  .exact h.apart id' ji k hm' hk
 .exact h.inj i j bi bj k (hin i bi k hi ki).2 (hin j bj k hj kj).2 ki kj
 .unfold Hp.add at hn
  split at hn
  .rename_i e';subst e';exact⟨id,_,hM,rfl⟩
  .exact absurd hk hn
 .rw[List.getElem?_drop] at hd'
  obtain⟨c,hc,hcd⟩:=hd.get (off+k) d hd'
  have hlt:off+k<cs.length:=by rw[hl];exact (List.getElem?_eq_some_iff.1 hc).1
  have hu:cs[off+k]? = some (cs.getD (off+k) undef):=by rw[gI,kL hlt];rfl
  refine⟨?_,h1 _ (List.mem_of_getElem? hu),((hcd F _ (hr (off+k) c _ hc hu)).1).mono hle⟩
  rw[addr_add]
  simp only[DN,Hp.add,if_true,List.getElem?_toArray,hu]
  rfl
theorem AW.EJ {P:Program}{E:Env}{k:Code}{Q:Exit->S->Prop}{s:S}(id:Nat){b t:Nat}{cells:List V}(ds:List D)(hM:s.M id=some (.box b t cells))(hd:VCs cells ds)
  (h:AW P E k Q ⟨λt=>(s.ρ t).VT id b ds,λj=>if j=id then none else (s.M j).map (iF.VT id b ds)⟩):AW P E k Q s:=λF a w hr=>by
 obtain⟨F',h1,h2,h3,h4⟩:=VU hr.iq hM hd
 refine h F' a w ?_
 have part:∀ j blk,(λj=>if j=id then none else (s.M j).map (iF.VT id b ds)) j=some blk->∃ bl,(upd s.M id none) j=some bl/\s.M j=some bl/\blk=bl.VT id b ds:=λj blk hj=>by
  simp only at hj
  split at hj
  .cases hj
  .rename_i hne
   cases hq:s.M j with
   | none=>rw[hq] at hj;cases hj
   | some bl=>rw[hq] at hj;cases hj;exact⟨bl,by rw[upd_ne _ _ hne];exact hq,rfl,rfl⟩
 have ow:∀ (bl:iF) (k:Nat),(bl.VT id b ds).owns k->bl.owns k:=λbl k hk=>by cases bl <;> exact hk
 refine⟨⟨h2.uf,λj blk hj=>?_,λj blk k hj ho=>?_,λi j bi bj k hi hj hoi hoj=>?_⟩,hr.grow,hr.f0.trans h1,λk p q=>?_,λj blk k hj ho=>?_,hr.size,hr.defers,λt=>V.XB h1 h4 (hr.slots t)⟩
 .obtain⟨bl,hb,hb0,rfl⟩:=part j blk hj
  have ok:=h2.own j bl hb
  cases bl with
  | row=>exact ok
  | pool=>exact ok
  | Yw=>exact ok
  | box x t cells =>
   obtain⟨cs,g1,g2,g3,g4⟩:=hr.iq.own j _ hb0
   refine⟨cs,g1,by simpa using g2,g3,λi v u hv hu=>?_⟩
   rw[List.getElem?_map] at hv
   cases hq:cells[i]? with
   | none=>rw[hq] at hv;cases hv
   | some v0=>rw[hq] at hv;cases hv;exact V.XB h1 h4 (g4 i v0 u hq hu)
 .obtain⟨bl,hb,_,rfl⟩:=part j blk hj
  exact h2.apart j bl k hb (ow bl k ho)
 .obtain⟨b1,hb1,_,rfl⟩:=part i bi hi
  obtain⟨b2,hb2,_,rfl⟩:=part j bj hj
  exact h2.inj i j b1 b2 k hb1 hb2 (ow _ _ hoi) (ow _ _ hoj)
 .cases hf:F k with
  | none =>
   obtain⟨i,bl,hi,ho⟩:=h3 k hf q
   exact hr.lS i bl k hi ho
  | some o=>exact hr.zo k p (by rw[hf];simp)
 .obtain⟨bl,_,hb,rfl⟩:=part j blk hj
  exact hr.lS j bl k hb (ow _ _ ho)
theorem G5 {id b off:Nat}{ds:List D}:V.VT id b ds (.ptr id b off)=.ref (ds.drop off):=by simp[V.VT]
section
variable {P:Program}
def OT (P:Program)(ops:Array Oper)(K:S->Prop):Nat->Array Bool->S->Prop
 | 0,listed,s=>Region.ready .any ops listed=[]/\K s
 | n+1,listed,s=>Region.ready .any ops listed≠[]/\∀ i,i ∈ Region.ready .any ops listed->∃ o,ops[i]? = some o/\OG P 0 ops o (OT P ops K n (listed.setIfInBounds i true)) s
def OTs (P:Program)(ops:Array Oper)(K:S->Prop)(n:Nat)(listed:Array Bool)(s:S):List Nat->List Oper->Prop
 | [],[]=>True
 | i::l,o::os=>OL P 0 ops (OT P ops K n (listed.setIfInBounds i true)) [o] s/\OTs P ops K n listed s l os
 | _,_=>False
theorem OTs.get {ops:Array Oper}{K:S->Prop}{n:Nat}{listed:Array Bool}{s:S}:∀ (l:List Nat) (os:List Oper),l.map (λi=>ops[i]?)=os.map some->OTs P ops K n listed s l os->∀ i,i ∈ l->∃ o,ops[i]? = some o/\OG P 0 ops o (OT P ops K n (listed.setIfInBounds i true)) s
 | [],_,_,_,i,hi=>by simp at hi
 | j::l,[],h,_,_,_=>by simp at h
 | j::l,o::os,h,ht,i,hi=>by
  simp only[List.map_cons,List.cons.injEq] at h
  rcases List.mem_cons.1 hi with rfl|hi
  .exact⟨o,h.1,ht.1⟩
  .exact OTs.get l os h.2 ht.2 i hi
end
section
variable {P:Program}{E:Env}{c:Code}{Q:Exit->S->Prop}{s:S}
theorem AW.aL1 {M':Mem}(hok:∀ F w,vJ F s.M w->∀ id blk,M' id=some blk->wX F w blk)
  (hinj:∀ F w,vJ F s.M w->∀ i j bi bj k,M' i=some bi->M' j=some bj->bi.owns k->bj.owns k->i=j)
  (hsub:∀ id blk k,M' id=some blk->blk.owns k->∃ id' ji,s.M id' = some ji /\ ji.owns k) (h:AW P E c Q ⟨s.ρ,M'⟩):AW P E c Q s:=λF a w hr=>by
 refine h F a w ⟨⟨hr.iq.uf,hok F w hr.iq,λid blk k hm hk=>?_,hinj F w hr.iq⟩,hr.grow,hr.f0,hr.zo,λid blk k hm hk=>?_,hr.size,hr.defers,hr.slots⟩
 .obtain⟨id',ji,h1,h2⟩:=hsub id blk k hm hk
  exact hr.iq.apart id' ji k h1 h2
 .obtain⟨id',ji,h1,h2⟩:=hsub id blk k hm hk
  exact hr.lS id' ji k h1 h2
theorem owL {k e sz:Nat}{rs:List (Nat × List D)}(h:s.M k=some (.pool e sz rs)):s.M k=some (.pool e sz rs):=h
theorem owT {k b cc e e2 sz:Nat}{rs:List (Nat × List D)}(h:s.M k=some (.Yw b cc e e2 sz rs)):s.M k=some (.Yw b cc e e2 sz rs):=h
theorem AW.take (x p i:Nat){b e sz:Nat}{es:List D}{rs:List (Nat × List D)}(hx:s.M x=none)(hp:s.M p=some (.pool e sz rs))(hi:rs[i]? = some (b,es))
  (h:AW P E c Q ⟨s.ρ,upd (upd s.M p (some (.pool e sz (rs.set i (b,[]))))) x (some (.row b es.length e sz es))⟩):AW P E c Q s:=by
 have hxp:x≠p:=λe=>by rw[e,hp] at hx;cases hx
 have hil:i<rs.length:=(List.getElem?_eq_some_iff.1 hi).1
 have part:∀ id blk,upd (upd s.M p (some (.pool e sz (rs.set i (b,[]))))) x (some (.row b es.length e sz es)) id=some blk->(id=x/\blk=.row b es.length e sz es) \/ (id=p/\blk=.pool e sz (rs.set i (b,[]))) \/ (id≠p/\id≠x/\s.M id=some blk):=λid blk hm=>by
  unfold upd at hm
  split at hm
  .rename_i e;cases hm;exact .inl ⟨e,rfl⟩
  .split at hm
   .rename_i e;cases hm;exact .inr (.inl ⟨e,rfl⟩)
   .rename_i h1 h2;exact .inr (.inr ⟨h2,h1,hm⟩)
 have get:∀ j q,(rs.set i (b,[]))[j]? = some q->0<q.2.length->j≠i/\rs[j]? = some q:=λj q hj h0=>by
  rw[List.getElem?_set] at hj
  split at hj
  .cases hj;exact absurd h0 (by simp)
  .rename_i e;exact⟨Ne.symm e,hj⟩
 have Y1:∀ k,qf (rs.set i (b,[])) k->∃ j q,j≠i/\rs[j]? = some q/\0<q.2.length/\k=q.1:=λk ⟨q,hq,h0,hk⟩=>by
  obtain⟨j,hj⟩:=List.mem_iff_getElem?.1 hq
  obtain⟨e,h1⟩:=get j q hj h0
  exact⟨j,q,e,h1,h0,hk⟩
 have up:∀ k,qf (rs.set i (b,[])) k->qf rs k:=λk hk=>by
  obtain⟨j,q,_,h1,h0,e⟩:=Y1 k hk
  exact⟨q,List.mem_of_getElem? h1,h0,e⟩
 have upx:∀ k,(iF.row b es.length e sz es).owns k->qf rs k:=λk ⟨h0,hk⟩=>⟨_,List.mem_of_getElem? hi,h0,hk⟩
 refine AW.aL1 (λF w hS id blk hm=>?_) (λF w hS u v bu bv k hu hv ku kv=>?_) (λid blk k hm hk=>?_) h
 .have o2:=hS.own p _ hp
  rcases part id blk hm with ⟨_,rfl⟩|⟨_,rfl⟩|⟨_,_,h⟩
  .exact o2.2 _ (List.mem_of_getElem? hi)
  .refine⟨λu v q r hu hv q0 r0 hqr=>o2.1 u v q r (get u q hu q0).2 (get v r hv r0).2 q0 r0 hqr,λq hq=>?_⟩
   obtain⟨j,hj⟩:=List.mem_iff_getElem?.1 hq
   rw[List.getElem?_set] at hj
   split at hj
   .cases hj;exact⟨by simp,by simp,λh0=>absurd h0 (by simp)⟩
   .exact o2.2 q (List.mem_of_getElem? hj)
  .exact hS.own id blk h
 .have o2:=hS.own p _ hp
  have xp:∀ k,(iF.row b es.length e sz es).owns k->qf (rs.set i (b,[])) k->False:=λk ⟨h0,hk⟩ hk2=>by
   obtain⟨j,q,ne,h1,h2,h3⟩:=Y1 k hk2
   exact ne (o2.1 j i q (b,es) h1 hi h2 h0 (by rw[<- h3,hk]))
  rcases part u bu hu with ⟨eu,rfl⟩|⟨eu,rfl⟩|⟨nu,nx,h1⟩ <;> rcases part v bv hv with ⟨ev,rfl⟩|⟨ev,rfl⟩|⟨nv,nx2,h2⟩
  .rw[eu,ev]
  .exact (xp k ku kv).elim
  .exact absurd (hS.inj v p _ _ k h2 hp kv (upx k ku)) nv
  .exact (xp k kv ku).elim
  .rw[eu,ev]
  .exact absurd (hS.inj v p _ _ k h2 hp kv (up k ku)) nv
  .exact absurd (hS.inj u p _ _ k h1 hp ku (upx k kv)) nu
  .exact absurd (hS.inj u p _ _ k h1 hp ku (up k kv)) nu
  .exact hS.inj u v bu bv k h1 h2 ku kv
 .rcases part id blk hm with ⟨_,rfl⟩|⟨_,rfl⟩|⟨_,_,h⟩
  .exact⟨p,_,hp,upx k hk⟩
  .exact⟨p,_,hp,up k hk⟩
  .exact⟨id,blk,h,hk⟩
end
section
variable {F:Hp}{w:World}{M:Mem}
theorem aV3 {es:List D}(h:∀ x,x ∈ es->x.cells.length=1){i:Nat}{d:D}(hd:(es.flatMap D.cells)[i]? = some d):∃ x,es[i]? = some x/\x.cells[0]? = some d:=by
 have hl:i<es.length:=by
  have h1:=(List.getElem?_eq_some_iff.1 hd).1
  rw[flat_length h,Nat.mul_one] at h1
  exact h1
 have hx:es[i]? = some es[i]:=kL hl
 have h2:=flat_get h hx 0 (by decide)
 rw[Nat.mul_one,Nat.add_zero] at h2
 exact⟨_,hx,by rw[<- h2];exact hd⟩
theorem nJ.read {b c e:Nat}{es es2:List D}(h:nJ F w b c e 1 es)(hl:es2.length=es.length)(h1:∀ x,x ∈ es2->x.cells.length=1)
  (hr:∀ (i:Nat) (x y:D) (u:Value),es[i]? = some x->es2[i]? = some y->(∀ d:D,x.cells[0]? = some d->Rep F u d)->∀ d:D,y.cells[0]? = some d->Rep F u d):nJ F w b c e 1 es2:=by
 obtain⟨g0,g1,g2⟩:=h
 refine⟨by omega,h1,λhc=>?_⟩
 obtain⟨cs,k1,k2,k3,k4⟩:=g2 hc
 refine⟨cs,k1,k2,k3,λi d u hd hu=>?_⟩
 obtain⟨y,hy,hyd⟩:=aV3 h1 hd
 have hil:i<es.length:=by have:=(List.getElem?_eq_some_iff.1 hy).1;omega
 have hx:es[i]? = some es[i]:=kL hil
 refine hr i _ y u hx hy (λd' hd'=>k4 i d' u ?_ hu) d hyd
 have h2:=flat_get g1 hx 0 (by decide)
 rw[Nat.mul_one,Nat.add_zero] at h2
 rw[h2];exact hd'
end
open Classical in
noncomputable def FZ (F:Hp)(rs:List (Nat × List D))(w:World):Hp:=λk=>if qf rs k then w.heap[k]? else F k
theorem S9 {F:Hp}{M:Mem}{w:World}(h:vJ F M w){p e sz:Nat}{rs:List (Nat × List D)}(hp:M p=some (.pool e sz rs)) :
  ∃ F',Hp.le F F' /\ vJ F' (upd M p none) w/\(∀ k,F k=none->F' k≠none->jv M k)/\∀ q,q ∈ rs->Rep F' (.slice (some ⟨q.1,0,none⟩) q.2.length q.2.length) (.sl q.2):=by
 have hle:Hp.le F (FZ F rs w):=λk o hk=>by
  unfold FZ
  split
  .exact h.uf k o hk
  .exact hk
 have hin:∀ id' ji,(upd M p none) id' = some ji -> id' ≠ p/\M id' = some ji:=λid' ji hm=>by
  unfold upd at hm
  split at hm
  .cases hm
  .rename_i hne;exact⟨hne,hm⟩
 have hown:=h.own p _ hp
 refine⟨FZ F rs w,hle,⟨λk o hk=>?_,λid blk hm=>(h.own id blk (hin id blk hm).2).keep hle λ_ _=>rfl,λid blk k hm hk=>?_,λi j bi bj k hi hj ki kj=>h.inj i j bi bj k (hin i bi hi).2 (hin j bj hj).2 ki kj⟩,λk hk hn=>?_,λq hq=>?_⟩
 .unfold FZ at hk
  split at hk
  .exact hk
  .exact h.uf k o hk
 .obtain⟨hne,hm⟩:=hin id blk hm
  unfold FZ
  split
  .rename_i ho
   exact absurd (h.inj id p _ _ k hm hp hk ho) hne
  .exact h.apart id blk k hm hk
 .unfold FZ at hn
  split at hn
  .rename_i ho;exact⟨p,_,hp,ho⟩
  .exact absurd hk hn
 .obtain⟨g0,g1,g2⟩:=hown.2 q hq
  rcases Nat.eq_zero_or_pos q.2.length with h0|h0
  .rw[h0,Gt h0];exact Rep.nil_
  .obtain⟨cs,k1,k2,k3,k4⟩:=g2 h0
   refine Rep.row (cs:=cs) (t:=e) (fr:=(0,0)) (sz:=sz) (by unfold FZ;rw[if_pos ⟨q,hq,h0,rfl⟩];exact k1) rfl (Nat.le_refl _) g1 (by omega) k3 λi d u hd hu=>(k4 i d u hd hu).mono hle
theorem nJ.heads {F:Hp}{w:World}{b c e:Nat}{rs:List (Nat × List D)}(h:nJ F w b c e 1 (rs.map hdP))(hr:∀ q,q ∈ rs->Rep F (.slice (some ⟨q.1,0,none⟩) q.2.length q.2.length) (.sl q.2)):nJ F w b c e 1 (rs.map λq=>.sl q.2):=by
 refine h.read (by simp) (λx hx=>by obtain⟨q,_,rfl⟩:=jY hx;rfl) λi x y u hx hy hu d hd=>?_
 rw[List.getElem?_map] at hx hy
 cases hq:rs[i]? with
 | none=>rw[hq] at hx;cases hx
 | some q =>
  rw[hq] at hx hy
  cases hx;cases hy;cases hd
  have hu2:=hu _ rfl
  cases hu2 with
  | sc _=>exact hr q (List.mem_of_getElem? hq)
def ax3 (b c e e2 sz:Nat)(rs:List (Nat × List D)):Mem:=λj=>if j=0 then some (.row b c e 1 (rs.map hdP)) else if j=1 then some (.pool e2 sz rs) else none
theorem DZ {b c e e2 sz:Nat}{rs:List (Nat × List D)}{j:Nat}{blk:iF}(h:ax3 b c e e2 sz rs j=some blk):(j=0/\blk=.row b c e 1 (rs.map hdP)) \/ (j=1/\blk=.pool e2 sz rs):=by
 unfold ax3 at h
 split at h
 .rename_i e;cases h;exact .inl ⟨e,rfl⟩
 .split at h
  .rename_i e;cases h;exact .inr ⟨e,rfl⟩
  .cases h
theorem Tc {bs:List Nat}{rows:List (List D)}(h:bs.length=rows.length):(bs.zip rows).map Prod.snd=rows:=by
 rw[List.map_snd_zip];omega
theorem KA.data {P:Program}{f n e e2 sz:Nat}{args:List V}{rows:List (List D)}(h:KA P f args n e e2 sz rows)(hn:n=rows.length):aj P f args (.d (.sl (rows.map .sl))) :=
 ⟨h.1,λF w vals hF hv=>(h.2 F w vals hF hv).mono λx w' ⟨v,F',b,c,bs,he,hx,hv,hl,hok,hfr⟩=>by
  have hS:vJ F' (ax3 b c e e2 sz (bs.zip rows)) w':=by
   refine⟨hx.uf,λj blk hj=>?_,λj blk k hj hk=>?_,λi j bi bj k hi hj ki kj=>?_⟩
   .rcases DZ hj with ⟨_,rfl⟩|⟨_,rfl⟩
    .exact hok.1
    .exact hok.2.1
   .rcases DZ hj with ⟨_,rfl⟩|⟨_,rfl⟩
    .exact (hfr k (.inl hk)).2
    .exact (hfr k (.inr hk)).2
   .rcases DZ hi with ⟨ei,rfl⟩|⟨ei,rfl⟩ <;> rcases DZ hj with ⟨ej,rfl⟩|⟨ej,rfl⟩
    .rw[ei,ej]
    .obtain⟨k1,k2⟩:=ki;subst k2;exact absurd kj (hok.2.2 k1)
    .obtain⟨k1,k2⟩:=kj;subst k2;exact absurd ki (hok.2.2 k1)
    .rw[ei,ej]
  obtain⟨F1,a1,a2,a3,a4⟩:=S9 (p:=1) hS rfl
  have r1:nJ F1 w' b c e 1 (((bs.zip rows)).map λq=>.sl q.2):=nJ.heads (a2.own 0 _ rfl) a4
  have hS2:vJ F1 (λj=>if j=0 then some (.row b c e 1 (((bs.zip rows)).map λq=>.sl q.2)) else none) w':=by
   have key:∀ j blk,(λj=>if j=0 then some (iF.row b c e 1 (((bs.zip rows)).map λq=>.sl q.2)) else none) j=some blk->j=0/\blk=.row b c e 1 (((bs.zip rows)).map λq=>.sl q.2):=λj blk hj=>by
    simp only at hj
    split at hj
    .rename_i e;cases hj;exact⟨e,rfl⟩
    .cases hj
   refine⟨a2.uf,λj blk hj=>?_,λj blk k hj hk=>?_,λi j bi bj k hi hj ki kj=>?_⟩
   .obtain⟨_,rfl⟩:=key j blk hj;exact r1
   .obtain⟨_,rfl⟩:=key j blk hj;exact a2.apart 0 _ k rfl hk
   .rw[(key i bi hi).1,(key j bj hj).1]
  obtain⟨F2,b1,b2,b3,b4⟩:=yF (id:=0) hS2 rfl
  have hlen:(((bs.zip rows)).map λq:Nat × List D=>D.sl q.2).length=n:=by rw[dD,List.length_zip,hl,Nat.min_self,hn]
  have hmap:((bs.zip rows)).map (λq:Nat × List D=>D.sl q.2)=rows.map .sl:=by
   rw[show (λq:Nat × List D=>D.sl q.2)=D.sl ∘ Prod.snd from rfl,<- List.map_map,Tc hl]
  have owned:∀ k,jv (ax3 b c e e2 sz (bs.zip rows)) k->w.heap.size<=k:=λk ⟨j,blk,hj,hk⟩=>by
   rcases DZ hj with ⟨_,rfl⟩|⟨_,rfl⟩
   .exact (hfr k (.inl hk)).1
   .exact (hfr k (.inr hk)).1
  refine⟨v,F2,he,⟨hx.grow,(hx.le.trans a1).trans b1,b2.uf,λk p q=>?_⟩,?_⟩
  .cases hf1:F1 k with
   | none =>
    obtain⟨j,blk,hj,hk⟩:=b3 k hf1 q
    simp only at hj
    split at hj
    .cases hj;exact (hfr k (.inl hk)).1
    .cases hj
   | some o1 =>
    cases hf2:F' k with
    | none=>exact owned k (a3 k hf2 (by rw[hf1];simp))
    | some o2=>exact hx.new k p (by rw[hf2];simp)
  .have h1:=b4 v n (hv.mono a1) (by omega)
   rw[<- hlen,List.take_length,hmap] at h1
   cases hv
   exact .d h1 rfl⟩
theorem KA.intro {P:Program} {f:Nat} {fn:Func} {c:Code} {args:List V} {n e e2 sz:Nat} {rows:List (List D)} (hf:P.funcs[f]? = some fn) (hname:(fn.name == "runtime.NumGoroutine")=false) (hb:fn.body=some c) (hn:args.length<=fn.ntmps) (t:Nat) (hres:fn.results.toList=[.tmp t])
  (h:∀ E:Env,E.n=fn.ntmps->AW P E c (λx s=>(x=.normal \/ x=.ret)/\∃ o p b cp rs,s.ρ t=.bH o b n cp/\s.M o=some (.row b cp e 1 (rs.map hdP))/\s.M p=some (.pool e2 sz rs)/\o≠p/\rs.map Prod.snd=rows) ⟨rE args,jM⟩):KA P f args n e e2 sz rows:=by
 refine⟨by simp[oH,hf,hname,hb],λF w vals hF hv=>calls_of_wp hf hb ?_⟩
 have hlen:vals.length=args.length:=hv.1
 have hrun:Run ⟨w,F,jv jM,fn.ntmps⟩ F ⟨rE args,jM⟩ { tmps:=vals.toArray++Array.replicate (fn.ntmps-vals.toArray.size) undef,defers:=[] } w:=by
  refine⟨Gv hF,Grow.refl _ _,Hp.le.refl F,λk p q=>absurd p q,λid blk k hm ho=>.inr ⟨id,blk,hm,ho⟩,by simp;omega,rfl,λt=>?_⟩
  simp only[rE]
  by_cases ht:t<args.length
  .have h1:args[t]? = some args[t]:=kL ht
   have h2:vals[t]? = some (vals[t]'(by omega)):=kL (by omega)
   rw[gI,h1,Array.getD_eq_getD_getElem?,Array.getElem?_append_left (by simpa [hlen] using ht),List.getElem?_toArray,h2]
   exact hv.2 t _ _ h1 h2
  .rw[gI,List.getElem?_eq_none (by omega)]
   exact .junk
 refine wp_mono (h ⟨w,F,jv jM,fn.ntmps⟩ rfl F _ w hrun) λx a' w' ⟨F',s',hr,hq,o,p,b,cp,rs,h1,h2,h3,h4,h5⟩=>?_
 have ez:(rs.map Prod.fst).zip rows=rs:=by
  rw[<- h5,List.zip_map',List.map_id'']
  intro q;rfl
 have done:a'.defers=[]/\∃ v,(results fn a'.tmps).run P w' = .ok v w' /\ ∃ (v':Value) (F':Hp) (b c:Nat) (bs:List Nat),Ending.returned v=.returned v' /\ Ext F w F' w' /\ cZ F' v' (.bH 0 b n c)/\bs.length=rows.length/\wX F' w' (.Yw b c e e2 sz (bs.zip rows))/\∀ k,(iF.Yw b c e e2 sz (bs.zip rows)).owns k->w.heap.size<=k/\F' k=none:=by
  refine⟨hr.defers,a'.tmps.getD t undef,?_,a'.tmps.getD t undef,F',b,cp,rs.map Prod.fst,rfl,⟨hr.grow.mono λi x=>kY i x,hr.f0,hr.iq.uf,λk p q=>(hr.zo k p q).resolve_right (kY k)⟩,?_,by rw[<- h5];simp,?_,λk hk=>?_⟩
  .rw[yH,Sem.run_bind,Array.mapM_eq_mapM_toList,Sem.run_map,hres]
   simp[FD,List.mapM_cons,List.mapM_nil]
  .have hs:=hr.slots t
   rw[h1] at hs
   generalize a'.tmps.getD t undef=v at hs
   cases hs with
   | bH p q=>exact .bH p q
  .rw[ez]
   refine⟨hr.iq.own o _ h2,hr.iq.own p _ h3,λhc hk=>h4 (hr.iq.inj o p _ _ b h2 h3 ⟨hc,rfl⟩ hk)⟩
  .rw[ez] at hk
   rcases hk with hk|hk
   .exact⟨(hr.lS o _ k h2 hk).resolve_right (kY _),hr.iq.apart o _ k h2 hk⟩
   .exact⟨(hr.lS p _ k h3 hk).resolve_right (kY _),hr.iq.apart p _ k h3 hk⟩
 rcases hq with rfl|rfl
 .exact done
 .exact done
section
variable {P:Program}{m:Nat}{ops:Array Oper}{K:S->Prop}{r:List Oper}{s:S}{ty:TypeId}{pos:String}{after:Array Edge}
theorem over_self {M Mc:Mem}(hc:∀ id blk,Mc id=some blk->M id=some blk):M.over Mc Mc=M:=by
 funext id
 unfold Mem.over
 cases hq:Mc id with
 | none=>rfl
 | some b=>simp only[Option.isSome_some,if_true];rw[hc id b hq]
theorem ag0 {f:Operand}{args:Array Operand}{ats:Array TypeId}{mZ d:Nat}{caps qm:List V}{res:V}{Mc:Mem}(hf:s.ev f=.fn mZ caps)(ha:fH (args.toList.map s.ev++caps) qm)(hs:eF P mZ qm Mc res Mc)
  (hc:∀ id blk,Mc id=some blk->s.M id=some blk)
  (h:OL P 0 ops K r (s.put (some d) res)):OL P 0 ops K (⟨some d,.call { callee:=.value f,args:=args,argTypes:=ats },ty,pos,after,none⟩:: r) s:=by
 have h0:o5 P s.ev s.M (.call { callee:=.value f,args:=args,argTypes:=ats }) res (s.M.over Mc Mc):=.mk hf ha hc (λ_=>Iff.rfl) hs
 rw[over_self hc] at h0
 exact OL.rV h0 h
end
section
variable {P:Program}{ops:Array Oper}{K:S->Prop}{r:List Oper}{s:S}{ty:TypeId}{pos:String}{after:Array Edge}
theorem aL2 {t e sz dS d:Nat}{x:Operand}{y:D}(hT:bn P t e sz dS)(hx:VD (s.ev x) y)(hs:y.cells.length=sz)(QA:sz<=16777216)(hM:s.M d=none)
  (h:∀ b,OL P 0 ops K r ⟨upd s.ρ d (.bH d b 1 1),upd s.M d (some (.row b 1 e sz [y]))⟩):OL P 0 ops K (⟨some d,.buildSlice t 1 #[(0,x)],ty,pos,after,none⟩:: r) s :=
 OL.new (.lit (xs:=[y]) hT rfl rfl (by omega) (by omega) (λi p z hp hz=>by cases i <;> simp at hp hz;subst hp hz;exact hx) (λz hz=>by simp at hz;subst hz;exact hs)) hM rfl λb _=>h b
