/-
  AL, part 26: rows of rows: heads of rows as data, rows that are given to a pool and taken out of it, rows that become data within an outer row.
-/
import Derived.Test.YtnjoncgnjdkaoaaGreatDoorKAlg25
set_option linter.unusedVariables false
set_option linter.unusedSimpArgs false
namespace Go.AL
open Go Go.BigFrame
theorem XM {id b n c:Nat}(hc:0<c):VD (.bF id b n c) (OE b n c):=λF v h=>by
 cases h with
 | bF ha hn=>rw[ha hc];exact .sc rfl
theorem LQ (id:Nat){b n c:Nat}(hn:n<=c):bG (.d (OE b n c)) (.bF id b n c):=λF v h=>by
 cases h with
 | d h _=>cases h with|sc _=>exact .bF (λ_=>rfl) hn
section
variable {P:Program}{E:Env}{c:Code}{Q:Exit->S->Prop}{s:S}
theorem AW.V9 {M':Mem}(hok:∀ F w,wI F s.M w->∀ id blk,M' id=some blk->vg F w blk)
  (hinj:∀ F w,wI F s.M w->∀ i j bi bj k,M' i=some bi->M' j=some bj->bi.owns k->bj.owns k->i=j)
  (hsub:∀ id blk k,M' id=some blk->blk.owns k->∃ id' jE,s.M id' = some jE /\ jE.owns k) (h:AW P E c Q ⟨s.ρ,M'⟩):AW P E c Q s:=λF a w hr=>by
 refine h F a w ⟨⟨hr.gU.rM,hok F w hr.gU,λid blk k hm hk=>?_,hinj F w hr.gU⟩,hr.grow,hr.f0,hr.yc,λid blk k hm hk=>?_,hr.size,hr.defers,hr.slots⟩
 .obtain⟨id',jE,h1,h2⟩:=hsub id blk k hm hk
  exact hr.gU.apart id' jE k h1 h2
 .obtain⟨id',jE,h1,h2⟩:=hsub id blk k hm hk
  exact hr.kM id' jE k h1 h2
theorem owL {k e sz:Nat}{rs:List (Nat × List D)}(h:s.M k=some (.pool e sz rs)):s.M k=some (.pool e sz rs):=h
theorem owT {k b cc e e2 sz:Nat}{rs:List (Nat × List D)}(h:s.M k=some (.YK b cc e e2 sz rs)):s.M k=some (.YK b cc e e2 sz rs):=h
theorem AW.aJ9 (p e sz:Nat)(hM:s.M p=none)(h:AW P E c Q ⟨s.ρ,upd s.M p (some (.pool e sz []))⟩):AW P E c Q s:=by
 have part:∀ id blk,upd s.M p (some (.pool e sz [])) id=some blk->(id=p/\blk=.pool e sz []) \/ s.M id=some blk:=λid blk hm=>by
  unfold upd at hm
  split at hm
  .rename_i e;cases hm;exact .inl ⟨e,rfl⟩
  .exact .inr hm
 have no:∀ k,¬ (iE.pool e sz []).owns k:=λk ⟨q,hq,_⟩=>by simp at hq
 refine AW.V9 (λF w hS id blk hm=>?_) (λF w hS i j bi bj k hi hj ki kj=>?_) (λid blk k hm hk=>?_) h
 .rcases part id blk hm with ⟨_,rfl⟩|h
  .exact⟨λi j a b h=>by simp at h,λq hq=>by simp at hq⟩
  .exact hS.own id blk h
 .rcases part i bi hi with ⟨_,rfl⟩|h1
  .exact absurd ki (no k)
  .rcases part j bj hj with ⟨_,rfl⟩|h2
   .exact absurd kj (no k)
   .exact hS.inj i j bi bj k h1 h2 ki kj
 .rcases part id blk hm with ⟨_,rfl⟩|h
  .exact absurd hk (no k)
  .exact⟨id,blk,h,hk⟩
theorem AW.give (x p i:Nat){b n e sz:Nat}{es:List D}{rs Vr:List (Nat × List D)}(hx:s.M x=some (.row b n e sz es))(hp:s.M p=some (.pool e sz rs))(hn:n=es.length)
  (hlen:i<Vr.length) (hi:Vr[i]? = some (b,es)) (hrs:∀ j q,j≠i->Vr[j]? = some q->rs[j]? = some q) (h:AW P E c Q ⟨s.ρ,upd (upd s.M x none) p (some (.pool e sz Vr))⟩):AW P E c Q s:=by
 subst hn
 have hxp:x≠p:=λe=>by rw[e,hp] at hx;cases hx
 have part:∀ id blk,upd (upd s.M x none) p (some (.pool e sz Vr)) id=some blk->(id=p/\blk=.pool e sz Vr) \/ (id≠p/\id≠x/\s.M id=some blk):=λid blk hm=>by
  unfold upd at hm
  split at hm
  .rename_i e;cases hm;exact .inl ⟨e,rfl⟩
  .split at hm
   .cases hm
   .rename_i h1 h2;exact .inr ⟨h1,h2,hm⟩
 have Oz:∀ k,lC Vr k->(0<es.length/\k=b) \/ lC rs k:=λk ⟨q,hq,h0,hk⟩=>by
  obtain⟨j,hj⟩:=List.mem_iff_getElem?.1 hq
  by_cases e:j=i
  .subst e;rw[hi] at hj;cases hj;exact .inl ⟨h0,hk⟩
  .exact .inr ⟨q,List.mem_of_getElem? (hrs j q e hj),h0,hk⟩
 refine AW.V9 (λF w hS id blk hm=>?_) (λF w hS u v bu bv k hu hv ku kv=>?_) (λid blk k hm hk=>?_) h
 .rcases part id blk hm with ⟨_,rfl⟩|⟨_,_,h⟩
  .have o1:=hS.own x _ hx
   have o2:=hS.own p _ hp
   refine⟨λu v q r hu hv q0 r0 hqr=>?_,λq hq=>?_⟩
   .by_cases e1:u=i
    .by_cases e2:v=i
     .rw[e1,e2]
     .exfalso
      subst e1
      rw[hi] at hu;cases hu
      exact hxp (hS.inj x p _ _ b hx hp ⟨q0,rfl⟩ ⟨r,List.mem_of_getElem? (hrs v r e2 hv),r0,hqr⟩)
    .by_cases e2:v=i
     .exfalso
      subst e2
      rw[hi] at hv;cases hv
      exact hxp (hS.inj x p _ _ b hx hp ⟨r0,rfl⟩ ⟨q,List.mem_of_getElem? (hrs u q e1 hu),q0,hqr.symm⟩)
     .exact o2.1 u v q r (hrs u q e1 hu) (hrs v r e2 hv) q0 r0 hqr
   .obtain⟨j,hj⟩:=List.mem_iff_getElem?.1 hq
    by_cases e1:j=i
    .subst e1;rw[hi] at hj;cases hj;exact o1
    .exact o2.2 q (List.mem_of_getElem? (hrs j q e1 hj))
  .exact hS.own id blk h
 .rcases part u bu hu with ⟨eu,rfl⟩|⟨nu,nx,h1⟩ <;> rcases part v bv hv with ⟨ev,rfl⟩|⟨nv,nx2,h2⟩
  .rw[eu,ev]
  .exfalso
   rcases Oz k ku with ⟨h0,hk⟩|hk
   .exact nx2 (hS.inj v x _ _ k h2 hx kv ⟨h0,hk⟩)
   .exact nv (hS.inj v p _ _ k h2 hp kv hk)
  .exfalso
   rcases Oz k kv with ⟨h0,hk⟩|hk
   .exact nx (hS.inj u x _ _ k h1 hx ku ⟨h0,hk⟩)
   .exact nu (hS.inj u p _ _ k h1 hp ku hk)
  .exact hS.inj u v bu bv k h1 h2 ku kv
 .rcases part id blk hm with ⟨_,rfl⟩|⟨_,_,h⟩
  .rcases Oz k hk with h1|h1
   .exact⟨x,_,hx,h1⟩
   .exact⟨p,_,hp,h1⟩
  .exact⟨id,blk,h,hk⟩
theorem AW.take (x p i:Nat){b e sz:Nat}{es:List D}{rs:List (Nat × List D)}(hx:s.M x=none)(hp:s.M p=some (.pool e sz rs))(hi:rs[i]? = some (b,es))
  (h:AW P E c Q ⟨s.ρ,upd (upd s.M p (some (.pool e sz (rs.set i (b,[]))))) x (some (.row b es.length e sz es))⟩):AW P E c Q s:=by
 have hxp:x≠p:=λe=>by rw[e,hp] at hx;cases hx
 have hil:i<rs.length:=(List.getElem?_eq_some_iff.1 hi).1
 have part:∀ id blk,upd (upd s.M p (some (.pool e sz (rs.set i (b,[]))))) x (some (.row b es.length e sz es)) id=some blk->(id=x/\blk=.row b es.length e sz es) \/ (id=p/\blk=.pool e sz (rs.set i (b,[]))) \/ (id≠p/\id≠x/\s.M id=some blk):=λid blk hm=>by
  unfold upd at hm
  split at hm
  .rename_i e;cases hm;exact .inl ⟨e,rfl⟩
  .split at hm
   .rename_i e;cases hm;exact .inr (.inl ⟨e,rfl⟩)
   .rename_i h1 h2;exact .inr (.inr ⟨h2,h1,hm⟩)
 have get:∀ j q,(rs.set i (b,[]))[j]? = some q->0<q.2.length->j≠i/\rs[j]? = some q:=λj q hj h0=>by
  rw[List.getElem?_set] at hj
  split at hj
  .cases hj;exact absurd h0 (by simp)
  .rename_i e;exact⟨Ne.symm e,hj⟩
 have Oz:∀ k,lC (rs.set i (b,[])) k->∃ j q,j≠i/\rs[j]? = some q/\0<q.2.length/\k=q.1:=λk ⟨q,hq,h0,hk⟩=>by
  obtain⟨j,hj⟩:=List.mem_iff_getElem?.1 hq
  obtain⟨e,h1⟩:=get j q hj h0
  exact⟨j,q,e,h1,h0,hk⟩
 have up:∀ k,lC (rs.set i (b,[])) k->lC rs k:=λk hk=>by
  obtain⟨j,q,_,h1,h0,e⟩:=Oz k hk
  exact⟨q,List.mem_of_getElem? h1,h0,e⟩
 have upx:∀ k,(iE.row b es.length e sz es).owns k->lC rs k:=λk ⟨h0,hk⟩=>⟨_,List.mem_of_getElem? hi,h0,hk⟩
 refine AW.V9 (λF w hS id blk hm=>?_) (λF w hS u v bu bv k hu hv ku kv=>?_) (λid blk k hm hk=>?_) h
 .have o2:=hS.own p _ hp
  rcases part id blk hm with ⟨_,rfl⟩|⟨_,rfl⟩|⟨_,_,h⟩
  .exact o2.2 _ (List.mem_of_getElem? hi)
  .refine⟨λu v q r hu hv q0 r0 hqr=>o2.1 u v q r (get u q hu q0).2 (get v r hv r0).2 q0 r0 hqr,λq hq=>?_⟩
   obtain⟨j,hj⟩:=List.mem_iff_getElem?.1 hq
   rw[List.getElem?_set] at hj
   split at hj
   .cases hj;exact⟨by simp,by simp,λh0=>absurd h0 (by simp)⟩
   .exact o2.2 q (List.mem_of_getElem? hj)
  .exact hS.own id blk h
 .have o2:=hS.own p _ hp
  have xp:∀ k,(iE.row b es.length e sz es).owns k->lC (rs.set i (b,[])) k->False:=λk ⟨h0,hk⟩ hk2=>by
   obtain⟨j,q,ne,h1,h2,h3⟩:=Oz k hk2
   exact ne (o2.1 j i q (b,es) h1 hi h2 h0 (by rw[<- h3,hk]))
  rcases part u bu hu with ⟨eu,rfl⟩|⟨eu,rfl⟩|⟨nu,nx,h1⟩ <;> rcases part v bv hv with ⟨ev,rfl⟩|⟨ev,rfl⟩|⟨nv,nx2,h2⟩
  .rw[eu,ev]
  .exact (xp k ku kv).elim
  .exact absurd (hS.inj v p _ _ k h2 hp kv (upx k ku)) nv
  .exact (xp k kv ku).elim
  .rw[eu,ev]
  .exact absurd (hS.inj v p _ _ k h2 hp kv (up k ku)) nv
  .exact absurd (hS.inj u p _ _ k h1 hp ku (upx k kv)) nu
  .exact absurd (hS.inj u p _ _ k h1 hp ku (up k kv)) nu
  .exact hS.inj u v bu bv k h1 h2 ku kv
 .rcases part id blk hm with ⟨_,rfl⟩|⟨_,rfl⟩|⟨_,_,h⟩
  .exact⟨p,_,hp,upx k hk⟩
  .exact⟨p,_,hp,up k hk⟩
  .exact⟨id,blk,h,hk⟩
theorem ag7 {b n:Nat}{es:List D}(h:es.length=n):RY (b,es)=OE b n n:=by subst h;rfl
theorem AW.takeN (x p i n:Nat){b e sz:Nat}{es:List D}{rs:List (Nat × List D)}(hx:s.M x=none)(hp:s.M p=some (.pool e sz rs))(hi:rs[i]? = some (b,es))(hn:es.length=n)
  (h:AW P E c Q ⟨s.ρ,upd (upd s.M p (some (.pool e sz (rs.set i (b,[]))))) x (some (.row b n e sz es))⟩):AW P E c Q s:=by subst hn;exact AW.take x p i hx hp hi h
theorem AW.back (x p i:Nat){b n e sz:Nat}{es:List D}{rs Vr:List (Nat × List D)}(rs0:List (Nat × List D))(hx:s.M x=some (.row b n e sz es))(hp:s.M p=some (.pool e sz rs))(hrs:rs=rs0.set i (b,[]))(hi:i<rs0.length)(hn:n=es.length)(h2:Vr=rs0.set i (b,es))
  (h:AW P E c Q ⟨s.ρ,upd (upd s.M x none) p (some (.pool e sz Vr))⟩):AW P E c Q s:=by
 subst hrs
 subst h2
 refine AW.give x p i hx hp hn (by rw[List.length_set];exact hi) (by rw[List.getElem?_set_self hi]) (λj q hj hq=>?_) h
 rw[List.getElem?_set_ne (Ne.symm hj)] at hq ⊢
 exact hq
theorem AW.XO (x p:Nat){b n e sz:Nat}{es:List D}{rs:List (Nat × List D)}(hx:s.M x=some (.row b n e sz es))(hp:s.M p=some (.pool e sz rs))(hn:n=es.length)
  (h:AW P E c Q ⟨s.ρ,upd (upd s.M x none) p (some (.pool e sz (rs++[(b,es)])))⟩):AW P E c Q s:=by
 refine AW.give x p rs.length hx hp hn (by simp) (by simp) (λj q hj hq=>?_) h
 have hl:j<rs.length:=by
  have:=(List.getElem?_eq_some_iff.1 hq).1
  simp at this
  omega
 rwa [List.getElem?_append_left hl] at hq
end
section
variable {F:Hp}{w:World}{M:Mem}
theorem a02 {es:List D}(h:∀ x,x ∈ es->x.cells.length=1){i:Nat}{d:D}(hd:(es.flatMap D.cells)[i]? = some d):∃ x,es[i]? = some x/\x.cells[0]? = some d:=by
 have hl:i<es.length:=by
  have h1:=(List.getElem?_eq_some_iff.1 hd).1
  rw[flat_length h,Nat.mul_one] at h1
  exact h1
 have hx:es[i]? = some es[i]:=lu hl
 have h2:=flat_get h hx 0 (by decide)
 rw[Nat.mul_one,Nat.add_zero] at h2
 exact⟨_,hx,by rw[<- h2];exact hd⟩
theorem lX.read {b c e:Nat}{es es2:List D}(h:lX F w b c e 1 es)(hl:es2.length=es.length)(h1:∀ x,x ∈ es2->x.cells.length=1)
  (hr:∀ (i:Nat) (x y:D) (u:Value),es[i]? = some x->es2[i]? = some y->(∀ d:D,x.cells[0]? = some d->Rep F u d)->∀ d:D,y.cells[0]? = some d->Rep F u d):lX F w b c e 1 es2:=by
 obtain⟨g0,g1,g2⟩:=h
 refine⟨by omega,h1,λhc=>?_⟩
 obtain⟨cs,k1,k2,k3,k4⟩:=g2 hc
 refine⟨cs,k1,k2,k3,λi d u hd hu=>?_⟩
 obtain⟨y,hy,hyd⟩:=a02 h1 hd
 have hil:i<es.length:=by have:=(List.getElem?_eq_some_iff.1 hy).1;omega
 have hx:es[i]? = some es[i]:=lu hil
 refine hr i _ y u hx hy (λd' hd'=>k4 i d' u ?_ hu) d hyd
 have h2:=flat_get g1 hx 0 (by decide)
 rw[Nat.mul_one,Nat.add_zero] at h2
 rw[h2];exact hd'
end
open Classical in
noncomputable def Gl (F:Hp)(rs:List (Nat × List D))(w:World):Hp:=λk=>if lC rs k then w.heap[k]? else F k
theorem Ed {F:Hp}{M:Mem}{w:World}(h:wI F M w){p e sz:Nat}{rs:List (Nat × List D)}(hp:M p=some (.pool e sz rs)) :
  ∃ F',Hp.le F F' /\ wI F' (upd M p none) w/\(∀ k,F k=none->F' k≠none->jM M k)/\∀ q,q ∈ rs->Rep F' (.slice (some ⟨q.1,0,none⟩) q.2.length q.2.length) (.sl q.2):=by
 have hle:Hp.le F (Gl F rs w):=λk o hk=>by
  unfold Gl
  split
  .exact h.rM k o hk
  .exact hk
 have hin:∀ id' jE,(upd M p none) id' = some jE -> id' ≠ p/\M id' = some jE:=λid' jE hm=>by
  unfold upd at hm
  split at hm
  .cases hm
  .rename_i hne;exact⟨hne,hm⟩
 have hown:=h.own p _ hp
 refine⟨Gl F rs w,hle,⟨λk o hk=>?_,λid blk hm=>(h.own id blk (hin id blk hm).2).keep hle λ_ _=>rfl,λid blk k hm hk=>?_,λi j bi bj k hi hj ki kj=>h.inj i j bi bj k (hin i bi hi).2 (hin j bj hj).2 ki kj⟩,λk hk hn=>?_,λq hq=>?_⟩
 .unfold Gl at hk
  split at hk
  .exact hk
  .exact h.rM k o hk
 .obtain⟨hne,hm⟩:=hin id blk hm
  unfold Gl
  split
  .rename_i ho
   exact absurd (h.inj id p _ _ k hm hp hk ho) hne
  .exact h.apart id blk k hm hk
 .unfold Gl at hn
  split at hn
  .rename_i ho;exact⟨p,_,hp,ho⟩
  .exact absurd hk hn
 .obtain⟨g0,g1,g2⟩:=hown.2 q hq
  rcases Nat.eq_zero_or_pos q.2.length with h0|h0
  .rw[h0,IK h0];exact Rep.nil_
  .obtain⟨cs,k1,k2,k3,k4⟩:=g2 h0
   refine Rep.row (cs:=cs) (t:=e) (fr:=(0,0)) (sz:=sz) (by unfold Gl;rw[if_pos ⟨q,hq,h0,rfl⟩];exact k1) rfl (Nat.le_refl _) g1 (by omega) k3 λi d u hd hu=>(k4 i d u hd hu).mono hle
theorem lX.heads {F:Hp}{w:World}{b c e:Nat}{rs:List (Nat × List D)}(h:lX F w b c e 1 (rs.map RY))(hr:∀ q,q ∈ rs->Rep F (.slice (some ⟨q.1,0,none⟩) q.2.length q.2.length) (.sl q.2)):lX F w b c e 1 (rs.map λq=>.sl q.2):=by
 refine h.read (by simp) (λx hx=>by obtain⟨q,_,rfl⟩:=mM hx;rfl) λi x y u hx hy hu d hd=>?_
 rw[List.getElem?_map] at hx hy
 cases hq:rs[i]? with
 | none=>rw[hq] at hx;cases hx
 | some q =>
  rw[hq] at hx hy
  cases hx;cases hy;cases hd
  have hu2:=hu _ rfl
  cases hu2 with
  | sc _=>exact hr q (List.mem_of_getElem? hq)
section
variable {P:Program}{E:Env}{k:Code}{Q:Exit->S->Prop}{s:S}
theorem AW.Wh (o p:Nat){b c e e2 sz:Nat}{rs:List (Nat × List D)}(hO:s.M o=some (.row b c e 1 (rs.map RY)))(hp:s.M p=some (.pool e2 sz rs))(hne:o≠p)
  (h:AW P E k Q ⟨s.ρ,upd (upd s.M p none) o (some (.row b c e 1 (rs.map λq=>.sl q.2)))⟩):AW P E k Q s:=λF a w hr=>by
 obtain⟨F',h1,h2,h3,h4⟩:=Ed hr.gU hp
 refine h F' a w ?_
 have hO':(upd s.M p none) o=some (.row b c e 1 (rs.map RY)):=by rw[upd_ne _ _ hne];exact hO
 have any:∀ j blk,upd (upd s.M p none) o (some (.row b c e 1 (rs.map λq=>.sl q.2))) j=some blk->vg F' w blk/\∃ bl,(upd s.M p none) j=some bl/\∀ k,blk.owns k->bl.owns k:=λj blk hj=>by
  unfold upd at hj
  split at hj
  .rename_i e;subst e;cases hj
   have ok:lX F' w b c e 1 (rs.map RY):=h2.own _ _ hO'
   exact⟨ok.heads h4,_,hO',λk hk=>hk⟩
  .have hj:(upd s.M p none) j=some blk:=hj
   exact⟨h2.own j blk hj,blk,hj,λk hk=>hk⟩
 have sub:∀ j bl,(upd s.M p none) j=some bl->s.M j=some bl:=λj bl hj=>by
  unfold upd at hj
  split at hj
  .cases hj
  .exact hj
 refine⟨⟨h2.rM,λj blk hj=>(any j blk hj).1,λj blk k hj ho=>?_,λi j bi bj k hi hj hoi hoj=>?_⟩,hr.grow,hr.f0.trans h1,λk p q=>?_,λj blk k hj ho=>?_,hr.size,hr.defers,λt=>(hr.slots t).mono h1⟩
 .obtain⟨bl,hb,hk⟩:=(any j blk hj).2
  exact h2.apart j bl k hb (hk k ho)
 .obtain⟨b1,hb1,k1⟩:=(any i bi hi).2
  obtain⟨b2,hb2,k2⟩:=(any j bj hj).2
  exact h2.inj i j b1 b2 k hb1 hb2 (k1 k hoi) (k2 k hoj)
 .cases hf:F k with
  | none =>
   obtain⟨i,bl,hi,ho⟩:=h3 k hf q
   exact hr.kM i bl k hi ho
  | some o=>exact hr.yc k p (by rw[hf];simp)
 .obtain⟨bl,hb,hk⟩:=(any j blk hj).2
  exact hr.kM j bl k (sub j bl hb) (hk k ho)
end
def az4 (b c e e2 sz:Nat)(rs:List (Nat × List D)):Mem:=λj=>if j=0 then some (.row b c e 1 (rs.map RY)) else if j=1 then some (.pool e2 sz rs) else none
theorem Ee {b c e e2 sz:Nat}{rs:List (Nat × List D)}{j:Nat}{blk:iE}(h:az4 b c e e2 sz rs j=some blk):(j=0/\blk=.row b c e 1 (rs.map RY)) \/ (j=1/\blk=.pool e2 sz rs):=by
 unfold az4 at h
 split at h
 .rename_i e;cases h;exact .inl ⟨e,rfl⟩
 .split at h
  .rename_i e;cases h;exact .inr ⟨e,rfl⟩
  .cases h
theorem Tz {bs:List Nat}{rows:List (List D)}(h:bs.length=rows.length):(bs.zip rows).map Prod.snd=rows:=by
 rw[List.map_snd_zip];omega
theorem KW.data {P:Program}{f n e e2 sz:Nat}{args:List V}{rows:List (List D)}(h:KW P f args n e e2 sz rows)(hn:n=rows.length):aj P f args (.d (.sl (rows.map .sl))) :=
 ⟨h.1,λF w vals hF hv=>(h.2 F w vals hF hv).mono λx w' ⟨v,F',b,c,bs,he,hx,hv,hl,hok,hfr⟩=>by
  have hS:wI F' (az4 b c e e2 sz (bs.zip rows)) w':=by
   refine⟨hx.rM,λj blk hj=>?_,λj blk k hj hk=>?_,λi j bi bj k hi hj ki kj=>?_⟩
   .rcases Ee hj with ⟨_,rfl⟩|⟨_,rfl⟩
    .exact hok.1
    .exact hok.2.1
   .rcases Ee hj with ⟨_,rfl⟩|⟨_,rfl⟩
    .exact (hfr k (.inl hk)).2
    .exact (hfr k (.inr hk)).2
   .rcases Ee hi with ⟨ei,rfl⟩|⟨ei,rfl⟩ <;> rcases Ee hj with ⟨ej,rfl⟩|⟨ej,rfl⟩
    .rw[ei,ej]
    .obtain⟨k1,k2⟩:=ki;subst k2;exact absurd kj (hok.2.2 k1)
    .obtain⟨k1,k2⟩:=kj;subst k2;exact absurd ki (hok.2.2 k1)
    .rw[ei,ej]
  obtain⟨F1,a1,a2,a3,a4⟩:=Ed (p:=1) hS rfl
  have r1:lX F1 w' b c e 1 (((bs.zip rows)).map λq=>.sl q.2):=lX.heads (a2.own 0 _ rfl) a4
  have hS2:wI F1 (λj=>if j=0 then some (.row b c e 1 (((bs.zip rows)).map λq=>.sl q.2)) else none) w':=by
   have key:∀ j blk,(λj=>if j=0 then some (iE.row b c e 1 (((bs.zip rows)).map λq=>.sl q.2)) else none) j=some blk->j=0/\blk=.row b c e 1 (((bs.zip rows)).map λq=>.sl q.2):=λj blk hj=>by
    simp only at hj
    split at hj
    .rename_i e;cases hj;exact⟨e,rfl⟩
    .cases hj
   refine⟨a2.rM,λj blk hj=>?_,λj blk k hj hk=>?_,λi j bi bj k hi hj ki kj=>?_⟩
   .obtain⟨_,rfl⟩:=key j blk hj;exact r1
   .obtain⟨_,rfl⟩:=key j blk hj;exact a2.apart 0 _ k rfl hk
   .rw[(key i bi hi).1,(key j bj hj).1]
  obtain⟨F2,b1,b2,b3,b4⟩:=wK (id:=0) hS2 rfl
  have hlen:(((bs.zip rows)).map λq:Nat × List D=>D.sl q.2).length=n:=by rw[dJ,List.length_zip,hl,Nat.min_self,hn]
  have hmap:((bs.zip rows)).map (λq:Nat × List D=>D.sl q.2)=rows.map .sl:=by
   rw[show (λq:Nat × List D=>D.sl q.2)=D.sl ∘ Prod.snd from rfl,<- List.map_map,Tz hl]
  have owned:∀ k,jM (az4 b c e e2 sz (bs.zip rows)) k->w.heap.size<=k:=λk ⟨j,blk,hj,hk⟩=>by
   rcases Ee hj with ⟨_,rfl⟩|⟨_,rfl⟩
   .exact (hfr k (.inl hk)).1
   .exact (hfr k (.inr hk)).1
  refine⟨v,F2,he,⟨hx.grow,(hx.le.trans a1).trans b1,b2.rM,λk p q=>?_⟩,?_⟩
  .cases hf1:F1 k with
   | none =>
    obtain⟨j,blk,hj,hk⟩:=b3 k hf1 q
    simp only at hj
    split at hj
    .cases hj;exact (hfr k (.inl hk)).1
    .cases hj
   | some o1 =>
    cases hf2:F' k with
    | none=>exact owned k (a3 k hf2 (by rw[hf1];simp))
    | some o2=>exact hx.new k p (by rw[hf2];simp)
  .have h1:=b4 v n (hv.mono a1) (by omega)
   rw[<- hlen,List.take_length,hmap] at h1
   cases hv
   exact .d h1 rfl⟩
theorem KW.intro {P:Program} {f:Nat} {fn:Func} {c:Code} {args:List V} {n e e2 sz:Nat} {rows:List (List D)} (hf:P.funcs[f]? = some fn) (hname:(fn.name == "runtime.NumGoroutine")=false) (hb:fn.body=some c) (hn:args.length<=fn.ntmps) (t:Nat) (hres:fn.results.toList=[.tmp t])
  (h:∀ E:Env,E.n=fn.ntmps->AW P E c (λx s=>(x=.normal \/ x=.ret)/\∃ o p b cp rs,s.ρ t=.bF o b n cp/\s.M o=some (.row b cp e 1 (rs.map RY))/\s.M p=some (.pool e2 sz rs)/\o≠p/\rs.map Prod.snd=rows) ⟨sW args,jO⟩):KW P f args n e e2 sz rows:=by
 refine⟨by simp[pX,hf,hname,hb],λF w vals hF hv=>calls_of_wp hf hb ?_⟩
 have hlen:vals.length=args.length:=hv.1
 have hrun:Run ⟨w,F,jM jO,fn.ntmps⟩ F ⟨sW args,jO⟩ { tmps:=vals.toArray++Array.replicate (fn.ntmps-vals.toArray.size) undef,defers:=[] } w:=by
  refine⟨DZ hF,Grow.refl _ _,Hp.le.refl F,λk p q=>absurd p q,λid blk k hm ho=>.inr ⟨id,blk,hm,ho⟩,by simp;omega,rfl,λt=>?_⟩
  simp only[sW]
  by_cases ht:t<args.length
  .have h1:args[t]? = some args[t]:=lu ht
   have h2:vals[t]? = some (vals[t]'(by omega)):=lu (by omega)
   rw[ig,h1,Array.getD_eq_getD_getElem?,Array.getElem?_append_left (by simpa [hlen] using ht),List.getElem?_toArray,h2]
   exact hv.2 t _ _ h1 h2
  .rw[ig,List.getElem?_eq_none (by omega)]
   exact .junk
 refine wp_mono (h ⟨w,F,jM jO,fn.ntmps⟩ rfl F _ w hrun) λx a' w' ⟨F',s',hr,hq,o,p,b,cp,rs,h1,h2,h3,h4,h5⟩=>?_
 have ez:(rs.map Prod.fst).zip rows=rs:=by
  rw[<- h5,List.zip_map',List.map_id'']
  intro q;rfl
 have done:a'.defers=[]/\∃ v,(results fn a'.tmps).run P w' = .ok v w' /\ ∃ (v':Value) (F':Hp) (b c:Nat) (bs:List Nat),Ending.returned v=.returned v' /\ Ext F w F' w' /\ dm F' v' (.bF 0 b n c)/\bs.length=rows.length/\vg F' w' (.YK b c e e2 sz (bs.zip rows))/\∀ k,(iE.YK b c e e2 sz (bs.zip rows)).owns k->w.heap.size<=k/\F' k=none:=by
  refine⟨hr.defers,a'.tmps.getD t undef,?_,a'.tmps.getD t undef,F',b,cp,rs.map Prod.fst,rfl,⟨hr.grow.mono λi x=>kH i x,hr.f0,hr.gU.rM,λk p q=>(hr.yc k p q).resolve_right (kH k)⟩,?_,by rw[<- h5];simp,?_,λk hk=>?_⟩
  .rw[yU,Sem.run_bind,Array.mapM_eq_mapM_toList,Sem.run_map,hres]
   simp[FQ,List.mapM_cons,List.mapM_nil]
  .have hs:=hr.slots t
   rw[h1] at hs
   generalize a'.tmps.getD t undef=v at hs
   cases hs with
   | bF p q=>exact .bF p q
  .rw[ez]
   refine⟨hr.gU.own o _ h2,hr.gU.own p _ h3,λhc hk=>h4 (hr.gU.inj o p _ _ b h2 h3 ⟨hc,rfl⟩ hk)⟩
  .rw[ez] at hk
   rcases hk with hk|hk
   .exact⟨(hr.kM o _ k h2 hk).resolve_right (kH _),hr.gU.apart o _ k h2 hk⟩
   .exact⟨(hr.kM p _ k h3 hk).resolve_right (kH _),hr.gU.apart p _ k h3 hk⟩
 rcases hq with rfl|rfl
 .exact done
 .exact done
section
variable {P:Program}{m:Nat}{ops:Array Oper}{K:S->Prop}{r:List Oper}{s:S}{ty:TypeId}{pos:String}{after:Array Edge}
theorem over_self {M Mc:Mem}(hc:∀ id blk,Mc id=some blk->M id=some blk):M.over Mc Mc=M:=by
 funext id
 unfold Mem.over
 cases hq:Mc id with
 | none=>rfl
 | some b=>simp only[Option.isSome_some,if_true];rw[hc id b hq]
theorem az5 {f:Operand}{args:Array Operand}{ats:Array TypeId}{nR d:Nat}{caps pR:List V}{res:V}{Mc:Mem}(hf:s.ev f=.fn nR caps)(ha:fH (args.toList.map s.ev++caps) pR)(hs:eX P nR pR Mc res Mc)
  (hc:∀ id blk,Mc id=some blk->s.M id=some blk)
  (h:OL P 0 ops K r (s.put (some d) res)):OL P 0 ops K (⟨some d,.call { callee:=.value f,args:=args,argTypes:=ats },ty,pos,after,none⟩:: r) s:=by
 have h0:qx P s.ev s.M (.call { callee:=.value f,args:=args,argTypes:=ats }) res (s.M.over Mc Mc):=.mk hf ha hc (λ_=>Iff.rfl) hs
 rw[over_self hc] at h0
 exact OL.tH h0 h
theorem aO7 {t a04:Nat}{x:Operand}{v v2:V}(hl:uP P s.ev s.M m (.load t x) v)(h2:bG v v2)(h:OL P m ops K r (s.put (some a04) v2)):OL P m ops K (⟨some a04,.load t x,ty,pos,after,none⟩:: r) s:=OL.load (.le hl h2) h
end
section
variable {P:Program}{ops:Array Oper}{K:S->Prop}{r:List Oper}{s:S}{ty:TypeId}{pos:String}{after:Array Edge}
theorem aO8 {t e sz eF d:Nat}{x:Operand}{y:D}(hT:bD P t e sz eF)(hx:VD (s.ev x) y)(hs:y.cells.length=sz)(QG:sz<=16777216)(hM:s.M d=none)
  (h:∀ b,OL P 0 ops K r ⟨upd s.ρ d (.bF d b 1 1),upd s.M d (some (.row b 1 e sz [y]))⟩):OL P 0 ops K (⟨some d,.buildSlice t 1 #[(0,x)],ty,pos,after,none⟩:: r) s :=
 OL.new (.lit (xs:=[y]) hT rfl rfl (by omega) (by omega) (λi p z hp hz=>by cases i <;> simp at hp hz;subst hp hz;exact hx) (λz hz=>by simp at hz;subst hz;exact hs)) hM rfl λb _=>h b
end
section
variable {P:Program}{m:Nat}{ops:Array Oper}{K:S->Prop}{r:List Oper}{s:S}{ty:TypeId}{pos:String}{after:Array Edge}
theorem a05 {α:Type}{t e sz eF n cp d:Nat}{x y:Operand}{k k2:IntKind}(f:α->D)(d0:α){zs:List V}(hT:bD P t e sz eF)(hz:eU P e zs)(hc:VCs zs (f d0).cells)(hx:s.ev x=.d (.sc (.int k (n:Int))))(hy:s.ev y=.d (.sc (.int k2 (cp:Int))))
  (hn:n<=cp) (hb:eF*cp<=281474976710656) (hm:cp<=9223372036854775807) (hM:s.M d=none) (hnm:GX m ⟨some d,.makeSlice t x y,ty,pos,after,none⟩ = true)
  (h:∀ b,OL P m ops K r ⟨upd s.ρ d (.bF d b n cp),upd s.M d (some (.row b cp e sz ((List.replicate n d0).map f)))⟩):OL P m ops K (⟨some d,.makeSlice t x y,ty,pos,after,none⟩:: r) s :=
 OL.bk5 (.make hx hy hT hz hc hn hb hm) hM hnm λb _=>by
  show OL P m ops K r ⟨upd s.ρ d (.bF d b n cp),upd s.M d (some (.row b cp e sz (List.replicate n (f d0))))⟩
  rw[<- List.map_replicate]
  exact h b
