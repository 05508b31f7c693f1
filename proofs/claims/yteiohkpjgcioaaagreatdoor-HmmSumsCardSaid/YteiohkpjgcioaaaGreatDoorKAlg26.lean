/-
  AL, part 26: rows of rows: heads of rows as data, rows that are given to a pool and taken out of it, rows that become data within an outer row.
-/
import Derived.Test.YteiohkpjgcioaaaGreatDoorKAlgd
import Derived.Test.YteiohkpjgcioaaaGreatDoorKNumb
set_option linter.unusedVariables false
set_option linter.unusedSimpArgs false
namespace Go.AL
open Go Go.BigFrame
theorem mem1_get {i:Nat}{blk b:Blk}{id:Nat}(h:mem1 i blk id=some b):id=i∧b=blk:=by
 unfold mem1 at h
 split at h
 ·rename_i e;exact ⟨e,by cases h;rfl⟩
 ·cases h
theorem mem1_self (i:Nat)(blk:Blk):mem1 i blk i=some blk:=by unfold mem1;rw [if_pos rfl]
theorem Sim.ren1 {F:Hp}{i j:Nat}{blk:Blk}{w:World}(h:Sim F (mem1 j blk) w):Sim F (mem1 i blk) w :=
 ⟨h.imm,fun id b hb=>by obtain ⟨_,rfl⟩:=mem1_get hb;exact h.own j _ (mem1_self _ _),fun id b k hb hk=>by obtain ⟨_,rfl⟩:=mem1_get hb;exact h.apart j _ k (mem1_self _ _) hk,
  fun a b ba bb k ha hb _ _=>by rw [(mem1_get ha).1,(mem1_get hb).1]⟩
theorem Owned.ren1 {i j:Nat}{blk:Blk}{k:Nat}(h:Owned (mem1 j blk) k):Owned (mem1 i blk) k:=by
 obtain ⟨id,b,hb,hk⟩:=h
 obtain ⟨_,rfl⟩:=mem1_get hb
 exact ⟨i,_,mem1_self _ _,hk⟩
theorem FSpecM.ren1 {P:Program}{f i j:Nat}{args args2:List V}{blk blk':Blk}{res:V}(h:FSpecM P f args (mem1 i blk) res (mem1 i blk'))(ha:VLes args2 args):FSpecM P f args2 (mem1 j blk) res (mem1 j blk') :=
 ⟨h.1,fun F w vals hS hv=>(h.2 F w vals hS.ren1 (simVs_le hv ha)).mono fun e w' ⟨v,F',he,hA,hs⟩ =>
  ⟨v,F',he,⟨hA.grow.mono fun k hk=>hk.ren1,hA.le,hA.sim.ren1,fun k a b=>(hA.new k a b).imp (fun x=>x) Owned.ren1,fun k hk=>(hA.mnew k hk.ren1).imp (fun x=>x) Owned.ren1⟩,hs⟩⟩
def V.frb (id b:Nat)(ds:List D):V→V
 | .ptr i b2 off=>if i=id then (if b2=b then .ref (ds.drop off) else .ptr i b2 off) else .ptr i b2 off
 | v=>v
def Blk.frb (id b:Nat)(ds:List D):Blk→Blk
 | .box x t cells=>.box x t (cells.map (V.frb id b ds))
 | k=>k
theorem V.frb_sim {F F':Hp}{id b:Nat}{ds:List D}(hle:Hp.le F F')(h:∀ off,SimV F' (.pointer (some ⟨b,off,none⟩)) (.ref (ds.drop off))){u:Value}{v:V}(hv:SimV F u v):SimV F' u (v.frb id b ds):=by
 cases v with
 | ptr i b2 off =>
  simp only [V.frb]
  split
  ·split
   ·rename_i e
    subst e
    cases hv
    exact h off
   ·exact hv.mono hle
  ·exact hv.mono hle
 | _=>exact hv.mono hle
theorem freeze_box {F:Hp}{M:Mem}{w:World}(h:Sim F M w){id b t:Nat}{cells:List V}{ds:List D}(hM:M id=some (.box b t cells))(hd:VCs cells ds) :
  ∃ F',Hp.le F F' ∧ Sim F' (upd M id none) w∧(∀ k,F k=none→F' k≠none→Owned M k)∧∀ off,SimV F' (.pointer (some ⟨b,off,none⟩)) (.ref (ds.drop off)):=by
 have hin:∀ id' blk' k,(upd M id none) id' = some blk' → blk'.owns k→id' ≠ id∧M id' = some blk':=fun id' blk' k hm hk=>by
  unfold upd at hm
  split at hm
  ·cases hm
  ·rename_i hne;exact ⟨hne,hm⟩
 obtain ⟨cs,hh,hl,h1,hr⟩:=h.own id _ hM
 have hFb:F b=none:=h.apart id _ b hM rfl
 have hle:Hp.le F (F.add b (.cells cs.toArray t (0,0))):=fun k o hk=>by
  unfold Hp.add
  split
  ·rename_i e';subst e';rw [hFb] at hk;cases hk
  ·exact hk
 refine ⟨F.add b (.cells cs.toArray t (0,0)),hle,⟨fun k o hk=>?_,fun id' blk' hm=>?_,fun id' blk' k hm hk=>?_,fun i j bi bj k hi hj ki kj=>?_⟩,fun k hk hn=>?_,fun off=>.ref (us:=fun k=>cs.getD (off+k) undef) fun k d hd'=>?_⟩
 ·unfold Hp.add at hk
  split at hk
  ·rename_i e';subst e';cases hk;exact hh
  ·exact h.imm k o hk
 ·have hm':M id' = some blk':=by unfold upd at hm;split at hm;cases hm;exact hm
  exact (h.own id' blk' hm').keep hle fun k _=>rfl
 ·obtain ⟨hne,hm'⟩:=hin id' blk' k hm hk
  unfold Hp.add
  split
  ·rename_i e';subst e'
   exact absurd (h.inj id' id _ _ _ hm' hM hk rfl) hne
  ·exact h.apart id' blk' k hm' hk
 ·exact h.inj i j bi bj k (hin i bi k hi ki).2 (hin j bj k hj kj).2 ki kj
 ·unfold Hp.add at hn
  split at hn
  ·rename_i e';subst e';exact ⟨id,_,hM,rfl⟩
  ·exact absurd hk hn
 ·rw [List.getElem?_drop] at hd'
  obtain ⟨c,hc,hcd⟩:=hd.get (off+k) d hd'
  have hlt:off+k<cs.length:=by rw [hl];exact (List.getElem?_eq_some_iff.1 hc).1
  have hu:cs[off+k]? = some (cs.getD (off+k) undef):=by rw [gd9,ge9 hlt];rfl
  refine ⟨?_,h1 _ (List.mem_of_getElem? hu),((hcd F _ (hr (off+k) c _ hc hu)).1).mono hle⟩
  rw [addr_add]
  simp only [cellF,Hp.add,if_true,List.getElem?_toArray,hu]
  rfl
theorem AW.freezeBox {P:Program}{E:Env}{k:Code}{Q:Exit→S→Prop}{s:S}(id:Nat){b t:Nat}{cells:List V}(ds:List D)(hM:s.M id=some (.box b t cells))(hd:VCs cells ds)
  (h:AW P E k Q ⟨fun t=>(s.ρ t).frb id b ds,fun j=>if j=id then none else (s.M j).map (Blk.frb id b ds)⟩):AW P E k Q s:=fun F a w hr=>by
 obtain ⟨F',h1,h2,h3,h4⟩:=freeze_box hr.sim hM hd
 refine h F' a w ?_
 have part:∀ j blk,(fun j=>if j=id then none else (s.M j).map (Blk.frb id b ds)) j=some blk→∃ bl,(upd s.M id none) j=some bl∧s.M j=some bl∧blk=bl.frb id b ds:=fun j blk hj=>by
  simp only at hj
  split at hj
  ·cases hj
  ·rename_i hne
   cases hq:s.M j with
   | none=>rw [hq] at hj;cases hj
   | some bl=>rw [hq] at hj;cases hj;exact ⟨bl,by rw [upd_ne _ _ hne];exact hq,rfl,rfl⟩
 have ow:∀ (bl:Blk) (k:Nat),(bl.frb id b ds).owns k→bl.owns k:=fun bl k hk=>by cases bl <;> exact hk
 refine ⟨⟨h2.imm,fun j blk hj=>?_,fun j blk k hj ho=>?_,fun i j bi bj k hi hj hoi hoj=>?_⟩,hr.grow,hr.f0.trans h1,fun k p q=>?_,fun j blk k hj ho=>?_,hr.size,hr.defers,fun t=>V.frb_sim h1 h4 (hr.slots t)⟩
 ·obtain ⟨bl,hb,hb0,rfl⟩:=part j blk hj
  have ok:=h2.own j bl hb
  cases bl with
  | row=>exact ok
  | pool=>exact ok
  | mat=>exact ok
  | box x t cells =>
   obtain ⟨cs,g1,g2,g3,g4⟩:=hr.sim.own j _ hb0
   refine ⟨cs,g1,by simpa using g2,g3,fun i v u hv hu=>?_⟩
   rw [List.getElem?_map] at hv
   cases hq:cells[i]? with
   | none=>rw [hq] at hv;cases hv
   | some v0=>rw [hq] at hv;cases hv;exact V.frb_sim h1 h4 (g4 i v0 u hq hu)
 ·obtain ⟨bl,hb,_,rfl⟩:=part j blk hj
  exact h2.apart j bl k hb (ow bl k ho)
 ·obtain ⟨b1,hb1,_,rfl⟩:=part i bi hi
  obtain ⟨b2,hb2,_,rfl⟩:=part j bj hj
  exact h2.inj i j b1 b2 k hb1 hb2 (ow _ _ hoi) (ow _ _ hoj)
 ·cases hf:F k with
  | none =>
   obtain ⟨i,bl,hi,ho⟩:=h3 k hf q
   exact hr.mnew i bl k hi ho
  | some o=>exact hr.fnew k p (by rw [hf];simp)
 ·obtain ⟨bl,_,hb,rfl⟩:=part j blk hj
  exact hr.mnew j bl k hb (ow _ _ ho)
theorem frb_self {id b off:Nat}{ds:List D}:V.frb id b ds (.ptr id b off)=.ref (ds.drop off):=by simp [V.frb]
section
variable {P:Program}
def OT (P:Program)(ops:Array Oper)(K:S→Prop):Nat→Array Bool→S→Prop
 | 0,listed,s=>Region.ready .any ops listed=[]∧K s
 | n+1,listed,s=>Region.ready .any ops listed≠[]∧∀ i,i ∈ Region.ready .any ops listed→∃ o,ops[i]? = some o∧OG P 0 ops o (OT P ops K n (listed.setIfInBounds i true)) s
theorem wpAny_tree {E:Env}{Q:Exit→S→Prop}{ops:Array Oper}(hd:∀ o,o ∈ ops.toList→Below' E.n o.dst) :
  ∀ (fuel:Nat) (listed:Array Bool) (s:S) (F:Hp) (a:Act) (w:World),Run E F s a w→OT P ops (Q .normal) fuel listed s→wpAny P .any ops (PostQ E Q) fuel listed a w:=by
 intro fuel
 induction fuel with
 | zero=>exact fun listed s F a w hr h=>⟨h.1,⟨F,s,hr,h.2⟩⟩
 | succ fuel ih =>
  intro listed s F a w hr h
  refine ⟨fun e=>absurd e h.1,fun i hi=>?_⟩
  obtain ⟨o,ho,hog⟩:=h.2 i hi
  exact OG.sound ho hog hr (hd o (by
   obtain ⟨h1,h2⟩:=Array.getElem?_eq_some_iff.1 ho
   rw [← h2];exact Array.getElem_mem_toList h1)) fun F' s' a' w' hr' hk=>ih _ s' F' a' w' hr' hk
theorem AW.region_tree {E:Env}{id:Nat}{ops:Array Oper}{Q:Exit→S→Prop}{s:S}(hf:P.follows .mixedOrders=true)(hd:dstOK E.n ops=true)
  (h:OT P ops (Q .normal) ops.size (Array.replicate ops.size false) s):AW P E (.region id ops true) Q s:=fun F a w hr=>by
 have hrun:Run E F s a { w with drawn:=w.drawn+1 }:=⟨⟨hr.sim.imm,fun id blk hm=>(hr.sim.own id blk hm).keep (Hp.le.refl F) fun _ _=>rfl,hr.sim.apart,hr.sim.inj⟩,⟨hr.grow.os,hr.grow.tape,hr.grow.output,hr.grow.size,hr.grow.block⟩,hr.f0,hr.fnew,hr.mnew,hr.size,hr.defers,hr.slots⟩
 exact wp_region_any hf (wpAny_tree (dstOK.spec hd) ops.size _ s F a _ hrun h)
def OTs (P:Program)(ops:Array Oper)(K:S→Prop)(n:Nat)(listed:Array Bool)(s:S):List Nat→List Oper→Prop
 | [],[]=>True
 | i::l,o::os=>OL P 0 ops (OT P ops K n (listed.setIfInBounds i true)) [o] s∧OTs P ops K n listed s l os
 | _,_=>False
theorem OTs.get {ops:Array Oper}{K:S→Prop}{n:Nat}{listed:Array Bool}{s:S}:∀ (l:List Nat) (os:List Oper),l.map (fun i=>ops[i]?)=os.map some→OTs P ops K n listed s l os→∀ i,i ∈ l→∃ o,ops[i]? = some o∧OG P 0 ops o (OT P ops K n (listed.setIfInBounds i true)) s
 | [],_,_,_,i,hi=>by simp at hi
 | j::l,[],h,_,_,_=>by simp at h
 | j::l,o::os,h,ht,i,hi=>by
  simp only [List.map_cons,List.cons.injEq] at h
  rcases List.mem_cons.1 hi with rfl|hi
  ·exact ⟨o,h.1,ht.1⟩
  ·exact OTs.get l os h.2 ht.2 i hi
theorem OT.node {ops:Array Oper}{K:S→Prop}{n:Nat}{listed:Array Bool}{s:S}(l:List Nat){os:List Oper}(h:Region.ready .any ops listed=l)(hne:l≠[])(ho:l.map (fun i=>ops[i]?)=os.map some)(ht:OTs P ops K n listed s l os):OT P ops K (n+1) listed s :=
 ⟨by rw [h];exact hne,fun i hi=>OTs.get l os ho ht i (by rw [← h];exact hi)⟩
theorem OT.leaf {ops:Array Oper}{K:S→Prop}{listed:Array Bool}{s:S}(h:Region.ready .any ops listed=[])(hk:K s):OT P ops K 0 listed s:=⟨h,hk⟩
end
section
variable {P:Program}{E:Env}{c:Code}{Q:Exit→S→Prop}{s:S}
theorem AW.repart {M':Mem}(hok:∀ F w,Sim F s.M w→∀ id blk,M' id=some blk→BlkOK F w blk)
  (hinj:∀ F w,Sim F s.M w→∀ i j bi bj k,M' i=some bi→M' j=some bj→bi.owns k→bj.owns k→i=j)
  (hsub:∀ id blk k,M' id=some blk→blk.owns k→∃ id' blk',s.M id' = some blk' ∧ blk'.owns k) (h:AW P E c Q ⟨s.ρ,M'⟩):AW P E c Q s:=fun F a w hr=>by
 refine h F a w ⟨⟨hr.sim.imm,hok F w hr.sim,fun id blk k hm hk=>?_,hinj F w hr.sim⟩,hr.grow,hr.f0,hr.fnew,fun id blk k hm hk=>?_,hr.size,hr.defers,hr.slots⟩
 ·obtain ⟨id',blk',h1,h2⟩:=hsub id blk k hm hk
  exact hr.sim.apart id' blk' k h1 h2
 ·obtain ⟨id',blk',h1,h2⟩:=hsub id blk k hm hk
  exact hr.mnew id' blk' k h1 h2
theorem owL {k e sz:Nat}{rs:List (Nat × List D)}(h:s.M k=some (.pool e sz rs)):s.M k=some (.pool e sz rs):=h
theorem owT {k b cc e e2 sz:Nat}{rs:List (Nat × List D)}(h:s.M k=some (.mat b cc e e2 sz rs)):s.M k=some (.mat b cc e e2 sz rs):=h
theorem AW.take (x p i:Nat){b e sz:Nat}{es:List D}{rs:List (Nat × List D)}(hx:s.M x=none)(hp:s.M p=some (.pool e sz rs))(hi:rs[i]? = some (b,es))
  (h:AW P E c Q ⟨s.ρ,upd (upd s.M p (some (.pool e sz (rs.set i (b,[]))))) x (some (.row b es.length e sz es))⟩):AW P E c Q s:=by
 have hxp:x≠p:=fun e=>by rw [e,hp] at hx;cases hx
 have hil:i<rs.length:=(List.getElem?_eq_some_iff.1 hi).1
 have part:∀ id blk,upd (upd s.M p (some (.pool e sz (rs.set i (b,[]))))) x (some (.row b es.length e sz es)) id=some blk→(id=x∧blk=.row b es.length e sz es) ∨ (id=p∧blk=.pool e sz (rs.set i (b,[]))) ∨ (id≠p∧id≠x∧s.M id=some blk):=fun id blk hm=>by
  unfold upd at hm
  split at hm
  ·rename_i e;cases hm;exact .inl ⟨e,rfl⟩
  ·split at hm
   ·rename_i e;cases hm;exact .inr (.inl ⟨e,rfl⟩)
   ·rename_i h1 h2;exact .inr (.inr ⟨h2,h1,hm⟩)
 have get:∀ j q,(rs.set i (b,[]))[j]? = some q→0<q.2.length→j≠i∧rs[j]? = some q:=fun j q hj h0=>by
  rw [List.getElem?_set] at hj
  split at hj
  ·cases hj;exact absurd h0 (by simp)
  ·rename_i e;exact ⟨Ne.symm e,hj⟩
 have own2:∀ k,poolOwns (rs.set i (b,[])) k→∃ j q,j≠i∧rs[j]? = some q∧0<q.2.length∧k=q.1:=fun k ⟨q,hq,h0,hk⟩=>by
  obtain ⟨j,hj⟩:=List.mem_iff_getElem?.1 hq
  obtain ⟨e,h1⟩:=get j q hj h0
  exact ⟨j,q,e,h1,h0,hk⟩
 have up:∀ k,poolOwns (rs.set i (b,[])) k→poolOwns rs k:=fun k hk=>by
  obtain ⟨j,q,_,h1,h0,e⟩:=own2 k hk
  exact ⟨q,List.mem_of_getElem? h1,h0,e⟩
 have upx:∀ k,(Blk.row b es.length e sz es).owns k→poolOwns rs k:=fun k ⟨h0,hk⟩=>⟨_,List.mem_of_getElem? hi,h0,hk⟩
 refine AW.repart (fun F w hS id blk hm=>?_) (fun F w hS u v bu bv k hu hv ku kv=>?_) (fun id blk k hm hk=>?_) h
 ·have o2:=hS.own p _ hp
  rcases part id blk hm with ⟨_,rfl⟩|⟨_,rfl⟩|⟨_,_,h⟩
  ·exact o2.2 _ (List.mem_of_getElem? hi)
  ·refine ⟨fun u v q r hu hv q0 r0 hqr=>o2.1 u v q r (get u q hu q0).2 (get v r hv r0).2 q0 r0 hqr,fun q hq=>?_⟩
   obtain ⟨j,hj⟩:=List.mem_iff_getElem?.1 hq
   rw [List.getElem?_set] at hj
   split at hj
   ·cases hj;exact ⟨by simp,by simp,fun h0=>absurd h0 (by simp)⟩
   ·exact o2.2 q (List.mem_of_getElem? hj)
  ·exact hS.own id blk h
 ·have o2:=hS.own p _ hp
  have xp:∀ k,(Blk.row b es.length e sz es).owns k→poolOwns (rs.set i (b,[])) k→False:=fun k ⟨h0,hk⟩ hk2=>by
   obtain ⟨j,q,ne,h1,h2,h3⟩:=own2 k hk2
   exact ne (o2.1 j i q (b,es) h1 hi h2 h0 (by rw [← h3,hk]))
  rcases part u bu hu with ⟨eu,rfl⟩|⟨eu,rfl⟩|⟨nu,nx,h1⟩ <;> rcases part v bv hv with ⟨ev,rfl⟩|⟨ev,rfl⟩|⟨nv,nx2,h2⟩
  ·rw [eu,ev]
  ·exact (xp k ku kv).elim
  ·exact absurd (hS.inj v p _ _ k h2 hp kv (upx k ku)) nv
  ·exact (xp k kv ku).elim
  ·rw [eu,ev]
  ·exact absurd (hS.inj v p _ _ k h2 hp kv (up k ku)) nv
  ·exact absurd (hS.inj u p _ _ k h1 hp ku (upx k kv)) nu
  ·exact absurd (hS.inj u p _ _ k h1 hp ku (up k kv)) nu
  ·exact hS.inj u v bu bv k h1 h2 ku kv
 ·rcases part id blk hm with ⟨_,rfl⟩|⟨_,rfl⟩|⟨_,_,h⟩
  ·exact ⟨p,_,hp,upx k hk⟩
  ·exact ⟨p,_,hp,up k hk⟩
  ·exact ⟨id,blk,h,hk⟩
end
section
variable {F:Hp}{w:World}{M:Mem}
theorem flat1 {es:List D}(h:∀ x,x ∈ es→x.cells.length=1){i:Nat}{d:D}(hd:(es.flatMap D.cells)[i]? = some d):∃ x,es[i]? = some x∧x.cells[0]? = some d:=by
 have hl:i<es.length:=by
  have h1:=(List.getElem?_eq_some_iff.1 hd).1
  rw [flat_length h,Nat.mul_one] at h1
  exact h1
 have hx:es[i]? = some es[i]:=ge9 hl
 have h2:=flat_get h hx 0 (by decide)
 rw [Nat.mul_one,Nat.add_zero] at h2
 exact ⟨_,hx,by rw [← h2];exact hd⟩
theorem RowOK.read {b c e:Nat}{es es2:List D}(h:RowOK F w b c e 1 es)(hl:es2.length=es.length)(h1:∀ x,x ∈ es2→x.cells.length=1)
  (hr:∀ (i:Nat) (x y:D) (u:Value),es[i]? = some x→es2[i]? = some y→(∀ d:D,x.cells[0]? = some d→Rep F u d)→∀ d:D,y.cells[0]? = some d→Rep F u d):RowOK F w b c e 1 es2:=by
 obtain ⟨g0,g1,g2⟩:=h
 refine ⟨by omega,h1,fun hc=>?_⟩
 obtain ⟨cs,k1,k2,k3,k4⟩:=g2 hc
 refine ⟨cs,k1,k2,k3,fun i d u hd hu=>?_⟩
 obtain ⟨y,hy,hyd⟩:=flat1 h1 hd
 have hil:i<es.length:=by have:=(List.getElem?_eq_some_iff.1 hy).1;omega
 have hx:es[i]? = some es[i]:=ge9 hil
 refine hr i _ y u hx hy (fun d' hd'=>k4 i d' u ?_ hu) d hyd
 have h2:=flat_get g1 hx 0 (by decide)
 rw [Nat.mul_one,Nat.add_zero] at h2
 rw [h2];exact hd'
end
open Classical in
noncomputable def poolHp (F:Hp)(rs:List (Nat × List D))(w:World):Hp:=fun k=>if poolOwns rs k then w.heap[k]? else F k
theorem freeze_pool {F:Hp}{M:Mem}{w:World}(h:Sim F M w){p e sz:Nat}{rs:List (Nat × List D)}(hp:M p=some (.pool e sz rs)) :
  ∃ F',Hp.le F F' ∧ Sim F' (upd M p none) w∧(∀ k,F k=none→F' k≠none→Owned M k)∧∀ q,q ∈ rs→Rep F' (.slice (some ⟨q.1,0,none⟩) q.2.length q.2.length) (.sl q.2):=by
 have hle:Hp.le F (poolHp F rs w):=fun k o hk=>by
  unfold poolHp
  split
  ·exact h.imm k o hk
  ·exact hk
 have hin:∀ id' blk',(upd M p none) id' = some blk' → id' ≠ p∧M id' = some blk':=fun id' blk' hm=>by
  unfold upd at hm
  split at hm
  ·cases hm
  ·rename_i hne;exact ⟨hne,hm⟩
 have hown:=h.own p _ hp
 refine ⟨poolHp F rs w,hle,⟨fun k o hk=>?_,fun id blk hm=>(h.own id blk (hin id blk hm).2).keep hle fun _ _=>rfl,fun id blk k hm hk=>?_,fun i j bi bj k hi hj ki kj=>h.inj i j bi bj k (hin i bi hi).2 (hin j bj hj).2 ki kj⟩,fun k hk hn=>?_,fun q hq=>?_⟩
 ·unfold poolHp at hk
  split at hk
  ·exact hk
  ·exact h.imm k o hk
 ·obtain ⟨hne,hm⟩:=hin id blk hm
  unfold poolHp
  split
  ·rename_i ho
   exact absurd (h.inj id p _ _ k hm hp hk ho) hne
  ·exact h.apart id blk k hm hk
 ·unfold poolHp at hn
  split at hn
  ·rename_i ho;exact ⟨p,_,hp,ho⟩
  ·exact absurd hk hn
 ·obtain ⟨g0,g1,g2⟩:=hown.2 q hq
  rcases Nat.eq_zero_or_pos q.2.length with h0|h0
  ·rw [h0,en9 h0];exact Rep.nil_
  ·obtain ⟨cs,k1,k2,k3,k4⟩:=g2 h0
   refine Rep.row (cs:=cs) (t:=e) (fr:=(0,0)) (sz:=sz) (by unfold poolHp;rw [if_pos ⟨q,hq,h0,rfl⟩];exact k1) rfl (Nat.le_refl _) g1 (by omega) k3 fun i d u hd hu=>(k4 i d u hd hu).mono hle
theorem RowOK.heads {F:Hp}{w:World}{b c e:Nat}{rs:List (Nat × List D)}(h:RowOK F w b c e 1 (rs.map hdP))(hr:∀ q,q ∈ rs→Rep F (.slice (some ⟨q.1,0,none⟩) q.2.length q.2.length) (.sl q.2)):RowOK F w b c e 1 (rs.map fun q=>.sl q.2):=by
 refine h.read (by simp) (fun x hx=>by obtain ⟨q,_,rfl⟩:=mm9 hx;rfl) fun i x y u hx hy hu d hd=>?_
 rw [List.getElem?_map] at hx hy
 cases hq:rs[i]? with
 | none=>rw [hq] at hx;cases hx
 | some q =>
  rw [hq] at hx hy
  cases hx;cases hy;cases hd
  have hu2:=hu _ rfl
  cases hu2 with
  | sc _=>exact hr q (List.mem_of_getElem? hq)
def memM (b c e e2 sz:Nat)(rs:List (Nat × List D)):Mem:=fun j=>if j=0 then some (.row b c e 1 (rs.map hdP)) else if j=1 then some (.pool e2 sz rs) else none
theorem memM_get {b c e e2 sz:Nat}{rs:List (Nat × List D)}{j:Nat}{blk:Blk}(h:memM b c e e2 sz rs j=some blk):(j=0∧blk=.row b c e 1 (rs.map hdP)) ∨ (j=1∧blk=.pool e2 sz rs):=by
 unfold memM at h
 split at h
 ·rename_i e;cases h;exact .inl ⟨e,rfl⟩
 ·split at h
  ·rename_i e;cases h;exact .inr ⟨e,rfl⟩
  ·cases h
theorem map_zip_snd {bs:List Nat}{rows:List (List D)}(h:bs.length=rows.length):(bs.zip rows).map Prod.snd=rows:=by
 rw [List.map_snd_zip];omega
theorem FSpecX.data {P:Program}{f n e e2 sz:Nat}{args:List V}{rows:List (List D)}(h:FSpecX P f args n e e2 sz rows)(hn:n=rows.length):FSpec P f args (.d (.sl (rows.map .sl))) :=
 ⟨h.1,fun F w vals hF hv=>(h.2 F w vals hF hv).mono fun x w' ⟨v,F',b,c,bs,he,hx,hv,hl,hok,hfr⟩=>by
  have hS:Sim F' (memM b c e e2 sz (bs.zip rows)) w':=by
   refine ⟨hx.imm,fun j blk hj=>?_,fun j blk k hj hk=>?_,fun i j bi bj k hi hj ki kj=>?_⟩
   ·rcases memM_get hj with ⟨_,rfl⟩|⟨_,rfl⟩
    ·exact hok.1
    ·exact hok.2.1
   ·rcases memM_get hj with ⟨_,rfl⟩|⟨_,rfl⟩
    ·exact (hfr k (.inl hk)).2
    ·exact (hfr k (.inr hk)).2
   ·rcases memM_get hi with ⟨ei,rfl⟩|⟨ei,rfl⟩ <;> rcases memM_get hj with ⟨ej,rfl⟩|⟨ej,rfl⟩
    ·rw [ei,ej]
    ·obtain ⟨k1,k2⟩:=ki;subst k2;exact absurd kj (hok.2.2 k1)
    ·obtain ⟨k1,k2⟩:=kj;subst k2;exact absurd ki (hok.2.2 k1)
    ·rw [ei,ej]
  obtain ⟨F1,a1,a2,a3,a4⟩:=freeze_pool (p:=1) hS rfl
  have r1:RowOK F1 w' b c e 1 (((bs.zip rows)).map fun q=>.sl q.2):=RowOK.heads (a2.own 0 _ rfl) a4
  have hS2:Sim F1 (fun j=>if j=0 then some (.row b c e 1 (((bs.zip rows)).map fun q=>.sl q.2)) else none) w':=by
   have key:∀ j blk,(fun j=>if j=0 then some (Blk.row b c e 1 (((bs.zip rows)).map fun q=>.sl q.2)) else none) j=some blk→j=0∧blk=.row b c e 1 (((bs.zip rows)).map fun q=>.sl q.2):=fun j blk hj=>by
    simp only at hj
    split at hj
    ·rename_i e;cases hj;exact ⟨e,rfl⟩
    ·cases hj
   refine ⟨a2.imm,fun j blk hj=>?_,fun j blk k hj hk=>?_,fun i j bi bj k hi hj ki kj=>?_⟩
   ·obtain ⟨_,rfl⟩:=key j blk hj;exact r1
   ·obtain ⟨_,rfl⟩:=key j blk hj;exact a2.apart 0 _ k rfl hk
   ·rw [(key i bi hi).1,(key j bj hj).1]
  obtain ⟨F2,b1,b2,b3,b4⟩:=freeze_row (id:=0) hS2 rfl
  have hlen:(((bs.zip rows)).map fun q:Nat × List D=>D.sl q.2).length=n:=by rw [lm9,List.length_zip,hl,Nat.min_self,hn]
  have hmap:((bs.zip rows)).map (fun q:Nat × List D=>D.sl q.2)=rows.map .sl:=by
   rw [show (fun q:Nat × List D=>D.sl q.2)=D.sl ∘ Prod.snd from rfl,← List.map_map,map_zip_snd hl]
  have owned:∀ k,Owned (memM b c e e2 sz (bs.zip rows)) k→w.heap.size≤k:=fun k ⟨j,blk,hj,hk⟩=>by
   rcases memM_get hj with ⟨_,rfl⟩|⟨_,rfl⟩
   ·exact (hfr k (.inl hk)).1
   ·exact (hfr k (.inr hk)).1
  refine ⟨v,F2,he,⟨hx.grow,(hx.le.trans a1).trans b1,b2.imm,fun k p q=>?_⟩,?_⟩
  ·cases hf1:F1 k with
   | none =>
    obtain ⟨j,blk,hj,hk⟩:=b3 k hf1 q
    simp only at hj
    split at hj
    ·cases hj;exact (hfr k (.inl hk)).1
    ·cases hj
   | some o1 =>
    cases hf2:F' k with
    | none=>exact owned k (a3 k hf2 (by rw [hf1];simp))
    | some o2=>exact hx.new k p (by rw [hf2];simp)
  ·have h1:=b4 v n (hv.mono a1) (by omega)
   rw [← hlen,List.take_length,hmap] at h1
   cases hv
   exact .d h1 rfl⟩
theorem FSpecX.intro {P:Program} {f:Nat} {fn:Func} {c:Code} {args:List V} {n e e2 sz:Nat} {rows:List (List D)} (hf:P.funcs[f]? = some fn) (hname:(fn.name == "runtime.NumGoroutine")=false) (hb:fn.body=some c) (hn:args.length≤fn.ntmps) (t:Nat) (hres:fn.results.toList=[.tmp t])
  (h:∀ E:Env,E.n=fn.ntmps→AW P E c (fun x s=>(x=.normal ∨ x=.ret)∧∃ o p b cp rs,s.ρ t=.osl o b n cp∧s.M o=some (.row b cp e 1 (rs.map hdP))∧s.M p=some (.pool e2 sz rs)∧o≠p∧rs.map Prod.snd=rows) ⟨argsρ args,noMem⟩):FSpecX P f args n e e2 sz rows:=by
 refine ⟨by simp [HasBody,hf,hname,hb],fun F w vals hF hv=>calls_of_wp hf hb ?_⟩
 have hlen:vals.length=args.length:=hv.1
 have hrun:Run ⟨w,F,Owned noMem,fn.ntmps⟩ F ⟨argsρ args,noMem⟩ { tmps:=vals.toArray++Array.replicate (fn.ntmps-vals.toArray.size) undef,defers:=[] } w:=by
  refine ⟨sim_none hF,Grow.refl _ _,Hp.le.refl F,fun k p q=>absurd p q,fun id blk k hm ho=>.inr ⟨id,blk,hm,ho⟩,by simp;omega,rfl,fun t=>?_⟩
  simp only [argsρ]
  by_cases ht:t<args.length
  ·have h1:args[t]? = some args[t]:=ge9 ht
   have h2:vals[t]? = some (vals[t]'(by omega)):=ge9 (by omega)
   rw [gd9,h1,Array.getD_eq_getD_getElem?,Array.getElem?_append_left (by simpa [hlen] using ht),List.getElem?_toArray,h2]
   exact hv.2 t _ _ h1 h2
  ·rw [gd9,List.getElem?_eq_none (by omega)]
   exact .junk
 refine wp_mono (h ⟨w,F,Owned noMem,fn.ntmps⟩ rfl F _ w hrun) fun x a' w' ⟨F',s',hr,hq,o,p,b,cp,rs,h1,h2,h3,h4,h5⟩=>?_
 have ez:(rs.map Prod.fst).zip rows=rs:=by
  rw [← h5,List.zip_map',List.map_id'']
  intro q;rfl
 have done:a'.defers=[]∧∃ v,(results fn a'.tmps).run P w' = .ok v w' ∧ ∃ (v':Value) (F':Hp) (b c:Nat) (bs:List Nat),Ending.returned v=.returned v' ∧ Ext F w F' w' ∧ SimV F' v' (.osl 0 b n c)∧bs.length=rows.length∧BlkOK F' w' (.mat b c e e2 sz (bs.zip rows))∧∀ k,(Blk.mat b c e e2 sz (bs.zip rows)).owns k→w.heap.size≤k∧F' k=none:=by
  refine ⟨hr.defers,a'.tmps.getD t undef,?_,a'.tmps.getD t undef,F',b,cp,rs.map Prod.fst,rfl,⟨hr.grow.mono fun i x=>owned_none i x,hr.f0,hr.sim.imm,fun k p q=>(hr.fnew k p q).resolve_right (owned_none k)⟩,?_,by rw [← h5];simp,?_,fun k hk=>?_⟩
  ·rw [results_eq,Sem.run_bind,Array.mapM_eq_mapM_toList,Sem.run_map,hres]
   simp [rvSem,List.mapM_cons,List.mapM_nil]
  ·have hs:=hr.slots t
   rw [h1] at hs
   generalize a'.tmps.getD t undef=v at hs
   cases hs with
   | osl p q=>exact .osl p q
  ·rw [ez]
   refine ⟨hr.sim.own o _ h2,hr.sim.own p _ h3,fun hc hk=>h4 (hr.sim.inj o p _ _ b h2 h3 ⟨hc,rfl⟩ hk)⟩
  ·rw [ez] at hk
   rcases hk with hk|hk
   ·exact ⟨(hr.mnew o _ k h2 hk).resolve_right (owned_none _),hr.sim.apart o _ k h2 hk⟩
   ·exact ⟨(hr.mnew p _ k h3 hk).resolve_right (owned_none _),hr.sim.apart p _ k h3 hk⟩
 rcases hq with rfl|rfl
 ·exact done
 ·exact done
section
variable {P:Program}{ops:Array Oper}{K:S→Prop}{r:List Oper}{s:S}{ty:TypeId}{pos:String}{after:Array Edge}
theorem lt1O {t e sz by_ d:Nat}{x:Operand}{y:D}(hT:SliceT P t e sz by_)(hx:VD (s.ev x) y)(hs:y.cells.length=sz)(h24:sz≤16777216)(hM:s.M d=none)
  (h:∀ b,OL P 0 ops K r ⟨upd s.ρ d (.osl d b 1 1),upd s.M d (some (.row b 1 e sz [y]))⟩):OL P 0 ops K (⟨some d,.buildSlice t 1 #[(0,x)],ty,pos,after,none⟩ :: r) s :=
 OL.new (.lit (xs:=[y]) hT rfl rfl (by omega) (by omega) (fun i p z hp hz=>by cases i <;> simp at hp hz;subst hp hz;exact hx) (fun z hz=>by simp at hz;subst hz;exact hs)) hM rfl fun b _=>h b
end
section
variable {P:Program}{m:Nat}{ops:Array Oper}{K:S→Prop}{r:List Oper}{s:S}{ty:TypeId}{pos:String}{after:Array Edge}
theorem mkLd {α:Type}{t e sz by_ n cp d:Nat}{x y:Operand}{k k2:IntKind}(f:α→D)(d0:α){zs:List V}(hT:SliceT P t e sz by_)(hz:ZeroT P e zs)(hc:VCs zs (f d0).cells)(hx:s.ev x=.d (.sc (.int k (n:Int))))(hy:s.ev y=.d (.sc (.int k2 (cp:Int))))
  (hn:n≤cp) (hb:by_*cp≤281474976710656) (hm:cp≤9223372036854775807) (hM:s.M d=none) (hnm:nameR m ⟨some d,.makeSlice t x y,ty,pos,after,none⟩ = true)
  (h:∀ b,OL P m ops K r ⟨upd s.ρ d (.osl d b n cp),upd s.M d (some (.row b cp e sz ((List.replicate n d0).map f)))⟩):OL P m ops K (⟨some d,.makeSlice t x y,ty,pos,after,none⟩ :: r) s :=
 OL.newd (.make hx hy hT hz hc hn hb hm) hM hnm fun b _=>by
  show OL P m ops K r ⟨upd s.ρ d (.osl d b n cp),upd s.M d (some (.row b cp e sz (List.replicate n (f d0))))⟩
  rw [← List.map_replicate]
  exact h b
end
end Go.AL
