/-
  AL, part 37: rows of rows of rows: the innermost rows become data within a pool of rows of heads.
-/
import Derived.Test.YteiohkpjgcioaaaGreatDoorKAlg32
import Derived.DataElems
set_option linter.unusedVariables false
set_option linter.unusedSimpArgs false
namespace Go.AL
open Go Go.BigFrame Go.RowKit
def CR (w:World)(cs:List Value)(ds:List D):Prop:=cs.length=ds.length∧∀ (i:Nat) (v:Value) (d:D),cs[i]? = some v→ds[i]? = some d→v.oneCell' = true∧Rep (wholeHp w) v d
theorem CR.one {w:World}{v:Value}{d:D}(ho:v.oneCell' = true)(h:Rep (wholeHp w) v d):CR w [v] [d]:=⟨rfl,fun i v' d' hv hd=>by
 cases i with
 | zero=>cases hv;cases hd;exact ⟨ho,h⟩
 | succ i=>simp at hv⟩
theorem CR.app {w:World}{cs cs2:List Value}{ds ds2:List D}(h:CR w cs ds)(k:CR w cs2 ds2):CR w (cs++cs2) (ds++ds2):=by
 refine ⟨by rw [la9,la9,h.1,k.1],fun i v d hv hd=>?_⟩
 rw [List.getElem?_append] at hv hd
 rw [← h.1] at hd
 split at hv
 ·rename_i hi;rw [if_pos hi] at hd;exact h.2 i v d hv hd
 ·rename_i hi;rw [if_neg hi] at hd;exact k.2 _ v d hv hd
theorem CR.sim {w:World}{cs:List Value}{ds:List D}(h:CR w cs ds):SimV (wholeHp w) (.agg cs.toArray) (.ag (ds.map .d)):=by
 refine .ag (by rw [lm9];exact h.1) (fun u hu=>?_) (fun i c u hc hu=>?_)
 ·obtain ⟨i,hi,rfl⟩:=List.getElem_of_mem hu
  exact (h.2 i _ _ (ge9 hi) (ge9 (by rw [← h.1];exact hi))).1
 ·rw [List.getElem?_map] at hc
  cases hd:ds[i]? with
  | none=>rw [hd] at hc;cases hc
  | some d =>
   rw [hd] at hc;cases hc
   obtain ⟨a,b⟩:=h.2 i u d hu hd
   exact .d b a
structure Meas {H:Type} (β:DataW H→Nat):Prop where
 el:∀ es sp d,d ∈ es→β d≤β (.slice es sp)
 ln:∀ es sp,es.length≤β (.slice es sp)
 ag:∀ ps d,d ∈ ps→β d≤β (.agg ps)
section
variable {H:Type}(enc:TypeId × Value→H)(P:Program)(w:World)(base:Nat)(spare:Nat→Bool)(held:Bool)(β:DataW H→Nat)
def Opens (t:TypeId){α:Type}(f:α→D)(ok:α→Nat→Prop):Prop :=
 ∀ (fuel:Nat) (cs:List Value) (x:DataW H × List MemPlace),DataW.trod enc P w base spare held fuel t cs=some x→∃ a,CR w cs (f a).cells∧ok a (β x.1)
end
section
variable {H:Type}{enc:TypeId × Value→H}{P:Program}{w:World}{base:Nat}{spare:Nat→Bool}{held:Bool}{β:DataW H→Nat}
theorem Opens.int {t:TypeId}(ht:P.underlying t=some (.int .i64)):Opens enc P w base spare held β t dI fun _ _=>True:=fun fuel cs x h=>by
 obtain ⟨n,rfl,_,_⟩:=DataW.trod_int ht h
 exact ⟨n,.one rfl (.sc rfl),trivial⟩
theorem Opens.u32 {t:TypeId}(ht:P.underlying t=some (.int .u32)):Opens enc P w base spare held β t d32 fun n _=>n<4294967296:=fun fuel cs x h=>by
 obtain ⟨n,rfl,_,hw⟩:=DataW.trod_int ht h
 simp only [Lit.wf,Bool.and_eq_true,decide_eq_true_eq] at hw
 have e1:IntKind.min .u32=0:=by decide
 have e2:IntKind.max .u32=4294967295:=by decide
 rw [e1,e2] at hw
 obtain ⟨h1,h2⟩:=hw
 refine ⟨n.toNat,?_,by omega⟩
 have e:(n.toNat:Int)=n:=Int.toNat_of_nonneg h1
 show CR w [.int .u32 n] [.sc (.int .u32 (n.toNat:Int))]
 rw [e]
 exact .one rfl (.sc rfl)
theorem Opens.bool {t:TypeId}(ht:P.underlying t=some .bool):Opens enc P w base spare held β t dB fun _ _=>True:=fun fuel cs x h=>by
 obtain ⟨b,rfl,_⟩:=DataW.trod_bool ht h
 exact ⟨b,.one rfl (.sc rfl),trivial⟩
theorem exists_list {α:Type}{p:Nat→α→Prop}:∀ {n:Nat},(∀ i,i<n→∃ a,p i a)→∃ l:List α,l.length=n∧∀ i a,l[i]? = some a→p i a
 | 0,_=>⟨[],rfl,fun i a h=>by simp at h⟩
 | n + 1, h => by
  obtain ⟨l,hl,hp⟩:=exists_list (n:=n) fun i hi=>h i (by omega)
  obtain ⟨a,ha⟩:=h n (by omega)
  refine ⟨l++[a],by rw [la9,hl];rfl,fun i b hb=>?_⟩
  rw [List.getElem?_append] at hb
  split at hb
  ·exact hp i b hb
  ·rename_i hi
   rcases Nat.lt_or_ge (i-l.length) 1 with x|x
   ·rw [show i-l.length=0 by omega] at hb
    cases hb
    rw [show i=n by omega];exact ha
   ·rw [List.getElem?_eq_none (by simpa using x)] at hb;cases hb
theorem flat_at {α:Type}{f:α→D}{sz:Nat}(hf:∀ a,(f a).cells.length=sz)(h0:0<sz):∀ (l:List α) (i:Nat),((l.map f).flatMap D.cells)[i]? = (l[i / sz]?).bind fun a=>(f a).cells[i % sz]?
 | [],i=>by simp
 | a :: l, i => by
  rw [List.map_cons,List.flatMap_cons,List.getElem?_append,hf a]
  split
  ·rename_i hi
   rw [Nat.div_eq_of_lt hi,Nat.mod_eq_of_lt hi];rfl
  ·rename_i hi
   rw [flat_at hf h0 l (i-sz)]
   have e1:i / sz=(i-sz) / sz+1:=by
    conv=>lhs;rw [show i=(i-sz)+sz by omega]
    exact Nat.add_div_right _ h0
   have e2:i % sz=(i-sz) % sz:=by
    conv=>lhs;rw [show i=(i-sz)+sz by omega]
    exact Nat.add_mod_right _ _
   rw [e1,e2];rfl
theorem Opens.slice {t e:TypeId}{sz:Nat}{α:Type}{f:α→D}{ok:α→Nat→Prop}(ht:P.underlying t=some (.slice e))(hc:P.cellsOf e=sz)(h0:0<sz)(hf:∀ a,(f a).cells.length=sz)(hm:Meas β)(mono:∀ a b c,ok a b→b≤c→ok a c)
  (ho:Opens enc P w base spare held β e f ok):Opens enc P w base spare held β t (fun l:List α=>D.sl (l.map f)) fun l b=>l.length≤b∧∀ a,a ∈ l→ok a b:=fun fuel cs x h=>by
 rcases DataW.trod_slice ht h with ⟨rfl,rfl⟩|⟨ad,len,cap,elems,rest,n,rfl,rfl,rfl,hb,hl,hmx,hel,hget,_,_⟩
 ·exact ⟨[],.one rfl Rep.nil_,Nat.zero_le _,fun a ha=>by cases ha⟩
 ·rw [hc] at hget
  have key:∀ i,i<len→∃ a:α,(∃ cs',w.cells? base (ad.add (i*sz)) sz=some cs' ∧ CR w cs' (f a).cells)∧ok a (β (.slice (elems.map (·.1)) (rest.map (·.1)))):=fun i hi=>by
   have hg:=hget i hi
   rw [ge9 (by omega)] at hg
   obtain ⟨cs',h1,h2⟩:=Option.bind_eq_some_iff.1 hg
   obtain ⟨a,h3,h4⟩:=ho n cs' _ h2
   exact ⟨a,⟨cs',h1,h3⟩,mono a _ _ h4 (hm.el _ _ _ (List.mem_map.2 ⟨_,List.getElem_mem (by omega),rfl⟩))⟩
  obtain ⟨l,hll,hlp⟩:=exists_list key
  have cell:∀ i,i<len*sz→∃ a u d,l[i / sz]? = some a∧(f a).cells[i % sz]? = some d∧w.cell? (ad.add i)=some u∧u.oneCell' = true∧Rep (wholeHp w) u d:=fun i hi=>by
   have hq:i / sz<len:=(Nat.div_lt_iff_lt_mul h0).2 hi
   have hr:i % sz<sz:=Nat.mod_lt _ h0
   have hla:=ge9 (l:=l) (i:=i / sz) (by omega)
   obtain ⟨⟨cs',h1,h2⟩,_⟩:=hlp _ _ hla
   obtain ⟨_,h3,h4⟩:=World.cells?_some h1
   have h5:=h4 (i % sz) hr
   have e:(ad.add (i / sz*sz)).add (i % sz)=ad.add i:=by
    have:i / sz*sz+i % sz=i:=Nat.div_add_mod' i sz
    rw [Addr.add_add,this]
   rw [e] at h5
   have hcl:i % sz<(f l[i / sz]).cells.length:=by rw [hf];exact hr
   have hu:=ge9 (l:=cs') (i:=i % sz) (by omega)
   have hd:=ge9 hcl
   obtain ⟨h6,h7⟩:=h2.2 _ _ _ hu hd
   exact ⟨_,_,_,hla,hd,h5.trans hu,h6,h7⟩
  refine ⟨l,.one rfl (.sl (sz:=sz) (us:=fun i=>(w.cell? (ad.add i)).getD (.bool false)) (by rw [lm9];exact hll) hl (fun y hy=>by obtain ⟨a,_,rfl⟩:=mm9 hy;exact hf a) (fun i hi=>?_) (fun i hi=>?_) fun i d hd=>?_),?_,fun a ha=>?_⟩
  ·obtain ⟨a,u,d,_,_,h3,_,_⟩:=cell i hi
   exact ⟨ad,rfl,by rw [cellF_whole,h3];rfl⟩
  ·obtain ⟨a,u,d,_,_,h3,h4,_⟩:=cell i hi
   rw [h3];exact h4
  ·rw [flat_at hf h0] at hd
   obtain ⟨a,ha,hd⟩:=Option.bind_eq_some_iff.1 hd
   have hq:i / sz<l.length:=(List.getElem?_eq_some_iff.1 ha).1
   have hi:i<len*sz:=(Nat.div_lt_iff_lt_mul h0).1 (by omega)
   obtain ⟨a2,u,d2,h1,h2,h3,_,h5⟩:=cell i hi
   rw [ha] at h1;cases h1
   rw [hd] at h2;cases h2
   simp only [h3];exact h5
  ·have:=hm.ln (elems.map (·.1)) (rest.map (·.1))
   rw [lm9] at this
   show l.length≤β (.slice (elems.map (·.1)) (rest.map (·.1)))
   omega
  ·obtain ⟨i,hi,rfl⟩:=List.getElem_of_mem ha
   exact (hlp i _ (ge9 hi)).2
end
end Go.AL
namespace Go.AL
open Go
theorem FSpecR.data {P:Program}{f n e sz:Nat}{args:List V}{es:List D}(h:FSpecR P f args n e sz es)(hn:n=es.length):FSpec P f args (.d (.sl es)) :=
 ⟨h.1,fun F w vals hF hv=>(h.2 F w vals hF hv).mono fun x w' ⟨v,F',b,c,he,hx,hv,hok,hfr⟩=>by
  have key:∀ j blk,(fun j=>if j=0 then some (Blk.row b c e sz es) else none) j=some blk→j=0∧blk=.row b c e sz es:=fun j blk hj=>by
   simp only at hj
   split at hj
   ·rename_i e;cases hj;exact ⟨e,rfl⟩
   ·cases hj
  have hS2:Sim F' (fun j=>if j=0 then some (.row b c e sz es) else none) w':=by
   refine ⟨hx.imm,fun j blk hj=>?_,fun j blk k hj hk=>?_,fun i j bi bj k hi hj ki kj=>?_⟩
   ·obtain ⟨_,rfl⟩:=key j blk hj;exact hok
   ·obtain ⟨_,rfl⟩:=key j blk hj;exact (hfr k hk).2
   ·rw [(key i bi hi).1,(key j bj hj).1]
  obtain ⟨F2,b1,b2,b3,b4⟩:=freeze_row (id:=0) hS2 rfl
  refine ⟨v,F2,he,⟨hx.grow,hx.le.trans b1,b2.imm,fun k p q=>?_⟩,?_⟩
  ·cases hf:F' k with
   | none =>
    obtain ⟨j,blk,hj,hk⟩:=b3 k hf q
    obtain ⟨_,rfl⟩:=key j blk hj
    exact (hfr k hk).1
   | some o=>exact hx.new k p (by rw [hf];simp)
  ·have h1:=b4 v n hv (by omega)
   rw [hn,List.take_length] at h1
   cases hv
   exact .d h1 rfl⟩
end Go.AL
namespace Go.AL
open Go Go.BigFrame
section
variable {P:Program}{m:Nat}{ops:Array Oper}{K:S→Prop}{r:List Oper}{s:S}{dst:Option Nat}{ty:TypeId}{pos:String}{after:Array Edge}
theorem knI {k t:Nat}{y:V}(h:s.ρ k=.ifc t y):VLe (s.ρ k) (.ifc t y):=vle_of_eq h
end
section
variable {P:Program}{E:Env}{F:Hp}{s:S}{a:Act}{w:World}
theorem AW.post {c:Code}{Q Q':Exit→S→Prop}(h:AW P E c Q' s)(hq:∀ e s',Q' e s' → ∀ F a w,Run E F s' a w→∃ F' s2,Run E F' s2 a w∧Q e s2):AW P E c Q s:=fun F a w hr =>
 wp_mono (h F a w hr) fun e a w ⟨_,s',hr',hq'⟩=>hq e s' hq' _ a w hr'
theorem Run.rename (id id2:Nat)(hM:s.M id2=none)(hr:Run E F s a w):Run E F ⟨s.ρ,fun j=>if j=id2 then s.M id else if j=id then none else s.M j⟩ a w:=by
 have key:∀ j blk,(fun j=>if j=id2 then s.M id else if j=id then none else s.M j) j=some blk→(j=id2∧s.M id=some blk) ∨ (j≠id2∧j≠id∧s.M j=some blk):=fun j blk hj=>by
  simp only at hj
  split at hj
  ·rename_i e;exact .inl ⟨e,hj⟩
  ·split at hj
   ·cases hj
   ·rename_i e1 e2;exact .inr ⟨e1,e2,hj⟩
 have any:∀ j blk,(fun j=>if j=id2 then s.M id else if j=id then none else s.M j) j=some blk→∃ i,s.M i=some blk:=fun j blk hj=>by
  rcases key j blk hj with ⟨_,h⟩|⟨_,_,h⟩
  ·exact ⟨id,h⟩
  ·exact ⟨j,h⟩
 refine ⟨⟨hr.sim.imm,fun j blk hj=>let ⟨i,hi⟩:=any j blk hj;hr.sim.own i blk hi,fun j blk k hj hk=>let ⟨i,hi⟩:=any j blk hj;hr.sim.apart i blk k hi hk,fun i j bi bj k hi hj ki kj=>?_⟩,
  hr.grow,hr.f0,hr.fnew,fun j blk k hj hk=>let ⟨i,hi⟩:=any j blk hj;hr.mnew i blk k hi hk,hr.size,hr.defers,hr.slots⟩
 rcases key i bi hi with ⟨e1,h1⟩|⟨e1,e1',h1⟩ <;> rcases key j bj hj with ⟨e2,h2⟩|⟨e2,e2',h2⟩
 ·omega
 ·have:=hr.sim.inj id j bi bj k h1 h2 ki kj;omega
 ·have:=hr.sim.inj i id bi bj k h1 h2 ki kj;omega
 ·exact hr.sim.inj i j bi bj k h1 h2 ki kj
theorem Run.boxW (id:Nat){b t:Nat}{cells:List V}(cells2:List V)(hM:s.M id=some (.box b t cells))(hl:VLes cells cells2)(hr:Run E F s a w):Run E F ⟨s.ρ,upd s.M id (some (.box b t cells2))⟩ a w:=by
 have key:∀ j blk,upd s.M id (some (.box b t cells2)) j=some blk→(j=id∧blk=.box b t cells2) ∨ (j≠id∧s.M j=some blk):=fun j blk hj=>by
  unfold upd at hj
  split at hj
  ·rename_i e;cases hj;exact .inl ⟨e,rfl⟩
  ·rename_i e;exact .inr ⟨e,hj⟩
 have any:∀ j blk k,upd s.M id (some (.box b t cells2)) j=some blk→blk.owns k→∃ bl,s.M j=some bl∧bl.owns k:=fun j blk k hj hk=>by
  rcases key j blk hj with ⟨rfl,rfl⟩|⟨_,h⟩
  ·exact ⟨_,hM,hk⟩
  ·exact ⟨_,h,hk⟩
 refine ⟨⟨hr.sim.imm,fun j blk hj=>?_,fun j blk k hj hk=>?_,fun i j bi bj k hi hj ki kj=>?_⟩,hr.grow,hr.f0,hr.fnew,fun j blk k hj hk=>?_,hr.size,hr.defers,hr.slots⟩
 ·rcases key j blk hj with ⟨rfl,rfl⟩|⟨_,h⟩
  ·obtain ⟨cs,h1,h2,h3,h4⟩:=hr.sim.own _ _ hM
   refine ⟨cs,h1,by rw [h2];exact hl.length,h3,fun i v u hv hu=>?_⟩
   obtain ⟨x,hx,hle⟩:=hl.get i v hv
   exact hle _ _ (h4 i x u hx hu)
  ·exact hr.sim.own _ _ h
 ·obtain ⟨bl,hb,ho⟩:=any j blk k hj hk
  exact hr.sim.apart j bl k hb ho
 ·obtain ⟨b1,hb1,ho1⟩:=any i bi k hi ki
  obtain ⟨b2,hb2,ho2⟩:=any j bj k hj kj
  exact hr.sim.inj i j b1 b2 k hb1 hb2 ho1 ho2
 ·obtain ⟨bl,hb,ho⟩:=any j blk k hj hk
  exact hr.mnew j bl k hb ho
theorem Run.to (hr:Run E F s a w)(l:List (Nat × V))(M:List (Nat × Blk))(hl:Knows s l)(hM:Owns s M):Run E F (st l M) a w:=hr.weak ⟨lk_le hl,lk_own hM⟩
end
section
variable {P:Program}{m:Nat}{ops:Array Oper}{K:S→Prop}{r:List Oper}{s:S}{dst:Option Nat}{ty:TypeId}{pos:String}{after:Array Edge}
theorem mvB {x:Operand}{id b z o n c:Nat}(hx:s.ev x=.osb id b z o n c)(h:OL P m ops K r (s.put dst (.osb id b z o n c))):OL P m ops K (⟨dst,.move x,ty,pos,after,none⟩ :: r) s:=OL.pure (hx ▸ Pure.move x) h
theorem asB {x:Operand}{id b z o n c:Nat}(hx:s.ev x=.osb id b z o n c)(h:OL P m ops K r (s.put dst (.osb id b z o n c))):OL P m ops K (⟨dst,.assign x,ty,pos,after,none⟩ :: r) s:=OL.pure (hx ▸ Pure.assign x) h
theorem knB {k id b z o n c:Nat}(h:s.ρ k=.osb id b z o n c):VLe (s.ρ k) (.osb id b z o n c):=vle_of_eq h
theorem slB {x lo:Operand}{t e sz by_ id b n c l n2:Nat}{k:IntKind}(hT:SliceT P t e sz by_)(hx:s.ev x=.osl id b n c)(hy:s.ev lo=.d (.sc (.int k (l:Int))))(hl:l≤n)(hn:n-l=n2)(h:OL P m ops K r (s.put dst (.osb id b sz l n2 (c-l)))):OL P m ops K (⟨dst,.slice t x (some lo) none none,ty,pos,after,none⟩ :: r) s:=by subst hn;exact OL.pure (.cutB hx hy hT hl) h
theorem ixBn {x y:Operand}{t e sz by_ id b o l c n i:Nat}{k:IntKind}(hT:SliceT P t e sz by_)(hx:s.ev x=.osb id b sz o l c)(hy:s.ev y=.d (.sc (.int k (n:Int))))(hl:n<l)(hi:o+n=i)(h:OL P m ops K r (s.put dst (.eptr id b sz i 0))):OL P m ops K (⟨dst,.indexAddr t x y,ty,pos,after,none⟩ :: r) s:=by subst hi;exact OL.pure (.ixB hx hy hT hl) h
theorem lnB {t e sz by_ id b o n c:Nat}{x:Operand}{ats:Array TypeId}(hT:SliceT P t e sz by_)(ha:ats = #[t])(hx:s.ev x=.osb id b sz o n c)(h:OL P m ops K r (s.put dst (.d (.sc (.int .i64 n))))):OL P m ops K (⟨dst,.call { callee:=.builtin .len,args:=#[x],argTypes:=ats },ty,pos,after,none⟩ :: r) s:=OL.pure (.lenB ha hx hT) h
end
theorem PoolOK.heads {F:Hp}{w:World}{e:Nat}{L:List (Nat × List (Nat × List D))}(h:PoolOK F w e 1 (L.map fun r=>(r.1,r.2.map hdP)))
  (hr:∀ r,r ∈ L→∀ q,q ∈ r.2→Rep F (.slice (some ⟨q.1,0,none⟩) q.2.length q.2.length) (.sl q.2)):PoolOK F w e 1 (L.map fun r=>(r.1,r.2.map fun q=>.sl q.2)):=by
 refine ⟨fun i j p q hi hj h1 h2 he=>?_,fun p hp=>?_⟩
 ·rw [List.getElem?_map] at hi hj
  cases hx:L[i]? with
  | none=>rw [hx] at hi;cases hi
  | some x =>
   cases hy:L[j]? with
   | none=>rw [hy] at hj;cases hj
   | some y =>
    rw [hx] at hi;rw [hy] at hj
    cases hi;cases hj
    refine h.1 i j (x.1,x.2.map hdP) (y.1,y.2.map hdP) (by rw [List.getElem?_map,hx];rfl) (by rw [List.getElem?_map,hy];rfl) (by simpa using h1) (by simpa using h2) he
 ·obtain ⟨r,hL,rfl⟩:=mm9 hp
  have k:=h.2 (r.1,r.2.map hdP) (List.mem_map.2 ⟨r,hL,rfl⟩)
  have k2:=RowOK.heads k (hr r hL)
  simp only [lm9] at k2 ⊢
  exact k2
section
variable {P:Program}{m:Nat}{ops:Array Oper}{K:S→Prop}{s:S}{dst:Option Nat}{ty:Nat}{pos:String}{after:Array Edge}{r:List Oper}
theorem fdC {x:Operand}{t f off:Nat}{vs:List V}{v:V}(hT:FieldC P t f off)(hx:s.ev x=.ag vs)(hv:vs[off]? = some v)(h:OL P m ops K r (s.put dst v)):OL P m ops K (⟨dst,.field t x f,ty,pos,after,none⟩ :: r) s:=OL.pure (.fldC hx hT hv) h
theorem stF {x y:Operand}{t id b z i j n c e:Nat}{es es2:List D}{d el el2:D}(hT:(P.info? t).map (·.size)=some n)(hx:s.ev x=.eptr id b z i j)(hy:VD (s.ev y) d)(hM:s.M id=some (.row b c e z es))(hl:d.cells.length=n)(hel:es[i]? = some el)(hj:j+n≤z)(he:el2.cells=el.cells.take j++d.cells++el.cells.drop (j+n))(hc:es.set i el2=es2)
  (h:OL P m ops K r ⟨s.ρ,upd s.M id (some (.row b c e z es2))⟩):OL P m ops K (⟨none,.store t x y,ty,pos,after,none⟩ :: r) s:=by subst hc;exact OL.store (.rowF hx hy hM hT hl hel hj he) h
theorem evF {x:Operand}{f:Nat}{y:List V}(h:s.ev x=.fn f y):s.ev x=.fn f y:=h
end
end Go.AL
