/-
  AL, part 1: an abstract reading of the machine's memory: immutable data by value, the slots' values, owned blocks, and the relation that ties them to a world. Nothing here is trusted.
-/
import Derived.WalkKit
import Derived.Orders
import Derived.Deep.Slices
set_option linter.unusedVariables false
set_option linter.unusedSimpArgs false
namespace Go.AL
open Go
abbrev Hp:=Nat->Option Obj
inductive D where
 | sc (v:Value)
 | sl (es:List D)
 | ag (cs:List D)
instance:Inhabited D:=⟨.sl []⟩
def D.cells:D->List D
 | .ag cs=>cs
 | .sc v=>[.sc v]
 | .sl es=>[.sl es]
def DY (F:Hp)(a:Addr):Option Value :=
 match F a.block with
 | some (.cells c _ _)=>if a.spot.isSome then none else c[a.off]?
 | _=>none
def Hp.le (F F':Hp):Prop:=∀ k o,F k=some o->F' k=some o
def Hp.Sl (F:Hp)(w:World):Prop:=∀ k o,F k=some o->w.heap[k]? = some o
theorem dJ {α:Type _}{β:Type _}{as:List α}(f:α->β):(as.map f).length=as.length:=List.length_map f
theorem jG {α:Type _}{as bs:List α}:(as++bs).length=as.length+bs.length:=List.length_append
theorem oU {α:Type _}{a:α}:[a].length=1:=List.length_singleton
theorem ig {α:Type _}{l:List α}{i:Nat}{a:α}:l.getD i a=l[i]?.getD a:=List.getD_eq_getElem?_getD
theorem lW {α:Type _}{a b:α}(h:a∈[b]):a=b:=List.mem_singleton.1 h
theorem mM {α β:Type _}{f:α->β}{l:List α}{b:β}(h:b∈l.map f):∃ a,a∈l/\f a=b:=List.mem_map.1 h
theorem ul {α:Type _}{a:α}{s t:List α}(h:a∈s++t):a∈s\/a∈t:=List.mem_append.1 h
theorem lq {p:Prop}[Decidable p](h:decide p=true):p:=of_decide_eq_true h
theorem nS {p:Prop}[Decidable p](h:decide p=false):¬p:=of_decide_eq_false h
theorem uZ {α:Type _}{a:α}{l:List α}:a∈a::l:=List.mem_cons_self ..
theorem IK {α:Type _}{l:List α}(h:l.length=0):l=[]:=List.eq_nil_of_length_eq_zero h
theorem lu {α:Type _}{l:List α}{i:Nat}(h:i<l.length):l[i]?=some l[i]:=List.getElem?_eq_getElem h
theorem Hp.le.refl (F:Hp):Hp.le F F:=λ_ _ h=>h
theorem Hp.le.trans {F G H:Hp}(h:Hp.le F G)(k:Hp.le G H):Hp.le F H:=λi o e=>k i o (h i o e)
theorem KT {F F':Hp}(h:Hp.le F F'){a:Addr}{v:Value}(hc:DY F a=some v):DY F' a=some v:=by
 unfold DY at *
 cases hf:F a.block with
 | none=>simp[hf] at hc
 | some o=>rw[h _ _ hf];rw[hf] at hc;exact hc
theorem F6 {F:Hp}{w:World}(h:Hp.Sl F w){a:Addr}{v:Value}(hc:DY F a=some v):w.cell? a=some v:=by
 unfold DY at hc
 unfold World.cell?
 cases hf:F a.block with
 | none=>simp[hf] at hc
 | some o =>
  rw[h _ _ hf]
  rw[hf] at hc
  cases o <;> first|exact hc|cases hc
inductive Rep (F:Hp):Value->D->Prop
 | sc {v:Value} (h:v.oneCell' = true):Rep F v (.sc v)
 | sl {ao : Option Addr} {n cap sz : Nat} {es : List D} {us : Nat -> Value} (hn : es.length = n) (hc : n <= cap)
   (hsz:∀ e,e ∈ es->e.cells.length=sz)
   (ha:∀ i,i<n*sz->∃ ad,ao=some ad/\DY F (ad.add i)=some (us i))
   (ho:∀ i,i<n*sz->(us i).oneCell' = true)
   (hr:∀ (i:Nat) (d:D),(es.flatMap D.cells)[i]? = some d->Rep F (us i) d):Rep F (.slice ao n cap) (.sl es)
 | ag {us : List Value} {ds : List D} (hl : us.length = ds.length) (ho : ∀ u, u ∈ us -> u.oneCell' = true)
   (hr:∀ (i:Nat) (d:D) (u:Value),ds[i]? = some d->us[i]? = some u->Rep F u d):Rep F (.agg us.toArray) (.ag ds)
theorem Rep.mono {F F':Hp}(h:Hp.le F F'){v:Value}{d:D}(hr:Rep F v d):Rep F' v d:=by
 induction hr with
 | sc h=>exact .sc h
 | sl hn hc hsz ha ho _ ih=>exact .sl hn hc hsz (λi hi=>let ⟨ad,e,hc⟩:=ha i hi;⟨ad,e,KT h hc⟩) ho ih
 | ag hl ho _ ih=>exact .ag hl ho ih
inductive V where
 | d (x:D)
 | ag (cs:List V)
 | mt
 | bF (id b n c:Nat)
 | xI (id b sz o n c:Nat)
 | ptr (id b off:Nat)
 | pW (id b sz i j:Nat)
 | ref (cs:List D)
 | jS (vs:List V)
 | fn (f:Nat) (caps:List V)
 | JX (t:Nat) (x:V)
 | junk
instance:Inhabited V:=⟨.junk⟩
def V.cells:V->List V
 | .ag cs=>cs
 | .d x=>[.d x]
 | .mt=>[.mt]
 | .bF id b n c=>[.bF id b n c]
 | .xI id b sz o n c=>[.xI id b sz o n c]
 | .ptr id b off=>[.ptr id b off]
 | .pW id b sz i j=>[.pW id b sz i j]
 | .ref cs=>[.ref cs]
 | .jS vs=>[.jS vs]
 | .fn f c=>[.fn f c]
 | .JX t x=>[.JX t x]
 | .junk=>[.junk]
def V.plain:V->Bool
 | .jS _=>false
 | .junk=>false
 | _=>true
inductive dm (F:Hp):Value->V->Prop
 | d {v:Value} {x:D} (h:Rep F v x) (ho:v.oneCell' = true):dm F v (.d x)
 | ag {us : List Value} {vs : List V} (hl : us.length = vs.length) (ho : ∀ u, u ∈ us -> u.oneCell' = true)
   (hr:∀ (i:Nat) (c:V) (u:Value),vs[i]? = some c->us[i]? = some u->dm F u c):dm F (.agg us.toArray) (.ag vs)
 | mt {ao:Option Addr}:dm F (.slice ao 0 0) .mt
 | bF {ao:Option Addr} {id b n c:Nat} (ha:0<c->ao=some ⟨b,0,none⟩) (hc:n<=c):dm F (.slice ao n c) (.bF id b n c)
 | xI {ao:Option Addr} {id b sz o n c:Nat} (ha:0<c->ao=some ⟨b,o*sz,none⟩) (hc:n<=c):dm F (.slice ao n c) (.xI id b sz o n c)
 | ptr {id b off:Nat}:dm F (.pointer (some ⟨b,off,none⟩)) (.ptr id b off)
 | pW {id b sz i j:Nat}:dm F (.pointer (some ⟨b,i*sz+j,none⟩)) (.pW id b sz i j)
 | ref {ad : Addr} {cs : List D} {us : Nat -> Value} (h : ∀ (k : Nat) (c : D), cs[k]? = some c -> DY F (ad.add k) = some (us k) /\ (us k).oneCell' = true /\ Rep F (us k) c) :
   dm F (.pointer (some ad)) (.ref cs)
 | jS {us:List Value} {vs:List V} (hl:us.length=vs.length) (hr:∀ (i:Nat) (c:V) (u:Value),vs[i]? = some c->us[i]? = some u->dm F u c):dm F (.tuple us.toArray) (.jS vs)
 | fn {f : Nat} {us : List Value} {vs : List V} (hl : us.length = vs.length) (hr : ∀ (i : Nat) (c : V) (u : Value), vs[i]? = some c -> us[i]? = some u -> dm F u c) :
   dm F (.func (.func f) #[] us.toArray) (.fn f vs)
 | JX {t:Nat} {u:Value} {x:V} (h:dm F u x):dm F (.iface t u) (.JX t x)
 | junk {v:Value}:dm F v .junk
theorem dm.mono {F F':Hp}(h:Hp.le F F'){v:Value}{x:V}(hr:dm F v x):dm F' v x:=by
 induction hr with
 | d h' ho=>exact .d (h'.mono h) ho
 | ag hl ho _ ih=>exact .ag hl ho ih
 | mt=>exact .mt
 | bF ha hc=>exact .bF ha hc
 | xI ha hc=>exact .xI ha hc
 | ptr=>exact .ptr
 | pW=>exact .pW
 | ref h'=>exact .ref λk c hk=>let ⟨a,b,c'⟩:=h' k c hk;⟨KT h a,b,c'.mono h⟩
 | jS hl _ ih=>exact .jS hl ih
 | fn hl _ ih=>exact .fn hl ih
 | JX _ ih=>exact .JX ih
 | junk=>exact .junk
inductive iE where
 | box (b t:Nat) (cells:List V)
 | row (b c e sz:Nat) (es:List D)
 | pool (e sz:Nat) (rs:List (Nat × List D))
 | YK (b c e e2 sz:Nat) (rs:List (Nat × List D))
def OE (b n c:Nat):D:=.sc (.slice (some ⟨b,0,none⟩) n c)
def RY (p:Nat × List D):D:=OE p.1 p.2.length p.2.length
def lC (rs:List (Nat × List D))(k:Nat):Prop:=∃ p,p ∈ rs/\0<p.2.length/\k=p.1
def iE.owns:iE->Nat->Prop
 | .box b _ _,k=>k=b
 | .row b c _ _ _,k=>0<c/\k=b
 | .pool _ _ rs,k=>lC rs k
 | .YK b c _ _ _ rs,k=>(0<c/\k=b) \/ lC rs k
def lX (F:Hp)(w:World)(b c e sz:Nat)(es:List D):Prop :=
 es.length<=c/\(∀ x,x ∈ es->x.cells.length=sz)/\(0<c->∃ cs:List Value,w.heap[b]? = some (.cells cs.toArray e (0,0))/\cs.length=c*sz /\
   (∀ u,u ∈ cs->u.oneCell' = true)/\∀ (i:Nat) (d:D) (u:Value),(es.flatMap D.cells)[i]? = some d->cs[i]? = some u->Rep F u d)
def uG (F:Hp)(w:World)(e sz:Nat)(rs:List (Nat × List D)):Prop :=
 (∀ (i j:Nat) (p q:Nat × List D),rs[i]? = some p->rs[j]? = some q->0<p.2.length->0<q.2.length->p.1=q.1->i=j)/\∀ p,p ∈ rs->lX F w p.1 p.2.length e sz p.2
def vg (F:Hp)(w:World):iE->Prop
 | .box b t cells => ∃ cs : List Value, w.heap[b]? = some (.cells cs.toArray t (0, 0)) /\ cs.length = cells.length /\ (∀ u, u ∈ cs -> u.oneCell' = true) /\
   ∀ (i:Nat) (c:V) (u:Value),cells[i]? = some c->cs[i]? = some u->dm F u c
 | .row b c e sz es=>lX F w b c e sz es
 | .pool e sz rs=>uG F w e sz rs
 | .YK b c e e2 sz rs=>lX F w b c e 1 (rs.map RY)/\uG F w e2 sz rs/\(0<c->¬ lC rs b)
abbrev Mem:=Nat->Option iE
structure wI (F:Hp) (M:Mem) (w:World):Prop where
 rM:Hp.Sl F w
 own:∀ id blk,M id=some blk->vg F w blk
 apart:∀ id blk k,M id=some blk->blk.owns k->F k=none
 inj:∀ id id' blk jE k,M id=some blk->M id' = some jE -> blk.owns k->jE.owns k->id=id'
structure Grow (S:Nat->Prop) (w w':World):Prop where
 os:w'.os=w.os
 tape:w'.tape=w.tape
 output:w'.output=w.output
 size:w.heap.size<=w'.heap.size
 block:∀ k,k<w.heap.size->¬ S k->w'.heap[k]? = w.heap[k]?
theorem Grow.refl (S:Nat->Prop)(w:World):Grow S w w:=⟨rfl,rfl,rfl,Nat.le_refl _,λ_ _ _=>rfl⟩
theorem Grow.trans {S T:Nat->Prop}{a b c:World}(h:Grow S a b)(k:Grow T b c)(hT:∀ i,i<a.heap.size->T i->S i):Grow S a c :=
 ⟨k.os.trans h.os,k.tape.trans h.tape,k.output.trans h.output,Nat.le_trans h.size k.size,
  λi hi hs=>(k.block i (Nat.lt_of_lt_of_le hi h.size) (λht=>hs (hT i hi ht))).trans (h.block i hi hs)⟩
theorem Grow.mono {S T:Nat->Prop}{a b:World}(h:Grow S a b)(hT:∀ i,S i->T i):Grow T a b :=
 ⟨h.os,h.tape,h.output,h.size,λi hi hs=>h.block i hi λx=>hs (hT i x)⟩
structure Ext (F:Hp) (w:World) (F':Hp) (w':World):Prop where
 grow:Grow (λ_=>False) w w'
 le:Hp.le F F'
 rM:Hp.Sl F' w'
 new:∀ k,F k=none->F' k≠none->w.heap.size<=k
theorem Ext.refl {F:Hp}{w:World}(h:Hp.Sl F w):Ext F w F w:=⟨Grow.refl _ _,Hp.le.refl _,h,λ_ h h'=>absurd h h'⟩
theorem Ext.trans {F G H:Hp}{a b c:World}(h:Ext F a G b)(k:Ext G b H c):Ext F a H c :=
 ⟨h.grow.trans k.grow λ_ _ x=>x,h.le.trans k.le,k.rM,λi hi hn=>by
  cases hg:G i with
  | none=>exact Nat.le_trans h.grow.size (k.new i hg hn)
  | some o=>exact h.new i hi (by rw[hg];simp)⟩
theorem Grow.drew {S:Nat->Prop}{w w':World}(h:Grow S w w')(n:Nat):Grow S w { w' with drawn:=n }:=⟨h.os,h.tape,h.output,h.size,h.block⟩
theorem QB {w:World}{k:Nat}{o:Obj}(h:w.heap[k]? = some o):k<w.heap.size:=by
 rcases Nat.lt_or_ge k w.heap.size with hl|hl
 .exact hl
 .rw[Array.getElem?_eq_none hl] at h;cases h
theorem Hp.Sl.lt {F:Hp}{w:World}(h:Hp.Sl F w){k:Nat}{o:Obj}(hk:F k=some o):k<w.heap.size:=QB (h _ _ hk)
theorem lX.keep {F F':Hp}{w w':World}{b c e sz:Nat}{es:List D}(h:lX F w b c e sz es)(hF:Hp.le F F')(hw:0<c->w'.heap[b]? = w.heap[b]?):lX F' w' b c e sz es:=by
 obtain⟨h0,h1,h2⟩:=h
 refine⟨h0,h1,λhc=>?_⟩
 obtain⟨cs,a1,a2,a3,a4⟩:=h2 hc
 exact⟨cs,by rw[hw hc];exact a1,a2,a3,λi d u x y=>(a4 i d u x y).mono hF⟩
theorem uG.keep {F F':Hp}{w w':World}{e sz:Nat}{rs:List (Nat × List D)}(h:uG F w e sz rs)(hF:Hp.le F F')(hw:∀ k,lC rs k->w'.heap[k]? = w.heap[k]?):uG F' w' e sz rs :=
 ⟨h.1,λp hp=>(h.2 p hp).keep hF λhc=>hw p.1 ⟨p,hp,hc,rfl⟩⟩
theorem lX.lt {F:Hp}{w:World}{b c e sz:Nat}{es:List D}(h:lX F w b c e sz es)(hc:0<c):b<w.heap.size:=by
 obtain⟨cs,h1,_⟩:=h.2.2 hc
 exact QB h1
theorem uG.lt {F:Hp}{w:World}{e sz:Nat}{rs:List (Nat × List D)}(h:uG F w e sz rs){k:Nat}(hk:lC rs k):k<w.heap.size:=by
 obtain⟨p,hp,hc,rfl⟩:=hk
 exact (h.2 p hp).lt hc
theorem vg.keep {F F':Hp}{w w':World}{blk:iE}(h:vg F w blk)(hF:Hp.le F F')(hw:∀ k,blk.owns k->w'.heap[k]? = w.heap[k]?):vg F' w' blk:=by
 cases blk with
 | box b t cells =>
  obtain⟨cs,h1,h2,h3,h4⟩:=h
  exact⟨cs,by rw[hw b rfl];exact h1,h2,h3,λi c u a b=>(h4 i c u a b).mono hF⟩
 | row b c e sz es=>exact lX.keep h hF λhc=>hw b ⟨hc,rfl⟩
 | pool e sz rs=>exact uG.keep h hF hw
 | YK b c e e2 sz rs=>exact⟨lX.keep h.1 hF λhc=>hw b (.inl ⟨hc,rfl⟩),uG.keep h.2.1 hF λk hk=>hw k (.inr hk),h.2.2⟩
theorem vg.lt {F:Hp}{w:World}{blk:iE}(h:vg F w blk){k:Nat}(hk:blk.owns k):k<w.heap.size:=by
 cases blk with
 | box b t cells=>obtain⟨cs,h1,_⟩:=h;cases hk;exact QB h1
 | row b c e sz es=>obtain⟨hc,rfl⟩:=hk;exact lX.lt h hc
 | pool e sz rs=>exact uG.lt h hk
 | YK b c e e2 sz rs =>
  rcases hk with ⟨hc,rfl⟩|hk
  .exact lX.lt h.1 hc
  .exact uG.lt h.2.1 hk
theorem wI.ext {F F':Hp}{M:Mem}{w w':World}(h:wI F M w)(x:Ext F w F' w'):wI F' M w':=by
 refine⟨x.rM,λid blk hm=>(h.own id blk hm).keep x.le λk hk=>x.grow.block k ((h.own id blk hm).lt hk) (λy=>y),λid blk k hm hk=>?_,h.inj⟩
 cases hf:F' k with
 | none=>rfl
 | some o =>
  have:=x.new k (h.apart id blk k hm hk) (by rw[hf];simp)
  have:=(h.own id blk hm).lt hk
  omega
def upd {α:Type}(f:Nat->α)(i:Nat)(v:α):Nat->α:=λj=>if j=i then v else f j
@[simp] theorem upd_same {α:Type} (f:Nat->α) (i:Nat) (v:α):upd f i v i=v:=by simp[upd]
theorem upd_ne {α:Type}(f:Nat->α){i j:Nat}(v:α)(h:j≠i):upd f i v j=f j:=by simp[upd,h]
theorem tC {α:Type}(f:Nat->α){i j:Nat}(v u:α)(h:i≠j):upd (upd f i v) j u=upd (upd f j u) i v:=by
 funext k
 unfold upd
 by_cases h1:k=i <;> by_cases h2:k=j <;> simp_all
structure S where
 ρ:Nat->V
 M:Mem
def S.put (s:S)(dst:Option Nat)(v:V):S :=
 match dst with
 | some d=>⟨upd s.ρ d v,s.M⟩
 | none=>s
def aa8:Value->V
 | .slice none 0 0=>.mt
 | .bool b=>.d (.sc (.bool b))
 | .int k n=>.d (.sc (.int k n))
 | .string s=>.d (.sc (.string s))
 | .pointer none=>.d (.sc (.pointer none))
 | .nilFunc=>.d (.sc .nilFunc)
 | .nilIface=>.d (.sc .nilIface)
 | _=>.junk
def S.ev (s:S):Operand->V
 | .tmp t=>s.ρ t
 | .const v=>aa8 v
 | .func f=>.fn f []
 | .global _=>.junk
theorem GL (F:Hp)(v:Value):dm F v (aa8 v):=by
 unfold aa8
 split <;> first|exact .mt|exact .d (.sc rfl) rfl|exact .junk
structure Env where
 w0:World
 F0:Hp
 H:Nat->Prop
 n:Nat
structure Run (E:Env) (F:Hp) (s:S) (a:Act) (w:World):Prop where
 gU:wI F s.M w
 grow:Grow E.H E.w0 w
 f0:Hp.le E.F0 F
 yc:∀ k,E.F0 k=none->F k≠none->E.w0.heap.size<=k \/ E.H k
 kM:∀ id blk k,s.M id=some blk->blk.owns k->E.w0.heap.size<=k \/ E.H k
 size:a.tmps.size=E.n
 defers:a.defers=[]
 slots:∀ t,dm F (a.tmps.getD t undef) (s.ρ t)
theorem Run.eval {E:Env}{F:Hp}{s:S}{a:Act}{w:World}(h:Run E F s a w)(x:Operand):dm F (a.eval x) (s.ev x):=by
 cases x with
 | tmp t=>simpa [Act.eval,S.ev] using h.slots t
 | const v=>exact GL F v
 | func f=>exact .fn (us:=[]) rfl (λi c u hc _=>by simp at hc)
 | global g=>exact .junk
def oV (n:Nat):Option Nat->Prop
 | some d=>d<n
 | none=>True
theorem OH {E:Env}{F F':Hp}{s:S}{a:Act}{w:World}(h:Run E F s a w)(hle:Hp.le F F'){dst:Option Nat}(hd:oV E.n dst){u:Value}{v:V}(hv:dm F' u v) :
  (a.put dst u).tmps.size=E.n/\(a.put dst u).defers=[]/\∀ t,dm F' ((a.put dst u).tmps.getD t undef) ((s.put dst v).ρ t):=by
 cases dst with
 | none=>exact⟨h.size,h.defers,λt=>(h.slots t).mono hle⟩
 | some d =>
  refine⟨by simpa [Act.put] using h.size,h.defers,λt=>?_⟩
  have hd':d<a.tmps.size:=by rw[h.size];exact hd
  simp only[Act.put,S.put,upd]
  by_cases ht:t=d
  .subst ht
   simpa [Array.getD_eq_getD_getElem?,Array.getElem?_setIfInBounds,hd'] using hv
  .have:=(h.slots t).mono hle
   simp only[Array.getD_eq_getD_getElem?] at this
   simp only[if_neg ht,Array.getD_eq_getD_getElem?,Array.getElem?_setIfInBounds,if_neg (Ne.symm ht)]
   exact this
theorem S.xJ (s:S)(dst:Option Nat)(v:V):(s.put dst v).M=s.M:=by cases dst <;> rfl
theorem Run.QC {E:Env}{F F':Hp}{s:S}{a:Act}{w w':World}(h:Run E F s a w)(x:Ext F w F' w'){dst:Option Nat}(hd:oV E.n dst){u:Value}{v:V}(hv:dm F' u v) :
  Run E F' (s.put dst v) (a.put dst u) w':=by
 obtain⟨h1,h2,h3⟩:=OH h x.le hd hv
 refine⟨by rw[S.xJ];exact h.gU.ext x,h.grow.trans x.grow (λ_ _ f=>f.elim),h.f0.trans x.le,λk hk hn=>?_,by rw[S.xJ];exact h.kM,h1,h2,h3⟩
 cases hf:F k with
 | none=>exact .inl (Nat.le_trans h.grow.size (x.new k hf hn))
 | some o=>exact h.yc k hk (by rw[hf];simp)
structure bD (P:Program) (t e sz eF:Nat):Prop where
 u:P.underlying t=some (.slice e)
 i:(P.info? e).map (λi=>(i.zero.map (λz=>(z.cells.size,z.cells.all (·.oneCell'))),i.size,i.bytes))=some (some (sz,true),sz,eF)
 pos:0<sz
structure xK (P:Program) (t n:Nat):Prop where
 u:(P.underlying t).map (λd=>match d with|.struct _=>true|_=>false)=some true
 i:(P.info? t).map (·.size)=some n
structure jr (P:Program) (t:Nat):Prop where
 u:(P.underlying t).map (λd=>match d with|.struct _|.array _ _=>true|_=>false)=some false
 i:(P.info? t).map (·.size)=some 1
structure dG (P:Program) (t f off:Nat):Prop where
 u:(P.underlying t).bind (λd=>match d with|.struct fs=>(fs[f]?).map (λx=>(x.offset,((P.info? x.type).map (·.size)).getD 0 == 0,(P.info? x.type).isSome))|_=>none)=some (off,false,true)
structure Cf (P:Program) (t f off:Nat):Prop where
 u:(P.underlying t).bind (λd=>match d with|.struct fs=>(fs[f]?).map (λx=>(x.offset,(P.underlying x.type).map (λd=>match d with|.struct _|.array _ _=>true|_=>false)))|_=>none)=some (off,some false)
structure eU (P:Program) (t:Nat) (zs:List V):Prop where
 i:(P.info? t).bind (λi=>i.zero.map (λz=>(z.cells.toList.map aa8,z.cells.all (·.oneCell'),i.size)))=some (zs,true,zs.length)
structure JY (P:Program) (t:Nat) (k:IntKind):Prop where
 u:P.underlying t=some (.int k)
structure KU (P:Program) (t:Nat):Prop where
 u:P.underlying t=some .bool
theorem bD.parts {P:Program}{t e sz eF:Nat}(h:bD P t e sz eF):∃ i z,P.info? e=some i/\i.zero=some z/\z.cells.size=sz/\i.size=sz/\i.bytes=eF:=by
 have:=h.i
 cases hi:P.info? e with
 | none=>simp[hi] at this
 | some i =>
  simp only[hi,Option.map_some,Option.some.injEq,Prod.mk.injEq] at this
  obtain⟨h1,h2,h3⟩:=this
  cases hz:i.zero with
  | none=>simp[hz] at h1
  | some z =>
   simp only[hz,Option.map_some,Option.some.injEq,Prod.mk.injEq] at h1
   exact⟨i,z,rfl,hz,h1.1,h2,h3⟩
theorem bD.one {P:Program}{t e sz eF:Nat}(h:bD P t e sz eF){i:TypeInfo}{z:Value}(hi:P.info? e=some i)(hz:i.zero=some z):∀ u,u ∈ z.cells.toList->u.oneCell' = true:=by
 have:=h.i
 simp only[hi,hz,Option.map_some,Option.some.injEq,Prod.mk.injEq] at this
 intro u hu
 have h2:=Array.all_eq_true.1 this.1.2
 obtain⟨j,hj,rfl⟩:=List.mem_iff_getElem.1 hu
 simpa using h2 j (by simpa using hj)
theorem xK.run {P:Program}{t n:Nat}(h:xK P t n)(w:World):(isAgg t).run P w=.ok true w/\(sizeOf t).run P w=.ok n w:=by
 obtain⟨hu,hi⟩:=h
 cases hd:P.underlying t with
 | none=>simp[hd] at hu
 | some d =>
  cases hq:P.info? t with
  | none=>simp[hq] at hi
  | some i =>
   simp only[hq,Option.map_some,Option.some.injEq] at hi
   cases d <;> simp[hd] at hu
   exact⟨by simp[isAgg,run_underlying hd],by simp[sizeOf,typeInfo,hq,hi]⟩
theorem jr.run {P:Program}{t:Nat}(h:jr P t)(w:World):(isAgg t).run P w=.ok false w/\(sizeOf t).run P w=.ok 1 w:=by
 obtain⟨hu,hi⟩:=h
 cases hd:P.underlying t with
 | none=>simp[hd] at hu
 | some d =>
  cases hq:P.info? t with
  | none=>simp[hq] at hi
  | some i =>
   simp only[hq,Option.map_some,Option.some.injEq] at hi
   refine⟨?_,by simp[sizeOf,typeInfo,hq,hi]⟩
   cases d <;> simp[hd] at hu <;> simp[isAgg,run_underlying hd]
theorem dG.run {P:Program}{t f off:Nat}(h:dG P t f off)(a:Addr)(w:World) :
  (Instr.fieldAt t (.pointer (some a)) f).run P w=.ok (.pointer (some (a.add off))) w:=by
 have hu:=h.u
 cases hd:P.underlying t with
 | none=>simp[hd] at hu
 | some d =>
  cases d with
  | struct fs =>
   simp only[hd,Option.bind_some] at hu
   cases hf:fs[f]? with
   | none=>simp[hf] at hu
   | some x =>
    simp only[hf,Option.map_some,Option.some.injEq,Prod.mk.injEq] at hu
    obtain⟨h1,h2,h3⟩:=hu
    cases hq:P.info? x.type with
    | none=>simp[hq] at h3
    | some i =>
     have hs:i.size≠0:=by simpa [hq] using h2
     simp[Instr.fieldAt,run_underlying hd,hf,Instr.sureAddr,fieldPlace,sizeOf,typeInfo,hq,hs,h1]
  | _=>simp[hd] at hu
theorem Cf.run {P:Program}{t f off:Nat}(h:Cf P t f off){cs:Array Value}{v:Value}(hv:cs[off]? = some v)(w:World):(Instr.field t (.agg cs) f).run P w=.ok v w:=by
 have hu:=h.u
 cases hd:P.underlying t with
 | none=>simp[hd] at hu
 | some d =>
  cases d with
  | struct fs =>
   simp only[hd,Option.bind_some] at hu
   cases hf:fs[f]? with
   | none=>simp[hf] at hu
   | some x =>
    simp only[hf,Option.map_some,Option.some.injEq,Prod.mk.injEq] at hu
    obtain⟨h1,h2⟩:=hu
    cases hq:P.underlying x.type with
    | none=>simp[hq] at h2
    | some dx =>
     have hag:(isAgg x.type).run P w=.ok false w:=by
      rw[hq] at h2
      cases dx <;> simp at h2 <;> simp[isAgg,run_underlying hq]
     simp[Instr.field,run_underlying hd,hf,part,asAgg,hag,h1,hv]
  | _=>simp[hd] at hu
theorem eU.parts {P:Program}{t:Nat}{zs:List V}(h:eU P t zs):∃ i z,P.info? t=some i/\i.zero=some z/\z.cells.toList.map aa8=zs/\z.cells.all (·.oneCell')=true/\i.size=zs.length:=by
 have:=h.i
 cases hi:P.info? t with
 | none=>simp[hi] at this
 | some i =>
  cases hz:i.zero with
  | none=>simp[hi,hz] at this
  | some z =>
   simp only[hi,hz,Option.bind_some,Option.map_some,Option.some.injEq,Prod.mk.injEq] at this
   exact⟨i,z,rfl,hz,this.1,this.2.1,this.2.2⟩
theorem eU.zero {P:Program}{t:Nat}{zs:List V}(h:eU P t zs)(w:World) :
  ∃ z:Value,(zeroValue t).run P w=.ok z w/\z.cells.toList.length=zs.length/\(∀ u,u ∈ z.cells.toList->u.oneCell' = true)/\∀ (F:Hp) (i:Nat) (c:V) (u:Value),zs[i]? = some c->z.cells.toList[i]? = some u->dm F u c:=by
 obtain⟨i,z,hi,hz,h1,h2,h3⟩:=h.parts
 refine⟨z,by simp[zeroValue,typeInfo,hi,hz],by rw[<- h1];simp,λu hu=>?_,λF j c u hc hu=>?_⟩
 .have:=Array.all_eq_true.1 h2
  obtain⟨j,hj,rfl⟩:=List.mem_iff_getElem.1 hu
  simpa using this j (by simpa using hj)
 .rw[<- h1,List.getElem?_map,hu] at hc
  simp only[Option.map_some,Option.some.injEq] at hc
  rw[<- hc]
  exact GL F u
theorem IL {F:Hp}{v:Value}{d:D}(h:Rep F v d):v.cells.toList.length=d.cells.length/\(∀ u,u ∈ v.cells.toList->u.oneCell' = true) /\
  ∀ (i:Nat) (c:D) (u:Value),d.cells[i]? = some c->v.cells.toList[i]? = some u->Rep F u c:=by
 cases h with
 | sc h =>
  cases v <;> first|(simp[Value.oneCell'] at h;done)|(refine⟨rfl,by simp[Value.cells,Value.oneCell'],λi c u hc hu=>?_⟩;cases i <;> simp[D.cells,Value.cells] at hc hu;subst hc hu;exact .sc rfl)
 | sl hn hc hsz ha ho hr =>
  refine⟨rfl,by simp[Value.cells,Value.oneCell'],λi c u hc' hu=>?_⟩
  cases i <;> simp[D.cells,Value.cells] at hc' hu
  subst hc' hu
  exact .sl hn hc hsz ha ho hr
 | ag hl ho hr=>exact⟨by simpa [Value.cells,D.cells] using hl,by simpa [Value.cells] using ho,λi c u hc hu=>hr i c u hc (by simpa [Value.cells] using hu)⟩
theorem F7 {F:Hp}{v:Value}{x:V}(h:dm F v x)(hx:x.plain=true) :
  v.cells.toList.length=x.cells.length/\(∀ u,u ∈ v.cells.toList->u.oneCell' = true) /\
  ∀ (i:Nat) (c:V) (u:Value),x.cells[i]? = some c->v.cells.toList[i]? = some u->dm F u c:=by
 cases h with
 | @d _ y h ho =>
  have hv:v.cells = #[v]:=by cases v <;> first|rfl|(simp[Value.oneCell'] at ho)
  rw[hv]
  refine⟨rfl,by simpa using ho,λi c u hc hu=>?_⟩
  cases i <;> simp[V.cells] at hc hu
  subst hc hu
  exact .d h ho
 | ag hl ho hr=>exact⟨by simpa [Value.cells,V.cells] using hl,by simpa [Value.cells] using ho,λi c u hc hu=>hr i c u hc (by simpa [Value.cells] using hu)⟩
 | jS=>simp[V.plain] at hx
 | junk=>simp[V.plain] at hx
 | mt=>refine⟨rfl,by simp[Value.cells,Value.oneCell'],λi c u hc hu=>?_⟩;cases i <;> simp[V.cells,Value.cells] at hc hu;subst hc hu;exact .mt
 | bF ha hc'=>refine⟨rfl,by simp[Value.cells,Value.oneCell'],λi c u hc hu=>?_⟩;cases i <;> simp[V.cells,Value.cells] at hc hu;subst hc hu;exact .bF ha hc'
 | xI ha hc'=>refine⟨rfl,by simp[Value.cells,Value.oneCell'],λi c u hc hu=>?_⟩;cases i <;> simp[V.cells,Value.cells] at hc hu;subst hc hu;exact .xI ha hc'
 | ptr=>refine⟨rfl,by simp[Value.cells,Value.oneCell'],λi c u hc hu=>?_⟩;cases i <;> simp[V.cells,Value.cells] at hc hu;subst hc hu;exact .ptr
 | pW=>refine⟨rfl,by simp[Value.cells,Value.oneCell'],λi c u hc hu=>?_⟩;cases i <;> simp[V.cells,Value.cells] at hc hu;subst hc hu;exact .pW
 | ref h=>refine⟨rfl,by simp[Value.cells,Value.oneCell'],λi c u hc hu=>?_⟩;cases i <;> simp[V.cells,Value.cells] at hc hu;subst hc hu;exact .ref h
 | fn hl hr=>refine⟨rfl,by simp[Value.cells,Value.oneCell'],λi c u hc hu=>?_⟩;cases i <;> simp[V.cells,Value.cells] at hc hu;subst hc hu;exact .fn hl hr
 | JX h=>refine⟨rfl,by simp[Value.cells,Value.oneCell'],λi c u hc hu=>?_⟩;cases i <;> simp[V.cells,Value.cells] at hc hu;subst hc hu;exact .JX h
def bG (x y:V):Prop:=∀ (F:Hp) (v:Value),dm F v x->dm F v y
def VD (x:V)(y:D):Prop:=∀ (F:Hp) (v:Value),dm F v x->Rep F v y
def VC (x:V)(y:D):Prop:=∀ (F:Hp) (v:Value),dm F v x->Rep F v y/\v.oneCell' = true
theorem bG.refl (x:V):bG x x:=λ_ _ h=>h
theorem vR{v:V}:bG v v:=bG.refl v
theorem bG.trans {x y z:V}(h:bG x y)(k:bG y z):bG x z:=λF v s=>k F v (h F v s)
theorem Rep.nil_ {F:Hp}{ao:Option Addr}{c:Nat}:Rep F (.slice ao 0 c) (.sl []) :=
 .sl (sz:=0) (us:=λ_=>.bool true) rfl (Nat.zero_le _) (by simp) (by simp) (by simp) (by simp)
theorem VC.d (x:D):VC (.d x) x:=λF v h=>by cases h with|d h ho=>exact⟨h,ho⟩
theorem VC.mt:VC .mt (.sl []):=λF v h=>by cases h with|mt=>exact⟨Rep.nil_,rfl⟩
theorem VC.vle {x:V}{y:D}(h:VC x y):bG x (.d y):=λF v s=>let ⟨a,b⟩:=h F v s;.d a b
theorem VC.vd {x:V}{y:D}(h:VC x y):VD x y:=λF v s=>(h F v s).1
theorem bG.mt:bG .mt (.d (.sl [])):=VC.mt.vle
theorem bG.junk (x:V):bG x .junk:=λ_ _ _=>.junk
inductive VCs:List V->List D->Prop
 | nil:VCs [] []
 | cons {x:V} {y:D} {xs:List V} {ys:List D} (h:VC x y) (t:VCs xs ys):VCs (x::xs) (y::ys)
inductive fH:List V->List V->Prop
 | nil:fH [] []
 | cons {x y:V} {xs ys:List V} (h:bG x y) (t:fH xs ys):fH (x::xs) (y::ys)
theorem fH.refl:∀ xs:List V,fH xs xs
 | []=>.nil
 | _::r=>.cons vR (fH.refl r)
theorem vL{xs:List V}:fH xs xs:=fH.refl xs
theorem VCs.length {xs:List V}{ys:List D}(h:VCs xs ys):xs.length=ys.length:=by induction h <;> simp_all
theorem fH.length {xs ys:List V}(h:fH xs ys):xs.length=ys.length:=by induction h <;> simp_all
theorem VCs.get {xs:List V}{ys:List D}(h:VCs xs ys):∀ (i:Nat) (y:D),ys[i]? = some y->∃ x,xs[i]? = some x/\VC x y:=by
 induction h with
 | nil=>intro i y hy;simp at hy
 | cons h t ih =>
  intro i y hy
  cases i with
  | zero=>simp at hy;subst hy;exact⟨_,rfl,h⟩
  | succ i=>simpa using ih i y (by simpa using hy)
theorem fH.get {xs ys:List V}(h:fH xs ys):∀ (i:Nat) (y:V),ys[i]? = some y->∃ x,xs[i]? = some x/\bG x y:=by
 induction h with
 | nil=>intro i y hy;simp at hy
 | cons h t ih =>
  intro i y hy
  cases i with
  | zero=>simp at hy;subst hy;exact⟨_,rfl,h⟩
  | succ i=>simpa using ih i y (by simpa using hy)
theorem VCs.Sr (ds:List D):VCs (ds.map .d) ds:=by induction ds with|nil=>exact .nil|cons d r ih=>exact .cons (VC.d d) ih
theorem VD.ag {vs:List V}{ds:List D}(h:VCs vs ds):VD (.ag vs) (.ag ds):=λF v s=>by
 cases s with
 | ag hl ho hr =>
  refine .ag (by rw[hl];exact h.length) ho λi d u hd hu=>?_
  obtain⟨x,hx,hc⟩:=h.get i d hd
  exact (hc F u (hr i x u hx hu)).1
theorem bG.ag {vs us:List V}(h:fH vs us):bG (.ag vs) (.ag us):=λF v s=>by
 cases s with
 | ag hl ho hr =>
  refine .ag (by rw[hl];exact h.length) ho λi d u hd hu=>?_
  obtain⟨x,hx,hc⟩:=h.get i d hd
  exact hc F u (hr i x u hx hu)
theorem bG.JX {t:Nat}{x y:V}(h:bG x y):bG (.JX t x) (.JX t y):=λF v s=>by
 cases s with
 | JX k=>exact .JX (h F _ k)
theorem bG.jS {vs us:List V}(h:fH vs us):bG (.jS vs) (.jS us):=λF v s=>by
 cases s with
 | jS hl hr =>
  refine .jS (by rw[hl];exact h.length) λi d u hd hu=>?_
  obtain⟨x,hx,hc⟩:=h.get i d hd
  exact hc F u (hr i x u hx hu)
def pX (P:Program) (f:Nat):Prop:=((P.funcs[f]?).map λfn=>(fn.name == "runtime.NumGoroutine",fn.body.isNone))=some (false,false)
def jM (M:Mem)(k:Nat):Prop:=∃ id blk,M id=some blk/\blk.owns k
def kU (F:Hp)(us:List Value)(xs:List V):Prop:=us.length=xs.length/\∀ (i:Nat) (x:V) (u:Value),xs[i]? = some x->us[i]? = some u->dm F u x
structure After (F:Hp) (M:Mem) (w:World) (F':Hp) (M':Mem) (w':World):Prop where
 grow:Grow (jM M) w w'
 le:Hp.le F F'
 gU:wI F' M' w'
 new:∀ k,F k=none->F' k≠none->w.heap.size<=k \/ jM M k
 kM:∀ k,jM M' k->w.heap.size<=k \/ jM M k
def eX (P:Program)(f:Nat)(args:List V)(M:Mem)(res:V)(M':Mem):Prop :=
 pX P f/\∀ (F:Hp) (w:World) (vals:List Value),wI F M w->kU F vals args ->
  Calls P f vals.toArray w λe w'=>∃ v F',e=.returned v/\After F M w F' M' w' /\ dm F' v res
def jO:Mem:=λ_=>none
def aj (P:Program)(f:Nat)(args:List V)(res:V):Prop :=
 pX P f/\∀ (F:Hp) (w:World) (vals:List Value),Hp.Sl F w->kU F vals args ->
  Calls P f vals.toArray w λe w'=>∃ v F',e=.returned v/\Ext F w F' w' /\ dm F' v res
def jd (P:Program)(f:Nat)(args:List V)(n e sz:Nat)(es:List D):Prop :=
 pX P f/\∀ (F:Hp) (w:World) (vals:List Value),Hp.Sl F w->kU F vals args ->
  Calls P f vals.toArray w λx w'=>∃ v F' b c,x=.returned v/\Ext F w F' w' /\ dm F' v (.bF 0 b n c)/\vg F' w' (.row b c e sz es)/\∀ k,(iE.row b c e sz es).owns k->w.heap.size<=k/\F' k=none
def KW (P:Program)(f:Nat)(args:List V)(n e e2 sz:Nat)(rows:List (List D)):Prop :=
 pX P f/\∀ (F:Hp) (w:World) (vals:List Value),Hp.Sl F w->kU F vals args ->
  Calls P f vals.toArray w λx w'=>∃ (v:Value) (F':Hp) (b c:Nat) (bs:List Nat),x=.returned v/\Ext F w F' w' /\ dm F' v (.bF 0 b n c)/\bs.length=rows.length/\vg F' w' (.YK b c e e2 sz (bs.zip rows))/\∀ k,(iE.YK b c e e2 sz (bs.zip rows)).owns k->w.heap.size<=k/\F' k=none
def JZ:List Nat->Nat
 | []=>0
 | b::r=>2 ^ b*(2*JZ r+1)
theorem Xk:∀ (a b x y:Nat),2 ^ a*(2*x+1)=2 ^ b*(2*y+1)->a=b/\x=y
 | 0,0,x,y,h=>⟨rfl,by simp at h;omega⟩
 | 0,b+1,x,y,h=>by rw[Nat.pow_succ,Nat.mul_right_comm] at h;omega
 | a+1,0,x,y,h=>by rw[Nat.pow_succ,Nat.mul_right_comm] at h;omega
 | a+1,b+1,x,y,h=>by
  have e:∀ c z:Nat,2 ^ (c+1)*(2*z+1)=2 ^ c*(2*z+1)*2:=λc z=>by rw[Nat.pow_succ,Nat.mul_right_comm]
  rw[e,e] at h
  obtain⟨h1,h2⟩:=Xk a b x y (Nat.eq_of_mul_eq_mul_right (show 0<2 by decide) h)
  exact⟨by rw[h1],h2⟩
theorem Sv:∀ {l m:List Nat},JZ l=JZ m->l=m
 | [],[],_=>rfl
 | [],b::m,h=>by
  have h1:0<2 ^ b*(2*JZ m+1):=Nat.mul_pos (Nat.two_pow_pos _) (by omega)
  simp only[JZ] at h;omega
 | a::l,[],h=>by
  have h1:0<2 ^ a*(2*JZ l+1):=Nat.mul_pos (Nat.two_pow_pos _) (by omega)
  simp only[JZ] at h;omega
 | a::l,b::m,h=>by
  obtain⟨h1,h2⟩:=Xk _ _ _ _ h
  rw[h1,Sv h2]
open Classical in
noncomputable def aa9 (k:Nat):List Nat:=if h:∃ l,JZ l=k then h.choose else []
def YL (n:Nat)(l:List Nat):List Nat:=(List.range n).map λi=>l.getD i 0
theorem ab1 (n:Nat)(l:List Nat):(YL n l).length=n:=by simp[YL]
theorem YM (l:List Nat):YL l.length l=l:=by
 refine List.ext_getElem (ab1 _ _) λi h1 h2=>?_
 simp[YL,h2]
theorem Xl (l:List Nat):aa9 (JZ l)=l:=by
 have h:∃ m,JZ m=JZ l:=⟨l,rfl⟩
 unfold aa9
 rw[dif_pos h]
 exact Sv h.choose_spec
theorem kH (k:Nat):¬ jM jO k:=λ⟨_,_,h,_⟩=>by cases h
theorem DZ {F:Hp}{w:World}(h:Hp.Sl F w):wI F jO w :=
 ⟨h,λ_ _ h=>(by cases h),λ_ _ _ h=>(by cases h),λ_ _ _ _ _ h=>(by cases h)⟩
theorem aj.ab2 {P:Program}{f:Nat}{args:List V}{res:V}(h:eX P f args jO res jO):aj P f args res :=
 ⟨h.1,λF w vals hF hv=>(h.2 F w vals (DZ hF) hv).mono
  λe w' ⟨v,F',he,ha,hs⟩=>⟨v,F',he,⟨ha.grow.mono (λi h=>kH i h),ha.le,ha.gU.rM,λk a b=>(ha.new k a b).resolve_right (kH k)⟩,hs⟩⟩
theorem aj.le {P:Program}{f:Nat}{args args':List V}{res aX9:V}(h:aj P f args res)(ha:fH args' args)(hr:bG res aX9):aj P f args' aX9:=by
 refine⟨h.1,λF w vals hF hv=>(h.2 F w vals hF ⟨hv.1.trans ha.length,λi x u hx hu=>?_⟩).mono λe w' ⟨v,F',he,hx,hs⟩=>⟨v,F',he,hx,hr _ _ hs⟩⟩
 obtain⟨y,hy,hle⟩:=ha.get i x hx
 exact hle _ _ (hv.2 i y u hy hu)
end Go.AL
namespace Go.AL
open Go
def Good (P:Program)(r:Result Next)(R:Value->World->Prop):Prop :=
 match r with
 | .ok (.value v) w=>R v w
 | .ok .skip w=>R undef w
 | .ok (.enter f args) w=>Calls P f args w λe w'=>∃ v,e=.returned v/\R v w'
 | _=>False
theorem Good.mono {P:Program}{r:Result Next}{R R':Value->World->Prop}(h:Good P r R)(hr:∀ v w,R v w->R' v w):Good P r R':=by
 unfold Good at *
 split at h
 .exact hr _ _ h
 .exact hr _ _ h
 .exact h.mono λe w' ⟨v,he,hv⟩=>⟨v,he,hr _ _ hv⟩
 .exact h.elim
theorem Good.wp {P:Program}{o:Oper}{a:Act}{w:World}{K:Act->World->Prop}{Q:Exit->Act->World->Prop}{R:Value->World->Prop}
  (h:Good P ((execOp a.eval o).run P w) R) (hk:∀ v w',R v w' -> K (a.put o.dst v) w'):o.wp P a w K Q:=by
 unfold Oper.wp
 unfold Good at h
 cases hr:(execOp a.eval o).run P w with
 | ok n w' =>
  rw[hr] at h
  cases n <;> simp only at h <;> simp only[Oper.upon] <;> first|exact h.elim|skip
  .exact hk _ _ h
  .exact hk _ _ h
  .exact h.mono λe w'' ⟨v,he,hv⟩=>by subst he;exact hk _ _ hv
 | halt x w'=>rw[hr] at h;exact h.elim
def bin (op:BinOp)(x y:Value):Option Value :=
 match x,y with
 | .int k a,.int k' b =>
  match op with
  | .add=>if k=k' then some (.int k (k.wrap (a+b))) else none
  | .sub=>if k=k' then some (.int k (k.wrap (a-b))) else none
  | .mul=>if k=k' then some (.int k (k.wrap (a*b))) else none
  | .quo=>if k=k' /\ b≠0 then some (.int k (k.wrap (a.tdiv b))) else none
  | .rem=>if k=k' /\ b≠0 then some (.int k (a.tmod b)) else none
  | .and=>if k=k' then some (.int k (k.wrap ((BitVec.ofInt k.bits a &&& BitVec.ofInt k.bits b).toNat:Int))) else none
  | .or=>if k=k' then some (.int k (k.wrap ((BitVec.ofInt k.bits a ||| BitVec.ofInt k.bits b).toNat:Int))) else none
  | .shl=>if 0<=b then some (.int k (k.wrap (a*2 ^ min b.toNat k.bits))) else none
  | .shr=>if 0<=b then some (.int k (a.fdiv (2 ^ min b.toNat k.bits))) else none
  | .eql=>if k=k' then some (.bool (a == b)) else none
  | .neq=>if k=k' then some (.bool (a != b)) else none
  | .lss=>if k=k' then some (.bool (decide (a<b))) else none
  | .leq=>if k=k' then some (.bool (decide (a<=b))) else none
  | .gtr=>if k=k' then some (.bool (decide (a > b))) else none
  | .geq=>if k=k' then some (.bool (decide (a ≥ b))) else none
  | _=>none
 | _,_=>none
theorem av7 {P:Program}{op:BinOp}{x y r:Value}(h:bin op x y=some r)(t:TypeId)(p q:Operand)(w:World) :
    (do eqGuard op t p q x y;binOp op t x y:Sem Value).run P w=.ok r w:=by
  cases x <;> cases y <;> simp only[bin] at h <;> try (cases h;done)
  rename_i k a k' b
  have hg:(eqGuard op t p q (.int k a) (.int k' b)).run P w=.ok () w:=by
    unfold eqGuard
    split <;> simp
  rw[Sem.run_bind,hg]
  simp only[Result.andThen_ok]
  cases op <;> simp only[] at h <;> (try (cases h;done)) <;> (split at h <;> (try (cases h;done))) <;> rename_i hk <;> cases h <;>
    first
      | (subst hk;simp[binOp,Op.intArith,Op.intCmp];done)
      | (obtain⟨rfl,hb⟩:=hk;simp[binOp,Op.intDiv,hb];done)
      | (subst hk;simp[binOp,Op.intBits];done)
      | (have hk' : ¬ b < 0 := by omega
         simp[binOp,Op.shift,hk'];done)
def Hp.add (F:Hp)(b:Nat)(o:Obj):Hp:=λk=>if k=b then some o else F k
theorem Hp.Sl.fresh {F:Hp}{w:World}(h:Hp.Sl F w){b:Nat}(hb:w.heap.size<=b):F b=none:=by
 cases hf:F b with
 | none=>rfl
 | some o=>have:=h.lt hf;omega
theorem flat_length {es:List D}{sz:Nat}(h:∀ e,e ∈ es->e.cells.length=sz):(es.flatMap D.cells).length=es.length*sz:=by
 induction es with
 | nil=>simp
 | cons e r ih =>
  rw[List.flatMap_cons,List.length_append,ih (λx hx=>h x (List.mem_cons_of_mem _ hx)),h e (List.mem_cons_self ..),List.length_cons,Nat.add_mul]
  omega
theorem flat_get {es:List D}{sz:Nat}(h:∀ e,e ∈ es->e.cells.length=sz){i:Nat}{e:D}(hi:es[i]? = some e)(j:Nat)(hj:j<sz) :
  (es.flatMap D.cells)[i*sz+j]? = e.cells[j]?:=by
 induction es generalizing i with
 | nil=>simp at hi
 | cons x r ih =>
  have hx:=h x (List.mem_cons_self ..)
  cases i with
  | zero =>
   simp at hi;subst hi
   rw[List.flatMap_cons,Nat.zero_mul,Nat.zero_add,List.getElem?_append_left (by omega)]
  | succ i =>
   rw[List.flatMap_cons,List.getElem?_append_right (by rw[hx,Nat.add_mul];omega),hx]
   rw[<- ih (λy hy=>h y (List.mem_cons_of_mem _ hy)) (by simpa using hi)]
   congr 1
   rw[Nat.add_mul];omega
theorem Rep.elem {F:Hp}{ao:Option Addr}{n c:Nat}{es:List D}(h:Rep F (.slice ao n c) (.sl es)){i sz:Nat}{el:D}(hi:es[i]? = some el)(hsz:el.cells.length=sz)(hpos:0<sz) :
  n=es.length/\∃ (ad:Addr) (us:Nat->Value),ao=some ad/\∀ (j:Nat) (d:D),el.cells[j]? = some d->DY F ((ad.add (i*sz)).add j)=some (us j)/\(us j).oneCell' = true/\Rep F (us j) d:=by
 cases h with
 | @sl _ _ _ sz' _ us hn hc hs ha ho hr =>
  have hmem:el ∈ es:=List.mem_of_getElem? hi
  have hil:i<es.length:=(List.getElem?_eq_some_iff.1 hi).1
  have e:sz' = sz:=by rw[<- hs el hmem,hsz]
  subst e
  have hb:∀ j,j<sz' -> i*sz' + j<n*sz':=λj hj=>by
   have:(i+1)*sz' <= n*sz':=Nat.mul_le_mul_right _ (by omega)
   rw[Nat.add_mul] at this;omega
  obtain⟨ad,rfl,_⟩:=ha (i*sz' + 0) (hb 0 hpos)
  refine⟨hn.symm,ad,λj=>us (i*sz' + j),rfl,λj d hd=>?_⟩
  have hj:j<sz':=by rw[<- hsz];exact (List.getElem?_eq_some_iff.1 hd).1
  obtain⟨ad',e,hcell⟩:=ha (i*sz' + j) (hb j hj)
  cases e
  refine⟨?_,ho _ (hb j hj),hr _ d ?_⟩
  .rw[Go.Deep.add_add];exact hcell
  .rw[flat_get hs hi j hj,hd]
theorem YN {es:List D}{sz:Nat}(h:∀ e,e ∈ es->e.cells.length=sz)(l:Nat):(es.drop l).flatMap D.cells=(es.flatMap D.cells).drop (l*sz):=by
 induction es generalizing l with
 | nil=>simp
 | cons x r ih =>
  cases l with
  | zero=>simp
  | succ l =>
   have hx:=h x (List.mem_cons_self ..)
   rw[List.drop_succ_cons,ih (λy hy=>h y (List.mem_cons_of_mem _ hy)),List.flatMap_cons,List.drop_append,hx,show List.drop ((l+1)*sz) x.cells=[] from List.drop_eq_nil_of_le (by rw[hx,Nat.add_mul];omega),List.nil_append]
   congr 1
   rw[Nat.add_mul];omega
theorem uO {es:List D}(k:Nat):∃ r,(es.flatMap D.cells)=(es.take k).flatMap D.cells++r:=by
 refine⟨(es.drop k).flatMap D.cells,?_⟩
 rw[<- List.flatMap_append,List.take_append_drop]
theorem Rep.cut {F:Hp}{ao:Option Addr}{n c:Nat}{es:List D}(h:Rep F (.slice ao n c) (.sl es)){l k sz m:Nat}(hl:l<=k)(hk:k<=n)(hsz:∀ e,e ∈ es->e.cells.length=sz)(hm:k-l<=m)(A:Option Addr)
  (hA:l<k->A=ao.map (·.add (l*sz))):Rep F (.slice A (k-l) m) (.sl ((es.take k).drop l)):=by
 cases h with
 | @sl _ _ _ sz' _ us hn hc hs ha ho hr =>
  by_cases hlk:l<k
  .have e:sz' = sz:=by
    have hm:es[l]'(by omega) ∈ es:=List.getElem_mem _
    rw[<- hs _ hm,hsz _ hm]
   subst e
   have hb:∀ i,i<(k-l)*sz' -> l*sz' + i<n*sz':=λi hi=>by
    have h1:(l+(k-l))*sz' <= n*sz':=Nat.mul_le_mul_right _ (by omega)
    rw[Nat.add_mul] at h1;omega
   have hs':∀ x,x ∈ (es.take k).drop l->x.cells.length=sz':=λx hx=>hsz x (List.mem_of_mem_take (List.mem_of_mem_drop hx))
   refine .sl (sz:=sz') (us:=λi=>us (l*sz' + i)) (by rw[List.length_drop,List.length_take];omega) hm hs' (λi hi=>?_) (λi hi=>ho _ (hb i hi)) (λi d hd=>?_)
   .obtain⟨ad,rfl,hcell⟩:=ha _ (hb i hi)
    exact⟨_,by rw[hA hlk];rfl,by rw[Go.Deep.add_add];exact hcell⟩
   .refine hr _ d ?_
    rw[YN (λx hx=>hsz x (List.mem_of_mem_take hx)),List.getElem?_drop] at hd
    obtain⟨r,hr'⟩:=uO (es:=es) k
    rw[hr',List.getElem?_append_left (List.getElem?_eq_some_iff.1 hd).1]
    exact hd
  .have hk0:k-l=0:=by omega
   have hnil:(es.take k).drop l=[]:=List.drop_eq_nil_of_le (by rw[List.length_take];omega)
   rw[hk0,hnil]
   exact Rep.nil_
def Vo (ev:Operand->V)(o:Option Operand)(dflt b:Nat):Prop :=
 match o with
 | none=>b=dflt
 | some y=>∃ k,ev y=.d (.sc (.int k (b:Int)))
structure kP (P:Program) (t:Nat) (pl:List (Nat × Nat)):Prop where
 u:(P.underlying t).bind (λd=>match d with|.struct fs=>some (fs.toList.map λf=>(f.offset,(P.info? f.type).map (·.size)))|_=>none)=some (pl.map λp=>(p.1,some p.2))
def KX (pl : List (Nat × Nat)) : List V -> List (Nat × V) -> Option (List V)
 | cells,[]=>some cells
 | cells, (i, v) :: r =>
  match pl[i]? with
  | none=>none
  | some (off, sz) =>
   if v.cells.length=sz/\off+sz<=cells.length/\v.plain=true then
    KX pl (cells.take off++v.cells++cells.drop (off+sz)) r
   else none
def jv (P:Program)(t:Nat):Prop:=(P.underlying t).map (λd=>match d with|.interface _=>true|_=>false)=some false
structure Xm (P:Program) (t:Nat) (name:String) (nR:Nat):Prop where
 i:((P.info? t).bind λi=>(i.methods.find? (·.name == name)).map λm=>(m.path.toList.isEmpty,m.func))=some (true,some (nR,true))
 u:(P.underlying t).map (λd=>match d with|.pointer _=>true|_=>false)=some true
structure ab3 (P:Program) (t e:Nat) (name:String) (nR:Nat):Prop where
 i:((P.info? t).bind λi=>(i.methods.find? (·.name == name)).map λm=>(m.path.toList.isEmpty,m.func))=some (true,some (nR,false))
 u:P.underlying t=some (.pointer e)
inductive Pure (P:Program) (ev:Operand->V):Op->V->Prop
 | move (x:Operand):Pure P ev (.move x) (ev x)
 | assign (x:Operand):Pure P ev (.assign x) (ev x)
 | pick {c x y:Operand} {b:Bool} (h:ev c=.d (.sc (.bool b))):Pure P ev (.pick c x y) (if b then ev x else ev y)
 | nilPtr {x:Operand} {id b off:Nat} (h:ev x=.ptr id b off):Pure P ev (.nilCheck x) (.ptr id b off)
 | aM6 {x:Operand} {id b sz i j:Nat} (h:ev x=.pW id b sz i j):Pure P ev (.nilCheck x) (.pW id b sz i j)
 | Vt {x:Operand} {cs:List D} (h:ev x=.ref cs):Pure P ev (.nilCheck x) (.ref cs)
 | QD {x:Operand} {t f fo id b off:Nat} (h:ev x=.ptr id b off) (hT:dG P t f fo):Pure P ev (.fieldAddr t x f) (.ptr id b (off+fo))
 | av8 {x:Operand} {t f fo id b sz i j:Nat} (h:ev x=.pW id b sz i j) (hT:dG P t f fo):Pure P ev (.fieldAddr t x f) (.pW id b sz i (j+fo))
 | QE {x:Operand} {t f fo:Nat} {cs:List D} (h:ev x=.ref cs) (hT:dG P t f fo):Pure P ev (.fieldAddr t x f) (.ref (cs.drop fo))
 | GN {x:Operand} {t n:Nat} {cs:List D} (h:ev x=.ref cs) (hT:xK P t n) (hn:n<=cs.length):Pure P ev (.load t x) (.ag ((cs.take n).map .d))
 | GR {x:Operand} {t:Nat} {c:D} {cs:List D} (h:ev x=.ref (c::cs)) (hT:jr P t):Pure P ev (.load t x) (.d c)
 | ixD {x y : Operand} {t e sz eF : Nat} {es : List D} {k : IntKind} {n : Int} {el : D} (hx : ev x = .d (.sl es)) (hy : ev y = .d (.sc (.int k n))) (hT : bD P t e sz eF)
   (h0:0<=n) (hel:es[n.toNat]? = some el) (hsz:el.cells.length=sz):Pure P ev (.indexAddr t x y) (.ref el.cells)
 | Vu {x y : Operand} {t e sz eF id b l c : Nat} {k : IntKind} {n : Int} (hx : ev x = .bF id b l c) (hy : ev y = .d (.sc (.int k n))) (hT : bD P t e sz eF)
   (h0:0<=n) (hl:n<l):Pure P ev (.indexAddr t x y) (.pW id b sz n.toNat 0)
 | av9 {x : Operand} {lo hi : Option Operand} {t e sz eF l h : Nat} {es : List D} (hx : ev x = .d (.sl es)) (hT : bD P t e sz eF) (hl : Vo ev lo 0 l) (hh : Vo ev hi es.length h)
   (hlh:l<=h) (hn:h<=es.length) (hs:∀ x,x ∈ es->x.cells.length=sz):Pure P ev (.slice t x lo hi none) (.d (.sl ((es.take h).drop l)))
 | aw0 {x:Operand} {lo hi:Option Operand} {t e sz eF:Nat} (hx:ev x=.mt) (hT:bD P t e sz eF) (hl:Vo ev lo 0 0) (hh:Vo ev hi 0 0):Pure P ev (.slice t x lo hi none) .mt
 | aw1 {x:Operand} {hi:Option Operand} {t e sz eF id b n c h:Nat} (hx:ev x=.bF id b n c) (hT:bD P t e sz eF) (hh:Vo ev hi n h) (hn:h<=n):Pure P ev (.slice t x none hi none) (.bF id b h c)
 | aw2 {x lo:Operand} {t e sz eF id b n c l:Nat} {k:IntKind} (hx:ev x=.bF id b n c) (hy:ev lo=.d (.sc (.int k (l:Int)))) (hT:bD P t e sz eF) (hl:l<=n):Pure P ev (.slice t x (some lo) none none) (.xI id b sz l (n-l) (c-l))
 | Xn {x lo:Operand} {t e sz eF id b o n c l:Nat} {k:IntKind} (hx:ev x=.xI id b sz o n c) (hy:ev lo=.d (.sc (.int k (l:Int)))) (hT:bD P t e sz eF) (hl:l<=n):Pure P ev (.slice t x (some lo) none none) (.xI id b sz (o+l) (n-l) (c-l))
 | ixB {x y:Operand} {t e sz eF id b o l c n:Nat} {k:IntKind} (hx:ev x=.xI id b sz o l c) (hy:ev y=.d (.sc (.int k (n:Int)))) (hT:bD P t e sz eF) (hl:n<l):Pure P ev (.indexAddr t x y) (.pW id b sz (o+n) 0)
 | aw3 {t e sz eF id b o n c : Nat} {x : Operand} {ats : Array TypeId} (ha : ats = #[t]) (hx : ev x = .xI id b sz o n c) (hT : bD P t e sz eF) :
   Pure P ev (.call { callee:=.builtin .len,args:=#[x],argTypes:=ats }) (.d (.sc (.int .i64 n)))
 | aM7 {x h m:Operand} {t e sz eF:Nat} {es:List D} (hx:ev x=.d (.sl es)) (hT:bD P t e sz eF) (hh:Vo ev (some h) 0 0) (hm:Vo ev (some m) 0 0):Pure P ev (.slice t x none (some h) (some m)) .mt
 | ab4 {x h m:Operand} {t e sz eF k:Nat} {es:List D} (hx:ev x=.d (.sl es)) (hT:bD P t e sz eF) (hh:Vo ev (some h) 0 k) (hm:Vo ev (some m) 0 k) (hk:k<=es.length) (hs:∀ x,x ∈ es->x.cells.length=sz):Pure P ev (.slice t x none (some h) (some m)) (.d (.sl (es.take k)))
 | bin {op:BinOp} {t yt:Nat} {x y:Operand} {a b r:Value} (hx:ev x=.d (.sc a)) (hy:ev y=.d (.sc b)) (h:AL.bin op a b=some r):Pure P ev (.binOp op t x y yt) (.d (.sc r))
 | eqb {t yt:Nat} {x y:Operand} {a b:Bool} (hx:ev x=.d (.sc (.bool a))) (hy:ev y=.d (.sc (.bool b))) (hT:KU P t):Pure P ev (.binOp .eql t x y yt) (.d (.sc (.bool (a == b))))
 | neb {t yt:Nat} {x y:Operand} {a b:Bool} (hx:ev x=.d (.sc (.bool a))) (hy:ev y=.d (.sc (.bool b))) (hT:KU P t):Pure P ev (.binOp .neq t x y yt) (.d (.sc (.bool (!(a == b)))))
 | not {t:Nat} {x:Operand} {a:Bool} (hx:ev x=.d (.sc (.bool a))):Pure P ev (.unOp .not t x) (.d (.sc (.bool (!a))))
 | neg {t:Nat} {x:Operand} {k:IntKind} {a:Int} (hx:ev x=.d (.sc (.int k a))):Pure P ev (.unOp .neg t x) (.d (.sc (.int k (k.wrap (0-a)))))
 | conv {s t:Nat} {x:Operand} {k j:IntKind} {a:Int} (hx:ev x=.d (.sc (.int k a))) (hs:JY P s k) (ht:JY P t j):Pure P ev (.convert s t x) (.d (.sc (.int j (j.wrap a))))
 | aI8 {s t e e':Nat} {x:Operand} {v:V} (hx:ev x=v) (hs:P.underlying s=some (.slice e)) (ht:s=t) (he:False):Pure P ev (.convert s t x) v
 | lenD {t e sz eF : Nat} {x : Operand} {es : List D} {ats : Array TypeId} (ha : ats = #[t]) (hx : ev x = .d (.sl es)) (hT : bD P t e sz eF) :
   Pure P ev (.call { callee:=.builtin .len,args:=#[x],argTypes:=ats }) (.d (.sc (.int .i64 es.length)))
 | aw4 {t e sz eF : Nat} {x : Operand} {ats : Array TypeId} (ha : ats = #[t]) (hx : ev x = .mt) (hT : bD P t e sz eF) :
   Pure P ev (.call { callee:=.builtin .len,args:=#[x],argTypes:=ats }) (.d (.sc (.int .i64 0)))
 | aw5 {t e sz eF id b n c : Nat} {x : Operand} {ats : Array TypeId} (ha : ats = #[t]) (hx : ev x = .bF id b n c) (hT : bD P t e sz eF) :
   Pure P ev (.call { callee:=.builtin .len,args:=#[x],argTypes:=ats }) (.d (.sc (.int .i64 n)))
 | ab5 {t e sz eF : Nat} {x : Operand} {ats : Array TypeId} (ha : ats = #[t]) (hx : ev x = .mt) (hT : bD P t e sz eF) :
   Pure P ev (.call { callee:=.builtin .cap,args:=#[x],argTypes:=ats }) (.d (.sc (.int .i64 0)))
 | max {x y : Operand} {ats : Array TypeId} {a b : Int} (hx : ev x = .d (.sc (.int .i64 a))) (hy : ev y = .d (.sc (.int .i64 b))) :
   Pure P ev (.call { callee:=.builtin .max,args:=#[x,y],argTypes:=ats }) (.d (.sc (.int .i64 (Max.max a b))))
 | min {x y : Operand} {ats : Array TypeId} {k : IntKind} {a b : Int} (hx : ev x = .d (.sc (.int k a))) (hy : ev y = .d (.sc (.int k b))) :
   Pure P ev (.call { callee:=.builtin .min,args:=#[x,y],argTypes:=ats }) (.d (.sc (.int k (Min.min a b))))
 | Xo {x y:Operand} {t:Nat} {bs:ByteArray} {k:IntKind} {n:Nat} {b:UInt8} (hx:ev x=.d (.sc (.string bs))) (hy:ev y=.d (.sc (.int k (n:Int)))) (hT:P.underlying t=some .string) (hb:bs[n]? = some b):Pure P ev (.index t x y) (.d (.sc (.int .u8 b.toNat)))
 | aw6 {x:Operand} {t f off:Nat} {vs:List V} {v:V} (hx:ev x=.ag vs) (hT:Cf P t f off) (hv:vs[off]? = some v):Pure P ev (.field t x f) v
 | ext {x:Operand} {i:Nat} {vs:List V} {v:V} (hx:ev x=.jS vs) (hv:vs[i]? = some v):Pure P ev (.extract x i) v
 | build {t : Nat} {parts : Array (Nat × Operand)} {zs cs : List V} {pl : List (Nat × Nat)} (hz : eU P t zs) (hp : kP P t pl)
   (hf:KX pl zs (parts.toList.map λp=>(p.1,ev p.2))=some cs):Pure P ev (.build t parts) (.ag cs)
 | call {f : Operand} {args : Array Operand} {ats : Array TypeId} {nR : Nat} {caps args' : List V} {res : V} (hf : ev f = .fn nR caps) (ha : fH (args.toList.map ev ++ caps) args') (hs : aj P nR args' res) :
   Pure P ev (.call { callee:=.value f,args:=args,argTypes:=ats }) res
 | mkIf {t:Nat} {x:Operand} {v:V} (hT:jv P t) (hx:ev x=v):Pure P ev (.makeInterface t x) (.JX t v)
 | aM8 {t a:Nat} {x:Operand} {v:V} (hT:jv P a) (hx:ev x=.JX a v):Pure P ev (.typeAssert x t a false) v
 | inv {x : Operand} {name : String} {args : Array Operand} {ats : Array TypeId} {t nR : Nat} {v : V} {args' : List V} {res : V} (hx : ev x = .JX t v) (hm : Xm P t name nR) (ha : fH (v :: args.toList.map ev) args') (hs : aj P nR args' res) :
   Pure P ev (.call { callee:=.invoke x name,args:=args,argTypes:=ats }) res
 | aw7 {f:Nat} {caps:Array Operand}:Pure P ev (.makeFunc (.func f) #[] caps) (.fn f (caps.toList.map ev))
section
variable {P:Program}{ev:Operand->V}{a:Act}{F:Hp}{w:World}
theorem um {t n:Nat}(hT:xK P t n)(ad:Addr)(cs:List Value)(hl:cs.length=n)(h:∀ j v,cs[j]? = some v->w.cell? (ad.add j)=some v) :
  (loadVar t ad).run P w=.ok (.agg cs.toArray) w:=by
 obtain⟨h1,h2⟩:=hT.run w
 have h3:=run_loadCells_list (P:=P) w ad cs h
 rw[hl] at h3
 simp[loadVar,h1,h2,h3]
theorem oW {t:Nat}(hT:jr P t){ad:Addr}{v:Value}(h:w.cell? ad=some v):(loadVar t ad).run P w=.ok v w:=by
 obtain⟨h1,h2⟩:=hT.run w
 simp[loadVar,h1,h]
theorem mO {nR:Nat}{args:Array Value}(hb:pX P nR)(w:World):(callFunc nR args).run P w=.ok (.enter nR args) w:=by
 unfold pX at hb
 cases hf:P.funcs[nR]? with
 | none=>simp[hf] at hb
 | some fn =>
  simp only[hf,Option.map_some,Option.some.injEq,Prod.mk.injEq] at hb
  simp only[callFunc,Sem.run_bind,run_program,Result.andThen_ok,hf,hb.1,hb.2]
  simp
theorem kJ {t e sz eF:Nat}(hT:bD P t e sz eF)(w:World):(sizeOf e).run P w=.ok sz w:=by
 obtain⟨i,z,hi,_,_,h1,_⟩:=hT.parts
 simp[sizeOf,typeInfo,hi,h1]
theorem iL {v x:Value}(h:dm F v (.d (.sc x))):v=x:=by cases h with|d h _=>cases h;rfl
theorem Xp {o:Option Operand}{d b:Nat}(h:Vo ev o d b)(hev:∀ x,dm F (a.eval x) (ev x)):(o.map a.eval)=none/\o=none/\b=d \/ ∃ k,o.map a.eval=some (.int k (b:Int)):=by
 cases o with
 | none=>exact .inl ⟨rfl,rfl,h⟩
 | some y =>
  obtain⟨k,hk⟩:=h
  have:=hev y
  rw[hk] at this
  exact .inr ⟨k,by simp[iL this]⟩
theorem yS {ev:Operand->V}{lo hi:Option Operand}{n c l h:Nat}(hl:Vo ev lo 0 l)(hh:Vo ev hi n h)(hev:∀ x,dm F (a.eval x) (ev x))(hlh:l<=h)(hhc:h<=c) :
  (Instr.sliceBounds true n c (lo.map a.eval) (hi.map a.eval) none).run P w=.ok (l,h,c) w:=by
 have e1:∀ (x y:Nat) (k:IntKind) (cd:BoundsCode),x<=y->(Instr.sliceBound (.int k (x:Int)) y cd).run P w=.ok x w:=λx y k cd hxy=>by
  have:(x:Int)<=(y:Int):=by omega
  simp[Instr.sliceBound,asIntOf,this]
 rcases Xp hl hev with ⟨h1,_,h3⟩|⟨k,h1⟩ <;> rcases Xp hh hev with ⟨g1,_,g3⟩|⟨k',g1⟩ <;> rw[h1,g1]
 .subst h3;subst g3;simp[Instr.sliceBounds]
 .subst h3;simp[Instr.sliceBounds,e1 h c k' _ hhc]
 .subst g3;simp[Instr.sliceBounds,e1 l _ k _ hlh]
 .simp[Instr.sliceBounds,e1 h c k' _ hhc,e1 l _ k _ hlh]
theorem Vw {t:Nat}{pl:List (Nat × Nat)}(h:kP P t pl)(w:World):∃ fs:Array Field,P.underlying t=some (.struct fs) /\
  (fs.mapM λf=>do pure (f.offset,<- sizeOf f.type):Sem (Array (Nat × Nat))).run P w=.ok pl.toArray w:=by
 have hu:=h.u
 cases hd:P.underlying t with
 | none=>simp[hd] at hu
 | some d =>
  cases d with
  | struct fs =>
   simp only[hd,Option.bind_some,Option.some.injEq] at hu
   refine⟨fs,rfl,?_⟩
   have key:∀ (l:List Field) (q:List (Nat × Nat)),(l.map λf=>(f.offset,(P.info? f.type).map (·.size)))=q.map (λp=>(p.1,some p.2)) ->
     (l.mapM λf=>do pure (f.offset,<- sizeOf f.type):Sem (List (Nat × Nat))).run P w=.ok q w:=by
    intro l
    induction l with
    | nil=>intro q hq;cases q <;> simp at hq;rfl
    | cons f r ih =>
     intro q hq
     cases q with
     | nil=>simp at hq
     | cons p q =>
      simp only[List.map_cons,List.cons.injEq,Prod.mk.injEq] at hq
      obtain⟨⟨h1,h2⟩,h3⟩:=hq
      cases hi:P.info? f.type with
      | none=>simp[hi] at h2
      | some i =>
       simp only[hi,Option.map_some,Option.some.injEq] at h2
       have hs:(sizeOf f.type).run P w=.ok i.size w:=by simp[sizeOf,typeInfo,hi]
       have ih':=ih q h3
       rw[List.mapM_cons]
       simp only[Sem.run_bind,hs,Result.andThen_ok,Sem.run_pure,ih',h1,h2]
   have:=key fs.toList pl hu
   rw[Array.mapM_eq_mapM_toList,Sem.run_map,this]
   rfl
  | _=>simp[hd] at hu
theorem SA (vs:List Value):∀ (off k:Nat) (cells:List Value),off+k+vs.length<=cells.length ->
  ((vs.zipIdx k).foldl (λ(cs:Array Value) (p:Value × Nat)=>cs.setIfInBounds (off+p.2) p.1) cells.toArray)=(cells.take (off+k)++vs++cells.drop (off+k+vs.length)).toArray:=by
 induction vs with
 | nil=>intro off k cells _;simp
 | cons v r ih =>
  intro off k cells h
  simp only[List.length_cons] at h
  rw[List.zipIdx_cons,List.foldl_cons]
  have:(cells.toArray.setIfInBounds (off+k) v)=(cells.set (off+k) v).toArray:=by simp
  rw[this,ih off (k+1) _ (by rw[List.length_set];omega)]
  congr 1
  have hset:cells.set (off+k) v=cells.take (off+k)++v::cells.drop (off+k+1):=List.set_eq_take_append_cons_drop .. |>.trans (by rw[if_pos (by omega)])
  have hl:(cells.take (off+k)).length=off+k:=by rw[List.length_take];omega
  rw[hset,List.take_append,List.drop_append,hl,List.take_of_length_le (by omega:(cells.take (off+k)).length<=off+(k+1)),List.drop_eq_nil_of_le (by omega:(cells.take (off+k)).length<=off+(k+1)+r.length)]
  have e1:off+(k+1)-(off+k)=1:=by omega
  have e2:off+(k+1)+r.length-(off+k)=r.length+1:=by omega
  rw[e1,e2,List.take_succ_cons,List.take_zero,List.drop_succ_cons,List.drop_drop,List.nil_append]
  simp only[List.append_assoc,List.cons_append,List.nil_append,List.length_cons]
  rw[show off+k+1+r.length=off+k+(r.length+1) from by omega]
theorem SB {pl : List (Nat × Nat)} (hev : ∀ x, dm F (a.eval x) (ev x)) : ∀ (parts : List (Nat × Operand)) (cells : List V) (us : List Value) (cs : List V),
  KX pl cells (parts.map λp=>(p.1,ev p.2))=some cs->us.length=cells.length->(∀ u,u ∈ us->u.oneCell' = true)->(∀ (i:Nat) (c:V) (u:Value),cells[i]? = some c->us[i]? = some u->dm F u c) ->
  ∃ us':List Value,Instr.fill (pl.toArray[·]?) us.toArray (parts.map λp=>(p.1,a.eval p.2))=some us'.toArray/\us'.length=cs.length/\(∀ u,u ∈ us' -> u.oneCell' = true) /\
   ∀ (i:Nat) (c:V) (u:Value),cs[i]? = some c->us'[i]? = some u->dm F u c
 | [],cells,us,cs,hf,hl,h1,hr=>by
  simp only[List.map_nil,KX,Option.some.injEq] at hf
  subst hf
  exact⟨us,rfl,hl,h1,hr⟩
 | (i, x) :: r, cells, us, cs, hf, hl, h1, hr => by
  simp only[List.map_cons,KX] at hf
  cases hp:pl[i]? with
  | none=>simp[hp] at hf
  | some q =>
   obtain⟨off,sz⟩:=q
   simp only[hp] at hf
   split at hf
   .rename_i hcond
    obtain⟨c1,c2,c3⟩:=hcond
    obtain⟨s1,s2,s3⟩:=F7 (hev x) c3
    have hvl:(a.eval x).cells.toList.length=sz:=by rw[s1,c1]
    have hvs:(a.eval x).cells.size=sz:=by rw[<- Array.length_toList];exact hvl
    obtain⟨us',f1,f2,f3,f4⟩:=SB hev r _ (us.take off++(a.eval x).cells.toList++us.drop (off+sz)) cs hf
     (by simp only[List.length_append,List.length_take,List.length_drop];omega)
     (λu hu=>by
      simp only[List.mem_append] at hu
      rcases hu with (hu|hu)|hu
      .exact h1 u (List.mem_of_mem_take hu)
      .exact s2 u hu
      .exact h1 u (List.mem_of_mem_drop hu))
     (λj c u hc hu=>by
      have lt:(us.take off).length=off:=by rw[List.length_take];omega
      have lt':(cells.take off).length=off:=by rw[List.length_take];omega
      rw[List.append_assoc] at hc hu
      rw[List.getElem?_append,lt'] at hc
      rw[List.getElem?_append,lt] at hu
      split at hc
      .rename_i hj
       rw[if_pos hj] at hu
       rw[List.getElem?_take,if_pos hj] at hc hu
       exact hr j c u hc hu
      .rename_i hj
       rw[if_neg hj] at hu
       rw[List.getElem?_append,c1] at hc
       rw[List.getElem?_append,hvl] at hu
       split at hc
       .rename_i hj'
        rw[if_pos hj'] at hu
        exact s3 _ c u hc hu
       .rename_i hj'
        rw[if_neg hj'] at hu
        rw[List.getElem?_drop] at hc hu
        exact hr _ c u hc hu)
    refine⟨us',?_,f2,f3,f4⟩
    rw[<- f1]
    simp only[List.map_cons,Instr.fill]
    have hp':pl.toArray[i]? = some (off,sz):=by simpa using hp
    simp only[hp']
    rw[if_neg (by simp[hvs];omega)]
    congr 1
    have:=SA (a.eval x).cells.toList off 0 us (by rw[hvl];omega)
    rw[<- Array.foldl_toList,Array.toList_zipIdx]
    rw[this]
    simp[hvs]
   .cases hf
end
end Go.AL
namespace Go.AL
open Go Go.BigFrame
section
variable {P:Program}{ev:Operand->V}{a:Act}{F:Hp}{w:World}
theorem QF {ρ:Operand->Value}{o:Oper}{s:Sem Value}{v:Value}{w w':World}{R:Value->World->Prop}(ho:execOp ρ o=(do pure (.value (<- s))))(hr:s.run P w=.ok v w')(h:R v w') :
  Good P ((execOp ρ o).run P w) R:=by
 rw[ho,Sem.run_bind,hr]
 exact h
theorem wJ {us vs:List Value}{xs ys:List V}(h:kU F us xs)(k:kU F vs ys):kU F (us++vs) (xs++ys):=by
 refine⟨by simp[h.1,k.1],λi x u hx hu=>?_⟩
 rw[List.getElem?_append] at hx hu
 rw[h.1] at hu
 split at hx
 .rename_i hi;rw[if_pos hi] at hu;exact h.2 i x u hx hu
 .rename_i hi;rw[if_neg hi] at hu;exact k.2 _ x u hx hu
theorem oZ (hev:∀ x,dm F (a.eval x) (ev x))(l:List Operand):kU F (l.map a.eval) (l.map ev):=by
 refine⟨by simp,λi x u hx hu=>?_⟩
 rw[List.getElem?_map] at hx hu
 cases hl:l[i]? with
 | none=>simp[hl] at hx
 | some y =>
  simp only[hl,Option.map_some,Option.some.injEq] at hx hu
  rw[<- hx,<- hu]
  exact hev y
theorem qw {us:List Value}{xs ys:List V}(h:kU F us xs)(k:fH xs ys):kU F us ys :=
 ⟨h.1.trans k.length,λi y u hy hu=>let ⟨x,hx,hle⟩:=k.get i y hy;hle _ _ (h.2 i x u hx hu)⟩
theorem addr_add (b o i:Nat):(⟨b,o,none⟩:Addr).add i=⟨b,o+i,none⟩:=by unfold Addr.add;split <;> simp_all
theorem run_equalIn_bool {t:Nat}(hT:KU P t)(d:Nat)(p q:Bool)(w:World):(Op.equalIn (d+1) t (.bool p) (.bool q)).run P w=.ok (p == q) w:=by
 simp[Op.equalIn,run_underlying hT.u]
theorem SC {t:Nat}(hT:KU P t)(x y:Operand)(p q:Bool)(w:World) :
  (do eqGuard .eql t x y (.bool p) (.bool q);binOp .eql t (.bool p) (.bool q):Sem Value).run P w=.ok (.bool (p == q)) w /\
  (do eqGuard .neq t x y (.bool p) (.bool q);binOp .neq t (.bool p) (.bool q):Sem Value).run P w=.ok (.bool (!(p == q))) w:=by
 have h:=run_equalIn_bool hT 9999 p q w
 have g1:(eqGuard .eql t x y (.bool p) (.bool q)).run P w=.ok () w:=by simp[eqGuard]
 have g2:(eqGuard .neq t x y (.bool p) (.bool q)).run P w=.ok () w:=by simp[eqGuard]
 have e:Op.equal t (.bool p) (.bool q)=Op.equalIn (9999+1) t (.bool p) (.bool q):=rfl
 constructor
 .rw[Sem.run_bind,g1]
  simp only[Result.andThen_ok,binOp,e]
  rw[Sem.run_bind,h]
  rfl
 .rw[Sem.run_bind,g2]
  simp only[Result.andThen_ok,binOp,e]
  rw[Sem.run_bind,h]
  rfl
theorem KY {F:Hp}{u:Value}{x:V}{us:List Value}{xs:List V}(h:dm F u x)(t:kU F us xs):kU F (u::us) (x::xs):=⟨by simp[t.1],λi x' u' hx hu=>by
 cases i with
 | zero=>simp at hx hu;subst hx hu;exact h
 | succ i=>simp at hx hu;exact t.2 i _ _ hx hu⟩
theorem ab6 {t:Nat}(hT:jv P t)(v:Value)(w:World):(Instr.makeInterface t v).run P w=.ok (.iface t v) w:=by
 unfold jv at hT
 cases hd:P.underlying t with
 | none=>simp[hd] at hT
 | some d=>cases d <;> simp[hd] at hT <;> simp[Instr.makeInterface,run_underlying hd]
theorem ab7 {t e:Nat}(hT:jv P e)(v:Value)(w:World):(Instr.typeAssert (.iface e v) t e false).run P w=.ok v w:=by
 unfold jv at hT
 cases hd:P.underlying e with
 | none=>simp[hd] at hT
 | some d=>cases d <;> simp[hd] at hT <;> simp[Instr.typeAssert,run_underlying hd]
theorem OJ {t:Nat}{name:String}{r:Bool × Option (FuncId × Bool)}(h:((P.info? t).bind λi=>(i.methods.find? (·.name == name)).map λm=>(m.path.toList.isEmpty,m.func))=some (true,r.2)) :
  ∃ i m,P.info? t=some i/\i.methods.find? (·.name == name)=some m/\m.path.toList=[]/\m.func=r.2:=by
 cases hi:P.info? t with
 | none=>simp[hi] at h
 | some i =>
  cases hf:i.methods.find? (·.name == name) with
  | none=>simp[hi,hf] at h
  | some m =>
   simp only[hi,hf,Option.bind_some,Option.map_some,Option.some.injEq,Prod.mk.injEq] at h
   exact⟨i,m,rfl,hf,List.isEmpty_iff.1 h.1,h.2⟩
theorem YO {t:Nat}{name:String}{nR:Nat}(hm:Xm P t name nR)(k:Nat)(v:Value)(w:World):(method (k+1) t v name).run P w=.ok (nR,v) w:=by
 obtain⟨hi,hu⟩:=hm
 obtain⟨i,m,e1,e2,e3,e4⟩:=OJ (r:=(true,some (nR,true))) hi
 cases hd:P.underlying t with
 | none=>simp[hd] at hu
 | some d =>
  cases d <;> simp[hd] at hu
  simp[method,typeInfo,e1,e2,e3,e4,follow,receiverAt,run_underlying hd,Place.get]
theorem ab8 (ts:Array TypeId)(t:TypeId)(ad:Addr)(s1 s2:String)(w:World):(Builtin.ssaWrapNilChk_ ts t #[.pointer (some ad),strVal s1,strVal s2]).run P w=.ok (.pointer (some ad)) w:=rfl
theorem YP {t e:Nat}{name:String}{nR:Nat}{ad:Addr}{u:Value}(hm:ab3 P t e name nR)(hT:jr P e)(k:Nat)(hu:w.cell? ad=some u):(method (k+1) t (.pointer (some ad)) name).run P w=.ok (nR,u) w:=by
 obtain⟨hi,hd⟩:=hm
 obtain⟨i,m,e1,e2,e3,e4⟩:=OJ (r:=(true,some (nR,false))) hi
 have hl:=oW hT hu
 have e5:m.path = #[]:=by cases hp:m.path;rw[hp] at e3;simp at e3;subst e3;rfl
 simp[method,typeInfo,e1,e2,e3,e4,e5,follow,receiverAt,run_underlying hd,Place.get,ab8,asAddr,hl]
theorem ab9 {x:Operand}{name:String}{args:Array Operand}{ats:Array TypeId}{ty t e nR:Nat}{ad:Addr}{u:Value}(hax:a.eval x=.iface t (.pointer (some ad)))(hm:ab3 P t e name nR)(hT:jr P e)(hu:w.cell? ad=some u)(hb:pX P nR) :
  Sem.run P (do let d <- resolve a.eval { callee:=.invoke x name,args:=args,argTypes:=ats } ty;invoke d.target d.args) w=.ok (.enter nR (u::args.toList.map a.eval).toArray) w:=by
 have e1:#[u]++(#[Value.iface t (.pointer (some ad))]++args.map a.eval).extract 1 (#[Value.iface t (.pointer (some ad))]++args.map a.eval).size=(u::args.toList.map a.eval).toArray:=by
  apply Array.ext'
  simp
  exact List.take_of_length_le (by simp)
 have e0:(#[Value.iface t (.pointer (some ad))]++args.map a.eval)[0]? = some (Value.iface t (.pointer (some ad))):=by rw[Array.getElem?_append_left (by simp)];rfl
 simp only[resolve,hax,Sem.run_bind,Sem.run_pure,Result.andThen_ok,invoke,e0,callMethod,run_program,show P.types.size+Made.depth=P.types.size+99+1 from rfl,YP hm hT _ hu,e1,mO hb]
theorem Xq {x:Operand}{name:String}{args:Array Operand}{ats:Array TypeId}{ty t nR:Nat}{u:Value}(hax:a.eval x=.iface t u)(hm:Xm P t name nR)(hb:pX P nR)(w:World) :
  Sem.run P (do let d <- resolve a.eval { callee:=.invoke x name,args:=args,argTypes:=ats } ty;invoke d.target d.args) w=.ok (.enter nR (u::args.toList.map a.eval).toArray) w:=by
 have e1:#[u]++(#[Value.iface t u]++args.map a.eval).extract 1 (#[Value.iface t u]++args.map a.eval).size=(u::args.toList.map a.eval).toArray:=by
  apply Array.ext'
  simp
  exact List.take_of_length_le (by simp)
 have e0:(#[Value.iface t u]++args.map a.eval)[0]? = some (Value.iface t u):=by rw[Array.getElem?_append_left (by simp)];rfl
 simp only[resolve,hax,Sem.run_bind,Sem.run_pure,Result.andThen_ok,invoke,e0,callMethod,run_program,show P.types.size+Made.depth=P.types.size+99+1 from rfl,YO hm,e1,mO hb]
theorem Pure.sound {o:Oper}{op:Op}{v:V}(ho:o.op=op)(hp:Pure P ev op v)(hev:∀ x,dm F (a.eval x) (ev x))(hF:Hp.Sl F w) :
  Good P ((execOp a.eval o).run P w) λu w'=>∃ F',Ext F w F' w' /\ dm F' u v:=by
 have keep:∀ {u:Value} {x:V},dm F u x->∃ F',Ext F w F' w/\dm F' u x:=λh=>⟨F,Ext.refl hF,h⟩
 have dv:∀ {x:Value},x.oneCell' = true->dm F x (.d (.sc x)):=λh=>.d (.sc h) h
 cases hp with
 | move x=>unfold execOp;rw[ho];exact keep (hev x)
 | assign x=>unfold execOp;rw[ho];exact keep (hev x)
 | @pick c x y b h =>
  have hc:=hev c;rw[h] at hc
  have hc:=iL hc
  unfold execOp;rw[ho]
  simp only[hc,asBool,Sem.run_bind,Sem.run_pure,Result.andThen_ok]
  exact keep (by cases b <;> first|exact hev y|exact hev x)
 | @nilPtr x id b off h =>
  have hx:=hev x;rw[h] at hx
  generalize hax:a.eval x=ax at hx
  cases hx
  unfold execOp;rw[ho];simp only[hax]
  exact keep .ptr
 | @aM6 x id b sz i j h =>
  have hx:=hev x;rw[h] at hx
  generalize hax:a.eval x=ax at hx
  cases hx
  unfold execOp;rw[ho];simp only[hax]
  exact keep .pW
 | @Vt x cs h =>
  have hx:=hev x;rw[h] at hx
  generalize hax:a.eval x=ax at hx
  cases hx with
  | ref hr =>
   unfold execOp;rw[ho];simp only[hax]
   exact keep (.ref hr)
 | @QD x t f fo id b off h hT =>
  have hx:=hev x;rw[h] at hx
  generalize hax:a.eval x=ax at hx
  cases hx
  have hr:=hT.run ⟨b,off,none⟩ w
  unfold execOp;rw[ho];simp only[hax,Sem.run_bind,hr,Result.andThen_ok]
  refine keep ?_
  rw[addr_add]
  exact .ptr
 | @av8 x t f fo id b sz i j h hT =>
  have hx:=hev x;rw[h] at hx
  generalize hax:a.eval x=ax at hx
  cases hx
  have hr:=hT.run ⟨b,i*sz+j,none⟩ w
  unfold execOp;rw[ho];simp only[hax,Sem.run_bind,hr,Result.andThen_ok]
  refine keep ?_
  rw[addr_add,Nat.add_assoc]
  exact .pW
 | @QE x t f fo cs h hT =>
  have hx:=hev x;rw[h] at hx
  generalize hax:a.eval x=ax at hx
  cases hx with
  | @ref ad _ us hr =>
   have hrun:=hT.run ad w
   unfold execOp;rw[ho];simp only[hax,Sem.run_bind,hrun,Result.andThen_ok]
   refine keep (.ref (us:=λk=>us (fo+k)) λk c hk=>?_)
   rw[List.getElem?_drop] at hk
   rw[Go.Deep.add_add]
   exact hr _ c hk
 | @GN x t n cs h hT hn =>
  have hx:=hev x;rw[h] at hx
  generalize hax:a.eval x=ax at hx
  cases hx with
  | @ref ad _ us hr =>
   have hl:∀ j v,((List.range n).map us)[j]? = some v->w.cell? (ad.add j)=some v:=λj v hj=>by
    have hjn:j<n:=by have:=(List.getElem?_eq_some_iff.1 hj).1;simpa using this
    obtain⟨c1,_,_⟩:=hr j (cs[j]'(by omega)) (List.getElem?_eq_getElem _)
    rw[List.getElem?_map,List.getElem?_range hjn] at hj
    simp only[Option.map_some,Option.some.injEq] at hj
    rw[<- hj]
    exact F6 hF c1
   have hrun:=um hT ad _ (by simp) hl
   unfold execOp;rw[ho];simp only[hax,Instr.loadAt,Instr.sureAddr,Sem.run_bind,Sem.run_pure,Result.andThen_ok,hrun]
   refine keep (.ag (by simp;omega) (λu hu=>?_) λi c u hc hu=>?_)
   .obtain⟨j,hj,rfl⟩:=List.mem_map.1 hu
    have hjn:j<n:=by simpa using hj
    exact (hr j (cs[j]'(by omega)) (List.getElem?_eq_getElem _)).2.1
   .have hin:i<n:=by have:=(List.getElem?_eq_some_iff.1 hu).1;simpa using this
    rw[List.getElem?_map,List.getElem?_range hin] at hu
    rw[List.getElem?_map,List.getElem?_take,if_pos hin,List.getElem?_eq_getElem (by omega)] at hc
    simp only[Option.map_some,Option.some.injEq] at hu hc
    rw[<- hu,<- hc]
    obtain⟨_,c2,c3⟩:=hr i (cs[i]'(by omega)) (List.getElem?_eq_getElem _)
    exact .d c3 c2
 | @GR x t c cs h hT =>
  have hx:=hev x;rw[h] at hx
  generalize hax:a.eval x=ax at hx
  cases hx with
  | @ref ad _ us hr =>
   obtain⟨c1,c2,c3⟩:=hr 0 c rfl
   have e0:ad.add 0=ad:=by simp[Addr.add]
   rw[e0] at c1
   have hrun:=oW hT (F6 hF c1)
   unfold execOp;rw[ho];simp only[hax,Instr.loadAt,Instr.sureAddr,Sem.run_bind,Sem.run_pure,Result.andThen_ok,hrun]
   exact keep (.d c3 c2)
 | @ixD x y t e sz eF es k n el h hy hT h0 hel hsz =>
  have hx:=hev x;rw[h] at hx
  have hy':=hev y;rw[hy] at hy'
  have hy':=iL hy'
  generalize hax:a.eval x=ax at hx
  cases hx with
  | d hr _ =>
   cases ax with
   | slice ao l c =>
    obtain⟨hln,ad,us,rfl,hc⟩:=hr.elem hel hsz hT.pos
    have hlt:n<(l:Int):=by
     have:=(List.getElem?_eq_some_iff.1 hel).1
     omega
    unfold execOp;rw[ho]
    simp only[hax,hy',Instr.indexAt,asIntOf,Sem.run_bind,Sem.run_pure,Result.andThen_ok,run_underlying hT.u,kJ hT,h0,hlt,and_self,if_true]
    exact keep (.ref hc)
   | _=>cases hr
 | @Vu x y t e sz eF id b l c k n h hy hT h0 hl =>
  have hx:=hev x;rw[h] at hx
  have hy':=hev y;rw[hy] at hy'
  have hy':=iL hy'
  generalize hax:a.eval x=ax at hx
  cases hx with
  | bF ha hc =>
   rw[ha (by omega)] at hax
   unfold execOp;rw[ho]
   simp only[hax,hy',Instr.indexAt,asIntOf,Sem.run_bind,Sem.run_pure,Result.andThen_ok,run_underlying hT.u,kJ hT,h0,hl,and_self,if_true]
   refine keep ?_
   rw[addr_add,Nat.zero_add]
   exact .pW (j:=0)
 | @av9 x lo hi t e sz eF l h es hx' hT hl hh hlh hn hs =>
  have hx:=hev x;rw[hx'] at hx
  generalize hax:a.eval x=ax at hx
  cases hx with
  | d hr _ =>
   cases ax with
   | slice ao n c =>
    have hnn:n=es.length/\n<=c:=by cases hr with|sl hn hc=>exact⟨hn.symm,hc⟩
    have hb:=yS (P:=P) (w:=w) (c:=c) hl hh hev hlh (by omega)
    rw[<- hnn.1] at hb
    unfold execOp;rw[ho]
    simp only[hax,Instr.sliceAt,Instr.slice,Sem.run_bind,Sem.run_pure,Result.andThen_ok,run_underlying hT.u,Option.map_none,hb,kJ hT]
    refine keep (.d (hr.cut hlh (by omega) hs (by omega) _ λhlt=>?_) rfl)
    rw[if_neg (by omega)]
   | _=>cases hr
 | @aw0 x lo hi t e sz eF hx' hT hl hh =>
  have hx:=hev x;rw[hx'] at hx
  generalize hax:a.eval x=ax at hx
  cases hx
  have hb:=yS (P:=P) (w:=w) (c:=0) hl hh hev (Nat.le_refl _) (Nat.le_refl _)
  unfold execOp;rw[ho]
  simp only[hax,Instr.sliceAt,Instr.slice,Sem.run_bind,Sem.run_pure,Result.andThen_ok,run_underlying hT.u,Option.map_none,hb,kJ hT]
  exact keep .mt
 | @aw1 x hi t e sz eF id b n c h hx' hT hh hn =>
  have hx:=hev x;rw[hx'] at hx
  generalize hax:a.eval x=ax at hx
  cases hx with
  | bF ha hc =>
   have hb:=yS (P:=P) (w:=w) (lo:=none) (l:=0) (c:=c) rfl hh hev (Nat.zero_le _) (Nat.le_trans hn hc)
   unfold execOp;rw[ho]
   simp only[hax,Instr.sliceAt,Instr.slice,Sem.run_bind,Sem.run_pure,Result.andThen_ok,run_underlying hT.u,Option.map_none,kJ hT] at hb ⊢
   rw[hb]
   simp only[Result.andThen_ok]
   refine keep ?_
   refine (?_:dm F (.slice _ (h-0) (c-0)) (.bF id b h c))
   rw[Nat.sub_zero,Nat.sub_zero]
   refine .bF (λh0=>?_) (Nat.le_trans hn hc)
   rw[ha h0]
   simp[Addr.add]
 | @aw2 x lo t e sz eF id b n c l k hx' hy hT hl =>
  have hx:=hev x;rw[hx'] at hx
  generalize hax:a.eval x=ax at hx
  cases hx with
  | bF ha hc =>
   have hb:=yS (P:=P) (w:=w) (lo:=some lo) (hi:=none) (l:=l) (h:=n) (n:=n) (c:=c) ⟨k,hy⟩ rfl hev hl hc
   unfold execOp;rw[ho]
   simp only[hax,Instr.sliceAt,Instr.slice,Sem.run_bind,Sem.run_pure,Result.andThen_ok,run_underlying hT.u,Option.map_none,kJ hT] at hb ⊢
   rw[hb]
   simp only[Result.andThen_ok]
   refine keep (.xI (λh0=>?_) (by omega))
   rw[if_neg (by omega),ha (by omega),Option.map_some,addr_add,Nat.zero_add]
 | @Xn x lo t e sz eF id b o n c l k hx' hy hT hl =>
  have hx:=hev x;rw[hx'] at hx
  generalize hax:a.eval x=ax at hx
  cases hx with
  | xI ha hc =>
   have hb:=yS (P:=P) (w:=w) (lo:=some lo) (hi:=none) (l:=l) (h:=n) (n:=n) (c:=c) ⟨k,hy⟩ rfl hev hl hc
   unfold execOp;rw[ho]
   simp only[hax,Instr.sliceAt,Instr.slice,Sem.run_bind,Sem.run_pure,Result.andThen_ok,run_underlying hT.u,Option.map_none,kJ hT] at hb ⊢
   rw[hb]
   simp only[Result.andThen_ok]
   refine keep (.xI (λh0=>?_) (by omega))
   rw[if_neg (by omega),ha (by omega),Option.map_some,addr_add,Nat.add_mul]
 | @ixB x y t e sz eF id b o l c n k h hy hT hl =>
  have hx:=hev x;rw[h] at hx
  have hy':=hev y;rw[hy] at hy'
  have hy':=iL hy'
  generalize hax:a.eval x=ax at hx
  cases hx with
  | xI ha hc =>
   rw[ha (by omega)] at hax
   have h0:(0:Int)<=(n:Int):=Int.natCast_nonneg n
   have hl':(n:Int)<(l:Int):=by omega
   unfold execOp;rw[ho]
   simp only[hax,hy',Instr.indexAt,asIntOf,Sem.run_bind,Sem.run_pure,Result.andThen_ok,run_underlying hT.u,kJ hT,h0,hl',and_self,if_true]
   refine keep ?_
   rw[addr_add,Int.toNat_natCast,<- Nat.add_mul]
   exact .pW (j:=0)
 | @aM7 x h m t e sz eF es hx' hT hh hm =>
  have hx:=hev x;rw[hx'] at hx
  generalize hax:a.eval x=ax at hx
  obtain⟨k1,hk1⟩:=hh
  obtain⟨k2,hk2⟩:=hm
  have e1:=hev h;rw[hk1] at e1
  have e2:=hev m;rw[hk2] at e2
  have e1:=iL e1
  have e2:=iL e2
  cases hx with
  | d hr _ =>
   cases ax with
   | slice ao n c =>
    unfold execOp;rw[ho]
    simp only[hax,Instr.sliceAt,Instr.slice,Sem.run_bind,Sem.run_pure,Result.andThen_ok,run_underlying hT.u,Option.map_none,Option.map_some,e1,e2,kJ hT]
    simp[Instr.sliceBounds,Instr.sliceBound,asIntOf]
    exact keep .mt
   | _=>cases hr
 | @ab4 x h m t e sz eF k es hx' hT hh hm hk hs =>
  have hx:=hev x;rw[hx'] at hx
  generalize hax:a.eval x=ax at hx
  obtain⟨k1,hk1⟩:=hh
  obtain⟨k2,hk2⟩:=hm
  have e1:=hev h;rw[hk1] at e1
  have e2:=hev m;rw[hk2] at e2
  have e1:=iL e1
  have e2:=iL e2
  cases hx with
  | d hr _ =>
   cases ax with
   | slice ao n c =>
    have hnn:n=es.length/\n<=c:=by cases hr with|sl hn hc=>exact⟨hn.symm,hc⟩
    unfold execOp;rw[ho]
    simp only[hax,Instr.sliceAt,Instr.slice,Sem.run_bind,Sem.run_pure,Result.andThen_ok,run_underlying hT.u,Option.map_none,Option.map_some,e1,e2,kJ hT]
    simp[Instr.sliceBounds,Instr.sliceBound,asIntOf]
    rw[if_pos (by omega)]
    have hcut:=hr.cut (l:=0) (k:=k) (sz:=sz) (m:=k) (Nat.zero_le _) (by omega) hs (by omega) (if k=0 then ao else Option.map (λx=>x.add 0) ao) (λhlt=>by rw[if_neg (by omega),Nat.zero_mul])
    exact keep (.d hcut rfl)
   | _=>cases hr
 | @bin op t yt x y p q r hx hy h =>
  have hx':=hev x;rw[hx] at hx'
  have hy':=hev y;rw[hy] at hy'
  have hrun:=av7 (P:=P) h t x y w
  rw[<- iL hx',<- iL hy'] at hrun
  refine QF (by unfold execOp;rw[ho]) hrun (keep (dv ?_))
  cases p <;> cases q <;> simp only[AL.bin] at h <;> try (cases h;done)
  cases op <;> simp only[] at h <;> (try (cases h;done)) <;> (split at h <;> (try (cases h;done))) <;> cases h <;> rfl
 | @eqb t yt x y p q hx hy hT =>
  have hx':=hev x;rw[hx] at hx'
  have hy':=hev y;rw[hy] at hy'
  have e1:=iL hx'
  have e2:=iL hy'
  refine QF (by unfold execOp;rw[ho]) ?_ (keep (dv (x:=.bool (p == q)) rfl))
  rw[e1,e2]
  exact (SC hT x y p q w).1
 | @neb t yt x y p q hx hy hT =>
  have hx':=hev x;rw[hx] at hx'
  have hy':=hev y;rw[hy] at hy'
  have e1:=iL hx'
  have e2:=iL hy'
  refine QF (by unfold execOp;rw[ho]) ?_ (keep (dv (x:=.bool (!(p == q))) rfl))
  rw[e1,e2]
  exact (SC hT x y p q w).2
 | @not t x p hx =>
  have hx':=hev x;rw[hx] at hx'
  unfold execOp;rw[ho]
  simp only[iL hx']
  exact keep (dv rfl)
 | @neg t x k p hx =>
  have hx':=hev x;rw[hx] at hx'
  unfold execOp;rw[ho]
  simp only[iL hx',Op.unary,Op.intArith,Sem.run_bind,Sem.run_pure,Result.andThen_ok]
  exact keep (dv rfl)
 | @conv s t x k j p hx hs ht =>
  have hx':=hev x;rw[hx] at hx'
  unfold execOp;rw[ho]
  simp only[iL hx',convert,Sem.run_bind,run_underlying hs.u,run_underlying ht.u,Result.andThen_ok,Conv.intToInt,Sem.run_pure]
  exact keep (dv rfl)
 | aI8 _ _ _ he=>exact he.elim
 | @lenD t e sz eF x es ats ha hx hT =>
  subst ha
  have hx':=hev x;rw[hx] at hx'
  generalize hax:a.eval x=ax at hx'
  cases hx' with
  | d hr _ =>
   cases hr with
   | sl hn hc hsz =>
    unfold execOp;rw[ho]
    simp[resolve,invoke,builtin_len,Builtin.len_,hax,run_underlying hT.u]
    exact keep (by rw[hn];exact dv rfl)
 | @aw4 t e sz eF x ats ha hx hT =>
  subst ha
  have hx':=hev x;rw[hx] at hx'
  generalize hax:a.eval x=ax at hx'
  cases hx'
  unfold execOp;rw[ho]
  simp[resolve,invoke,builtin_len,Builtin.len_,hax,run_underlying hT.u]
  exact keep (dv rfl)
 | @aw5 t e sz eF id b n c x ats ha hx hT =>
  subst ha
  have hx':=hev x;rw[hx] at hx'
  generalize hax:a.eval x=ax at hx'
  cases hx' with
  | bF =>
   unfold execOp;rw[ho]
   simp[resolve,invoke,builtin_len,Builtin.len_,hax,run_underlying hT.u]
   exact keep (dv rfl)
 | @aw3 t e sz eF id b o n c x ats ha hx hT =>
  subst ha
  have hx':=hev x;rw[hx] at hx'
  generalize hax:a.eval x=ax at hx'
  cases hx' with
  | xI =>
   unfold execOp;rw[ho]
   simp[resolve,invoke,builtin_len,Builtin.len_,hax,run_underlying hT.u]
   exact keep (dv rfl)
 | @ab5 t e sz eF x ats ha hx hT =>
  subst ha
  have hx':=hev x;rw[hx] at hx'
  generalize hax:a.eval x=ax at hx'
  cases hx'
  unfold execOp;rw[ho]
  simp[resolve,invoke,builtin_cap,Builtin.cap_,hax,run_underlying hT.u]
  exact keep (dv rfl)
 | @max x y ats p q hx hy =>
  have hx':=hev x;rw[hx] at hx'
  have hy':=hev y;rw[hy] at hy'
  have e1:=iL hx'
  have e2:=iL hy'
  unfold execOp;rw[ho]
  simp[resolve,invoke,builtin_max,Builtin.max_,Builtin.max2,e1,e2]
  have:(if p<q then q else p)=Max.max p q:=by rw[Int.max_def];split <;> split <;> omega
  rw[this]
  exact keep (dv rfl)
 | @min x y ats k p q hx hy =>
  have hx':=hev x;rw[hx] at hx'
  have hy':=hev y;rw[hy] at hy'
  have e1:=iL hx'
  have e2:=iL hy'
  unfold execOp;rw[ho]
  simp[resolve,invoke,builtin_min,Builtin.min_,Builtin.min2,e1,e2]
  have:(if q<p then q else p)=Min.min p q:=by rw[Int.min_def];split <;> split <;> omega
  rw[this]
  exact keep (dv rfl)
 | @Xo x y t bs k n b hx hy hT hb =>
  have e1:=hev x;rw[hx] at e1
  have e2:=hev y;rw[hy] at e2
  have e1:=iL e1
  have e2:=iL e2
  unfold execOp;rw[ho]
  have hi:(Instr.index t (.string bs) (.int k (n:Int))).run P w=.ok (.int .u8 b.toNat) w:=by
   simp[Instr.index,run_underlying hT,hb,asIntOf]
  simp only[e1,e2,Sem.run_bind,hi,Result.andThen_ok]
  exact keep (dv (x:=.int .u8 b.toNat) rfl)
 | @aw6 x t f off vs v hx hT hv =>
  have hx':=hev x;rw[hx] at hx'
  generalize hax:a.eval x=ax at hx'
  cases hx' with
  | @ag us _ hl _ hr =>
   have hlt:off<us.length:=by rw[hl];exact (List.getElem?_eq_some_iff.1 hv).1
   have hu:us[off]? = some us[off]:=List.getElem?_eq_getElem hlt
   have hrun:=hT.run (cs:=us.toArray) (v:=us[off]) (by rw[List.getElem?_toArray];exact hu) w
   unfold execOp;rw[ho]
   simp only[hax,Sem.run_bind,hrun,Result.andThen_ok]
   exact keep (hr off _ _ hv hu)
 | @ext x i vs v hx hv =>
  have hx':=hev x;rw[hx] at hx'
  generalize hax:a.eval x=ax at hx'
  cases hx' with
  | @jS us _ hl hr =>
   have hlt:i<us.length:=by rw[hl];exact (List.getElem?_eq_some_iff.1 hv).1
   have hu:us[i]? = some us[i]:=List.getElem?_eq_getElem hlt
   unfold execOp;rw[ho]
   simp only[hax,Instr.extract,List.getElem?_toArray,hu,Sem.run_bind,Sem.run_pure,Result.andThen_ok]
   exact keep (hr i _ _ hv hu)
 | @build t parts zs cs pl hz hp hf =>
  obtain⟨z,hzr,z1,z2,z3⟩:=hz.zero w
  obtain⟨fs,hu,hm⟩:=Vw hp w
  obtain⟨us',g1,g2,g3,g4⟩:=SB hev parts.toList zs z.cells.toList cs hf z1 z2 (λi c u=>z3 F i c u)
  unfold execOp;rw[ho]
  have e1:(parts.map λp=>(p.1,a.eval p.2)).toList=parts.toList.map λp=>(p.1,a.eval p.2):=by simp
  have g1':Instr.fill (λi=>pl.toArray[i]?) z.cells (parts.toList.map λp=>(p.1,a.eval p.2))=some us'.toArray:=by simpa using g1
  have hrun:(Instr.build t (parts.map λp=>(p.1,a.eval p.2))).run P w=.ok (.agg us'.toArray) w:=by
   unfold Instr.build
   rw[Sem.run_bind,hzr]
   simp only[Result.andThen_ok]
   rw[Sem.run_bind,run_underlying hu]
   simp only[Result.andThen_ok]
   rw[Sem.run_bind,hm]
   simp only[Result.andThen_ok,e1]
   rw[g1']
   rfl
  show Good P (Sem.run P (do pure (.value (<- Instr.build t (parts.map λp=>(p.1,a.eval p.2))))) w) _
  rw[Sem.run_bind,hrun]
  exact keep (.ag g2 g3 g4)
 | @call f args ats nR caps args' res hf ha hs =>
  have hf':=hev f;rw[hf] at hf'
  generalize YQ:a.eval f=af at hf'
  cases hf' with
  | @fn _ us _ hl hr =>
   have hvs:kU F (args.toList.map a.eval++us) args':=qw (wJ (oZ hev _) ⟨hl,hr⟩) ha
   have hc:=hs.2 F w _ hF hvs
   unfold execOp;rw[ho]
   have e1:(args.map a.eval++us.toArray)=(args.toList.map a.eval++us).toArray:=by simp
   simp only[resolve,YQ,Deferred.ofValue,Sem.run_bind,Sem.run_pure,Result.andThen_ok,invoke,Array.empty_append,e1,mO hs.1]
   exact hc.mono λe w' ⟨v,F',he,hx,hv⟩=>⟨v,he,F',hx,hv⟩
 | @mkIf t x v hT hx =>
  have h:=hev x;rw[hx] at h
  unfold execOp;rw[ho]
  simp only[ab6 hT,Sem.run_bind,Sem.run_pure,Result.andThen_ok]
  exact keep (.JX h)
 | @aM8 t e x v hT hx =>
  have h:=hev x;rw[hx] at h
  generalize hax:a.eval x=ax at h
  cases h with
  | JX h =>
   unfold execOp;rw[ho]
   simp only[hax,ab7 hT,Sem.run_bind,Sem.run_pure,Result.andThen_ok]
   exact keep h
 | @inv x name args ats t nR v args' res hx hm ha hs =>
  have h:=hev x;rw[hx] at h
  generalize hax:a.eval x=ax at h
  cases h with
  | @JX _ u _ h =>
   have hvs:kU F (u::args.toList.map a.eval) args':=qw (KY h (oZ hev _)) ha
   have hc:=hs.2 F w _ hF hvs
   unfold execOp;rw[ho]
   rw[Xq hax hm hs.1 w]
   exact hc.mono λe w' ⟨v,F',he,hx,hv⟩=>⟨v,he,F',hx,hv⟩
 | @aw7 f caps =>
  unfold execOp;rw[ho]
  simp only[Instr.makeFunc,Sem.run_bind,Sem.run_pure,Result.andThen_ok]
  refine keep ?_
  have e2:caps.map a.eval=(caps.toList.map a.eval).toArray:=by cases caps;simp
  rw[e2,Array.map_empty]
  exact dm.fn (F:=F) (f:=f) (us:=caps.toList.map a.eval) (vs:=caps.toList.map ev) (oZ hev _).1 (oZ hev _).2
end
def SE (m:Nat):Bool:=decide (m<2) || decide (1000000<=m)
inductive uP (P:Program) (ev:Operand->V) (M:Mem) (m:Nat):Op->V->Prop
 | YR {x : Operand} {t n id b off ty : Nat} {cells : List V} (hx : ev x = .ptr id b off) (hM : M id = some (.box b ty cells)) (hT : xK P t n) (hn : off + n <= cells.length) :
   uP P ev M m (.load t x) (.ag ((cells.drop off).take n))
 | YS {x : Operand} {t id b off ty : Nat} {cells : List V} {c : V} (hx : ev x = .ptr id b off) (hM : M id = some (.box b ty cells)) (hT : jr P t) (hc : cells[off]? = some c) :
   uP P ev M m (.load t x) c
 | rowA {x : Operand} {t n id b sz i j c e : Nat} {es : List D} {el : D} (hm : SE m = true) (hx : ev x = .pW id b sz i j) (hM : M id = some (.row b c e sz es)) (hel : es[i]? = some el) (hT : xK P t n)
   (hn:j+n<=el.cells.length):uP P ev M m (.load t x) (.ag (((el.cells.drop j).take n).map .d))
 | J3 {x : Operand} {t id b sz i j c e : Nat} {es : List D} {el d : D} (hm : SE m = true) (hx : ev x = .pW id b sz i j) (hM : M id = some (.row b c e sz es)) (hel : es[i]? = some el) (hT : jr P t)
   (hd:el.cells[j]? = some d):uP P ev M m (.load t x) (.d d)
 | le {op:Op} {v v':V} (h:uP P ev M m op v) (hl:bG v v'):uP P ev M m op v'
def KZ (P:Program)(t:Nat)(ats:Array TypeId):Prop:=∃ t2 e2,ats = #[t,t2]/\P.underlying t2=some (.slice e2)
theorem KZ.same {P:Program}{t e sz eF:Nat}{ats:Array TypeId}(hT:bD P t e sz eF)(ha:ats = #[t,t]):KZ P t ats:=⟨t,e,ha,hT.u⟩
inductive Af (P:Program) (ev:Operand->V):Op->V->Prop
 | ac0 {t e sz eF n : Nat} {x y : Operand} {k k' : IntKind} {z : D} {zs : List V} (hx : ev x = .d (.sc (.int k (n : Int)))) (hy : ev y = .d (.sc (.int k' (n : Int)))) (hT : bD P t e sz eF) (hz : eU P e zs)
   (hc:VCs zs z.cells) (hb:eF*n<=281474976710656) (hm:n<=9223372036854775807):Af P ev (.makeSlice t x y) (.d (.sl (List.replicate n z)))
 | aw9 {t e sz eF : Nat} {s x : Operand} {xs : List D} {ats : Array TypeId} (ha : KZ P t ats) (hs : ev s = .mt) (hx : VC (ev x) (.sl xs)) (hT : bD P t e sz eF) (hsz : ∀ y, y ∈ xs -> y.cells.length = sz)
   (hb:xs.length*eF<=140737488355328) (hm:xs.length<=4611686018427387904) :
   Af P ev (.call { callee:=.builtin .append,args:=#[s,x],argTypes:=ats }) (.d (.sl xs))
 | YT {t e sz eF len : Nat} {parts : Array (Nat × Operand)} {xs : List D} (hT : bD P t e sz eF) (hl : parts.toList.map Prod.fst = List.range len) (hn : xs.length = len) (QG : len * sz <= 16777216) (hpos : 0 < len)
   (hx:∀ (i:Nat) (p:Nat × Operand) (y:D),parts.toList[i]? = some p->xs[i]? = some y->VD (ev p.2) y) (hsz:∀ y,y ∈ xs->y.cells.length=sz) :
   Af P ev (.buildSlice t len parts) (.d (.sl xs))
 | ax0 {t e sz eF:Nat} (hT:bD P t e sz eF):Af P ev (.buildSlice t 0 #[]) .mt
def jA:iE:=.row 0 0 0 0 []
inductive yT (P:Program) (ev:Operand->V) (d:Nat):Op->(Nat->Nat->V × iE)->Prop
 | alloc {t:Nat} {zs:List V} (hz:eU P t zs):yT P ev d (.alloc t) (λb _=>(.ptr d b 0,.box b t zs))
 | box {t:Nat} {x:Operand} {v:V} (hx:ev x=v) (hp:v.plain=true):yT P ev d (.box t x) (λb _=>(.ptr d b 0,.box b t v.cells))
 | make {t e sz eF n cp : Nat} {x y : Operand} {k k' : IntKind} {z : D} {zs : List V} (hx : ev x = .d (.sc (.int k (n : Int)))) (hy : ev y = .d (.sc (.int k' (cp : Int)))) (hT : bD P t e sz eF) (hz : eU P e zs)
   (hc:VCs zs z.cells) (hn:n<=cp) (hb:eF*cp<=281474976710656) (hm:cp<=9223372036854775807) :
   yT P ev d (.makeSlice t x y) (λb _=>(.bF d b n cp,.row b cp e sz (List.replicate n z)))
 | isNil {t e yt:Nat} {x:Operand} {es:List D} (hx:ev x=.d (.sl es)) (hT:P.underlying t=some (.slice e)) (hpos:∀ y,y ∈ es->0<y.cells.length):yT P ev d (.binOp .eql t x (.const (.slice none 0 0)) yt) (λb _=>(.d (.sc (.bool (b == 0 && es.isEmpty))),jA))
 | app {t e sz eF : Nat} {s x : Operand} {xs : List D} {ats : Array TypeId} (ha : KZ P t ats) (hs : ev s = .mt) (hx : VC (ev x) (.sl xs)) (hT : bD P t e sz eF) (hsz : ∀ y, y ∈ xs -> y.cells.length = sz)
   (hb:xs.length*eF<=140737488355328) (hm:xs.length<=4611686018427387904) :
   yT P ev d (.call { callee:=.builtin .append,args:=#[s,x],argTypes:=ats }) (λb c=>(.bF d b xs.length c,.row b c e sz xs))
 | lit {t e sz eF len : Nat} {parts : Array (Nat × Operand)} {xs : List D} (hT : bD P t e sz eF) (hl : parts.toList.map Prod.fst = List.range len) (hn : xs.length = len) (QG : len * sz <= 16777216) (hpos : 0 < len)
   (hx:∀ (i:Nat) (p:Nat × Operand) (y:D),parts.toList[i]? = some p->xs[i]? = some y->VD (ev p.2) y) (hsz:∀ y,y ∈ xs->y.cells.length=sz) :
   yT P ev d (.buildSlice t len parts) (λb _=>(.bF d b len len,.row b len e sz xs))
 | ax1 {t tn e sz eF n : Nat} {k : IntKind} {s x : Operand} {ats : Array TypeId} (ha : ats = #[t, tn]) (htn : JY P tn k) (hs : ev s = .mt) (hx : ev x = .d (.sc (.int .i64 (n : Int)))) (hT : bD P t e sz eF) (h0 : 0 < n)
   (hb:n*eF<=140737488355328) (hm:n<=4611686018427387904) :
   yT P ev d (.call { callee:=.builtin .append,args:=#[s,x],argTypes:=ats }) (λb c=>(.bF d b n c,.row b c e sz []))
 | Xr {f : Operand} {args : Array Operand} {ats : Array TypeId} {nR n e sz : Nat} {caps args' : List V} {es : List D} (hf : ev f = .fn nR caps) (ha : fH (args.toList.map ev ++ caps) args') (hs : jd P nR args' n e sz es) :
   yT P ev d (.call { callee:=.value f,args:=args,argTypes:=ats }) (λb c=>(.bF d b n c,.row b c e sz es))
 | ac1 {f : Operand} {args : Array Operand} {ats : Array TypeId} {nR n e e2 sz : Nat} {caps args' : List V} {rows : List (List D)} (hf : ev f = .fn nR caps) (ha : fH (args.toList.map ev ++ caps) args') (hs : KW P nR args' n e e2 sz rows) :
   yT P ev d (.call { callee:=.value f,args:=args,argTypes:=ats }) (λb k=>(.bF d b n ((aa9 k).headD 0),.YK b ((aa9 k).headD 0) e e2 sz ((YL rows.length (aa9 k).tail).zip rows)))
inductive GU (P:Program) (ev:Operand->V) (M:Mem) (d id:Nat):Op->(Nat->Nat->V × Option iE)->Prop
 | own {t e sz eF b n c : Nat} {s x : Operand} {es xs : List D} {ats : Array TypeId} (ha : KZ P t ats) (hs : ev s = .bF id b n c) (hM : M id = some (.row b c e sz es)) (hn : n = es.length) (hx : VC (ev x) (.sl xs))
   (hT:bD P t e sz eF) (hsz:∀ y,y ∈ xs->y.cells.length=sz) (hb:(n+xs.length)*eF<=140737488355328) (hm:n+xs.length<=4611686018427387904) :
   GU P ev M d id (.call { callee:=.builtin .append,args:=#[s,x],argTypes:=ats }) (λb' c'=>(.bF d b' (n+xs.length) c',some (.row b' c' e sz (es++xs))))
 | Vx {t e sz eF b n c : Nat} {s x : Operand} {es xs : List D} {ats : Array TypeId} (ha : KZ P t ats) (hs : ev s = .bF id b n c) (hM : M id = some (.row b c e sz es)) (hn : n = es.length) (hx : VC (ev x) (.sl xs))
   (hT:bD P t e sz eF) (hsz:∀ y,y ∈ xs->y.cells.length=sz) (hb:(n+xs.length)*eF<=140737488355328) (hm:n+xs.length<=4611686018427387904) :
   GU P ev M d id (.call { callee:=.builtin .append,args:=#[s,x],argTypes:=ats }) (λ_ _=>(.d (.sl (es++xs)),none))
 | ownB {t e sz eF b o n c : Nat} {s x : Operand} {es xs : List D} {ats : Array TypeId} (ha : KZ P t ats) (hs : ev s = .xI id b sz o n c) (hM : M id = some (.row b (o + c) e sz es)) (hn : o + n = es.length) (hx : VC (ev x) (.sl xs))
   (hT:bD P t e sz eF) (hsz:∀ y,y ∈ xs->y.cells.length=sz) (hb:(n+xs.length)*eF<=140737488355328) (hm:n+xs.length<=4611686018427387904) :
   GU P ev M d id (.call { callee:=.builtin .append,args:=#[s,x],argTypes:=ats }) (λb' k=>(.xI d b' sz (if k % 2=0 then o else 0) (n+xs.length) (k / 2),some (.row b' ((if k % 2=0 then o else 0)+k / 2) e sz ((if k % 2=0 then es else es.drop o)++xs))))
inductive yg (P:Program) (ev:Operand->V) (M:Mem):Op->Mem->Prop
 | box {x y : Operand} {t n id b off ty : Nat} {cells : List V} {v : V} (hx : ev x = .ptr id b off) (hy : ev y = v) (hp : v.plain = true) (hM : M id = some (.box b ty cells)) (hT : (P.info? t).map (·.size) = some n)
   (hl:v.cells.length=n) (hn:off+n<=cells.length):yg P ev M (.store t x y) (upd M id (some (.box b ty (cells.take off++v.cells++cells.drop (off+n)))))
 | row {x y : Operand} {t id b sz i c e : Nat} {es : List D} {d : D} (hx : ev x = .pW id b sz i 0) (hy : VD (ev y) d) (hM : M id = some (.row b c e sz es)) (hT : (P.info? t).map (·.size) = some sz)
   (hl:d.cells.length=sz) (hi:i<es.length):yg P ev M (.store t x y) (upd M id (some (.row b c e sz (es.set i d))))
 | ax2 {x y : Operand} {t id b sz i j n c e : Nat} {es : List D} {d el el2 : D} (hx : ev x = .pW id b sz i j) (hy : VD (ev y) d) (hM : M id = some (.row b c e sz es)) (hT : (P.info? t).map (·.size) = some n)
   (hl:d.cells.length=n) (hel:es[i]? = some el) (hj:j+n<=sz) (he:el2.cells=el.cells.take j++d.cells++el.cells.drop (j+n)):yg P ev M (.store t x y) (upd M id (some (.row b c e sz (es.set i el2))))
def Mem.over (M Mc DX:Mem):Mem:=λid=>if (Mc id).isSome then DX id else M id
inductive GV (P:Program) (ev:Operand->V) (M:Mem) (x:Operand) (name:String):Nat->V->Prop
 | p {t nR:Nat} {v:V} (hx:ev x=.JX t v) (hm:Xm P t name nR):GV P ev M x name nR v
 | v {t e nR id b ty:Nat} {c:V} {r:List V} (hx:ev x=.JX t (.ptr id b 0)) (hm:ab3 P t e name nR) (hT:jr P e) (hM:M id=some (.box b ty (c::r))):GV P ev M x name nR c
theorem GV.mono {P:Program}{ev:Operand->V}{M M':Mem}{x:Operand}{name:String}{nR:Nat}{v:V}(h:GV P ev M x name nR v)(hM:∀ id blk,M id=some blk->M' id=some blk):GV P ev M' x name nR v:=by
 cases h with
 | p hx hm=>exact .p hx hm
 | v hx hm hT h=>exact .v hx hm hT (hM _ _ h)
theorem GV.congr {P:Program}{ev ev':Operand->V}{M:Mem}{x:Operand}{name:String}{nR:Nat}{v:V}(h:GV P ev M x name nR v)(he:ev' x=ev x):GV P ev' M x name nR v:=by
 cases h with
 | p hx hm=>exact .p (he.trans hx) hm
 | v hx hm hT h=>exact .v (he.trans hx) hm hT h
inductive qx (P:Program) (ev:Operand->V) (M:Mem):Op->V->Mem->Prop
 | mk {f : Operand} {args : Array Operand} {ats : Array TypeId} {nR : Nat} {caps args' : List V} {res : V} {Mc DX : Mem} (hf : ev f = .fn nR caps) (ha : fH (args.toList.map ev ++ caps) args')
   (hc:∀ id blk,Mc id=some blk->M id=some blk) (hc':∀ id,Mc id=none ↔ DX id=none) (hs:eX P nR args' Mc res DX) :
   qx P ev M (.call { callee:=.value f,args:=args,argTypes:=ats }) res (M.over Mc DX)
 | inv {x : Operand} {name : String} {args : Array Operand} {ats : Array TypeId} {nR : Nat} {rv : V} {args' : List V} {res : V} {Mc DX : Mem} (hr : GV P ev M x name nR rv) (ha : fH (rv :: args.toList.map ev) args')
   (hc:∀ id blk,Mc id=some blk->M id=some blk) (hc':∀ id,Mc id=none ↔ DX id=none) (hs:eX P nR args' Mc res DX) :
   qx P ev M (.call { callee:=.invoke x name,args:=args,argTypes:=ats }) res (M.over Mc DX)
 | copy {t e sz eF id b n c : Nat} {s x : Operand} {es xs : List D} {ats : Array TypeId} (ha : ats = #[t, t]) (hs : ev s = .bF id b n c) (hM : M id = some (.row b c e sz es)) (hn : n = es.length) (hx : VC (ev x) (.sl xs)) (hl : xs.length = n) (h0 : 0 < n)
   (hT:bD P t e sz eF) (hsz:∀ y,y ∈ xs->y.cells.length=sz) :
   qx P ev M (.call { callee:=.builtin .copy,args:=#[s,x],argTypes:=ats }) (.d (.sc (.int .i64 (n:Int)))) (upd M id (some (.row b c e sz xs)))
def DN (m:Nat)(op:Op):Bool :=
 m == 0 || match op with
 | .alloc _=>true
 | .call { callee:=.builtin .append,.. }=>true
 | _=>false
def Ku:Op->Bool
 | .call { callee:=.value _,.. }=>true
 | .call { callee:=.invoke ..,.. }=>true
 | .call { callee:=.builtin .copy,.. }=>true
 | _=>false
def Jt (m:Nat)(o:Oper):Bool:=decide (3<=m) && decide (m % 2=1) && decide (o.dst=some ((m-3) / 2)) && Ku o.op
def Vy:Op->Bool
 | .call { callee:=.value _,.. }=>true
 | .makeSlice ..=>true
 | _=>false
def GX (m:Nat)(o:Oper):Bool:=decide (3<=m) && decide (m % 2=0) && decide (o.dst=some ((m-3) / 2)) && Vy o.op
def Ju (m:Nat)(o:Oper):Bool:=decide (1000000<=m) && decide (o.dst=some (m-1000000)) && Ku o.op
def OW (P:Program)(m:Nat)(o:Oper)(K:S->Prop)(s:S):Prop :=
 (∃ v,(Pure P s.ev o.op v \/ Af P s.ev o.op v)/\K (s.put o.dst v)) \/
 (∃ v,uP P s.ev s.M m o.op v/\K (s.put o.dst v)) \/
 (∃ d g,o.dst=some d/\(s.M d=none/\(DN m o.op=true \/ GX m o=true))/\yT P s.ev d o.op g/\∀ b c,K ⟨upd s.ρ d (g b c).1,upd s.M d (some (g b c).2)⟩) \/
 (∃ d id g,o.dst=some d/\(s.M d=none \/ d=id)/\GU P s.ev s.M d id o.op g/\∀ b c,K ⟨upd s.ρ d (g b c).1,upd (upd s.M id (some jA)) d (g b c).2⟩) \/
 (o.dst=none/\∃ M',yg P s.ev s.M o.op M' /\ K ⟨s.ρ,M'⟩) \/
 ((m=0 \/ Jt m o=true)/\∃ v M',qx P s.ev s.M o.op v M' /\ K ((⟨s.ρ,M'⟩:S).put o.dst v)) \/
 (Ju m o=true/\∃ v,qx P s.ev s.M o.op v s.M/\K (s.put o.dst v))
section
variable {P:Program}{ev:Operand->V}{a:Act}{F:Hp}{w:World}{M:Mem}
theorem Rep.row {F:Hp}{b n c sz:Nat}{cs:List Value}{t:TypeId}{fr:Nat × Nat}{es:List D}(hF:F b=some (.cells cs.toArray t fr))(hn:es.length=n)(hc:n<=c)(hsz:∀ e,e ∈ es->e.cells.length=sz)
  (hl:n*sz<=cs.length) (h1:∀ u,u ∈ cs->u.oneCell' = true)
  (hr:∀ (i:Nat) (d:D) (u:Value),(es.flatMap D.cells)[i]? = some d->cs[i]? = some u->Rep F u d) :
  Rep F (.slice (some ⟨b,0,none⟩) n c) (.sl es):=by
 have hget:∀ i,i<n*sz->cs[i]? = some (cs.getD i undef):=λi hi=>by
  rw[List.getD_eq_getElem?_getD,List.getElem?_eq_getElem (by omega)];rfl
 refine .sl (sz:=sz) (us:=λi=>cs.getD i undef) hn hc hsz (λi hi=>⟨_,rfl,?_⟩) (λi hi=>h1 _ (List.mem_of_getElem? (hget i hi))) (λi d hd=>?_)
 .rw[addr_add,Nat.zero_add]
  simp only[DY,hF,List.getElem?_toArray,hget i hi]
  rfl
 .have hi:i<n*sz:=by rw[<- hn,<- flat_length hsz];exact (List.getElem?_eq_some_iff.1 hd).1
  exact hr i d _ hd (hget i hi)
theorem wK (h:wI F M w){id b c e sz:Nat}{es:List D}(hM:M id=some (.row b c e sz es)) :
  ∃ F',Hp.le F F' /\ wI F' (upd M id none) w/\(∀ k,F k=none->F' k≠none->jM M k)/\∀ (u:Value) (n:Nat),dm F u (.bF id b n c)->n<=es.length->Rep F' u (.sl (es.take n)):=by
 have hin:∀ id' jE k,(upd M id none) id' = some jE -> jE.owns k->id' ≠ id/\M id' = some jE:=λid' jE k hm hk=>by
  unfold upd at hm
  split at hm
  .cases hm
  .rename_i hne;exact⟨hne,hm⟩
 obtain⟨g0,g1,g2⟩:=h.own id _ hM
 by_cases hc:0<c
 .obtain⟨cs,hh,hl,h1,hr⟩:=g2 hc
  have hFb:F b=none:=h.apart id _ b hM ⟨hc,rfl⟩
  have hle:Hp.le F (F.add b (.cells cs.toArray e (0,0))):=λk o hk=>by
   unfold Hp.add
   split
   .rename_i e';subst e';rw[hFb] at hk;cases hk
   .exact hk
  refine⟨F.add b (.cells cs.toArray e (0,0)),hle,⟨λk o hk=>?_,λid' jE hm=>?_,λid' jE k hm hk=>?_,λi j bi bj k hi hj ki kj=>?_⟩,λk hk hn=>?_,λu n hu hn=>?_⟩
  .unfold Hp.add at hk
   split at hk
   .rename_i e';subst e';cases hk;exact hh
   .exact h.rM k o hk
  .have hm':M id' = some jE:=by unfold upd at hm;split at hm;cases hm;exact hm
   exact (h.own id' jE hm').keep hle λk _=>rfl
  .obtain⟨hne,hm'⟩:=hin id' jE k hm hk
   unfold Hp.add
   split
   .rename_i e';subst e'
    exact absurd (h.inj id' id _ _ _ hm' hM hk ⟨hc,rfl⟩) hne
   .exact h.apart id' jE k hm' hk
  .exact h.inj i j bi bj k (hin i bi k hi ki).2 (hin j bj k hj kj).2 ki kj
  .unfold Hp.add at hn
   split at hn
   .rename_i e';subst e';exact⟨id,_,hM,hc,rfl⟩
   .exact absurd hk hn
  .cases hu with
   | bF ha hnc =>
    rw[ha hc]
    obtain⟨r,hr'⟩:=uO (es:=es) n
    refine Rep.row (cs:=cs) (t:=e) (fr:=(0,0)) (sz:=sz) (by simp[Hp.add]) (by rw[List.length_take];omega) hnc (λx hx=>g1 x (List.mem_of_mem_take hx)) ?_ h1 λi d u hd hu=>?_
    .rw[hl];exact Nat.mul_le_mul_right _ hnc
    .refine (hr i d u ?_ hu).mono hle
     rw[hr',List.getElem?_append_left (List.getElem?_eq_some_iff.1 hd).1]
     exact hd
 .refine⟨F,Hp.le.refl F,⟨h.rM,λid' jE hm=>?_,λid' jE k hm hk=>?_,λi j bi bj k hi hj ki kj=>?_⟩,λk hk hn=>absurd hk hn,λu n hu hn=>?_⟩
  .have hm':M id' = some jE:=by unfold upd at hm;split at hm;cases hm;exact hm
   exact h.own id' jE hm'
  .exact h.apart id' jE k (hin id' jE k hm hk).2 hk
  .exact h.inj i j bi bj k (hin i bi k hi ki).2 (hin j bj k hj kj).2 ki kj
  .cases hu with
   | bF ha hnc =>
    have hc0:c=0:=by omega
    subst hc0
    have hn0:n=0:=by omega
    subst hn0
    exact Rep.nil_
theorem After.IQ {F':Hp}{w':World}(h:wI F M w)(x:Ext F w F' w')(d:Nat)(blk:iE)(hb:vg F' w' blk)(hk:∀ k,blk.owns k->w.heap.size<=k/\F' k=none) :
  After F M w F' (upd M d (some blk)) w':=by
 have hs:=h.ext x
 have part:∀ id b',(upd M d (some blk)) id=some b' -> (id=d/\b' = blk) \/ (id≠d/\M id=some b'):=λid b' hm=>by
  unfold upd at hm
  split at hm
  .rename_i e;cases hm;exact .inl ⟨e,rfl⟩
  .rename_i e;exact .inr ⟨e,hm⟩
 refine⟨x.grow.mono λ_ f=>f.elim,x.le,⟨x.rM,λid b' hm=>?_,λid b' k hm ho=>?_,λi j bi bj k hi hj ki kj=>?_⟩,λk a b=>.inl (x.new k a b),λk ⟨id,b',hm,ho⟩=>?_⟩
 .rcases part id b' hm with ⟨rfl,rfl⟩|⟨_,hm⟩
  .exact hb
  .exact hs.own id b' hm
 .rcases part id b' hm with ⟨rfl,rfl⟩|⟨_,hm⟩
  .exact (hk k ho).2
  .exact hs.apart id b' k hm ho
 .rcases part i bi hi with ⟨ei,fi⟩|⟨ni,hi'⟩ <;> rcases part j bj hj with ⟨ej,fj⟩|⟨nj,hj'⟩
  .rw[ei,ej]
  .rw[fi] at ki;have:=(hk k ki).1;have:=(h.own j bj hj').lt kj;omega
  .rw[fj] at kj;have:=(hk k kj).1;have:=(h.own i bi hi').lt ki;omega
  .exact h.inj i j bi bj k hi' hj' ki kj
 .rcases part id b' hm with ⟨rfl,rfl⟩|⟨_,hm⟩
  .exact .inl (hk k ho).1
  .exact .inr ⟨id,b',hm,ho⟩
theorem After.freeze {F':Hp}{M':Mem}{w':World}(ha:After F M w F' M' w'){id b c e sz:Nat}{es:List D}(hM:M' id=some (.row b c e sz es)) :
  ∃ F'',After F M w F'' (upd M' id none) w' /\ Hp.le F' F'' /\ ∀ (u:Value) (n:Nat),dm F' u (.bF id b n c)->n<=es.length->Rep F'' u (.sl (es.take n)):=by
 obtain⟨F'',h1,h2,h3,h4⟩:=wK ha.gU hM
 refine⟨F'',⟨ha.grow,ha.le.trans h1,h2,λk hk hn=>?_,λk ⟨i,bl,hm,ho⟩=>?_⟩,h1,h4⟩
 .cases hf:F' k with
  | none=>exact ha.kM k (h3 k hf hn)
  | some o=>exact ha.new k hk (by rw[hf];simp)
 .refine ha.kM k ⟨i,bl,?_,ho⟩
  unfold upd at hm
  split at hm
  .cases hm
  .exact hm
end
section
variable {P:Program}{ev:Operand->V}{a:Act}{F:Hp}{w:World}{M:Mem}
theorem cell_of_box {cs:List Value}{b t:Nat}{fr:Nat × Nat}(h:w.heap[b]? = some (.cells cs.toArray t fr))(off j:Nat)(v:Value)(hv:cs[off+j]? = some v) :
  w.cell? ((⟨b,off,none⟩:Addr).add j)=some v:=by
 rw[addr_add]
 simp[World.cell?,h,hv]
theorem YU {M:Mem}{id b ty:Nat}{c:V}{r:List V}(hS:wI F M w)(hM:M id=some (.box b ty (c::r))):∃ u,w.cell? ⟨b,0,none⟩ = some u/\dm F u c:=by
 obtain⟨cs,hh,hl,h1,hr⟩:=hS.own id _ hM
 have hlt:0<cs.length:=by rw[hl];simp
 have hu:cs[0]? = some cs[0]:=List.getElem?_eq_getElem hlt
 have hcell:=cell_of_box hh 0 0 _ hu
 rw[addr_add,Nat.add_zero] at hcell
 exact⟨_,hcell,hr _ _ _ rfl hu⟩
theorem uP.sound {o:Oper}{op:Op}{v:V}{m:Nat}(ho:o.op=op)(hp:uP P ev M m op v)(hev:∀ x,dm F (a.eval x) (ev x))(hS:wI F M w) :
  Good P ((execOp a.eval o).run P w) λu w'=>w' = w/\dm F u v:=by
 induction hp with
 | @YR x t n id b off ty cells hx hM hT hn =>
  have hx':=hev x;rw[hx] at hx'
  generalize hax:a.eval x=ax at hx'
  cases hx'
  obtain⟨cs,hh,hl,h1,hr⟩:=hS.own id _ hM
  have hrun:=um (P:=P) (w:=w) hT ⟨b,off,none⟩ ((cs.drop off).take n) (by rw[List.length_take,List.length_drop];omega) λj u hj=>by
   refine cell_of_box hh off j u ?_
   rw[List.getElem?_take] at hj
   split at hj
   .rwa [List.getElem?_drop] at hj
   .cases hj
  unfold execOp;rw[ho];simp only[hax,Instr.loadAt,Instr.sureAddr,Sem.run_bind,Sem.run_pure,Result.andThen_ok,hrun]
  refine⟨rfl,.ag (by rw[List.length_take,List.length_take,List.length_drop,List.length_drop,hl]) (λu hu=>h1 u (List.mem_of_mem_drop (List.mem_of_mem_take hu))) λi c u hc hu=>?_⟩
  rw[List.getElem?_take] at hc hu
  split at hc
  .rename_i hi
   rw[if_pos hi] at hu
   rw[List.getElem?_drop] at hc hu
   exact hr _ c u hc hu
  .cases hc
 | @YS x t id b off ty cells c hx hM hT hc =>
  have hx':=hev x;rw[hx] at hx'
  generalize hax:a.eval x=ax at hx'
  cases hx'
  obtain⟨cs,hh,hl,h1,hr⟩:=hS.own id _ hM
  have hlt:off<cs.length:=by rw[hl];exact (List.getElem?_eq_some_iff.1 hc).1
  have hu:cs[off]? = some cs[off]:=List.getElem?_eq_getElem hlt
  have hcell:=cell_of_box hh off 0 _ hu
  rw[addr_add,Nat.add_zero] at hcell
  have hrun:=oW (P:=P) hT hcell
  unfold execOp;rw[ho];simp only[hax,Instr.loadAt,Instr.sureAddr,Sem.run_bind,Sem.run_pure,Result.andThen_ok,hrun]
  exact⟨rfl,hr _ _ _ hc hu⟩
 | @rowA x t n id b sz i j c e es el hm hx hM hel hT hn =>
  have hx':=hev x;rw[hx] at hx'
  generalize hax:a.eval x=ax at hx'
  cases hx'
  obtain⟨g0,g1,g2⟩:=hS.own id _ hM
  have hil:i<es.length:=(List.getElem?_eq_some_iff.1 hel).1
  obtain⟨cs,hh,hl,h1,hr⟩:=g2 (by omega)
  have hsz:=g1 el (List.mem_of_getElem? hel)
  have hbd:i*sz+sz<=cs.length:=by
   have:(i+1)*sz<=c*sz:=Nat.mul_le_mul_right _ (by omega)
   rw[Nat.add_mul] at this;omega
  have hrun:=um (P:=P) (w:=w) hT ⟨b,i*sz+j,none⟩ ((cs.drop (i*sz+j)).take n) (by rw[List.length_take,List.length_drop];omega) λk u hj=>by
   refine cell_of_box hh _ k u ?_
   rw[List.getElem?_take] at hj
   split at hj
   .rwa [List.getElem?_drop] at hj
   .cases hj
  unfold execOp;rw[ho];simp only[hax,Instr.loadAt,Instr.sureAddr,Sem.run_bind,Sem.run_pure,Result.andThen_ok,hrun]
  refine⟨rfl,.ag (by simp only[List.length_take,List.length_map,List.length_drop];omega) (λu hu=>h1 u (List.mem_of_mem_drop (List.mem_of_mem_take hu))) λk d u hd hu=>?_⟩
  rw[List.getElem?_map,List.getElem?_take] at hd
  rw[List.getElem?_take] at hu
  split at hd
  .rename_i hk
   rw[if_pos hk] at hu
   rw[List.getElem?_drop] at hd hu
   cases hq:el.cells[j+k]? with
   | none=>simp[hq] at hd
   | some q =>
    simp only[hq,Option.map_some,Option.some.injEq] at hd
    rw[<- hd]
    refine .d (hr (i*sz+(j+k)) q u ?_ (by rw[<- hu];congr 1;omega)) (h1 u (List.mem_of_getElem? hu))
    rw[flat_get g1 hel (j+k) (by omega),hq]
  .cases hd
 | @J3 x t id b sz i j c e es el d hm hx hM hel hT hd =>
  have hx':=hev x;rw[hx] at hx'
  generalize hax:a.eval x=ax at hx'
  cases hx'
  obtain⟨g0,g1,g2⟩:=hS.own id _ hM
  have hil:i<es.length:=(List.getElem?_eq_some_iff.1 hel).1
  obtain⟨cs,hh,hl,h1,hr⟩:=g2 (by omega)
  have hsz:=g1 el (List.mem_of_getElem? hel)
  have hj:j<sz:=by rw[<- hsz];exact (List.getElem?_eq_some_iff.1 hd).1
  have hbd:i*sz+sz<=cs.length:=by
   have:(i+1)*sz<=c*sz:=Nat.mul_le_mul_right _ (by omega)
   rw[Nat.add_mul] at this;omega
  have hu:cs[i*sz+j]? = some (cs[i*sz+j]'(by omega)):=List.getElem?_eq_getElem _
  have hcell:=cell_of_box hh (i*sz+j) 0 _ hu
  rw[addr_add,Nat.add_zero] at hcell
  have hrun:=oW (P:=P) hT hcell
  unfold execOp;rw[ho];simp only[hax,Instr.loadAt,Instr.sureAddr,Sem.run_bind,Sem.run_pure,Result.andThen_ok,hrun]
  refine⟨rfl,.d (hr (i*sz+j) d _ ?_ hu) (h1 _ (List.mem_of_getElem? hu))⟩
  rw[flat_get g1 hel j hj,hd]
 | le h hl ih=>exact (ih ho).mono λu w' ⟨e,hv⟩=>⟨e,hl _ _ hv⟩
theorem Ext.alloc (hF:Hp.Sl F w)(ob:Obj){w':World}(hos:w'.os=w.os)(htape:w'.tape=w.tape)(hout:w'.output=w.output)(hheap:w'.heap=w.heap.push ob):Ext F w F w' :=
  ⟨⟨hos, htape, hout, by rw[hheap]; simp, λk hk _ => by rw[hheap, Array.getElem?_push, if_neg (by omega)]⟩, Hp.le.refl F, λk o' hk => by
    have:=hF.lt hk
    rw[hheap,Array.getElem?_push,if_neg (by omega)]
    exact hF _ _ hk,λk h h'=>absurd h h'⟩
theorem A8 {w w':World}{ob:Obj}(h:w'.heap=w.heap.push ob):w'.heap[w.heap.size]? = some ob:=by rw[h];simp
theorem Xt (hS:wI F M w)(d t:Nat)(cs:List Value)(cells:List V)(hl:cs.length=cells.length)(h1:∀ u,u ∈ cs->u.oneCell' = true)
  (hr:∀ (i:Nat) (c:V) (u:Value),cells[i]? = some c->cs[i]? = some u->dm F u c) {w':World} (hos:w'.os=w.os) (htape:w'.tape=w.tape) (hout:w'.output=w.output)
  (hheap:w'.heap=w.heap.push (.cells cs.toArray t (0,0))):After F M w F (upd M d (some (.box w.heap.size t cells))) w' :=
 After.IQ hS (Ext.alloc hS.rM _ hos htape hout hheap) d _ ⟨cs,A8 hheap,hl,h1,hr⟩ λk hk=>by
  cases hk
  exact⟨Nat.le_refl _,hS.rM.fresh (Nat.le_refl _)⟩
theorem Kv (hS:wI F M w)(d e c sz:Nat)(cs:List Value)(es:List D)(hc:es.length<=c)(hl:cs.length=c*sz)(h1:∀ u,u ∈ cs->u.oneCell' = true)(hsz:∀ x,x ∈ es->x.cells.length=sz)
  (hr:∀ (i:Nat) (x:D) (u:Value),(es.flatMap D.cells)[i]? = some x->cs[i]? = some u->Rep F u x) {w':World} (hos:w'.os=w.os) (htape:w'.tape=w.tape) (hout:w'.output=w.output)
  (hheap:w'.heap=w.heap.push (.cells cs.toArray e (0,0))):After F M w F (upd M d (some (.row w.heap.size c e sz es))) w' :=
 After.IQ hS (Ext.alloc hS.rM _ hos htape hout hheap) d _ ⟨hc,hsz,λ_=>⟨cs,A8 hheap,hl,h1,hr⟩⟩ λk hk=>by
  obtain⟨_,rfl⟩:=hk
  exact⟨Nat.le_refl _,hS.rM.fresh (Nat.le_refl _)⟩
theorem Kw {α:Type}(f:Nat->α)(i:Nat)(v u:α):upd (upd f i v) i u=upd f i u:=by
 funext k;unfold upd;split <;> rfl
theorem GY {d e c sz n b:Nat}{es:List D}{F':Hp}{w':World}{M':Mem}{u:Value}(ha:After F M w F' (upd M' d (some (.row b c e sz es))) w')(hu:dm F' u (.bF d b n c))(hn:n=es.length)(ho:u.oneCell' = true) :
  ∃ F'',After F M w F'' (upd M' d none) w' /\ dm F'' u (.d (.sl es)):=by
 obtain⟨F'',h1,h2,h3⟩:=ha.freeze (id:=d) (upd_same _ _ _)
 rw[Kw] at h1
 refine⟨F'',h1,.d ?_ ho⟩
 have:=h3 u n hu (by omega)
 rwa [hn,List.take_length] at this
theorem SH {ao:Option Addr}{m c:Nat}{xs:List D}(h:Rep F (.slice ao m c) (.sl xs))(hF:Hp.Sl F w){sz:Nat}(hsz:∀ y,y ∈ xs->y.cells.length=sz)(hpos:0<m)(hs:0<sz) :
  ∃ (ad:Addr) (news:List Value),ao=some ad/\news.length=m*sz/\(∀ j u,news[j]? = some u->w.cell? (ad.add j)=some u)/\(∀ u,u ∈ news->u.oneCell' = true) /\
   ∀ (i:Nat) (d:D) (u:Value),(xs.flatMap D.cells)[i]? = some d->news[i]? = some u->Rep F u d:=by
 cases h with
 | @sl _ _ _ sz' _ us hn hc hs' ha ho hr =>
  have e:sz' = sz:=by
   have hm:xs[0]'(by omega) ∈ xs:=List.getElem_mem _
   rw[<- hs' _ hm,hsz _ hm]
  subst e
  obtain⟨ad,rfl,_⟩:=ha 0 (Nat.mul_pos hpos hs)
  have hg:∀ j u,((List.range (m*sz')).map us)[j]? = some u->j<m*sz' /\ us j=u:=λj u hj=>by
   have hjn:j<m*sz':=by have:=(List.getElem?_eq_some_iff.1 hj).1;simpa using this
   rw[List.getElem?_map,List.getElem?_range hjn] at hj
   exact⟨hjn,by simpa using hj⟩
  refine⟨ad,(List.range (m*sz')).map us,rfl,by simp,λj u hj=>?_,λu hu=>?_,λi d u hd hu=>?_⟩
  .obtain⟨hjn,rfl⟩:=hg j u hj
   obtain⟨ad',e,hcell⟩:=ha j hjn
   cases e
   exact F6 hF hcell
  .obtain⟨j,hj,rfl⟩:=List.mem_map.1 hu
   exact ho j (by simpa using hj)
  .obtain⟨_,rfl⟩:=hg i u hu
   exact hr i d hd
theorem J4 (t ty:Nat){e sz eF:Nat}(hT:bD P t e sz eF)(ao xo:Option Addr)(n c cx:Nat)(hc:n<=c)(w:World) :
  (Builtin.append_ #[t,t] ty #[.slice ao n c,.slice xo 0 cx]).run P w=.ok (.slice ao n c) w:=by
 obtain⟨i,z,hi,hz,h1,h2,h3⟩:=hT.parts
 have hnt:¬ (P.underlying t matches some (.int _)):=by rw[hT.u];simp
 have hf:(Builtin.firstCells sz 0 (.slice xo 0 cx)).run P w=.ok #[] w:=by cases xo <;> simp[Builtin.firstCells,loadCells,loadCellsFrom]
 cases ao <;> simp[Builtin.append_,run_underlying hT.u,sizeOf,typeInfo,hi,h2,Builtin.lenOf,hc,hf,storeCells]
theorem YV {t t2 e e2 ty:Nat}(hu:P.underlying t=some (.slice e))(h2:P.underlying t2=some (.slice e2))(u x:Value):(Builtin.append_ #[t,t2] ty #[u,x]).run P w=(Builtin.append_ #[t,t] ty #[u,x]).run P w:=by
 cases u <;> simp[Builtin.append_,run_underlying hu,run_underlying h2]
theorem vk {o:Oper}{s x:Operand}{t t2 e e2:Nat}(hu:P.underlying t=some (.slice e))(h2:P.underlying t2=some (.slice e2))(ho:o.op=.call { callee:=.builtin .append,args:=#[s,x],argTypes:=#[t,t2] }){R:Value->World->Prop}{v:Value}{w':World}
  (hr:(Builtin.append_ #[t,t] o.type #[a.eval s,a.eval x]).run P w=.ok v w') (h:R v w'):Good P ((execOp a.eval o).run P w) R:=by
 rw[<- YV hu h2] at hr
 unfold execOp;rw[ho]
 simp only[resolve,Sem.run_bind,Sem.run_pure,Result.andThen_ok,invoke,builtin_append]
 have e1:(#[s,x].map a.eval) = #[a.eval s,a.eval x]:=by simp
 rw[e1,hr]
 exact h
end
section
variable {P:Program}{ev:Operand->V}{a:Act}{F:Hp}{w:World}{M:Mem}
theorem Ba {z:Array Value}(h:∀ u,u ∈ z.toList->u.oneCell' = true)(n:Nat):∀ u,u ∈ (Builtin.zeroCells z n).toList->u.oneCell' = true:=by
 intro u hu
 simp only[Builtin.zeroCells,Array.toList_map,List.mem_map,Array.toList_range,List.mem_range] at hu
 obtain⟨j,hj,rfl⟩:=hu
 have hz:0<z.size:=by
  rcases Nat.eq_zero_or_pos z.size with h0|h0
  .rw[h0] at hj;simp at hj
  .exact h0
 have hlt:j % z.size<z.size:=Nat.mod_lt _ hz
 rw[getElem!_pos z (j % z.size) hlt]
 exact h _ (by simp)
theorem ac2 {z:Array Value}{sz:Nat}(h:z.size=sz)(k:Nat):(Builtin.zeroCells z k).toList.length=k*sz:=by rw[Array.length_toList,size_zeroCells,h]
theorem IU (w:World)(t ty e:TypeId)(i:TypeInfo)(ht:P.underlying t=some (.slice e))(hi:P.info? e=some i)
  (g off sLen sCap:Nat) (cur:Array Value) (hg:w.heap[g]? = some (.cells cur e (0,0)))
  (a:Addr) (m c:Nat) (news:List Value) (hl:news.length=m*i.size) (hnews:∀ j u,news[j]? = some u->w.cell? (a.add j)=some u) (h1:∀ u ∈ news,u.oneCell' = true)
  (hroom:sLen+m<=sCap) (hfit:off+sLen*i.size+news.length<=cur.size) :
  (Builtin.append_ #[t,t] ty #[.slice (some ⟨g,off,none⟩) sLen sCap,.slice (some a) m c]).run P w =
   .ok (.slice (some ⟨g,off,none⟩) (sLen+m) sCap) (w.setRow g (cur.toList.take (off+sLen*i.size)++news++cur.toList.drop (off+sLen*i.size+news.length)).toArray):=by
 have hf:=run_firstCells_some (P:=P) w i.size m a m c news hl hnews
 have hst:=run_storeCells_at P g (off+sLen*i.size) e news 0 cur w hg (by simpa using hfit) h1
 simp only[Nat.add_zero] at hst
 simp[Builtin.append_,run_underlying ht,sizeOf,typeInfo,hi,Builtin.lenOf,hroom,hf,Addr.add_lit,hst]
theorem La (hS : wI F M w) {t ty e sz eF : Nat} (hT : bD P t e sz eF) {d id b o n c : Nat} {es xs : List D} {u : Value} (hu : dm F u (.xI id b sz o n c)) (hn : o + n = es.length)
  (hM:M id=some (.row b (o+c) e sz es)) (hd:M d=none \/ d=id)
  {x:Value} (hx:Rep F x (.sl xs)) (hsz:∀ y,y ∈ xs->y.cells.length=sz) (hb:(n+xs.length)*eF<=140737488355328) (hm:n+xs.length<=4611686018427387904) :
  ∃ (v:Value) (w':World) (b' k:Nat),(Builtin.append_ #[t,t] ty #[u,x]).run P w=.ok v w' /\ After F M w F (upd (upd M id none) d (some (.row b' ((if k % 2=0 then o else 0)+k / 2) e sz ((if k % 2=0 then es else es.drop o)++xs)))) w' /\
   dm F v (.xI d b' sz (if k % 2=0 then o else 0) (n+xs.length) (k / 2))/\v.oneCell' = true:=by
 have even:∀ c:Nat,(2*c) % 2=0/\(2*c) / 2=c:=λc=>by omega
 have odd:∀ c:Nat,¬ (2*c+1) % 2=0/\(2*c+1) / 2=c:=λc=>by omega
 suffices hmain:∃ (v:Value) (w':World) (b' o' c':Nat) (es':List D),(Builtin.append_ #[t,t] ty #[u,x]).run P w=.ok v w' /\ After F M w F (upd (upd M id none) d (some (.row b' (o' + c') e sz (es' ++ xs)))) w' /\
   dm F v (.xI d b' sz o' (n+xs.length) c')/\v.oneCell' = true/\((o' = o/\es' = es) \/ (o' = 0/\es' = es.drop o)) by
  obtain⟨v,w',b',o',c',es',h1,h2,h3,h4,h5⟩:=hmain
  rcases h5 with ⟨rfl,rfl⟩|⟨rfl,rfl⟩
  .exact⟨v,w',b',2*c',h1,by rw[if_pos (even c').1,if_pos (even c').1,(even c').2];exact h2,by rw[if_pos (even c').1,(even c').2];exact h3,h4⟩
  .exact⟨v,w',b',2*c' + 1,h1,by rw[if_neg (odd c').1,if_neg (odd c').1,(odd c').2];exact h2,by rw[if_neg (odd c').1,(odd c').2];exact h3,h4⟩
 obtain⟨i,z,hi,hz,hz1,hz2,hz3⟩:=hT.parts
 have hone:=hT.one hi hz
 obtain⟨g0,g1,g2⟩:=hS.own id _ hM
 have hsz':∀ y,y ∈ es++xs->y.cells.length=sz:=λy hy=>(List.mem_append.1 hy).elim (g1 y) (hsz y)
 have hsz2:∀ y,y ∈ es.drop o++xs->y.cells.length=sz:=λy hy=>(List.mem_append.1 hy).elim (λh=>g1 y (List.mem_of_mem_drop h)) (hsz y)
 have aY1:∀ (k:Nat) (x:D),((es.drop o).flatMap D.cells)[k]? = some x->(es.flatMap D.cells)[o*sz+k]? = some x:=λk x hx=>by
  have hto:((es.take o).flatMap D.cells).length=o*sz:=by rw[flat_length (λy hy=>g1 y (List.mem_of_mem_take hy)),List.length_take,Nat.min_eq_left (show o<=es.length by omega)]
  have e1:es.flatMap D.cells=(es.take o).flatMap D.cells++(es.drop o).flatMap D.cells:=by rw[<- List.flatMap_append,List.take_append_drop]
  rw[e1,List.getElem?_append_right (by omega),hto,Nat.add_sub_cancel_left];exact hx
 have hdrop:wI F (upd M id none) w:=by
  have part:∀ j bl,(upd M id none) j=some bl->M j=some bl:=λj bl h=>by unfold upd at h;split at h;cases h;exact h
  exact⟨hS.rM,λj bl h=>hS.own j bl (part j bl h),λj bl k h=>hS.apart j bl k (part j bl h),λj j' bl GH k h h'=>hS.inj j j' bl GH k (part j bl h) (part j' GH h')⟩
 have lift:∀ {F':Hp} {M':Mem} {w':World},After F (upd M id none) w F' M' w' -> After F M w F' M' w':=λh=>by
  have sub:∀ k,jM (upd M id none) k->jM M k:=λk ⟨j,bl,hj,ho⟩=>⟨j,bl,by unfold upd at hj;split at hj;cases hj;exact hj,ho⟩
  exact⟨h.grow.mono sub,h.le,h.gU,λk x y=>(h.new k x y).imp (λq=>q) (sub k),λk x=>(h.kM k x).imp (λq=>q) (sub k)⟩
 cases u with
 | slice ao n' cap =>
  have hun:n' = n/\cap=c/\(0<c->ao=some ⟨b,o*sz,none⟩)/\n<=c:=by cases hu with|xI h1 h2=>exact⟨rfl,rfl,h1,h2⟩
  obtain⟨rfl,rfl,hao,hnc⟩:=hun
  cases x with
  | slice xo m cx =>
   have hxm:xs.length=m:=by cases hx with|sl h=>exact h
   subst hxm
   rcases Nat.eq_zero_or_pos xs.length with h0|h0
   ·
    have hnil:xs=[]:=List.eq_nil_of_length_eq_zero h0
    subst hnil
    have hr:=J4 (P:=P) t ty hT ao xo n' cap cx hnc w
    refine⟨_,w,b,o,cap,es,by simpa using hr,?_,by simpa using dm.xI hao hnc,rfl,.inl ⟨rfl,rfl⟩⟩
    simp only[List.append_nil]
    have part:∀ j bl,(upd (upd M id none) d (some (.row b (o+cap) e sz es))) j=some bl->(j=d/\bl=.row b (o+cap) e sz es) \/ (j≠d/\j≠id/\M j=some bl):=λj bl h=>by
     unfold upd at h
     split at h
     .rename_i e1;cases h;exact .inl ⟨e1,rfl⟩
     .rename_i e1
      split at h
      .cases h
      .rename_i e2;exact .inr ⟨e1,e2,h⟩
    refine⟨Grow.refl _ _,Hp.le.refl F,⟨hS.rM,λj bl h=>?_,λj bl k h ho=>?_,λj j' bl GH k h h' ho ho'=>?_⟩,λk x y=>absurd x y,λk ⟨j,bl,h,ho⟩=>?_⟩
    .rcases part j bl h with ⟨_,rfl⟩|⟨_,_,h⟩
     .exact hS.own id _ hM
     .exact hS.own j bl h
    .rcases part j bl h with ⟨_,rfl⟩|⟨_,_,h⟩
     .exact hS.apart id _ k hM ho
     .exact hS.apart j bl k h ho
    .rcases part j bl h with ⟨e1,f1⟩|⟨n1,m1,q1⟩ <;> rcases part j' GH h' with ⟨e2,f2⟩|⟨n2,m2,q2⟩
     .rw[e1,e2]
     .rw[f1] at ho;exact absurd (hS.inj id j' _ _ k hM q2 ho ho') (Ne.symm m2)
     .rw[f2] at ho';exact absurd (hS.inj j id _ _ k q1 hM ho ho') m1
     .exact hS.inj j j' bl GH k q1 q2 ho ho'
    .rcases part j bl h with ⟨_,rfl⟩|⟨_,_,h⟩
     .exact .inr ⟨id,_,hM,ho⟩
     .exact .inr ⟨j,bl,h,ho⟩
   .obtain⟨ad,news,rfl,hnl,ax3,hn1,hnr⟩:=SH hx hS.rM hsz h0 hT.pos
    by_cases hc0:0<cap
    .have hao:=hao hc0
     subst hao
     obtain⟨cs,hh,hl,h1,hr⟩:=g2 (by omega)
     by_cases hroom:n' + xs.length<=cap
     ·
      have hfit:o*sz+n' * i.size+news.length<=cs.length:=by rw[hz2,hnl,hl,<- Nat.add_mul,<- Nat.add_mul];exact Nat.mul_le_mul_right _ (by omega)
      have hrun:=IU (P:=P) w t ty e i hT.u hi b (o*sz) n' cap cs.toArray hh ad xs.length cx news (by rw[hz2];exact hnl) ax3 hn1 hroom (by simpa using hfit)
      have hlen:(cs.take ((o+n')*sz)++news++cs.drop ((o+n')*sz+news.length)).length=(o+cap)*sz:=by
       rw[List.length_append,List.length_append,List.length_take,List.length_drop]
       rw[hz2,<- Nat.add_mul] at hfit;omega
      rw[hz2,<- Nat.add_mul] at hrun hfit
      simp only at hrun
      refine⟨_,_,b,o,cap,es,hrun,?_,.xI (λ_=>rfl) hroom,rfl,.inl ⟨rfl,rfl⟩⟩
      have hheap:=setRow_heap w b cs.toArray (cs.take ((o+n')*sz)++news++cs.drop ((o+n')*sz+news.length)).toArray e (0,0) hh
      have hother:=λk (hk:k≠b)=>setRow_other w b k (cs.take ((o+n')*sz)++news++cs.drop ((o+n')*sz+news.length)).toArray hk
      have hFb:F b=none:=hS.apart id _ b hM ⟨by omega,rfl⟩
      have part:∀ j bl,(upd (upd M id none) d (some (.row b (o+cap) e sz (es++xs)))) j=some bl->(j=d/\bl=.row b (o+cap) e sz (es++xs)) \/ (j≠d/\j≠id/\M j=some bl):=λj bl h=>by
       unfold upd at h
       split at h
       .rename_i e1;cases h;exact .inl ⟨e1,rfl⟩
       .rename_i e1
        split at h
        .cases h
        .rename_i e2;exact .inr ⟨e1,e2,h⟩
      have hown:vg F (w.setRow b (cs.take ((o+n')*sz)++news++cs.drop ((o+n')*sz+news.length)).toArray) (.row b (o+cap) e sz (es++xs)):=by
       refine⟨by rw[List.length_append];omega,hsz',λ_=>⟨_,hheap,hlen,λu hu=>?_,λk x u hx hu=>?_⟩⟩
       .simp only[List.mem_append] at hu
        rcases hu with (hu|hu)|hu
        .exact h1 u (List.mem_of_mem_take hu)
        .exact hn1 u hu
        .exact h1 u (List.mem_of_mem_drop hu)
       .have hfl:(es.flatMap D.cells).length=(o+n')*sz:=by rw[flat_length g1,hn]
        rw[List.flatMap_append] at hx
        have aM9:k<(o+n')*sz+news.length:=by
         have:=(List.getElem?_eq_some_iff.1 hx).1
         rw[List.length_append,hfl,flat_length hsz,<- hnl] at this
         exact this
        have htl:(cs.take ((o+n')*sz)).length=(o+n')*sz:=by rw[List.length_take];omega
        rw[List.append_assoc,List.getElem?_append,htl] at hu
        rw[List.getElem?_append,hfl] at hx
        split at hx
        .rename_i hk
         rw[if_pos hk,List.getElem?_take,if_pos hk] at hu
         exact hr k x u hx hu
        .rename_i hk
         rw[if_neg hk,List.getElem?_append_left (by omega)] at hu
         exact hnr _ x u hx hu
      refine⟨⟨rfl,rfl,rfl,by simp,λk _ hk=>hother k λe1=>hk (e1 ▸ ⟨id,_,hM,by omega,rfl⟩)⟩,Hp.le.refl F,⟨λk o hk=>?_,λj bl h=>?_,λj bl k h ho=>?_,λj j' bl GH k h h' ho ho'=>?_⟩,λk x y=>absurd x y,λk ⟨j,bl,h,ho⟩=>?_⟩
      .rw[hother k (λe1=>by subst e1;rw[hFb] at hk;cases hk)]
       exact hS.rM k o hk
      .rcases part j bl h with ⟨_,rfl⟩|⟨_,nj,hq⟩
       .exact hown
       .exact (hS.own j bl hq).keep (Hp.le.refl F) λk hk=>hother k λe1=>nj (hS.inj j id _ _ k hq hM hk ⟨by omega,e1⟩)
      .rcases part j bl h with ⟨_,rfl⟩|⟨_,_,h⟩
       .exact hS.apart id _ k hM ho
       .exact hS.apart j bl k h ho
      .rcases part j bl h with ⟨e1,f1⟩|⟨n1,m1,q1⟩ <;> rcases part j' GH h' with ⟨e2,f2⟩|⟨n2,m2,q2⟩
       .rw[e1,e2]
       .rw[f1] at ho;exact absurd (hS.inj id j' _ _ k hM q2 ho ho') (Ne.symm m2)
       .rw[f2] at ho';exact absurd (hS.inj j id _ _ k q1 hM ho ho') m1
       .exact hS.inj j j' bl GH k q1 q2 ho ho'
      .rcases part j bl h with ⟨_,rfl⟩|⟨_,_,h⟩
       .exact .inr ⟨id,_,hM,ho⟩
       .exact .inr ⟨j,bl,h,ho⟩
     ·
      have aN0:(n' + xs.length)*i.bytes<=140737488355328:=by rw[hz3];exact hb
      have hol:((cs.drop (o*sz)).take (n' * sz)).length=n' * i.size:=by
       have:n' * sz<=cap*sz:=Nat.mul_le_mul_right _ hnc
       rw[Nat.add_mul] at hl
       rw[List.length_take,List.length_drop,hz2];omega
      have hrun:=run_append_grow (P:=P) w t ty e i z hT.u hi hz ⟨b,o*sz,none⟩ n' cap ((cs.drop (o*sz)).take (n' * sz)) hol
       (λj v hj=>by
        refine cell_of_box hh (o*sz) j v ?_
        rw[List.getElem?_take] at hj
        split at hj
        .rw[List.getElem?_drop] at hj;exact hj
        .cases hj)
       ad xs.length cx news (by rw[hz2];exact hnl) ax3 (by omega) (by omega) (growslice_fits (by omega) aN0)
      have hge:=grownCap_ge w (n' + xs.length) cap e
      refine⟨_,_,w.heap.size,0,grownCap w (n' + xs.length) cap e,es.drop o,hrun,lift (Kv hdrop d e _ sz ((cs.drop (o*sz)).take (n' * sz)++news++(Builtin.zeroCells z.cells (grownCap w (n' + xs.length) cap e-(n' + xs.length))).toList) (es.drop o++xs)
       (by rw[List.length_append,List.length_drop];omega) ?_ (λu hu=>?_) hsz2 (λk x u hx hu=>?_) rfl rfl rfl ?_),.xI (λ_=>by rw[Nat.zero_mul]) hge,rfl,.inr ⟨rfl,rfl⟩⟩
      .rw[List.length_append,List.length_append,hol,hz2,hnl,ac2 hz1,<- Nat.add_mul,<- Nat.add_mul]
       congr 1;omega
      .simp only[List.mem_append] at hu
       rcases hu with (hu|hu)|hu
       .exact h1 u (List.mem_of_mem_drop (List.mem_of_mem_take hu))
       .exact hn1 u hu
       .exact Ba hone _ u hu
      .have hfl:((es.drop o).flatMap D.cells).length=n' * sz:=by rw[flat_length (λy hy=>g1 y (List.mem_of_mem_drop hy)),List.length_drop];congr 1;omega
       rw[hz2] at hol
       rw[List.flatMap_append] at hx
       have aM9:k<n' * sz+news.length:=by
        have:=(List.getElem?_eq_some_iff.1 hx).1
        rw[List.length_append,hfl,flat_length hsz,<- hnl] at this
        exact this
       rw[List.append_assoc,List.getElem?_append,hol] at hu
       rw[List.getElem?_append,hfl] at hx
       split at hx
       .rename_i hk
        rw[if_pos hk,List.getElem?_take,if_pos hk,List.getElem?_drop] at hu
        exact hr _ x u (aY1 k x hx) hu
       .rename_i hk
        rw[if_neg hk,List.getElem?_append_left (by omega)] at hu
        exact hnr _ x u hx hu
      .show w.heap.push (Obj.cells _ e)=_
       congr 2
       apply Array.ext'
       simp
    ·
     have hcz:cap=0:=by omega
     subst hcz
     have hnz:n' = 0:=by omega
     subst hnz
     have hes:es.drop o=[]:=List.eq_nil_of_length_eq_zero (by rw[List.length_drop];omega)
     have aN0:xs.length*i.bytes<=140737488355328:=by rw[hz3];simpa using hb
     have hge:=grownCap_ge w (0+xs.length) 0 e
     have hge':=grownCap_ge w xs.length 0 e
     have hrun:(Builtin.append_ #[t,t] ty #[.slice ao 0 0,.slice (some ad) xs.length cx]).run P w =
       .ok (.slice (some ⟨w.heap.size,0,none⟩) xs.length (grownCap w xs.length 0 e)) (w.drew.alloc (.cells (news++(Builtin.zeroCells z.cells (grownCap w xs.length 0 e-xs.length)).toList).toArray e)):=by
      cases ao with
      | none =>
       rw[run_append_nil (P:=P) w t ty e i z hT.u hi hz ad xs.length cx news (by rw[hz2];exact hnl) ax3 h0 (by omega) (by omega)]
       have e1:news.toArray++Builtin.zeroCells z.cells (grownCap w xs.length 0 e-xs.length)=(news++(Builtin.zeroCells z.cells (grownCap w xs.length 0 e-xs.length)).toList).toArray:=by apply Array.ext';simp
       rw[e1]
      | some a0 =>
       have:=run_append_grow (P:=P) w t ty e i z hT.u hi hz a0 0 0 [] (by simp) (by simp) ad xs.length cx news (by rw[hz2];exact hnl) ax3 (by omega) (by omega) (growslice_fits (by omega) (by simpa using aN0))
       simp only[Nat.zero_add] at this
       rw[this]
       have e1:([]:List Value).toArray++news.toArray++Builtin.zeroCells z.cells (grownCap w xs.length 0 e-xs.length)=(news++(Builtin.zeroCells z.cells (grownCap w xs.length 0 e-xs.length)).toList).toArray:=by apply Array.ext';simp
       rw[e1]
     refine⟨_,_,w.heap.size,0,grownCap w xs.length 0 e,es.drop o,hrun,lift (Kv hdrop d e _ sz (news++(Builtin.zeroCells z.cells (grownCap w xs.length 0 e-xs.length)).toList) (es.drop o++xs) (by rw[hes];simpa using hge') ?_ (λu hu=>?_) hsz2 (λk x u hx hu=>?_) rfl rfl rfl ?_),by rw[Nat.zero_add];exact .xI (λ_=>by rw[Nat.zero_mul]) hge',rfl,.inr ⟨rfl,rfl⟩⟩
     .rw[List.length_append,hnl,ac2 hz1,<- Nat.add_mul,Nat.zero_add]
      congr 1;omega
     .simp only[List.mem_append] at hu
      rcases hu with hu|hu
      .exact hn1 u hu
      .exact Ba hone _ u hu
     .rw[hes,List.nil_append] at hx
      have aM9:k<news.length:=by
       have:=(List.getElem?_eq_some_iff.1 hx).1
       rw[flat_length hsz,<- hnl] at this
       exact this
      rw[List.getElem?_append_left aM9] at hu
      exact hnr _ x u hx hu
     .rfl
  | _=>cases hx
 | _=>cases hu
theorem Ci (hS:wI F M w){t ty e sz eF:Nat}(hT:bD P t e sz eF){d id b n c:Nat}{es xs:List D}{u:Value}(hu:dm F u (.bF id b n c))(hn:n=es.length)
  (hM:M id=some (.row b c e sz es)) (hd:M d=none \/ d=id)
  {x:Value} (hx:Rep F x (.sl xs)) (hsz:∀ y,y ∈ xs->y.cells.length=sz) (hb:(n+xs.length)*eF<=140737488355328) (hm:n+xs.length<=4611686018427387904) :
  ∃ (v:Value) (w':World) (b' c':Nat),(Builtin.append_ #[t,t] ty #[u,x]).run P w=.ok v w' /\ After F M w F (upd (upd M id none) d (some (.row b' c' e sz (es++xs)))) w' /\
   dm F v (.bF d b' (n+xs.length) c')/\v.oneCell' = true:=by
 have hu2:dm F u (.xI id b sz 0 n c):=by cases hu with|bF h1 h2=>exact .xI (λh=>by rw[h1 h,Nat.zero_mul]) h2
 obtain⟨v,w',b',k,h1,h2,h3,h4⟩:=La (ty:=ty) (es:=es) hS hT hu2 (by omega) (by rw[Nat.zero_add];exact hM) hd hx hsz hb hm
 have e1:(if k % 2=0 then es else es.drop 0)=es:=by split <;> rfl
 have e2:(if k % 2=0 then 0 else 0)=0:=by split <;> rfl
 rw[e1,e2,Nat.zero_add] at h2
 rw[e2] at h3
 exact⟨v,w',b',k / 2,h1,h2,by cases h3 with|xI p q=>exact .bF (λh=>by rw[p h,Nat.zero_mul]) q,h4⟩
