/-
  M, chapters 23 and 24: automata over the rational numbers, their machines, differences.
-/
import Derived.Test.YtmcoihfkniccdaaGreatDoorKMod40c
import Derived.Test.YtmcoihfkniccdaaGreatDoorKMod37c
set_option linter.unusedVariables false
set_option linter.unusedSimpArgs false
namespace Go.AL
open Go Go.BigFrame
structure Mach where
 n:Nat
 ini:List Rat
 fin:List Rat
 mats:List (List (List Rat))
def Mach.k (m:Mach):Nat:=m.mats.length
def entM (m:Mach)(s i j:Nat):Rat:=((m.mats.getD s []).getD i []).getD j 0
def stepM (m:Mach)(v:List Rat)(s:Nat):List Rat:=(List.range m.n).map fun j=>sumN (fun i=>v.getD i 0*entM m s i j) m.n
def vecM (m:Mach)(w:List Int):List Rat:=w.foldl (fun v x=>stepM m v (x.toNat-1)) m.ini
def dotM (n:Nat)(u v:Nat→Rat):Rat:=sumN (fun i=>u i*v i) n
def wtM (m:Mach)(w:List Int):Rat:=dotM m.n (vf (vecM m w)) (vf m.fin)
structure Mach.Ok (m:Mach):Prop where
 ini:m.ini.length=m.n
 fin:m.fin.length=m.n
def slx (a b:List Int):Int:=if a.length≠b.length then (if a.length<b.length then -1 else 1) else cmpL a b
def InW (k:Nat)(w:List Int):Prop:=∀ x,x ∈ w→1≤x∧x≤(k:Int)
def kidsW (k:Nat)(w:List Int):List (List Int):=(List.range k).map fun s=>w++[((s+1:Nat):Int)]
section
variable {m:Mach}{w u:List Int}{a b c:List Int}
theorem stepM_len (m:Mach)(v:List Rat)(s:Nat):(stepM m v s).length=m.n:=by simp [stepM]
theorem vecM_snoc (x:Int):vecM m (w++[x])=stepM m (vecM m w) (x.toNat-1):=by unfold vecM;rw [List.foldl_append];rfl
theorem vecM_len (h:m.Ok)(w:List Int):(vecM m w).length=m.n:=by
 rcases List.eq_nil_or_concat w with rfl|⟨w,x,rfl⟩
 ·exact h.ini
 ·rw [List.concat_eq_append,vecM_snoc,stepM_len]
theorem stepM_lin (m:Mach)(s:Nat):LinM m.n m.n fun u j=>sumN (fun i=>u i*entM m s i j) m.n :=
 ⟨fun u v h j _=>sumN_congr fun i hi=>by rw [h i hi],fun u v c j _=>by
  rw [← sumN_mulL,← sumN_add]
  exact sumN_congr fun i _=>by rw [Rat.add_mul,Rat.mul_assoc],fun j _=>sumN_zero fun i _=>Rat.zero_mul _⟩
theorem dotM_lin (n:Nat)(f:Nat→Rat):LinM n 1 fun u _=>dotM n u f :=
 ⟨fun u v h _ _=>sumN_congr fun i hi=>by rw [h i hi],fun u v c _ _=>by
  unfold dotM
  rw [← sumN_mulL,← sumN_add]
  exact sumN_congr fun i _=>by rw [Rat.add_mul,Rat.mul_assoc],fun _ _=>sumN_zero fun i _=>Rat.zero_mul _⟩
theorem stepM_vf {v:List Rat}{s j:Nat}(hj:j<m.n):(stepM m v s).getD j 0=sumN (fun i=>v.getD i 0*entM m s i j) m.n:=map_getD_range _ _ hj
theorem slx_self (a:List Int):slx a a=0:=by unfold slx;rw [if_neg (by omega),cmpL_self]
theorem slx_neg (a b:List Int):slx b a = -slx a b:=by
 unfold slx
 by_cases h:a.length=b.length
 ·rw [if_neg (show ¬ b.length≠a.length by omega),if_neg (show ¬ a.length≠b.length by omega)];exact cmpL_neg a b
 ·rw [if_pos (show b.length≠a.length by omega),if_pos (show a.length≠b.length by omega)]
  by_cases h1:a.length<b.length
  ·rw [if_pos h1,if_neg (show ¬ b.length<a.length by omega)];rfl
  ·rw [if_neg h1,if_pos (show b.length<a.length by omega)]
theorem slx_zero (h:slx a b=0):a=b:=by
 unfold slx at h
 split at h
 ·split at h <;> cases h
 ·exact cmpL_zero h
theorem slx_trans (h:slx a b≤0)(k:slx b c≤0):slx a c≤0:=by
 unfold slx at *
 by_cases h1:a.length=b.length
 ·by_cases h2:b.length=c.length
  ·rw [if_neg (by omega)] at h k ⊢
   exact cmpL_trans h k
  ·rw [if_pos (by omega)] at k ⊢
   split at k
   ·rw [if_pos (by omega)];decide
   ·exact absurd k (by decide)
 ·rw [if_pos (by omega)] at h
  split at h
  ·by_cases h2:b.length=c.length
   ·rw [if_pos (by omega),if_pos (by omega)];decide
   ·rw [if_pos (by omega)] at k
    split at k
    ·rw [if_pos (by omega),if_pos (by omega)];decide
    ·exact absurd k (by decide)
  ·exact absurd h (by decide)
theorem slx_lt_trans (h:slx a b<0)(k:slx b c≤0):slx a c<0:=by
 have h1:=slx_trans (Int.le_of_lt h) k
 have h2:slx a c≠0:=fun e=>by
  have:=slx_zero e
  subst this
  have:=slx_neg a b
  omega
 omega
theorem slx_len (h:slx a b≤0):a.length≤b.length:=by
 unfold slx at h
 split at h
 ·split at h
  ·omega
  ·exact absurd h (by decide)
 ·omega
theorem slx_short (h:a.length<b.length):slx a b<0:=by
 unfold slx
 rw [if_pos (by omega),if_pos h];decide
theorem slx_snoc {x:Int}(h:slx a b≤0):slx (a++[x]) (b++[x])≤0:=by
 have hl:=slx_len h
 unfold slx at *
 rw [la9,la9]
 by_cases h1:a.length=b.length
 ·rw [if_neg (by omega)] at h ⊢
  rw [cmpL_snoc_same h1];exact h
 ·rw [if_pos (by omega),if_pos (by simp only [ls9];omega)];decide
theorem slx_snoc_lt {x y:Int}(h:slx a b<0):slx (a++[x]) (b++[y])<0:=by
 have hl:=slx_len (Int.le_of_lt h)
 unfold slx at *
 rw [la9,la9]
 by_cases h1:a.length=b.length
 ·rw [if_neg (by omega)] at h
  rw [if_neg (by simp only [ls9];omega),cmpL_snoc h1,if_neg (by omega)];exact h
 ·rw [if_pos (by simp only [ls9];omega),if_pos (by simp only [ls9];omega)];decide
theorem slx_kids (k:Nat)(w:List Int):(kidsW k w).Pairwise fun a b=>slx a b<0:=by
 unfold kidsW
 refine List.pairwise_map.2 (List.pairwise_lt_range.imp fun {a b} h=>?_)
 unfold slx
 rw [if_neg (by simp),cmpL_snoc rfl,if_pos (cmpL_self w),if_pos (by omega)];decide
theorem kidsW_mem {k:Nat}:a ∈ kidsW k w ↔ ∃ s,s<k∧a=w++[((s+1:Nat):Int)]:=by
 unfold kidsW
 rw [List.mem_map]
 exact ⟨fun ⟨s,h,e⟩=>⟨s,List.mem_range.1 h,e.symm⟩,fun ⟨s,h,e⟩=>⟨s,List.mem_range.2 h,e.symm⟩⟩
def vecs (m:Mach)(K:List (List Int)):List (List Rat):=K.map (vecM m)
def upTo (K:List (List Int))(v:List Int):List (List Int):=K.filter fun u=>decide (slx u v≤0)
theorem upTo_mem {K:List (List Int)}{v:List Int}:u ∈ upTo K v ↔ u ∈ K∧slx u v≤0:=by
 unfold upTo
 rw [List.mem_filter,decide_eq_true_eq]
structure BFS (m:Mach) (V K Q:List (List Int)):Prop where
 sub:∀ u,u ∈ K→u ∈ V
 root:[] ∈ V ∨ [] ∈ Q
 kids:∀ u,u ∈ K→∀ s,s<m.k→u++[((s+1:Nat):Int)] ∈ V ∨ u++[((s+1:Nat):Int)] ∈ Q
 span:∀ v,v ∈ V→SpanV m.n (vecs m (upTo K v)) (vf (vecM m v))
 ord:(V++Q).Pairwise fun a b=>slx a b<0
 par:∀ q,q ∈ Q→q=[] ∨ ∃ u,u ∈ K∧∃ s,s<m.k∧q=u++[((s+1:Nat):Int)]
 inW:∀ v,v ∈ V ∨ v ∈ Q→InW m.k v
theorem BFS.start (m:Mach):BFS m [] [] [[]] :=
 ⟨fun _ h=>(by cases h),.inr (List.mem_singleton.2 rfl),fun _ h=>(by cases h),fun _ h=>(by cases h),List.pairwise_singleton ..,fun q h=>.inl (ms9 h),fun v h x hx=>by
  rcases h with h|h
  ·cases h
  ·rw [ms9 h] at hx;cases hx⟩
theorem BFS.reach {V K Q:List (List Int)}(h:BFS m V K Q):∀ (w:List Int),InW m.k w→(∀ q,q ∈ Q→slx w q<0)→SpanV m.n (vecs m (upTo K w)) (vf (vecM m w)):=by
 intro w
 induction hl:w.length generalizing w with
 | zero =>
  intro _ hq
  have e:=en9 hl
  subst e
  rcases h.root with h1|h1
  ·exact h.span _ h1
  ·have:=hq _ h1
   rw [slx_self] at this
   exact absurd this (by decide)
 | succ n ih =>
  intro hw hq
  have hne:w≠[]:=fun e=>by subst e;cases hl
  obtain ⟨y,x,rfl⟩:∃ y x,w=y++[x]:=⟨w.dropLast,w.getLast hne,(List.dropLast_concat_getLast hne).symm⟩
  have hx:=hw x (by simp)
  have hy:InW m.k y:=fun z hz=>hw z (List.mem_append.2 (.inl hz))
  have hyl:y.length=n:=by rw [la9,ls9] at hl;omega
  have hyx:slx y (y++[x])<0:=slx_short (by rw [la9,ls9];omega)
  have hs:=ih y hyl hy fun q hq'=>slx_lt_trans hyx (Int.le_of_lt (hq q hq'))
  rw [vecM_snoc]
  have hmap:=SpanV.map (stepM_lin m (x.toNat-1)) hs (C:=vecs m (upTo K (y++[x]))) fun b hb=>by
   obtain ⟨u,hu,rfl⟩:=mm9 hb
   obtain ⟨hu1,hu2⟩:=upTo_mem.1 hu
   have hux:u++[x] ∈ V:=by
    have:=h.kids u hu1 (x.toNat-1) (by omega)
    rw [show ((x.toNat-1+1:Nat):Int)=x by omega] at this
    refine this.resolve_right fun k=>?_
    have a:=hq _ k
    have b:=slx_snoc (x:=x) hu2
    have c:=slx_neg (u++[x]) (y++[x])
    omega
   have hsp:=h.span _ hux
   rw [vecM_snoc] at hsp
   refine (hsp.congr (v:=fun j=>sumN (fun i=>vf (vecM m u) i*entM m (x.toNat-1) i j) m.n) fun j hj=>(stepM_vf hj).symm).mono fun b hb=>?_
   obtain ⟨z,hz,rfl⟩:=mm9 hb
   obtain ⟨hz1,hz2⟩:=upTo_mem.1 hz
   exact List.mem_map.2 ⟨z,upTo_mem.2 ⟨hz1,slx_trans hz2 (slx_snoc hu2)⟩,rfl⟩
  exact hmap.congr fun j hj=>stepM_vf hj
theorem upTo_grow {K:List (List Int)}{v x:List Int}(hu:u ∈ upTo K v):u ∈ upTo (K++[x]) v :=
 upTo_mem.2 ⟨List.mem_append.2 (.inl (upTo_mem.1 hu).1),(upTo_mem.1 hu).2⟩
theorem BFS.head {V K Q:List (List Int)}(h:BFS m V K (w::Q)):(∀ v,v ∈ V→slx v w<0)∧(∀ q,q ∈ Q→slx w q<0):=by
 obtain ⟨_,h2,h3⟩:=List.pairwise_append.1 h.ord
 exact ⟨fun v hv=>h3 v hv w mc9,(List.pairwise_cons.1 h2).1⟩
theorem BFS.drop {V K Q:List (List Int)}(h:BFS m V K (w::Q))(hs:SpanV m.n (vecs m K) (vf (vecM m w))):BFS m (V++[w]) K Q:=by
 have e:V++w::Q=(V++[w])++Q:=by simp
 refine ⟨fun u hu=>List.mem_append.2 (.inl (h.sub u hu)),?_,fun u hu s hs'=>?_,fun v hv=>?_,by rw [← e];exact h.ord,fun q hq=>h.par q (List.mem_cons_of_mem _ hq),fun v hv=>?_⟩
 ·rcases h.root with h1|h1
  ·exact .inl (List.mem_append.2 (.inl h1))
  ·rcases List.mem_cons.1 h1 with h1|h1
   ·exact .inl (List.mem_append.2 (.inr (List.mem_singleton.2 h1)))
   ·exact .inr h1
 ·rcases h.kids u hu s hs' with h1|h1
  ·exact .inl (List.mem_append.2 (.inl h1))
  ·rcases List.mem_cons.1 h1 with h1|h1
   ·exact .inl (List.mem_append.2 (.inr (List.mem_singleton.2 h1)))
   ·exact .inr h1
 ·rcases mp9 hv with hv|hv
  ·exact h.span v hv
  ·rw [ms9 hv]
   refine hs.mono fun b hb=>?_
   obtain ⟨u,hu,rfl⟩:=mm9 hb
   exact List.mem_map.2 ⟨u,upTo_mem.2 ⟨hu,Int.le_of_lt (h.head.1 u (h.sub u hu))⟩,rfl⟩
 ·refine h.inW v (hv.elim (fun hv=>?_) fun hv=>.inr (List.mem_cons_of_mem _ hv))
  exact (mp9 hv).imp id fun hv=>List.mem_cons.2 (.inl (ms9 hv))
theorem BFS.keep {V K Q:List (List Int)}(h:BFS m V K (w::Q)):BFS m (V++[w]) (K++[w]) (Q++kidsW m.k w):=by
 have hd:=h.head
 refine ⟨fun u hu=>?_,?_,fun u hu s hs'=>?_,fun v hv=>?_,?_,fun q hq=>?_,fun v hv=>?_⟩
 ·exact (mp9 hu).elim (fun hu=>List.mem_append.2 (.inl (h.sub u hu))) fun hu=>List.mem_append.2 (.inr hu)
 ·rcases h.root with h1|h1
  ·exact .inl (List.mem_append.2 (.inl h1))
  ·rcases List.mem_cons.1 h1 with h1|h1
   ·exact .inl (List.mem_append.2 (.inr (List.mem_singleton.2 h1)))
   ·exact .inr (List.mem_append.2 (.inl h1))
 ·rcases mp9 hu with hu|hu
  ·rcases h.kids u hu s hs' with h1|h1
   ·exact .inl (List.mem_append.2 (.inl h1))
   ·rcases List.mem_cons.1 h1 with h1|h1
    ·exact .inl (List.mem_append.2 (.inr (List.mem_singleton.2 h1)))
    ·exact .inr (List.mem_append.2 (.inl h1))
  ·rw [ms9 hu]
   exact .inr (List.mem_append.2 (.inr (kidsW_mem.2 ⟨s,hs',rfl⟩)))
 ·rcases mp9 hv with hv|hv
  ·exact (h.span v hv).mono fun b hb=>by
    obtain ⟨u,hu,rfl⟩:=mm9 hb
    exact List.mem_map.2 ⟨u,upTo_grow hu,rfl⟩
  ·rw [ms9 hv]
   exact .mem (List.mem_map.2 ⟨w,upTo_mem.2 ⟨List.mem_append.2 (.inr (List.mem_singleton.2 rfl)),by rw [slx_self];exact Int.le_refl _⟩,rfl⟩)
 ·rw [show (V++[w])++(Q++kidsW m.k w)=(V++w::Q)++kidsW m.k w by simp]
  refine List.pairwise_append.2 ⟨h.ord,slx_kids m.k w,fun a ha b hb=>?_⟩
  obtain ⟨s,_,rfl⟩:=kidsW_mem.1 hb
  have hwb:slx w (w++[((s+1:Nat):Int)])<0:=slx_short (by rw [la9,ls9];omega)
  rcases mp9 ha with ha|ha
  ·exact slx_lt_trans (hd.1 a ha) (Int.le_of_lt hwb)
  ·rcases List.mem_cons.1 ha with rfl|ha
   ·exact hwb
   ·rcases h.par a (List.mem_cons_of_mem _ ha) with rfl|⟨u,hu,t,_,rfl⟩
    ·exact slx_short (by rw [la9,ls9];show 0<_;omega)
    ·exact slx_snoc_lt (hd.1 u (h.sub u hu))
 ·rcases mp9 hq with hq|hq
  ·exact (h.par q (List.mem_cons_of_mem _ hq)).imp id fun ⟨u,hu,r⟩=>⟨u,List.mem_append.2 (.inl hu),r⟩
  ·obtain ⟨s,hs',rfl⟩:=kidsW_mem.1 hq
   exact .inr ⟨w,List.mem_append.2 (.inr (List.mem_singleton.2 rfl)),s,hs',rfl⟩
 ·have hw:=h.inW w (.inr mc9)
  rcases hv with hv|hv
  ·rcases mp9 hv with hv|hv
   ·exact h.inW v (.inl hv)
   ·rw [ms9 hv];exact hw
  ·rcases mp9 hv with hv|hv
   ·exact h.inW v (.inr (List.mem_cons_of_mem _ hv))
   ·obtain ⟨s,hs',rfl⟩:=kidsW_mem.1 hv
    intro x hx
    rcases mp9 hx with hx|hx
    ·exact hw x hx
    ·rw [ms9 hx];omega
def ZeroK (m:Mach)(K:List (List Int)):Prop:=∀ u,u ∈ K→wtM m u=0
theorem BFS.zero {V K Q:List (List Int)}(h:BFS m V K Q)(hz:ZeroK m K)(hw:InW m.k w)(hq:∀ q,q ∈ Q→slx w q<0):wtM m w=0:=by
 refine (h.reach w hw hq).kill (L:=fun u _=>dotM m.n u (vf m.fin)) (dotM_lin m.n (vf m.fin)) fun b hb=>?_
 obtain ⟨u,hu,rfl⟩:=mm9 hb
 exact hz u (upTo_mem.1 hu).1
structure FirstNZ (m:Mach) (w:List Int):Prop where
 inW:InW m.k w
 nz:wtM m w≠0
 before:∀ u,InW m.k u→slx u w<0→wtM m u=0
theorem FirstNZ.unique {v:List Int}(h:FirstNZ m w)(k:FirstNZ m v):w=v:=by
 refine slx_zero (Decidable.byContradiction fun hne=>?_)
 have:=slx_neg w v
 rcases Int.lt_or_gt_of_ne hne with h1|h1
 ·exact h.nz (k.before w h.inW h1)
 ·exact k.nz (h.before v k.inW (by omega))
theorem BFS.first {V K Q:List (List Int)}(h:BFS m V K (w::Q))(hz:ZeroK m K)(hn:wtM m w≠0):FirstNZ m w :=
 ⟨h.inW w (.inr mc9),hn,fun u hu hl=>h.zero hz hu fun q hq=>by
  rcases List.mem_cons.1 hq with rfl|hq
  ·exact hl
  ·exact slx_lt_trans hl (Int.le_of_lt (h.head.2 q hq))⟩
theorem BFS.none {V K:List (List Int)}(h:BFS m V K [])(hz:ZeroK m K)(w:List Int)(hw:InW m.k w):wtM m w=0:=h.zero hz hw fun q hq=>by cases hq
end
def firstP (w:List Rat):Nat:=w.findIdx fun x=>decide (x≠0)
def addC (t:List Rat)(f:Rat)(c:List Rat):List Rat:=(List.range t.length).map fun i=>t.getD i 0+f*c.getD i 0
def redC:List SRow→List Rat→List Rat→List Rat
 | [],_,t=>t
 | r::rs,w,t=>redC rs (redStep w r) (addC t (qotR w r) r.c)
def takenS (rs:List SRow)(w:List Rat):List Rat:=redC rs w (List.replicate rs.length 0)
def byS (rs:List SRow)(w:List Rat):List Rat:=(takenS rs w).map (fun x=>-x)++[1]
def newR (rs:List SRow)(w:List Rat):SRow:=⟨redV rs w,byS rs w,firstP (redV rs w)⟩
def growsS (rs:List SRow)(w:List Rat):Bool:=decide (firstP (redV rs w)<(redV rs w).length)
def addS (rs:List SRow)(w:List Rat):List SRow:=if growsS rs w=true then rs++[newR rs w] else rs
section
variable {n:Nat}{rs:List SRow}{w:List Rat}
theorem firstP_le (w:List Rat):firstP w≤w.length:=List.findIdx_le_length
theorem firstP_nz (h:firstP w<w.length):w.getD (firstP w) 0≠0:=by
 have:=List.findIdx_getElem (w:=h)
 rw [gd9,ge9 h,Option.getD_some]
 exact dt9 this
theorem firstP_before {i:Nat}(h:i<firstP w):w.getD i 0=0:=by
 have hl:=Nat.lt_of_lt_of_le h (firstP_le w)
 have:=List.not_of_lt_findIdx h
 rw [gd9,ge9 hl,Option.getD_some]
 simpa using this
theorem firstP_all:firstP w=w.length ↔ allZ w:=by
 constructor
 ·intro h i hi
  exact firstP_before (by omega)
 ·intro h
  have:=firstP_le w
  rcases Nat.lt_or_ge (firstP w) w.length with h1|h1
  ·exact absurd (h _ h1) (firstP_nz h1)
  ·omega
theorem grows_iff (e:Ech n rs)(hw:w.length=n):growsS rs w=false ↔ SpanV n (rowsS rs) (vf w):=by
 rw [← red_iff e hw,← firstP_all]
 have:=firstP_le (redV rs w)
 unfold growsS
 rw [decide_eq_false_iff_not]
 omega
theorem addC_len (t:List Rat)(f:Rat)(c:List Rat):(addC t f c).length=t.length:=by simp [addC]
theorem redC_len:∀ (rs:List SRow) (w t:List Rat),(redC rs w t).length=t.length
 | [],_,_=>rfl
 | r::rs,w,t=>by rw [redC,redC_len rs,addC_len]
theorem takenS_len (rs:List SRow)(w:List Rat):(takenS rs w).length=rs.length:=by rw [takenS,redC_len,List.length_replicate]
theorem byS_len (rs:List SRow)(w:List Rat):(byS rs w).length=rs.length+1:=by rw [byS,la9,lm9,takenS_len];rfl
end
structure Join (m:Mach) (V K Q:List (List Int)) (rs:List SRow):Prop where
 bfs:BFS m V K Q
 ech:Ech m.n rs
 len:rs.length=K.length
 rows:∀ r,r ∈ rs→SpanV m.n (vecs m K) (vf r.v)
 kept:∀ u,u ∈ K→SpanV m.n (rowsS rs) (vf (vecM m u))
section
variable {m:Mach}{V K Q:List (List Int)}{rs:List SRow}{w:List Int}
theorem Join.start (m:Mach):Join m [] [] [[]] [] :=
 ⟨BFS.start m,⟨fun _ h=>(by cases h),List.Pairwise.nil⟩,rfl,fun _ h=>(by cases h),fun _ h=>(by cases h)⟩
theorem Join.drop (ok:m.Ok)(j:Join m V K (w::Q) rs)(h:growsS rs (vecM m w)=false):Join m (V++[w]) K Q rs :=
 ⟨j.bfs.drop (((grows_iff j.ech (vecM_len ok w)).1 h).trans fun b hb=>by
  obtain ⟨r,hr,rfl⟩:=mm9 hb
  exact j.rows r hr),j.ech,j.len,j.rows,j.kept⟩
theorem rowsS_app (rs:List SRow)(r:SRow):rowsS (rs++[r])=rowsS rs++[r.v]:=by simp [rowsS]
theorem Join.keep (ok:m.Ok)(j:Join m V K (w::Q) rs)(h:growsS rs (vecM m w)=true):Join m (V++[w]) (K++[w]) (Q++kidsW m.k w) (rs++[newR rs (vecM m w)]):=by
 have hl:=vecM_len ok w
 have hp:firstP (redV rs (vecM m w))<(redV rs (vecM m w)).length:=dt9 h
 have hs:=redV_span rs (vecM m w)
 rw [hl] at hs
 refine ⟨j.bfs.keep,j.ech.grow hl _ (by rw [redV_len,hl] at hp;exact hp) (firstP_nz hp),?_,fun r hr=>?_,fun u hu=>?_⟩
 ·rw [la9,la9,j.len];rfl
 ·rcases mp9 hr with hr|hr
  ·exact (j.rows r hr).mono fun b hb=>by
    obtain ⟨u,hu,rfl⟩:=mm9 hb
    exact List.mem_map.2 ⟨u,List.mem_append.2 (.inl hu),rfl⟩
  ·rw [ms9 hr]
   have h1:SpanV m.n (vecs m (K++[w])) (vf (vecM m w)):=.mem (List.mem_map.2 ⟨w,List.mem_append.2 (.inr (List.mem_singleton.2 rfl)),rfl⟩)
   have h2:=(hs.trans fun b hb=>by
    obtain ⟨r,hr,rfl⟩:=mm9 hb
    exact (j.rows r hr).mono fun b hb=>by
     obtain ⟨u,hu,rfl⟩:=mm9 hb
     exact List.mem_map.2 ⟨u,List.mem_append.2 (.inl hu),rfl⟩:SpanV m.n (vecs m (K++[w])) _)
   refine (h1.plus (h2.smul (-1))).congr fun i _=>?_
   show (redV rs (vecM m w)).getD i 0=(vecM m w).getD i 0 + -1*((vecM m w).getD i 0-(redV rs (vecM m w)).getD i 0)
   rw [Rat.neg_mul,Rat.one_mul,Rat.neg_sub,Rat.sub_eq_add_neg,Rat.add_comm ((vecM m w).getD i 0),Rat.add_assoc,Rat.neg_add_cancel,Rat.add_zero]
 ·rw [rowsS_app]
  rcases mp9 hu with hu|hu
  ·exact (j.kept u hu).mono fun b hb=>List.mem_append.2 (.inl hb)
  ·rw [ms9 hu]
   have h1:=hs.mono (C:=rowsS rs++[redV rs (vecM m w)]) fun b hb=>List.mem_append.2 (.inl hb)
   have h2:SpanV m.n (rowsS rs++[redV rs (vecM m w)]) (vf (redV rs (vecM m w))):=.mem (List.mem_append.2 (.inr (List.mem_singleton.2 rfl)))
   refine (h1.plus h2).congr fun i _=>?_
   show (vecM m w).getD i 0=(vecM m w).getD i 0-(redV rs (vecM m w)).getD i 0+(redV rs (vecM m w)).getD i 0
   rw [Rat.sub_add_cancel]
theorem Join.le (j:Join m V K Q rs):rs.length≤m.n:=j.ech.len
def leftM (m:Mach)(Q:List (List Int))(rs:List SRow):Nat:=Q.length+(m.k+1)*(m.n-rs.length)
theorem left_keep (ok:m.Ok)(j:Join m V K (w::Q) rs)(h:growsS rs (vecM m w)=true):leftM m (Q++kidsW m.k w) (rs++[newR rs (vecM m w)])<leftM m (w::Q) rs:=by
 have h1:=(j.keep ok h).le
 rw [la9,ls9] at h1
 unfold leftM
 rw [show (Q++kidsW m.k w).length=Q.length+(kidsW m.k w).length from la9,show (rs++[newR rs (vecM m w)]).length=rs.length+1 by simp,show (w::Q).length=Q.length+1 from rfl,show (kidsW m.k w).length=m.k by simp [kidsW]]
 obtain ⟨d,hd⟩:∃ d,m.n-rs.length=d+1:=⟨m.n-rs.length-1,by omega⟩
 rw [hd,show m.n-(rs.length+1)=d by omega,Nat.mul_succ]
 omega
theorem left_drop:leftM m Q rs<leftM m (w::Q) rs:=by
 unfold leftM
 rw [List.length_cons];omega
end
structure Arc9 where
 f:Nat
 l:Nat
 t:Nat
 q:Rat
instance:Inhabited Arc9:=⟨⟨0,0,0,0⟩⟩
structure Au where
 sym:Nat
 st:Nat
 ini:List Rat
 fin:List Rat
 arcs:List Arc9
instance:Inhabited Au:=⟨⟨0,0,[],[],[]⟩⟩
structure Au.Ok (a:Au):Prop where
 sym0:1≤a.sym
 ini:a.ini.length=a.st
 fin:a.fin.length=a.st
 arc:∀ x,x ∈ a.arcs→x.f<a.st∧x.t<a.st∧1≤x.l∧x.l≤a.sym
def entA (l:List Arc9)(s i j:Nat):Rat:=lsum (fun x=>if x.f=i∧x.l=s+1∧x.t=j then x.q else 0) l
def sizeL (l:List Au):Nat:=(l.map (·.st)).sum
def entL:List Au→Nat→Nat→Nat→Rat
 | [],_,_,_=>0
 | a::r,s,i,j=>if i<a.st then (if j<a.st then entA a.arcs s i j else 0) else (if j<a.st then 0 else entL r s (i-a.st) (j-a.st))
def mtx (n:Nat)(f:Nat→Nat→Rat):List (List Rat):=(List.range n).map fun i=>(List.range n).map fun j=>f i j
def finL:List Au→List Rat
 | []=>[]
 | a::r=>a.fin++r.flatMap fun b=>b.fin.map fun x=>-x
def machL (l:List Au):Mach:=⟨sizeL l,l.flatMap (·.ini),finL l,(List.range (l.getD 0 default).sym).map fun s=>mtx (sizeL l) (entL l s)⟩
section
variable {a b:Au}{l:List Au}{s i j n:Nat}
theorem mtx_get {f:Nat→Nat→Rat}(hi:i<n)(hj:j<n):((mtx n f).getD i []).getD j 0=f i j:=by
 unfold mtx
 rw [map_getD_range _ _ hi,map_getD_range _ _ hj]
theorem machL_k:(machL l).k=(l.getD 0 default).sym:=by simp [Mach.k,machL]
theorem machL_ent (hs:s<(l.getD 0 default).sym)(hi:i<sizeL l)(hj:j<sizeL l):entM (machL l) s i j=entL l s i j:=by
 unfold entM machL
 rw [map_getD_range _ _ hs,mtx_get hi hj]
theorem size_one:sizeL [a]=a.st:=by simp [sizeL]
theorem size_two:sizeL [a,b]=a.st+b.st:=by simp [sizeL]
theorem mach_ok1 (ha:a.Ok):(machL [a]).Ok:=⟨by simp [machL,sizeL,ha.ini],by simp [machL,finL,sizeL,ha.fin]⟩
theorem mach_ok2 (ha:a.Ok)(hb:b.Ok):(machL [a,b]).Ok:=⟨by simp [machL,sizeL,ha.ini,hb.ini],by simp [machL,finL,sizeL,ha.fin,hb.fin]⟩
theorem sumN_app (f:Nat→Rat)(n:Nat):∀ m,sumN f (n+m)=sumN f n+sumN (fun i=>f (n+i)) m
 | 0=>by rw [Nat.add_zero,sumN,Rat.add_zero]
 | m+1=>by rw [← Nat.add_assoc,sumN,sumN_app f n m,sumN,Rat.add_assoc]
theorem vec_two (ha:a.Ok)(hb:b.Ok)(hs:a.sym=b.sym)(w:List Int)(hw:InW a.sym w) :
  (∀ i,i<a.st→(vecM (machL [a,b]) w).getD i 0=(vecM (machL [a]) w).getD i 0)∧∀ i,i<b.st→(vecM (machL [a,b]) w).getD (a.st+i) 0=(vecM (machL [b]) w).getD i 0:=by
 induction hn:w.length generalizing w with
 | zero =>
  have e:=en9 hn
  subst e
  constructor
  ·intro i hi
   show (a.ini++(b.ini++[])).getD i 0=(a.ini++[]).getD i 0
   rw [List.append_nil,List.append_nil,gd9,List.getElem?_append_left (by rw [ha.ini];exact hi),← gd9]
  ·intro i hi
   show (a.ini++(b.ini++[])).getD (a.st+i) 0=(b.ini++[]).getD i 0
   rw [List.append_nil,gd9,List.getElem?_append_right (by rw [ha.ini];omega),ha.ini,Nat.add_sub_cancel_left,← gd9]
 | succ n ih =>
  have hne:w≠[]:=fun e=>by subst e;cases hn
  obtain ⟨y,x,rfl⟩:∃ y x,w=y++[x]:=⟨w.dropLast,w.getLast hne,(List.dropLast_concat_getLast hne).symm⟩
  have hx:=hw x (by simp)
  obtain ⟨h1,h2⟩:=ih y (fun z hz=>hw z (List.mem_append.2 (.inl hz))) (by rw [la9,ls9] at hn;omega)
  have hsa:x.toNat-1<a.sym:=by omega
  have e1:∀ i j,i<a.st+b.st→j<a.st+b.st→entM (machL [a,b]) (x.toNat-1) i j=entL [a,b] (x.toNat-1) i j:=fun i j hi hj=>machL_ent (l:=[a,b]) hsa (by rw [size_two];exact hi) (by rw [size_two];exact hj)
  have e2:∀ i j,i<a.st→j<a.st→entM (machL [a]) (x.toNat-1) i j=entL [a] (x.toNat-1) i j:=fun i j hi hj=>machL_ent (l:=[a]) hsa (by rw [size_one];exact hi) (by rw [size_one];exact hj)
  have e3:∀ i j,i<b.st→j<b.st→entM (machL [b]) (x.toNat-1) i j=entL [b] (x.toNat-1) i j:=fun i j hi hj=>machL_ent (l:=[b]) (by show _<b.sym;omega) (by rw [size_one];exact hi) (by rw [size_one];exact hj)
  constructor
  ·intro i hi
   rw [vecM_snoc,vecM_snoc,stepM_vf (by show i<sizeL [a,b];rw [size_two];omega),stepM_vf (by show i<sizeL [a];rw [size_one];exact hi),show (machL [a,b]).n=a.st+b.st from size_two,show (machL [a]).n=a.st from size_one,sumN_app,sumN_zero (n:=b.st),Rat.add_zero]
   ·refine sumN_congr fun k hk=>?_
    rw [h1 k hk,e1 k i (by omega) (by omega),e2 k i hk hi]
    simp only [entL,if_pos hk,if_pos hi]
   ·intro k hk
    rw [e1 _ i (by omega) (by omega)]
    simp only [entL,if_neg (show ¬ a.st+k<a.st by omega),if_pos hi,Rat.mul_zero]
  ·intro i hi
   rw [vecM_snoc,vecM_snoc,stepM_vf (by show a.st+i<sizeL [a,b];rw [size_two];omega),stepM_vf (by show i<sizeL [b];rw [size_one];exact hi),show (machL [a,b]).n=a.st+b.st from size_two,show (machL [b]).n=b.st from size_one,sumN_app,sumN_zero (n:=a.st),Rat.zero_add]
   ·refine sumN_congr fun k hk=>?_
    rw [h2 k hk,e1 _ _ (by omega) (by omega),e3 k i hk hi]
    simp only [entL,if_neg (show ¬ a.st+k<a.st by omega),if_neg (show ¬ a.st+i<a.st by omega),if_pos hk,if_pos hi,Nat.add_sub_cancel_left]
   ·intro k hk
    rw [e1 _ _ (by omega) (by omega)]
    simp only [entL,if_pos hk,if_neg (show ¬ a.st+i<a.st by omega),Rat.mul_zero]
def serA (a:Au)(w:List Int):Rat:=wtM (machL [a]) w
theorem ser_two (ha:a.Ok)(hb:b.Ok)(hs:a.sym=b.sym){w:List Int}(hw:InW a.sym w):wtM (machL [a,b]) w=serA a w-serA b w:=by
 obtain ⟨h1,h2⟩:=vec_two ha hb hs w hw
 unfold serA wtM dotM
 rw [show (machL [a,b]).n=a.st+b.st from size_two,show (machL [a]).n=a.st from size_one,show (machL [b]).n=b.st from size_one,sumN_app,Rat.sub_eq_add_neg]
 have f1:∀ i,i<a.st→vf (machL [a,b]).fin i=vf (machL [a]).fin i:=fun i hi=>by
  show (a.fin++_).getD i 0=(a.fin++[]).getD i 0
  rw [List.append_nil,gd9,List.getElem?_append_left (by rw [ha.fin];exact hi),← gd9]
 have f2:∀ i,i<b.st→vf (machL [a,b]).fin (a.st+i) = -(vf (machL [b]).fin i):=fun i hi=>by
  show (a.fin++(b.fin.map (fun x=>-x)++[])).getD (a.st+i) 0 = -((b.fin++[]).getD i 0)
  rw [List.append_nil,List.append_nil,gd9,List.getElem?_append_right (by rw [ha.fin];omega),ha.fin,Nat.add_sub_cancel_left,List.getElem?_map,gd9,ge9 (by rw [hb.fin];exact hi)]
  rfl
 congr 1
 ·exact sumN_congr fun i hi=>by rw [show vf (vecM (machL [a,b]) w) i=vf (vecM (machL [a]) w) i from h1 i hi,f1 i hi]
 ·rw [show -sumN (fun i=>vf (vecM (machL [b]) w) i*vf (machL [b]).fin i) b.st=sumN (fun i=>-1*(vf (vecM (machL [b]) w) i*vf (machL [b]).fin i)) b.st by rw [sumN_mulL,Rat.neg_mul,Rat.one_mul]]
  refine sumN_congr fun i hi=>?_
  rw [show vf (vecM (machL [a,b]) w) (a.st+i)=vf (vecM (machL [b]) w) i from h2 i hi,f2 i hi,Rat.mul_neg,Rat.neg_mul,Rat.one_mul]
end
end Go.AL
