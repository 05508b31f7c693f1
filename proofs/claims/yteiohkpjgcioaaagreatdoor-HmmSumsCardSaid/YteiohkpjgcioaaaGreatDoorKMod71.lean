/-
  M, chapters 23 and 24: machines over the rational numbers, explored word by word in shortlex order.
-/
import Derived.Test.YteiohkpjgcioaaaGreatDoorKMod70
import Derived.Test.YteiohkpjgcioaaaGreatDoorKMod37c
set_option linter.unusedVariables false
set_option linter.unusedSimpArgs false
namespace Go.AL
open Go Go.BigFrame
structure Mach where
 n:Nat
 ini:List Rat
 fin:List Rat
 mats:List (List (List Rat))
def Mach.k (m:Mach):Nat:=m.mats.length
def entM (m:Mach)(s i j:Nat):Rat:=((m.mats.getD s []).getD i []).getD j 0
def stepM (m:Mach)(v:List Rat)(s:Nat):List Rat:=(List.range m.n).map fun j=>sumN (fun i=>v.getD i 0*entM m s i j) m.n
def vecM (m:Mach)(w:List Int):List Rat:=w.foldl (fun v x=>stepM m v (x.toNat-1)) m.ini
def dotM (n:Nat)(u v:Nat→Rat):Rat:=sumN (fun i=>u i*v i) n
def wtM (m:Mach)(w:List Int):Rat:=dotM m.n (vf (vecM m w)) (vf m.fin)
structure Mach.Ok (m:Mach):Prop where
 ini:m.ini.length=m.n
 fin:m.fin.length=m.n
def slx (a b:List Int):Int:=if a.length≠b.length then (if a.length<b.length then -1 else 1) else cmpL a b
def InW (k:Nat)(w:List Int):Prop:=∀ x,x ∈ w→1≤x∧x≤(k:Int)
def kidsW (k:Nat)(w:List Int):List (List Int):=(List.range k).map fun s=>w++[((s+1:Nat):Int)]
section
variable {m:Mach}{w u:List Int}{a b c:List Int}
theorem stepM_len (m:Mach)(v:List Rat)(s:Nat):(stepM m v s).length=m.n:=by simp [stepM]
theorem vecM_snoc (x:Int):vecM m (w++[x])=stepM m (vecM m w) (x.toNat-1):=by unfold vecM;rw [List.foldl_append];rfl
theorem vecM_len (h:m.Ok)(w:List Int):(vecM m w).length=m.n:=by
 rcases List.eq_nil_or_concat w with rfl|⟨w,x,rfl⟩
 ·exact h.ini
 ·rw [List.concat_eq_append,vecM_snoc,stepM_len]
theorem stepM_lin (m:Mach)(s:Nat):LinM m.n m.n fun u j=>sumN (fun i=>u i*entM m s i j) m.n :=
 ⟨fun u v h j _=>sumN_congr fun i hi=>by rw [h i hi],fun u v c j _=>by
  rw [← sumN_mulL,← sumN_add]
  exact sumN_congr fun i _=>by rw [Rat.add_mul,Rat.mul_assoc],fun j _=>sumN_zero fun i _=>Rat.zero_mul _⟩
theorem dotM_lin (n:Nat)(f:Nat→Rat):LinM n 1 fun u _=>dotM n u f :=
 ⟨fun u v h _ _=>sumN_congr fun i hi=>by rw [h i hi],fun u v c _ _=>by
  unfold dotM
  rw [← sumN_mulL,← sumN_add]
  exact sumN_congr fun i _=>by rw [Rat.add_mul,Rat.mul_assoc],fun _ _=>sumN_zero fun i _=>Rat.zero_mul _⟩
theorem stepM_vf {v:List Rat}{s j:Nat}(hj:j<m.n):(stepM m v s).getD j 0=sumN (fun i=>v.getD i 0*entM m s i j) m.n:=map_getD_range _ _ hj
theorem slx_self (a:List Int):slx a a=0:=by unfold slx;rw [if_neg (by omega),cmpL_self]
theorem slx_neg (a b:List Int):slx b a = -slx a b:=by
 unfold slx
 by_cases h:a.length=b.length
 ·rw [if_neg (show ¬ b.length≠a.length by omega),if_neg (show ¬ a.length≠b.length by omega)];exact cmpL_neg a b
 ·rw [if_pos (show b.length≠a.length by omega),if_pos (show a.length≠b.length by omega)]
  by_cases h1:a.length<b.length
  ·rw [if_pos h1,if_neg (show ¬ b.length<a.length by omega)];rfl
  ·rw [if_neg h1,if_pos (show b.length<a.length by omega)]
theorem slx_zero (h:slx a b=0):a=b:=by
 unfold slx at h
 split at h
 ·split at h <;> cases h
 ·exact cmpL_zero h
theorem slx_trans (h:slx a b≤0)(k:slx b c≤0):slx a c≤0:=by
 unfold slx at *
 by_cases h1:a.length=b.length
 ·by_cases h2:b.length=c.length
  ·rw [if_neg (by omega)] at h k ⊢
   exact cmpL_trans h k
  ·rw [if_pos (by omega)] at k ⊢
   split at k
   ·rw [if_pos (by omega)];decide
   ·exact absurd k (by decide)
 ·rw [if_pos (by omega)] at h
  split at h
  ·by_cases h2:b.length=c.length
   ·rw [if_pos (by omega),if_pos (by omega)];decide
   ·rw [if_pos (by omega)] at k
    split at k
    ·rw [if_pos (by omega),if_pos (by omega)];decide
    ·exact absurd k (by decide)
  ·exact absurd h (by decide)
theorem slx_lt_trans (h:slx a b<0)(k:slx b c≤0):slx a c<0:=by
 have h1:=slx_trans (Int.le_of_lt h) k
 have h2:slx a c≠0:=fun e=>by
  have:=slx_zero e
  subst this
  have:=slx_neg a b
  omega
 omega
theorem slx_len (h:slx a b≤0):a.length≤b.length:=by
 unfold slx at h
 split at h
 ·split at h
  ·omega
  ·exact absurd h (by decide)
 ·omega
theorem slx_short (h:a.length<b.length):slx a b<0:=by
 unfold slx
 rw [if_pos (by omega),if_pos h];decide
theorem slx_snoc {x:Int}(h:slx a b≤0):slx (a++[x]) (b++[x])≤0:=by
 have hl:=slx_len h
 unfold slx at *
 rw [la9,la9]
 by_cases h1:a.length=b.length
 ·rw [if_neg (by omega)] at h ⊢
  rw [cmpL_snoc_same h1];exact h
 ·rw [if_pos (by omega),if_pos (by simp only [ls9];omega)];decide
theorem slx_snoc_lt {x y:Int}(h:slx a b<0):slx (a++[x]) (b++[y])<0:=by
 have hl:=slx_len (Int.le_of_lt h)
 unfold slx at *
 rw [la9,la9]
 by_cases h1:a.length=b.length
 ·rw [if_neg (by omega)] at h
  rw [if_neg (by simp only [ls9];omega),cmpL_snoc h1,if_neg (by omega)];exact h
 ·rw [if_pos (by simp only [ls9];omega),if_pos (by simp only [ls9];omega)];decide
theorem slx_kids (k:Nat)(w:List Int):(kidsW k w).Pairwise fun a b=>slx a b<0:=by
 unfold kidsW
 refine List.pairwise_map.2 (List.pairwise_lt_range.imp fun {a b} h=>?_)
 unfold slx
 rw [if_neg (by simp),cmpL_snoc rfl,if_pos (cmpL_self w),if_pos (by omega)];decide
theorem kidsW_mem {k:Nat}:a ∈ kidsW k w ↔ ∃ s,s<k∧a=w++[((s+1:Nat):Int)]:=by
 unfold kidsW
 rw [List.mem_map]
 exact ⟨fun ⟨s,h,e⟩=>⟨s,List.mem_range.1 h,e.symm⟩,fun ⟨s,h,e⟩=>⟨s,List.mem_range.2 h,e.symm⟩⟩
def vecs (m:Mach)(K:List (List Int)):List (List Rat):=K.map (vecM m)
def upTo (K:List (List Int))(v:List Int):List (List Int):=K.filter fun u=>decide (slx u v≤0)
theorem upTo_mem {K:List (List Int)}{v:List Int}:u ∈ upTo K v ↔ u ∈ K∧slx u v≤0:=by
 unfold upTo
 rw [List.mem_filter,decide_eq_true_eq]
structure BFS (m:Mach) (V K Q:List (List Int)):Prop where
 sub:∀ u,u ∈ K→u ∈ V
 root:[] ∈ V ∨ [] ∈ Q
 kids:∀ u,u ∈ K→∀ s,s<m.k→u++[((s+1:Nat):Int)] ∈ V ∨ u++[((s+1:Nat):Int)] ∈ Q
 span:∀ v,v ∈ V→SpanV m.n (vecs m (upTo K v)) (vf (vecM m v))
 ord:(V++Q).Pairwise fun a b=>slx a b<0
 par:∀ q,q ∈ Q→q=[] ∨ ∃ u,u ∈ K∧∃ s,s<m.k∧q=u++[((s+1:Nat):Int)]
 inW:∀ v,v ∈ V ∨ v ∈ Q→InW m.k v
theorem BFS.start (m:Mach):BFS m [] [] [[]] :=
 ⟨fun _ h=>(by cases h),.inr (List.mem_singleton.2 rfl),fun _ h=>(by cases h),fun _ h=>(by cases h),List.pairwise_singleton ..,fun q h=>.inl (ms9 h),fun v h x hx=>by
  rcases h with h|h
  ·cases h
  ·rw [ms9 h] at hx;cases hx⟩
theorem BFS.reach {V K Q:List (List Int)}(h:BFS m V K Q):∀ (w:List Int),InW m.k w→(∀ q,q ∈ Q→slx w q<0)→SpanV m.n (vecs m (upTo K w)) (vf (vecM m w)):=by
 intro w
 induction hl:w.length generalizing w with
 | zero =>
  intro _ hq
  have e:=en9 hl
  subst e
  rcases h.root with h1|h1
  ·exact h.span _ h1
  ·have:=hq _ h1
   rw [slx_self] at this
   exact absurd this (by decide)
 | succ n ih =>
  intro hw hq
  have hne:w≠[]:=fun e=>by subst e;cases hl
  obtain ⟨y,x,rfl⟩:∃ y x,w=y++[x]:=⟨w.dropLast,w.getLast hne,(List.dropLast_concat_getLast hne).symm⟩
  have hx:=hw x (by simp)
  have hy:InW m.k y:=fun z hz=>hw z (List.mem_append.2 (.inl hz))
  have hyl:y.length=n:=by rw [la9,ls9] at hl;omega
  have hyx:slx y (y++[x])<0:=slx_short (by rw [la9,ls9];omega)
  have hs:=ih y hyl hy fun q hq'=>slx_lt_trans hyx (Int.le_of_lt (hq q hq'))
  rw [vecM_snoc]
  have hmap:=SpanV.map (stepM_lin m (x.toNat-1)) hs (C:=vecs m (upTo K (y++[x]))) fun b hb=>by
   obtain ⟨u,hu,rfl⟩:=mm9 hb
   obtain ⟨hu1,hu2⟩:=upTo_mem.1 hu
   have hux:u++[x] ∈ V:=by
    have:=h.kids u hu1 (x.toNat-1) (by omega)
    rw [show ((x.toNat-1+1:Nat):Int)=x by omega] at this
    refine this.resolve_right fun k=>?_
    have a:=hq _ k
    have b:=slx_snoc (x:=x) hu2
    have c:=slx_neg (u++[x]) (y++[x])
    omega
   have hsp:=h.span _ hux
   rw [vecM_snoc] at hsp
   refine (hsp.congr (v:=fun j=>sumN (fun i=>vf (vecM m u) i*entM m (x.toNat-1) i j) m.n) fun j hj=>(stepM_vf hj).symm).mono fun b hb=>?_
   obtain ⟨z,hz,rfl⟩:=mm9 hb
   obtain ⟨hz1,hz2⟩:=upTo_mem.1 hz
   exact List.mem_map.2 ⟨z,upTo_mem.2 ⟨hz1,slx_trans hz2 (slx_snoc hu2)⟩,rfl⟩
  exact hmap.congr fun j hj=>stepM_vf hj
theorem upTo_grow {K:List (List Int)}{v x:List Int}(hu:u ∈ upTo K v):u ∈ upTo (K++[x]) v :=
 upTo_mem.2 ⟨List.mem_append.2 (.inl (upTo_mem.1 hu).1),(upTo_mem.1 hu).2⟩
theorem BFS.head {V K Q:List (List Int)}(h:BFS m V K (w::Q)):(∀ v,v ∈ V→slx v w<0)∧(∀ q,q ∈ Q→slx w q<0):=by
 obtain ⟨_,h2,h3⟩:=List.pairwise_append.1 h.ord
 exact ⟨fun v hv=>h3 v hv w mc9,(List.pairwise_cons.1 h2).1⟩
theorem BFS.drop {V K Q:List (List Int)}(h:BFS m V K (w::Q))(hs:SpanV m.n (vecs m K) (vf (vecM m w))):BFS m (V++[w]) K Q:=by
 have e:V++w::Q=(V++[w])++Q:=by simp
 refine ⟨fun u hu=>List.mem_append.2 (.inl (h.sub u hu)),?_,fun u hu s hs'=>?_,fun v hv=>?_,by rw [← e];exact h.ord,fun q hq=>h.par q (List.mem_cons_of_mem _ hq),fun v hv=>?_⟩
 ·rcases h.root with h1|h1
  ·exact .inl (List.mem_append.2 (.inl h1))
  ·rcases List.mem_cons.1 h1 with h1|h1
   ·exact .inl (List.mem_append.2 (.inr (List.mem_singleton.2 h1)))
   ·exact .inr h1
 ·rcases h.kids u hu s hs' with h1|h1
  ·exact .inl (List.mem_append.2 (.inl h1))
  ·rcases List.mem_cons.1 h1 with h1|h1
   ·exact .inl (List.mem_append.2 (.inr (List.mem_singleton.2 h1)))
   ·exact .inr h1
 ·rcases mp9 hv with hv|hv
  ·exact h.span v hv
  ·rw [ms9 hv]
   refine hs.mono fun b hb=>?_
   obtain ⟨u,hu,rfl⟩:=mm9 hb
   exact List.mem_map.2 ⟨u,upTo_mem.2 ⟨hu,Int.le_of_lt (h.head.1 u (h.sub u hu))⟩,rfl⟩
 ·refine h.inW v (hv.elim (fun hv=>?_) fun hv=>.inr (List.mem_cons_of_mem _ hv))
  exact (mp9 hv).imp id fun hv=>List.mem_cons.2 (.inl (ms9 hv))
theorem BFS.keep {V K Q:List (List Int)}(h:BFS m V K (w::Q)):BFS m (V++[w]) (K++[w]) (Q++kidsW m.k w):=by
 have hd:=h.head
 refine ⟨fun u hu=>?_,?_,fun u hu s hs'=>?_,fun v hv=>?_,?_,fun q hq=>?_,fun v hv=>?_⟩
 ·exact (mp9 hu).elim (fun hu=>List.mem_append.2 (.inl (h.sub u hu))) fun hu=>List.mem_append.2 (.inr hu)
 ·rcases h.root with h1|h1
  ·exact .inl (List.mem_append.2 (.inl h1))
  ·rcases List.mem_cons.1 h1 with h1|h1
   ·exact .inl (List.mem_append.2 (.inr (List.mem_singleton.2 h1)))
   ·exact .inr (List.mem_append.2 (.inl h1))
 ·rcases mp9 hu with hu|hu
  ·rcases h.kids u hu s hs' with h1|h1
   ·exact .inl (List.mem_append.2 (.inl h1))
   ·rcases List.mem_cons.1 h1 with h1|h1
    ·exact .inl (List.mem_append.2 (.inr (List.mem_singleton.2 h1)))
    ·exact .inr (List.mem_append.2 (.inl h1))
  ·rw [ms9 hu]
   exact .inr (List.mem_append.2 (.inr (kidsW_mem.2 ⟨s,hs',rfl⟩)))
 ·rcases mp9 hv with hv|hv
  ·exact (h.span v hv).mono fun b hb=>by
    obtain ⟨u,hu,rfl⟩:=mm9 hb
    exact List.mem_map.2 ⟨u,upTo_grow hu,rfl⟩
  ·rw [ms9 hv]
   exact .mem (List.mem_map.2 ⟨w,upTo_mem.2 ⟨List.mem_append.2 (.inr (List.mem_singleton.2 rfl)),by rw [slx_self];exact Int.le_refl _⟩,rfl⟩)
 ·rw [show (V++[w])++(Q++kidsW m.k w)=(V++w::Q)++kidsW m.k w by simp]
  refine List.pairwise_append.2 ⟨h.ord,slx_kids m.k w,fun a ha b hb=>?_⟩
  obtain ⟨s,_,rfl⟩:=kidsW_mem.1 hb
  have hwb:slx w (w++[((s+1:Nat):Int)])<0:=slx_short (by rw [la9,ls9];omega)
  rcases mp9 ha with ha|ha
  ·exact slx_lt_trans (hd.1 a ha) (Int.le_of_lt hwb)
  ·rcases List.mem_cons.1 ha with rfl|ha
   ·exact hwb
   ·rcases h.par a (List.mem_cons_of_mem _ ha) with rfl|⟨u,hu,t,_,rfl⟩
    ·exact slx_short (by rw [la9,ls9];show 0<_;omega)
    ·exact slx_snoc_lt (hd.1 u (h.sub u hu))
 ·rcases mp9 hq with hq|hq
  ·exact (h.par q (List.mem_cons_of_mem _ hq)).imp id fun ⟨u,hu,r⟩=>⟨u,List.mem_append.2 (.inl hu),r⟩
  ·obtain ⟨s,hs',rfl⟩:=kidsW_mem.1 hq
   exact .inr ⟨w,List.mem_append.2 (.inr (List.mem_singleton.2 rfl)),s,hs',rfl⟩
 ·have hw:=h.inW w (.inr mc9)
  rcases hv with hv|hv
  ·rcases mp9 hv with hv|hv
   ·exact h.inW v (.inl hv)
   ·rw [ms9 hv];exact hw
  ·rcases mp9 hv with hv|hv
   ·exact h.inW v (.inr (List.mem_cons_of_mem _ hv))
   ·obtain ⟨s,hs',rfl⟩:=kidsW_mem.1 hv
    intro x hx
    rcases mp9 hx with hx|hx
    ·exact hw x hx
    ·rw [ms9 hx];omega
def ZeroK (m:Mach)(K:List (List Int)):Prop:=∀ u,u ∈ K→wtM m u=0
theorem BFS.zero {V K Q:List (List Int)}(h:BFS m V K Q)(hz:ZeroK m K)(hw:InW m.k w)(hq:∀ q,q ∈ Q→slx w q<0):wtM m w=0:=by
 refine (h.reach w hw hq).kill (L:=fun u _=>dotM m.n u (vf m.fin)) (dotM_lin m.n (vf m.fin)) fun b hb=>?_
 obtain ⟨u,hu,rfl⟩:=mm9 hb
 exact hz u (upTo_mem.1 hu).1
structure FirstNZ (m:Mach) (w:List Int):Prop where
 inW:InW m.k w
 nz:wtM m w≠0
 before:∀ u,InW m.k u→slx u w<0→wtM m u=0
theorem FirstNZ.unique {v:List Int}(h:FirstNZ m w)(k:FirstNZ m v):w=v:=by
 refine slx_zero (Decidable.byContradiction fun hne=>?_)
 have:=slx_neg w v
 rcases Int.lt_or_gt_of_ne hne with h1|h1
 ·exact h.nz (k.before w h.inW h1)
 ·exact k.nz (h.before v k.inW (by omega))
theorem BFS.first {V K Q:List (List Int)}(h:BFS m V K (w::Q))(hz:ZeroK m K)(hn:wtM m w≠0):FirstNZ m w :=
 ⟨h.inW w (.inr mc9),hn,fun u hu hl=>h.zero hz hu fun q hq=>by
  rcases List.mem_cons.1 hq with rfl|hq
  ·exact hl
  ·exact slx_lt_trans hl (Int.le_of_lt (h.head.2 q hq))⟩
theorem BFS.none {V K:List (List Int)}(h:BFS m V K [])(hz:ZeroK m K)(w:List Int)(hw:InW m.k w):wtM m w=0:=h.zero hz hw fun q hq=>by cases hq
end
end Go.AL
