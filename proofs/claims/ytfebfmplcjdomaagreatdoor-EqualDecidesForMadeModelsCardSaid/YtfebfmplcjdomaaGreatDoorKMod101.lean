/-
  M, chapters 23 and 24: the words that the search keeps are the same, however it is run.
-/
import Derived.Test.YtfebfmplcjdomaaGreatDoorKAlg43
set_option linter.unusedVariables false
set_option linter.unusedSimpArgs false
namespace Go.AL
open Go Go.BigFrame
section
variable {m mv:Mach} {B:Nat} {L V K Q:List (List Int)} {rs:List SRow} {y:KSt} {u w:List Int}
theorem kids_inW {k:Nat} (h:InW k w):∀ q,q ∈ kidsW k w→InW k q:=fun q hq x hx=>by
 obtain ⟨s,hs,rfl⟩:=List.mem_map.1 hq
 have:=List.mem_range.1 hs
 rcases List.mem_append.1 hx with hx | hx
 ·exact h x hx
 ·rw [List.mem_singleton.1 hx];omega
theorem InvS.inW (h:InvS m B [] y):∀ u,u ∈ y.ks→InW m.k u:=fun u hu=>by
 obtain ⟨V,j,e⟩:=h.join
 rw [List.append_nil] at e
 exact next_inW (fun u hu=>by rw [← e];exact j.bfs.sub u hu) u.length u rfl hu
theorem InvS.closed (h:InvS m B [] y) (hu:u ∈ y.ks) (hne:u≠[]):u.dropLast ∈ y.ks:=by
 obtain ⟨V,j,e⟩:=h.join
 rw [List.append_nil] at e
 have hn:u ∈ nextW m.k y.ks:=by rw [← e];exact j.bfs.sub u hu
 rcases List.mem_cons.1 hn with rfl | hn
 ·exact absurd rfl hne
 ·obtain ⟨z,hz,hn⟩:=List.mem_flatMap.1 hn
  obtain ⟨s,_,rfl⟩:=List.mem_map.1 hn
  rw [List.dropLast_concat];exact hz
end
end Go.AL

set_option linter.unusedVariables false
set_option linter.unusedSimpArgs false
namespace Go.AL
open Go Go.BigFrame
section
variable {mv mm:Mach} {K:List (List Int)} {w:List Int}
theorem swap_sum {n N:Nat} (a:Nat→Rat) (b:Nat→Nat→Rat) (c:Nat→Rat):sumN (fun p=>sumN (fun j=>a j * b j p) N * c p) n=sumN (fun j=>a j * sumN (fun p=>b j p * c p) n) N:=by
 have e1:sumN (fun p=>sumN (fun j=>a j * b j p) N * c p) n=sumN (fun p=>sumN (fun j=>a j * (b j p * c p)) N) n:=sumN_congr fun p _=>by
  rw [← sumN_mulR]
  exact sumN_congr fun j _=>Rat.mul_assoc ..
 have e2:sumN (fun j=>a j * sumN (fun p=>b j p * c p) n) N=sumN (fun j=>sumN (fun p=>a j * (b j p * c p)) n) N:=sumN_congr fun j _=>(sumN_mulL ..).symm
 rw [e1,e2,sumN_swap]
structure MinOK (mv mm:Mach) (K:List (List Int)):Prop where
 n:mm.n=K.length
 k:mm.k=mv.k
 root:0 < K.length∧K.getD 0 []=[]
 ini:∀ j,j < K.length→mm.ini.getD j 0=if 0=j then 1 else 0
 fin:∀ j,j < K.length→mm.fin.getD j 0=wtM mv (K.getD j [])
 ent:∀ s,s < mv.k→∀ i,i < K.length→∀ q,q < mv.n→(vecM mv (K.getD i [] ++ [((s+1:Nat):Int)])).getD q 0=sumN (fun j=>entM mm s i j * (vecM mv (K.getD j [])).getD q 0) K.length
theorem MinOK.vec (h:MinOK mv mm K):∀ (n:Nat) (w:List Int),w.length=n→InW mv.k w→∀ q,q < mv.n→(vecM mv w).getD q 0=sumN (fun j=>(vecM mm w).getD j 0 * (vecM mv (K.getD j [])).getD q 0) K.length:=by
 intro n
 induction n with
 | zero =>
  intro w hn _ q _
  rw [List.eq_nil_of_length_eq_zero hn]
  have e:sumN (fun j=>(vecM mm []).getD j 0 * (vecM mv (K.getD j [])).getD q 0) K.length=sumN (fun j=>if 0=j then (vecM mv (K.getD j [])).getD q 0 else 0) K.length:=sumN_congr fun j hj=>by
   show mm.ini.getD j 0 * _=_
   rw [h.ini j hj]
   split
   ·rw [Rat.one_mul]
   ·rw [Rat.zero_mul]
  rw [e,sumN_pick (v:=fun j=>(vecM mv (K.getD j [])).getD q 0) h.root.1,h.root.2]
 | succ n ih =>
  intro w hn hw q hq
  have hne:w≠[]:=fun e=>by rw [e] at hn;cases hn
  obtain ⟨z,x,rfl⟩:∃ z x,w=z ++ [x]:=⟨w.dropLast,w.getLast hne,(List.dropLast_concat_getLast hne).symm⟩
  have hx:=hw x (by simp)
  obtain ⟨s,hs,rfl⟩:∃ s:Nat,s < mv.k∧x=((s+1:Nat):Int):=⟨x.toNat - 1,by omega,by omega⟩
  have hz:InW mv.k z:=fun q hq=>hw q (List.mem_append.2 (.inl hq))
  have es:(((s+1:Nat):Int)).toNat - 1=s:=by omega
  have ihz:=ih z (by rw [List.length_append,List.length_singleton] at hn;omega) hz
  have step:∀ (m:Mach) (u:List Int) (q:Nat),q < m.n→(vecM m (u ++ [((s+1:Nat):Int)])).getD q 0=sumN (fun i=>(vecM m u).getD i 0 * entM m s i q) m.n:=fun m u q hq=>by
   rw [vecM_snoc,es]
   unfold stepM
   rw [map_getD_range _ _ hq]
  have e1:(vecM mv (z ++ [((s+1:Nat):Int)])).getD q 0=sumN (fun p=>sumN (fun j=>(vecM mm z).getD j 0 * (vecM mv (K.getD j [])).getD p 0) K.length * entM mv s p q) mv.n:=by
   rw [step mv z q hq]
   exact sumN_congr fun p hp=>by rw [ihz p hp]
  have e2:sumN (fun l=>(vecM mm (z ++ [((s+1:Nat):Int)])).getD l 0 * (vecM mv (K.getD l [])).getD q 0) K.length=sumN (fun l=>sumN (fun j=>(vecM mm z).getD j 0 * entM mm s j l) K.length * (vecM mv (K.getD l [])).getD q 0) K.length :=
   sumN_congr fun l hl=>by rw [step mm z l (by rw [h.n];exact hl),h.n]
  rw [e1,swap_sum,e2,swap_sum]
  refine sumN_congr fun j hj=>?_
  congr 1
  rw [← h.ent s hs j hj q hq,step mv _ q hq]
theorem MinOK.wt (h:MinOK mv mm K) (hw:InW mv.k w):wtM mm w=wtM mv w:=by
 unfold wtM dotM
 have e1:sumN (fun q=>vf (vecM mv w) q * vf mv.fin q) mv.n=sumN (fun q=>sumN (fun j=>(vecM mm w).getD j 0 * (vecM mv (K.getD j [])).getD q 0) K.length * mv.fin.getD q 0) mv.n :=
  sumN_congr fun q hq=>by rw [← h.vec w.length w rfl hw q hq]
 rw [e1,swap_sum,h.n]
 refine sumN_congr fun j hj=>?_
 show (vecM mm w).getD j 0 * mm.fin.getD j 0=_
 rw [h.fin j hj]
 rfl
end
end Go.AL

set_option linter.unusedVariables false
set_option linter.unusedSimpArgs false
namespace Go.AL
open Go Go.BigFrame
section
variable {n:Nat} {rs:List SRow} {C:List (List Rat)} {w t:List Rat}
structure ByOK (n:Nat) (rs:List SRow) (C:List (List Rat)):Prop where
 len:rs.length=C.length
 cl:∀ r,r ∈ rs→r.c.length≤C.length
 eq:∀ r,r ∈ rs→∀ i,i < n→r.v.getD i 0=sumN (fun j=>r.c.getD j 0 * (C.getD j []).getD i 0) C.length
theorem ByOK.nil:ByOK n [] []:=⟨rfl,fun _ h=>(by cases h),fun _ h=>(by cases h)⟩
theorem addC_get {f:Rat} {c:List Rat} {j:Nat} (hj:j < t.length):(addC t f c).getD j 0=t.getD j 0+f * c.getD j 0:=map_getD_range _ _ hj
theorem red_taken (N:Nat) (i:Nat) (b:Nat→Rat):∀ (rs:List SRow) (w t:List Rat),i < w.length→t.length=N→(∀ r,r ∈ rs→r.v.getD i 0=sumN (fun j=>r.c.getD j 0 * b j) N) →
  (redV rs w).getD i 0+sumN (fun j=>(redC rs w t).getD j 0 * b j) N=w.getD i 0+sumN (fun j=>t.getD j 0 * b j) N
 | [],w,t,_,_,_=>rfl
 | r :: rs, w, t, hi, ht, h => by
  show (redV rs (redStep w r)).getD i 0+sumN (fun j=>(redC rs (redStep w r) (addC t (qotR w r) r.c)).getD j 0 * b j) N=_
  rw [red_taken N i b rs (redStep w r) (addC t (qotR w r) r.c) (by rw [redStep_len];exact hi) (by rw [addC_len];exact ht) fun r hr=>h r (List.mem_cons_of_mem _ hr),redStep_get hi]
  have e:sumN (fun j=>(addC t (qotR w r) r.c).getD j 0 * b j) N=sumN (fun j=>t.getD j 0 * b j) N+qotR w r * sumN (fun j=>r.c.getD j 0 * b j) N:=by
   rw [← sumN_mulL,← sumN_add]
   refine sumN_congr fun j hj=>?_
   rw [addC_get (by rw [ht];exact hj),Rat.add_mul,Rat.mul_assoc]
  rw [e,← h r (List.mem_cons_self ..),Rat.sub_eq_add_neg,Rat.add_assoc,Rat.add_comm (sumN (fun j=>t.getD j 0 * b j) N),← Rat.add_assoc (-(qotR w r * r.v.getD i 0)),Rat.neg_add_cancel,Rat.zero_add]
theorem ByOK.taken (h:ByOK n rs C) (hw:w.length=n) {i:Nat} (hi:i < n):w.getD i 0=(redV rs w).getD i 0+sumN (fun j=>(takenS rs w).getD j 0 * (C.getD j []).getD i 0) C.length:=by
 have e:=red_taken C.length i (fun j=>(C.getD j []).getD i 0) rs w (List.replicate rs.length 0) (by rw [hw];exact hi) (by rw [List.length_replicate];exact h.len) fun r hr=>h.eq r hr i hi
 have z:sumN (fun j=>(List.replicate rs.length (0:Rat)).getD j 0 * (C.getD j []).getD i 0) C.length=0:=sumN_zero fun j _=>by rw [rep_zero,Rat.zero_mul]
 rw [z,Rat.add_zero] at e
 exact e.symm
theorem ByOK.grow (h:ByOK n rs C) (hw:w.length=n):ByOK n (rs ++ [newR rs w]) (C ++ [w]):=by
 have hl:=h.len
 refine ⟨by rw [List.length_append,List.length_append,h.len];rfl,fun r hr=>?_,fun r hr i hi=>?_⟩
 ·rw [List.length_append,List.length_singleton]
  rcases List.mem_append.1 hr with hr | hr
  ·have:=h.cl r hr;omega
  ·rw [List.mem_singleton.1 hr]
   show (byS rs w).length≤_
   rw [byS_len];omega
 ·rw [List.length_append, List.length_singleton]
  have low:∀ j,j < C.length→(C ++ [w]).getD j []=C.getD j []:=fun j hj=>by
   rw [List.getD_eq_getElem?_getD,List.getElem?_append_left hj,List.getD_eq_getElem?_getD]
  have top:(C ++ [w]).getD C.length []=w:=by
   rw [List.getD_eq_getElem?_getD,List.getElem?_append_right (Nat.le_refl _),Nat.sub_self];rfl
  show r.v.getD i 0=sumN (fun j=>r.c.getD j 0 * ((C ++ [w]).getD j []).getD i 0) C.length+r.c.getD C.length 0 * ((C ++ [w]).getD C.length []).getD i 0
  rw [top,sumN_congr (g:=fun j=>r.c.getD j 0 * (C.getD j []).getD i 0) fun j hj=>by rw [low j hj]]
  rcases List.mem_append.1 hr with hr | hr
  ·have hc:=h.cl r hr
   rw [← h.eq r hr i hi,show r.c.getD C.length 0=0 by rw [List.getD_eq_getElem?_getD,List.getElem?_eq_none hc];rfl,Rat.zero_mul,Rat.add_zero]
  ·rw [List.mem_singleton.1 hr]
   show (redV rs w).getD i 0=sumN (fun j=>(byS rs w).getD j 0 * (C.getD j []).getD i 0) C.length+(byS rs w).getD C.length 0 * w.getD i 0
   rw [← hl,byS_last,Rat.one_mul,sumN_congr (g:=fun j=>-((takenS rs w).getD j 0) * (C.getD j []).getD i 0) fun j hj=>by rw [byS_get hj]]
   have e:=h.taken hw hi
   rw [← hl] at e
   have en:sumN (fun j=>-((takenS rs w).getD j 0) * (C.getD j []).getD i 0) rs.length = -(sumN (fun j=>(takenS rs w).getD j 0 * (C.getD j []).getD i 0) rs.length):=by
    have:sumN (fun j=>-((takenS rs w).getD j 0) * (C.getD j []).getD i 0) rs.length=(-1) * sumN (fun j=>(takenS rs w).getD j 0 * (C.getD j []).getD i 0) rs.length:=by
     rw [← sumN_mulL]
     exact sumN_congr fun j _=>by rw [Rat.neg_mul,Rat.neg_mul,Rat.one_mul]
    rw [this,Rat.neg_mul,Rat.one_mul]
   rw [en,e,Rat.add_comm ((redV rs w).getD i 0),← Rat.add_assoc,Rat.neg_add_cancel,Rat.zero_add]
end
end Go.AL

set_option linter.unusedVariables false
set_option linter.unusedSimpArgs false
namespace Go.AL
open Go Go.BigFrame
section
variable {m:Mach} {B B':Nat} {y y':KSt} {u w:List Int}
theorem slx_of_le (h:slx u w≤0) (hne:u≠w):slx u w < 0:=by
 rcases Int.lt_or_le (slx u w) 0 with g | g
 ·exact g
 ·exact absurd (slx_zero (Int.le_antisymm h g)) hne
theorem InvS.mem_of (h:InvS m B [] y) (h':InvS m B' [] y') (hu:u ∈ y.ks):u ∈ y'.ks:=by
 refine Decidable.byContradiction fun hn=>?_
 obtain ⟨V,j,_⟩:=h.join
 obtain ⟨V',j',_⟩:=h'.join
 have s1:=j'.bfs.reach u (h.inW u hu) fun q hq=>by cases hq
 have s2:SpanV m.n ((y.ks.filter fun k=>decide (k≠u)).map (vecM m)) (vf (vecM m u)):=s1.trans fun b hb=>by
  obtain ⟨k,hk,rfl⟩:=List.mem_map.1 hb
  obtain ⟨hk1,hk2⟩:=upTo_mem.1 hk
  have hlt:slx k u < 0:=slx_of_le hk2 fun e=>hn (e ▸ hk1)
  refine (j.bfs.reach k (h'.inW k hk1) fun q hq=>by cases hq).mono fun b hb=>?_
  obtain ⟨z,hz,rfl⟩:=List.mem_map.1 hb
  obtain ⟨hz1,hz2⟩:=upTo_mem.1 hz
  refine List.mem_map.2 ⟨z,List.mem_filter.2 ⟨hz1,decide_eq_true fun e=>?_⟩,rfl⟩
  rw [e] at hz2
  have:=slx_neg k u
  omega
 have s3:∀ r,r ∈ y.rs→SpanV m.n ((y.ks.filter fun k=>decide (k≠u)).map (vecM m)) (vf r.v):=fun r hr=>(j.rows r hr).trans fun b hb=>by
  obtain ⟨k,hk,rfl⟩:=List.mem_map.1 hb
  by_cases e:k=u
  ·rw [e];exact s2
  ·exact .mem (List.mem_map.2 ⟨k,List.mem_filter.2 ⟨hk,decide_eq_true e⟩,rfl⟩)
 have l:=span_len _ y.rs j.ech s3
 rw [List.length_map] at l
 have l2:(y.ks.filter fun k=>decide (k≠u)).length < y.ks.length:=List.length_filter_lt_length_iff_exists.2 ⟨u,hu,by simp⟩
 have:=j.len
 omega
theorem sorted_eq:∀ {a b:List (List Int)},a.Pairwise (fun a b=>slx a b < 0)→b.Pairwise (fun a b=>slx a b < 0)→(∀ u,u ∈ a ↔ u ∈ b)→a=b
 | [],[],_,_,_=>rfl
 | [],x :: b,_,_,h=>absurd ((h x).2 (List.mem_cons_self ..)) (by simp)
 | x :: a,[],_,_,h=>absurd ((h x).1 (List.mem_cons_self ..)) (by simp)
 | x :: a, y :: b, ha, hb, h => by
  obtain ⟨a1,a2⟩:=List.pairwise_cons.1 ha
  obtain ⟨b1,b2⟩:=List.pairwise_cons.1 hb
  have e:x=y:=by
   refine Decidable.byContradiction fun hne=>?_
   have h1:=(List.mem_cons.1 ((h x).1 (List.mem_cons_self ..))).resolve_left hne
   have h2:=(List.mem_cons.1 ((h y).2 (List.mem_cons_self ..))).resolve_left fun e=>hne e.symm
   have:=a1 y h2
   have:=b1 x h1
   have:=slx_neg x y
   omega
  subst e
  rw [sorted_eq a2 b2 fun u=>⟨fun hu=>?_,fun hu=>?_⟩]
  ·rcases List.mem_cons.1 ((h u).1 (List.mem_cons_of_mem _ hu)) with e | g
   ·have:=a1 u hu
    rw [e,slx_self] at this
    exact absurd this (by decide)
   ·exact g
  ·rcases List.mem_cons.1 ((h u).2 (List.mem_cons_of_mem _ hu)) with e | g
   ·have:=b1 u hu
    rw [e,slx_self] at this
    exact absurd this (by decide)
   ·exact g
theorem InvS.unique (h:InvS m B [] y) (h':InvS m B' [] y'):y.ks=y'.ks:=sorted_eq h.ord h'.ord fun u=>⟨h.mem_of h',h'.mem_of h⟩
open Classical in
noncomputable def basK (m:Mach):List (List Int):=if h:∃ (y:KSt) (B:Nat),InvS m B [] y then h.choose.ks else []
theorem InvS.bas (h:InvS m B [] y):y.ks=basK m:=by
 have hex:∃ (y:KSt) (B:Nat),InvS m B [] y:=⟨y,B,h⟩
 unfold basK
 rw [dif_pos hex]
 obtain ⟨B',h'⟩:=hex.choose_spec
 exact h.unique h'
theorem invS_search (ok:m.Ok) (n6:m.n≤6) (h1:1≤B) (hz:∀ w,InW m.k w→w.length≤6→∀ i,sz ((vecM m w).getD i 0)≤B):∀ (N:Nat) (Q:List (List Int)) (y:KSt),InvS m B Q y→leftM m Q y.rs≤N→∃ y,InvS m B [] y
 | N,[],y,h,_=>⟨y,h⟩
 | 0,w :: Q,y,h,hN=>by
  have:=left_drop (m:=m) (w:=w) (Q:=Q) (rs:=y.rs)
  omega
 | N + 1, w :: Q, y, h, hN => by
  have hw:InW m.k w:=by
   obtain ⟨V,j,_⟩:=h.join
   exact j.bfs.inW w (.inr (List.mem_cons_self ..))
  have h6:=h.b.six n6 w (List.mem_cons_self ..)
  obtain ⟨ht,hf⟩:=h.next ok h1 (hz w hw h6)
  cases hk:(keepB m w y).1 with
  | true=>exact invS_search ok n6 h1 hz N _ _ (ht hk).1 (by have:=(ht hk).2;omega)
  | false=>exact invS_search ok n6 h1 hz N _ _ (hf hk).1 (by have:=(hf hk).2;omega)
theorem invS_ex (ok:m.Ok) (n6:m.n≤6) (h1:1≤B) (hz:∀ w,InW m.k w→w.length≤6→∀ i,sz ((vecM m w).getD i 0)≤B):∃ y,InvS m B [] y∧y.ks=basK m:=by
 obtain ⟨y,h⟩:=invS_search ok n6 h1 hz _ _ _ (InvS.start m B) (Nat.le_refl _)
 exact ⟨y,h,h.bas⟩
end
section
variable {a:Au}
theorem Au.Fw.inv (f:a.Fw):∃ y,InvS (machL [a]) 16777215 [] y∧y.ks=basK (machL [a]) :=
 invS_ex f.mach.1 (by have:=f.few.st;have:=f.mach.2.2.2;omega) (by decide) fun w _ h6 i=>Nat.le_trans (vecM_sz f.mach.2.2.1 h6 i) (by decide)
end
end Go.AL
