/-
  M, chapter 24: the minimal realisation, as the code makes it.
-/
import Derived.Test.YtfbblpngcmjooaaGreatDoorKWkBA
set_option linter.unusedVariables false
set_option linter.unusedSimpArgs false
namespace Go.AL
open Go Go.BigFrame
noncomputable def coefN (m:Mach)(K:List (List Int))(i s:Nat):List Rat:=takenS (rowsB (K.map (viewM m (basK (turnM m))))) (viewM m (basK (turnM m)) (K.getD i []++[((s+1:Nat):Int)]))
noncomputable def arcJ (m:Mach)(K:List (List Int))(i s j:Nat):Arc9:=⟨i,s+1,j,(coefN m K i s).getD j 0⟩
noncomputable def arcS (m:Mach)(K:List (List Int))(i s:Nat):List Arc9:=(List.range K.length).map (arcJ m K i s)
noncomputable def arcI (m:Mach)(K:List (List Int))(i:Nat):List Arc9:=(List.range m.k).flatMap (arcS m K i)
noncomputable def arcN (m:Mach)(K:List (List Int)):List Arc9:=(List.range K.length).flatMap (arcI m K)
noncomputable def arcX (m:Mach)(K:List (List Int))(i:Nat):List Arc9:=(List.range i).flatMap (arcI m K)
noncomputable def arcY (m:Mach)(K:List (List Int))(i s:Nat):List Arc9:=arcX m K i++(List.range s).flatMap (arcS m K i)
noncomputable def arcZ (m:Mach)(K:List (List Int))(i s j:Nat):List Arc9:=arcY m K i s++(List.range j).map (arcJ m K i s)
def iniN (n:Nat):List Rat:=(List.range n).map fun i=>if i=0 then 1 else 0
section
variable {m:Mach}{K:List (List Int)}{i s j n B e:Nat}{u:List Int}{rs:List SRow}
theorem flat_succ {α:Type}(f:Nat→List α)(k:Nat):(List.range (k+1)).flatMap f=(List.range k).flatMap f++f k:=by
 rw [List.range_succ,List.flatMap_append,List.flatMap_cons,List.flatMap_nil,List.append_nil]
theorem arcZ_succ:arcZ m K i s (j+1)=arcZ m K i s j++[arcJ m K i s j]:=by
 unfold arcZ
 rw [List.range_succ,List.map_append,← List.append_assoc];rfl
theorem arcZ_zero:arcZ m K i s 0=arcY m K i s:=List.append_nil _
theorem arcZ_all:arcZ m K i s K.length=arcY m K i (s+1):=by
 unfold arcZ arcY
 rw [flat_succ,← List.append_assoc];rfl
theorem arcY_zero:arcY m K i 0=arcX m K i:=List.append_nil _
theorem arcY_all:arcY m K i m.k=arcX m K (i+1):=by
 unfold arcY arcX
 rw [flat_succ];rfl
theorem arcX_all:arcX m K K.length=arcN m K:=rfl
theorem iniN_len:(iniN n).length=n:=by simp [iniN]
theorem arcN_mem {x:Arc9}:x ∈ arcN m K ↔ ∃ i,i<K.length∧∃ s,s<m.k∧∃ j,j<K.length∧x=arcJ m K i s j:=by
 unfold arcN
 rw [List.mem_flatMap]
 constructor
 ·rintro ⟨i,hi,h⟩
  obtain ⟨s,hs,h⟩:=List.mem_flatMap.1 h
  obtain ⟨j,hj,rfl⟩:=List.mem_map.1 h
  exact ⟨i,List.mem_range.1 hi,s,List.mem_range.1 hs,j,List.mem_range.1 hj,rfl⟩
 ·rintro ⟨i,hi,s,hs,j,hj,rfl⟩
  exact ⟨i,List.mem_range.2 hi,List.mem_flatMap.2 ⟨s,List.mem_range.2 hs,List.mem_map.2 ⟨j,List.mem_range.2 hj,rfl⟩⟩⟩
theorem flat_len {α:Type}{f:Nat→List α}{c:Nat}(h:∀ i,(f i).length=c):∀ k,((List.range k).flatMap f).length=k*c
 | 0=>by rw [Nat.zero_mul];rfl
 | k+1=>by rw [flat_succ,la9,flat_len h k,h,Nat.succ_mul]
theorem arcS_len:(arcS m K i s).length=K.length:=by simp [arcS]
theorem arcI_len:(arcI m K i).length=m.k*K.length:=flat_len (fun _=>arcS_len) m.k
theorem arcX_len:(arcX m K i).length=i*(m.k*K.length):=flat_len (fun _=>arcI_len) i
theorem arcY_len:(arcY m K i s).length=i*(m.k*K.length)+s*K.length:=by
 unfold arcY
 rw [la9,arcX_len,flat_len (fun _=>arcS_len)]
theorem arcZ_len:(arcZ m K i s j).length=i*(m.k*K.length)+s*K.length+j:=by
 unfold arcZ
 rw [la9,arcY_len,lm9,List.length_range]
theorem view_sz3 {L:List (List Int)}(z:m.Sz e)(hu:u.length≤3)(hL:∀ l,l ∈ L→l.length≤3)(i:Nat):sz ((viewM m L u).getD i 0)≤201700:=by
 have bound:∀ {m:Mach},m.Sz e→∀ {w:List Int},w.length≤3→∀ i,sz ((vecM m w).getD i 0)≤16807:=fun {m} z {w} hw i=>by
  have h:=vecM_szE z w.length w rfl i
  have h1:7 ^ w.length≤343:=Nat.pow_le_pow_right (n:=7) (by decide) hw
  have h2:7 ^ w.length*(2*e+1)≤343*49:=Nat.mul_le_mul h1 (by have:=z.e24;omega)
  omega
 rcases Nat.lt_or_ge i L.length with hi|hi
 ·rw [view_get hi]
  have h:=dot_sz (n:=m.n) z.n6 (bound z hu) (bound z.turn (hL _ (getD_mem hi [])))
  exact Nat.le_trans h (by omega)
 ·rw [getD_outQ (by rw [view_len];exact hi),sz_zero];decide
theorem taken_sz {w:List Rat}(h:SzR B rs)(h1:1≤B)(hw:∀ i,sz (w.getD i 0)≤B)(i:Nat):sz ((takenS rs w).getD i 0)+1≤4 ^ rs.length*(B+1):=h.redC h1 hw rs.length i
theorem coefN_len:(coefN m K i s).length=(rowsB (K.map (viewM m (basK (turnM m))))).length:=takenS_len _ _
theorem coefN_sz (z:m.Sz e)(hL:∀ l,l ∈ basK (turnM m)→l.length≤3)(hK:∀ u,u ∈ K→u.length≤2)(h3:K.length≤3)(hr:(rowsB (K.map (viewM m (basK (turnM m))))).length≤3)(i s j:Nat):sz ((coefN m K i s).getD j 0)≤134217728:=by
 have hv:∀ v,v ∈ K.map (viewM m (basK (turnM m)))→∀ i,sz (v.getD i 0)≤201700:=fun v hv i=>by
  obtain ⟨u,hu,rfl⟩:=List.mem_map.1 hv
  exact view_sz3 z (Nat.le_succ_of_le (hK u hu)) hL i
 obtain ⟨sp,_,_⟩:=rowsB_ok (n:=(basK (turnM m)).length) (B:=201700) (by decide) (K.map (viewM m (basK (turnM m)))) (fun v hv=>by obtain ⟨u,_,rfl⟩:=List.mem_map.1 hv;exact view_len) hv
 have hki:(K.getD i []).length≤2:=by
  rcases Nat.lt_or_ge i K.length with hi|hi
  ·exact hK _ (getD_mem hi [])
  ·rw [gd9,List.getElem?_eq_none hi];exact Nat.zero_le _
 have h:=taken_sz sp.sz (by decide) (w:=viewM m (basK (turnM m)) (K.getD i []++[((s+1:Nat):Int)])) (fun q=>view_sz3 z (by rw [la9,ls9];omega) hL q) j
 have h4:=Nat.pow_le_pow_right (n:=4) (by decide) hr
 have h5:=Nat.mul_le_mul_right (201700+1) h4
 unfold coefN
 omega
theorem ent_arcN (hs:s<m.k)(hi:i<K.length)(hj:j<K.length):entA (arcN m K) s i j=(coefN m K i s).getD j 0:=by
 have key:∀ (g:Nat→List Arc9) (N:Nat) (t:Nat),(∀ x,x<N→x≠t→entA (g x) s i j=0)→t<N→entA ((List.range N).flatMap g) s i j=entA (g t) s i j:=by
  intro g N t h0 ht
  have low:∀ q,q≤N→entA ((List.range q).flatMap g) s i j=if t<q then entA (g t) s i j else 0:=by
   intro q
   induction q with
   | zero=>intro _;rw [if_neg (Nat.not_lt_zero _)];rfl
   | succ q ih =>
    intro hq
    rw [flat_succ,entA_app,ih (by omega)]
    by_cases e:q=t
    ·subst e
     rw [if_neg (Nat.lt_irrefl _),if_pos (Nat.lt_succ_self _),Rat.zero_add]
    ·rw [h0 q (by omega) e,Rat.add_zero]
     by_cases hlt:t<q
     ·rw [if_pos hlt,if_pos (by omega)]
     ·rw [if_neg hlt,if_neg (by omega)]
  rw [low N (Nat.le_refl _),if_pos ht]
 unfold arcN
 rw [key (arcI m K) K.length i (fun x _ hx=>?_) hi]
 ·unfold arcI
  rw [key (arcS m K i) m.k s (fun x _ hx=>?_) hs]
  ·have e:arcS m K i s=(List.range K.length).flatMap fun j=>[arcJ m K i s j]:=by
    unfold arcS
    induction K.length with
    | zero=>rfl
    | succ q ih=>rw [List.range_succ,List.map_append,List.flatMap_append,ih];rfl
   rw [e,key (fun j=>[arcJ m K i s j]) K.length j (fun x _ hx=>?_) hj]
   ·rw [entA_cons,entA_nil,Rat.add_zero]
    exact if_pos ⟨rfl,rfl,rfl⟩
   ·rw [entA_cons,entA_nil,Rat.add_zero]
    exact if_neg fun h=>hx h.2.2
  ·refine lsumZ fun y hy=>if_neg fun h=>?_
   obtain ⟨q,_,rfl⟩:=List.mem_map.1 hy
   have:x+1=s+1:=h.2.1
   omega
 ·refine lsumZ fun y hy=>if_neg fun h=>?_
  obtain ⟨q,_,hy⟩:=List.mem_flatMap.1 hy
  obtain ⟨p,_,rfl⟩:=List.mem_map.1 hy
  exact hx h.1
end
noncomputable def minR (a:Au):Au:=⟨a.sym,(preM (machL [a])).length,iniN (preM (machL [a])).length,(preM (machL [a])).map (serA a),arcN (machL [a]) (preM (machL [a]))⟩
section
variable {a:Au}
theorem minR_ok (h:1≤a.sym):(minR a).Ok :=
 ⟨h,iniN_len,lm9 ..,fun x hx=>by
  obtain ⟨i,hi,s,hs,j,hj,rfl⟩:=arcN_mem.1 hx
  rw [show (machL [a]).k=a.sym from k_one] at hs
  exact ⟨hi,hj,Nat.succ_le_succ (Nat.zero_le _),hs⟩⟩
end
end Go.AL
