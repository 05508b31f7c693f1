/-
  M, chapter 33: silent states passed through: what is left does not depend on the order in which they are taken.
-/
import Derived.Test.YteiohkpjgcioaaaGreatDoorKHxA
import Derived.Test.YteiohkpjgcioaaaGreatDoorKWkB
import Derived.Test.YteiohkpjgcioaaaGreatDoorKMod78
import Derived.Test.YteiohkpjgcioaaaGreatDoorKNum12
set_option linter.unusedVariables false
set_option linter.unusedSimpArgs false
namespace Go.AL
open Go Go.BigFrame
section
variable {g:HM}{p:Rat}{f i k s c:Nat}{e w:List Rat}
def rowHA (g:HM)(f:Nat):List Rat:=if f=0 then g.ini else g.trans.getD (f-1) []
def arE (p:Rat)(f i:Nat)(e:List Rat)(k:Nat):List Arc9:=(List.range k).flatMap fun s=>if 0<p*e.getD s 0 then [⟨f,s+1,i+1,p*e.getD s 0⟩] else []
def arI (g:HM)(f k:Nat):List Arc9:=(List.range k).flatMap fun i=>arE ((rowHA g f).getD i 0) f i (g.emit.getD i []) (g.emit.getD i []).length
def arF (g:HM)(k:Nat):List Arc9:=(List.range k).flatMap fun f=>arI g f (rowHA g f).length
def autoHM (g:HM):Au:=⟨g.sym,g.st+1,1::List.replicate g.st 0,g.empty::g.stop,arF g (g.st+1)⟩
theorem arE_succ:arE p f i e (k+1)=arE p f i e k++if 0<p*e.getD k 0 then [⟨f,k+1,i+1,p*e.getD k 0⟩] else []:=by
 unfold arE;rw [List.range_succ,List.flatMap_append];simp
theorem arI_succ:arI g f (k+1)=arI g f k++arE ((rowHA g f).getD k 0) f k (g.emit.getD k []) (g.emit.getD k []).length:=by
 unfold arI;rw [List.range_succ,List.flatMap_append];simp
theorem arF_succ:arF g (k+1)=arF g k++arI g k (rowHA g k).length:=by
 unfold arF;rw [List.range_succ,List.flatMap_append];simp
theorem arE_mem {x:Arc9}(h:x ∈ arE p f i e k):∃ s,s<k∧x=⟨f,s+1,i+1,p*e.getD s 0⟩ ∧ 0<p*e.getD s 0:=by
 obtain ⟨s,hs,hx⟩:=List.mem_flatMap.1 h
 split at hx
 ·exact ⟨s,List.mem_range.1 hs,ms9 hx,by assumption⟩
 ·cases hx
theorem arI_mem {x:Arc9}(h:x ∈ arI g f k):∃ i,i<k∧∃ s,s<(g.emit.getD i []).length∧x=⟨f,s+1,i+1,(rowHA g f).getD i 0*emQ g i s⟩:=by
 obtain ⟨i,hi,hx⟩:=List.mem_flatMap.1 h
 obtain ⟨s,hs,e,_⟩:=arE_mem hx
 exact ⟨i,List.mem_range.1 hi,s,hs,e⟩
theorem arF_mem {x:Arc9}(h:x ∈ arF g k):∃ f,f<k∧∃ i,i<(rowHA g f).length∧∃ s,s<(g.emit.getD i []).length∧x=⟨f,s+1,i+1,(rowHA g f).getD i 0*emQ g i s⟩:=by
 obtain ⟨f,hf,hx⟩:=List.mem_flatMap.1 h
 obtain ⟨i,hi,s,hs,e⟩:=arI_mem hx
 exact ⟨f,List.mem_range.1 hf,i,hi,s,hs,e⟩
theorem arE_len:(arE p f i e k).length≤k:=by
 induction k with
 | zero=>exact Nat.le_refl _
 | succ k ih =>
  rw [arE_succ,la9]
  have:(if 0<p*e.getD k 0 then [(⟨f,k+1,i+1,p*e.getD k 0⟩:Arc9)] else []).length≤1:=by split <;> simp
  omega
theorem arI_len {m:Nat}(hm:∀ i,i<k→(g.emit.getD i []).length≤m):(arI g f k).length≤k*m:=by
 induction k with
 | zero=>simp [arI]
 | succ k ih =>
  rw [arI_succ,la9,Nat.succ_mul]
  have h1:=ih fun i hi=>hm i (by omega)
  have h2:=arE_len (p:=(rowHA g f).getD k 0) (f:=f) (i:=k) (e:=g.emit.getD k []) (k:=(g.emit.getD k []).length)
  have h3:=hm k (Nat.lt_succ_self k)
  omega
theorem arF_len {m n:Nat}(hn:∀ f,f<k→(rowHA g f).length≤n)(hm:∀ i,(g.emit.getD i []).length≤m):(arF g k).length≤k*(n*m):=by
 induction k with
 | zero=>simp [arF]
 | succ k ih =>
  rw [arF_succ,la9,Nat.succ_mul]
  have h1:=ih fun i hi=>hn i (by omega)
  have h2:=arI_len (g:=g) (f:=k) (k:=(rowHA g k).length) (m:=m) fun i _=>hm i
  have h3:=Nat.mul_le_mul_right m (hn k (Nat.lt_succ_self k))
  omega
theorem entE (hp:0≤p)(he:∀ s,0≤e.getD s 0){F C S:Nat}:entA (arE p f i e k) S F C=if f=F∧i+1=C∧S<k then p*e.getD S 0 else 0:=by
 induction k with
 | zero=>rw [if_neg (by omega)];rfl
 | succ k ih =>
  rw [arE_succ,entA_app,ih]
  have h1:entA (if 0<p*e.getD k 0 then [(⟨f,k+1,i+1,p*e.getD k 0⟩:Arc9)] else []) S F C=if f=F∧k=S∧i+1=C then p*e.getD k 0 else 0:=by
   by_cases h:0<p*e.getD k 0
   ·rw [if_pos h]
    show (if f=F∧k+1=S+1∧i+1=C then p*e.getD k 0 else 0)+0=_
    rw [Rat.add_zero]
    by_cases h2:f=F∧k=S∧i+1=C
    ·rw [if_pos h2,if_pos ⟨h2.1,by omega,h2.2.2⟩]
    ·rw [if_neg h2,if_neg (fun q=>h2 ⟨q.1,by omega,q.2.2⟩)]
   ·rw [if_neg h]
    have h0:p*e.getD k 0=0:=Rat.le_antisymm (Rat.not_lt.1 h) (Rat.mul_nonneg hp (he k))
    rw [h0]
    split <;> rfl
  rw [h1]
  by_cases h2:f=F∧i+1=C
  ·by_cases h3:k=S
   ·rw [if_neg (by omega),if_pos ⟨h2.1,h3,h2.2⟩,if_pos ⟨h2.1,h2.2,by omega⟩,h3,Rat.zero_add]
   ·by_cases h4:S<k
    ·rw [if_pos ⟨h2.1,h2.2,h4⟩,if_neg (by omega),if_pos ⟨h2.1,h2.2,by omega⟩,Rat.add_zero]
    ·rw [if_neg (by omega),if_neg (by omega),if_neg (by omega),Rat.add_zero]
  ·rw [if_neg (fun q=>h2 ⟨q.1,q.2.1⟩),if_neg (fun q=>h2 ⟨q.1,q.2.2⟩),if_neg (fun q=>h2 ⟨q.1,q.2.1⟩),Rat.add_zero]
theorem rowHA_share {b B:Nat}(h:HM.GoodX b B g)(f:Nat):Shares (rowHA g f):=by
 unfold rowHA
 split
 ·exact h.pI
 ·exact h.pT _
theorem rowHA_len {b B:Nat}(h:HM.FormX b B g)(hf:f≤g.st):(rowHA g f).length=g.st:=by
 unfold rowHA
 split
 ·exact h.ini
 ·exact h.trow _ (by omega)
theorem entI {b B:Nat}(h:HM.GoodX b B g){F C S:Nat}(hk:k≤g.st):entA (arI g f k) S F C=if f=F∧1≤C∧C≤k∧S<g.sym then (rowHA g f).getD (C-1) 0*emQ g (C-1) S else 0:=by
 induction k with
 | zero=>rw [if_neg (by omega)];rfl
 | succ k ih =>
  rw [arI_succ,entA_app,ih (by omega),entE ((rowHA_share h f).get k).1 fun s=>((h.pM k).get s).1,h.form.erow k (by omega)]
  by_cases h1:f=F∧S<g.sym
  ·by_cases h2:k+1=C
   ·subst h2
    rw [if_neg (by omega),if_pos ⟨h1.1,rfl,h1.2⟩,if_pos ⟨h1.1,by omega,by omega,h1.2⟩,Rat.zero_add,Nat.add_sub_cancel];rfl
   ·by_cases h3:1≤C∧C≤k
    ·rw [if_pos ⟨h1.1,h3.1,h3.2,h1.2⟩,if_neg (by omega),if_pos ⟨h1.1,h3.1,by omega,h1.2⟩,Rat.add_zero]
    ·rw [if_neg (by omega),if_neg (by omega),if_neg (by omega),Rat.add_zero]
  ·rw [if_neg (fun q=>h1 ⟨q.1,q.2.2.2⟩),if_neg (fun q=>h1 ⟨q.1,q.2.2⟩),if_neg (fun q=>h1 ⟨q.1,q.2.2.2⟩),Rat.add_zero]
theorem entF {b B:Nat}(h:HM.GoodX b B g){F C S:Nat}(hk:k≤g.st+1):entA (arF g k) S F C=if F<k∧1≤C∧C≤g.st∧S<g.sym then (rowHA g F).getD (C-1) 0*emQ g (C-1) S else 0:=by
 induction k with
 | zero=>rw [if_neg (by omega)];rfl
 | succ k ih =>
  rw [arF_succ,entA_app,ih (by omega),rowHA_len h.form (by omega),entI h (Nat.le_refl _)]
  by_cases h1:1≤C∧C≤g.st∧S<g.sym
  ·by_cases h2:k=F
   ·subst h2
    rw [if_neg (by omega),if_pos ⟨rfl,h1⟩,if_pos ⟨by omega,h1⟩,Rat.zero_add]
   ·by_cases h3:F<k
    ·rw [if_pos ⟨h3,h1⟩,if_neg (by omega),if_pos ⟨by omega,h1⟩,Rat.add_zero]
    ·rw [if_neg (by omega),if_neg (by omega),if_neg (by omega),Rat.add_zero]
  ·rw [if_neg (fun q=>h1 q.2),if_neg (fun q=>h1 q.2),if_neg (fun q=>h1 q.2),Rat.add_zero]
theorem autoHM_ok {b B:Nat}(h:HM.GoodX b B g):(autoHM g).Ok :=
 ⟨h.form.sym0,by simp [autoHM],by simp [autoHM,h.form.stop],fun x hx=>by
  obtain ⟨f,hf,i,hi,s,hs,rfl⟩:=arF_mem hx
  have h1:=rowHA_len h.form (show f≤g.st by omega)
  rw [h.form.erow i (by omega)] at hs
  exact ⟨hf,by show i+1<g.st+1;omega,by show 1≤s+1;omega,hs⟩⟩
theorem entH {b B:Nat}(h:HM.GoodX b B g){S F C:Nat}(hS:S<g.sym)(hF:F≤g.st)(hC:C≤g.st):entM (machL [autoHM g]) S F C=if C=0 then 0 else (rowHA g F).getD (C-1) 0*emQ g (C-1) S:=by
 rw [machL_ent hS (by rw [size_one];show F<g.st+1;omega) (by rw [size_one];show C<g.st+1;omega)]
 show (if F<g.st+1 then if C<g.st+1 then entA (arF g (g.st+1)) S F C else 0 else _)=_
 rw [if_pos (by omega),if_pos (by omega),entF h (Nat.le_refl _)]
 by_cases e:C=0
 ·rw [if_pos e,if_neg (by omega)]
 ·rw [if_neg e,if_pos ⟨by omega,by omega,hC,hS⟩]
theorem fwd_pre {u v:List Int}:∀ {t:Nat},t<u.length→fwdF g (u++v) t=fwdF g u t
 | 0,h=>by
  unfold fwdF symX
  rw [show (u++v).getD 0 0=u.getD 0 0 by rw [gd9,List.getElem?_append_left h,← gd9]]
 | t + 1, h => by
  unfold fwdF
  rw [fwd_pre (t:=t) (by omega)]
  have:symX (u++v) (t+1)=symX u (t+1):=by
   unfold symX;rw [gd9,List.getElem?_append_left h,← gd9]
  unfold preF
  rw [this]
theorem vecH {b B:Nat}(h:HM.GoodX b B g):∀ {n:Nat} {u:List Int},u.length=n+1→InW g.sym u→(vecM (machL [autoHM g]) u).getD 0 0=0∧∀ j,j<g.st→(vecM (machL [autoHM g]) u).getD (j+1) 0=(fwdF g u n).getD j 0
 | 0, u, hu, hw => by
  obtain ⟨x,rfl⟩:=List.length_eq_one_iff.1 hu
  have hx:=hw x (by simp)
  have hN:(machL [autoHM g]).n=g.st+1:=size_one
  have hv:vecM (machL [autoHM g]) [x]=stepM (machL [autoHM g]) (autoHM g).ini (x.toNat-1):=by
   show stepM _ (machL [autoHM g]).ini _=_
   rw [show (machL [autoHM g]).ini=(autoHM g).ini by show (autoHM g).ini++[]=_;rw [List.append_nil]]
  have key:∀ c,c≤g.st→(vecM (machL [autoHM g]) [x]).getD c 0=if c=0 then 0 else (rowHA g 0).getD (c-1) 0*emQ g (c-1) (x.toNat-1):=fun c hc=>by
   rw [hv,stepM_vf (by rw [hN];omega),hN,← sumN_front]
   rw [entH h (by omega) (by omega) hc,sumN_zero,Rat.add_zero]
   ·show (1:Rat)*_=_
    rw [Rat.one_mul]
   ·intro i hi
    show ((1:Rat)::List.replicate g.st 0).getD (i+1) 0*_=0
    rw [List.getD_cons_succ,gd9,List.getElem?_replicate]
    split <;> exact Rat.zero_mul _
  refine ⟨by rw [key 0 (by omega),if_pos rfl],fun j hj=>?_⟩
  rw [key (j+1) hj,if_neg (by omega),Nat.add_sub_cancel,fwdF,map_getD_range _ _ hj]
  rfl
 | n + 1, u, hu, hw => by
  have hne:u≠[]:=fun e=>by subst e;cases hu
  obtain ⟨y,x,rfl⟩:∃ y x,u=y++[x]:=⟨u.dropLast,u.getLast hne,(List.dropLast_concat_getLast hne).symm⟩
  have hx:=hw x (by simp)
  have hy:y.length=n+1:=by rw [la9,ls9] at hu;omega
  obtain ⟨h1,h2⟩:=vecH h hy fun z hz=>hw z (List.mem_append.2 (.inl hz))
  have hN:(machL [autoHM g]).n=g.st+1:=size_one
  have key:∀ c,c≤g.st→(vecM (machL [autoHM g]) (y++[x])).getD c 0=if c=0 then 0 else sumN (fun i=>(fwdF g y n).getD i 0*trQ g i (c-1)) g.st*emQ g (c-1) (x.toNat-1):=fun c hc=>by
   rw [vecM_snoc,stepM_vf (by rw [hN];omega),hN,← sumN_front,h1,Rat.zero_mul,Rat.zero_add]
   by_cases e:c=0
   ·rw [if_pos e]
    refine sumN_zero fun i hi=>?_
    rw [entH h (by omega) (by omega) hc,if_pos e,Rat.mul_zero]
   ·rw [if_neg e,← sumN_mulR]
    refine sumN_congr fun i hi=>?_
    rw [entH h (by omega) (by omega) hc,if_neg e,h2 i hi,← Rat.mul_assoc]
    unfold rowHA
    rw [if_neg (by omega),Nat.add_sub_cancel];rfl
  refine ⟨by rw [key 0 (by omega),if_pos rfl],fun j hj=>?_⟩
  rw [key (j+1) hj,if_neg (by omega),Nat.add_sub_cancel,fwdF,map_getD_range _ _ hj]
  unfold preF
  rw [fwd_pre (by omega)]
  congr 2
  unfold symX
  rw [gd9,← hy,List.getElem?_append_right (Nat.le_refl _),Nat.sub_self];rfl
theorem ser_lik {b B:Nat}(h:HM.GoodX b B g){u:List Int}(hw:InW g.sym u):serA (autoHM g) u=likF g u:=by
 have hN:(machL [autoHM g]).n=g.st+1:=size_one
 have hfin:∀ i,vf (machL [autoHM g]).fin i=(g.empty::g.stop).getD i 0:=fun i=>by
  show ((autoHM g).fin++[]).getD i 0=_
  rw [List.append_nil];rfl
 unfold serA wtM dotM likF
 rw [hN,← sumN_front]
 cases u with
 | nil =>
  rw [if_pos (show ([]:List Int).length=0 from rfl),sumN_zero,Rat.add_zero,hfin]
  ·show ((autoHM g).ini++[]).getD 0 0*g.empty=_
   show (1:Rat)*g.empty=_
   exact Rat.one_mul _
  ·intro i hi
   have:(vf (vecM (machL [autoHM g]) [])) (i+1)=0:=by
    show (((1:Rat)::List.replicate g.st 0)++[]).getD (i+1) 0=0
    rw [List.append_nil,List.getD_cons_succ,gd9,List.getElem?_replicate]
    split <;> rfl
   rw [this,Rat.zero_mul]
 | cons x r =>
  obtain ⟨h1,h2⟩:=vecH h (n:=r.length) (u:=x::r) rfl hw
  rw [if_neg (by simp),show vf (vecM (machL [autoHM g]) (x::r)) 0=0 from h1,Rat.zero_mul,Rat.zero_add]
  unfold likN
  refine sumN_congr fun i hi=>?_
  rw [show vf (vecM (machL [autoHM g]) (x::r)) (i+1)=_ from h2 i hi,hfin]
  rfl
end
section
variable {h:HM}{i j k n:Nat}{O u v:List Nat}{x y:List Rat × Rat}{φ ν:Nat→Rat}{c:Rat}
def thP (h:HM)(i:Nat)(l:List Rat)(p:Rat)(j:Nat):Rat:=l.getD j 0+p*trQ h i j
def thS (h:HM)(i:Nat)(x:List Rat × Rat):List Rat × Rat:=((List.range h.st).map (thP h i (x.1.set i 0) (x.1.getD i 0)),x.2+x.1.getD i 0*h.stop.getD i 0)
def thR (h:HM)(O:List Nat)(x:List Rat × Rat):List Rat × Rat:=O.foldl (fun x i=>thS h i x) x
theorem thR_snoc:thR h (O++[i]) x=thS h i (thR h O x):=by unfold thR;rw [List.foldl_append];rfl
theorem thS_len:(thS h i x).1.length=h.st:=by simp [thS]
theorem thR_len (hx:x.1.length=h.st):(thR h O x).1.length=h.st:=by
 rcases List.eq_nil_or_concat O with rfl|⟨u,i,rfl⟩
 ·exact hx
 ·rw [List.concat_eq_append,thR_snoc];exact thS_len
theorem set0_get {l:List Rat}:(l.set i 0).getD j 0=if j=i then 0 else l.getD j 0:=by
 rw [gd9,List.getElem?_set]
 by_cases e:i=j
 ·subst e
  rw [if_pos rfl,if_pos rfl]
  split <;> rfl
 ·rw [if_neg e,if_neg (fun h=>e h.symm),gd9]
theorem thS_get (hj:j<h.st):(thS h i x).1.getD j 0=(if j=i then 0 else x.1.getD j 0)+x.1.getD i 0*trQ h i j:=by
 show ((List.range h.st).map (thP h i (x.1.set i 0) (x.1.getD i 0))).getD j 0=_
 rw [map_getD_range _ _ hj]
 unfold thP
 rw [set0_get]
theorem thS_zero (hx:x.1.length=h.st)(h0:x.1.getD i 0=0):thS h i x=x:=by
 unfold thS
 rw [h0,Rat.zero_mul,Rat.add_zero]
 have:((List.range h.st).map (thP h i (x.1.set i 0) 0))=x.1:=by
  rw [← hx]
  have e:(List.range x.1.length).map (thP h i (x.1.set i 0) 0)=(List.range x.1.length).map fun j=>x.1.getD j 0:=List.map_congr_left fun j hj=>by
   unfold thP
   rw [Rat.zero_mul,Rat.add_zero,set0_get]
   split
   ·rename_i e;rw [e,h0]
   ·rfl
  rw [e,map_getD_self]
 rw [this]
structure OrdS (h:HM) (O:List Nat):Prop where
 sil:∀ k,k ∈ O ↔ k<h.st∧h.silent.getD k false=true
 fwd:∀ u i v,O=u++i::v→∀ k,k ∈ u ∨ k=i→trQ h i k=0
 len:O.length≤h.st
def Worth (h:HM)(c:Rat)(φ:Nat→Rat)(i:Nat):Prop:=φ i=c*h.stop.getD i 0+sumN (fun j=>trQ h i j*φ j) h.st
def valT (h:HM)(c:Rat)(φ:Nat→Rat)(x:List Rat × Rat):Rat:=sumN (fun j=>x.1.getD j 0*φ j) h.st+c*x.2
theorem sumN_one {f:Nat→Rat}(hi:i<n):sumN f n=f i+sumN (fun j=>if j=i then 0 else f j) n:=by
 have e:sumN f n=sumN (fun j=>(if i=j then f j else 0)+if j=i then 0 else f j) n:=sumN_congr fun j _=>by
  by_cases e:i=j
  ·subst e;rw [if_pos rfl,if_pos rfl,Rat.add_zero]
  ·rw [if_neg e,if_neg (fun h=>e h.symm),Rat.zero_add]
 rw [e,sumN_add,sumN_pick hi]
theorem thS_val (hi:i<h.st)(hw:Worth h c φ i):valT h c φ (thS h i x)=valT h c φ x:=by
 unfold valT
 have e:sumN (fun j=>(thS h i x).1.getD j 0*φ j) h.st=sumN (fun j=>(if j=i then 0 else x.1.getD j 0*φ j)+x.1.getD i 0*(trQ h i j*φ j)) h.st:=sumN_congr fun j hj=>by
  rw [thS_get hj,Rat.add_mul,Rat.mul_assoc]
  congr 1
  split
  ·rw [Rat.zero_mul]
  ·rfl
 rw [e,sumN_add,sumN_mulL,sumN_one (f:=fun j=>x.1.getD j 0*φ j) hi]
 show sumN _ h.st+x.1.getD i 0*sumN (fun j=>trQ h i j*φ j) h.st+c*(x.2+x.1.getD i 0*h.stop.getD i 0)=x.1.getD i 0*φ i+sumN (fun j=>if j=i then 0 else x.1.getD j 0*φ j) h.st+c*x.2
 rw [hw]
 generalize sumN (fun j=>if j=i then 0 else x.1.getD j 0*φ j) h.st=S
 generalize sumN (fun j=>trQ h i j*φ j) h.st=T
 grind
theorem thR_val (hO:∀ k,k ∈ O→k<h.st∧Worth h c φ k):valT h c φ (thR h O x)=valT h c φ x:=by
 induction O generalizing x with
 | nil=>rfl
 | cons i O ih =>
  show valT h c φ (thR h O (thS h i x))=_
  rw [ih (fun k hk=>hO k (List.mem_cons_of_mem _ hk))]
  obtain ⟨h1,h2⟩:=hO i mc9
  exact thS_val h1 h2
theorem thR_none (o:OrdS h O)(x:List Rat × Rat):∀ n,n≤O.length→∀ k,k ∈ O.take n→(thR h (O.take n) x).1.getD k 0=0
 | 0,_,k,hk=>by rw [List.take_zero] at hk;cases hk
 | n + 1, hn, k, hk => by
  have ih:=thR_none o x n (by omega)
  have e:O.take (n+1)=O.take n++[O.getD n 0]:=take_succ_getD (by omega) 0
  have es:O=O.take n++O.getD n 0::O.drop (n+1):=by
   conv=>lhs;rw [← List.take_append_drop (n+1) O,e,List.append_assoc]
   rfl
  rw [e] at hk ⊢
  have hk2:k ∈ O.take n ∨ k=O.getD n 0:=(mp9 hk).imp id ms9
  have h0:=o.fwd _ _ _ es k hk2
  have hks:k<h.st:=by
   have:k ∈ O:=by
    rcases hk2 with h1|h1
    ·exact List.mem_of_mem_take h1
    ·rw [h1];exact getD_mem (by omega) 0
   exact ((o.sil k).1 this).1
  rw [thR_snoc,thS_get hks,h0,Rat.mul_zero,Rat.add_zero]
  split
  ·rfl
  ·rename_i hne
   rcases hk2 with h1|h1
   ·exact ih k h1
   ·exact absurd h1 hne
theorem thR_sil (o:OrdS h O)(x:List Rat × Rat)(hk:k<h.st)(hs:h.silent.getD k false=true):(thR h O x).1.getD k 0=0:=by
 have:=thR_none o x O.length (Nat.le_refl _) k (by rw [List.take_length];exact (o.sil k).2 ⟨hk,hs⟩)
 rwa [List.take_length] at this
theorem worth_ex (o:OrdS h O)(c:Rat)(ν:Nat→Rat):∃ φ:Nat→Rat,(∀ j,j<h.st→h.silent.getD j false=false→φ j=ν j)∧∀ k,k ∈ O→k<h.st∧Worth h c φ k:=by
 have key : ∀ (v u : List Nat), O = u ++ v → ∃ φ : Nat → Rat, (∀ j, j < h.st → h.silent.getD j false = false → φ j = ν j) ∧ ∀ k, k ∈ v → Worth h c φ k := fun v => by
  induction v with
  | nil=>exact fun u _=>⟨ν,fun _ _ _=>rfl,fun k hk=>by cases hk⟩
  | cons i v ih =>
   intro u hu
   obtain ⟨φ,h1,h2⟩:=ih (u++[i]) (by rw [hu,List.append_assoc];rfl)
   have hi:i<h.st∧h.silent.getD i false=true:=(o.sil i).1 (by rw [hu];simp)
   have same:∀ k,k=i ∨ k ∈ v→sumN (fun j=>trQ h k j*(if j=i then c*h.stop.getD i 0+sumN (fun j=>trQ h i j*φ j) h.st else φ j)) h.st=sumN (fun j=>trQ h k j*φ j) h.st:=fun k hk=>sumN_congr fun j _=>by
    by_cases e:j=i
    ·have h0:trQ h k i=0:=by
      rcases hk with rfl|hk
      ·exact o.fwd u k v hu k (.inr rfl)
      ·obtain ⟨v1,v2,rfl⟩:=List.append_of_mem hk
       exact o.fwd (u++i::v1) k v2 (by rw [hu,List.append_assoc];rfl) i (.inl (by simp))
     rw [e,h0,Rat.zero_mul,Rat.zero_mul]
    ·rw [if_neg e]
   refine ⟨fun j=>if j=i then c*h.stop.getD i 0+sumN (fun j=>trQ h i j*φ j) h.st else φ j,fun j hj hs=>?_,fun k hk=>?_⟩
   ·show (if j=i then _ else φ j)=ν j
    rw [if_neg (fun e=>by rw [e,hi.2] at hs;cases hs)];exact h1 j hj hs
   ·unfold Worth
    rcases List.mem_cons.1 hk with rfl|hk
    ·rw [same k (.inl rfl)]
     exact if_pos rfl
    ·rw [same k (.inr hk)]
     have hw:=h2 k hk
     unfold Worth at hw
     show (if k=i then _ else φ k)=_
     split
     ·rename_i e;rw [e] at hw ⊢
     ·exact hw
 obtain ⟨φ,h1,h2⟩:=key O [] rfl
 exact ⟨φ,h1,fun k hk=>⟨((o.sil k).1 hk).1,h2 k hk⟩⟩
theorem thR_read (o:OrdS h O)(hφ:∀ j,j<h.st→h.silent.getD j false=false→φ j=ν j):valT h c φ (thR h O x)=sumN (fun j=>if h.silent.getD j false=true then 0 else (thR h O x).1.getD j 0*ν j) h.st+c*(thR h O x).2:=by
 unfold valT
 congr 1
 refine sumN_congr fun j hj=>?_
 split
 ·rename_i hs;rw [thR_sil o x hj hs,Rat.zero_mul]
 ·rename_i hs;rw [hφ j hj (by simpa using hs)]
theorem thR_uniq {O2:List Nat}(o:OrdS h O)(o2:OrdS h O2)(hx:x.1.length=h.st):thR h O x=thR h O2 x:=by
 have key:∀ (c:Rat) (ν:Nat→Rat),sumN (fun j=>if h.silent.getD j false=true then 0 else (thR h O x).1.getD j 0*ν j) h.st+c*(thR h O x).2=sumN (fun j=>if h.silent.getD j false=true then 0 else (thR h O2 x).1.getD j 0*ν j) h.st+c*(thR h O2 x).2:=fun c ν=>by
  obtain ⟨φ,h1,h2⟩:=worth_ex o c ν
  rw [← thR_read o h1,← thR_read o2 h1,thR_val h2,thR_val fun k hk=>h2 k ((o.sil k).2 ((o2.sil k).1 hk))]
 refine Prod.ext (list_eq_getD ((thR_len hx).trans (thR_len hx).symm) 0 fun j hj=>?_) ?_
 ·have hj:j<h.st:=by rw [thR_len hx] at hj;exact hj
  by_cases hs:h.silent.getD j false=true
  ·rw [thR_sil o x hj hs,thR_sil o2 x hj hs]
  ·have e:=key 0 fun i=>if j=i then 1 else 0
   have pick:∀ y:List Rat × Rat,sumN (fun i=>if h.silent.getD i false=true then 0 else y.1.getD i 0*(if j=i then (1:Rat) else 0)) h.st=y.1.getD j 0:=fun y=>by
    have:sumN (fun i=>if h.silent.getD i false=true then 0 else y.1.getD i 0*(if j=i then (1:Rat) else 0)) h.st=sumN (fun i=>if j=i then y.1.getD i 0 else 0) h.st:=sumN_congr fun i _=>by
     by_cases e:j=i
     ·subst e;rw [if_neg hs,if_pos rfl,if_pos rfl,Rat.mul_one]
     ·rw [if_neg e,if_neg e,Rat.mul_zero];split <;> rfl
    rw [this,sumN_pick hj]
   rw [pick,pick,Rat.zero_mul,Rat.zero_mul,Rat.add_zero,Rat.add_zero] at e
   exact e
 ·have e:=key 1 fun _=>0
  have none:∀ y:List Rat × Rat,sumN (fun i=>if h.silent.getD i false=true then 0 else y.1.getD i 0*(0:Rat)) h.st=0:=fun y=>sumN_zero fun i _=>by rw [Rat.mul_zero];split <;> rfl
  rw [none,none,Rat.one_mul,Rat.one_mul,Rat.zero_add,Rat.zero_add] at e
  exact e
end
end Go.AL
