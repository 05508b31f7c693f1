/-
  M, chapter 33: a state that stays as long as a list of shares says gives the word of k + 1 symbols the share k; the numbers on the way are small.
-/
import Derived.Test.YtocehciipjhlkaaGreatDoorKHxA
import Derived.Test.YtocehciipjhlkaaGreatDoorKWkB
import Derived.Test.YtocehciipjhlkaaGreatDoorKMod78
import Derived.Test.YtocehciipjhlkaaGreatDoorKWkGB
set_option linter.unusedVariables false
set_option linter.unusedSimpArgs false
namespace Go.AL
open Go Go.BigFrame
section
variable {g:HM}{p:Rat}{f i k s c:Nat}{e w:List Rat}
def rowHA (g:HM)(f:Nat):List Rat:=if f=0 then g.ini else g.trans.getD (f-1) []
def arE (p:Rat)(f i:Nat)(e:List Rat)(k:Nat):List Arc9:=(List.range k).flatMap fun s=>if 0<p*e.getD s 0 then [⟨f,s+1,i+1,p*e.getD s 0⟩] else []
def arI (g:HM)(f k:Nat):List Arc9:=(List.range k).flatMap fun i=>arE ((rowHA g f).getD i 0) f i (g.emit.getD i []) (g.emit.getD i []).length
def arF (g:HM)(k:Nat):List Arc9:=(List.range k).flatMap fun f=>arI g f (rowHA g f).length
def autoHM (g:HM):Au:=⟨g.sym,g.st+1,1::List.replicate g.st 0,g.empty::g.stop,arF g (g.st+1)⟩
theorem arE_succ:arE p f i e (k+1)=arE p f i e k++if 0<p*e.getD k 0 then [⟨f,k+1,i+1,p*e.getD k 0⟩] else []:=by
 unfold arE;rw [List.range_succ,List.flatMap_append];simp
theorem arI_succ:arI g f (k+1)=arI g f k++arE ((rowHA g f).getD k 0) f k (g.emit.getD k []) (g.emit.getD k []).length:=by
 unfold arI;rw [List.range_succ,List.flatMap_append];simp
theorem arF_succ:arF g (k+1)=arF g k++arI g k (rowHA g k).length:=by
 unfold arF;rw [List.range_succ,List.flatMap_append];simp
theorem arE_mem {x:Arc9}(h:x ∈ arE p f i e k):∃ s,s<k∧x=⟨f,s+1,i+1,p*e.getD s 0⟩ ∧ 0<p*e.getD s 0:=by
 obtain ⟨s,hs,hx⟩:=List.mem_flatMap.1 h
 split at hx
 ·exact ⟨s,List.mem_range.1 hs,ms9 hx,by assumption⟩
 ·cases hx
theorem arI_mem {x:Arc9}(h:x ∈ arI g f k):∃ i,i<k∧∃ s,s<(g.emit.getD i []).length∧x=⟨f,s+1,i+1,(rowHA g f).getD i 0*emQ g i s⟩:=by
 obtain ⟨i,hi,hx⟩:=List.mem_flatMap.1 h
 obtain ⟨s,hs,e,_⟩:=arE_mem hx
 exact ⟨i,List.mem_range.1 hi,s,hs,e⟩
theorem arF_mem {x:Arc9}(h:x ∈ arF g k):∃ f,f<k∧∃ i,i<(rowHA g f).length∧∃ s,s<(g.emit.getD i []).length∧x=⟨f,s+1,i+1,(rowHA g f).getD i 0*emQ g i s⟩:=by
 obtain ⟨f,hf,hx⟩:=List.mem_flatMap.1 h
 obtain ⟨i,hi,s,hs,e⟩:=arI_mem hx
 exact ⟨f,List.mem_range.1 hf,i,hi,s,hs,e⟩
theorem arE_len:(arE p f i e k).length≤k:=by
 induction k with
 | zero=>exact Nat.le_refl _
 | succ k ih =>
  rw [arE_succ,la9]
  have:(if 0<p*e.getD k 0 then [(⟨f,k+1,i+1,p*e.getD k 0⟩:Arc9)] else []).length≤1:=by split <;> simp
  omega
theorem arI_len {m:Nat}(hm:∀ i,i<k→(g.emit.getD i []).length≤m):(arI g f k).length≤k*m:=by
 induction k with
 | zero=>simp [arI]
 | succ k ih =>
  rw [arI_succ,la9,Nat.succ_mul]
  have h1:=ih fun i hi=>hm i (by omega)
  have h2:=arE_len (p:=(rowHA g f).getD k 0) (f:=f) (i:=k) (e:=g.emit.getD k []) (k:=(g.emit.getD k []).length)
  have h3:=hm k (Nat.lt_succ_self k)
  omega
theorem arF_len {m n:Nat}(hn:∀ f,f<k→(rowHA g f).length≤n)(hm:∀ i,(g.emit.getD i []).length≤m):(arF g k).length≤k*(n*m):=by
 induction k with
 | zero=>simp [arF]
 | succ k ih =>
  rw [arF_succ,la9,Nat.succ_mul]
  have h1:=ih fun i hi=>hn i (by omega)
  have h2:=arI_len (g:=g) (f:=k) (k:=(rowHA g k).length) (m:=m) fun i _=>hm i
  have h3:=Nat.mul_le_mul_right m (hn k (Nat.lt_succ_self k))
  omega
theorem entE (hp:0≤p)(he:∀ s,0≤e.getD s 0){F C S:Nat}:entA (arE p f i e k) S F C=if f=F∧i+1=C∧S<k then p*e.getD S 0 else 0:=by
 induction k with
 | zero=>rw [if_neg (by omega)];rfl
 | succ k ih =>
  rw [arE_succ,entA_app,ih]
  have h1:entA (if 0<p*e.getD k 0 then [(⟨f,k+1,i+1,p*e.getD k 0⟩:Arc9)] else []) S F C=if f=F∧k=S∧i+1=C then p*e.getD k 0 else 0:=by
   by_cases h:0<p*e.getD k 0
   ·rw [if_pos h]
    show (if f=F∧k+1=S+1∧i+1=C then p*e.getD k 0 else 0)+0=_
    rw [Rat.add_zero]
    by_cases h2:f=F∧k=S∧i+1=C
    ·rw [if_pos h2,if_pos ⟨h2.1,by omega,h2.2.2⟩]
    ·rw [if_neg h2,if_neg (fun q=>h2 ⟨q.1,by omega,q.2.2⟩)]
   ·rw [if_neg h]
    have h0:p*e.getD k 0=0:=Rat.le_antisymm (Rat.not_lt.1 h) (Rat.mul_nonneg hp (he k))
    rw [h0]
    split <;> rfl
  rw [h1]
  by_cases h2:f=F∧i+1=C
  ·by_cases h3:k=S
   ·rw [if_neg (by omega),if_pos ⟨h2.1,h3,h2.2⟩,if_pos ⟨h2.1,h2.2,by omega⟩,h3,Rat.zero_add]
   ·by_cases h4:S<k
    ·rw [if_pos ⟨h2.1,h2.2,h4⟩,if_neg (by omega),if_pos ⟨h2.1,h2.2,by omega⟩,Rat.add_zero]
    ·rw [if_neg (by omega),if_neg (by omega),if_neg (by omega),Rat.add_zero]
  ·rw [if_neg (fun q=>h2 ⟨q.1,q.2.1⟩),if_neg (fun q=>h2 ⟨q.1,q.2.2⟩),if_neg (fun q=>h2 ⟨q.1,q.2.1⟩),Rat.add_zero]
theorem rowHA_share {b B:Nat}(h:HM.GoodX b B g)(f:Nat):Shares (rowHA g f):=by
 unfold rowHA
 split
 ·exact h.pI
 ·exact h.pT _
theorem rowHA_len {b B:Nat}(h:HM.FormX b B g)(hf:f≤g.st):(rowHA g f).length=g.st:=by
 unfold rowHA
 split
 ·exact h.ini
 ·exact h.trow _ (by omega)
theorem entI {b B:Nat}(h:HM.GoodX b B g){F C S:Nat}(hk:k≤g.st):entA (arI g f k) S F C=if f=F∧1≤C∧C≤k∧S<g.sym then (rowHA g f).getD (C-1) 0*emQ g (C-1) S else 0:=by
 induction k with
 | zero=>rw [if_neg (by omega)];rfl
 | succ k ih =>
  rw [arI_succ,entA_app,ih (by omega),entE ((rowHA_share h f).get k).1 fun s=>((h.pM k).get s).1,h.form.erow k (by omega)]
  by_cases h1:f=F∧S<g.sym
  ·by_cases h2:k+1=C
   ·subst h2
    rw [if_neg (by omega),if_pos ⟨h1.1,rfl,h1.2⟩,if_pos ⟨h1.1,by omega,by omega,h1.2⟩,Rat.zero_add,Nat.add_sub_cancel];rfl
   ·by_cases h3:1≤C∧C≤k
    ·rw [if_pos ⟨h1.1,h3.1,h3.2,h1.2⟩,if_neg (by omega),if_pos ⟨h1.1,h3.1,by omega,h1.2⟩,Rat.add_zero]
    ·rw [if_neg (by omega),if_neg (by omega),if_neg (by omega),Rat.add_zero]
  ·rw [if_neg (fun q=>h1 ⟨q.1,q.2.2.2⟩),if_neg (fun q=>h1 ⟨q.1,q.2.2⟩),if_neg (fun q=>h1 ⟨q.1,q.2.2.2⟩),Rat.add_zero]
theorem entF {b B:Nat}(h:HM.GoodX b B g){F C S:Nat}(hk:k≤g.st+1):entA (arF g k) S F C=if F<k∧1≤C∧C≤g.st∧S<g.sym then (rowHA g F).getD (C-1) 0*emQ g (C-1) S else 0:=by
 induction k with
 | zero=>rw [if_neg (by omega)];rfl
 | succ k ih =>
  rw [arF_succ,entA_app,ih (by omega),rowHA_len h.form (by omega),entI h (Nat.le_refl _)]
  by_cases h1:1≤C∧C≤g.st∧S<g.sym
  ·by_cases h2:k=F
   ·subst h2
    rw [if_neg (by omega),if_pos ⟨rfl,h1⟩,if_pos ⟨by omega,h1⟩,Rat.zero_add]
   ·by_cases h3:F<k
    ·rw [if_pos ⟨h3,h1⟩,if_neg (by omega),if_pos ⟨by omega,h1⟩,Rat.add_zero]
    ·rw [if_neg (by omega),if_neg (by omega),if_neg (by omega),Rat.add_zero]
  ·rw [if_neg (fun q=>h1 q.2),if_neg (fun q=>h1 q.2),if_neg (fun q=>h1 q.2),Rat.add_zero]
theorem autoHM_ok {b B:Nat}(h:HM.GoodX b B g):(autoHM g).Ok :=
 ⟨h.form.sym0,by simp [autoHM],by simp [autoHM,h.form.stop],fun x hx=>by
  obtain ⟨f,hf,i,hi,s,hs,rfl⟩:=arF_mem hx
  have h1:=rowHA_len h.form (show f≤g.st by omega)
  rw [h.form.erow i (by omega)] at hs
  exact ⟨hf,by show i+1<g.st+1;omega,by show 1≤s+1;omega,hs⟩⟩
theorem entH {b B:Nat}(h:HM.GoodX b B g){S F C:Nat}(hS:S<g.sym)(hF:F≤g.st)(hC:C≤g.st):entM (machL [autoHM g]) S F C=if C=0 then 0 else (rowHA g F).getD (C-1) 0*emQ g (C-1) S:=by
 rw [machL_ent hS (by rw [size_one];show F<g.st+1;omega) (by rw [size_one];show C<g.st+1;omega)]
 show (if F<g.st+1 then if C<g.st+1 then entA (arF g (g.st+1)) S F C else 0 else _)=_
 rw [if_pos (by omega),if_pos (by omega),entF h (Nat.le_refl _)]
 by_cases e:C=0
 ·rw [if_pos e,if_neg (by omega)]
 ·rw [if_neg e,if_pos ⟨by omega,by omega,hC,hS⟩]
theorem fwd_pre {u v:List Int}:∀ {t:Nat},t<u.length→fwdF g (u++v) t=fwdF g u t
 | 0,h=>by
  unfold fwdF symX
  rw [show (u++v).getD 0 0=u.getD 0 0 by rw [gd9,List.getElem?_append_left h,← gd9]]
 | t + 1, h => by
  unfold fwdF
  rw [fwd_pre (t:=t) (by omega)]
  have:symX (u++v) (t+1)=symX u (t+1):=by
   unfold symX;rw [gd9,List.getElem?_append_left h,← gd9]
  unfold preF
  rw [this]
theorem vecH {b B:Nat}(h:HM.GoodX b B g):∀ {n:Nat} {u:List Int},u.length=n+1→InW g.sym u→(vecM (machL [autoHM g]) u).getD 0 0=0∧∀ j,j<g.st→(vecM (machL [autoHM g]) u).getD (j+1) 0=(fwdF g u n).getD j 0
 | 0, u, hu, hw => by
  obtain ⟨x,rfl⟩:=List.length_eq_one_iff.1 hu
  have hx:=hw x (by simp)
  have hN:(machL [autoHM g]).n=g.st+1:=size_one
  have hv:vecM (machL [autoHM g]) [x]=stepM (machL [autoHM g]) (autoHM g).ini (x.toNat-1):=by
   show stepM _ (machL [autoHM g]).ini _=_
   rw [show (machL [autoHM g]).ini=(autoHM g).ini by show (autoHM g).ini++[]=_;rw [List.append_nil]]
  have key:∀ c,c≤g.st→(vecM (machL [autoHM g]) [x]).getD c 0=if c=0 then 0 else (rowHA g 0).getD (c-1) 0*emQ g (c-1) (x.toNat-1):=fun c hc=>by
   rw [hv,stepM_vf (by rw [hN];omega),hN,← sumN_front]
   rw [entH h (by omega) (by omega) hc,sumN_zero,Rat.add_zero]
   ·show (1:Rat)*_=_
    rw [Rat.one_mul]
   ·intro i hi
    show ((1:Rat)::List.replicate g.st 0).getD (i+1) 0*_=0
    rw [List.getD_cons_succ,gd9,List.getElem?_replicate]
    split <;> exact Rat.zero_mul _
  refine ⟨by rw [key 0 (by omega),if_pos rfl],fun j hj=>?_⟩
  rw [key (j+1) hj,if_neg (by omega),Nat.add_sub_cancel,fwdF,map_getD_range _ _ hj]
  rfl
 | n + 1, u, hu, hw => by
  have hne:u≠[]:=fun e=>by subst e;cases hu
  obtain ⟨y,x,rfl⟩:∃ y x,u=y++[x]:=⟨u.dropLast,u.getLast hne,(List.dropLast_concat_getLast hne).symm⟩
  have hx:=hw x (by simp)
  have hy:y.length=n+1:=by rw [la9,ls9] at hu;omega
  obtain ⟨h1,h2⟩:=vecH h hy fun z hz=>hw z (List.mem_append.2 (.inl hz))
  have hN:(machL [autoHM g]).n=g.st+1:=size_one
  have key:∀ c,c≤g.st→(vecM (machL [autoHM g]) (y++[x])).getD c 0=if c=0 then 0 else sumN (fun i=>(fwdF g y n).getD i 0*trQ g i (c-1)) g.st*emQ g (c-1) (x.toNat-1):=fun c hc=>by
   rw [vecM_snoc,stepM_vf (by rw [hN];omega),hN,← sumN_front,h1,Rat.zero_mul,Rat.zero_add]
   by_cases e:c=0
   ·rw [if_pos e]
    refine sumN_zero fun i hi=>?_
    rw [entH h (by omega) (by omega) hc,if_pos e,Rat.mul_zero]
   ·rw [if_neg e,← sumN_mulR]
    refine sumN_congr fun i hi=>?_
    rw [entH h (by omega) (by omega) hc,if_neg e,h2 i hi,← Rat.mul_assoc]
    unfold rowHA
    rw [if_neg (by omega),Nat.add_sub_cancel];rfl
  refine ⟨by rw [key 0 (by omega),if_pos rfl],fun j hj=>?_⟩
  rw [key (j+1) hj,if_neg (by omega),Nat.add_sub_cancel,fwdF,map_getD_range _ _ hj]
  unfold preF
  rw [fwd_pre (by omega)]
  congr 2
  unfold symX
  rw [gd9,← hy,List.getElem?_append_right (Nat.le_refl _),Nat.sub_self];rfl
theorem ser_lik {b B:Nat}(h:HM.GoodX b B g){u:List Int}(hw:InW g.sym u):serA (autoHM g) u=likF g u:=by
 have hN:(machL [autoHM g]).n=g.st+1:=size_one
 have hfin:∀ i,vf (machL [autoHM g]).fin i=(g.empty::g.stop).getD i 0:=fun i=>by
  show ((autoHM g).fin++[]).getD i 0=_
  rw [List.append_nil];rfl
 unfold serA wtM dotM likF
 rw [hN,← sumN_front]
 cases u with
 | nil =>
  rw [if_pos (show ([]:List Int).length=0 from rfl),sumN_zero,Rat.add_zero,hfin]
  ·show ((autoHM g).ini++[]).getD 0 0*g.empty=_
   show (1:Rat)*g.empty=_
   exact Rat.one_mul _
  ·intro i hi
   have:(vf (vecM (machL [autoHM g]) [])) (i+1)=0:=by
    show (((1:Rat)::List.replicate g.st 0)++[]).getD (i+1) 0=0
    rw [List.append_nil,List.getD_cons_succ,gd9,List.getElem?_replicate]
    split <;> rfl
   rw [this,Rat.zero_mul]
 | cons x r =>
  obtain ⟨h1,h2⟩:=vecH h (n:=r.length) (u:=x::r) rfl hw
  rw [if_neg (by simp),show vf (vecM (machL [autoHM g]) (x::r)) 0=0 from h1,Rat.zero_mul,Rat.zero_add]
  unfold likN
  refine sumN_congr fun i hi=>?_
  rw [show vf (vecM (machL [autoHM g]) (x::r)) (i+1)=_ from h2 i hi,hfin]
  rfl
end
section
variable {m:Mach}{B k:Nat}{V K Q:List (List Int)}{w u:List Int}{rs:List SRow}{y:KSt}{v:List Rat}{r:SRow}
def nextW (k:Nat)(K:List (List Int)):List (List Int):=[]::K.flatMap (kidsW k)
theorem nextW_snoc:nextW k (K++[w])=nextW k K++kidsW k w:=by
 unfold nextW
 rw [List.flatMap_append,List.flatMap_cons,List.flatMap_nil,List.append_nil,List.cons_append]
structure InvS (m:Mach) (B:Nat) (Q:List (List Int)) (y:KSt):Prop where
 sp:SpOK m.n B y.rs
 join:∃ V,Join m V y.ks Q y.rs∧V++Q=nextW m.k y.ks
 len:LenK y.ks Q
 lead:∀ r,r ∈ y.rs→r.p=firstP r.v
 ord:y.ks.Pairwise fun a b=>slx a b<0
theorem InvS.start (m:Mach)(B:Nat):InvS m B [[]] ⟨[],[]⟩:=⟨SpOK.nil,⟨[],Join.start m,rfl⟩,LenK.start,fun _ h=>(by cases h),List.Pairwise.nil⟩
theorem InvS.b (h:InvS m B Q y):InvB m B Q y:=⟨h.sp,have ⟨V,j,_⟩:=h.join;⟨V,j⟩,h.len⟩
theorem InvS.next (ok:m.Ok)(h1:1≤B)(hz:∀ i,sz ((vecM m w).getD i 0)≤B)(h:InvS m B (w::Q) y) :
  ((keepB m w y).1=true→InvS m B (Q++kidsW m.k w) (keepB m w y).2∧leftM m (Q++kidsW m.k w) (keepB m w y).2.rs<leftM m (w::Q) y.rs)∧((keepB m w y).1=false→InvS m B Q (keepB m w y).2∧leftM m Q (keepB m w y).2.rs<leftM m (w::Q) y.rs):=by
 obtain ⟨V,j,e⟩:=h.join
 unfold keepB
 by_cases hg:growsS y.rs (vecM m w)=true
 ·rw [if_pos hg]
  refine ⟨fun _=>⟨⟨h.sp.grow (vecM_len ok w) h1 hz hg,⟨_,j.keep ok hg,?_⟩,h.len.keep,fun r hr=>?_,?_⟩,left_keep ok j hg⟩,fun x=>by cases x⟩
  ·show V++[w]++(Q++kidsW m.k w)=nextW m.k (y.ks++[w])
   rw [nextW_snoc,← e,List.append_assoc,List.append_assoc];rfl
  ·rcases mp9 hr with hr|hr
   ·exact h.lead r hr
   ·rw [ms9 hr];rfl
  ·refine List.pairwise_append.2 ⟨h.ord,List.pairwise_singleton ..,fun u hu q hq=>?_⟩
   rw [ms9 hq]
   exact (List.pairwise_append.1 j.bfs.ord).2.2 u (j.bfs.sub u hu) w mc9
 ·rw [if_neg hg]
  have hg:growsS y.rs (vecM m w)=false:=by simpa using hg
  exact ⟨fun x=>(by cases x),fun _=>⟨⟨h.sp,⟨_,j.drop ok hg,by rw [List.append_assoc];exact e⟩,h.len.drop,h.lead,h.ord⟩,left_drop⟩⟩
end
section
variable {a:Au}{n s j k B C N:Nat}{v:List Rat}{l:List Arc9}
theorem stepF_szG (hv:∀ i,sz (v.getD i 0)≤B)(hl:∀ x,x ∈ l→x.t<n∧sz x.q≤C)(hN:l.length≤N)(h1:1≤B+C):sz ((stepF n v s l).getD j 0)≤N*(B+C+1)+1:=by
 rw [stepF_get fun x hx=>(hl x hx).1]
 have h2:=lsum_szA (f:=inF v s j) (C:=B+C) (l:=l) fun x hx=>by
  unfold inF
  split
  ·have:=sz_mul (v.getD x.f 0) x.q
   have:=hv x.f
   have:=(hl x hx).2
   omega
  ·rw [sz_zero];exact h1
 have h3:=Nat.mul_le_mul_right (B+C+1) hN
 omega
structure Au.Fw (a:Au):Prop where
 ok:a.Ok
 few:a.Few
 s4:a.sym≤4
 st1:1≤a.st
 arc:∀ x,x ∈ a.arcs→sz x.q≤5000
 num:a.arcs.length≤40
end
theorem sz_o:sz 1≤1:=by rw [sz_one];exact Nat.le_refl _
theorem sz_z:sz 0≤1:=by rw [sz_zero];exact Nat.le_refl _
section
variable {g:HM}{b B:Nat}
theorem autoHM_ent (h:HM.GoodX b B g)(S F C:Nat):sz (entA (autoHM g).arcs S F C)≤B+B:=by
 show sz (entA (arF g (g.st+1)) S F C)≤_
 rw [entF h (Nat.le_refl _)]
 have hB:=h.form.b1
 have hr:∀ F,Small B (rowHA g F):=fun F=>by unfold rowHA;split;exact h.form.zI;exact h.form.zT _
 split
 ·have h1:=sz_mul ((rowHA g F).getD (C-1) 0) (emQ g (C-1) S)
  have h2:=(hr F).get hB (C-1)
  have h3:sz (emQ g (C-1) S)≤B:=(h.form.zM (C-1)).get hB S
  omega
 ·rw [sz_zero];omega
theorem autoHM_arc (h:HM.GoodX b B g){x:Arc9}(hx:x ∈ (autoHM g).arcs):sz x.q≤B+B:=by
 obtain ⟨f,hf,i,hi,s,hs,rfl⟩:=arF_mem hx
 have hB:=h.form.b1
 have hr:∀ F,Small B (rowHA g F):=fun F=>by unfold rowHA;split;exact h.form.zI;exact h.form.zT _
 have h1:=sz_mul ((rowHA g f).getD i 0) (emQ g i s)
 have h2:=(hr f).get hB i
 have h3:sz (emQ g i s)≤B:=(h.form.zM i).get hB s
 show sz ((rowHA g f).getD i 0*emQ g i s)≤_
 omega
theorem autoHM_ini:Small 1 (autoHM g).ini:=.cons sz_o fun q hq=>by rw [(List.mem_replicate.1 hq).2];exact sz_z
theorem autoHM_fin (h:HM.GoodX b B g):Small B (autoHM g).fin:=.cons h.form.zE h.form.zS
theorem vecH_sz {C:Nat}(h:HM.GoodX b B g)(hC:1≤C){u:List Int}(hw:InW g.sym u)(hf:∀ t j,t<u.length→sz ((fwdF g u t).getD j 0)≤C)(j:Nat):sz ((vecM (machL [autoHM g]) u).getD j 0)≤C:=by
 have hl:(vecM (machL [autoHM g]) u).length=g.st+1:=by rw [vecM_len (mach_ok1 (autoHM_ok h))];exact size_one
 cases u with
 | nil =>
  show sz (((1:Rat)::List.replicate g.st 0++[]).getD j 0)≤C
  rw [List.append_nil]
  exact Nat.le_trans ((autoHM_ini (g:=g)).get (Nat.le_refl _) j) hC
 | cons x r =>
  obtain ⟨h1,h2⟩:=vecH h (n:=r.length) (u:=x::r) rfl hw
  cases j with
  | zero=>rw [h1,sz_zero];exact hC
  | succ j =>
   rcases Nat.lt_or_ge j g.st with hj|hj
   ·rw [h2 j hj];exact hf _ _ (Nat.lt_succ_self _)
   ·rw [getD_ge (by rw [hl];omega),sz_zero];exact hC
end
end Go.AL
