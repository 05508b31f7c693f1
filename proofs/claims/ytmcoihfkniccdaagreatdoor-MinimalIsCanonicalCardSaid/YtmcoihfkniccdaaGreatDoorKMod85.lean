/-
  M, chapter 23: how a rank is counted; sizes of the machines of automata.
-/
import Derived.Test.YtmcoihfkniccdaaGreatDoorKMod83
set_option linter.unusedVariables false
set_option linter.unusedSimpArgs false
namespace Go.AL
open Go Go.BigFrame
structure Mach.Full (m:Mach):Prop where
 rows:∀ s,s<m.k→(m.mats.getD s []).length=m.n
 cols:∀ s,s<m.k→∀ i,i<m.n→((m.mats.getD s []).getD i []).length=m.n
theorem mtx_len {n:Nat}{f:Nat→Nat→Rat}:(mtx n f).length=n:=by simp [mtx]
theorem mtx_row {n i:Nat}{f:Nat→Nat→Rat}(hi:i<n):((mtx n f).getD i []).length=n:=by
 unfold mtx;rw [map_getD_range _ _ hi];simp
theorem machL_full (l:List Au):(machL l).Full :=
 ⟨fun s hs=>by
  rw [machL_k] at hs
  show (((List.range _).map fun s=>mtx (sizeL l) (entL l s)).getD s []).length=_
  rw [map_getD_range _ _ hs,mtx_len];rfl,fun s hs i hi=>by
  rw [machL_k] at hs
  show ((((List.range _).map fun s=>mtx (sizeL l) (entL l s)).getD s []).getD i []).length=_
  rw [map_getD_range _ _ hs,mtx_row (n:=sizeL l) hi];rfl⟩
theorem turn_mat {m:Mach}{s:Nat}(hs:s<m.k):(turnM m).mats.getD s []=mtx m.n fun i j=>((m.mats.getD s []).getD j []).getD i 0:=by
 unfold turnM
 show (m.mats.map fun M=>mtx m.n fun i j=>(M.getD j []).getD i 0).getD s []=_
 rw [gd9,List.getElem?_map,ge9 hs,gd9,ge9 hs];rfl
theorem turn_full (m:Mach):(turnM m).Full :=
 ⟨fun s hs=>by rw [turn_k] at hs;rw [turn_mat hs,mtx_len];rfl,fun s hs i hi=>by rw [turn_k] at hs;rw [turn_mat hs,mtx_row (n:=m.n) hi];rfl⟩
structure SpOK (n B:Nat) (rs:List SRow):Prop where
 ech:Ech n rs
 sz:SzR B rs
 len:∀ r,r ∈ rs→r.v.length=n
 cl:∀ (k:Nat) (r:SRow),rs[k]? = some r→r.c.length=k+1
section
variable {n B:Nat}{rs:List SRow}{w:List Rat}
theorem SpOK.nil:SpOK n B []:=⟨⟨fun _ h=>(by cases h),List.Pairwise.nil⟩,SzR.nil,fun _ h=>(by cases h),fun _ _ h=>(by cases h)⟩
theorem SpOK.grow (h:SpOK n B rs)(hw:w.length=n)(h1:1≤B)(hz:∀ i,AL.sz (w.getD i 0)≤B)(g:growsS rs w=true):SpOK n B (rs++[newR rs w]):=by
 have hp:firstP (redV rs w)<(redV rs w).length:=dt9 g
 refine ⟨h.ech.grow hw _ (by rw [redV_len,hw] at hp;exact hp) (firstP_nz hp),h.sz.grow h1 hz,fun r hr=>?_,fun k r hk=>?_⟩
 ·rcases mp9 hr with hr|hr
  ·exact h.len r hr
  ·rw [ms9 hr];show (redV rs w).length=n;rw [redV_len,hw]
 ·rcases Nat.lt_or_ge k rs.length with hi|hi
  ·rw [List.getElem?_append_left hi] at hk;exact h.cl k r hk
  ·rw [List.getElem?_append_right hi] at hk
   rcases Nat.eq_zero_or_pos (k-rs.length) with h0|h0
   ·rw [h0] at hk
    cases hk
    show (byS rs w).length=k+1
    rw [byS_len];omega
   ·rw [List.getElem?_eq_none (by rw [ls9];exact h0)] at hk;cases hk
theorem SpOK.add (h:SpOK n B rs)(hw:w.length=n)(h1:1≤B)(hz:∀ i,AL.sz (w.getD i 0)≤B):SpOK n B (addS rs w):=by
 unfold addS
 split
 ·exact h.grow hw h1 hz ‹_›
 ·exact h
theorem SpOK.le (h:SpOK n B rs):rs.length≤n:=h.ech.len
end
structure DSt where
 o:Option (List Int)
 rs:List SRow
def keepD (m:Mach)(w:List Int)(y:DSt):Bool × DSt :=
 if y.o.isSome=true then (false,y) else if wtM m w≠0 then (false,⟨some w,y.rs⟩) else (growsS y.rs (vecM m w),⟨none,addS y.rs (vecM m w)⟩)
def ansD (m:Mach)(Q:List (List Int))(y:DSt):Prop :=
 match y.o with
 | some w=>FirstNZ m w∧w.length≤6
 | none=>∃ V K,Join m V K Q y.rs∧ZeroK m K∧LenK K Q
structure InvE (m:Mach) (B:Nat) (Q:List (List Int)) (y:DSt):Prop where
 len:∀ q,q ∈ Q→q.length≤6
 sp:SpOK m.n B y.rs
 ans:ansD m Q y
def muD (m:Mach)(Q:List (List Int))(y:DSt):Nat :=
 match y.o with
 | some _=>Q.length
 | none=>leftM m Q y.rs
section
variable {m:Mach}{B:Nat}{Q V K:List (List Int)}{w:List Int}{y:DSt}{rs:List SRow}
theorem LenK.six (h:LenK K Q)(j:Join m V K Q rs)(n6:m.n≤6):∀ q,q ∈ Q→q.length≤6:=fun q hq=>by
 have:=h.open_ q hq
 have:=j.len
 have:=j.le
 omega
theorem InvE.start (m:Mach)(B:Nat):InvE m B [[]] ⟨none,[]⟩ :=
 ⟨fun q hq=>by rw [ms9 hq];exact Nat.zero_le _,SpOK.nil,[],[],Join.start m,fun _ h=>(by cases h),LenK.start⟩
theorem InvE.next (ok:m.Ok)(n6:m.n≤6)(h1:1≤B)(hz:∀ i,sz ((vecM m w).getD i 0)≤B)(h:InvE m B (w::Q) y) :
  ((keepD m w y).1=true→InvE m B (Q++kidsW m.k w) (keepD m w y).2∧muD m (Q++kidsW m.k w) (keepD m w y).2<muD m (w::Q) y)∧((keepD m w y).1=false→InvE m B Q (keepD m w y).2∧muD m Q (keepD m w y).2<muD m (w::Q) y):=by
 obtain ⟨o,rs⟩:=y
 have hlq:∀ q,q ∈ Q→q.length≤6:=fun q hq=>h.len q (List.mem_cons_of_mem _ hq)
 cases o with
 | some u =>
  have e:keepD m w ⟨some u,rs⟩ = (false,⟨some u,rs⟩):=if_pos rfl
  rw [e]
  exact ⟨fun x=>(by cases x),fun _=>⟨⟨hlq,h.sp,h.ans⟩,Nat.lt_succ_self _⟩⟩
 | none =>
  obtain ⟨V,K,j,hzk,hl⟩:∃ V K,Join m V K (w::Q) rs∧ZeroK m K∧LenK K (w::Q):=h.ans
  have hsp:SpOK m.n B rs:=h.sp
  have hno:¬ ((⟨none,rs⟩:DSt).o.isSome=true):=fun x=>by cases x
  by_cases hw:wtM m w≠0
  ·have e:keepD m w ⟨none,rs⟩ = (false,⟨some w,rs⟩):=by unfold keepD;rw [if_neg hno,if_pos hw]
   rw [e]
   refine ⟨fun x=>(by cases x),fun _=>⟨⟨hlq,hsp,j.bfs.first hzk hw,h.len w mc9⟩,?_⟩⟩
   show Q.length<leftM m (w::Q) rs
   unfold leftM;rw [List.length_cons];omega
  ·have e:keepD m w ⟨none,rs⟩ = (growsS rs (vecM m w),⟨none,addS rs (vecM m w)⟩):=by unfold keepD;rw [if_neg hno,if_neg hw]
   rw [e]
   have hadd:=hsp.add (vecM_len ok w) h1 hz
   have hw0:wtM m w=0:=Decidable.byContradiction hw
   refine ⟨fun hg=>?_,fun hg=>?_⟩
   ·have hg:growsS rs (vecM m w)=true:=hg
    show InvE m B (Q++kidsW m.k w) ⟨none,addS rs (vecM m w)⟩ ∧ leftM m (Q++kidsW m.k w) (addS rs (vecM m w))<leftM m (w::Q) rs
    rw [show addS rs (vecM m w)=rs++[newR rs (vecM m w)] from if_pos hg] at hadd ⊢
    have j2:=j.keep ok hg
    have hl2:LenK (K++[w]) (Q++kidsW m.k w):=hl.keep
    exact ⟨⟨hl2.six j2 n6,hadd,_,_,j2,hzk.add hw0,hl2⟩,left_keep ok j hg⟩
   ·have hg:growsS rs (vecM m w)=false:=hg
    show InvE m B Q ⟨none,addS rs (vecM m w)⟩ ∧ leftM m Q (addS rs (vecM m w))<leftM m (w::Q) rs
    rw [show addS rs (vecM m w)=rs from if_neg (by rw [hg];exact Bool.false_ne_true)] at hadd ⊢
    exact ⟨⟨hlq,hsp,_,_,j.drop ok hg,hzk,hl.drop⟩,left_drop⟩
theorem InvE.done (h:InvE m B [] y):y.o=firstNZ m:=by
 obtain ⟨o,rs⟩:=y
 cases o with
 | some u=>exact (firstNZ_eq (o:=some u) h.ans.1).symm
 | none =>
  obtain ⟨V,K,j,hzk,_⟩:∃ V K,Join m V K [] rs∧ZeroK m K∧LenK K []:=h.ans
  exact (firstNZ_eq (o:=none) fun w hw=>j.bfs.none hzk w hw).symm
structure KSt where
 ks:List (List Int)
 rs:List SRow
def keepB (m:Mach)(w:List Int)(y:KSt):Bool × KSt:=if growsS y.rs (vecM m w)=true then (true,⟨y.ks++[w],y.rs++[newR y.rs (vecM m w)]⟩) else (false,y)
structure InvB (m:Mach) (B:Nat) (Q:List (List Int)) (y:KSt):Prop where
 sp:SpOK m.n B y.rs
 join:∃ V,Join m V y.ks Q y.rs
 len:LenK y.ks Q
theorem InvB.start (m:Mach)(B:Nat):InvB m B [[]] ⟨[],[]⟩:=⟨SpOK.nil,⟨[],Join.start m⟩,LenK.start⟩
theorem InvB.six {y:KSt}(h:InvB m B Q y)(n6:m.n≤6):∀ q,q ∈ Q→q.length≤6:=have ⟨_,j⟩:=h.join;h.len.six j n6
theorem InvB.few {y:KSt}(h:InvB m B Q y):y.ks.length=y.rs.length∧y.ks.length≤m.n:=by
 obtain ⟨V,j⟩:=h.join
 have:=j.len
 have:=j.le
 omega
theorem InvB.five {y:KSt}(h:InvB m B Q y)(n6:m.n≤6):∀ q,q ∈ y.ks→q.length≤5:=fun q hq=>by
 obtain ⟨i,hi,rfl⟩:=List.mem_iff_getElem.1 hq
 have:=h.len.kept i _ (ge9 hi)
 have:=h.few
 omega
theorem InvB.next {y:KSt}(ok:m.Ok)(h1:1≤B)(hz:∀ i,sz ((vecM m w).getD i 0)≤B)(h:InvB m B (w::Q) y) :
  ((keepB m w y).1=true→InvB m B (Q++kidsW m.k w) (keepB m w y).2∧leftM m (Q++kidsW m.k w) (keepB m w y).2.rs<leftM m (w::Q) y.rs)∧((keepB m w y).1=false→InvB m B Q (keepB m w y).2∧leftM m Q (keepB m w y).2.rs<leftM m (w::Q) y.rs):=by
 obtain ⟨V,j⟩:=h.join
 unfold keepB
 by_cases hg:growsS y.rs (vecM m w)=true
 ·rw [if_pos hg]
  exact ⟨fun _=>⟨⟨h.sp.grow (vecM_len ok w) h1 hz hg,⟨_,j.keep ok hg⟩,h.len.keep⟩,left_keep ok j hg⟩,fun x=>by cases x⟩
 ·rw [if_neg hg]
  have hg:growsS y.rs (vecM m w)=false:=by simpa using hg
  exact ⟨fun x=>(by cases x),fun _=>⟨⟨h.sp,⟨_,j.drop ok hg⟩,h.len.drop⟩,left_drop⟩⟩
end
structure SpanJ (n:Nat) (C:List (List Rat)) (rs:List SRow):Prop where
 rows:∀ r,r ∈ rs→SpanV n C (vf r.v)
 kept:∀ c,c ∈ C→SpanV n (rowsS rs) (vf c)
section
variable {n B:Nat}{C:List (List Rat)}{rs:List SRow}{w:List Rat}
theorem SpanJ.nil:SpanJ n [] []:=⟨fun _ h=>(by cases h),fun _ h=>(by cases h)⟩
theorem SpanJ.add (j:SpanJ n C rs)(e:Ech n rs)(hl:w.length=n):SpanJ n (C++[w]) (addS rs w):=by
 have hs:=redV_span rs w
 rw [hl] at hs
 have hm:∀ {u:Nat→Rat},SpanV n C u→SpanV n (C++[w]) u:=fun h=>h.mono fun b hb=>List.mem_append.2 (.inl hb)
 have hC:∀ {u:Nat→Rat},SpanV n (rowsS rs) u→SpanV n (C++[w]) u:=fun h=>h.trans fun b hb=>by
  obtain ⟨r,hr,rfl⟩:=mm9 hb
  exact hm (j.rows r hr)
 unfold addS
 split
 ·refine ⟨fun r hr=>?_,fun u hu=>?_⟩
  ·rcases mp9 hr with hr|hr
   ·exact hm (j.rows r hr)
   ·rw [ms9 hr]
    have h1:SpanV n (C++[w]) (vf w):=.mem (List.mem_append.2 (.inr (List.mem_singleton.2 rfl)))
    refine (h1.plus ((hC hs).smul (-1))).congr fun i _=>?_
    show (redV rs w).getD i 0=w.getD i 0 + -1*(w.getD i 0-(redV rs w).getD i 0)
    rw [Rat.neg_mul,Rat.one_mul,Rat.neg_sub,Rat.sub_eq_add_neg,Rat.add_comm (w.getD i 0),Rat.add_assoc,Rat.neg_add_cancel,Rat.add_zero]
  ·rw [rowsS_app]
   rcases mp9 hu with hu|hu
   ·exact (j.kept u hu).mono fun b hb=>List.mem_append.2 (.inl hb)
   ·rw [ms9 hu]
    have h1:=hs.mono (C:=rowsS rs++[redV rs w]) fun b hb=>List.mem_append.2 (.inl hb)
    have h2:SpanV n (rowsS rs++[redV rs w]) (vf (redV rs w)):=.mem (List.mem_append.2 (.inr (List.mem_singleton.2 rfl)))
    refine (h1.plus h2).congr fun i _=>?_
    show w.getD i 0=w.getD i 0-(redV rs w).getD i 0+(redV rs w).getD i 0
    rw [Rat.sub_add_cancel]
 ·rename_i hg
  refine ⟨fun r hr=>hm (j.rows r hr),fun u hu=>?_⟩
  rcases mp9 hu with hu|hu
  ·exact j.kept u hu
  ·rw [ms9 hu]
   exact (grows_iff e hl).1 (by simpa using hg)
end
section
variable {m:Mach}{B e:Nat}{L K V V2:List (List Int)}{u:List Int}{r1 r2:List SRow}
theorem view_len:(viewM m L u).length=L.length:=by simp [viewM]
end
section
variable {a b:Au}{B N e:Nat}
theorem lsum_szA {α:Type}{f:α→Rat}{C:Nat}:∀ {l:List α},(∀ x,x ∈ l→sz (f x)≤C)→sz (lsum f l)≤l.length*(C+1)+1
 | [],_=>by rw [lsum,sz_zero];simp
 | x::l,h=>by
  have h1:=lsum_szA (f:=f) (l:=l) fun y hy=>h y (List.mem_cons_of_mem _ hy)
  have h2:=h x mc9
  have:=sz_add (f x) (lsum f l)
  rw [lsum,List.length_cons,Nat.succ_mul];omega
theorem entA_sz {l:List Arc9}(h1:1≤B)(hz:∀ x,x ∈ l→sz x.q≤B)(s i j:Nat):sz (entA l s i j)≤l.length*(B+1)+1:=by
 refine lsum_szA fun x hx=>?_
 split
 ·exact hz x hx
 ·rw [sz_zero];exact h1
structure Au.Few (a:Au):Prop where
 st:a.st≤6
 ini:Small 24 a.ini
 fin:Small 24 a.fin
 ent:∀ s i j,sz (entA a.arcs s i j)≤24
theorem Au.Sz.few (h:a.Sz 1 10)(hs:a.st≤6):a.Few :=
 ⟨hs,fun q hq=>Nat.le_trans (h.ini q hq) (by decide),fun q hq=>Nat.le_trans (h.fin q hq) (by decide),fun s i j=>by
  have h1:=entA_sz (B:=1) (by decide) h.arc s i j
  have:=h.num
  have:=Nat.mul_le_mul_right 2 this
  omega⟩
theorem finL_small:∀ {l:List Au},(∀ a,a ∈ l→Small 24 a.fin)→Small 24 (finL l)
 | [],_=>fun q hq=>by cases hq
 | a :: r, h => fun q hq => by
  rcases mp9 hq with hq|hq
  ·exact h a mc9 q hq
  ·obtain ⟨b,hb,hq⟩:=List.mem_flatMap.1 hq
   obtain ⟨x,hx,rfl⟩:=mm9 hq
   rw [sz_neg];exact h b (List.mem_cons_of_mem _ hb) x hx
theorem entL_sz:∀ {l:List Au},(∀ a,a ∈ l→∀ s i j,sz (entA a.arcs s i j)≤24)→∀ s i j,sz (entL l s i j)≤24
 | [],_,s,i,j=>by rw [entL,sz_zero];decide
 | a :: r, h, s, i, j => by
  rw [entL]
  split
  ·split
   ·exact h a mc9 s i j
   ·rw [sz_zero];decide
  ·split
   ·rw [sz_zero];decide
   ·exact entL_sz (fun b hb=>h b (List.mem_cons_of_mem _ hb)) ..
theorem entM_out {m:Mach}{s i j:Nat}(h:(m.mats.getD s []).length≤i ∨ ((m.mats.getD s []).getD i []).length≤j):entM m s i j=0:=by
 unfold entM
 rcases h with h|h
 ·rw [gd9 (i:=i),List.getElem?_eq_none h];rfl
 ·exact getD_outQ h
theorem machL_sz {l:List Au}(hf:∀ a,a ∈ l→a.Few)(hn:sizeL l≤6)(hk:(l.getD 0 default).sym≤4):(machL l).Sz 24:=by
 refine ⟨hn,by rw [machL_k];exact hk,by decide,by decide,fun i=>?_,fun i=>?_,fun s i j=>?_⟩
 ·refine Small.get (fun q hq=>?_) (by decide) i
  obtain ⟨a,ha,hq⟩:=List.mem_flatMap.1 hq
  exact (hf a ha).ini q hq
 ·exact (finL_small fun a ha=>(hf a ha).fin).get (by decide) i
 ·have f:=machL_full l
  rcases Nat.lt_or_ge s (machL l).k with hs|hs
  ·rcases Nat.lt_or_ge i (machL l).n with hi|hi
   ·rcases Nat.lt_or_ge j (machL l).n with hj|hj
    ·rw [machL_ent (by rw [machL_k] at hs;exact hs) hi hj]
     exact entL_sz (fun a ha=>(hf a ha).ent) ..
    ·rw [entM_out (.inr (by rw [f.cols s hs i hi];exact hj)),sz_zero];decide
   ·rw [entM_out (.inl (by rw [f.rows s hs];exact hi)),sz_zero];decide
  ·rw [entM_out (.inl (by rw [gd9,List.getElem?_eq_none hs];exact Nat.zero_le _)),sz_zero];decide
end
end Go.AL
