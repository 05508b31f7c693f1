/-
  Walks of packages automaton, words, weigh: normal forms, valid words (printed by mk2.py).
-/
import Derived.Test.YteiohkpjgcioaaaGreatDoorKWkB
import Derived.Test.YteiohkpjgcioaaaGreatDoorKWkH
set_option linter.unusedVariables false
set_option linter.unusedSimpArgs false
namespace Go.AL
open Go Go.BigFrame
theorem sumN_szC {f:Nat→Rat}{C:Nat}:∀ {n:Nat},(∀ i,i<n→sz (f i)≤C)→sz (sumN f n)≤n*(C+1)+1
 | 0,_=>by rw [sumN,sz_zero];omega
 | n+1,h=>by
  have h1:=sumN_szC (f:=f) (C:=C) (n:=n) fun i hi=>h i (by omega)
  have h2:=h n (by omega)
  have h3:=sz_add (sumN f n) (f n)
  rw [sumN,Nat.succ_mul];omega
structure Mach.Sz (m:Mach) (e:Nat):Prop where
 n6:m.n≤6
 k2:m.k≤4
 e1:1≤e
 e24:e≤24
 ini:∀ i,sz (m.ini.getD i 0)≤e
 fin:∀ i,sz (m.fin.getD i 0)≤e
 ent:∀ s i j,sz (entM m s i j)≤e
structure Mach.Full (m:Mach):Prop where
 rows:∀ s,s<m.k→(m.mats.getD s []).length=m.n
 cols:∀ s,s<m.k→∀ i,i<m.n→((m.mats.getD s []).getD i []).length=m.n
structure SpOK (n B:Nat) (rs:List SRow):Prop where
 ech:Ech n rs
 sz:SzR B rs
 len:∀ r,r ∈ rs→r.v.length=n
 cl:∀ (k:Nat) (r:SRow),rs[k]? = some r→r.c.length=k+1
section
variable {n B:Nat}{rs:List SRow}{w:List Rat}
theorem SpOK.nil:SpOK n B []:=⟨⟨fun _ h=>(by cases h),List.Pairwise.nil⟩,SzR.nil,fun _ h=>(by cases h),fun _ _ h=>(by cases h)⟩
theorem SpOK.grow (h:SpOK n B rs)(hw:w.length=n)(h1:1≤B)(hz:∀ i,AL.sz (w.getD i 0)≤B)(g:growsS rs w=true):SpOK n B (rs++[newR rs w]):=by
 have hp:firstP (redV rs w)<(redV rs w).length:=dt9 g
 refine ⟨h.ech.grow hw _ (by rw [redV_len,hw] at hp;exact hp) (firstP_nz hp),h.sz.grow h1 hz,fun r hr=>?_,fun k r hk=>?_⟩
 ·rcases mp9 hr with hr|hr
  ·exact h.len r hr
  ·rw [ms9 hr];show (redV rs w).length=n;rw [redV_len,hw]
 ·rcases Nat.lt_or_ge k rs.length with hi|hi
  ·rw [List.getElem?_append_left hi] at hk;exact h.cl k r hk
  ·rw [List.getElem?_append_right hi] at hk
   rcases Nat.eq_zero_or_pos (k-rs.length) with h0|h0
   ·rw [h0] at hk
    cases hk
    show (byS rs w).length=k+1
    rw [byS_len];omega
   ·rw [List.getElem?_eq_none (by rw [ls9];exact h0)] at hk;cases hk
theorem SpOK.add (h:SpOK n B rs)(hw:w.length=n)(h1:1≤B)(hz:∀ i,AL.sz (w.getD i 0)≤B):SpOK n B (addS rs w):=by
 unfold addS
 split
 ·exact h.grow hw h1 hz ‹_›
 ·exact h
theorem SpOK.le (h:SpOK n B rs):rs.length≤n:=h.ech.len
end
structure DSt where
 o:Option (List Int)
 rs:List SRow
def keepD (m:Mach)(w:List Int)(y:DSt):Bool × DSt :=
 if y.o.isSome=true then (false,y) else if wtM m w≠0 then (false,⟨some w,y.rs⟩) else (growsS y.rs (vecM m w),⟨none,addS y.rs (vecM m w)⟩)
def ansD (m:Mach)(Q:List (List Int))(y:DSt):Prop :=
 match y.o with
 | some w=>FirstNZ m w∧w.length≤6
 | none=>∃ V K,Join m V K Q y.rs∧ZeroK m K∧LenK K Q
structure InvE (m:Mach) (B:Nat) (Q:List (List Int)) (y:DSt):Prop where
 len:∀ q,q ∈ Q→q.length≤6
 sp:SpOK m.n B y.rs
 ans:ansD m Q y
def muD (m:Mach)(Q:List (List Int))(y:DSt):Nat :=
 match y.o with
 | some _=>Q.length
 | none=>leftM m Q y.rs
section
variable {m:Mach}{B:Nat}{Q V K:List (List Int)}{w:List Int}{y:DSt}{rs:List SRow}
theorem LenK.six (h:LenK K Q)(j:Join m V K Q rs)(n6:m.n≤6):∀ q,q ∈ Q→q.length≤6:=fun q hq=>by
 have:=h.open_ q hq
 have:=j.len
 have:=j.le
 omega
theorem InvE.start (m:Mach)(B:Nat):InvE m B [[]] ⟨none,[]⟩ :=
 ⟨fun q hq=>by rw [ms9 hq];exact Nat.zero_le _,SpOK.nil,[],[],Join.start m,fun _ h=>(by cases h),LenK.start⟩
theorem InvE.next (ok:m.Ok)(n6:m.n≤6)(h1:1≤B)(hz:∀ i,sz ((vecM m w).getD i 0)≤B)(h:InvE m B (w::Q) y) :
  ((keepD m w y).1=true→InvE m B (Q++kidsW m.k w) (keepD m w y).2∧muD m (Q++kidsW m.k w) (keepD m w y).2<muD m (w::Q) y)∧((keepD m w y).1=false→InvE m B Q (keepD m w y).2∧muD m Q (keepD m w y).2<muD m (w::Q) y):=by
 obtain ⟨o,rs⟩:=y
 have hlq:∀ q,q ∈ Q→q.length≤6:=fun q hq=>h.len q (List.mem_cons_of_mem _ hq)
 cases o with
 | some u =>
  have e:keepD m w ⟨some u,rs⟩ = (false,⟨some u,rs⟩):=if_pos rfl
  rw [e]
  exact ⟨fun x=>(by cases x),fun _=>⟨⟨hlq,h.sp,h.ans⟩,Nat.lt_succ_self _⟩⟩
 | none =>
  obtain ⟨V,K,j,hzk,hl⟩:∃ V K,Join m V K (w::Q) rs∧ZeroK m K∧LenK K (w::Q):=h.ans
  have hsp:SpOK m.n B rs:=h.sp
  have hno:¬ ((⟨none,rs⟩:DSt).o.isSome=true):=fun x=>by cases x
  by_cases hw:wtM m w≠0
  ·have e:keepD m w ⟨none,rs⟩ = (false,⟨some w,rs⟩):=by unfold keepD;rw [if_neg hno,if_pos hw]
   rw [e]
   refine ⟨fun x=>(by cases x),fun _=>⟨⟨hlq,hsp,j.bfs.first hzk hw,h.len w mc9⟩,?_⟩⟩
   show Q.length<leftM m (w::Q) rs
   unfold leftM;rw [List.length_cons];omega
  ·have e:keepD m w ⟨none,rs⟩ = (growsS rs (vecM m w),⟨none,addS rs (vecM m w)⟩):=by unfold keepD;rw [if_neg hno,if_neg hw]
   rw [e]
   have hadd:=hsp.add (vecM_len ok w) h1 hz
   have hw0:wtM m w=0:=Decidable.byContradiction hw
   refine ⟨fun hg=>?_,fun hg=>?_⟩
   ·have hg:growsS rs (vecM m w)=true:=hg
    show InvE m B (Q++kidsW m.k w) ⟨none,addS rs (vecM m w)⟩ ∧ leftM m (Q++kidsW m.k w) (addS rs (vecM m w))<leftM m (w::Q) rs
    rw [show addS rs (vecM m w)=rs++[newR rs (vecM m w)] from if_pos hg] at hadd ⊢
    have j2:=j.keep ok hg
    have hl2:LenK (K++[w]) (Q++kidsW m.k w):=hl.keep
    exact ⟨⟨hl2.six j2 n6,hadd,_,_,j2,hzk.add hw0,hl2⟩,left_keep ok j hg⟩
   ·have hg:growsS rs (vecM m w)=false:=hg
    show InvE m B Q ⟨none,addS rs (vecM m w)⟩ ∧ leftM m Q (addS rs (vecM m w))<leftM m (w::Q) rs
    rw [show addS rs (vecM m w)=rs from if_neg (by rw [hg];exact Bool.false_ne_true)] at hadd ⊢
    exact ⟨⟨hlq,hsp,_,_,j.drop ok hg,hzk,hl.drop⟩,left_drop⟩
theorem InvE.done (h:InvE m B [] y):y.o=firstNZ m:=by
 obtain ⟨o,rs⟩:=y
 cases o with
 | some u=>exact (firstNZ_eq (o:=some u) h.ans.1).symm
 | none =>
  obtain ⟨V,K,j,hzk,_⟩:∃ V K,Join m V K [] rs∧ZeroK m K∧LenK K []:=h.ans
  exact (firstNZ_eq (o:=none) fun w hw=>j.bfs.none hzk w hw).symm
structure KSt where
 ks:List (List Int)
 rs:List SRow
def keepB (m:Mach)(w:List Int)(y:KSt):Bool × KSt:=if growsS y.rs (vecM m w)=true then (true,⟨y.ks++[w],y.rs++[newR y.rs (vecM m w)]⟩) else (false,y)
structure InvB (m:Mach) (B:Nat) (Q:List (List Int)) (y:KSt):Prop where
 sp:SpOK m.n B y.rs
 join:∃ V,Join m V y.ks Q y.rs
 len:LenK y.ks Q
theorem InvB.start (m:Mach)(B:Nat):InvB m B [[]] ⟨[],[]⟩:=⟨SpOK.nil,⟨[],Join.start m⟩,LenK.start⟩
theorem InvB.six {y:KSt}(h:InvB m B Q y)(n6:m.n≤6):∀ q,q ∈ Q→q.length≤6:=have ⟨_,j⟩:=h.join;h.len.six j n6
theorem InvB.few {y:KSt}(h:InvB m B Q y):y.ks.length=y.rs.length∧y.ks.length≤m.n:=by
 obtain ⟨V,j⟩:=h.join
 have:=j.len
 have:=j.le
 omega
theorem InvB.next {y:KSt}(ok:m.Ok)(h1:1≤B)(hz:∀ i,sz ((vecM m w).getD i 0)≤B)(h:InvB m B (w::Q) y) :
  ((keepB m w y).1=true→InvB m B (Q++kidsW m.k w) (keepB m w y).2∧leftM m (Q++kidsW m.k w) (keepB m w y).2.rs<leftM m (w::Q) y.rs)∧((keepB m w y).1=false→InvB m B Q (keepB m w y).2∧leftM m Q (keepB m w y).2.rs<leftM m (w::Q) y.rs):=by
 obtain ⟨V,j⟩:=h.join
 unfold keepB
 by_cases hg:growsS y.rs (vecM m w)=true
 ·rw [if_pos hg]
  exact ⟨fun _=>⟨⟨h.sp.grow (vecM_len ok w) h1 hz hg,⟨_,j.keep ok hg⟩,h.len.keep⟩,left_keep ok j hg⟩,fun x=>by cases x⟩
 ·rw [if_neg hg]
  have hg:growsS y.rs (vecM m w)=false:=by simpa using hg
  exact ⟨fun x=>(by cases x),fun _=>⟨⟨h.sp,⟨_,j.drop ok hg⟩,h.len.drop⟩,left_drop⟩⟩
end
structure SpanJ (n:Nat) (C:List (List Rat)) (rs:List SRow):Prop where
 rows:∀ r,r ∈ rs→SpanV n C (vf r.v)
 kept:∀ c,c ∈ C→SpanV n (rowsS rs) (vf c)
section
variable {n B:Nat}{C:List (List Rat)}{rs:List SRow}{w:List Rat}
theorem SpanJ.nil:SpanJ n [] []:=⟨fun _ h=>(by cases h),fun _ h=>(by cases h)⟩
theorem SpanJ.add (j:SpanJ n C rs)(e:Ech n rs)(hl:w.length=n):SpanJ n (C++[w]) (addS rs w):=by
 have hs:=redV_span rs w
 rw [hl] at hs
 have hm:∀ {u:Nat→Rat},SpanV n C u→SpanV n (C++[w]) u:=fun h=>h.mono fun b hb=>List.mem_append.2 (.inl hb)
 have hC:∀ {u:Nat→Rat},SpanV n (rowsS rs) u→SpanV n (C++[w]) u:=fun h=>h.trans fun b hb=>by
  obtain ⟨r,hr,rfl⟩:=mm9 hb
  exact hm (j.rows r hr)
 unfold addS
 split
 ·refine ⟨fun r hr=>?_,fun u hu=>?_⟩
  ·rcases mp9 hr with hr|hr
   ·exact hm (j.rows r hr)
   ·rw [ms9 hr]
    have h1:SpanV n (C++[w]) (vf w):=.mem (List.mem_append.2 (.inr (List.mem_singleton.2 rfl)))
    refine (h1.plus ((hC hs).smul (-1))).congr fun i _=>?_
    show (redV rs w).getD i 0=w.getD i 0 + -1*(w.getD i 0-(redV rs w).getD i 0)
    rw [Rat.neg_mul,Rat.one_mul,Rat.neg_sub,Rat.sub_eq_add_neg,Rat.add_comm (w.getD i 0),Rat.add_assoc,Rat.neg_add_cancel,Rat.add_zero]
  ·rw [rowsS_app]
   rcases mp9 hu with hu|hu
   ·exact (j.kept u hu).mono fun b hb=>List.mem_append.2 (.inl hb)
   ·rw [ms9 hu]
    have h1:=hs.mono (C:=rowsS rs++[redV rs w]) fun b hb=>List.mem_append.2 (.inl hb)
    have h2:SpanV n (rowsS rs++[redV rs w]) (vf (redV rs w)):=.mem (List.mem_append.2 (.inr (List.mem_singleton.2 rfl)))
    refine (h1.plus h2).congr fun i _=>?_
    show w.getD i 0=w.getD i 0-(redV rs w).getD i 0+(redV rs w).getD i 0
    rw [Rat.sub_add_cancel]
 ·rename_i hg
  refine ⟨fun r hr=>hm (j.rows r hr),fun u hu=>?_⟩
  rcases mp9 hu with hu|hu
  ·exact j.kept u hu
  ·rw [ms9 hu]
   exact (grows_iff e hl).1 (by simpa using hg)
end
section
variable {a b:Au}{B N e:Nat}
theorem lsum_szA {α:Type}{f:α→Rat}{C:Nat}:∀ {l:List α},(∀ x,x ∈ l→sz (f x)≤C)→sz (lsum f l)≤l.length*(C+1)+1
 | [],_=>by rw [lsum,sz_zero];simp
 | x::l,h=>by
  have h1:=lsum_szA (f:=f) (l:=l) fun y hy=>h y (List.mem_cons_of_mem _ hy)
  have h2:=h x mc9
  have:=sz_add (f x) (lsum f l)
  rw [lsum,List.length_cons,Nat.succ_mul];omega
theorem entA_sz {l:List Arc9}(h1:1≤B)(hz:∀ x,x ∈ l→sz x.q≤B)(s i j:Nat):sz (entA l s i j)≤l.length*(B+1)+1:=by
 refine lsum_szA fun x hx=>?_
 split
 ·exact hz x hx
 ·rw [sz_zero];exact h1
structure Au.Few (a:Au):Prop where
 st:a.st≤6
 ini:Small 24 a.ini
 fin:Small 24 a.fin
 ent:∀ s i j,sz (entA a.arcs s i j)≤24
theorem Au.Sz.few (h:a.Sz 1 10)(hs:a.st≤6):a.Few :=
 ⟨hs,fun q hq=>Nat.le_trans (h.ini q hq) (by decide),fun q hq=>Nat.le_trans (h.fin q hq) (by decide),fun s i j=>by
  have h1:=entA_sz (B:=1) (by decide) h.arc s i j
  have:=h.num
  have:=Nat.mul_le_mul_right 2 this
  omega⟩
end
end Go.AL
namespace Go.Proofs.YteiohkpjgcioaaaGreatDoor
open Go Go.AL
theorem take_snoc {α:Type}{l:List α}{i:Nat}(d:α)(hi:i<l.length):l.take (i+1)=l.take i++[l.getD i d]:=by
 rw [List.take_succ_eq_append_getElem hi,gd9,ge9 hi];rfl
def normOf (a:Au):Au:={ a with arcs:=tidyA a.arcs }
theorem normOf_lab {a:Au}(h:a.Ok):∀ x,x ∈ (normOf a).arcs→1≤x.l:=PlaceA.tidy (p:=fun _ l _=>1≤l) fun x hx=>(h.arc x hx).2.2.1
theorem tidyA_len (l:List Arc9):(tidyA l).length≤l.length:=by
 unfold tidyA nzA
 refine Nat.le_trans (List.length_filter_le ..) ?_
 have h:=outA_len (sortA l) (sortA l).length
 unfold outA at h
 rw [List.take_length] at h
 have:(sortA l).length=l.length:=sortG_len ..
 omega
theorem indexAc {l:List Arc9}{f:Nat}{caps:List V}{p:Arc9→Bool}(hf:∀ x,x ∈ l→FSpec P f (vArc x::caps) (.d (dB (p x))))(nl:l.length≤1099511627776):FSpec P F.slices_IndexFunc_Arc_Arc [.d (dArcs l),.fn f caps] (.d (dI (idx1 p l))):=by
 refine FSpec.intro fn.slices_IndexFunc_Arc_Arc (by rfl) (by rfl) (nb9 (by rfl)) fun E hE=>(AW.sg hE rfl (asD rfl (OL.nil (AW.seq (AW.sg hE rfl (mvD rfl (lnL sl.Arcs rfl rfl ?_)))))))
 refine mvD rfl (OL.nil (AW.block ?_))
 refine AW.whileK (α:=Nat) [(0,_),(1,_),(7,_)] [] (fun i=>[(8,.d (dI i))]) (fun i=>[]) (fun i=>i≤l.length∧∀ j,j<i→p (l.getD j default)=false) (fun i=>l.length-i) 0 (.cons (knD rfl) (.cons (knF rfl) (.cons (knD rfl) .nil))) .nil ⟨⟨Nat.zero_le _,fun j hj=>by omega⟩,.rq1,.nil⟩ ?_
 rintro i ⟨h1,h2⟩
 refine AW.sg hE rfl (c_lss rfl rfl rfl (OL.nil (AW.seq (AW.cond rfl (fun h9=>?_) (fun h9=>?_)))))
 ·try simp only [dx9] at h9
  refine AW.skip (AW.seq (AW.block (AW.sg hE rfl (mvD rfl (asD rfl (OL.nil (AW.sg hE rfl ?_)))))))
  refine mvF rfl (mvD rfl (mvD rfl (ixLn sl.Arcs default rfl rfl (by omega) rfl rfl (ldRA ag.Arc rfl (vs:=[_,_,_,_,_,_,_,_,_,_,_]) rfl (nb9 rfl) (clv rfl (.cons vR vL) (hf (l.getD i default) (getD_mem (by omega) _)) (OL.nil (AW.cond rfl (fun h16=>?_) (fun h16=>?_))))))))
  ·have h16:=h16
   exact AW.sg hE rfl (mvD rfl (asD rfl (OL.nil (AW.ret (RetQ.r ⟨_,.tmp rfl .nil,.le (VLe.int ((idx1_found (by omega) default h16 h2).symm))⟩)))))
  ·have h16:=h16
   refine AW.skip (AW.rg hE rfl (add_i64 rfl rfl (by omega) (mvD rfl (OL.nil ?_))))
   exact AW.again (x:=i) (i+1) (by omega) ⟨⟨by omega,fun j hj=>by rcases Nat.lt_or_ge j i with h|h;exact h2 j h;obtain rfl:j=i:=(by omega);exact h16⟩,Knows.app .rq3 .rq1,.nil⟩
 ·try simp only [dx9] at h9
  exact AW.exit (AW.sg hE rfl (asD rfl (OL.nil (AW.ret (RetQ.r ⟨_,.tmp rfl .nil,.le (VLe.int ((idx1_none default fun j hj=>h2 j (by omega)).symm))⟩)))))
theorem containsAc {l:List Arc9}{f:Nat}{caps:List V}{p:Arc9→Bool}(hf:∀ x,x ∈ l→FSpec P f (vArc x::caps) (.d (dB (p x))))(nl:l.length≤1099511627776):FSpec P F.slices_ContainsFunc_Arc_Arc [.d (dArcs l),.fn f caps] (.d (dB (l.any p))):=by
 refine FSpec.intro fn.slices_ContainsFunc_Arc_Arc (by rfl) (by rfl) (nb9 (by rfl)) fun E hE=>(AW.sg hE rfl (asD rfl (OL.nil (AW.sg hE rfl (mvD rfl (mvF rfl (clv rfl vL (indexAc hf nl) ?_)))))))
 exact c_geq rfl rfl rfl (asD rfl (OL.nil (AW.ret (RetQ.r ⟨_,.tmp rfl .nil,.le (VLe.bool (idx1_any p l))⟩))))
theorem CopyR {l:List Rat}(nl:l.length≤64)(hz:∀ x,x ∈ l→sz x≤134217728):FSpec P F.automaton_Copy [vRing,.d (dWs l)] (.d (dWs l)):=by
 refine FSpec.intro fn.automaton_Copy (by rfl) (by rfl) (nb9 (by rfl)) fun E hE=>(AW.sg hE rfl (bxA rfl rfl fun b2=>(asM rfl (OL.nil (AW.sg hE rfl (asM rfl (OL.nil ?_)))))))
 refine AW.seq (AW.seq (AW.own 5 21 T.Weight 8 rfl rfl (AW.rg hE rfl (mvD rfl (lnL sl.Weights rfl rfl (mvD rfl (OL.nil ?_)))))))
 refine AW.block ?_
 refine AW.whileK (α:=Nat × Nat × Nat) [(2,_),(4,_),(8,_),(9,_)] [(2,_)] (fun (i,bq,cq)=>[(5,.osl 21 bq i cq),(10,.d (dI i))]) (fun (i,bq,cq)=>[(21,.row bq cq T.Weight 8 ((l.take i).map dW))]) (fun (i,bq,cq)=>i≤l.length) (fun (i,bq,cq)=>l.length-i) (0,0,0) (.cons (knP rfl) (.cons (knM rfl) (.cons (knD rfl) (.cons (knD rfl) .nil)))) (.cons (owB rfl) .nil) ⟨Nat.zero_le _,.rq2,.cons rfl .nil⟩ ?_
 rintro ⟨i,bq,cq⟩ h1
 have h1:i≤l.length:=h1
 refine AW.sg hE rfl (c_lss rfl rfl rfl (OL.nil (AW.seq (AW.cond rfl (fun h11=>?_) (fun h11=>?_)))))
 ·try simp only [dx9] at h11
  refine AW.skip (AW.seq (AW.block (AW.seq ?_)))
  have hx:=hz (l.getD i 0) (getD_mem (by omega) 0)
  refine AW.rg hE rfl (ixLn sl.Weights 0 rfl rfl (by omega) rfl rfl (ldRA ag.Weight rfl (vs:=[_,_,_,_,_,_,_,_]) rfl (nb9 rfl) (al z.Weight rfl fun b7=>(sto sz.Weight rfl rfl rfl rfl rfl (nb9 rfl) (cells2:=[_,_,_,_,_,_,_,_]) rfl (OL.nil (AW.dg 2 [0,1,2,3,4,5,6,7,8] order_free hE rfl (by kernel_rfl) (OI.of_OL (os:=[_,_,_,_,_,_,_,_,_]) rfl ?_)))))))
  refine mvO rfl (ldPA ag.Ring rfl rfl (vs:=[_,_]) rfl (nb9 rfl) (ldPA ag.Weight rfl rfl (vs:=[_,_,_,_,_,_,_,_]) rfl (nb9 rfl) (ldPA ag.Ring rfl rfl (vs:=[_,_]) rfl (nb9 rfl) (clv rfl vL (ZeroR) (clv rfl vL (PlusR (p:=(l.getD i 0)) (q:=0) (by omega) z0K) ?_)))))
  rw [Rat.add_zero]
  refine lt1 (y:=dW (l.getD i 0)) sl.Weights vd_w rfl (by decide) ?_
  refine apO sl.Weights rfl rfl rfl (by rw [lm9,List.length_take];omega) (VC.d _) (fun y hy=>by rw [ms9 hy];rfl) (by simp;omega) (by simp;omega) (.inr rfl) (ys:=(l.take (i+1)).map dW) (by rw [take_snoc 0 (show i<l.length by omega),List.map_append];rfl) (n2:=i+1) rfl fun b2 c2=>?_
  refine asO rfl (OL.nil (AW.rg hE rfl (add_i64 rfl rfl (by omega) (mvD rfl (OL.nil ?_)))))
  exact AW.again (x:=(i,bq,cq)) (i+1,b2,c2) (by (simp only [];omega)) ⟨by omega,Knows.app .rq4 .rq2,Owns.app (.cons rfl .nil) (.cons rfl .nil)⟩
 ·try simp only [dx9] at h11
  refine AW.exit (AW.seq ?_)
  obtain rfl:i=l.length:=by omega
  refine AW.freeze 21 rfl (AW.to [(5,.d (dWs l))] [] (.cons (frz_osl (by rw [lm9,List.length_take,Nat.min_self]) (by rw [List.take_length])) .nil) .nil ?_)
  exact AW.rg hE rfl (mvD rfl (asD rfl (OL.nil (AW.ret (RetQ.r ⟨_,.tmp rfl .nil,.le vR⟩)))))
theorem ringR  : FSpec P F.automaton_ring [vRing] (vRing):=by
 refine FSpec.intro fn.automaton_ring (by rfl) (by rfl) (nb9 (by rfl)) fun E hE=>(AW.sg hE rfl (bxA rfl rfl fun b1=>(al z.Ring rfl fun b2=>(OL.nil (AW.seq (AW.dg 1 [0,1,2,3,4,5,6] order_free hE rfl (by kernel_rfl) (OI.of_OL (os:=[_,_,_,_,_,_,_]) rfl ?_)))))))
 refine faP fd.Ring_0 rfl rfl (ldPC ce.int rfl rfl rfl (faP fd.Ring_1 rfl rfl (ldPC ce.ints rfl rfl rfl (clv rfl vL (clone_ints (l:=[]) (by decide)) (bd z.Ring pl.Ring (cs:=[_,_]) rfl (sto sz.Ring rfl rfl rfl rfl rfl (nb9 rfl) (cells2:=[_,_]) rfl (OL.nil ?_)))))))
 exact AW.ret (RetQ.r ⟨_,.cellA rfl rfl ag.Ring (nb9 rfl) .nil,.ag (.cons (.le vR) (.cons (.le vR) .nil))⟩)
theorem Ready_1 {x:Arc9}(hx:1≤x.l):FSpec P F.weigh_Ready_1 [vArc x] (.d (dB false)):=by
 refine FSpec.intro fn.weigh_Ready_1 (by rfl) (by rfl) (nb9 (by rfl)) fun E hE=>(AW.sg hE rfl (bxA rfl rfl fun b1=>(asD rfl (OL.nil (AW.sg hE rfl (faP fd.Arc_1 rfl rfl (ldPC ce.int rfl rfl rfl ?_)))))))
 exact c_eql rfl rfl (c:=false) (by exact decide_eq_false (by omega)) (asD rfl (OL.nil (AW.ret (RetQ.r ⟨_,.tmp rfl .nil,.le vR⟩))))
end Go.Proofs.YteiohkpjgcioaaaGreatDoor
