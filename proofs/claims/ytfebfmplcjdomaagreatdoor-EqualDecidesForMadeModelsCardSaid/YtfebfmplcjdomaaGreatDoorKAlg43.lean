/-
  AL, part 43: a call that reads an owned row as data, and answers a number.
-/
import Derived.Test.YtfebfmplcjdomaaGreatDoorKWkW
import Derived.Test.YtfebfmplcjdomaaGreatDoorKAlg41
set_option linter.unusedVariables false
set_option linter.unusedSimpArgs false
namespace Go.Proofs.YtfebfmplcjdomaaGreatDoor
open Go Go.AL
theorem fc.Auto_3:FieldC P T.Auto 3 4:=⟨by kernel_rfl⟩
theorem ints_len {l:List Int}:∀ y,y ∈ l.map dI→y.cells.length=1:=fun y hy=>by obtain ⟨a,_,rfl⟩:=List.mem_map.1 hy;rfl
structure Au.Wt (a:Au):Prop where
 ok:a.Ok
 sz:a.Sz 1 10
 s2:a.sym≤32
 st:a.st≤64
theorem Au.Wt.wide {a:Au} (f:Au.Wt a):a.Sz 1048576 20:=Go.AL.Au.Sz.wide f.sz
theorem step_sz {a:Au} (f:Au.Wt a) {v:List Rat} {B s i j:Nat} (hv:∀ i,sz (v.getD i 0)≤B):sz ((stepF a.st v s (a.arcs.take i)).getD j 0)≤10 * (B+2)+1:=by
 have h2:(a.arcs.take i).length≤a.arcs.length:=by rw [List.length_take];exact Nat.min_le_right ..
 exact stepF_sz hv (fun x hx=>⟨(f.ok.arc x (List.mem_of_mem_take hx)).2.1,f.sz.arc x (List.mem_of_mem_take hx)⟩) (Nat.le_trans h2 f.sz.num)
theorem addF_t {v out:List Rat} {s:Nat} {x:Arc9} (h:x.l=s):addF v s out x=out.set x.t (out.getD x.t 0+v.getD x.f 0 * x.q):=if_pos h
theorem addF_f {v out:List Rat} {s:Nat} {x:Arc9} (h:¬ x.l=s):addF v s out x=out:=if_neg h
theorem r8Plain {a:Au} (f:Au.Wt a):FSpec P F.ref08_Plain [vAu a] (.d (dB true)):=by
 have e3:=f.wide.num
 have e4:=formA_len a.arcs
 have hfo:∀ x,x ∈ formA a.arcs→x.f < a.st∧x.t < a.st∧1≤x.l∧x.l≤a.sym:=f.ok.form.arc
 refine FSpec.intro fn.ref08_Plain (by rfl) (by rfl) (nb9 (by rfl)) fun E hE=>(AW.sg hE rfl (bxA rfl rfl fun b1=>(asD rfl (OL.nil (AW.sg hE rfl (faP fd.Auto_0 rfl rfl (ldPA ag.Ring rfl rfl (vs:=[_,_]) rfl (nb9 rfl) ?_)))))))
 refine faP fd.Auto_5 rfl rfl (ldPC ce.Arcs rfl rfl rfl (clv rfl (.cons (VLe.refl _) (.cons (VLe.refl _) (.nil))) (r6Arcs (l:=a.arcs) e3 f.wide.arc) (asD rfl (OL.nil (AW.seq (AW.sg hE rfl (asD rfl ?_)))))))
 refine OL.nil (AW.block (AW.whileK (α:=Nat) [(3,_)] [] (fun i=>[(4,.d (dI i))]) (fun i=>[]) (fun i=>i≤(formA a.arcs).length) (fun i=>(formA a.arcs).length - i) 0 (.cons (knD rfl) .nil) .nil ⟨Nat.zero_le _,.rq1,.nil⟩ ?_))
 rintro i h1
 have h1:i≤(formA a.arcs).length:=h1
 refine AW.seq (AW.sg hE rfl (mvD rfl (mvD rfl (lnL sl.Arcs rfl rfl (c_lss rfl rfl rfl (OL.nil (AW.cond rfl (fun h13=>?_) (fun h13=>?_))))))))
 ·try simp only [dx9] at h13
  refine AW.skip (AW.seq (AW.block (AW.seq ?_)))
  have hx:=(hfo ((formA a.arcs).getD i default) (getD_mem (by omega) default)).2.2.1
  refine AW.rg hE rfl (mvD rfl (mvD rfl (ixLn sl.Arcs default rfl rfl (by omega) rfl rfl (faR fd.Arc_1 rfl rfl (ldRC ce.int rfl (c_eql rfl rfl (c:=false) (by exact decide_eq_false (by omega)) (OL.nil ?_)))))))
  refine AW.cond rfl (fun hno=>absurd hno (by decide)) (fun _=>?_)
  exact AW.skip (AW.rg hE rfl (mvD rfl (add_i64 rfl rfl (by omega) (asD rfl (OL.nil (AW.again (x:=i) (i+1) (by omega) ⟨by omega,Knows.app .rq1 .rq1,.nil⟩))))))
 ·try simp only [dx9] at h13
  exact AW.exit (AW.sg hE rfl (asD rfl (OL.nil (AW.ret (RetQ.r ⟨_,.tmp rfl .nil,.le (VLe.refl _)⟩)))))
end Go.Proofs.YtfebfmplcjdomaaGreatDoor

set_option linter.unusedVariables false
set_option linter.unusedSimpArgs false
namespace Go.AL
open Go Go.BigFrame
section
variable {m:Mach} {B k:Nat} {V K Q:List (List Int)} {w u:List Int} {rs:List SRow} {y:KSt} {v:List Rat} {r:SRow}
def nextW (k:Nat) (K:List (List Int)):List (List Int):=[] :: K.flatMap (kidsW k)
theorem nextW_snoc:nextW k (K ++ [w])=nextW k K ++ kidsW k w:=by
 unfold nextW
 rw [List.flatMap_append,List.flatMap_cons,List.flatMap_nil,List.append_nil,List.cons_append]
structure InvS (m:Mach) (B:Nat) (Q:List (List Int)) (y:KSt):Prop where
 sp:SpOK m.n B y.rs
 join:∃ V,Join m V y.ks Q y.rs∧V ++ Q=nextW m.k y.ks
 len:LenK y.ks Q
 lead:∀ r,r ∈ y.rs→r.p=firstP r.v
 ord:y.ks.Pairwise fun a b=>slx a b < 0
theorem InvS.start (m:Mach) (B:Nat):InvS m B [[]] ⟨[],[]⟩:=⟨SpOK.nil,⟨[],Join.start m,rfl⟩,LenK.start,fun _ h=>(by cases h),List.Pairwise.nil⟩
theorem InvS.b (h:InvS m B Q y):InvB m B Q y:=⟨h.sp,have ⟨V,j,_⟩:=h.join;⟨V,j⟩,h.len⟩
theorem InvS.next (ok:m.Ok) (h1:1≤B) (hz:∀ i,sz ((vecM m w).getD i 0)≤B) (h:InvS m B (w :: Q) y) :
  ((keepB m w y).1=true→InvS m B (Q ++ kidsW m.k w) (keepB m w y).2∧leftM m (Q ++ kidsW m.k w) (keepB m w y).2.rs < leftM m (w :: Q) y.rs)∧((keepB m w y).1=false→InvS m B Q (keepB m w y).2∧leftM m Q (keepB m w y).2.rs < leftM m (w :: Q) y.rs):=by
 obtain ⟨V,j,e⟩:=h.join
 unfold keepB
 by_cases hg:growsS y.rs (vecM m w)=true
 ·rw [if_pos hg]
  refine ⟨fun _=>⟨⟨h.sp.grow (vecM_len ok w) h1 hz hg,⟨_,j.keep ok hg,?_⟩,h.len.keep,fun r hr=>?_,?_⟩,left_keep ok j hg⟩,fun x=>by cases x⟩
  ·show V ++ [w] ++ (Q ++ kidsW m.k w)=nextW m.k (y.ks ++ [w])
   rw [nextW_snoc,← e,List.append_assoc,List.append_assoc];rfl
  ·rcases List.mem_append.1 hr with hr | hr
   ·exact h.lead r hr
   ·rw [List.mem_singleton.1 hr];rfl
  ·refine List.pairwise_append.2 ⟨h.ord,List.pairwise_singleton ..,fun u hu q hq=>?_⟩
   rw [List.mem_singleton.1 hq]
   exact (List.pairwise_append.1 j.bfs.ord).2.2 u (j.bfs.sub u hu) w (List.mem_cons_self ..)
 ·rw [if_neg hg]
  have hg:growsS y.rs (vecM m w)=false:=by simpa using hg
  exact ⟨fun x=>(by cases x),fun _=>⟨⟨h.sp,⟨_,j.drop ok hg,by rw [List.append_assoc];exact e⟩,h.len.drop,h.lead,h.ord⟩,left_drop⟩⟩
def unitR (r:SRow):List Rat:=r.v.map fun x=>x / r.v.getD r.p 0
theorem unitR_len:(unitR r).length=r.v.length:=List.length_map ..
theorem unitR_get (i:Nat):(unitR r).getD i 0=r.v.getD i 0 / r.v.getD r.p 0:=by
 unfold unitR
 rw [List.getD_eq_getElem?_getD,List.getElem?_map,List.getD_eq_getElem?_getD (l:=r.v) (i:=i)]
 cases r.v[i]? with
 | none=>show (0:Rat)=0 / _;rw [Rat.div_def,Rat.zero_mul]
 | some x=>rfl
theorem firstP_eq {l:List Rat} {p:Nat} (hp:p < l.length) (h0:l.getD p 0≠0) (hb:∀ i,i < p→l.getD i 0=0):firstP l=p:=by
 rcases Nat.lt_trichotomy (firstP l) p with g | g | g
 ·exact absurd (hb _ g) (firstP_nz (Nat.lt_trans g hp))
 ·exact g
 ·exact absurd (firstP_before g) h0
theorem unitR_first (hl:r.p=firstP r.v) (hp:r.p < r.v.length) (h0:r.v.getD r.p 0≠0):firstP (unitR r)=r.p:=by
 refine firstP_eq (by rw [unitR_len];exact hp) ?_ fun i hi=>?_
 ·rw [unitR_get,Rat.div_def,Rat.mul_inv_cancel _ h0];decide
 ·rw [unitR_get,firstP_before (by rw [← hl];exact hi),Rat.div_def,Rat.zero_mul]
def lessU (f:Rat) (u v:List Rat):List Rat:=(List.range v.length).map fun i=>v.getD i 0 - f * u.getD i 0
theorem lessU_step (h0:r.v.getD r.p 0≠0):lessU (v.getD r.p 0) (unitR r) v=redStep v r:=by
 unfold lessU redStep
 refine List.map_congr_left fun i _=>?_
 rw [unitR_get]
 unfold qotR
 rw [Rat.div_def,Rat.div_def,Rat.mul_assoc,Rat.mul_comm (r.v.getD i 0)]
def restU (rs:List SRow) (v:List Rat):List Rat:=if growsS rs v=true then unitR (newR rs v) else redV rs v
theorem growsS_lead:growsS rs v=true ↔ firstP (redV rs v) < (redV rs v).length:=by unfold growsS;exact decide_eq_true_iff
theorem first_next (ok:m.Ok) (h:InvS m B [] y) (hz:∀ w,w ∈ nextW m.k y.ks→wtM m w=0):firstNZ m=none:=by
 refine (firstNZ_none ok).2 fun w hw=>?_
 obtain ⟨V,j,e⟩:=h.join
 rw [List.append_nil] at e
 exact j.bfs.zero (fun u hu=>hz u (e ▸ j.bfs.sub u hu)) hw fun q hq=>by cases hq
theorem step_span {u:Nat→Rat} {C:List (List Rat)} {s:Nat} (h:SpanV m.n C u) (hk:∀ c,c ∈ C→dotM m.n (fun j=>sumN (fun i=>c.getD i 0 * entM m s i j) m.n) (vf m.fin)=0):dotM m.n (fun j=>sumN (fun i=>u i * entM m s i j) m.n) (vf m.fin)=0:=by
 induction h with
 | @zero u h =>
  unfold dotM
  refine sumN_zero fun j _=>?_
  have e0:sumN (fun i=>u i * entM m s i j) m.n=0:=sumN_zero fun i hi=>by rw [h i hi,Rat.zero_mul]
  show sumN (fun i=>u i * entM m s i j) m.n * _=0
  rw [e0,Rat.zero_mul]
 | @add u u' b c hb hu h ih =>
  have e:dotM m.n (fun j=>sumN (fun i=>u' i * entM m s i j) m.n) (vf m.fin)=dotM m.n (fun j=>sumN (fun i=>u i * entM m s i j) m.n) (vf m.fin)+c * dotM m.n (fun j=>sumN (fun i=>b.getD i 0 * entM m s i j) m.n) (vf m.fin):=by
   unfold dotM
   rw [← sumN_mulL,← sumN_add]
   refine sumN_congr fun j _=>?_
   show sumN (fun i=>u' i * entM m s i j) m.n * _=sumN (fun i=>u i * entM m s i j) m.n * _+c * (sumN (fun i=>b.getD i 0 * entM m s i j) m.n * _)
   rw [show sumN (fun i=>u' i * entM m s i j) m.n=sumN (fun i=>u i * entM m s i j) m.n+c * sumN (fun i=>b.getD i 0 * entM m s i j) m.n from ?_]
   ·rw [Rat.add_mul,Rat.mul_assoc]
   ·rw [← sumN_mulL,← sumN_add]
    refine sumN_congr fun i hi=>?_
    rw [h i hi,Rat.add_mul,Rat.mul_assoc]
  rw [e,ih,hk b hb,Rat.mul_zero,Rat.add_zero]
theorem wt_snoc {s:Nat}:wtM m (w ++ [((s+1:Nat):Int)])=dotM m.n (fun j=>sumN (fun i=>(vecM m w).getD i 0 * entM m s i j) m.n) (vf m.fin):=by
 unfold wtM dotM
 refine sumN_congr fun j hj=>?_
 rw [vecM_snoc]
 show (stepM m (vecM m w) _).getD j 0 * _=_
 unfold stepM
 rw [map_getD_range _ _ hj]
 rfl
theorem next_inW (hs:∀ u,u ∈ K→u ∈ nextW k K):∀ (n:Nat) (u:List Int),u.length=n→u ∈ K→InW k u
 | n, u, hn, hu => by
  rcases List.mem_cons.1 (hs u hu) with rfl | h
  ·exact fun x hx=>by cases hx
  ·obtain ⟨z,hz,h⟩:=List.mem_flatMap.1 h
   obtain ⟨s,hs2,rfl⟩:=List.mem_map.1 h
   rw [List.length_append,List.length_singleton] at hn
   have ih:=next_inW hs z.length z rfl hz
   have:=List.mem_range.1 hs2
   intro x hx
   rcases List.mem_append.1 hx with hx | hx
   ·exact ih x hx
   ·rw [List.mem_singleton.1 hx];omega
termination_by n=>n
theorem first_in (ok:m.Ok) (h:InvS m B [] y) (hw:FirstNZ m w):w ∈ nextW m.k y.ks:=by
 obtain ⟨V,j,e⟩:=h.join
 by_cases hne:w=[]
 ·rw [hne];exact List.mem_cons_self ..
 obtain ⟨z,x,rfl⟩:∃ z x,w=z ++ [x]:=⟨w.dropLast,w.getLast hne,(List.dropLast_concat_getLast hne).symm⟩
 have hx:=hw.inW x (by simp)
 obtain ⟨s,hs,rfl⟩:∃ s:Nat,s < m.k∧x=((s+1:Nat):Int):=⟨x.toNat - 1,by omega,by omega⟩
 have hz:InW m.k z:=fun q hq=>hw.inW q (List.mem_append.2 (.inl hq))
 by_cases hk:z ∈ y.ks
 ·refine List.mem_cons_of_mem _ (List.mem_flatMap.2 ⟨z,hk,List.mem_map.2 ⟨s,List.mem_range.2 hs,rfl⟩⟩)
 ·refine absurd ?_ hw.nz
  rw [wt_snoc]
  refine step_span (j.bfs.reach z hz fun q hq=>by cases hq) fun c hc=>?_
  obtain ⟨u,hu,rfl⟩:=List.mem_map.1 hc
  rw [← wt_snoc]
  obtain ⟨hu1,hu2⟩:=upTo_mem.1 hu
  have hlt:slx u z < 0:=by
   rcases Int.lt_or_le (slx u z) 0 with g | g
   ·exact g
   ·exact absurd (slx_zero (Int.le_antisymm hu2 g) ▸ hu1) hk
  refine hw.before _ (fun q hq=>?_) (slx_snoc_lt hlt)
  rcases List.mem_append.1 hq with hq | hq
  ·exact next_inW (fun u hu=>by rw [← e,List.append_nil];exact j.bfs.sub u hu) u.length u rfl hu1 q hq
  ·rw [List.mem_singleton.1 hq];omega
theorem first_found (ok:m.Ok) (h:InvS m B [] y) {i:Nat} (hi:i < (nextW m.k y.ks).length) (h0:wtM m ((nextW m.k y.ks).getD i [])≠0) (hb:∀ l,l < i→wtM m ((nextW m.k y.ks).getD l [])=0):firstNZ m=some ((nextW m.k y.ks).getD i []):=by
 obtain ⟨V,j,e⟩:=h.join
 rw [List.append_nil] at e
 have ord:=j.bfs.ord
 rw [List.append_nil,e] at ord
 have get:∀ l (hl:l < (nextW m.k y.ks).length),(nextW m.k y.ks).getD l []=(nextW m.k y.ks)[l]:=fun l hl=>by rw [List.getD_eq_getElem?_getD,List.getElem?_eq_getElem hl];rfl
 have inw:∀ l,l < (nextW m.k y.ks).length→InW m.k ((nextW m.k y.ks).getD l []):=fun l hl=>by
  rw [get l hl]
  rcases List.mem_cons.1 (List.getElem_mem hl) with g | g
  ·rw [g];exact fun x hx=>by cases hx
  ·obtain ⟨z,hz,g⟩:=List.mem_flatMap.1 g
   obtain ⟨s,hs2,g⟩:=List.mem_map.1 g
   rw [← g]
   have ih:=next_inW (k:=m.k) (K:=y.ks) (fun u hu=>by rw [← e];exact j.bfs.sub u hu) z.length z rfl hz
   have:=List.mem_range.1 hs2
   intro x hx
   rcases List.mem_append.1 hx with hx | hx
   ·exact ih x hx
   ·rw [List.mem_singleton.1 hx];omega
 cases hf:firstNZ m with
 | none=>exact absurd ((firstNZ_none ok).1 hf _ (inw i hi)) h0
 | some w =>
  have ha:=firstNZ_ans ok
  rw [hf] at ha
  have hw:FirstNZ m w:=ha
  obtain ⟨l,hl,g⟩:=List.mem_iff_getElem.1 (first_in ok h hw)
  rw [← get l hl] at g
  rcases Nat.lt_trichotomy i l with q | q | q
  ·have hlt:slx ((nextW m.k y.ks).getD i []) w < 0:=by
    rw [← g,get i hi,get l hl]
    exact List.pairwise_iff_getElem.1 ord i l hi hl q
   exact absurd (hw.before _ (inw i hi) hlt) h0
  ·rw [q,g]
  ·exact absurd (by rw [← g];exact hb l q) hw.nz
end
end Go.AL

set_option linter.unusedVariables false
set_option linter.unusedSimpArgs false
namespace Go.AL
open Go Go.BigFrame
section
variable {a b:Au}
theorem entL_one {s i j:Nat} (hi:i < a.st) (hj:j < a.st):entL [a] s i j=entA a.arcs s i j:=by
 show (if i < a.st then (if j < a.st then entA a.arcs s i j else 0) else _)=_
 rw [if_pos hi,if_pos hj]
theorem machL_rev:machL [revOf a]=turnM (machL [a]):=by
 have em:(machL [revOf a]).mats=(turnM (machL [a])).mats:=by
  show (List.range a.sym).map _=((List.range a.sym).map _).map _
  rw [List.map_map]
  refine List.map_congr_left fun s _=>?_
  show mtx (sizeL [revOf a]) (entL [revOf a] s)=mtx (sizeL [a]) fun i j=>((mtx (sizeL [a]) (entL [a] s)).getD j []).getD i 0
  rw [show sizeL [revOf a]=a.st from size_one,show sizeL [a]=a.st from size_one]
  refine mtx_congr fun i j hi hj=>?_
  rw [mtx_get hj hi,entL_one (a:=revOf a) hi hj,entL_one hj hi]
  show entA (formA _) s i j=_
  rw [entA_form,entA_swap]
 have e:∀ m m2:Mach,m.n=m2.n→m.ini=m2.ini→m.fin=m2.fin→m.mats=m2.mats→m=m2:=fun m m2 h1 h2 h3 h4=>by
  cases m;cases m2;simp only at h1 h2 h3 h4;subst h1 h2 h3 h4;rfl
 exact e _ _ rfl rfl rfl em
def diffRaw (a b:Au):Au:=⟨a.sym,a.st+b.st,a.ini ++ b.ini.map (fun x=>x * -1),a.fin ++ b.fin,formA a.arcs ++ moved (formA (formA b.arcs)) a.st⟩
theorem diff_same:SameA (diffRaw a b) (unionOf a (scaleOf b (-1))):=by
 refine ⟨rfl,rfl,rfl,rfl,fun s i j=>?_⟩
 show entA (formA a.arcs ++ moved (formA (formA b.arcs)) a.st) s i j=entA (formA (moved a.arcs 0 ++ moved (formA b.arcs) a.st)) s i j
 rw [entA_app,entA_form,entA_form,entA_app,entA_moved (l:=a.arcs) (n:=0),if_pos (show 0≤i∧0≤j from ⟨Nat.zero_le _,Nat.zero_le _⟩),Nat.sub_zero,Nat.sub_zero,entA_moved,entA_moved]
 by_cases hc:a.st≤i∧a.st≤j
 ·rw [if_pos hc,if_pos hc,entA_form]
 ·rw [if_neg hc,if_neg hc]
theorem diff_ok (ha:a.Ok) (hb:b.Ok) (hs:a.sym=b.sym):(diffRaw a b).Ok:=by
 refine ⟨ha.sym0,by show (a.ini ++ b.ini.map _).length=_;rw [List.length_append,List.length_map,ha.ini,hb.ini];rfl,by show (a.fin ++ b.fin).length=_;rw [List.length_append,ha.fin,hb.fin];rfl,fun x hx=>?_⟩
 rcases List.mem_append.1 hx with hx | hx
 ·have:=ha.form.arc x hx
  have h2:x.f < a.st∧x.t < a.st∧1≤x.l∧x.l≤a.sym:=this
  exact ⟨by show x.f < a.st+b.st;omega,by show x.t < a.st+b.st;omega,h2.2.2.1,h2.2.2.2⟩
 ·obtain ⟨y,hy,rfl⟩:=List.mem_map.1 hx
  have h2:y.f < b.st∧y.t < b.st∧1≤y.l∧y.l≤b.sym:=hb.form.form.arc y hy
  exact ⟨by show y.f+a.st < a.st+b.st;omega,by show y.t+a.st < a.st+b.st;omega,h2.2.2.1,by show y.l≤a.sym;omega⟩
theorem diff_first (ha:a.Ok) (hb:b.Ok) (hs:a.sym=b.sym):zeA (diffRaw a b)=eqA a b:=by
 have hu:=ha.union (hb.scale (-1)) hs
 have e:machL [diffRaw a b]=machL [unionOf a (scaleOf b (-1))]:=(diff_same (a:=a) (b:=b)).mach1
 unfold zeA eqA
 rw [e]
 have k1:(machL [unionOf a (scaleOf b (-1))]).k=a.sym:=machL_k
 have k2:(machL [a,b]).k=a.sym:=machL_k
 refine firstNZ_congr (mach_ok2 ha hb) (k1.trans k2.symm) fun w hw=>?_
 rw [k2] at hw
 have h1:wtM (machL [unionOf a (scaleOf b (-1))]) w=serA a w - serA b w:=by
  show serA (unionOf a (scaleOf b (-1))) w=_
  rw [ser_union ha (hb.scale (-1)) hs hw,ser_scale hb]
  rw [Rat.sub_eq_add_neg]
  congr 1
  rw [Rat.mul_neg,Rat.mul_one]
 rw [h1,ser_two ha hb hs hw]
end
end Go.AL

set_option linter.unusedVariables false
set_option linter.unusedSimpArgs false
namespace Go.AL
open Go Go.BigFrame
section
variable {a:Au} {n s j k B C N:Nat} {v:List Rat} {l:List Arc9}
theorem stepF_szG (hv:∀ i,sz (v.getD i 0)≤B) (hl:∀ x,x ∈ l→x.t < n∧sz x.q≤C) (hN:l.length≤N) (h1:1≤B+C):sz ((stepF n v s l).getD j 0)≤N * (B+C+1)+1:=by
 rw [stepF_get fun x hx=>(hl x hx).1]
 have h2:=lsum_szA (f:=inF v s j) (C:=B+C) (l:=l) fun x hx=>by
  unfold inF
  split
  ·have:=sz_mul (v.getD x.f 0) x.q
   have:=hv x.f
   have:=(hl x hx).2
   omega
  ·rw [sz_zero];exact h1
 have h3:=Nat.mul_le_mul_right (B+C+1) hN
 omega
structure Au.Fw (a:Au):Prop where
 ok:a.Ok
 few:a.Few
 s4:a.sym≤4
 st1:1≤a.st
 arc:∀ x,x ∈ a.arcs→sz x.q≤500
 num:a.arcs.length≤20
theorem Au.Fw.mach (f:a.Fw):(machL [a]).Ok∧(machL [a]).Full∧(machL [a]).Sz 24∧(machL [a]).n=a.st :=
 ⟨mach_ok1 f.ok,machL_full _,machL_sz (fun x hx=>by rw [List.mem_singleton.1 hx];exact f.few) (by rw [size_one];exact f.few.st) f.s4,size_one⟩
theorem fwA_szV (f:a.Fw) {u:List Int} (hu:InW a.sym u) (hl:u.length≤6) (k j:Nat):sz ((fwA a (u.take k)).getD j 0)≤16777215:=by
 have hk:(u.take k).length≤6:=by rw [List.length_take];omega
 rw [fwA_vec f.ok fun x hx=>hu x (List.mem_of_mem_take hx)]
 exact Nat.le_trans (vecM_sz f.mach.2.2.1 hk j) (by decide)
theorem fwA_szP (f:a.Fw) {u:List Int} (hu:InW a.sym u) (hl:u.length≤6) (k i j:Nat):sz ((stepF a.st (fwA a (u.take k)) s (a.arcs.take i)).getD j 0)≤335554321:=by
 have h:=stepF_szG (v:=fwA a (u.take k)) (n:=a.st) (s:=s) (j:=j) (l:=a.arcs.take i) (B:=16777215) (C:=500) (N:=20) (fun j=>fwA_szV f hu hl k j)
  (fun x hx=>⟨(f.ok.arc x (List.mem_of_mem_take hx)).2.1,f.arc x (List.mem_of_mem_take hx)⟩) (by rw [List.length_take];have:=f.num;omega) (by decide)
 omega
theorem form_fw (h:a.Ok) (z:a.Sz 1 10) (s4:a.sym≤4) (s1:1≤a.st) (s6:a.st≤6):(formOf a).Fw :=
 ⟨h.form,(z.few s6).form,s4,s1,fun x hx=>by
  have h1:=formA_sz z.arc x hx
  have h2:=Nat.mul_le_mul_right (1+2) (show a.arcs.length+1≤11 by have:=z.num;omega)
  omega,Nat.le_trans (formA_len a.arcs) (Nat.le_trans z.num (by decide))⟩
theorem rev_fw (h:a.Ok) (z:a.Sz 1 10) (s4:a.sym≤4) (s1:1≤a.st) (s6:a.st≤6):(formOf (revOf a)).Fw :=
 ⟨h.rev.form,(z.few s6).rev.form,s4,s1,fun x hx=>by
  have h1:=formA_sz z.rev.arc x hx
  have h2:=Nat.mul_le_mul_right (40+2) (show (revOf a).arcs.length+1≤11 by have:=z.rev.num;omega)
  omega,Nat.le_trans (formA_len _) (Nat.le_trans z.rev.num (by decide))⟩
theorem diff_fw {b:Au} (ha:a.Ok) (hb:b.Ok) (za:a.Sz 1 10) (zb:b.Sz 1 10) (hs:a.sym=b.sym) (s4:a.sym≤4) (s1:1≤a.st) (s6:a.st+b.st≤6):(diffRaw a b).Fw:=by
 have h1:sz (-1)≤1:=by rw [sz_neg,sz_one];exact Nat.le_refl _
 have fu:=(za.few (by omega)).union ((zb.few (by omega)).scale (fun q hq=>Nat.le_trans (zb.ini q hq) (by decide)) h1) ha (show a.st+b.st≤6 from s6)
 refine ⟨diff_ok ha hb hs,⟨s6,fu.ini,fu.fin,fun s i j=>?_⟩,s4,(show 1≤a.st+b.st by omega),fun x hx=>?_,?_⟩
 ·rw [(diff_same (a:=a) (b:=b)).ent];exact fu.ent s i j
 ·have k1:∀ y,y ∈ formA b.arcs→sz y.q≤33:=fun y hy=>by
   have h1:=formA_sz zb.arc y hy
   have h2:=Nat.mul_le_mul_right (1+2) (show b.arcs.length+1≤11 by have:=zb.num;omega)
   omega
  rcases List.mem_append.1 hx with hx | hx
  ·have h1:=formA_sz za.arc x hx
   have h2:=Nat.mul_le_mul_right (1+2) (show a.arcs.length+1≤11 by have:=za.num;omega)
   omega
  ·obtain ⟨y,hy,rfl⟩:=List.mem_map.1 hx
   have h1:=formA_sz k1 y hy
   have h2:=Nat.mul_le_mul_right (33+2) (show (formA b.arcs).length+1≤11 by have:=zb.num;have:=formA_len b.arcs;omega)
   show sz y.q≤500
   omega
 ·show (formA a.arcs ++ moved (formA (formA b.arcs)) a.st).length≤20
  rw [List.length_append,moved_len]
  have:=formA_len a.arcs
  have:=formA_len b.arcs
  have:=formA_len (formA b.arcs)
  have:=za.num
  have:=zb.num
  omega
theorem fwA_form (h:a.Ok) {u:List Int} (hu:InW a.sym u):fwA (formOf a) u=fwA a u:=by
 rw [fwA_vec h.form hu,fwA_vec h hu,(form_same a).mach1]
end
end Go.AL

set_option linter.unusedVariables false
set_option linter.unusedSimpArgs false
namespace Go.AL
open Go Go.BigFrame
section
variable {m:Mach} {rs:List SRow} {r:SRow} {v w:List Rat} {L K:List (List Int)} {a:Au}
def lessQ (v w:List Rat) (c:Rat):List Rat:=(List.range v.length).map fun i=>v.getD i 0 - w.getD i 0 * c
theorem lessQ_len {c:Rat}:(lessQ v w c).length=v.length:=by simp [lessQ]
theorem lessQ_step:lessQ v r.v (qotR v r)=redStep v r:=by
 unfold lessQ redStep
 exact List.map_congr_left fun i _=>by rw [Rat.mul_comm]
theorem lead_add (h:∀ r,r ∈ rs→r.p=firstP r.v):∀ r,r ∈ addS rs w→r.p=firstP r.v:=fun r hr=>by
 unfold addS at hr
 split at hr
 ·rcases List.mem_append.1 hr with hr | hr
  ·exact h r hr
  ·rw [List.mem_singleton.1 hr];rfl
 ·exact h r hr
theorem spR_nil (m:Mach) (K:List (List Int)):spR m [] K=[]:=by
 have h:∀ rs:List SRow,rs=[]→∀ u,addS rs (viewM m [] u)=[]:=fun rs e u=>by
  subst e
  unfold addS
  rw [if_neg]
  unfold growsS
  rw [decide_eq_true_eq]
  exact Nat.not_lt_zero _
 unfold spR
 induction K with
 | nil=>rfl
 | cons u K ih=>rw [List.foldl_cons,h [] rfl];exact ih
theorem view_dot {u:List Int} {j:Nat} (hj:j < L.length):(viewM m L u).getD j 0=dotF (vecM m u) (vecM (turnM m) (L.getD j [])) m.n:=map_getD_range _ _ hj
theorem rank_spec (h:a.Fw) {B:Nat} (h1:1≤B) {y z:KSt} (hz:∀ u,u ∈ y.ks→∀ i,sz ((viewM (machL [a]) z.ks u).getD i 0)≤B) (hy:InvS (machL [a]) B [] y) (hl:InvS (turnM (machL [a])) B [] z):(spR (machL [a]) z.ks y.ks).length=rkA a:=by
 obtain ⟨V,j,_⟩:=hy.join
 obtain ⟨V2,j2,_⟩:=hl.join
 have hr:=spR_rank h.mach.1 h1 hz j j2
 rw [hr]
 unfold rkA
 rw [show (machL [a]).k=a.sym from machL_k]
 rfl
end
end Go.AL

set_option linter.unusedVariables false
set_option linter.unusedSimpArgs false
namespace Go.AL
open Go Go.BigFrame
section
variable {n:Nat} {rs:List SRow} {r:SRow} {v w:List Rat}
def leadI (v:List Rat):Int:=if firstP v < v.length then (firstP v:Int) else -1
theorem leadI_some (h:firstP v < v.length):leadI v=(firstP v:Int):=if_pos h
theorem leadI_none (h:¬ firstP v < v.length):leadI v = -1:=if_neg h
theorem leadI_at {i:Nat} (hi:i < v.length) (h0:v.getD i 0≠0) (hb:∀ j,j < i→v.getD j 0=0):leadI v=(i:Int):=by
 rw [leadI_some (by rw [firstP_eq hi h0 hb];exact hi),firstP_eq hi h0 hb]
theorem leadI_end (h:∀ i,i < v.length→v.getD i 0=0):leadI v = -1:=leadI_none fun hlt=>firstP_nz hlt (h _ hlt)
theorem unitR_lead (hl:r.p=firstP r.v) (hp:r.p < r.v.length) (h0:r.v.getD r.p 0≠0):leadI (unitR r)=(r.p:Int):=by
 rw [leadI_some (by rw [unitR_first hl hp h0,unitR_len];exact hp),unitR_first hl hp h0]
theorem restU_len:(restU rs v).length=v.length:=by
 unfold restU
 split
 ·rw [unitR_len];exact redV_len rs v
 ·exact redV_len rs v
theorem restU_lead:leadI (restU rs v) < 0 ↔ growsS rs v=false:=by
 unfold restU
 by_cases hg:growsS rs v=true
 ·have hp:firstP (redV rs v) < (redV rs v).length:=growsS_lead.1 hg
  rw [if_pos hg,unitR_lead (r:=newR rs v) rfl hp (firstP_nz hp),hg]
  constructor
  ·intro h;omega
  ·intro h;cases h
 ·rw [if_neg hg,leadI_none (fun h=>hg (growsS_lead.2 h))]
  exact ⟨fun _=>by simpa using hg,fun _=>by decide⟩
theorem restU_new (hg:growsS rs v=true):restU rs v=unitR (newR rs v):=if_pos hg
theorem units_snoc:(rs ++ [newR rs v]).map unitR=rs.map unitR ++ [unitR (newR rs v)]:=by rw [List.map_append];rfl
theorem unitR_sz {B:Nat} (h:∀ i,sz (r.v.getD i 0)≤B) (i:Nat):sz ((unitR r).getD i 0)≤B+B:=by
 rw [unitR_get]
 have:=sz_div (r.v.getD i 0) (r.v.getD r.p 0)
 have:=h i
 have:=h r.p
 omega
end
end Go.AL

set_option linter.unusedVariables false
set_option linter.unusedSimpArgs false
set_option linter.unusedVariables false
set_option linter.unusedSimpArgs false
namespace Go.AL
open Go Go.BigFrame
def Mem.joined (M N:Mem):Mem:=fun id=>if (N id).isSome then N id else M id
section
variable {P:Program} {E:Env} {K:S→Prop} {s:S} {ty:Nat} {pos:String} {after:Array Edge}
theorem After.joined {F F':Hp} {w w':World} {M N:Mem} (h:Sim F M w) (ha:After F noMem w F' N w'):After F M w F' (M.joined N) w':=by
 have part:∀ id blk,(M.joined N) id=some blk→N id=some blk ∨ (N id=Option.none∧M id=some blk):=fun id blk hm=>by
  unfold Mem.joined at hm
  cases hq:N id with
  | none=>simp [hq] at hm;exact .inr ⟨rfl,hm⟩
  | some b=>simp [hq] at hm;exact .inl (by rw [← hm])
 have far:∀ id blk k,M id=some blk→blk.owns k→k < w.heap.size:=fun id blk k hm ho=>(h.own id blk hm).lt ho
 have new:∀ id blk k,N id=some blk→blk.owns k→w.heap.size≤k:=fun id blk k hm ho=>(ha.mnew k ⟨id,blk,hm,ho⟩).resolve_right (owned_none k)
 refine ⟨ha.grow.mono fun i x=>absurd x (owned_none i),ha.le,⟨ha.sim.imm,fun id blk hm=>?_,fun id blk k hm ho=>?_,fun i j bi bj k hi hj ki kj=>?_⟩,fun k p q=>.inl ((ha.new k p q).resolve_right (owned_none k)),fun k ⟨id,blk,hm,ho⟩=>?_⟩
 ·rcases part id blk hm with hm | ⟨_,hm⟩
  ·exact ha.sim.own id blk hm
  ·exact (h.own id blk hm).keep ha.le fun k ho=>ha.grow.block k (far id blk k hm ho) (owned_none k)
 ·rcases part id blk hm with hm | ⟨_,hm⟩
  ·exact ha.sim.apart id blk k hm ho
  ·cases hf:F' k with
   | none=>rfl
   | some o =>
    have h1:=far id blk k hm ho
    have h2:=(ha.new k (h.apart id blk k hm ho) (by rw [hf];simp)).resolve_right (owned_none k)
    omega
 ·rcases part i bi hi with hi | ⟨ni,hi⟩ <;> rcases part j bj hj with hj | ⟨nj,hj⟩
  ·exact ha.sim.inj i j bi bj k hi hj ki kj
  ·have:=new i bi k hi ki;have:=far j bj k hj kj;omega
  ·have:=far i bi k hi ki;have:=new j bj k hj kj;omega
  ·exact h.inj i j bi bj k hi hj ki kj
 ·rcases part id blk hm with hm | ⟨_,hm⟩
  ·exact .inl (new id blk k hm ho)
  ·exact .inr ⟨id,blk,hm,ho⟩
theorem SO.callNews {α:Type} {f:Operand} {args:Array Operand} {ats:Array TypeId} {fid:Nat} {caps args':List V} {Mk:α→Mem} {res:α→V} {φ:α→Prop} {dst:Option Nat} {g:Option (Nat × Bool)} (hd:Below' E.n dst)
  (hf:s.ev f=.fn fid caps) (ha:VLes (args.toList.map s.ev ++ caps) args') (hs:FSpecE P fid args' noMem res Mk φ)
  (h:∀ x,φ x→K ((⟨s.ρ,s.M.joined (Mk x)⟩:S).put dst (res x))):SO P E ⟨dst,.call { callee:=.value f,args:=args,argTypes:=ats },ty,pos,after,g⟩ K s:=fun F a w hr=>by
 have hf':=hr.eval f;rw [hf] at hf'
 generalize haf:a.eval f=af at hf'
 cases hf' with
 | @fn _ us _ hl hrr =>
  have hvs:SimVs F (args.toList.map a.eval ++ us) args':=simVs_le (simVs_app (simVs_map hr.eval _) ⟨hl,hrr⟩) ha
  have hcc:=hs.2 F w _ (sim_none hr.sim.imm) hvs
  unfold execOp
  have e1:(args.map a.eval ++ us.toArray)=(args.toList.map a.eval ++ us).toArray:=by simp
  simp only [resolve,haf,Deferred.ofValue,Sem.run_bind,Sem.run_pure,Result.andThen_ok,invoke,Array.empty_append,e1,run_call_fn hs.1]
  refine hcc.mono fun e2 w' ⟨x,hφ,v,F',he,hA,hv⟩=>?_
  exact ⟨v,he,F',_,hr.after_put (dst:=dst) (After.joined hr.sim hA) hd (v:=res x) hv,h x hφ⟩
end
end Go.AL

set_option linter.unusedVariables false
set_option linter.unusedSimpArgs false
namespace Go.AL
open Go Go.BigFrame
theorem FSpec.read {P:Program} {f id b c e sz:Nat} {es:List D} {args args2:List V} {x:Value} (h:FSpec P f args (.d (.sc x))) (ha:VLes (args2.map (V.frz id b c es)) args) :
  FSpecM P f args2 (mem1 id (.row b c e sz es)) (.d (.sc x)) (mem1 id (.row b c e sz es)) :=
 ⟨h.1,fun F w vals hS hv=>by
  obtain ⟨F',h1,h2,h3,h4⟩:=freeze_row hS (mem1_self id (.row b c e sz es))
  have hv':SimVs F' vals args:=simVs_le ⟨by rw [hv.1,List.length_map],fun i y u hy hu=>by
   rw [List.getElem?_map] at hy
   cases hq:args2[i]? with
   | none=>rw [hq] at hy;cases hy
   | some z=>rw [hq] at hy;cases hy;exact V.frz_sim h1 h4 (hv.2 i z u hq hu)⟩ ha
  refine (h.2 F' w vals h2.imm hv').mono fun e2 w' ⟨v,F'',he,hx,hr⟩=>⟨v,F,he,⟨hx.grow.mono fun i k=>k.elim,Hp.le.refl _,⟨fun k o hk=>hx.imm k o (hx.le k o (h1 k o hk)),fun j blk hm=>?_,hS.apart,hS.inj⟩,fun k p q=>absurd p q,fun k k2=>.inr k2⟩,?_⟩
  ·refine (hS.own j blk hm).keep (Hp.le.refl _) fun k ho=>hx.grow.block k ((hS.own j blk hm).lt ho) fun q=>q
  ·cases hr with
   | d hd ho=>cases hd with
    | sc hs=>exact .d (.sc hs) ho⟩
end Go.AL
