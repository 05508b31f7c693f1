/-
  M, chapter 24: a machine on words whose rows are new has the series.
-/
import Derived.Test.YtmcoihfkniccdaaGreatDoorKMod91
set_option linter.unusedVariables false
set_option linter.unusedSimpArgs false
namespace Go.AL
open Go Go.BigFrame
section
variable {m:Mach}{B k:Nat}{V K Q:List (List Int)}{w u:List Int}{rs:List SRow}{y:KSt}{v:List Rat}{r:SRow}
def nextW (k:Nat)(K:List (List Int)):List (List Int):=[]::K.flatMap (kidsW k)
theorem nextW_snoc:nextW k (K++[w])=nextW k K++kidsW k w:=by
 unfold nextW
 rw [List.flatMap_append,List.flatMap_cons,List.flatMap_nil,List.append_nil,List.cons_append]
structure InvS (m:Mach) (B:Nat) (Q:List (List Int)) (y:KSt):Prop where
 sp:SpOK m.n B y.rs
 join:∃ V,Join m V y.ks Q y.rs∧V++Q=nextW m.k y.ks
 len:LenK y.ks Q
 lead:∀ r,r ∈ y.rs→r.p=firstP r.v
 ord:y.ks.Pairwise fun a b=>slx a b<0
theorem InvS.start (m:Mach)(B:Nat):InvS m B [[]] ⟨[],[]⟩:=⟨SpOK.nil,⟨[],Join.start m,rfl⟩,LenK.start,fun _ h=>(by cases h),List.Pairwise.nil⟩
theorem InvS.b (h:InvS m B Q y):InvB m B Q y:=⟨h.sp,have ⟨V,j,_⟩:=h.join;⟨V,j⟩,h.len⟩
theorem InvS.next (ok:m.Ok)(h1:1≤B)(hz:∀ i,sz ((vecM m w).getD i 0)≤B)(h:InvS m B (w::Q) y) :
  ((keepB m w y).1=true→InvS m B (Q++kidsW m.k w) (keepB m w y).2∧leftM m (Q++kidsW m.k w) (keepB m w y).2.rs<leftM m (w::Q) y.rs)∧((keepB m w y).1=false→InvS m B Q (keepB m w y).2∧leftM m Q (keepB m w y).2.rs<leftM m (w::Q) y.rs):=by
 obtain ⟨V,j,e⟩:=h.join
 unfold keepB
 by_cases hg:growsS y.rs (vecM m w)=true
 ·rw [if_pos hg]
  refine ⟨fun _=>⟨⟨h.sp.grow (vecM_len ok w) h1 hz hg,⟨_,j.keep ok hg,?_⟩,h.len.keep,fun r hr=>?_,?_⟩,left_keep ok j hg⟩,fun x=>by cases x⟩
  ·show V++[w]++(Q++kidsW m.k w)=nextW m.k (y.ks++[w])
   rw [nextW_snoc,← e,List.append_assoc,List.append_assoc];rfl
  ·rcases mp9 hr with hr|hr
   ·exact h.lead r hr
   ·rw [ms9 hr];rfl
  ·refine List.pairwise_append.2 ⟨h.ord,List.pairwise_singleton ..,fun u hu q hq=>?_⟩
   rw [ms9 hq]
   exact (List.pairwise_append.1 j.bfs.ord).2.2 u (j.bfs.sub u hu) w mc9
 ·rw [if_neg hg]
  have hg:growsS y.rs (vecM m w)=false:=by simpa using hg
  exact ⟨fun x=>(by cases x),fun _=>⟨⟨h.sp,⟨_,j.drop ok hg,by rw [List.append_assoc];exact e⟩,h.len.drop,h.lead,h.ord⟩,left_drop⟩⟩
def unitR (r:SRow):List Rat:=r.v.map fun x=>x / r.v.getD r.p 0
theorem unitR_len:(unitR r).length=r.v.length:=lm9 ..
theorem unitR_get (i:Nat):(unitR r).getD i 0=r.v.getD i 0 / r.v.getD r.p 0:=by
 unfold unitR
 rw [gd9,List.getElem?_map,gd9 (l:=r.v) (i:=i)]
 cases r.v[i]? with
 | none=>show (0:Rat)=0 / _;rw [Rat.div_def,Rat.zero_mul]
 | some x=>rfl
theorem firstP_eq {l:List Rat}{p:Nat}(hp:p<l.length)(h0:l.getD p 0≠0)(hb:∀ i,i<p→l.getD i 0=0):firstP l=p:=by
 rcases Nat.lt_trichotomy (firstP l) p with g|g|g
 ·exact absurd (hb _ g) (firstP_nz (Nat.lt_trans g hp))
 ·exact g
 ·exact absurd (firstP_before g) h0
theorem unitR_first (hl:r.p=firstP r.v)(hp:r.p<r.v.length)(h0:r.v.getD r.p 0≠0):firstP (unitR r)=r.p:=by
 refine firstP_eq (by rw [unitR_len];exact hp) ?_ fun i hi=>?_
 ·rw [unitR_get,Rat.div_def,Rat.mul_inv_cancel _ h0];decide
 ·rw [unitR_get,firstP_before (by rw [← hl];exact hi),Rat.div_def,Rat.zero_mul]
def lessU (f:Rat)(u v:List Rat):List Rat:=(List.range v.length).map fun i=>v.getD i 0-f*u.getD i 0
theorem lessU_step (h0:r.v.getD r.p 0≠0):lessU (v.getD r.p 0) (unitR r) v=redStep v r:=by
 unfold lessU redStep
 refine List.map_congr_left fun i _=>?_
 rw [unitR_get]
 unfold qotR
 rw [Rat.div_def,Rat.div_def,Rat.mul_assoc,Rat.mul_comm (r.v.getD i 0)]
def restU (rs:List SRow)(v:List Rat):List Rat:=if growsS rs v=true then unitR (newR rs v) else redV rs v
theorem growsS_lead:growsS rs v=true ↔ firstP (redV rs v)<(redV rs v).length:=by unfold growsS;exact decide_eq_true_iff
theorem first_next (ok:m.Ok)(h:InvS m B [] y)(hz:∀ w,w ∈ nextW m.k y.ks→wtM m w=0):firstNZ m=none:=by
 refine (firstNZ_none ok).2 fun w hw=>?_
 obtain ⟨V,j,e⟩:=h.join
 rw [List.append_nil] at e
 exact j.bfs.zero (fun u hu=>hz u (e ▸ j.bfs.sub u hu)) hw fun q hq=>by cases hq
theorem step_span {u:Nat→Rat}{C:List (List Rat)}{s:Nat}(h:SpanV m.n C u)(hk:∀ c,c ∈ C→dotM m.n (fun j=>sumN (fun i=>c.getD i 0*entM m s i j) m.n) (vf m.fin)=0):dotM m.n (fun j=>sumN (fun i=>u i*entM m s i j) m.n) (vf m.fin)=0:=by
 induction h with
 | @zero u h =>
  unfold dotM
  refine sumN_zero fun j _=>?_
  have e0:sumN (fun i=>u i*entM m s i j) m.n=0:=sumN_zero fun i hi=>by rw [h i hi,Rat.zero_mul]
  show sumN (fun i=>u i*entM m s i j) m.n*_=0
  rw [e0,Rat.zero_mul]
 | @add u u' b c hb hu h ih =>
  have e:dotM m.n (fun j=>sumN (fun i=>u' i*entM m s i j) m.n) (vf m.fin)=dotM m.n (fun j=>sumN (fun i=>u i*entM m s i j) m.n) (vf m.fin)+c*dotM m.n (fun j=>sumN (fun i=>b.getD i 0*entM m s i j) m.n) (vf m.fin):=by
   unfold dotM
   rw [← sumN_mulL,← sumN_add]
   refine sumN_congr fun j _=>?_
   show sumN (fun i=>u' i*entM m s i j) m.n*_=sumN (fun i=>u i*entM m s i j) m.n*_+c*(sumN (fun i=>b.getD i 0*entM m s i j) m.n*_)
   rw [show sumN (fun i=>u' i*entM m s i j) m.n=sumN (fun i=>u i*entM m s i j) m.n+c*sumN (fun i=>b.getD i 0*entM m s i j) m.n from ?_]
   ·rw [Rat.add_mul,Rat.mul_assoc]
   ·rw [← sumN_mulL,← sumN_add]
    refine sumN_congr fun i hi=>?_
    rw [h i hi,Rat.add_mul,Rat.mul_assoc]
  rw [e,ih,hk b hb,Rat.mul_zero,Rat.add_zero]
theorem wt_snoc {s:Nat}:wtM m (w++[((s+1:Nat):Int)])=dotM m.n (fun j=>sumN (fun i=>(vecM m w).getD i 0*entM m s i j) m.n) (vf m.fin):=by
 unfold wtM dotM
 refine sumN_congr fun j hj=>?_
 rw [vecM_snoc]
 show (stepM m (vecM m w) _).getD j 0*_=_
 unfold stepM
 rw [map_getD_range _ _ hj]
 rfl
theorem next_inW (hs:∀ u,u ∈ K→u ∈ nextW k K):∀ (n:Nat) (u:List Int),u.length=n→u ∈ K→InW k u
 | n, u, hn, hu => by
  rcases List.mem_cons.1 (hs u hu) with rfl|h
  ·exact fun x hx=>by cases hx
  ·obtain ⟨z,hz,h⟩:=List.mem_flatMap.1 h
   obtain ⟨s,hs2,rfl⟩:=mm9 h
   rw [la9,ls9] at hn
   have ih:=next_inW hs z.length z rfl hz
   have:=List.mem_range.1 hs2
   intro x hx
   rcases mp9 hx with hx|hx
   ·exact ih x hx
   ·rw [ms9 hx];omega
termination_by n=>n
theorem first_in (ok:m.Ok)(h:InvS m B [] y)(hw:FirstNZ m w):w ∈ nextW m.k y.ks:=by
 obtain ⟨V,j,e⟩:=h.join
 by_cases hne:w=[]
 ·rw [hne];exact List.mem_cons_self ..
 obtain ⟨z,x,rfl⟩:∃ z x,w=z++[x]:=⟨w.dropLast,w.getLast hne,(List.dropLast_concat_getLast hne).symm⟩
 have hx:=hw.inW x (by simp)
 obtain ⟨s,hs,rfl⟩:∃ s:Nat,s<m.k∧x=((s+1:Nat):Int):=⟨x.toNat-1,by omega,by omega⟩
 have hz:InW m.k z:=fun q hq=>hw.inW q (List.mem_append.2 (.inl hq))
 by_cases hk:z ∈ y.ks
 ·refine List.mem_cons_of_mem _ (List.mem_flatMap.2 ⟨z,hk,List.mem_map.2 ⟨s,List.mem_range.2 hs,rfl⟩⟩)
 ·refine absurd ?_ hw.nz
  rw [wt_snoc]
  refine step_span (j.bfs.reach z hz fun q hq=>by cases hq) fun c hc=>?_
  obtain ⟨u,hu,rfl⟩:=mm9 hc
  rw [← wt_snoc]
  obtain ⟨hu1,hu2⟩:=upTo_mem.1 hu
  have hlt:slx u z<0:=by
   rcases Int.lt_or_le (slx u z) 0 with g|g
   ·exact g
   ·exact absurd (slx_zero (Int.le_antisymm hu2 g) ▸ hu1) hk
  refine hw.before _ (fun q hq=>?_) (slx_snoc_lt hlt)
  rcases mp9 hq with hq|hq
  ·exact next_inW (fun u hu=>by rw [← e,List.append_nil];exact j.bfs.sub u hu) u.length u rfl hu1 q hq
  ·rw [ms9 hq];omega
theorem first_found (ok:m.Ok)(h:InvS m B [] y){i:Nat}(hi:i<(nextW m.k y.ks).length)(h0:wtM m ((nextW m.k y.ks).getD i [])≠0)(hb:∀ l,l<i→wtM m ((nextW m.k y.ks).getD l [])=0):firstNZ m=some ((nextW m.k y.ks).getD i []):=by
 obtain ⟨V,j,e⟩:=h.join
 rw [List.append_nil] at e
 have ord:=j.bfs.ord
 rw [List.append_nil,e] at ord
 have get:∀ l (hl:l<(nextW m.k y.ks).length),(nextW m.k y.ks).getD l []=(nextW m.k y.ks)[l]:=fun l hl=>by rw [gd9,ge9 hl];rfl
 have inw:∀ l,l<(nextW m.k y.ks).length→InW m.k ((nextW m.k y.ks).getD l []):=fun l hl=>by
  rw [get l hl]
  rcases List.mem_cons.1 (List.getElem_mem hl) with g|g
  ·rw [g];exact fun x hx=>by cases hx
  ·obtain ⟨z,hz,g⟩:=List.mem_flatMap.1 g
   obtain ⟨s,hs2,g⟩:=mm9 g
   rw [← g]
   have ih:=next_inW (k:=m.k) (K:=y.ks) (fun u hu=>by rw [← e];exact j.bfs.sub u hu) z.length z rfl hz
   have:=List.mem_range.1 hs2
   intro x hx
   rcases mp9 hx with hx|hx
   ·exact ih x hx
   ·rw [ms9 hx];omega
 cases hf:firstNZ m with
 | none=>exact absurd ((firstNZ_none ok).1 hf _ (inw i hi)) h0
 | some w =>
  have ha:=firstNZ_ans ok
  rw [hf] at ha
  have hw:FirstNZ m w:=ha
  obtain ⟨l,hl,g⟩:=List.mem_iff_getElem.1 (first_in ok h hw)
  rw [← get l hl] at g
  rcases Nat.lt_trichotomy i l with q|q|q
  ·have hlt:slx ((nextW m.k y.ks).getD i []) w<0:=by
    rw [← g,get i hi,get l hl]
    exact List.pairwise_iff_getElem.1 ord i l hi hl q
   exact absurd (hw.before _ (inw i hi) hlt) h0
  ·rw [q,g]
  ·exact absurd (by rw [← g];exact hb l q) hw.nz
end
section
variable {a b:Au}
def diffRaw (a b:Au):Au:=⟨a.sym,a.st+b.st,a.ini++b.ini.map (fun x=>x * -1),a.fin++b.fin,formA a.arcs++moved (formA (formA b.arcs)) a.st⟩
theorem diff_same:SameA (diffRaw a b) (unionOf a (scaleOf b (-1))):=by
 refine ⟨rfl,rfl,rfl,rfl,fun s i j=>?_⟩
 show entA (formA a.arcs++moved (formA (formA b.arcs)) a.st) s i j=entA (formA (moved a.arcs 0++moved (formA b.arcs) a.st)) s i j
 rw [entA_app,entA_form,entA_form,entA_app,entA_moved (l:=a.arcs) (n:=0),if_pos (show 0≤i∧0≤j from ⟨Nat.zero_le _,Nat.zero_le _⟩),Nat.sub_zero,Nat.sub_zero,entA_moved,entA_moved]
 by_cases hc:a.st≤i∧a.st≤j
 ·rw [if_pos hc,if_pos hc,entA_form]
 ·rw [if_neg hc,if_neg hc]
theorem diff_ok (ha:a.Ok)(hb:b.Ok)(hs:a.sym=b.sym):(diffRaw a b).Ok:=by
 refine ⟨ha.sym0,by show (a.ini++b.ini.map _).length=_;rw [la9,lm9,ha.ini,hb.ini];rfl,by show (a.fin++b.fin).length=_;rw [la9,ha.fin,hb.fin];rfl,fun x hx=>?_⟩
 rcases mp9 hx with hx|hx
 ·have:=ha.form.arc x hx
  have h2:x.f<a.st∧x.t<a.st∧1≤x.l∧x.l≤a.sym:=this
  exact ⟨by show x.f<a.st+b.st;omega,by show x.t<a.st+b.st;omega,h2.2.2.1,h2.2.2.2⟩
 ·obtain ⟨y,hy,rfl⟩:=mm9 hx
  have h2:y.f<b.st∧y.t<b.st∧1≤y.l∧y.l≤b.sym:=hb.form.form.arc y hy
  exact ⟨by show y.f+a.st<a.st+b.st;omega,by show y.t+a.st<a.st+b.st;omega,h2.2.2.1,by show y.l≤a.sym;omega⟩
theorem diff_first (ha:a.Ok)(hb:b.Ok)(hs:a.sym=b.sym):zeA (diffRaw a b)=eqA a b:=by
 have hu:=ha.union (hb.scale (-1)) hs
 have e:machL [diffRaw a b]=machL [unionOf a (scaleOf b (-1))]:=(diff_same (a:=a) (b:=b)).mach1
 unfold zeA eqA
 rw [e]
 have k1:(machL [unionOf a (scaleOf b (-1))]).k=a.sym:=machL_k
 have k2:(machL [a,b]).k=a.sym:=machL_k
 refine firstNZ_congr (mach_ok2 ha hb) (k1.trans k2.symm) fun w hw=>?_
 rw [k2] at hw
 have h1:wtM (machL [unionOf a (scaleOf b (-1))]) w=serA a w-serA b w:=by
  show serA (unionOf a (scaleOf b (-1))) w=_
  rw [ser_union ha (hb.scale (-1)) hs hw,ser_scale hb]
  rw [Rat.sub_eq_add_neg]
  congr 1
  rw [Rat.mul_neg,Rat.mul_one]
 rw [h1,ser_two ha hb hs hw]
end
section
variable {a:Au}{n s j k B C N:Nat}{v:List Rat}{l:List Arc9}
theorem stepF_szG (hv:∀ i,sz (v.getD i 0)≤B)(hl:∀ x,x ∈ l→x.t<n∧sz x.q≤C)(hN:l.length≤N)(h1:1≤B+C):sz ((stepF n v s l).getD j 0)≤N*(B+C+1)+1:=by
 rw [stepF_get fun x hx=>(hl x hx).1]
 have h2:=lsum_szA (f:=inF v s j) (C:=B+C) (l:=l) fun x hx=>by
  unfold inF
  split
  ·have:=sz_mul (v.getD x.f 0) x.q
   have:=hv x.f
   have:=(hl x hx).2
   omega
  ·rw [sz_zero];exact h1
 have h3:=Nat.mul_le_mul_right (B+C+1) hN
 omega
structure Au.Fw (a:Au):Prop where
 ok:a.Ok
 few:a.Few
 s4:a.sym≤4
 st1:1≤a.st
 arc:∀ x,x ∈ a.arcs→sz x.q≤500
 num:a.arcs.length≤20
theorem Au.Fw.mach (f:a.Fw):(machL [a]).Ok∧(machL [a]).Full∧(machL [a]).Sz 24∧(machL [a]).n=a.st :=
 ⟨mach_ok1 f.ok,machL_full _,machL_sz (fun x hx=>by rw [ms9 hx];exact f.few) (by rw [size_one];exact f.few.st) f.s4,size_one⟩
theorem fwA_szV (f:a.Fw){u:List Int}(hu:InW a.sym u)(hl:u.length≤6)(k j:Nat):sz ((fwA a (u.take k)).getD j 0)≤16777215:=by
 have hk:(u.take k).length≤6:=by rw [List.length_take];omega
 rw [fwA_vec f.ok fun x hx=>hu x (List.mem_of_mem_take hx)]
 exact Nat.le_trans (vecM_sz f.mach.2.2.1 hk j) (by decide)
theorem fwA_szP (f:a.Fw){u:List Int}(hu:InW a.sym u)(hl:u.length≤6)(k i j:Nat):sz ((stepF a.st (fwA a (u.take k)) s (a.arcs.take i)).getD j 0)≤335554321:=by
 have h:=stepF_szG (v:=fwA a (u.take k)) (n:=a.st) (s:=s) (j:=j) (l:=a.arcs.take i) (B:=16777215) (C:=500) (N:=20) (fun j=>fwA_szV f hu hl k j)
  (fun x hx=>⟨(f.ok.arc x (List.mem_of_mem_take hx)).2.1,f.arc x (List.mem_of_mem_take hx)⟩) (by rw [List.length_take];have:=f.num;omega) (by decide)
 omega
theorem diff_fw {b:Au}(ha:a.Ok)(hb:b.Ok)(za:a.Sz 1 10)(zb:b.Sz 1 10)(hs:a.sym=b.sym)(s4:a.sym≤4)(s1:1≤a.st)(s6:a.st+b.st≤6):(diffRaw a b).Fw:=by
 have h1:sz (-1)≤1:=by rw [sz_neg,sz_one];exact Nat.le_refl _
 have fu:=(za.few (by omega)).union ((zb.few (by omega)).scale (fun q hq=>Nat.le_trans (zb.ini q hq) (by decide)) h1) ha (show a.st+b.st≤6 from s6)
 refine ⟨diff_ok ha hb hs,⟨s6,fu.ini,fu.fin,fun s i j=>?_⟩,s4,(show 1≤a.st+b.st by omega),fun x hx=>?_,?_⟩
 ·rw [(diff_same (a:=a) (b:=b)).ent];exact fu.ent s i j
 ·have k1:∀ y,y ∈ formA b.arcs→sz y.q≤33:=fun y hy=>by
   have h1:=formA_sz zb.arc y hy
   have h2:=Nat.mul_le_mul_right (1+2) (show b.arcs.length+1≤11 by have:=zb.num;omega)
   omega
  rcases mp9 hx with hx|hx
  ·have h1:=formA_sz za.arc x hx
   have h2:=Nat.mul_le_mul_right (1+2) (show a.arcs.length+1≤11 by have:=za.num;omega)
   omega
  ·obtain ⟨y,hy,rfl⟩:=mm9 hx
   have h1:=formA_sz k1 y hy
   have h2:=Nat.mul_le_mul_right (33+2) (show (formA b.arcs).length+1≤11 by have:=zb.num;have:=formA_len b.arcs;omega)
   show sz y.q≤500
   omega
 ·show (formA a.arcs++moved (formA (formA b.arcs)) a.st).length≤20
  rw [la9,moved_len]
  have:=formA_len a.arcs
  have:=formA_len b.arcs
  have:=formA_len (formA b.arcs)
  have:=za.num
  have:=zb.num
  omega
end
section
variable {m:Mach}{rs:List SRow}{r:SRow}{v w:List Rat}{L K:List (List Int)}{a:Au}
def lessQ (v w:List Rat)(c:Rat):List Rat:=(List.range v.length).map fun i=>v.getD i 0-w.getD i 0*c
theorem lead_add (h:∀ r,r ∈ rs→r.p=firstP r.v):∀ r,r ∈ addS rs w→r.p=firstP r.v:=fun r hr=>by
 unfold addS at hr
 split at hr
 ·rcases mp9 hr with hr|hr
  ·exact h r hr
  ·rw [ms9 hr];rfl
 ·exact h r hr
end
section
variable {n:Nat}{rs:List SRow}{r:SRow}{v w:List Rat}
def leadI (v:List Rat):Int:=if firstP v<v.length then (firstP v:Int) else -1
theorem leadI_some (h:firstP v<v.length):leadI v=(firstP v:Int):=if_pos h
theorem leadI_none (h:¬ firstP v<v.length):leadI v = -1:=if_neg h
theorem leadI_at {i:Nat}(hi:i<v.length)(h0:v.getD i 0≠0)(hb:∀ j,j<i→v.getD j 0=0):leadI v=(i:Int):=by
 rw [leadI_some (by rw [firstP_eq hi h0 hb];exact hi),firstP_eq hi h0 hb]
theorem leadI_end (h:∀ i,i<v.length→v.getD i 0=0):leadI v = -1:=leadI_none fun hlt=>firstP_nz hlt (h _ hlt)
theorem unitR_lead (hl:r.p=firstP r.v)(hp:r.p<r.v.length)(h0:r.v.getD r.p 0≠0):leadI (unitR r)=(r.p:Int):=by
 rw [leadI_some (by rw [unitR_first hl hp h0,unitR_len];exact hp),unitR_first hl hp h0]
theorem restU_len:(restU rs v).length=v.length:=by
 unfold restU
 split
 ·rw [unitR_len];exact redV_len rs v
 ·exact redV_len rs v
theorem restU_lead:leadI (restU rs v)<0 ↔ growsS rs v=false:=by
 unfold restU
 by_cases hg:growsS rs v=true
 ·have hp:firstP (redV rs v)<(redV rs v).length:=growsS_lead.1 hg
  rw [if_pos hg,unitR_lead (r:=newR rs v) rfl hp (firstP_nz hp),hg]
  constructor
  ·intro h;omega
  ·intro h;cases h
 ·rw [if_neg hg,leadI_none (fun h=>hg (growsS_lead.2 h))]
  exact ⟨fun _=>by simpa using hg,fun _=>by decide⟩
theorem restU_new (hg:growsS rs v=true):restU rs v=unitR (newR rs v):=if_pos hg
theorem units_snoc:(rs++[newR rs v]).map unitR=rs.map unitR++[unitR (newR rs v)]:=by rw [List.map_append];rfl
theorem unitR_sz {B:Nat}(h:∀ i,sz (r.v.getD i 0)≤B)(i:Nat):sz ((unitR r).getD i 0)≤B+B:=by
 rw [unitR_get]
 have:=sz_div (r.v.getD i 0) (r.v.getD r.p 0)
 have:=h i
 have:=h r.p
 omega
end
section
variable {m:Mach}{L V:List (List Int)}{rs:List SRow}{w u:List Int}
theorem turn_span (ok:m.Ok)(j:Join (turnM m) V L [] rs)(hw:InW m.k w):∃ c:Nat→Rat,∀ i,i<m.n→(vecM (turnM m) w).getD i 0=sumN (fun l=>c l*(vecM (turnM m) (L.getD l [])).getD i 0) L.length:=by
 have h:=j.bfs.reach w (by rw [turn_k];exact hw) fun q hq=>by cases hq
 have h2:SpanV (turnM m).n (vecs (turnM m) L) (vf (vecM (turnM m) w)):=h.mono fun b hb=>by
  obtain ⟨u,hu,rfl⟩:=mm9 hb
  exact List.mem_map.2 ⟨u,(upTo_mem.1 hu).1,rfl⟩
 obtain ⟨c,hc⟩:=h2.coef
 refine ⟨c,fun i hi=>?_⟩
 have hv:(vecs (turnM m) L).length=L.length:=lm9 ..
 have e:=hc i hi
 rw [hv] at e
 refine e.trans (sumN_congr fun l hl=>?_)
 have ev:(vecs (turnM m) L).getD l []=vecM (turnM m) (L.getD l []):=by
  unfold vecs
  simp [gd9,ge9 hl]
 rw [ev]
theorem dot_sum {n N:Nat}{x:Nat→Rat}{y:Nat→Rat}{c:Nat→Rat}{b:Nat→Nat→Rat}(h:∀ i,i<n→y i=sumN (fun l=>c l*b l i) N):dotM n x y=sumN (fun l=>dotM n x (b l)*c l) N:=by
 unfold dotM
 have e1:sumN (fun i=>x i*y i) n=sumN (fun i=>sumN (fun l=>x i*(c l*b l i)) N) n:=sumN_congr fun i hi=>by rw [h i hi,← sumN_mulL]
 have e2:sumN (fun l=>sumN (fun i=>x i*b l i) n*c l) N=sumN (fun l=>sumN (fun i=>x i*(c l*b l i)) n) N:=sumN_congr fun l _=>by
  rw [← sumN_mulR]
  exact sumN_congr fun i _=>by rw [Rat.mul_comm (c l),Rat.mul_assoc]
 rw [e1,e2,sumN_swap]
theorem view_mach (ok:m.Ok)(j:Join (turnM m) V L [] rs)(hL:∀ l,l ∈ L→InW m.k l):∃ mv:Mach,mv.n=L.length∧mv.k=m.k∧mv.Ok∧(∀ w,InW m.k w→vecM mv w=viewM m L w)∧∀ w,InW m.k w→wtM mv w=wtM m w:=by
 have inL:∀ l,l<L.length→∀ s,s<m.k→InW m.k (L.getD l [])→InW m.k (L.getD l []++[((s+1:Nat):Int)]):=fun l _ s hs h x hx=>by
  rcases mp9 hx with hx|hx
  ·exact h x hx
  ·rw [ms9 hx];omega
 have ex:∀ (s l:Nat),∃ c:Nat→Rat,InW m.k (L.getD l []++[((s+1:Nat):Int)])→∀ i,i<m.n→(vecM (turnM m) (L.getD l []++[((s+1:Nat):Int)])).getD i 0=sumN (fun q=>c q*(vecM (turnM m) (L.getD q [])).getD i 0) L.length:=fun s l=>by
  by_cases hw:InW m.k (L.getD l []++[((s+1:Nat):Int)])
  ·obtain ⟨c,hc⟩:=turn_span ok j hw
   exact ⟨c,fun _=>hc⟩
  ·exact ⟨fun _=>0,fun h=>absurd h hw⟩
 obtain ⟨d,hd⟩:=turn_span (w:=[]) ok j fun x hx=>by cases hx
 have hC:∃ C:Nat→Nat→Nat→Rat,∀ s l,InW m.k (L.getD l []++[((s+1:Nat):Int)])→∀ i,i<m.n→(vecM (turnM m) (L.getD l []++[((s+1:Nat):Int)])).getD i 0=sumN (fun q=>C s l q*(vecM (turnM m) (L.getD q [])).getD i 0) L.length :=
  ⟨fun s l=>(ex s l).choose,fun s l=>(ex s l).choose_spec⟩
 obtain ⟨C,hC⟩:=hC
 have hin:∀ l,l<L.length→InW m.k (L.getD l []):=fun l hl=>by
  have hmem:L.getD l [] ∈ L:=getD_mem hl []
  exact hL _ hmem
 let mv:Mach:=⟨L.length,viewM m L [],(List.range L.length).map d,(List.range m.k).map fun s=>mtx L.length fun i q=>C s q i⟩
 have hk:mv.k=m.k:=by show ((List.range m.k).map _).length=m.k;simp
 have hent:∀ s i q,s<m.k→i<L.length→q<L.length→entM mv s i q=C s q i:=fun s i q hs hi hq=>by
  show ((((List.range m.k).map fun s=>mtx L.length fun i q=>C s q i).getD s []).getD i []).getD q 0=_
  rw [map_getD_range _ _ hs,mtx_get hi hq]
 have hvec:∀ (n:Nat) (w:List Int),w.length=n→InW m.k w→vecM mv w=viewM m L w:=by
  intro n
  induction n with
  | zero=>intro w hn _;rw [en9 hn];rfl
  | succ n ih =>
   intro w hn hw
   have hne:w≠[]:=fun e=>by rw [e] at hn;cases hn
   obtain ⟨z,x,rfl⟩:∃ z x,w=z++[x]:=⟨w.dropLast,w.getLast hne,(List.dropLast_concat_getLast hne).symm⟩
   have hx:=hw x (by simp)
   obtain ⟨s,hs,rfl⟩:∃ s:Nat,s<m.k∧x=((s+1:Nat):Int):=⟨x.toNat-1,by omega,by omega⟩
   have hz:InW m.k z:=fun q hq=>hw q (List.mem_append.2 (.inl hq))
   rw [vecM_snoc,ih z (by rw [la9,ls9] at hn;omega) hz]
   refine List.ext_getElem (by rw [stepM_len,view_len]) fun q h1 h2=>?_
   rw [view_len] at h2
   have g1:∀ (l:List Rat) (h:q<l.length),l[q]=l.getD q 0:=fun l h=>by rw [gd9,ge9 h];rfl
   rw [g1,g1]
   have e1:(viewM m L (z++[((s+1:Nat):Int)])).getD q 0=hankM m (z++[((s+1:Nat):Int)]) (L.getD q []):=map_getD_range _ _ h2
   have es:(((s+1:Nat):Int)).toNat-1=s:=by omega
   rw [e1,es]
   unfold stepM
   rw [show mv.n=L.length from rfl,map_getD_range _ _ h2]
   unfold hankM
   rw [vecM_snoc,es,dot_step hs]
   have e2:stepM (turnM m) (vecM (turnM m) (L.getD q [])) s=vecM (turnM m) (L.getD q []++[((s+1:Nat):Int)]):=by rw [vecM_snoc,es]
   rw [e2,dot_sum (y:=vf (vecM (turnM m) (L.getD q []++[((s+1:Nat):Int)]))) (b:=fun l=>vf (vecM (turnM m) (L.getD l []))) (fun i hi=>hC s q (inL q h2 s hs (hin q h2)) i hi)]
   refine sumN_congr fun l hl=>?_
   rw [hent s l q hs hl h2,show (viewM m L z).getD l 0=hankM m z (L.getD l []) from map_getD_range _ _ hl]
   rfl
 refine ⟨mv,rfl,hk,⟨view_len,by show ((List.range L.length).map d).length=L.length;simp⟩,fun w hw=>hvec w.length w rfl hw,fun w hw=>?_⟩
 unfold wtM
 rw [hvec w.length w rfl hw,dot_sum (n:=m.n) (y:=vf m.fin) (b:=fun l=>vf (vecM (turnM m) (L.getD l []))) hd]
 unfold dotM
 rw [show mv.n=L.length from rfl]
 refine sumN_congr fun l hl=>?_
 rw [show vf (viewM m L w) l=hankM m w (L.getD l []) from map_getD_range _ _ hl,show vf mv.fin l=d l from map_getD_range _ _ hl]
 rfl
end
section
variable {m mv:Mach}{B:Nat}{L V K Q:List (List Int)}{rs:List SRow}{y:KSt}{u w:List Int}
theorem kids_inW {k:Nat}(h:InW k w):∀ q,q ∈ kidsW k w→InW k q:=fun q hq x hx=>by
 obtain ⟨s,hs,rfl⟩:=mm9 hq
 have:=List.mem_range.1 hs
 rcases mp9 hx with hx|hx
 ·exact h x hx
 ·rw [ms9 hx];omega
theorem basis_search (ok:m.Ok):∀ (N:Nat) (V K Q:List (List Int)) (rs:List SRow),Join m V K Q rs→(∀ u,u ∈ K→InW m.k u)→(∀ q,q ∈ Q→InW m.k q)→leftM m Q rs≤N→∃ V K rs,Join m V K [] rs∧∀ u,u ∈ K→InW m.k u
 | N,V,K,[],rs,j,hK,_,_=>⟨V,K,rs,j,hK⟩
 | 0,V,K,w::Q,rs,j,_,_,h=>by
  have:=left_drop (m:=m) (w:=w) (Q:=Q) (rs:=rs)
  omega
 | N + 1, V, K, w :: Q, rs, j, hK, hQ, h => by
  have hw:=hQ w mc9
  have hQ2:∀ q,q ∈ Q→InW m.k q:=fun q hq=>hQ q (List.mem_cons_of_mem _ hq)
  cases hg:growsS rs (vecM m w) with
  | true =>
   have:=left_keep ok j hg
   exact basis_search ok N _ _ _ _ (j.keep ok hg) (fun u hu=>(mp9 hu).elim (hK u) fun hu=>by rw [ms9 hu];exact hw) (fun q hq=>(mp9 hq).elim (hQ2 q) (kids_inW hw q)) (by omega)
  | false =>
   have:=left_drop (m:=m) (w:=w) (Q:=Q) (rs:=rs)
   exact basis_search ok N _ _ _ _ (j.drop ok hg) hK hQ2 (by omega)
theorem basis_ex (ok:m.Ok):∃ V K rs,Join m V K [] rs∧∀ u,u ∈ K→InW m.k u :=
 basis_search ok _ _ _ _ _ (Join.start m) (fun _ h=>by cases h) (fun q hq=>by rw [ms9 hq];exact fun x hx=>by cases hx) (Nat.le_refl _)
theorem InvS.inW (h:InvS m B [] y):∀ u,u ∈ y.ks→InW m.k u:=fun u hu=>by
 obtain ⟨V,j,e⟩:=h.join
 rw [List.append_nil] at e
 exact next_inW (fun u hu=>by rw [← e];exact j.bfs.sub u hu) u.length u rfl hu
theorem InvS.closed (h:InvS m B [] y)(hu:u ∈ y.ks)(hne:u≠[]):u.dropLast ∈ y.ks:=by
 obtain ⟨V,j,e⟩:=h.join
 rw [List.append_nil] at e
 have hn:u ∈ nextW m.k y.ks:=by rw [← e];exact j.bfs.sub u hu
 rcases List.mem_cons.1 hn with rfl|hn
 ·exact absurd rfl hne
 ·obtain ⟨z,hz,hn⟩:=List.mem_flatMap.1 hn
  obtain ⟨s,_,rfl⟩:=mm9 hn
  rw [List.dropLast_concat];exact hz
theorem InvS.count (h:InvS m B [] y):y.ks.length=y.rs.length:=by
 obtain ⟨V,j,_⟩:=h.join
 exact j.len.symm
theorem prefix_rank (ok:m.Ok){V2:List (List Int)}{r2:List SRow}(j2:Join (turnM m) V2 L [] r2)(hn:mv.n=L.length)(hk:mv.k=m.k)(hv:∀ w,InW m.k w→vecM mv w=viewM m L w)(h:InvS mv B [] y):y.ks.length=rankF m.k (wtM m):=by
 obtain ⟨V,K,r1,j,hK⟩:=basis_ex ok
 obtain ⟨V3,j3,e3⟩:=h.join
 rw [List.append_nil] at e3
 have inw:∀ u,u ∈ y.ks→InW m.k u:=fun u hu=>by rw [← hk];exact h.inW u hu
 have ech:Ech L.length y.rs:=by rw [← hn];exact j3.ech
 have hr:=rank_found ok j j2 ech (fun r hr=>by
   have h1:=j3.rows r hr
   rw [hn] at h1
   refine h1.trans fun b hb=>?_
   obtain ⟨u,hu,rfl⟩:=mm9 hb
   rw [hv u (inw u hu)]
   have h2:=j.bfs.reach u (inw u hu) fun q hq=>by cases hq
   have h3:=h2.map (C:=K.map (viewM m L)) (view_lin m L) fun b hb=>by
    obtain ⟨z,hz,rfl⟩:=mm9 hb
    refine (SpanV.mem (List.mem_map.2 ⟨z,(upTo_mem.1 hz).1,rfl⟩)).congr fun i hi=>?_
    have e:(viewM m L z).getD i 0=hankM m z (L.getD i []):=map_getD_range _ _ hi
    exact e.symm
   exact h3.congr fun i hi=>map_getD_range _ _ hi) fun u hu=>by
  have hw:InW m.k u:=hK u hu
  have h2:=j3.bfs.reach u (by rw [hk];exact hw) fun q hq=>by cases hq
  rw [hv u hw,hn] at h2
  refine h2.trans fun b hb=>?_
  obtain ⟨z,hz,rfl⟩:=mm9 hb
  have:=j3.kept z (upTo_mem.1 hz).1
  rw [hn] at this
  exact this
 rw [h.count]
 refine (rankF_eq ?_).symm
 have e:tabF m.k (wtM m)=fun (u l:Wd m.k)=>hankM m u.1 l.1:=by
  funext u l
  exact (hank_wt l.1 u.1 l.2).symm
 rw [e];exact hr
end
section
variable {mv mm:Mach}{K:List (List Int)}{w:List Int}
theorem swap_sum {n N:Nat}(a:Nat→Rat)(b:Nat→Nat→Rat)(c:Nat→Rat):sumN (fun p=>sumN (fun j=>a j*b j p) N*c p) n=sumN (fun j=>a j*sumN (fun p=>b j p*c p) n) N:=by
 have e1:sumN (fun p=>sumN (fun j=>a j*b j p) N*c p) n=sumN (fun p=>sumN (fun j=>a j*(b j p*c p)) N) n:=sumN_congr fun p _=>by
  rw [← sumN_mulR]
  exact sumN_congr fun j _=>Rat.mul_assoc ..
 have e2:sumN (fun j=>a j*sumN (fun p=>b j p*c p) n) N=sumN (fun j=>sumN (fun p=>a j*(b j p*c p)) n) N:=sumN_congr fun j _=>(sumN_mulL ..).symm
 rw [e1,e2,sumN_swap]
structure MinOK (mv mm:Mach) (K:List (List Int)):Prop where
 n:mm.n=K.length
 k:mm.k=mv.k
 root:0<K.length∧K.getD 0 []=[]
 ini:∀ j,j<K.length→mm.ini.getD j 0=if 0=j then 1 else 0
 fin:∀ j,j<K.length→mm.fin.getD j 0=wtM mv (K.getD j [])
 ent:∀ s,s<mv.k→∀ i,i<K.length→∀ q,q<mv.n→(vecM mv (K.getD i []++[((s+1:Nat):Int)])).getD q 0=sumN (fun j=>entM mm s i j*(vecM mv (K.getD j [])).getD q 0) K.length
theorem MinOK.vec (h:MinOK mv mm K):∀ (n:Nat) (w:List Int),w.length=n→InW mv.k w→∀ q,q<mv.n→(vecM mv w).getD q 0=sumN (fun j=>(vecM mm w).getD j 0*(vecM mv (K.getD j [])).getD q 0) K.length:=by
 intro n
 induction n with
 | zero =>
  intro w hn _ q _
  rw [en9 hn]
  have e:sumN (fun j=>(vecM mm []).getD j 0*(vecM mv (K.getD j [])).getD q 0) K.length=sumN (fun j=>if 0=j then (vecM mv (K.getD j [])).getD q 0 else 0) K.length:=sumN_congr fun j hj=>by
   show mm.ini.getD j 0*_=_
   rw [h.ini j hj]
   split
   ·rw [Rat.one_mul]
   ·rw [Rat.zero_mul]
  rw [e,sumN_pick (v:=fun j=>(vecM mv (K.getD j [])).getD q 0) h.root.1,h.root.2]
 | succ n ih =>
  intro w hn hw q hq
  have hne:w≠[]:=fun e=>by rw [e] at hn;cases hn
  obtain ⟨z,x,rfl⟩:∃ z x,w=z++[x]:=⟨w.dropLast,w.getLast hne,(List.dropLast_concat_getLast hne).symm⟩
  have hx:=hw x (by simp)
  obtain ⟨s,hs,rfl⟩:∃ s:Nat,s<mv.k∧x=((s+1:Nat):Int):=⟨x.toNat-1,by omega,by omega⟩
  have hz:InW mv.k z:=fun q hq=>hw q (List.mem_append.2 (.inl hq))
  have es:(((s+1:Nat):Int)).toNat-1=s:=by omega
  have ihz:=ih z (by rw [la9,ls9] at hn;omega) hz
  have step:∀ (m:Mach) (u:List Int) (q:Nat),q<m.n→(vecM m (u++[((s+1:Nat):Int)])).getD q 0=sumN (fun i=>(vecM m u).getD i 0*entM m s i q) m.n:=fun m u q hq=>by
   rw [vecM_snoc,es]
   unfold stepM
   rw [map_getD_range _ _ hq]
  have e1:(vecM mv (z++[((s+1:Nat):Int)])).getD q 0=sumN (fun p=>sumN (fun j=>(vecM mm z).getD j 0*(vecM mv (K.getD j [])).getD p 0) K.length*entM mv s p q) mv.n:=by
   rw [step mv z q hq]
   exact sumN_congr fun p hp=>by rw [ihz p hp]
  have e2:sumN (fun l=>(vecM mm (z++[((s+1:Nat):Int)])).getD l 0*(vecM mv (K.getD l [])).getD q 0) K.length=sumN (fun l=>sumN (fun j=>(vecM mm z).getD j 0*entM mm s j l) K.length*(vecM mv (K.getD l [])).getD q 0) K.length :=
   sumN_congr fun l hl=>by rw [step mm z l (by rw [h.n];exact hl),h.n]
  rw [e1,swap_sum,e2,swap_sum]
  refine sumN_congr fun j hj=>?_
  congr 1
  rw [← h.ent s hs j hj q hq,step mv _ q hq]
theorem MinOK.wt (h:MinOK mv mm K)(hw:InW mv.k w):wtM mm w=wtM mv w:=by
 unfold wtM dotM
 have e1:sumN (fun q=>vf (vecM mv w) q*vf mv.fin q) mv.n=sumN (fun q=>sumN (fun j=>(vecM mm w).getD j 0*(vecM mv (K.getD j [])).getD q 0) K.length*mv.fin.getD q 0) mv.n :=
  sumN_congr fun q hq=>by rw [← h.vec w.length w rfl hw q hq]
 rw [e1,swap_sum,h.n]
 refine sumN_congr fun j hj=>?_
 show (vecM mm w).getD j 0*mm.fin.getD j 0=_
 rw [h.fin j hj]
 rfl
end
end Go.AL
