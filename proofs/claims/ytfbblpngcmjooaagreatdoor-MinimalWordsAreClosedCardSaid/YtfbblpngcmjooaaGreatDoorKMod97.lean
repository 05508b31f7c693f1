/-
  M, chapter 24: the machine of the views: its vectors are the rows of the table of the series.
-/
import Derived.Test.YtfbblpngcmjooaaGreatDoorKMod92
set_option linter.unusedVariables false
set_option linter.unusedSimpArgs false
namespace Go.AL
open Go Go.BigFrame
section
variable {a b:Au}
theorem entL_one {s i j:Nat}(hi:i<a.st)(hj:j<a.st):entL [a] s i j=entA a.arcs s i j:=by
 show (if i<a.st then (if j<a.st then entA a.arcs s i j else 0) else _)=_
 rw [if_pos hi,if_pos hj]
theorem machL_rev:machL [revOf a]=turnM (machL [a]):=by
 have em:(machL [revOf a]).mats=(turnM (machL [a])).mats:=by
  show (List.range a.sym).map _=((List.range a.sym).map _).map _
  rw [List.map_map]
  refine List.map_congr_left fun s _=>?_
  show mtx (sizeL [revOf a]) (entL [revOf a] s)=mtx (sizeL [a]) fun i j=>((mtx (sizeL [a]) (entL [a] s)).getD j []).getD i 0
  rw [show sizeL [revOf a]=a.st from size_one,show sizeL [a]=a.st from size_one]
  refine mtx_congr fun i j hi hj=>?_
  rw [mtx_get hj hi,entL_one (a:=revOf a) hi hj,entL_one hj hi]
  show entA (formA _) s i j=_
  rw [entA_form,entA_swap]
 have e:∀ m m2:Mach,m.n=m2.n→m.ini=m2.ini→m.fin=m2.fin→m.mats=m2.mats→m=m2:=fun m m2 h1 h2 h3 h4=>by
  cases m;cases m2;simp only at h1 h2 h3 h4;subst h1 h2 h3 h4;rfl
 exact e _ _ rfl rfl rfl em
end
section
variable {a:Au}{n s j k B C N:Nat}{v:List Rat}{l:List Arc9}
theorem stepF_szG (hv:∀ i,sz (v.getD i 0)≤B)(hl:∀ x,x ∈ l→x.t<n∧sz x.q≤C)(hN:l.length≤N)(h1:1≤B+C):sz ((stepF n v s l).getD j 0)≤N*(B+C+1)+1:=by
 rw [stepF_get fun x hx=>(hl x hx).1]
 have h2:=lsum_szA (f:=inF v s j) (C:=B+C) (l:=l) fun x hx=>by
  unfold inF
  split
  ·have:=sz_mul (v.getD x.f 0) x.q
   have:=hv x.f
   have:=(hl x hx).2
   omega
  ·rw [sz_zero];exact h1
 have h3:=Nat.mul_le_mul_right (B+C+1) hN
 omega
structure Au.Fw (a:Au):Prop where
 ok:a.Ok
 few:a.Few
 s4:a.sym≤4
 st1:1≤a.st
 arc:∀ x,x ∈ a.arcs→sz x.q≤500
 num:a.arcs.length≤20
theorem Au.Fw.mach (f:a.Fw):(machL [a]).Ok∧(machL [a]).Full∧(machL [a]).Sz 24∧(machL [a]).n=a.st :=
 ⟨mach_ok1 f.ok,machL_full _,machL_sz (fun x hx=>by rw [List.mem_singleton.1 hx];exact f.few) (by rw [size_one];exact f.few.st) f.s4,size_one⟩
theorem fwA_szV (f:a.Fw){u:List Int}(hu:InW a.sym u)(hl:u.length≤6)(k j:Nat):sz ((fwA a (u.take k)).getD j 0)≤16777215:=by
 have hk:(u.take k).length≤6:=by rw [List.length_take];omega
 rw [fwA_vec f.ok fun x hx=>hu x (List.mem_of_mem_take hx)]
 exact Nat.le_trans (vecM_sz f.mach.2.2.1 hk j) (by decide)
theorem fwA_szP (f:a.Fw){u:List Int}(hu:InW a.sym u)(hl:u.length≤6)(k i j:Nat):sz ((stepF a.st (fwA a (u.take k)) s (a.arcs.take i)).getD j 0)≤335554321:=by
 have h:=stepF_szG (v:=fwA a (u.take k)) (n:=a.st) (s:=s) (j:=j) (l:=a.arcs.take i) (B:=16777215) (C:=500) (N:=20) (fun j=>fwA_szV f hu hl k j)
  (fun x hx=>⟨(f.ok.arc x (List.mem_of_mem_take hx)).2.1,f.arc x (List.mem_of_mem_take hx)⟩) (by rw [List.length_take];have:=f.num;omega) (by decide)
 omega
theorem form_fw (h:a.Ok)(z:a.Sz 1 10)(s4:a.sym≤4)(s1:1≤a.st)(s6:a.st≤6):(formOf a).Fw :=
 ⟨h.form,(z.few s6).form,s4,s1,fun x hx=>by
  have h1:=formA_sz z.arc x hx
  have h2:=Nat.mul_le_mul_right (1+2) (show a.arcs.length+1≤11 by have:=z.num;omega)
  omega,Nat.le_trans (formA_len a.arcs) (Nat.le_trans z.num (by decide))⟩
theorem rev_fw (h:a.Ok)(z:a.Sz 1 10)(s4:a.sym≤4)(s1:1≤a.st)(s6:a.st≤6):(formOf (revOf a)).Fw :=
 ⟨h.rev.form,(z.few s6).rev.form,s4,s1,fun x hx=>by
  have h1:=formA_sz z.rev.arc x hx
  have h2:=Nat.mul_le_mul_right (40+2) (show (revOf a).arcs.length+1≤11 by have:=z.rev.num;omega)
  omega,Nat.le_trans (formA_len _) (Nat.le_trans z.rev.num (by decide))⟩
theorem fwA_form (h:a.Ok){u:List Int}(hu:InW a.sym u):fwA (formOf a) u=fwA a u:=by
 rw [fwA_vec h.form hu,fwA_vec h hu,(form_same a).mach1]
end
section
variable {m:Mach}{rs:List SRow}{r:SRow}{v w:List Rat}{L K:List (List Int)}{a:Au}
def lessQ (v w:List Rat)(c:Rat):List Rat:=(List.range v.length).map fun i=>v.getD i 0-w.getD i 0*c
theorem lessQ_len {c:Rat}:(lessQ v w c).length=v.length:=by simp [lessQ]
theorem lessQ_step:lessQ v r.v (qotR v r)=redStep v r:=by
 unfold lessQ redStep
 exact List.map_congr_left fun i _=>by rw [Rat.mul_comm]
theorem lead_add (h:∀ r,r ∈ rs→r.p=firstP r.v):∀ r,r ∈ addS rs w→r.p=firstP r.v:=fun r hr=>by
 unfold addS at hr
 split at hr
 ·rcases List.mem_append.1 hr with hr|hr
  ·exact h r hr
  ·rw [List.mem_singleton.1 hr];rfl
 ·exact h r hr
theorem spR_nil (m:Mach)(K:List (List Int)):spR m [] K=[]:=by
 have h:∀ rs:List SRow,rs=[]→∀ u,addS rs (viewM m [] u)=[]:=fun rs e u=>by
  subst e
  unfold addS
  rw [if_neg]
  unfold growsS
  rw [decide_eq_true_eq]
  exact Nat.not_lt_zero _
 unfold spR
 induction K with
 | nil=>rfl
 | cons u K ih=>rw [List.foldl_cons,h [] rfl];exact ih
theorem view_dot {u:List Int}{j:Nat}(hj:j<L.length):(viewM m L u).getD j 0=dotF (vecM m u) (vecM (turnM m) (L.getD j [])) m.n:=map_getD_range _ _ hj
theorem rank_spec (h:a.Fw){B:Nat}(h1:1≤B){y z:KSt}(hz:∀ u,u ∈ y.ks→∀ i,sz ((viewM (machL [a]) z.ks u).getD i 0)≤B)(hy:InvS (machL [a]) B [] y)(hl:InvS (turnM (machL [a])) B [] z):(spR (machL [a]) z.ks y.ks).length=rkA a:=by
 obtain ⟨V,j,_⟩:=hy.join
 obtain ⟨V2,j2,_⟩:=hl.join
 have hr:=spR_rank h.mach.1 h1 hz j j2
 rw [hr]
 unfold rkA
 rw [show (machL [a]).k=a.sym from machL_k]
 rfl
end
section
variable {n:Nat}{rs:List SRow}{r:SRow}{v w:List Rat}
def leadI (v:List Rat):Int:=if firstP v<v.length then (firstP v:Int) else -1
theorem leadI_some (h:firstP v<v.length):leadI v=(firstP v:Int):=if_pos h
theorem leadI_none (h:¬ firstP v<v.length):leadI v = -1:=if_neg h
theorem leadI_at {i:Nat}(hi:i<v.length)(h0:v.getD i 0≠0)(hb:∀ j,j<i→v.getD j 0=0):leadI v=(i:Int):=by
 rw [leadI_some (by rw [firstP_eq hi h0 hb];exact hi),firstP_eq hi h0 hb]
theorem leadI_end (h:∀ i,i<v.length→v.getD i 0=0):leadI v = -1:=leadI_none fun hlt=>firstP_nz hlt (h _ hlt)
theorem unitR_lead (hl:r.p=firstP r.v)(hp:r.p<r.v.length)(h0:r.v.getD r.p 0≠0):leadI (unitR r)=(r.p:Int):=by
 rw [leadI_some (by rw [unitR_first hl hp h0,unitR_len];exact hp),unitR_first hl hp h0]
theorem restU_len:(restU rs v).length=v.length:=by
 unfold restU
 split
 ·rw [unitR_len];exact redV_len rs v
 ·exact redV_len rs v
theorem restU_lead:leadI (restU rs v)<0 ↔ growsS rs v=false:=by
 unfold restU
 by_cases hg:growsS rs v=true
 ·have hp:firstP (redV rs v)<(redV rs v).length:=growsS_lead.1 hg
  rw [if_pos hg,unitR_lead (r:=newR rs v) rfl hp (firstP_nz hp),hg]
  constructor
  ·intro h;omega
  ·intro h;cases h
 ·rw [if_neg hg,leadI_none (fun h=>hg (growsS_lead.2 h))]
  exact ⟨fun _=>by simpa using hg,fun _=>by decide⟩
theorem restU_new (hg:growsS rs v=true):restU rs v=unitR (newR rs v):=if_pos hg
theorem units_snoc:(rs++[newR rs v]).map unitR=rs.map unitR++[unitR (newR rs v)]:=by rw [List.map_append];rfl
theorem unitR_sz {B:Nat}(h:∀ i,sz (r.v.getD i 0)≤B)(i:Nat):sz ((unitR r).getD i 0)≤B+B:=by
 rw [unitR_get]
 have:=sz_div (r.v.getD i 0) (r.v.getD r.p 0)
 have:=h i
 have:=h r.p
 omega
end
section
variable {m:Mach}{L V:List (List Int)}{rs:List SRow}{w u:List Int}
theorem turn_span (ok:m.Ok)(j:Join (turnM m) V L [] rs)(hw:InW m.k w):∃ c:Nat→Rat,∀ i,i<m.n→(vecM (turnM m) w).getD i 0=sumN (fun l=>c l*(vecM (turnM m) (L.getD l [])).getD i 0) L.length:=by
 have h:=j.bfs.reach w (by rw [turn_k];exact hw) fun q hq=>by cases hq
 have h2:SpanV (turnM m).n (vecs (turnM m) L) (vf (vecM (turnM m) w)):=h.mono fun b hb=>by
  obtain ⟨u,hu,rfl⟩:=List.mem_map.1 hb
  exact List.mem_map.2 ⟨u,(upTo_mem.1 hu).1,rfl⟩
 obtain ⟨c,hc⟩:=h2.coef
 refine ⟨c,fun i hi=>?_⟩
 have hv:(vecs (turnM m) L).length=L.length:=lm9 ..
 have e:=hc i hi
 rw [hv] at e
 refine e.trans (sumN_congr fun l hl=>?_)
 have ev:(vecs (turnM m) L).getD l []=vecM (turnM m) (L.getD l []):=by
  unfold vecs
  simp [gd9,ge9 hl]
 rw [ev]
theorem dot_sum {n N:Nat}{x:Nat→Rat}{y:Nat→Rat}{c:Nat→Rat}{b:Nat→Nat→Rat}(h:∀ i,i<n→y i=sumN (fun l=>c l*b l i) N):dotM n x y=sumN (fun l=>dotM n x (b l)*c l) N:=by
 unfold dotM
 have e1:sumN (fun i=>x i*y i) n=sumN (fun i=>sumN (fun l=>x i*(c l*b l i)) N) n:=sumN_congr fun i hi=>by rw [h i hi,← sumN_mulL]
 have e2:sumN (fun l=>sumN (fun i=>x i*b l i) n*c l) N=sumN (fun l=>sumN (fun i=>x i*(c l*b l i)) n) N:=sumN_congr fun l _=>by
  rw [← sumN_mulR]
  exact sumN_congr fun i _=>by rw [Rat.mul_comm (c l),Rat.mul_assoc]
 rw [e1,e2,sumN_swap]
theorem view_mach (ok:m.Ok)(j:Join (turnM m) V L [] rs)(hL:∀ l,l ∈ L→InW m.k l):∃ mv:Mach,mv.n=L.length∧mv.k=m.k∧mv.Ok∧(∀ w,InW m.k w→vecM mv w=viewM m L w)∧∀ w,InW m.k w→wtM mv w=wtM m w:=by
 have inL:∀ l,l<L.length→∀ s,s<m.k→InW m.k (L.getD l [])→InW m.k (L.getD l []++[((s+1:Nat):Int)]):=fun l _ s hs h x hx=>by
  rcases List.mem_append.1 hx with hx|hx
  ·exact h x hx
  ·rw [List.mem_singleton.1 hx];omega
 have ex:∀ (s l:Nat),∃ c:Nat→Rat,InW m.k (L.getD l []++[((s+1:Nat):Int)])→∀ i,i<m.n→(vecM (turnM m) (L.getD l []++[((s+1:Nat):Int)])).getD i 0=sumN (fun q=>c q*(vecM (turnM m) (L.getD q [])).getD i 0) L.length:=fun s l=>by
  by_cases hw:InW m.k (L.getD l []++[((s+1:Nat):Int)])
  ·obtain ⟨c,hc⟩:=turn_span ok j hw
   exact ⟨c,fun _=>hc⟩
  ·exact ⟨fun _=>0,fun h=>absurd h hw⟩
 obtain ⟨d,hd⟩:=turn_span (w:=[]) ok j fun x hx=>by cases hx
 have hC:∃ C:Nat→Nat→Nat→Rat,∀ s l,InW m.k (L.getD l []++[((s+1:Nat):Int)])→∀ i,i<m.n→(vecM (turnM m) (L.getD l []++[((s+1:Nat):Int)])).getD i 0=sumN (fun q=>C s l q*(vecM (turnM m) (L.getD q [])).getD i 0) L.length :=
  ⟨fun s l=>(ex s l).choose,fun s l=>(ex s l).choose_spec⟩
 obtain ⟨C,hC⟩:=hC
 have hin:∀ l,l<L.length→InW m.k (L.getD l []):=fun l hl=>by
  have hmem:L.getD l [] ∈ L:=getD_mem hl []
  exact hL _ hmem
 let mv:Mach:=⟨L.length,viewM m L [],(List.range L.length).map d,(List.range m.k).map fun s=>mtx L.length fun i q=>C s q i⟩
 have hk:mv.k=m.k:=by show ((List.range m.k).map _).length=m.k;simp
 have hent:∀ s i q,s<m.k→i<L.length→q<L.length→entM mv s i q=C s q i:=fun s i q hs hi hq=>by
  show ((((List.range m.k).map fun s=>mtx L.length fun i q=>C s q i).getD s []).getD i []).getD q 0=_
  rw [map_getD_range _ _ hs,mtx_get hi hq]
 have hvec:∀ (n:Nat) (w:List Int),w.length=n→InW m.k w→vecM mv w=viewM m L w:=by
  intro n
  induction n with
  | zero=>intro w hn _;rw [List.eq_nil_of_length_eq_zero hn];rfl
  | succ n ih =>
   intro w hn hw
   have hne:w≠[]:=fun e=>by rw [e] at hn;cases hn
   obtain ⟨z,x,rfl⟩:∃ z x,w=z++[x]:=⟨w.dropLast,w.getLast hne,(List.dropLast_concat_getLast hne).symm⟩
   have hx:=hw x (by simp)
   obtain ⟨s,hs,rfl⟩:∃ s:Nat,s<m.k∧x=((s+1:Nat):Int):=⟨x.toNat-1,by omega,by omega⟩
   have hz:InW m.k z:=fun q hq=>hw q (List.mem_append.2 (.inl hq))
   rw [vecM_snoc,ih z (by rw [la9,ls9] at hn;omega) hz]
   refine List.ext_getElem (by rw [stepM_len,view_len]) fun q h1 h2=>?_
   rw [view_len] at h2
   have g1:∀ (l:List Rat) (h:q<l.length),l[q]=l.getD q 0:=fun l h=>by rw [gd9,ge9 h];rfl
   rw [g1,g1]
   have e1:(viewM m L (z++[((s+1:Nat):Int)])).getD q 0=hankM m (z++[((s+1:Nat):Int)]) (L.getD q []):=map_getD_range _ _ h2
   have es:(((s+1:Nat):Int)).toNat-1=s:=by omega
   rw [e1,es]
   unfold stepM
   rw [show mv.n=L.length from rfl,map_getD_range _ _ h2]
   unfold hankM
   rw [vecM_snoc,es,dot_step hs]
   have e2:stepM (turnM m) (vecM (turnM m) (L.getD q [])) s=vecM (turnM m) (L.getD q []++[((s+1:Nat):Int)]):=by rw [vecM_snoc,es]
   rw [e2,dot_sum (y:=vf (vecM (turnM m) (L.getD q []++[((s+1:Nat):Int)]))) (b:=fun l=>vf (vecM (turnM m) (L.getD l []))) (fun i hi=>hC s q (inL q h2 s hs (hin q h2)) i hi)]
   refine sumN_congr fun l hl=>?_
   rw [hent s l q hs hl h2,show (viewM m L z).getD l 0=hankM m z (L.getD l []) from map_getD_range _ _ hl]
   rfl
 refine ⟨mv,rfl,hk,⟨view_len,by show ((List.range L.length).map d).length=L.length;simp⟩,fun w hw=>hvec w.length w rfl hw,fun w hw=>?_⟩
 unfold wtM
 rw [hvec w.length w rfl hw,dot_sum (n:=m.n) (y:=vf m.fin) (b:=fun l=>vf (vecM (turnM m) (L.getD l []))) hd]
 unfold dotM
 rw [show mv.n=L.length from rfl]
 refine sumN_congr fun l hl=>?_
 rw [show vf (viewM m L w) l=hankM m w (L.getD l []) from map_getD_range _ _ hl,show vf mv.fin l=d l from map_getD_range _ _ hl]
 rfl
end
end Go.AL
