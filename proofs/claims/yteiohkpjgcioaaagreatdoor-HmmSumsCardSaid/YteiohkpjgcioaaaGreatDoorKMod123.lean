/-
  M, chapter 33: the model without its silent states is valid.
-/
import Derived.Test.YteiohkpjgcioaaaGreatDoorKMod121
import Derived.Test.YteiohkpjgcioaaaGreatDoorKMod37c
set_option linter.unusedVariables false
set_option linter.unusedSimpArgs false
namespace Go.AL
open Go Go.BigFrame
structure LstO (h:HM) (s o:List Int):Prop where
 mem:∀ k:Nat,(k:Int) ∈ o ↔ k<h.st∧s.getD k 0=2
 nat:∀ x,x ∈ o→0≤x
 nod:o.Nodup
 bwd:∀ (a:List Int) (i:Int) (b:List Int),o=a++i::b→∀ j,j<h.st→h.silent.getD j false=true→0<(h.trans.getD i.toNat []).getD j 0→(j:Int) ∈ a
 sil:∀ k,k<h.st→s.getD k 0≠0→h.silent.getD k false=true
section
variable {h:HM}{s s2 o o2:List Int}{i:Nat}
theorem LstO.zero:LstO h (List.replicate h.st 0) []:=by
 have z:∀ k,(List.replicate h.st (0:Int)).getD k 0=0:=fun k=>by
  rw [gd9,List.getElem?_replicate];split <;> rfl
 exact ⟨fun k=>⟨fun e=>absurd e List.not_mem_nil,fun e=>by rw [z] at e;exact absurd e.2 (by decide)⟩,fun x e=>absurd e List.not_mem_nil,List.nodup_nil,fun a i b e=>by simp at e,fun k _ e=>absurd (z k) e⟩
theorem LstO.start (l:LstO h s o)(hl:s.length=h.st)(hi:i<h.st)(h0:s.getD i 0=0)(si:h.silent.getD i false=true):LstO h (s.set i 1) o:=by
 have e:∀ k,(s.set i 1).getD k 0=if k=i then 1 else s.getD k 0:=set_getD (by omega)
 refine ⟨fun k=>?_,l.nat,l.nod,l.bwd,fun k hk hn=>?_⟩
 ·rw [l.mem k,e k]
  by_cases c:k=i
  ·subst c
   rw [if_pos rfl,h0]
   exact ⟨fun x=>absurd x.2 (by decide),fun x=>absurd x.2 (by decide)⟩
  ·rw [if_neg c]
 ·rw [e k] at hn
  by_cases c:k=i
  ·rw [c];exact si
  ·rw [if_neg c] at hn;exact l.sil k hk hn
theorem LstO.fin (l:LstO h s2 o2)(m:Mid h s i s2 h.st)(hi:i<h.st)(si:h.silent.getD i false=true):LstO h (s2.set i 2) (o2++[(i:Int)]):=by
 have hl:=m.dfs.len
 have e:∀ k,(s2.set i 2).getD k 0=if k=i then 2 else s2.getD k 0:=set_getD (by omega)
 have h1:s2.getD i 0=1:=(m.one i).2 (.inl rfl)
 have hno:(i:Int) ∉ o2:=fun c=>by
  have:=((l.mem i).1 c).2
  rw [h1] at this;cases this
 refine ⟨fun k=>?_,fun x hx=>?_,?_,fun a x b hab j hj sj pj=>?_,fun k hk hn=>?_⟩
 ·rw [List.mem_append,List.mem_singleton,l.mem k,e k]
  by_cases c:k=i
  ·subst c
   rw [if_pos rfl]
   exact ⟨fun _=>⟨hi,rfl⟩,fun _=>.inr rfl⟩
  ·rw [if_neg c]
   exact ⟨fun x=>x.elim (fun y=>y) (fun y=>absurd (by omega:k=i) c),fun x=>.inl x⟩
 ·rcases mp9 hx with hx|hx
  ·exact l.nat x hx
  ·rw [ms9 hx];omega
 ·refine List.nodup_append.2 ⟨l.nod,List.pairwise_singleton _ _,fun x hx y hy hxy=>?_⟩
  rw [ms9 hy] at hxy
  exact hno (hxy ▸ hx)
 ·rcases List.eq_nil_or_concat b with rfl|⟨c,y,rfl⟩
  ·obtain ⟨q1,q2⟩:=List.append_inj' hab rfl
   have q3:(i:Int)=x:=by simpa using q2
   subst q3
   rw [← q1]
   rw [Int.toNat_natCast] at pj
   exact (l.mem j).2 ⟨hj,m.done j hj hj sj pj⟩
  ·rw [List.concat_eq_append] at hab
   have q:=List.append_inj' (s₁:=o2) (t₁:=[(i:Int)]) (s₂:=a++x::c) (t₂:=[y]) (by rw [hab];simp) rfl
   exact l.bwd a x c q.1 j hj sj pj
 ·rw [e k] at hn
  by_cases c:k=i
  ·rw [c];exact si
  ·rw [if_neg c] at hn;exact l.sil k hk hn
theorem LstO.ord (l:LstO h s o)(f:h.FormS)(hall:∀ k,k<h.st→h.silent.getD k false=true→s.getD k 0=2)(h12:o.length≤h.st):OrdS h (o.reverse.map Int.toNat):=by
 have hmem:∀ k:Nat,k ∈ o.reverse.map Int.toNat ↔ (k:Int) ∈ o:=fun k=>by
  rw [List.mem_map]
  constructor
  ·rintro ⟨x,hx,rfl⟩
   have hx:=List.mem_reverse.1 hx
   rw [Int.toNat_of_nonneg (l.nat x hx)];exact hx
  ·exact fun hk=>⟨(k:Int),List.mem_reverse.2 hk,Int.toNat_natCast k⟩
 refine ⟨fun k=>?_,fun u i v e k hk=>?_,by rw [lm9,List.length_reverse];exact h12⟩
 ·rw [hmem,l.mem k]
  exact ⟨fun x=>⟨x.1,l.sil k x.1 (by rw [x.2];decide)⟩,fun x=>⟨x.1,hall k x.1 x.2⟩⟩
 ·obtain ⟨u2,w2,e1,e2,e3⟩:=List.map_eq_append_iff.1 e
  obtain ⟨x,v2,e4,e5,e6⟩:=List.map_eq_cons_iff.1 e3
  have eo:o=v2.reverse++x::u2.reverse:=by
   have:o=(u2++w2).reverse:=by rw [← e1,List.reverse_reverse]
   rw [this,e4];simp
  have hx0:0≤x:=l.nat x (by rw [eo];simp)
  have hko:(k:Int) ∈ o:=by
   rw [← hmem,e]
   rcases hk with hk|hk
   ·exact List.mem_append.2 (.inl hk)
   ·rw [hk];exact List.mem_append.2 (.inr mc9)
  obtain ⟨k1,k2⟩:=(l.mem k).1 hko
  have ksil:=l.sil k k1 (by rw [k2];decide)
  have hnn:0≤(h.trans.getD i []).getD k 0:=((f.pT i).get k).1
  show (h.trans.getD i []).getD k 0=0
  refine Classical.byContradiction fun hne=>?_
  have hpos:0<(h.trans.getD i []).getD k 0:=by
   rcases Rat.le_iff_lt_or_eq.1 hnn with q|q
   ·exact q
   ·exact absurd q.symm hne
  have hka:=l.bwd v2.reverse x u2.reverse eo k k1 ksil (by rw [e5];exact hpos)
  have hnd:=l.nod
  rw [eo,List.nodup_append] at hnd
  refine hnd.2.2 _ hka (k:Int) ?_ rfl
  rcases hk with hk|hk
  ·rw [← e2] at hk
   obtain ⟨y,hy,rfl⟩:=mm9 hk
   have hy0:0≤y:=l.nat y (by rw [eo];simp [hy])
   rw [Int.toNat_of_nonneg hy0]
   exact List.mem_cons_of_mem _ (List.mem_reverse.2 hy)
  ·rw [hk,← e5,Int.toNat_of_nonneg hx0]
   exact List.mem_cons_self ..
end
theorem le_addR {a b:Rat}(h:0≤b):a≤a+b:=by
 have:=(Rat.add_le_add_left (c:=a)).2 h
 rwa [Rat.add_zero] at this
theorem less_eq {a s:Rat}(h:a+s=1):a=1 + -1*s:=by
 rw [Rat.neg_mul,Rat.one_mul,← h,Rat.add_assoc,Rat.add_neg_cancel,Rat.add_zero]
def allW (k:Nat):Nat→List (List Int)
 | 0=>[[]]
 | n+1=>(allW k n).flatMap (kidsW k)
def uptoW (k:Nat):Nat→List (List Int)
 | 0=>[]
 | n+1=>uptoW k n++allW k n
section
variable {g:HM}{k n:Nat}
theorem allW_len:∀ n:Nat,∀ u,u ∈ allW k n→u.length=n∧InW k u
 | 0,u,h=>by rw [ms9 h];exact ⟨rfl,fun x hx=>by cases hx⟩
 | n + 1, u, h => by
  obtain ⟨v,hv,hu⟩:=List.mem_flatMap.1 h
  obtain ⟨s,hs,rfl⟩:=mm9 hu
  obtain ⟨h1,h2⟩:=allW_len n v hv
  refine ⟨by rw [la9,h1];rfl,fun x hx=>?_⟩
  rcases mp9 hx with hx|hx
  ·exact h2 x hx
  ·rw [ms9 hx]
   have:=List.mem_range.1 hs
   omega
def goOnQ (g:HM)(u:List Int):Rat:=sumN (fun j=>(fwdF g u (u.length-1)).getD j 0) g.st
def massN (g:HM)(n:Nat):Rat:=lsum (likF g) (allW g.sym n)
def goOnN (g:HM)(n:Nat):Rat:=lsum (goOnQ g) (allW g.sym n)
theorem kid_sum (f:List Int→Rat)(u:List Int):lsum f (kidsW k u)=sumN (fun s=>f (u++[((s+1:Nat):Int)])) k:=by
 unfold kidsW
 rw [lsum_map,lsum_range]
theorem sum_row {l:List Rat}{m:Nat}(h:l.length=m):sumN (fun i=>l.getD i 0) m=sumQ l:=by
 subst h
 have key:∀ i,i≤l.length→sumN (fun i=>l.getD i 0) i=sumQ (l.take i):=fun i=>by
  induction i with
  | zero=>intro _;rfl
  | succ i ih=>intro hi;rw [sumN,ih (by omega),sumQ_take_succ (by omega)]
 rw [key _ (Nat.le_refl _),List.take_length]
theorem sym_last (u:List Int)(s:Nat):symX (u++[((s+1:Nat):Int)]) u.length=s:=by
 unfold symX
 rw [gd9,List.getElem?_append_right (Nat.le_refl _),Nat.sub_self]
 show (((s+1:Nat):Int)).toNat-1=s
 omega
section
variable {b B:Nat}(h:HM.GoodX b B g)
include h
theorem way_one:goOnN g 1=1-g.empty:=by
 unfold goOnN
 show lsum (goOnQ g) ((allW g.sym 0).flatMap (kidsW g.sym))=_
 rw [lsum_flatMap]
 show lsum (goOnQ g) (kidsW g.sym [])+0=_
 rw [Rat.add_zero,kid_sum]
 have e:∀ s,s<g.sym→goOnQ g ([]++[((s+1:Nat):Int)])=sumN (fun j=>g.ini.getD j 0*emQ g j s) g.st:=fun s _=>by
  unfold goOnQ
  refine sumN_congr fun j hj=>?_
  show (fwdF g _ 0).getD j 0=_
  rw [fwdF,map_getD_range _ _ hj,show symX ([]++[((s+1:Nat):Int)]) 0=s from sym_last [] s]
 rw [sumN_congr e,sumN_swap]
 have e2:∀ j,j<g.st→sumN (fun s=>g.ini.getD j 0*emQ g j s) g.sym=g.ini.getD j 0:=fun j hj=>by
  rw [sumN_mulL]
  unfold emQ
  rw [sum_row (h.form.erow j hj),h.sM j hj,Rat.mul_one]
 rw [sumN_congr e2,sum_row h.form.ini]
 have:=h.sI
 rw [sumQ_app,sumQ_cons,sumQ_nil,Rat.add_zero] at this
 rw [← this,Rat.add_sub_cancel]
theorem way_next (hn:1≤n):goOnN g (n+1)=goOnN g n-massN g n:=by
 unfold goOnN massN
 show lsum (goOnQ g) ((allW g.sym n).flatMap (kidsW g.sym))=_
 rw [lsum_flatMap]
 have key:∀ u,u ∈ allW g.sym n→lsum (goOnQ g) (kidsW g.sym u)=goOnQ g u + -1*likF g u:=fun u hu=>by
  obtain ⟨hl,hw⟩:=allW_len n u hu
  rw [kid_sum]
  have e:∀ s,s<g.sym→goOnQ g (u++[((s+1:Nat):Int)])=sumN (fun j=>sumN (fun i=>(fwdF g u (n-1)).getD i 0*trQ g i j) g.st*emQ g j s) g.st:=fun s _=>by
   unfold goOnQ
   refine sumN_congr fun j hj=>?_
   rw [la9,ls9,Nat.add_sub_cancel,hl]
   obtain ⟨m,rfl⟩:∃ m,n=m+1:=⟨n-1,by omega⟩
   rw [fwdF,map_getD_range _ _ hj,fwd_pre (by omega)]
   unfold preF
   rw [show symX (u++[((s+1:Nat):Int)]) (m+1)=s by rw [← hl];exact sym_last u s]
   rfl
  rw [sumN_congr e,sumN_swap]
  have e2:∀ j,j<g.st→sumN (fun s=>sumN (fun i=>(fwdF g u (n-1)).getD i 0*trQ g i j) g.st*emQ g j s) g.sym=sumN (fun i=>(fwdF g u (n-1)).getD i 0*trQ g i j) g.st:=fun j hj=>by
   rw [sumN_mulL]
   unfold emQ
   rw [sum_row (h.form.erow j hj),h.sM j hj,Rat.mul_one]
  rw [sumN_congr e2,sumN_swap]
  unfold goOnQ likF likN
  rw [if_neg (by omega),hl,← sumN_mulL,← sumN_add]
  refine sumN_congr fun i hi=>?_
  rw [sumN_mulL]
  unfold trQ
  rw [sum_row (h.form.trow i hi)]
  have q:=h.sT i hi
  rw [sumQ_app,sumQ_cons,sumQ_nil,Rat.add_zero] at q
  rw [less_eq q,Rat.mul_add,Rat.mul_one,← Rat.mul_assoc,Rat.mul_comm _ (-1),Rat.mul_assoc]
 rw [lsum_congr key]
 have add:∀ l:List (List Int),lsum (fun x=>goOnQ g x + -1*likF g x) l=lsum (goOnQ g) l-lsum (likF g) l:=fun l=>by
  induction l with
  | nil=>show (0:Rat)=0-0;rw [Rat.sub_self]
  | cons x l ih =>
   show (goOnQ g x + -1*likF g x)+lsum _ l=(goOnQ g x+lsum (goOnQ g) l)-(likF g x+lsum (likF g) l)
   rw [ih,Rat.neg_mul,Rat.one_mul,Rat.sub_eq_add_neg,Rat.sub_eq_add_neg,Rat.neg_add]
   generalize goOnQ g x=p;generalize likF g x=q;generalize lsum (goOnQ g) l=r;generalize lsum (likF g) l=t
   rw [Rat.add_assoc,Rat.add_assoc,← Rat.add_assoc (-q),Rat.add_comm (-q) r,Rat.add_assoc r]
 exact add _
theorem mass_all:∀ n:Nat,lsum (likF g) (uptoW g.sym (n+1))+goOnN g (n+1)=1
 | 0=>by
  show lsum (likF g) ([]++[[]])+_=1
  rw [way_one h]
  show (likF g []+0)+_=1
  rw [Rat.add_zero,show likF g []=g.empty from rfl,Rat.add_comm,Rat.sub_add_cancel]
 | n+1=>by
  rw [uptoW,lsum_append,way_next h (by omega),Rat.add_assoc]
  show _+(massN g (n+1)+(goOnN g (n+1)-massN g (n+1)))=1
  rw [Rat.add_comm (massN g (n+1)),Rat.sub_add_cancel]
  exact mass_all n
theorem fwd_nn (u:List Int):∀ t j,0≤(fwdF g u t).getD j 0
 | 0,j=>by
  rcases Nat.lt_or_ge j g.st with hj|hj
  ·rw [fwdF,map_getD_range _ _ hj];exact Rat.mul_nonneg (h.pI.get j).1 ((h.pM j).get _).1
  ·rw [getD_ge (by rw [fwdF_len];exact hj)];exact Rat.le_refl
 | t + 1, j => by
  rcases Nat.lt_or_ge j g.st with hj|hj
  ·rw [fwdF,map_getD_range _ _ hj]
   refine Rat.mul_nonneg ?_ ((h.pM j).get _).1
   have:∀ m,0≤preF g u (fwdF g u t) t j m:=fun m=>by
    induction m with
    | zero=>exact Rat.le_refl
    | succ m ih=>exact Rat.add_nonneg ih (Rat.mul_nonneg (fwd_nn u t m) ((h.pT m).get j).1)
   exact this _
  ·rw [getD_ge (by rw [fwdF_len];exact hj)];exact Rat.le_refl
theorem lik_nn (u:List Int):0≤likF g u:=by
 unfold likF
 split
 ·exact h.pE.1
 ·have:∀ m,0≤likN g (fwdF g u (u.length-1)) m:=fun m=>by
   induction m with
   | zero=>exact Rat.le_refl
   | succ m ih=>exact Rat.add_nonneg ih (Rat.mul_nonneg (fwd_nn h u _ m) ((h.pS.get m).1))
  exact this _
theorem mass_le (n:Nat):lsum (likF g) (uptoW g.sym (n+1))≤1:=by
 have h1:=mass_all h n
 have h2:0≤goOnN g (n+1):=by
  unfold goOnN
  have:∀ l:List (List Int),0≤lsum (goOnQ g) l:=fun l=>by
   induction l with
   | nil=>exact Rat.le_refl
   | cons u l ih =>
    refine Rat.add_nonneg ?_ ih
    unfold goOnQ
    have q:∀ m,0≤sumN (fun j=>(fwdF g u (u.length-1)).getD j 0) m:=fun m=>by
     induction m with
     | zero=>exact Rat.le_refl
     | succ m ih=>exact Rat.add_nonneg ih (fwd_nn h u _ m)
    exact q _
  exact this _
 rw [← h1]
 exact le_addR h2
theorem mass_take (n j:Nat):lsum (likF g) ((uptoW g.sym (n+1)).take j)≤1:=by
 refine Rat.le_trans ?_ (mass_le h n)
 conv=>rhs;rw [← List.take_append_drop j (uptoW g.sym (n+1)),lsum_append]
 have q:∀ l:List (List Int),0≤lsum (likF g) l:=fun l=>by
  induction l with
  | nil=>exact Rat.le_refl
  | cons u l ih=>exact Rat.add_nonneg (lik_nn h u) ih
 exact le_addR (q _)
end
end
def lefS (h:HM):List Nat:=(List.range h.st).filter fun i=>!(h.silent.getD i false)
def pkS (h:HM)(l:List Rat):List Rat:=(lefS h).map fun i=>l.getD i 0
def rowTh (h:HM)(O:List Nat)(i:Nat):List Rat × Rat:=thR h O (h.trans.getD i [],h.stop.getD i 0)
def iniTh (h:HM)(O:List Nat):List Rat × Rat:=thR h O (h.ini,h.empty)
def emHM (h:HM)(O:List Nat)(ties:List Int):HM :=
 ⟨h.sym,(lefS h).length,(iniTh h O).2,pkS h (iniTh h O).1,(lefS h).map fun i=>pkS h (rowTh h O i).1,(lefS h).map fun i=>(rowTh h O i).2,(lefS h).map fun i=>h.emit.getD i [],List.replicate (lefS h).length false,ties⟩
def thB (B:Nat):Nat→Nat
 | 0=>B
 | n+1=>2*thB B n+B+2
theorem thB_mono {B:Nat}:∀ {m n:Nat},m≤n→thB B m≤thB B n
 | m,0,h=>by rw [show m=0 by omega];exact Nat.le_refl _
 | m, n + 1, h => by
  rcases Nat.lt_or_ge m (n+1) with k|k
  ·have:=thB_mono (B:=B) (show m≤n by omega)
   show thB B m≤2*thB B n+B+2
   omega
  ·rw [show m=n+1 by omega];exact Nat.le_refl _
section
variable {h:HM}{O:List Nat}{x:List Rat × Rat}{i j k n B:Nat}{l:List Rat}
structure NnT (x:List Rat × Rat):Prop where
 a:∀ j,0≤x.1.getD j 0
 b:0≤x.2
theorem thS_nn (f:h.FormS)(hx:NnT x):NnT (thS h i x):=by
 refine ⟨fun j=>?_,Rat.add_nonneg hx.b (Rat.mul_nonneg (hx.a i) (f.pS.get i).1)⟩
 rcases Nat.lt_or_ge j h.st with hj|hj
 ·rw [thS_get hj]
  refine Rat.add_nonneg ?_ (Rat.mul_nonneg (hx.a i) ((f.pT i).get j).1)
  split
  ·exact Rat.le_refl
  ·exact hx.a j
 ·rw [getD_ge (by rw [thS_len];exact hj)];exact Rat.le_refl
theorem thR_nn (f:h.FormS)(hx:NnT x):NnT (thR h O x):=by
 induction O generalizing x with
 | nil=>exact hx
 | cons i O ih=>exact ih (thS_nn f hx)
theorem thR_sum (f:h.FormS)(sm:h.Sums)(o:∀ k,k ∈ O→k<h.st):sumN (fun j=>(thR h O x).1.getD j 0) h.st+(thR h O x).2=sumN (fun j=>x.1.getD j 0) h.st+x.2:=by
 have hw:∀ k,k ∈ O→k<h.st∧Worth h 1 (fun _=>1) k:=fun k hk=>by
  refine ⟨o k hk,?_⟩
  unfold Worth
  have e:sumN (fun j=>trQ h k j*(1:Rat)) h.st=sumQ (h.trans.getD k []):=by
   rw [← sum_row (f.trow k (o k hk))]
   exact sumN_congr fun j _=>by rw [Rat.mul_one];rfl
  have s:=sm.t k (o k hk)
  rw [sumQ_app,sumQ_cons,sumQ_nil,Rat.add_zero] at s
  rw [e,Rat.one_mul,Rat.add_comm,s]
 have:=thR_val (x:=x) hw
 unfold valT at this
 rw [Rat.one_mul,Rat.one_mul] at this
 have m1:∀ y:List Rat × Rat,sumN (fun j=>y.1.getD j 0*(1:Rat)) h.st=sumN (fun j=>y.1.getD j 0) h.st:=fun y=>sumN_congr fun j _=>Rat.mul_one _
 rw [m1,m1] at this
 exact this
structure SzT (C:Nat) (x:List Rat × Rat):Prop where
 a:∀ j,sz (x.1.getD j 0)≤C
 b:sz x.2≤C
theorem thS_sz (zT:∀ i,Small B (h.trans.getD i []))(zS:Small B h.stop)(h1:1≤B)(hx:SzT n x):SzT (2*n+B+2) (thS h i x):=by
 refine ⟨fun j=>?_,?_⟩
 ·rcases Nat.lt_or_ge j h.st with hj|hj
  ·rw [thS_get hj]
   have q1:=sz_mul (x.1.getD i 0) (trQ h i j)
   have q2:sz (trQ h i j)≤B:=(zT i).get h1 j
   have q3:=hx.a i
   have q4:=hx.a j
   have q5:=sz_add (if j=i then 0 else x.1.getD j 0) (x.1.getD i 0*trQ h i j)
   have q6:sz (if j=i then 0 else x.1.getD j 0)≤n+1:=by
    split
    ·rw [sz_zero];omega
    ·omega
   omega
  ·rw [getD_ge (by rw [thS_len];exact hj),sz_zero];omega
 ·have q1:=sz_mul (x.1.getD i 0) (h.stop.getD i 0)
  have q2:=zS.get h1 i
  have q3:=hx.a i
  have q4:=hx.b
  have q5:=sz_add x.2 (x.1.getD i 0*h.stop.getD i 0)
  show sz (x.2+x.1.getD i 0*h.stop.getD i 0)≤_
  omega
theorem thR_sz (zT:∀ i,Small B (h.trans.getD i []))(zS:Small B h.stop)(h1:1≤B)(hx:SzT B x):SzT (thB B O.length) (thR h O x):=by
 have key:∀ n,n≤O.length→SzT (thB B n) (thR h (O.take n) x):=fun n=>by
  induction n with
  | zero=>intro _;rw [List.take_zero];exact hx
  | succ n ih =>
   intro hn
   rw [take_succ_getD (show n<O.length by omega) 0,thR_snoc]
   exact thS_sz zT zS h1 (ih (by omega))
 have:=key O.length (Nat.le_refl _)
 rwa [List.take_length] at this
theorem lef_mem:k ∈ lefS h ↔ k<h.st∧h.silent.getD k false=false:=by
 unfold lefS
 rw [List.mem_filter,List.mem_range]
 simp
theorem lef_len:(lefS h).length≤h.st:=by
 unfold lefS
 refine Nat.le_trans (List.length_filter_le ..) ?_
 rw [List.length_range];exact Nat.le_refl _
theorem lef_get (hk:k<(lefS h).length):(lefS h).getD k 0<h.st∧h.silent.getD ((lefS h).getD k 0) false=false:=lef_mem.1 (getD_mem hk 0)
theorem sum_filter (p:Nat→Bool)(g:Nat→Rat):∀ n:Nat,sumQ (((List.range n).filter p).map g)=sumN (fun j=>if p j=true then g j else 0) n
 | 0=>rfl
 | n+1=>by
  rw [List.range_succ,List.filter_append,List.map_append,sumQ_app,sum_filter p g n,sumN]
  congr 1
  cases hp:p n with
  | true=>rw [List.filter_cons,if_pos hp,if_pos rfl];show sumQ [g n]=g n;rw [sumQ_cons,sumQ_nil,Rat.add_zero]
  | false=>rw [List.filter_cons,if_neg (by rw [hp];decide),if_neg (by decide)];rfl
theorem pk_sum (hz:∀ k,k<h.st→h.silent.getD k false=true→l.getD k 0=0):sumQ (pkS h l)=sumN (fun j=>l.getD j 0) h.st:=by
 unfold pkS lefS
 rw [sum_filter]
 refine sumN_congr fun j hj=>?_
 cases hs:h.silent.getD j false with
 | true=>rw [if_neg (by decide),hz j hj hs]
 | false=>rw [if_pos (by decide)]
theorem sumN_ge {f:Nat→Rat}(hf:∀ j,0≤f j):∀ n,0≤sumN f n
 | 0=>Rat.le_refl
 | n+1=>Rat.add_nonneg (sumN_ge hf n) (hf n)
theorem le_one {x:List Rat × Rat}(nn:NnT x)(hs:sumN (fun j=>x.1.getD j 0) n+x.2=1)(hj:j<n):x.1.getD j 0≤1:=by
 rw [sumN_one (f:=fun j=>x.1.getD j 0) hj,Rat.add_assoc] at hs
 rw [← hs]
 refine le_addR (Rat.add_nonneg (sumN_ge (fun k=>?_) n) nn.b)
 split
 ·exact Rat.le_refl
 ·exact nn.a k
theorem le_end {x:List Rat × Rat}(nn:NnT x)(hs:sumN (fun j=>x.1.getD j 0) n+x.2=1):x.2≤1:=by
 rw [← hs,Rat.add_comm]
 exact le_addR (sumN_ge (fun k=>nn.a k) n)
structure RowOK9 (h:HM) (C:Nat) (x:List Rat × Rat):Prop where
 sh:Shares (pkS h x.1)
 en:Share x.2
 sz:Small C (pkS h x.1)
 ze:Go.AL.sz x.2≤C
 su:sumQ (pkS h x.1++[x.2])=1
theorem row_ok (f:h.FormS)(sm:h.Sums)(o:OrdS h O)(zT:∀ i,Small B (h.trans.getD i []))(zS:Small B h.stop)(h1:1≤B)(hl:l.length=h.st){e:Rat}(hsl:Shares l)(hse:Share e)(hzl:Small B l)(hze:sz e≤B)(hsum:sumQ (l++[e])=1):RowOK9 h (thB B h.st) (thR h O (l,e)):=by
 have nn:=thR_nn (O:=O) f (x:=(l,e)) ⟨fun j=>(hsl.get j).1,hse.1⟩
 have zz:=thR_sz (O:=O) zT zS h1 (x:=(l,e)) ⟨fun j=>hzl.get h1 j,hze⟩
 have up:=thB_mono (B:=B) o.len
 have s1:sumN (fun j=>(thR h O (l,e)).1.getD j 0) h.st+(thR h O (l,e)).2=1:=by
  rw [thR_sum f sm fun k hk=>((o.sil k).1 hk).1]
  show sumN (fun j=>l.getD j 0) h.st+e=1
  rw [sum_row hl]
  rwa [sumQ_app,sumQ_cons,sumQ_nil,Rat.add_zero] at hsum
 refine ⟨fun q hq=>?_,⟨nn.b,le_end nn s1⟩,fun q hq=>?_,Nat.le_trans zz.b up,?_⟩
 ·obtain ⟨i,hi,rfl⟩:=mm9 hq
  exact ⟨nn.a i,le_one nn s1 (lef_mem.1 hi).1⟩
 ·obtain ⟨i,hi,rfl⟩:=mm9 hq
  exact Nat.le_trans (zz.a i) up
 ·rw [sumQ_app,sumQ_cons,sumQ_nil,Rat.add_zero,pk_sum fun k hk hs=>thR_sil o _ hk hs]
  exact s1
theorem emHM_good {ties:List Int}{b:Nat}(f:h.FormS)(sm:h.Sums)(o:OrdS h O)(zE:sz h.empty≤B)(zI:Small B h.ini)(zT:∀ i,Small B (h.trans.getD i []))(zS:Small B h.stop)(zM:∀ i,Small B (h.emit.getD i []))(h1:1≤B)(hB:thB B h.st≤b)(hn:1≤(lefS h).length)
  (tl:ties.length=(lefS h).length) (tr:∀ i,i<(lefS h).length→0≤ties.getD i 0∧ties.getD i 0<(lefS h).length) (tt:∀ i j,i<(lefS h).length→j<i→ties.getD i 0=ties.getD j 0→h.emit.getD ((lefS h).getD i 0) []=h.emit.getD ((lefS h).getD j 0) []):HM.GoodX b (thB B h.st) (emHM h O ties):=by
 have hBm:B≤thB B h.st:=thB_mono (m:=0) (Nat.zero_le _)
 have ri:=row_ok (O:=O) f sm o zT zS h1 f.ini f.pI f.pE zI zE sm.i
 have rr:∀ i,i<h.st→RowOK9 h (thB B h.st) (rowTh h O i):=fun i hi=>row_ok f sm o zT zS h1 (f.trow i hi) (f.pT i) (f.pS.get i) (zT i) (zS.get h1 i) (sm.t i hi)
 have pl:∀ l:List Rat,(pkS h l).length=(lefS h).length:=fun l=>by unfold pkS;rw [lm9]
 have gt:∀ k,k<(lefS h).length→((lefS h).map fun i=>pkS h (rowTh h O i).1).getD k []=pkS h (rowTh h O ((lefS h).getD k 0)).1:=fun k hk=>map_mem (d:=0) hk
 have gs:∀ k,k<(lefS h).length→((lefS h).map fun i=>(rowTh h O i).2).getD k 0=(rowTh h O ((lefS h).getD k 0)).2:=fun k hk=>map_mem (d:=0) hk
 have ge:∀ k,k<(lefS h).length→((lefS h).map fun i=>h.emit.getD i []).getD k []=h.emit.getD ((lefS h).getD k 0) []:=fun k hk=>map_mem (d:=0) hk
 have out:∀ {α:Type} {g:Nat→α} {d:α} {k:Nat},(lefS h).length≤k→((lefS h).map g).getD k d=d:=fun hk=>getD_ge (by rw [lm9];exact hk)
 have hst:=f.st1
 have hll:=lef_len (h:=h)
 refine ⟨⟨f.sym0,f.sym1,hn,by show (lefS h).length≤12;omega,pl _,lm9 ..,fun i hi=>?_,lm9 ..,lm9 ..,fun i hi=>?_,rfl,tl,tr,by omega,hB,ri.ze,ri.sz,fun q hq=>?_,fun i=>?_,fun i=>?_⟩,ri.en,ri.sh,fun q hq=>?_,fun i=>?_,fun i=>?_,ri.su,fun i hi=>?_,fun i hi=>?_,fun i j hi hj ht=>?_⟩
 ·show (((lefS h).map fun i=>pkS h (rowTh h O i).1).getD i []).length=_
  rw [gt i hi];exact pl _
 ·show (((lefS h).map fun i=>h.emit.getD i []).getD i []).length=h.sym
  rw [ge i hi]
  obtain ⟨a,b⟩:=lef_get hi
  have:=f.erow _ a
  rw [b] at this
  exact this
 ·obtain ⟨i,hi,rfl⟩:=mm9 hq
  exact (rr i (lef_mem.1 hi).1).ze
 ·show Small _ (((lefS h).map fun i=>pkS h (rowTh h O i).1).getD i [])
  rcases Nat.lt_or_ge i (lefS h).length with hi|hi
  ·rw [gt i hi];exact (rr _ (lef_get hi).1).sz
  ·rw [out hi];exact Small.nil
 ·show Small _ (((lefS h).map fun i=>h.emit.getD i []).getD i [])
  rcases Nat.lt_or_ge i (lefS h).length with hi|hi
  ·rw [ge i hi];exact (zM _).mono hBm
  ·rw [out hi];exact Small.nil
 ·obtain ⟨i,hi,rfl⟩:=mm9 hq
  exact (rr i (lef_mem.1 hi).1).en
 ·show Shares (((lefS h).map fun i=>pkS h (rowTh h O i).1).getD i [])
  rcases Nat.lt_or_ge i (lefS h).length with hi|hi
  ·rw [gt i hi];exact (rr _ (lef_get hi).1).sh
  ·rw [out hi];exact fun q hq=>by cases hq
 ·show Shares (((lefS h).map fun i=>h.emit.getD i []).getD i [])
  rcases Nat.lt_or_ge i (lefS h).length with hi|hi
  ·rw [ge i hi];exact f.pM _
  ·rw [out hi];exact fun q hq=>by cases hq
 ·show sumQ (((lefS h).map fun i=>pkS h (rowTh h O i).1).getD i []++[((lefS h).map fun i=>(rowTh h O i).2).getD i 0])=1
  rw [gt i hi,gs i hi];exact (rr _ (lef_get hi).1).su
 ·show sumQ (((lefS h).map fun i=>h.emit.getD i []).getD i [])=1
  rw [ge i hi];exact sm.m _ (lef_get hi).1 (lef_get hi).2
 ·show ((lefS h).map fun i=>h.emit.getD i []).getD i []=((lefS h).map fun i=>h.emit.getD i []).getD j []
  have hi2:i<(lefS h).length:=hi
  rw [ge i hi2,ge j (by omega)]
  exact tt i j hi2 hj ht
end
end Go.AL
