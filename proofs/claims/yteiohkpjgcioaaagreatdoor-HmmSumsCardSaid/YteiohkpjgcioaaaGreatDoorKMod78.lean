/-
  M, chapter 23: arcs in order, merged; sums, multiples and reversals of automata.
-/
import Derived.Test.YteiohkpjgcioaaaGreatDoorKMod77
set_option linter.unusedVariables false
set_option linter.unusedSimpArgs false
namespace Go.AL
open Go Go.BigFrame
def cI (a b:Nat):Int:=if a<b then -1 else if b<a then 1 else 0
def ordA (x y:Arc9):Int:=if cI x.f y.f≠0 then cI x.f y.f else if cI x.l y.l≠0 then cI x.l y.l else cI x.t y.t
section
variable {x y z:Arc9}
theorem cI_zero {a b:Nat}:cI a b=0 ↔ a=b:=by
 unfold cI
 split
 ·exact ⟨fun h=>(by cases h),fun h=>(by omega)⟩
 ·split
  ·exact ⟨fun h=>(by cases h),fun h=>(by omega)⟩
  ·exact ⟨fun _=>(by omega),fun _=>rfl⟩
theorem cI_lt {a b:Nat}:cI a b<0 ↔ a<b:=by
 unfold cI
 split
 ·exact ⟨fun _=>by assumption,fun _=>by decide⟩
 ·split
  ·exact ⟨fun h=>absurd h (by decide),fun h=>by omega⟩
  ·exact ⟨fun h=>absurd h (by decide),fun h=>by omega⟩
theorem ordA_zero:ordA x y=0 ↔ x.f=y.f∧x.l=y.l∧x.t=y.t:=by
 unfold ordA
 by_cases h1:cI x.f y.f=0
 ·rw [if_neg (by simp [h1])]
  by_cases h2:cI x.l y.l=0
  ·rw [if_neg (by simp [h2]),cI_zero]
   exact ⟨fun h=>⟨cI_zero.1 h1,cI_zero.1 h2,h⟩,fun h=>h.2.2⟩
  ·rw [if_pos h2]
   exact ⟨fun h=>absurd h h2,fun h=>absurd (cI_zero.2 h.2.1) h2⟩
 ·rw [if_pos h1]
  exact ⟨fun h=>absurd h h1,fun h=>absurd (cI_zero.2 h.1) h1⟩
theorem ordA_lt:ordA x y<0 ↔ x.f<y.f ∨ (x.f=y.f∧(x.l<y.l ∨ (x.l=y.l∧x.t<y.t))):=by
 unfold ordA
 by_cases h1:cI x.f y.f=0
 ·rw [if_neg (by simp [h1])]
  have e1:=cI_zero.1 h1
  by_cases h2:cI x.l y.l=0
  ·rw [if_neg (by simp [h2]),cI_lt]
   have e2:=cI_zero.1 h2
   omega
  ·rw [if_pos h2,cI_lt]
   have e2:x.l≠y.l:=fun e=>h2 (cI_zero.2 e)
   omega
 ·rw [if_pos h1,cI_lt]
  have e1:x.f≠y.f:=fun e=>h1 (cI_zero.2 e)
  omega
end
section
variable {α:Type}[Inhabited α]
def swapG (o:List α)(j:Nat):List α:=(o.set (j+1) (o.getD j default)).set j (o.getD (j+1) default)
def sinkG (c:α→α→Bool):Nat→List α→List α
 | 0,o=>o
 | j+1,o=>if c (o.getD (j+1) default) (o.getD j default) then sinkG c j (swapG o j) else o
def sortG (c:α→α→Bool):Nat→List α→List α
 | 0,o=>o
 | k+1,o=>sinkG c (k+1) (sortG c k o)
theorem swapG_len (o:List α)(j:Nat):(swapG o j).length=o.length:=by simp [swapG]
theorem sinkG_len (c:α→α→Bool):∀ (j:Nat) (o:List α),(sinkG c j o).length=o.length
 | 0,o=>rfl
 | j+1,o=>by
  rw [sinkG]
  split
  ·rw [sinkG_len c j,swapG_len]
  ·rfl
theorem sortG_len (c:α→α→Bool):∀ (k:Nat) (o:List α),(sortG c k o).length=o.length
 | 0,o=>rfl
 | k+1,o=>by rw [sortG,sinkG_len,sortG_len c k]
theorem getD_setG {o:List α}{i j:Nat}{x:α}(h:i<o.length):(o.set i x).getD j default=if i=j then x else o.getD j default:=by
 rw [gd9,List.getElem?_set]
 by_cases e:i=j
 ·subst e;rw [if_pos rfl,if_pos h,if_pos rfl];rfl
 ·rw [if_neg e,if_neg e,gd9]
theorem swapG_get {o:List α}{j:Nat}(h:j+1<o.length)(i:Nat):(swapG o j).getD i default=if i=j then o.getD (j+1) default else if i=j+1 then o.getD j default else o.getD i default:=by
 unfold swapG
 rw [getD_setG (by rw [List.length_set];omega),getD_setG h]
 by_cases e1:i=j
 ·rw [if_pos e1.symm,if_pos e1]
 ·rw [if_neg (fun e=>e1 e.symm),if_neg e1]
  by_cases e2:i=j+1
  ·rw [if_pos e2.symm,if_pos e2]
  ·rw [if_neg (fun e=>e2 e.symm),if_neg e2]
theorem swapG_perm:∀ {o:List α} {j:Nat},j+1<o.length→(swapG o j).Perm o
 | [],j,h=>by simp at h
 | [a],j,h=>by simp at h
 | a::b::r,0,h=>by
  show (b::a::r).Perm _
  exact List.Perm.swap ..
 | a::b::r,j+1,h=>by
  have e:swapG (a::b::r) (j+1)=a::swapG (b::r) j:=by simp [swapG]
  rw [e]
  exact List.Perm.cons a (swapG_perm (by simpa using h))
theorem sinkG_perm (c:α→α→Bool):∀ {j:Nat} {o:List α},j<o.length→(sinkG c j o).Perm o
 | 0,o,_=>.refl _
 | j+1,o,h=>by
  rw [sinkG]
  split
  ·exact (sinkG_perm c (by rw [swapG_len];omega)).trans (swapG_perm h)
  ·exact .refl _
theorem sortG_perm (c:α→α→Bool):∀ {k:Nat} {o:List α},k<o.length→(sortG c k o).Perm o
 | 0,o,_=>.refl _
 | k+1,o,h=>by
  rw [sortG]
  exact (sinkG_perm c (by rw [sortG_len];exact h)).trans (sortG_perm c (by omega))
def AscG (c:α→α→Bool)(o:List α)(k:Nat):Prop:=∀ i,i<k→c (o.getD (i+1) default) (o.getD i default)=false
theorem sinkG_asc {c:α→α→Bool}(ha:∀ x y,c x y=true→c y x=false){k:Nat}:∀ {j:Nat} {o:List α},j≤k→k<o.length→(∀ i,i<k→i+1≠j→c (o.getD (i+1) default) (o.getD i default)=false)→(∀ i,i+1=j→j+1≤k→c (o.getD (j+1) default) (o.getD i default)=false)→AscG c (sinkG c j o) k
 | 0,o,_,_,h1,_=>fun i hi=>h1 i hi (by omega)
 | j + 1, o, hj, hk, h1, h2 => by
  rw [sinkG]
  split
  ·rename_i hc
   have hg:=swapG_get (o:=o) (j:=j) (by omega)
   refine sinkG_asc ha (by omega) (by rw [swapG_len];exact hk) (fun i hi hne=>?_) (fun i hi hk2=>?_)
   ·rw [hg,hg]
    by_cases e1:i=j
    ·subst e1
     rw [if_neg (by omega),if_pos rfl,if_pos rfl]
     exact ha _ _ hc
    ·by_cases e2:i=j+1
     ·subst e2
      rw [if_neg (by omega),if_neg (by omega),if_neg (by omega),if_pos rfl]
      exact h2 j rfl hi
     ·rw [if_neg (by omega),if_neg (by omega),if_neg e1,if_neg e2]
      exact h1 i hi (by omega)
   ·rw [hg,hg,if_neg (by omega),if_pos rfl,if_neg (by omega),if_neg (by omega),← hi]
    exact h1 i (by omega) (by omega)
  ·rename_i hc
   intro i hi
   by_cases e:i=j
   ·subst e;exact Bool.not_eq_true _ ▸ hc
   ·exact h1 i hi (by omega)
theorem sortG_asc {c:α→α→Bool}(ha:∀ x y,c x y=true→c y x=false):∀ {k:Nat} {o:List α},k<o.length→AscG c (sortG c k o) k
 | 0,o,_=>fun i hi=>by omega
 | k+1,o,h=>by
  rw [sortG]
  have h1:=sortG_asc ha (k:=k) (o:=o) (by omega)
  exact sinkG_asc ha (Nat.le_refl _) (by rw [sortG_len];exact h) (fun i hi hne=>h1 i (by omega)) (fun i hi hk=>by omega)
end
def ltA (x y:Arc9):Bool:=decide (ordA x y<0)
def sortA (l:List Arc9):List Arc9:=sortG ltA (l.length-1) l
def mergeA (out:List Arc9)(x:Arc9):List Arc9 :=
 if 0<out.length∧ordA (out.getD (out.length-1) default) x=0 then out.set (out.length-1) { out.getD (out.length-1) default with q:=(out.getD (out.length-1) default).q+x.q } else out++[x]
def nzA (l:List Arc9):List Arc9:=l.filter fun x=>decide (x.q≠0)
def tidyA (l:List Arc9):List Arc9:=nzA ((sortA l).foldl mergeA [])
def atA (out:List Arc9)(x:Arc9):Nat:=out.findIdx fun y=>decide (¬ ordA y x<0)
def insA (out:List Arc9)(x:Arc9):List Arc9 :=
 if atA out x<out.length∧ordA (out.getD (atA out x) default) x=0 then out.set (atA out x) { out.getD (atA out x) default with q:=(out.getD (atA out x) default).q+x.q } else out.take (atA out x)++x::out.drop (atA out x)
def formA (l:List Arc9):List Arc9:=nzA (l.foldl insA [])
section
variable {l out:List Arc9}{x y:Arc9}{s i j:Nat}
def pickA (s i j:Nat)(x:Arc9):Rat:=if x.f=i∧x.l=s+1∧x.t=j then x.q else 0
theorem entA_app (l m:List Arc9):entA (l++m) s i j=entA l s i j+entA m s i j:=lsum_append ..
theorem entA_cons (x:Arc9)(l:List Arc9):entA (x::l) s i j=pickA s i j x+entA l s i j:=rfl
theorem entA_nil:entA [] s i j=0:=rfl
theorem lsum_permA {α:Type}{f:α→Rat}{l m:List α}(h:l.Perm m):lsum f l=lsum f m:=by
 induction h with
 | nil=>rfl
 | cons x _ ih=>rw [lsum,lsum,ih]
 | swap x y l=>rw [lsum,lsum,lsum,lsum,← Rat.add_assoc,← Rat.add_assoc,Rat.add_comm (f y)]
 | trans _ _ h1 h2=>exact h1.trans h2
theorem sortA_perm (l:List Arc9):(sortA l).Perm l:=by
 cases l with
 | nil=>exact .refl _
 | cons x r=>exact sortG_perm ltA (by simp)
theorem lsumZ {α:Type}{f:α→Rat}:∀ {l:List α},(∀ x,x ∈ l→f x=0)→lsum f l=0
 | [],_=>rfl
 | x::l,h=>by rw [lsum,h x mc9,lsumZ fun y hy=>h y (List.mem_cons_of_mem _ hy),Rat.add_zero]
theorem entA_sort:entA (sortA l) s i j=entA l s i j:=lsum_permA (sortA_perm l)
theorem lsum_filter {α:Type}{f:α→Rat}{p:α→Bool}:∀ {l:List α},(∀ x,x ∈ l→p x=false→f x=0)→lsum f (l.filter p)=lsum f l
 | [],_=>rfl
 | x::l,h=>by
  have ih:=lsum_filter (f:=f) (p:=p) (l:=l) fun y hy=>h y (List.mem_cons_of_mem _ hy)
  rw [List.filter_cons]
  cases hp:p x with
  | true=>rw [if_pos rfl,lsum,lsum,ih]
  | false=>rw [if_neg (by decide),ih,lsum,h x mc9 hp,Rat.zero_add]
theorem entA_nz:entA (nzA l) s i j=entA l s i j:=lsum_filter fun x _ hp=>by
 have h0:x.q=0:=Decidable.byContradiction fun h=>by rw [decide_eq_true h] at hp;cases hp
 split
 ·exact h0
 ·rfl
theorem entA_set {k:Nat}(hk:k<out.length)(he:ordA (out.getD k default) x=0):entA (out.set k { out.getD k default with q:=(out.getD k default).q+x.q }) s i j=entA out s i j+pickA s i j x:=by
 have e:out=out.take k++out.getD k default::out.drop (k+1):=by
  rw [gd9,ge9 hk,Option.getD_some,← List.drop_eq_getElem_cons hk,List.take_append_drop]
 obtain ⟨h1,h2,h3⟩:=ordA_zero.1 he
 generalize out.getD k default=y at *
 rw [List.set_eq_take_append_cons_drop,if_pos hk]
 conv=>rhs;rw [e]
 rw [entA_app,entA_app,entA_cons,entA_cons]
 have hp:pickA s i j { y with q:=y.q+x.q }=pickA s i j y+pickA s i j x:=by
  unfold pickA
  show (if y.f=i∧y.l=s+1∧y.t=j then y.q+x.q else 0)=_
  rw [← h1,← h2,← h3]
  split
  ·rfl
  ·rw [Rat.add_zero]
 rw [hp,Rat.add_assoc,Rat.add_assoc,Rat.add_assoc,Rat.add_comm (pickA s i j x)]
theorem entA_merge:entA (mergeA out x) s i j=entA out s i j+pickA s i j x:=by
 unfold mergeA
 split
 ·rename_i h
  exact entA_set (by omega) h.2
 ·rw [entA_app,entA_cons,entA_nil,Rat.add_zero]
theorem entA_ins:entA (insA out x) s i j=entA out s i j+pickA s i j x:=by
 unfold insA
 split
 ·rename_i h
  exact entA_set h.1 h.2
 ·conv=>rhs;rw [← List.take_append_drop (atA out x) out]
  rw [entA_app,entA_app,entA_cons,Rat.add_assoc,Rat.add_comm (pickA s i j x)]
theorem entA_fold {g:List Arc9→Arc9→List Arc9}(hg:∀ out x,entA (g out x) s i j=entA out s i j+pickA s i j x):∀ (l out:List Arc9),entA (l.foldl g out) s i j=entA out s i j+entA l s i j
 | [],out=>by rw [List.foldl_nil,entA_nil,Rat.add_zero]
 | x::l,out=>by rw [List.foldl_cons,entA_fold hg l,hg,entA_cons,Rat.add_assoc]
theorem entA_tidy:entA (tidyA l) s i j=entA l s i j:=by
 unfold tidyA
 rw [entA_nz,entA_fold (fun out x=>entA_merge),entA_nil,Rat.zero_add,entA_sort]
theorem entA_form:entA (formA l) s i j=entA l s i j:=by
 unfold formA
 rw [entA_nz,entA_fold (fun out x=>entA_ins),entA_nil,Rat.zero_add]
def PlaceA (p:Nat→Nat→Nat→Prop)(l:List Arc9):Prop:=∀ x,x ∈ l→p x.f x.l x.t
variable {p:Nat→Nat→Nat→Prop}
theorem PlaceA.set {k:Nat}{q:Rat}(h:PlaceA p out)(hk:k<out.length):PlaceA p (out.set k { out.getD k default with q:=q }):=fun y hy=>by
 rcases List.mem_or_eq_of_mem_set hy with hy|rfl
 ·exact h y hy
 ·exact h (out.getD k default) (getD_mem hk default)
theorem PlaceA.merge (h:PlaceA p out)(hx:p x.f x.l x.t):PlaceA p (mergeA out x):=by
 unfold mergeA
 split
 ·exact h.set (by omega)
 ·intro y hy
  rcases mp9 hy with hy|hy
  ·exact h y hy
  ·rw [ms9 hy];exact hx
theorem PlaceA.ins (h:PlaceA p out)(hx:p x.f x.l x.t):PlaceA p (insA out x):=by
 unfold insA
 split
 ·rename_i hc;exact h.set hc.1
 ·intro y hy
  rcases mp9 hy with hy|hy
  ·exact h y (List.mem_of_mem_take hy)
  ·rcases List.mem_cons.1 hy with rfl|hy
   ·exact hx
   ·exact h y (List.mem_of_mem_drop hy)
theorem PlaceA.fold {g:List Arc9→Arc9→List Arc9}(hg:∀ out x,PlaceA p out→p x.f x.l x.t→PlaceA p (g out x)):∀ (l out:List Arc9),PlaceA p out→PlaceA p l→PlaceA p (l.foldl g out)
 | [],out,h,_=>h
 | x::l,out,h,k=>PlaceA.fold hg l _ (hg _ _ h (k x mc9)) fun y hy=>k y (List.mem_cons_of_mem _ hy)
theorem PlaceA.nz (h:PlaceA p l):PlaceA p (nzA l):=fun y hy=>h y (List.mem_filter.1 hy).1
theorem PlaceA.sort (h:PlaceA p l):PlaceA p (sortA l):=fun y hy=>h y ((sortA_perm l).mem_iff.1 hy)
theorem PlaceA.tidy (h:PlaceA p l):PlaceA p (tidyA l):=(PlaceA.fold (fun _ _ h k=>h.merge k) _ _ (fun _ h=>by cases h) h.sort).nz
theorem PlaceA.form (h:PlaceA p l):PlaceA p (formA l):=(PlaceA.fold (fun _ _ h k=>h.ins k) _ _ (fun _ h=>by cases h) h).nz
theorem asc_pairwise {α:Type}[Inhabited α]{R:α→α→Prop}(tr:∀ a b c,R a b→R b c→R a c):∀ {l:List α},(∀ i,i+1<l.length→R (l.getD i default) (l.getD (i+1) default))→l.Pairwise R
 | [],_=>.nil
 | [x],_=>List.pairwise_singleton ..
 | x::y::r,h=>by
  have ih:=asc_pairwise tr (l:=y::r) fun i hi=>h (i+1) (by simpa using hi)
  have h0:R x y:=h 0 (by simp)
  refine List.pairwise_cons.2 ⟨fun z hz=>?_,ih⟩
  rcases List.mem_cons.1 hz with rfl|hz
  ·exact h0
  ·exact tr _ _ _ h0 ((List.pairwise_cons.1 ih).1 z hz)
theorem sortA_le (l:List Arc9):(sortA l).Pairwise fun a b=>¬ ordA b a<0:=by
 refine asc_pairwise (fun a b c h k=>?_) fun i hi=>?_
 ·rw [ordA_lt] at *;omega
 ·have hl:(sortA l).length=l.length:=sortG_len ..
  have h:=sortG_asc (c:=ltA) (fun x y h=>decide_eq_false (by have:=dt9 h;rw [ordA_lt] at *;omega)) (k:=l.length-1) (o:=l) (by omega) i (by omega)
  exact df9 h
theorem merge_asc:∀ (l out:List Arc9),out.Pairwise (fun a b=>ordA a b<0)→l.Pairwise (fun a b=>¬ ordA b a<0)→(∀ a,a ∈ out→∀ b,b ∈ l→¬ ordA b a<0)→(l.foldl mergeA out).Pairwise fun a b=>ordA a b<0
 | [],out,h,_,_=>h
 | x :: l, out, h, hl, hb => by
  obtain ⟨hl1,hl2⟩:=List.pairwise_cons.1 hl
  rw [List.foldl_cons]
  have hx:=fun a ha=>hb a ha x mc9
  rcases List.eq_nil_or_concat out with rfl|⟨o,y,rfl⟩
  ·refine merge_asc l _ ?_ hl2 ?_
   ·show List.Pairwise _ (mergeA [] x)
    unfold mergeA
    rw [if_neg (by simp)]
    exact List.pairwise_singleton ..
   ·unfold mergeA
    rw [if_neg (by simp)]
    intro a ha
    rw [ms9 ha]
    exact hl1
  ·rw [List.concat_eq_append] at *
   have hlast:(o++[y]).getD ((o++[y]).length-1) default=y:=by
    rw [la9,ls9,Nat.add_sub_cancel,gd9,List.getElem?_append_right (Nat.le_refl _),Nat.sub_self];rfl
   obtain ⟨p1,_,p3⟩:=List.pairwise_append.1 h
   unfold mergeA
   rw [hlast]
   split
   ·rename_i hc
    rw [show (o++[y]).set ((o++[y]).length-1) { y with q:=y.q+x.q }=o++[{ y with q:=y.q+x.q }] by
     rw [la9,ls9,Nat.add_sub_cancel,List.set_append_right _ _ (Nat.le_refl _),Nat.sub_self];rfl]
    have e0:∀ a,ordA a { y with q:=y.q+x.q }=ordA a y:=fun a=>rfl
    have e1:∀ b,ordA b { y with q:=y.q+x.q }=ordA b y:=fun a=>rfl
    refine merge_asc l _ (List.pairwise_append.2 ⟨p1,List.pairwise_singleton ..,fun a ha b hb'=>?_⟩) hl2 fun a ha b hb'=>?_
    ·rw [ms9 hb',e0]
     exact p3 a ha y (List.mem_singleton.2 rfl)
    ·rcases mp9 ha with ha|ha
     ·exact hb a (List.mem_append.2 (.inl ha)) b (List.mem_cons_of_mem _ hb')
     ·rw [ms9 ha,e1]
      exact hb y (List.mem_append.2 (.inr (List.mem_singleton.2 rfl))) b (List.mem_cons_of_mem _ hb')
   ·rename_i hc
    have hyx:ordA y x<0:=by
     have h1:ordA y x≠0:=fun e=>hc ⟨by simp,e⟩
     have h2:=hx y (List.mem_append.2 (.inr (List.mem_singleton.2 rfl)))
     rw [ordA_lt] at h2 ⊢
     rw [Ne,ordA_zero] at h1
     omega
    refine merge_asc l _ (List.pairwise_append.2 ⟨h,List.pairwise_singleton ..,fun a ha b hb'=>?_⟩) hl2 fun a ha b hb'=>?_
    ·rw [ms9 hb']
     rcases mp9 ha with ha|ha
     ·have:=p3 a ha y (List.mem_singleton.2 rfl)
      rw [ordA_lt] at *;omega
     ·rw [ms9 ha];exact hyx
    ·rcases mp9 ha with ha|ha
     ·exact hb a ha b (List.mem_cons_of_mem _ hb')
     ·rw [ms9 ha];exact hl1 b hb'
theorem tidy_asc (l:List Arc9):(tidyA l).Pairwise fun a b=>ordA a b<0 :=
 List.Pairwise.filter _ (merge_asc _ _ .nil (sortA_le l) fun _ h=>by cases h)
theorem entA_mem:∀ {l:List Arc9},l.Pairwise (fun a b=>ordA a b<0)→x ∈ l→1≤x.l→entA l (x.l-1) x.f x.t=x.q
 | y :: l, hp, hx, h1 => by
  obtain ⟨p1,p2⟩:=List.pairwise_cons.1 hp
  rw [entA_cons]
  rcases List.mem_cons.1 hx with rfl|hx
  ·have hz:entA l (x.l-1) x.f x.t=0:=by
    unfold entA
    refine (lsumZ fun z hz=>?_)
    have:=p1 z hz
    rw [ordA_lt] at this
    rw [if_neg (by omega)]
   rw [hz,Rat.add_zero]
   unfold pickA
   rw [if_pos ⟨rfl,by omega,rfl⟩]
  ·have:=p1 x hx
   rw [ordA_lt] at this
   rw [entA_mem p2 hx h1]
   unfold pickA
   rw [if_neg (by omega),Rat.zero_add]
end
end Go.AL
