/-
  M, chapters 23 and 24: weights, arcs, automata and machines as data.
-/
import Derived.Test.YtmcoihfkniccdaaGreatDoorKMod77
set_option linter.unusedVariables false
set_option linter.unusedSimpArgs false
namespace Go.AL
open Go Go.BigFrame
def cI (a b:Nat):Int:=if a<b then -1 else if b<a then 1 else 0
def ordA (x y:Arc9):Int:=if cI x.f y.f≠0 then cI x.f y.f else if cI x.l y.l≠0 then cI x.l y.l else cI x.t y.t
section
variable {x y z:Arc9}
theorem cI_zero {a b:Nat}:cI a b=0 ↔ a=b:=by
 unfold cI
 split
 ·exact ⟨fun h=>(by cases h),fun h=>(by omega)⟩
 ·split
  ·exact ⟨fun h=>(by cases h),fun h=>(by omega)⟩
  ·exact ⟨fun _=>(by omega),fun _=>rfl⟩
theorem cI_lt {a b:Nat}:cI a b<0 ↔ a<b:=by
 unfold cI
 split
 ·exact ⟨fun _=>by assumption,fun _=>by decide⟩
 ·split
  ·exact ⟨fun h=>absurd h (by decide),fun h=>by omega⟩
  ·exact ⟨fun h=>absurd h (by decide),fun h=>by omega⟩
theorem ordA_zero:ordA x y=0 ↔ x.f=y.f∧x.l=y.l∧x.t=y.t:=by
 unfold ordA
 by_cases h1:cI x.f y.f=0
 ·rw [if_neg (by simp [h1])]
  by_cases h2:cI x.l y.l=0
  ·rw [if_neg (by simp [h2]),cI_zero]
   exact ⟨fun h=>⟨cI_zero.1 h1,cI_zero.1 h2,h⟩,fun h=>h.2.2⟩
  ·rw [if_pos h2]
   exact ⟨fun h=>absurd h h2,fun h=>absurd (cI_zero.2 h.2.1) h2⟩
 ·rw [if_pos h1]
  exact ⟨fun h=>absurd h h1,fun h=>absurd (cI_zero.2 h.1) h1⟩
theorem ordA_lt:ordA x y<0 ↔ x.f<y.f ∨ (x.f=y.f∧(x.l<y.l ∨ (x.l=y.l∧x.t<y.t))):=by
 unfold ordA
 by_cases h1:cI x.f y.f=0
 ·rw [if_neg (by simp [h1])]
  have e1:=cI_zero.1 h1
  by_cases h2:cI x.l y.l=0
  ·rw [if_neg (by simp [h2]),cI_lt]
   have e2:=cI_zero.1 h2
   omega
  ·rw [if_pos h2,cI_lt]
   have e2:x.l≠y.l:=fun e=>h2 (cI_zero.2 e)
   omega
 ·rw [if_pos h1,cI_lt]
  have e1:x.f≠y.f:=fun e=>h1 (cI_zero.2 e)
  omega
end
section
variable {α:Type}[Inhabited α]
def swapG (o:List α)(j:Nat):List α:=(o.set (j+1) (o.getD j default)).set j (o.getD (j+1) default)
def sinkG (c:α→α→Bool):Nat→List α→List α
 | 0,o=>o
 | j+1,o=>if c (o.getD (j+1) default) (o.getD j default) then sinkG c j (swapG o j) else o
def sortG (c:α→α→Bool):Nat→List α→List α
 | 0,o=>o
 | k+1,o=>sinkG c (k+1) (sortG c k o)
theorem swapG_len (o:List α)(j:Nat):(swapG o j).length=o.length:=by simp [swapG]
theorem sinkG_len (c:α→α→Bool):∀ (j:Nat) (o:List α),(sinkG c j o).length=o.length
 | 0,o=>rfl
 | j+1,o=>by
  rw [sinkG]
  split
  ·rw [sinkG_len c j,swapG_len]
  ·rfl
theorem sortG_len (c:α→α→Bool):∀ (k:Nat) (o:List α),(sortG c k o).length=o.length
 | 0,o=>rfl
 | k+1,o=>by rw [sortG,sinkG_len,sortG_len c k]
theorem getD_setG {o:List α}{i j:Nat}{x:α}(h:i<o.length):(o.set i x).getD j default=if i=j then x else o.getD j default:=by
 rw [gd9,List.getElem?_set]
 by_cases e:i=j
 ·subst e;rw [if_pos rfl,if_pos h,if_pos rfl];rfl
 ·rw [if_neg e,if_neg e,gd9]
theorem swapG_get {o:List α}{j:Nat}(h:j+1<o.length)(i:Nat):(swapG o j).getD i default=if i=j then o.getD (j+1) default else if i=j+1 then o.getD j default else o.getD i default:=by
 unfold swapG
 rw [getD_setG (by rw [List.length_set];omega),getD_setG h]
 by_cases e1:i=j
 ·rw [if_pos e1.symm,if_pos e1]
 ·rw [if_neg (fun e=>e1 e.symm),if_neg e1]
  by_cases e2:i=j+1
  ·rw [if_pos e2.symm,if_pos e2]
  ·rw [if_neg (fun e=>e2 e.symm),if_neg e2]
theorem swapG_perm:∀ {o:List α} {j:Nat},j+1<o.length→(swapG o j).Perm o
 | [],j,h=>by simp at h
 | [a],j,h=>by simp at h
 | a::b::r,0,h=>by
  show (b::a::r).Perm _
  exact List.Perm.swap ..
 | a::b::r,j+1,h=>by
  have e:swapG (a::b::r) (j+1)=a::swapG (b::r) j:=by simp [swapG]
  rw [e]
  exact List.Perm.cons a (swapG_perm (by simpa using h))
theorem sinkG_perm (c:α→α→Bool):∀ {j:Nat} {o:List α},j<o.length→(sinkG c j o).Perm o
 | 0,o,_=>.refl _
 | j+1,o,h=>by
  rw [sinkG]
  split
  ·exact (sinkG_perm c (by rw [swapG_len];omega)).trans (swapG_perm h)
  ·exact .refl _
theorem sortG_perm (c:α→α→Bool):∀ {k:Nat} {o:List α},k<o.length→(sortG c k o).Perm o
 | 0,o,_=>.refl _
 | k+1,o,h=>by
  rw [sortG]
  exact (sinkG_perm c (by rw [sortG_len];exact h)).trans (sortG_perm c (by omega))
def AscG (c:α→α→Bool)(o:List α)(k:Nat):Prop:=∀ i,i<k→c (o.getD (i+1) default) (o.getD i default)=false
theorem sinkG_asc {c:α→α→Bool}(ha:∀ x y,c x y=true→c y x=false){k:Nat}:∀ {j:Nat} {o:List α},j≤k→k<o.length→(∀ i,i<k→i+1≠j→c (o.getD (i+1) default) (o.getD i default)=false)→(∀ i,i+1=j→j+1≤k→c (o.getD (j+1) default) (o.getD i default)=false)→AscG c (sinkG c j o) k
 | 0,o,_,_,h1,_=>fun i hi=>h1 i hi (by omega)
 | j + 1, o, hj, hk, h1, h2 => by
  rw [sinkG]
  split
  ·rename_i hc
   have hg:=swapG_get (o:=o) (j:=j) (by omega)
   refine sinkG_asc ha (by omega) (by rw [swapG_len];exact hk) (fun i hi hne=>?_) (fun i hi hk2=>?_)
   ·rw [hg,hg]
    by_cases e1:i=j
    ·subst e1
     rw [if_neg (by omega),if_pos rfl,if_pos rfl]
     exact ha _ _ hc
    ·by_cases e2:i=j+1
     ·subst e2
      rw [if_neg (by omega),if_neg (by omega),if_neg (by omega),if_pos rfl]
      exact h2 j rfl hi
     ·rw [if_neg (by omega),if_neg (by omega),if_neg e1,if_neg e2]
      exact h1 i hi (by omega)
   ·rw [hg,hg,if_neg (by omega),if_pos rfl,if_neg (by omega),if_neg (by omega),← hi]
    exact h1 i (by omega) (by omega)
  ·rename_i hc
   intro i hi
   by_cases e:i=j
   ·subst e;exact Bool.not_eq_true _ ▸ hc
   ·exact h1 i hi (by omega)
theorem sortG_asc {c:α→α→Bool}(ha:∀ x y,c x y=true→c y x=false):∀ {k:Nat} {o:List α},k<o.length→AscG c (sortG c k o) k
 | 0,o,_=>fun i hi=>by omega
 | k+1,o,h=>by
  rw [sortG]
  have h1:=sortG_asc ha (k:=k) (o:=o) (by omega)
  exact sinkG_asc ha (Nat.le_refl _) (by rw [sortG_len];exact h) (fun i hi hne=>h1 i (by omega)) (fun i hi hk=>by omega)
end
def ltA (x y:Arc9):Bool:=decide (ordA x y<0)
def sortA (l:List Arc9):List Arc9:=sortG ltA (l.length-1) l
def mergeA (out:List Arc9)(x:Arc9):List Arc9 :=
 if 0<out.length∧ordA (out.getD (out.length-1) default) x=0 then out.set (out.length-1) { out.getD (out.length-1) default with q:=(out.getD (out.length-1) default).q+x.q } else out++[x]
def nzA (l:List Arc9):List Arc9:=l.filter fun x=>decide (x.q≠0)
def tidyA (l:List Arc9):List Arc9:=nzA ((sortA l).foldl mergeA [])
def atA (out:List Arc9)(x:Arc9):Nat:=out.findIdx fun y=>decide (¬ ordA y x<0)
def insA (out:List Arc9)(x:Arc9):List Arc9 :=
 if atA out x<out.length∧ordA (out.getD (atA out x) default) x=0 then out.set (atA out x) { out.getD (atA out x) default with q:=(out.getD (atA out x) default).q+x.q } else out.take (atA out x)++x::out.drop (atA out x)
def formA (l:List Arc9):List Arc9:=nzA (l.foldl insA [])
section
variable {l out:List Arc9}{x y:Arc9}{s i j:Nat}
def pickA (s i j:Nat)(x:Arc9):Rat:=if x.f=i∧x.l=s+1∧x.t=j then x.q else 0
theorem entA_app (l m:List Arc9):entA (l++m) s i j=entA l s i j+entA m s i j:=lsum_append ..
theorem entA_cons (x:Arc9)(l:List Arc9):entA (x::l) s i j=pickA s i j x+entA l s i j:=rfl
theorem entA_nil:entA [] s i j=0:=rfl
theorem lsum_permA {α:Type}{f:α→Rat}{l m:List α}(h:l.Perm m):lsum f l=lsum f m:=by
 induction h with
 | nil=>rfl
 | cons x _ ih=>rw [lsum,lsum,ih]
 | swap x y l=>rw [lsum,lsum,lsum,lsum,← Rat.add_assoc,← Rat.add_assoc,Rat.add_comm (f y)]
 | trans _ _ h1 h2=>exact h1.trans h2
theorem sortA_perm (l:List Arc9):(sortA l).Perm l:=by
 cases l with
 | nil=>exact .refl _
 | cons x r=>exact sortG_perm ltA (by simp)
theorem lsumZ {α:Type}{f:α→Rat}:∀ {l:List α},(∀ x,x ∈ l→f x=0)→lsum f l=0
 | [],_=>rfl
 | x::l,h=>by rw [lsum,h x mc9,lsumZ fun y hy=>h y (List.mem_cons_of_mem _ hy),Rat.add_zero]
theorem entA_sort:entA (sortA l) s i j=entA l s i j:=lsum_permA (sortA_perm l)
theorem lsum_filter {α:Type}{f:α→Rat}{p:α→Bool}:∀ {l:List α},(∀ x,x ∈ l→p x=false→f x=0)→lsum f (l.filter p)=lsum f l
 | [],_=>rfl
 | x::l,h=>by
  have ih:=lsum_filter (f:=f) (p:=p) (l:=l) fun y hy=>h y (List.mem_cons_of_mem _ hy)
  rw [List.filter_cons]
  cases hp:p x with
  | true=>rw [if_pos rfl,lsum,lsum,ih]
  | false=>rw [if_neg (by decide),ih,lsum,h x mc9 hp,Rat.zero_add]
theorem entA_nz:entA (nzA l) s i j=entA l s i j:=lsum_filter fun x _ hp=>by
 have h0:x.q=0:=Decidable.byContradiction fun h=>by rw [decide_eq_true h] at hp;cases hp
 split
 ·exact h0
 ·rfl
theorem entA_set {k:Nat}(hk:k<out.length)(he:ordA (out.getD k default) x=0):entA (out.set k { out.getD k default with q:=(out.getD k default).q+x.q }) s i j=entA out s i j+pickA s i j x:=by
 have e:out=out.take k++out.getD k default::out.drop (k+1):=by
  rw [gd9,ge9 hk,Option.getD_some,← List.drop_eq_getElem_cons hk,List.take_append_drop]
 obtain ⟨h1,h2,h3⟩:=ordA_zero.1 he
 generalize out.getD k default=y at *
 rw [List.set_eq_take_append_cons_drop,if_pos hk]
 conv=>rhs;rw [e]
 rw [entA_app,entA_app,entA_cons,entA_cons]
 have hp:pickA s i j { y with q:=y.q+x.q }=pickA s i j y+pickA s i j x:=by
  unfold pickA
  show (if y.f=i∧y.l=s+1∧y.t=j then y.q+x.q else 0)=_
  rw [← h1,← h2,← h3]
  split
  ·rfl
  ·rw [Rat.add_zero]
 rw [hp,Rat.add_assoc,Rat.add_assoc,Rat.add_assoc,Rat.add_comm (pickA s i j x)]
theorem entA_merge:entA (mergeA out x) s i j=entA out s i j+pickA s i j x:=by
 unfold mergeA
 split
 ·rename_i h
  exact entA_set (by omega) h.2
 ·rw [entA_app,entA_cons,entA_nil,Rat.add_zero]
theorem entA_ins:entA (insA out x) s i j=entA out s i j+pickA s i j x:=by
 unfold insA
 split
 ·rename_i h
  exact entA_set h.1 h.2
 ·conv=>rhs;rw [← List.take_append_drop (atA out x) out]
  rw [entA_app,entA_app,entA_cons,Rat.add_assoc,Rat.add_comm (pickA s i j x)]
theorem entA_fold {g:List Arc9→Arc9→List Arc9}(hg:∀ out x,entA (g out x) s i j=entA out s i j+pickA s i j x):∀ (l out:List Arc9),entA (l.foldl g out) s i j=entA out s i j+entA l s i j
 | [],out=>by rw [List.foldl_nil,entA_nil,Rat.add_zero]
 | x::l,out=>by rw [List.foldl_cons,entA_fold hg l,hg,entA_cons,Rat.add_assoc]
theorem entA_tidy:entA (tidyA l) s i j=entA l s i j:=by
 unfold tidyA
 rw [entA_nz,entA_fold (fun out x=>entA_merge),entA_nil,Rat.zero_add,entA_sort]
theorem entA_form:entA (formA l) s i j=entA l s i j:=by
 unfold formA
 rw [entA_nz,entA_fold (fun out x=>entA_ins),entA_nil,Rat.zero_add]
def PlaceA (p:Nat→Nat→Nat→Prop)(l:List Arc9):Prop:=∀ x,x ∈ l→p x.f x.l x.t
variable {p:Nat→Nat→Nat→Prop}
theorem PlaceA.set {k:Nat}{q:Rat}(h:PlaceA p out)(hk:k<out.length):PlaceA p (out.set k { out.getD k default with q:=q }):=fun y hy=>by
 rcases List.mem_or_eq_of_mem_set hy with hy|rfl
 ·exact h y hy
 ·exact h (out.getD k default) (getD_mem hk default)
theorem PlaceA.merge (h:PlaceA p out)(hx:p x.f x.l x.t):PlaceA p (mergeA out x):=by
 unfold mergeA
 split
 ·exact h.set (by omega)
 ·intro y hy
  rcases mp9 hy with hy|hy
  ·exact h y hy
  ·rw [ms9 hy];exact hx
theorem PlaceA.ins (h:PlaceA p out)(hx:p x.f x.l x.t):PlaceA p (insA out x):=by
 unfold insA
 split
 ·rename_i hc;exact h.set hc.1
 ·intro y hy
  rcases mp9 hy with hy|hy
  ·exact h y (List.mem_of_mem_take hy)
  ·rcases List.mem_cons.1 hy with rfl|hy
   ·exact hx
   ·exact h y (List.mem_of_mem_drop hy)
theorem PlaceA.fold {g:List Arc9→Arc9→List Arc9}(hg:∀ out x,PlaceA p out→p x.f x.l x.t→PlaceA p (g out x)):∀ (l out:List Arc9),PlaceA p out→PlaceA p l→PlaceA p (l.foldl g out)
 | [],out,h,_=>h
 | x::l,out,h,k=>PlaceA.fold hg l _ (hg _ _ h (k x mc9)) fun y hy=>k y (List.mem_cons_of_mem _ hy)
theorem PlaceA.nz (h:PlaceA p l):PlaceA p (nzA l):=fun y hy=>h y (List.mem_filter.1 hy).1
theorem PlaceA.sort (h:PlaceA p l):PlaceA p (sortA l):=fun y hy=>h y ((sortA_perm l).mem_iff.1 hy)
theorem PlaceA.tidy (h:PlaceA p l):PlaceA p (tidyA l):=(PlaceA.fold (fun _ _ h k=>h.merge k) _ _ (fun _ h=>by cases h) h.sort).nz
theorem PlaceA.form (h:PlaceA p l):PlaceA p (formA l):=(PlaceA.fold (fun _ _ h k=>h.ins k) _ _ (fun _ h=>by cases h) h).nz
theorem asc_pairwise {α:Type}[Inhabited α]{R:α→α→Prop}(tr:∀ a b c,R a b→R b c→R a c):∀ {l:List α},(∀ i,i+1<l.length→R (l.getD i default) (l.getD (i+1) default))→l.Pairwise R
 | [],_=>.nil
 | [x],_=>List.pairwise_singleton ..
 | x::y::r,h=>by
  have ih:=asc_pairwise tr (l:=y::r) fun i hi=>h (i+1) (by simpa using hi)
  have h0:R x y:=h 0 (by simp)
  refine List.pairwise_cons.2 ⟨fun z hz=>?_,ih⟩
  rcases List.mem_cons.1 hz with rfl|hz
  ·exact h0
  ·exact tr _ _ _ h0 ((List.pairwise_cons.1 ih).1 z hz)
theorem sortA_le (l:List Arc9):(sortA l).Pairwise fun a b=>¬ ordA b a<0:=by
 refine asc_pairwise (fun a b c h k=>?_) fun i hi=>?_
 ·rw [ordA_lt] at *;omega
 ·have hl:(sortA l).length=l.length:=sortG_len ..
  have h:=sortG_asc (c:=ltA) (fun x y h=>decide_eq_false (by have:=dt9 h;rw [ordA_lt] at *;omega)) (k:=l.length-1) (o:=l) (by omega) i (by omega)
  exact df9 h
theorem merge_asc:∀ (l out:List Arc9),out.Pairwise (fun a b=>ordA a b<0)→l.Pairwise (fun a b=>¬ ordA b a<0)→(∀ a,a ∈ out→∀ b,b ∈ l→¬ ordA b a<0)→(l.foldl mergeA out).Pairwise fun a b=>ordA a b<0
 | [],out,h,_,_=>h
 | x :: l, out, h, hl, hb => by
  obtain ⟨hl1,hl2⟩:=List.pairwise_cons.1 hl
  rw [List.foldl_cons]
  have hx:=fun a ha=>hb a ha x mc9
  rcases List.eq_nil_or_concat out with rfl|⟨o,y,rfl⟩
  ·refine merge_asc l _ ?_ hl2 ?_
   ·show List.Pairwise _ (mergeA [] x)
    unfold mergeA
    rw [if_neg (by simp)]
    exact List.pairwise_singleton ..
   ·unfold mergeA
    rw [if_neg (by simp)]
    intro a ha
    rw [ms9 ha]
    exact hl1
  ·rw [List.concat_eq_append] at *
   have hlast:(o++[y]).getD ((o++[y]).length-1) default=y:=by
    rw [la9,ls9,Nat.add_sub_cancel,gd9,List.getElem?_append_right (Nat.le_refl _),Nat.sub_self];rfl
   obtain ⟨p1,_,p3⟩:=List.pairwise_append.1 h
   unfold mergeA
   rw [hlast]
   split
   ·rename_i hc
    rw [show (o++[y]).set ((o++[y]).length-1) { y with q:=y.q+x.q }=o++[{ y with q:=y.q+x.q }] by
     rw [la9,ls9,Nat.add_sub_cancel,List.set_append_right _ _ (Nat.le_refl _),Nat.sub_self];rfl]
    have e0:∀ a,ordA a { y with q:=y.q+x.q }=ordA a y:=fun a=>rfl
    have e1:∀ b,ordA b { y with q:=y.q+x.q }=ordA b y:=fun a=>rfl
    refine merge_asc l _ (List.pairwise_append.2 ⟨p1,List.pairwise_singleton ..,fun a ha b hb'=>?_⟩) hl2 fun a ha b hb'=>?_
    ·rw [ms9 hb',e0]
     exact p3 a ha y (List.mem_singleton.2 rfl)
    ·rcases mp9 ha with ha|ha
     ·exact hb a (List.mem_append.2 (.inl ha)) b (List.mem_cons_of_mem _ hb')
     ·rw [ms9 ha,e1]
      exact hb y (List.mem_append.2 (.inr (List.mem_singleton.2 rfl))) b (List.mem_cons_of_mem _ hb')
   ·rename_i hc
    have hyx:ordA y x<0:=by
     have h1:ordA y x≠0:=fun e=>hc ⟨by simp,e⟩
     have h2:=hx y (List.mem_append.2 (.inr (List.mem_singleton.2 rfl)))
     rw [ordA_lt] at h2 ⊢
     rw [Ne,ordA_zero] at h1
     omega
    refine merge_asc l _ (List.pairwise_append.2 ⟨h,List.pairwise_singleton ..,fun a ha b hb'=>?_⟩) hl2 fun a ha b hb'=>?_
    ·rw [ms9 hb']
     rcases mp9 ha with ha|ha
     ·have:=p3 a ha y (List.mem_singleton.2 rfl)
      rw [ordA_lt] at *;omega
     ·rw [ms9 ha];exact hyx
    ·rcases mp9 ha with ha|ha
     ·exact hb a ha b (List.mem_cons_of_mem _ hb')
     ·rw [ms9 ha];exact hl1 b hb'
theorem tidy_asc (l:List Arc9):(tidyA l).Pairwise fun a b=>ordA a b<0 :=
 List.Pairwise.filter _ (merge_asc _ _ .nil (sortA_le l) fun _ h=>by cases h)
theorem entA_mem:∀ {l:List Arc9},l.Pairwise (fun a b=>ordA a b<0)→x ∈ l→1≤x.l→entA l (x.l-1) x.f x.t=x.q
 | y :: l, hp, hx, h1 => by
  obtain ⟨p1,p2⟩:=List.pairwise_cons.1 hp
  rw [entA_cons]
  rcases List.mem_cons.1 hx with rfl|hx
  ·have hz:entA l (x.l-1) x.f x.t=0:=by
    unfold entA
    refine (lsumZ fun z hz=>?_)
    have:=p1 z hz
    rw [ordA_lt] at this
    rw [if_neg (by omega)]
   rw [hz,Rat.add_zero]
   unfold pickA
   rw [if_pos ⟨rfl,by omega,rfl⟩]
  ·have:=p1 x hx
   rw [ordA_lt] at this
   rw [entA_mem p2 hx h1]
   unfold pickA
   rw [if_neg (by omega),Rat.zero_add]
end
structure SameA (a b:Au):Prop where
 st:a.st=b.st
 sym:a.sym=b.sym
 ini:a.ini=b.ini
 fin:a.fin=b.fin
 ent:∀ s i j,entA a.arcs s i j=entA b.arcs s i j
def formOf (a:Au):Au:={ a with arcs:=formA a.arcs }
def scaleOf (a:Au)(c:Rat):Au:={ formOf a with ini:=a.ini.map fun x=>x*c }
def moved (l:List Arc9)(by_:Nat):List Arc9:=l.map fun x=>⟨x.f+by_,x.l,x.t+by_,x.q⟩
def unionOf (a b:Au):Au:=⟨a.sym,a.st+b.st,a.ini++b.ini,a.fin++b.fin,formA (moved a.arcs 0++moved b.arcs a.st)⟩
def revOf (a:Au):Au:=⟨a.sym,a.st,a.fin,a.ini,formA (a.arcs.map fun x=>⟨x.t,x.l,x.f,x.q⟩)⟩
section
variable {a b c d:Au}{w:List Int}{s i j:Nat}
theorem mtx_congr {n:Nat}{f g:Nat→Nat→Rat}(h:∀ i j,i<n→j<n→f i j=g i j):mtx n f=mtx n g:=by
 unfold mtx
 refine List.map_congr_left fun i hi=>List.map_congr_left fun j hj=>h i j (List.mem_range.1 hi) (List.mem_range.1 hj)
theorem SameA.ent1 (h:SameA a b)(r q:List Au)(hr:∀ s i j,entL r s i j=entL q s i j):entL (a::r) s i j=entL (b::q) s i j:=by
 rw [entL,entL,h.st,h.ent,hr]
theorem SameA.mach1 (h:SameA a b):machL [a]=machL [b]:=by
 unfold machL
 have e:(fun s=>mtx (sizeL [a]) (entL [a] s))=fun s=>mtx (sizeL [b]) (entL [b] s):=by
  funext s
  rw [size_one,size_one,h.st]
  exact mtx_congr fun i j _ _=>h.ent1 [] [] fun _ _ _=>rfl
 rw [e,size_one,size_one,h.st]
 simp only [List.flatMap_cons,List.flatMap_nil,finL,List.getD_cons_zero,h.ini,h.fin,h.sym]
theorem SameA.ser (h:SameA a b):serA a=serA b:=by unfold serA;rw [h.mach1]
theorem SameA.refl (a:Au):SameA a a:=⟨rfl,rfl,rfl,rfl,fun _ _ _=>rfl⟩
theorem form_same (a:Au):SameA (formOf a) a:=⟨rfl,rfl,rfl,rfl,fun _ _ _=>entA_form⟩
theorem Au.Ok.form (h:a.Ok):(formOf a).Ok:=⟨h.sym0,h.ini,h.fin,PlaceA.form (p:=fun f l t=>f<a.st∧t<a.st∧1≤l∧l≤a.sym) h.arc⟩
theorem Au.Ok.scale (h:a.Ok)(q:Rat):(scaleOf a q).Ok:=⟨h.sym0,by show (a.ini.map _).length=_;rw [lm9];exact h.ini,h.fin,h.form.arc⟩
theorem Au.Ok.union (h:a.Ok)(k:b.Ok)(hs:a.sym=b.sym):(unionOf a b).Ok:=by
 refine ⟨h.sym0,by show (a.ini++b.ini).length=_;rw [la9,h.ini,k.ini];rfl,by show (a.fin++b.fin).length=_;rw [la9,h.fin,k.fin];rfl,PlaceA.form (p:=fun f l t=>f<a.st+b.st∧t<a.st+b.st∧1≤l∧l≤a.sym) fun y hy=>?_⟩
 rcases mp9 hy with hy|hy
 ·obtain ⟨x,hx,rfl⟩:=mm9 hy
  have:=h.arc x hx
  exact ⟨by show x.f+0<_;omega,by show x.t+0<_;omega,this.2.2.1,this.2.2.2⟩
 ·obtain ⟨x,hx,rfl⟩:=mm9 hy
  have:=k.arc x hx
  exact ⟨by show x.f+a.st<_;omega,by show x.t+a.st<_;omega,this.2.2.1,by show x.l≤_;omega⟩
theorem Au.Ok.rev (h:a.Ok):(revOf a).Ok:=⟨h.sym0,h.fin,h.ini,PlaceA.form (p:=fun f l t=>f<a.st∧t<a.st∧1≤l∧l≤a.sym) fun y hy=>by
 obtain ⟨x,hx,rfl⟩:=mm9 hy
 have:=h.arc x hx
 exact ⟨this.2.1,this.1,this.2.2⟩⟩
theorem wt_scale {m m2:Mach}{q:Rat}(hn:m2.n=m.n)(hm:m2.mats=m.mats)(hf:m2.fin=m.fin)(hi:∀ i,i<m.n→m2.ini.getD i 0=m.ini.getD i 0*q)(w:List Int):wtM m2 w=wtM m w*q:=by
 have hv:∀ i,i<m.n→(vecM m2 w).getD i 0=(vecM m w).getD i 0*q:=by
  induction hl:w.length generalizing w with
  | zero =>
   rw [en9 hl]
   exact hi
  | succ n ih =>
   have hne:w≠[]:=fun e=>by subst e;cases hl
   obtain ⟨y,x,rfl⟩:∃ y x,w=y++[x]:=⟨w.dropLast,w.getLast hne,(List.dropLast_concat_getLast hne).symm⟩
   intro i hi'
   have ihy:=ih y (by rw [la9,ls9] at hl;omega)
   rw [vecM_snoc,vecM_snoc,stepM_vf (by rw [hn];exact hi'),stepM_vf hi',hn,← sumN_mulR]
   refine sumN_congr fun k hk=>?_
   have e:entM m2 (x.toNat-1) k i=entM m (x.toNat-1) k i:=by unfold entM;rw [hm]
   rw [ihy k hk,e,Rat.mul_assoc,Rat.mul_assoc,Rat.mul_comm q]
 unfold wtM dotM
 rw [hn,hf,← sumN_mulR]
 refine sumN_congr fun i hi'=>?_
 show (vecM m2 w).getD i 0*_=_
 rw [hv i hi',Rat.mul_assoc,Rat.mul_assoc,Rat.mul_comm q]
theorem ser_scale (ha:a.Ok)(q:Rat)(w:List Int):serA (scaleOf a q) w=serA a w*q:=by
 rw [← (form_same a).ser]
 refine wt_scale (m:=machL [formOf a]) (m2:=machL [scaleOf a q]) rfl ?_ rfl (fun i hi=>?_) w
 ·rfl
 ·show ((a.ini.map fun x=>x*q)++[]).getD i 0=(a.ini++[]).getD i 0*q
  rw [List.append_nil,List.append_nil,gd9,List.getElem?_map,gd9]
  have hi:i<a.ini.length:=by rw [ha.ini];exact Nat.lt_of_lt_of_eq hi size_one
  rw [ge9 hi];rfl
theorem entA_moved {l:List Arc9}{n:Nat}:entA (moved l n) s i j=if n≤i∧n≤j then entA l s (i-n) (j-n) else 0:=by
 unfold entA moved
 rw [lsum_map]
 split
 ·refine lsum_congr fun x _=>?_
  show (if x.f+n=i∧x.l=s+1∧x.t+n=j then x.q else 0)=if x.f=i-n∧x.l=s+1∧x.t=j-n then x.q else 0
  by_cases hc:x.f=i-n∧x.l=s+1∧x.t=j-n
  ·rw [if_pos hc,if_pos (by omega)]
  ·rw [if_neg hc,if_neg (by omega)]
 ·refine lsumZ fun x _=>?_
  show (if x.f+n=i∧x.l=s+1∧x.t+n=j then x.q else 0)=0
  rw [if_neg (by omega)]
theorem entA_out {l:List Arc9}{n:Nat}(h:∀ x,x ∈ l→x.f<n∧x.t<n)(hij:n≤i ∨ n≤j):entA l s i j=0:=lsumZ fun x hx=>if_neg (by have:=h x hx;omega)
theorem ser_union (ha:a.Ok)(hb:b.Ok)(hs:a.sym=b.sym)(hw:InW a.sym w):serA (unionOf a b) w=serA a w+serA b w:=by
 obtain ⟨h1,h2⟩:=vec_two ha hb hs w hw
 have em:(machL [unionOf a b]).mats=(machL [a,b]).mats:=by
  show (List.range a.sym).map _=(List.range a.sym).map _
  refine List.map_congr_left fun s _=>?_
  rw [size_one,size_two]
  show mtx (a.st+b.st) _=_
  refine mtx_congr fun i j hi hj=>?_
  show entL [unionOf a b] s i j=entL [a,b] s i j
  have e0:entL [unionOf a b] s i j=entA (unionOf a b).arcs s i j:=by
   simp only [entL]
   rw [if_pos (show i<(unionOf a b).st from hi),if_pos (show j<(unionOf a b).st from hj)]
  rw [e0]
  show entA (formA _) s i j=_
  rw [entA_form,entA_app,entA_moved,entA_moved,if_pos ⟨Nat.zero_le _,Nat.zero_le _⟩,Nat.sub_zero,Nat.sub_zero]
  have oa:=entA_out (l:=a.arcs) (n:=a.st) (s:=s) (i:=i) (j:=j) fun x hx=>⟨(ha.arc x hx).1,(ha.arc x hx).2.1⟩
  simp only [entL]
  by_cases hi1:i<a.st <;> by_cases hj1:j<a.st
  ·rw [if_pos hi1,if_pos hj1,if_neg (by omega),Rat.add_zero]
  ·rw [if_pos hi1,if_neg hj1,if_neg (by omega),oa (.inr (by omega)),Rat.add_zero]
  ·rw [if_neg hi1,if_pos hj1,if_neg (by omega),oa (.inl (by omega)),Rat.add_zero]
  ·rw [if_neg hi1,if_neg hj1,if_pos (by omega),oa (.inl (by omega)),Rat.zero_add,if_pos (show i-a.st<b.st by omega),if_pos (show j-a.st<b.st by omega)]
 have en:(machL [unionOf a b]).n=(machL [a,b]).n:=by show sizeL _=sizeL _;rw [size_one,size_two];rfl
 have ev:vecM (machL [unionOf a b]) w=vecM (machL [a,b]) w:=by
  have es:stepM (machL [unionOf a b])=stepM (machL [a,b]):=by
   funext v s
   unfold stepM entM
   rw [em,en]
  unfold vecM
  rw [es]
  congr 1
  show (a.ini++b.ini)++[]=a.ini++(b.ini++[])
  rw [List.append_nil,List.append_nil]
 unfold serA wtM dotM
 rw [en,ev,show (machL [a,b]).n=a.st+b.st from size_two,show (machL [a]).n=a.st from size_one,show (machL [b]).n=b.st from size_one,sumN_app]
 have f1:∀ i,i<a.st→vf (machL [unionOf a b]).fin i=vf (machL [a]).fin i:=fun i hi=>by
  show ((a.fin++b.fin)++[]).getD i 0=(a.fin++[]).getD i 0
  rw [List.append_nil,List.append_nil,gd9,List.getElem?_append_left (by rw [ha.fin];exact hi),← gd9]
 have f2:∀ i,vf (machL [unionOf a b]).fin (a.st+i)=vf (machL [b]).fin i:=fun i=>by
  show ((a.fin++b.fin)++[]).getD (a.st+i) 0=(b.fin++[]).getD i 0
  rw [List.append_nil,List.append_nil,gd9,List.getElem?_append_right (by rw [ha.fin];omega),ha.fin,Nat.add_sub_cancel_left,← gd9]
 congr 1
 ·exact sumN_congr fun i hi=>by rw [show vf (vecM (machL [a,b]) w) i=vf (vecM (machL [a]) w) i from h1 i hi,f1 i hi]
 ·exact sumN_congr fun i hi=>by rw [show vf (vecM (machL [a,b]) w) (a.st+i)=vf (vecM (machL [b]) w) i from h2 i hi,f2 i]
theorem wt_turn {m:Mach}(hw:InW m.k w):wtM (turnM m) w=wtM m w.reverse:=by
 have h:=hank_wt w [] hw
 rw [List.nil_append] at h
 rw [← h]
 unfold wtM hankM dotM
 exact sumN_congr fun i _=>Rat.mul_comm ..
end
noncomputable def eqA (a b:Au):Option (List Int):=firstNZ (machL [a,b])
noncomputable def zeA (a:Au):Option (List Int):=firstNZ (machL [a])
noncomputable def rkA (a:Au):Nat:=rankF a.sym (serA a)
section
variable {a b c:Au}{w:List Int}{q:Rat}
theorem sub0_eq {x y:Rat}(h:x-y=0):x=y:=by
 rw [← Rat.sub_add_cancel (a:=x) (b:=y),h,Rat.zero_add]
theorem k_one:(machL [a]).k=a.sym:=machL_k
theorem k_two:(machL [a,b]).k=a.sym:=machL_k
theorem eqA_none (ha:a.Ok)(hb:b.Ok)(hs:a.sym=b.sym):eqA a b=none ↔ ∀ w,InW a.sym w→serA a w=serA b w:=by
 unfold eqA
 rw [firstNZ_none (mach_ok2 ha hb),k_two]
 constructor
 ·intro h w hw
  have:=h w hw
  rw [ser_two ha hb hs hw] at this
  exact sub0_eq this
 ·intro h w hw
  rw [ser_two ha hb hs hw,h w hw,Rat.sub_self]
end
def modI (k n:Int):Nat:=(k % n).toNat
def numN (v:Int):Int:=v % 13-6
def numD (v:Int):Int:=1+IntKind.i64.wrap (v.tdiv 13) % 3
def numQ (v:Int):Rat:=((numN v:Int):Rat) / ((numD v:Int):Rat)
structure MModel where
 st:Int
 ini:List Int
 fin:List Int
 arcs:List Int
instance:Inhabited MModel:=⟨⟨0,[],[],[]⟩⟩
def stOf (m:MModel)(most:Nat):Nat:=1+modI (IntKind.i64.wrap (m.st-1)) most
def endW9 (l:List Int)(i one:Nat):Rat:=if i<l.length then numQ (l.getD i 0) else if i=one then 1 else 0
def arcOf (l:List Int)(sym n g:Nat):Arc9:=⟨modI (l.getD (4*g) 0) n,1+modI (l.getD (4*g+1) 0) sym,modI (l.getD (4*g+2) 0) n,numQ (l.getD (4*g+3) 0)⟩
def groups (l:List Int):Nat:=min (l.length / 4) 10
def autoOf (m:MModel)(sym most:Nat):Au:=⟨sym,stOf m most,(List.range (stOf m most)).map fun i=>endW9 m.ini i 0,(List.range (stOf m most)).map fun i=>endW9 m.fin i (stOf m most-1),(List.range (groups m.arcs)).map (arcOf m.arcs sym (stOf m most))⟩
section
variable {m:MModel}{sym most:Nat}{k v:Int}{l:List Int}
theorem modI_lt {n:Nat}(k:Int)(h:1≤n):modI k n<n:=by
 have h1:=Int.emod_lt_of_pos k (show (0:Int)<n by omega)
 have h2:=Int.emod_nonneg k (show (n:Int)≠0 by omega)
 unfold modI
 omega
theorem modI_int {n:Nat}(k:Int)(h:1≤n):(modI k n:Int)=k % n:=by
 have h2:=Int.emod_nonneg k (show (n:Int)≠0 by omega)
 unfold modI
 omega
theorem numN_le (v:Int):-6≤numN v∧numN v≤6:=by unfold numN;omega
theorem numD_le (v:Int):1≤numD v∧numD v≤3:=by unfold numD;omega
theorem numQ_sz (v:Int):sz (numQ v)≤1:=by
 have h1:=numN_le v
 have h2:=numD_le v
 exact div_sz (by omega) (by omega) (by omega)
theorem endW9_sz (l:List Int)(i one:Nat):sz (endW9 l i one)≤1:=by
 unfold endW9
 split
 ·exact numQ_sz _
 ·split
  ·rw [sz_one];exact Nat.le_refl _
  ·rw [sz_zero];exact Nat.le_refl _
theorem stOf_le (h:1≤most):1≤stOf m most∧stOf m most≤most:=by
 have:=modI_lt (IntKind.i64.wrap (m.st-1)) h
 unfold stOf
 omega
theorem auto_ok (hs:1≤sym)(h:1≤most):(autoOf m sym most).Ok:=by
 have hst:=stOf_le (m:=m) h
 refine ⟨hs,by simp [autoOf],by simp [autoOf],fun x hx=>?_⟩
 obtain ⟨g,_,rfl⟩:=mm9 hx
 have h1:=modI_lt (m.arcs.getD (4*g) 0) hst.1
 have h2:=modI_lt (m.arcs.getD (4*g+1) 0) hs
 have h3:=modI_lt (m.arcs.getD (4*g+2) 0) hst.1
 refine ⟨h1,h3,?_,?_⟩
 ·show 1≤1+modI _ _;omega
 ·show 1+modI _ _≤sym;omega
structure Au.Sz (a:Au) (B N:Nat):Prop where
 ini:Small B a.ini
 fin:Small B a.fin
 arc:∀ x,x ∈ a.arcs→sz x.q≤B
 num:a.arcs.length≤N
theorem auto_sz:(autoOf m sym most).Sz 1 10:=by
 refine ⟨fun q hq=>?_,fun q hq=>?_,fun x hx=>?_,?_⟩
 ·obtain ⟨i,_,rfl⟩:=mm9 hq;exact endW9_sz ..
 ·obtain ⟨i,_,rfl⟩:=mm9 hq;exact endW9_sz ..
 ·obtain ⟨g,_,rfl⟩:=mm9 hx;exact numQ_sz _
 ·show ((List.range (groups m.arcs)).map _).length≤10
  rw [lm9,List.length_range]
  exact Nat.min_le_right ..
end
abbrev dW (q:Rat):D:=.ag [dB (ofQ q).neg,u32s (ofQ q).num,u32s (ofQ q).den,dI 0,dB false,dU 0,.sl [],.sl []]
abbrev vW (q:Rat):V:=.ag [.d (dB (ofQ q).neg),.d (u32s (ofQ q).num),.d (u32s (ofQ q).den),.d (dI 0),.d (dB false),.d (dU 0),.d (.sl []),.d (.sl [])]
abbrev dWs (l:List Rat):D:=.sl (l.map dW)
abbrev dArc (x:Arc9):D:=.ag [dI x.f,dI x.l,dI x.t,dB (ofQ x.q).neg,u32s (ofQ x.q).num,u32s (ofQ x.q).den,dI 0,dB false,dU 0,.sl [],.sl []]
abbrev vArc (x:Arc9):V:=.ag [.d (dI x.f),.d (dI x.l),.d (dI x.t),.d (dB (ofQ x.q).neg),.d (u32s (ofQ x.q).num),.d (u32s (ofQ x.q).den),.d (dI 0),.d (dB false),.d (dU 0),.d (.sl []),.d (.sl [])]
abbrev dArcs (l:List Arc9):D:=.sl (l.map dArc)
abbrev vRing:V:=.ag [.d (dI 1),.d (.sl [])]
abbrev vAu (a:Au):V:=.ag [.d (dI 1),.d (.sl []),.d (dI a.sym),.d (dI a.st),.d (dWs a.ini),.d (dWs a.fin),.d (dArcs a.arcs)]
abbrev vMach (m:Mach):V:=.ag [.d (dQs m.ini),.d (dQs m.fin),.d (.sl (m.mats.map dQss))]
abbrev dRow (m:Mach)(w:List Int):D:=.ag [ints w,dQs (vecM m w)]
abbrev vRow (m:Mach)(w:List Int):V:=.ag [.d (ints w),.d (dQs (vecM m w))]
section
variable {q:Rat}{x:Arc9}
theorem vle_w0:VLe (.ag [.d (dB false),.mt,.mt,.d (dI 0),.d (dB false),.d (dU 0),.mt,.mt]) (vW 0):=by
 unfold vW;rw [ofQ_zero]
 exact VLe.ag (.cons vR (.cons VLe.mt (.cons VLe.mt (.cons vR (.cons vR (.cons vR (.cons VLe.mt (.cons VLe.mt .nil))))))))
theorem vle_wq:VLe (.ag [.d (dB (ofQ q).neg),.d (u32s (ofQ q).num),.d (u32s (ofQ q).den),.d (dI 0),.d (dB false),.d (dU 0),.mt,.mt]) (vW q) :=
 VLe.ag (.cons vR (.cons vR (.cons vR (.cons vR (.cons vR (.cons vR (.cons VLe.mt (.cons VLe.mt .nil))))))))
end
end Go.AL
