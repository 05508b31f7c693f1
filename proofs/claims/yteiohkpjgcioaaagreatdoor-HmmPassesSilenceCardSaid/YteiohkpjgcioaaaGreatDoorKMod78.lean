/-
  M, chapter 23: arcs in order, merged; sums, multiples and reversals of automata.
-/
import Derived.Test.YteiohkpjgcioaaaGreatDoorKMod77
set_option linter.unusedVariables false
set_option linter.unusedSimpArgs false
namespace Go.AL
open Go Go.BigFrame
def cI (a b:Nat):Int:=if a<b then -1 else if b<a then 1 else 0
def iH (x y:aT):Int:=if cI x.f y.f≠0 then cI x.f y.f else if cI x.l y.l≠0 then cI x.l y.l else cI x.t y.t
section
variable {x y z:aT}
theorem yY {a b:Nat}:cI a b=0 ↔ a=b:=by
 unfold cI
 split
 .exact⟨λh=>(by cases h),λh=>(by omega)⟩
 .split
  .exact⟨λh=>(by cases h),λh=>(by omega)⟩
  .exact⟨λ_=>(by omega),λ_=>rfl⟩
theorem ap6 {a b:Nat}:cI a b<0 ↔ a<b:=by
 unfold cI
 split
 .exact⟨λ_=>by assumption,λ_=>by decide⟩
 .split
  .exact⟨λh=>absurd h (by decide),λh=>by omega⟩
  .exact⟨λh=>absurd h (by decide),λh=>by omega⟩
theorem Gt:iH x y=0 ↔ x.f=y.f/\x.l=y.l/\x.t=y.t:=by
 unfold iH;by_cases h1:cI x.f y.f=0
 .rw[if_neg (by simp[h1])]
  by_cases h2:cI x.l y.l=0
  .rw[if_neg (by simp[h2]),yY]
   exact⟨λh=>⟨yY.1 h1,yY.1 h2,h⟩,λh=>h.2.2⟩
  .rw[if_pos h2];exact⟨λh=>absurd h h2,λh=>absurd (yY.2 h.2.1) h2⟩
 .rw[if_pos h1];exact⟨λh=>absurd h h1,λh=>absurd (yY.2 h.1) h1⟩
theorem wF:iH x y<0 ↔ x.f<y.f \/ (x.f=y.f/\(x.l<y.l \/ (x.l=y.l/\x.t<y.t))):=by
 unfold iH;by_cases h1:cI x.f y.f=0
 .rw[if_neg (by simp[h1])]
  have e1:=yY.1 h1;by_cases h2:cI x.l y.l=0
  .rw[if_neg (by simp[h2]),ap6]
   have e2:=yY.1 h2;omega
  .rw[if_pos h2,ap6];have e2:x.l≠y.l:=λe=>h2 (yY.2 e);omega
 .rw[if_pos h1,ap6];have e1:x.f≠y.f:=λe=>h1 (yY.2 e);omega
end
section
variable {α:Type}[Inhabited α]
def EC (o:List α)(j:Nat):List α:=(o.set (j+1) (o.getD j default)).set j (o.getD (j+1) default)
def HY (c:α->α->Bool):Nat->List α->List α
 | 0,o=>o
 | j+1,o=>if c (o.getD (j+1) default) (o.getD j default) then HY c j (EC o j) else o
def Fq (c:α->α->Bool):Nat->List α->List α
 | 0,o=>o
 | k+1,o=>HY c (k+1) (Fq c k o)
theorem Gu (o:List α)(j:Nat):(EC o j).length=o.length:=by simp[EC]
theorem QA (c:α->α->Bool):∀ (j:Nat) (o:List α),(HY c j o).length=o.length
 | 0,o=>rfl
 | j+1,o=>by
  rw[HY]
  split
  .rw[QA c j,Gu]
  .rfl
theorem xh (c:α->α->Bool):∀ (k:Nat) (o:List α),(Fq c k o).length=o.length
 | 0,o=>rfl
 | k+1,o=>by rw[Fq,QA,xh c k]
theorem KE {o:List α}{i j:Nat}{x:α}(h:i<o.length):(o.set i x).getD j default=if i=j then x else o.getD j default:=by
 rw[iZ,List.getElem?_set];by_cases e:i=j
 .subst e;rw[if_pos rfl,if_pos h,if_pos rfl];rfl
 .rw[if_neg e,if_neg e,iZ]
theorem ac4 {o:List α}{j:Nat}(h:j+1<o.length)(i:Nat):(EC o j).getD i default=if i=j then o.getD (j+1) default else if i=j+1 then o.getD j default else o.getD i default:=by
 unfold EC;rw[KE (by rw[List.length_set];omega),KE h]
 by_cases e1:i=j
 .rw[if_pos e1.symm,if_pos e1]
 .rw[if_neg (λe=>e1 e.symm),if_neg e1];by_cases e2:i=j+1
  .rw[if_pos e2.symm,if_pos e2]
  .rw[if_neg (λe=>e2 e.symm),if_neg e2]
theorem Oe:∀ {o:List α} {j:Nat},j+1<o.length->(EC o j).Perm o
 | [],j,h=>by simp at h
 | [a],j,h=>by simp at h
 | a::b::r,0,h=>by
  show (b::a::r).Perm _
  exact List.Perm.swap ..
 | a::b::r,j+1,h=>by
  have e:EC (a::b::r) (j+1)=a::EC (b::r) j:=by simp[EC]
  rw[e];exact List.Perm.cons a (Oe (by simpa using h))
theorem Og (c:α->α->Bool):∀ {j:Nat} {o:List α},j<o.length->(HY c j o).Perm o
 | 0,o,_=>.refl _
 | j+1,o,h=>by
  rw[HY]
  split
  .exact (Og c (by rw[Gu];omega)).trans (Oe h)
  .exact .refl _
theorem Io (c:α->α->Bool):∀ {k:Nat} {o:List α},k<o.length->(Fq c k o).Perm o
 | 0,o,_=>.refl _
 | k+1,o,h=>by
  rw[Fq];exact (Og c (by rw[xh];exact h)).trans (Io c (by omega))
def a94 (c:α->α->Bool)(o:List α)(k:Nat):Prop:=∀ i,i<k->c (o.getD (i+1) default) (o.getD i default)=false
theorem QB {c:α->α->Bool}(ha:∀ x y,c x y=true->c y x=false){k:Nat}:∀ {j:Nat} {o:List α},j<=k->k<o.length->(∀ i,i<k->i+1≠j->c (o.getD (i+1) default) (o.getD i default)=false)->(∀ i,i+1=j->j+1<=k->c (o.getD (j+1) default) (o.getD i default)=false)->a94 c (HY c j o) k
 | 0,o,_,_,h1,_=>λi hi=>h1 i hi (by omega)
 | j + 1, o, hj, hk, h1, h2 => by
  rw[HY]
  split
  .rename_i hc;have hg:=ac4 (o:=o) (j:=j) (by omega)
   refine QB ha (by omega) (by rw[Gu];exact hk) (λi hi hne=>?_) (λi hi hk2=>?_)
   .rw[hg,hg];by_cases e1:i=j
    .subst e1;rw[if_neg (by omega),if_pos rfl,if_pos rfl]
     exact ha _ _ hc
    .by_cases e2:i=j+1
     .subst e2;rw[if_neg (by omega),if_neg (by omega),if_neg (by omega),if_pos rfl]
      exact h2 j rfl hi
     .rw[if_neg (by omega),if_neg (by omega),if_neg e1,if_neg e2]
      exact h1 i hi (by omega)
   .rw[hg,hg,if_neg (by omega),if_pos rfl,if_neg (by omega),if_neg (by omega),<- hi]
    exact h1 i (by omega) (by omega)
  .rename_i hc;intro i hi;by_cases e:i=j
   .subst e;exact Bool.not_eq_true _ ▸ hc
   .exact h1 i hi (by omega)
theorem KF {c:α->α->Bool}(ha:∀ x y,c x y=true->c y x=false):∀ {k:Nat} {o:List α},k<o.length->a94 c (Fq c k o) k
 | 0,o,_=>λi hi=>by omega
 | k+1,o,h=>by
  rw[Fq];have h1:=KF ha (k:=k) (o:=o) (by omega)
  exact QB ha (Nat.le_refl _) (by rw[xh];exact h) (λi hi hne=>h1 i (by omega)) (λi hi hk=>by omega)
end
def uK (x y:aT):Bool:=decide (iH x y<0)
def sortA (l:List aT):List aT:=Fq uK (l.length-1) l
def jP (out:List aT)(x:aT):List aT :=
 if 0<out.length/\iH (out.getD (out.length-1) default) x=0 then out.set (out.length-1) { out.getD (out.length-1) default with q:=(out.getD (out.length-1) default).q+x.q } else out++[x]
def QC (l:List aT):List aT:=l.filter λx=>decide (x.q≠0)
def Bz (l:List aT):List aT:=QC ((sortA l).foldl jP [])
def qJ (out:List aT)(x:aT):Nat:=out.findIdx λy=>decide (¬ iH y x<0)
def wG (out:List aT)(x:aT):List aT :=
 if qJ out x<out.length/\iH (out.getD (qJ out x) default) x=0 then out.set (qJ out x) { out.getD (qJ out x) default with q:=(out.getD (qJ out x) default).q+x.q } else out.take (qJ out x)++x::out.drop (qJ out x)
def uT (l:List aT):List aT:=QC (l.foldl wG [])
section
variable {l out:List aT}{x y:aT}{s i j:Nat}
def yA (s i j:Nat)(x:aT):Rat:=if x.f=i/\x.l=s+1/\x.t=j then x.q else 0
theorem qx (l m:List aT):gV (l++m) s i j=gV l s i j+gV m s i j:=LM ..
theorem xk (x:aT)(l:List aT):gV (x::l) s i j=yA s i j x+gV l s i j:=rfl
theorem Ap:gV [] s i j=0:=rfl
theorem Oh {α:Type}{f:α->Rat}{l m:List α}(h:l.Perm m):qC f l=qC f m:=by
 induction h with
 | nil=>rfl
 | cons x _ ih=>rw[qC,qC,ih]
 | swap x y l=>rw[qC,qC,qC,qC,<- Rat.add_assoc,<- Rat.add_assoc,Rat.add_comm (f y)]
 | trans _ _ h1 h2=>exact h1.trans h2
theorem Oi (l:List aT):(sortA l).Perm l:=by
 cases l with
 | nil=>exact .refl _
 | cons x r=>exact Io uK (by simp)
theorem ap7 {α:Type}{f:α->Rat}:∀ {l:List α},(∀ x,x ∈ l->f x=0)->qC f l=0
 | [],_=>rfl
 | x::l,h=>by rw[qC,h x yD,ap7 λy hy=>h y (List.mem_cons_of_mem _ hy),Rat.add_zero]
theorem ac5:gV (sortA l) s i j=gV l s i j:=Oh (Oi l)
theorem LP {α:Type}{f:α->Rat}{p:α->Bool}:∀ {l:List α},(∀ x,x ∈ l->p x=false->f x=0)->qC f (l.filter p)=qC f l
 | [],_=>rfl
 | x::l,h=>by
  have ih:=LP (f:=f) (p:=p) (l:=l) λy hy=>h y (List.mem_cons_of_mem _ hy);rw[List.filter_cons];cases hp:p x with
  | true=>rw[if_pos rfl,qC,qC,ih]
  | false=>rw[if_neg (by decide),ih,qC,h x yD hp,Rat.zero_add]
theorem SV:gV (QC l) s i j=gV l s i j:=LP λx _ hp=>by
 have h0:x.q=0:=Decidable.byContradiction λh=>by rw[decide_eq_true h] at hp;cases hp
 split
 .exact h0
 .rfl
theorem Vk {k:Nat}(hk:k<out.length)(he:iH (out.getD k default) x=0):gV (out.set k { out.getD k default with q:=(out.getD k default).q+x.q }) s i j=gV out s i j+yA s i j x:=by
 have e:out=out.take k++out.getD k default::out.drop (k+1):=by
  rw[iZ,sU hk,Option.getD_some,<- List.drop_eq_getElem_cons hk,List.take_append_drop]
 obtain⟨h1,h2,h3⟩:=Gt.1 he;generalize out.getD k default=y at *;rw[List.set_eq_take_append_cons_drop,if_pos hk]
 conv=>rhs;rw[e]
 rw[qx,qx,xk,xk];have hp:yA s i j { y with q:=y.q+x.q }=yA s i j y+yA s i j x:=by
  unfold yA;show (if y.f=i/\y.l=s+1/\y.t=j then y.q+x.q else 0)=_
  rw[<- h1,<- h2,<- h3]
  split
  .rfl
  .rw[Rat.add_zero]
 rw[hp,Rat.add_assoc,Rat.add_assoc,Rat.add_assoc,Rat.add_comm (yA s i j x)]
theorem Oj:gV (jP out x) s i j=gV out s i j+yA s i j x:=by
 unfold jP
 split
 .rename_i h;exact Vk (by omega) h.2
 .rw[qx,xk,Ap,Rat.add_zero]
theorem ap8:gV (wG out x) s i j=gV out s i j+yA s i j x:=by
 unfold wG
 split
 .rename_i h;exact Vk h.1 h.2
 .conv=>rhs;rw[<- List.take_append_drop (qJ out x) out]
  rw[qx,qx,xk,Rat.add_assoc,Rat.add_comm (yA s i j x)]
theorem Gv {g:List aT->aT->List aT}(hg:∀ out x,gV (g out x) s i j=gV out s i j+yA s i j x):∀ (l out:List aT),gV (l.foldl g out) s i j=gV out s i j+gV l s i j
 | [],out=>by rw[List.foldl_nil,Ap,Rat.add_zero]
 | x::l,out=>by rw[List.foldl_cons,Gv hg l,hg,xk,Rat.add_assoc]
theorem CP:gV (Bz l) s i j=gV l s i j:=by
 unfold Bz;rw[SV,Gv (λout x=>Oj),Ap,Rat.zero_add,ac5]
theorem Gw:gV (uT l) s i j=gV l s i j:=by
 unfold uT;rw[SV,Gv (λout x=>ap8),Ap,Rat.zero_add]
def gu (p:Nat->Nat->Nat->Prop)(l:List aT):Prop:=∀ x,x ∈ l->p x.f x.l x.t
variable {p:Nat->Nat->Nat->Prop}
theorem gu.set {k:Nat}{q:Rat}(h:gu p out)(hk:k<out.length):gu p (out.set k { out.getD k default with q:=q }):=λy hy=>by
 rcases List.mem_or_eq_of_mem_set hy with hy|rfl
 .exact h y hy
 .exact h (out.getD k default) (getD_mem hk default)
theorem gu.merge (h:gu p out)(hx:p x.f x.l x.t):gu p (jP out x):=by
 unfold jP
 split
 .exact h.set (by omega)
 .intro y hy;rcases BO hy with hy|hy
  .exact h y hy
  .rw[qm hy];exact hx
theorem gu.ins (h:gu p out)(hx:p x.f x.l x.t):gu p (wG out x):=by
 unfold wG
 split
 .rename_i hc;exact h.set hc.1
 .intro y hy;rcases BO hy with hy|hy
  .exact h y (List.mem_of_mem_take hy)
  .rcases List.mem_cons.1 hy with rfl|hy
   .exact hx
   .exact h y (List.mem_of_mem_drop hy)
theorem gu.fold {g:List aT->aT->List aT}(hg:∀ out x,gu p out->p x.f x.l x.t->gu p (g out x)):∀ (l out:List aT),gu p out->gu p l->gu p (l.foldl g out)
 | [],out,h,_=>h
 | x::l,out,h,k=>gu.fold hg l _ (hg _ _ h (k x yD)) λy hy=>k y (List.mem_cons_of_mem _ hy)
theorem gu.nz (h:gu p l):gu p (QC l):=λy hy=>h y (List.mem_filter.1 hy).1
theorem gu.sort (h:gu p l):gu p (sortA l):=λy hy=>h y ((Oi l).mem_iff.1 hy)
theorem gu.tidy (h:gu p l):gu p (Bz l):=(gu.fold (λ_ _ h k=>h.merge k) _ _ (λ_ h=>by cases h) h.sort).nz
theorem gu.form (h:gu p l):gu p (uT l):=(gu.fold (λ_ _ h k=>h.ins k) _ _ (λ_ h=>by cases h) h).nz
theorem Ee {α:Type}[Inhabited α]{R:α->α->Prop}(tr:∀ a b c,R a b->R b c->R a c):∀ {l:List α},(∀ i,i+1<l.length->R (l.getD i default) (l.getD (i+1) default))->l.Pairwise R
 | [],_=>.nil
 | [x],_=>List.pairwise_singleton ..
 | x::y::r,h=>by
  have ih:=Ee tr (l:=y::r) λi hi=>h (i+1) (by simpa using hi)
  have h0:R x y:=h 0 (by simp)
  refine List.pairwise_cons.2 ⟨λz hz=>?_,ih⟩;rcases List.mem_cons.1 hz with rfl|hz
  .exact h0
  .exact tr _ _ _ h0 ((List.pairwise_cons.1 ih).1 z hz)
theorem ap9 (l:List aT):(sortA l).Pairwise λa b=>¬ iH b a<0:=by
 refine Ee (λa b c h k=>?_) λi hi=>?_
 .rw[wF] at *;omega
 .have hl:(sortA l).length=l.length:=xh ..;have h:=KF (c:=uK) (λx y h=>decide_eq_false (by have:=jC h;rw[wF] at *;omega)) (k:=l.length-1) (o:=l) (by omega) i (by omega)
  exact kK h
theorem CQ:∀ (l out:List aT),out.Pairwise (λa b=>iH a b<0)->l.Pairwise (λa b=>¬ iH b a<0)->(∀ a,a ∈ out->∀ b,b ∈ l->¬ iH b a<0)->(l.foldl jP out).Pairwise λa b=>iH a b<0
 | [],out,h,_,_=>h
 | x :: l, out, h, hl, hb => by
  obtain⟨hl1,hl2⟩:=List.pairwise_cons.1 hl;rw[List.foldl_cons];have hx:=λa ha=>hb a ha x yD;rcases List.eq_nil_or_concat out with rfl|⟨o,y,rfl⟩
  .refine CQ l _ ?_ hl2 ?_
   .show List.Pairwise _ (jP [] x)
    unfold jP;rw[if_neg (by simp)]
    exact List.pairwise_singleton ..
   .unfold jP;rw[if_neg (by simp)]
    intro a ha;rw[qm ha];exact hl1
  .rw[List.concat_eq_append] at *;have hlast:(o++[y]).getD ((o++[y]).length-1) default=y:=by
    rw[jT,nN,Nat.add_sub_cancel,iZ,List.getElem?_append_right (Nat.le_refl _),Nat.sub_self];rfl
   obtain⟨p1,_,p3⟩:=List.pairwise_append.1 h;unfold jP;rw[hlast]
   split
   .rename_i hc;rw[show (o++[y]).set ((o++[y]).length-1) { y with q:=y.q+x.q }=o++[{ y with q:=y.q+x.q }] by
     rw[jT,nN,Nat.add_sub_cancel,List.set_append_right _ _ (Nat.le_refl _),Nat.sub_self];rfl]
    have e0:∀ a,iH a { y with q:=y.q+x.q }=iH a y:=λa=>rfl
    have e1:∀ b,iH b { y with q:=y.q+x.q }=iH b y:=λa=>rfl
    refine CQ l _ (List.pairwise_append.2 ⟨p1,List.pairwise_singleton ..,λa ha b hb'=>?_⟩) hl2 λa ha b hb'=>?_
    .rw[qm hb',e0];exact p3 a ha y (List.mem_singleton.2 rfl)
    .rcases BO ha with ha|ha
     .exact hb a (List.mem_append.2 (.inl ha)) b (List.mem_cons_of_mem _ hb')
     .rw[qm ha,e1];exact hb y (List.mem_append.2 (.inr (List.mem_singleton.2 rfl))) b (List.mem_cons_of_mem _ hb')
   .rename_i hc;have hyx:iH y x<0:=by
     have h1:iH y x≠0:=λe=>hc ⟨by simp,e⟩
     have h2:=hx y (List.mem_append.2 (.inr (List.mem_singleton.2 rfl)));rw[wF] at h2 ⊢;rw[Ne,Gt] at h1;omega
    refine CQ l _ (List.pairwise_append.2 ⟨h,List.pairwise_singleton ..,λa ha b hb'=>?_⟩) hl2 λa ha b hb'=>?_
    .rw[qm hb'];rcases BO ha with ha|ha
     .have:=p3 a ha y (List.mem_singleton.2 rfl);rw[wF] at *;omega
     .rw[qm ha];exact hyx
    .rcases BO ha with ha|ha
     .exact hb a ha b (List.mem_cons_of_mem _ hb')
     .rw[qm ha];exact hl1 b hb'
theorem Ol (l:List aT):(Bz l).Pairwise λa b=>iH a b<0 :=
 List.Pairwise.filter _ (CQ _ _ .nil (ap9 l) λ_ h=>by cases h)
theorem Aq:∀ {l:List aT},l.Pairwise (λa b=>iH a b<0)->x ∈ l->1<=x.l->gV l (x.l-1) x.f x.t=x.q
 | y :: l, hp, hx, h1 => by
  obtain⟨p1,p2⟩:=List.pairwise_cons.1 hp;rw[xk];rcases List.mem_cons.1 hx with rfl|hx
  .have hz:gV l (x.l-1) x.f x.t=0:=by
    unfold gV;refine (ap7 λz hz=>?_);have:=p1 z hz;rw[wF] at this;rw[if_neg (by omega)]
   rw[hz,Rat.add_zero];unfold yA;rw[if_pos ⟨rfl,by omega,rfl⟩]
  .have:=p1 x hx;rw[wF] at this;rw[Aq p2 hx h1];unfold yA;rw[if_neg (by omega),Rat.zero_add]
