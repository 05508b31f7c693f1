/-
  M, chapters 23 and 24: weights, arcs, automata and machines as data.
-/
import Derived.Test.YtanlenlmihoiiaaGreatDoorKMod77
set_option linter.unusedVariables false
set_option linter.unusedSimpArgs false
namespace Go.AL
open Go Go.BigFrame
def cI (a b:Nat):Int:=if a<b then -1 else if b<a then 1 else 0
def oH (x y:bM):Int:=if cI x.f y.f≠0 then cI x.f y.f else if cI x.l y.l≠0 then cI x.l y.l else cI x.t y.t
section
variable {x y z:bM}
theorem y5 {a b:Nat}:cI a b=0 ↔ a=b:=by
 unfold cI
 split
 .exact⟨λh=>(by cases h),λh=>(by omega)⟩
 .split
  .exact⟨λh=>(by cases h),λh=>(by omega)⟩
  .exact⟨λ_=>(by omega),λ_=>rfl⟩
theorem ax3 {a b:Nat}:cI a b<0 ↔ a<b:=by
 unfold cI
 split
 .exact⟨λ_=>by assumption,λ_=>by decide⟩
 .split
  .exact⟨λh=>absurd h (by decide),λh=>by omega⟩
  .exact⟨λh=>absurd h (by decide),λh=>by omega⟩
theorem Gw:oH x y=0 ↔ x.f=y.f/\x.l=y.l/\x.t=y.t:=by
 unfold oH;by_cases h1:cI x.f y.f=0
 .rw[if_neg (by simp[h1])]
  by_cases h2:cI x.l y.l=0
  .rw[if_neg (by simp[h2]),y5]
   exact⟨λh=>⟨y5.1 h1,y5.1 h2,h⟩,λh=>h.2.2⟩
  .rw[if_pos h2];exact⟨λh=>absurd h h2,λh=>absurd (y5.2 h.2.1) h2⟩
 .rw[if_pos h1];exact⟨λh=>absurd h h1,λh=>absurd (y5.2 h.1) h1⟩
theorem Es:oH x y<0 ↔ x.f<y.f \/ (x.f=y.f/\(x.l<y.l \/ (x.l=y.l/\x.t<y.t))):=by
 unfold oH;by_cases h1:cI x.f y.f=0
 .rw[if_neg (by simp[h1])]
  have e1:=y5.1 h1;by_cases h2:cI x.l y.l=0
  .rw[if_neg (by simp[h2]),ax3]
   have e2:=y5.1 h2;omega
  .rw[if_pos h2,ax3];have e2:x.l≠y.l:=λe=>h2 (y5.2 e);omega
 .rw[if_pos h1,ax3];have e1:x.f≠y.f:=λe=>h1 (y5.2 e);omega
end
section
variable {α:Type}[Inhabited α]
def EJ (o:List α)(j:Nat):List α:=(o.set (j+1) (o.getD j default)).set j (o.getD (j+1) default)
def FH (c:α->α->Bool):Nat->List α->List α
 | 0,o=>o
 | j+1,o=>if c (o.getD (j+1) default) (o.getD j default) then FH c j (EJ o j) else o
def tX (c:α->α->Bool):Nat->List α->List α
 | 0,o=>o
 | k+1,o=>FH c (k+1) (tX c k o)
theorem Gx (o:List α)(j:Nat):(EJ o j).length=o.length:=by simp[EJ]
theorem QX (c:α->α->Bool):∀ (j:Nat) (o:List α),(FH c j o).length=o.length
 | 0,o=>rfl
 | j+1,o=>by
  rw[FH]
  split
  .rw[QX c j,Gx]
  .rfl
theorem vJ (c:α->α->Bool):∀ (k:Nat) (o:List α),(tX c k o).length=o.length
 | 0,o=>rfl
 | k+1,o=>by rw[tX,QX,vJ c k]
theorem KA {o:List α}{i j:Nat}{x:α}(h:i<o.length):(o.set i x).getD j default=if i=j then x else o.getD j default:=by
 rw[iO,List.getElem?_set];by_cases e:i=j
 .subst e;rw[if_pos rfl,if_pos h,if_pos rfl];rfl
 .rw[if_neg e,if_neg e,iO]
theorem ah4 {o:List α}{j:Nat}(h:j+1<o.length)(i:Nat):(EJ o j).getD i default=if i=j then o.getD (j+1) default else if i=j+1 then o.getD j default else o.getD i default:=by
 unfold EJ;rw[KA (by rw[List.length_set];omega),KA h]
 by_cases e1:i=j
 .rw[if_pos e1.symm,if_pos e1]
 .rw[if_neg (λe=>e1 e.symm),if_neg e1];by_cases e2:i=j+1
  .rw[if_pos e2.symm,if_pos e2]
  .rw[if_neg (λe=>e2 e.symm),if_neg e2]
theorem OJ:∀ {o:List α} {j:Nat},j+1<o.length->(EJ o j).Perm o
 | [],j,h=>by simp at h
 | [a],j,h=>by simp at h
 | a::b::r,0,h=>by
  show (b::a::r).Perm _
  exact List.Perm.swap ..
 | a::b::r,j+1,h=>by
  have e:EJ (a::b::r) (j+1)=a::EJ (b::r) j:=by simp[EJ]
  rw[e];exact List.Perm.cons a (OJ (by simpa using h))
theorem OM (c:α->α->Bool):∀ {j:Nat} {o:List α},j<o.length->(FH c j o).Perm o
 | 0,o,_=>.refl _
 | j+1,o,h=>by
  rw[FH]
  split
  .exact (OM c (by rw[Gx];omega)).trans (OJ h)
  .exact .refl _
theorem OO (c:α->α->Bool):∀ {k:Nat} {o:List α},k<o.length->(tX c k o).Perm o
 | 0,o,_=>.refl _
 | k+1,o,h=>by
  rw[tX];exact (OM c (by rw[vJ];exact h)).trans (OO c (by omega))
def bo5 (c:α->α->Bool)(o:List α)(k:Nat):Prop:=∀ i,i<k->c (o.getD (i+1) default) (o.getD i default)=false
theorem QY {c:α->α->Bool}(ha:∀ x y,c x y=true->c y x=false){k:Nat}:∀ {j:Nat} {o:List α},j<=k->k<o.length->(∀ i,i<k->i+1≠j->c (o.getD (i+1) default) (o.getD i default)=false)->(∀ i,i+1=j->j+1<=k->c (o.getD (j+1) default) (o.getD i default)=false)->bo5 c (FH c j o) k
 | 0,o,_,_,h1,_=>λi hi=>h1 i hi (by omega)
 | j + 1, o, hj, hk, h1, h2 => by
  rw[FH]
  split
  .rename_i hc;have hg:=ah4 (o:=o) (j:=j) (by omega)
   refine QY ha (by omega) (by rw[Gx];exact hk) (λi hi hne=>?_) (λi hi hk2=>?_)
   .rw[hg,hg];by_cases e1:i=j
    .subst e1;rw[if_neg (by omega),if_pos rfl,if_pos rfl]
     exact ha _ _ hc
    .by_cases e2:i=j+1
     .subst e2;rw[if_neg (by omega),if_neg (by omega),if_neg (by omega),if_pos rfl]
      exact h2 j rfl hi
     .rw[if_neg (by omega),if_neg (by omega),if_neg e1,if_neg e2]
      exact h1 i hi (by omega)
   .rw[hg,hg,if_neg (by omega),if_pos rfl,if_neg (by omega),if_neg (by omega),<- hi]
    exact h1 i (by omega) (by omega)
  .rename_i hc;intro i hi;by_cases e:i=j
   .subst e;exact Bool.not_eq_true _ ▸ hc
   .exact h1 i hi (by omega)
theorem QZ {c:α->α->Bool}(ha:∀ x y,c x y=true->c y x=false):∀ {k:Nat} {o:List α},k<o.length->bo5 c (tX c k o) k
 | 0,o,_=>λi hi=>by omega
 | k+1,o,h=>by
  rw[tX];have h1:=QZ ha (k:=k) (o:=o) (by omega)
  exact QY ha (Nat.le_refl _) (by rw[vJ];exact h) (λi hi hne=>h1 i (by omega)) (λi hi hk=>by omega)
end
def Q5 (x y:bM):Bool:=decide (oH x y<0)
def sortA (l:List bM):List bM:=tX Q5 (l.length-1) l
def jg (out:List bM)(x:bM):List bM :=
 if 0<out.length/\oH (out.getD (out.length-1) default) x=0 then out.set (out.length-1) { out.getD (out.length-1) default with q:=(out.getD (out.length-1) default).q+x.q } else out++[x]
def UF (l:List bM):List bM:=l.filter λx=>decide (x.q≠0)
def dF (l:List bM):List bM:=UF ((sortA l).foldl jg [])
def uO (out:List bM)(x:bM):Nat:=out.findIdx λy=>decide (¬ oH y x<0)
def Ap (out:List bM)(x:bM):List bM :=
 if uO out x<out.length/\oH (out.getD (uO out x) default) x=0 then out.set (uO out x) { out.getD (uO out x) default with q:=(out.getD (uO out x) default).q+x.q } else out.take (uO out x)++x::out.drop (uO out x)
def bU (l:List bM):List bM:=UF (l.foldl Ap [])
section
variable {l out:List bM}{x y:bM}{s i j:Nat}
def wM (s i j:Nat)(x:bM):Rat:=if x.f=i/\x.l=s+1/\x.t=j then x.q else 0
theorem qH (l m:List bM):iH (l++m) s i j=iH l s i j+iH m s i j:=LU ..
theorem pO (x:bM)(l:List bM):iH (x::l) s i j=wM s i j x+iH l s i j:=rfl
theorem uz:iH [] s i j=0:=rfl
theorem Yc {α:Type}{f:α->Rat}{l m:List α}(h:l.Perm m):mF f l=mF f m:=by
 induction h with
 | nil=>rfl
 | cons x _ ih=>rw[mF,mF,ih]
 | swap x y l=>rw[mF,mF,mF,mF,<- Rat.add_assoc,<- Rat.add_assoc,Rat.add_comm (f y)]
 | trans _ _ h1 h2=>exact h1.trans h2
theorem Ik (l:List bM):(sortA l).Perm l:=by
 cases l with
 | nil=>exact .refl _
 | cons x r=>exact OO Q5 (by simp)
theorem LW {α:Type}{f:α->Rat}:∀ {l:List α},(∀ x,x ∈ l->f x=0)->mF f l=0
 | [],_=>rfl
 | x::l,h=>by rw[mF,h x rY,LW λy hy=>h y (List.mem_cons_of_mem _ hy),Rat.add_zero]
theorem ah5:iH (sortA l) s i j=iH l s i j:=Yc (Ik l)
theorem LX {α:Type}{f:α->Rat}{p:α->Bool}:∀ {l:List α},(∀ x,x ∈ l->p x=false->f x=0)->mF f (l.filter p)=mF f l
 | [],_=>rfl
 | x::l,h=>by
  have ih:=LX (f:=f) (p:=p) (l:=l) λy hy=>h y (List.mem_cons_of_mem _ hy);rw[List.filter_cons];cases hp:p x with
  | true=>rw[if_pos rfl,mF,mF,ih]
  | false=>rw[if_neg (by decide),ih,mF,h x rY hp,Rat.zero_add]
theorem ZV:iH (UF l) s i j=iH l s i j:=LX λx _ hp=>by
 have h0:x.q=0:=Decidable.byContradiction λh=>by rw[decide_eq_true h] at hp;cases hp
 split
 .exact h0
 .rfl
theorem VK {k:Nat}(hk:k<out.length)(he:oH (out.getD k default) x=0):iH (out.set k { out.getD k default with q:=(out.getD k default).q+x.q }) s i j=iH out s i j+wM s i j x:=by
 have e:out=out.take k++out.getD k default::out.drop (k+1):=by
  rw[iO,lF hk,Option.getD_some,<- List.drop_eq_getElem_cons hk,List.take_append_drop]
 obtain⟨h1,h2,h3⟩:=Gw.1 he;generalize out.getD k default=y at *;rw[List.set_eq_take_append_cons_drop,if_pos hk]
 conv=>rhs;rw[e]
 rw[qH,qH,pO,pO];have hp:wM s i j { y with q:=y.q+x.q }=wM s i j y+wM s i j x:=by
  unfold wM;show (if y.f=i/\y.l=s+1/\y.t=j then y.q+x.q else 0)=_
  rw[<- h1,<- h2,<- h3]
  split
  .rfl
  .rw[Rat.add_zero]
 rw[hp,Rat.add_assoc,Rat.add_assoc,Rat.add_assoc,Rat.add_comm (wM s i j x)]
theorem Yd:iH (jg out x) s i j=iH out s i j+wM s i j x:=by
 unfold jg
 split
 .rename_i h;exact VK (by omega) h.2
 .rw[qH,pO,uz,Rat.add_zero]
theorem ax4:iH (Ap out x) s i j=iH out s i j+wM s i j x:=by
 unfold Ap
 split
 .rename_i h;exact VK h.1 h.2
 .conv=>rhs;rw[<- List.take_append_drop (uO out x) out]
  rw[qH,qH,pO,Rat.add_assoc,Rat.add_comm (wM s i j x)]
theorem KC {g:List bM->bM->List bM}(hg:∀ out x,iH (g out x) s i j=iH out s i j+wM s i j x):∀ (l out:List bM),iH (l.foldl g out) s i j=iH out s i j+iH l s i j
 | [],out=>by rw[List.foldl_nil,uz,Rat.add_zero]
 | x::l,out=>by rw[List.foldl_cons,KC hg l,hg,pO,Rat.add_assoc]
theorem vK:iH (dF l) s i j=iH l s i j:=by
 unfold dF;rw[ZV,KC (λout x=>Yd),uz,Rat.zero_add,ah5]
theorem qQ:iH (bU l) s i j=iH l s i j:=by
 unfold bU;rw[ZV,KC (λout x=>ax4),uz,Rat.zero_add]
def gK (p:Nat->Nat->Nat->Prop)(l:List bM):Prop:=∀ x,x ∈ l->p x.f x.l x.t
variable {p:Nat->Nat->Nat->Prop}
theorem gK.set {k:Nat}{q:Rat}(h:gK p out)(hk:k<out.length):gK p (out.set k { out.getD k default with q:=q }):=λy hy=>by
 rcases List.mem_or_eq_of_mem_set hy with hy|rfl
 .exact h y hy
 .exact h (out.getD k default) (getD_mem hk default)
theorem gK.merge (h:gK p out)(hx:p x.f x.l x.t):gK p (jg out x):=by
 unfold jg
 split
 .exact h.set (by omega)
 .intro y hy;rcases ru hy with hy|hy
  .exact h y hy
  .rw[lV hy];exact hx
theorem gK.ins (h:gK p out)(hx:p x.f x.l x.t):gK p (Ap out x):=by
 unfold Ap
 split
 .rename_i hc;exact h.set hc.1
 .intro y hy;rcases ru hy with hy|hy
  .exact h y (List.mem_of_mem_take hy)
  .rcases List.mem_cons.1 hy with rfl|hy
   .exact hx
   .exact h y (List.mem_of_mem_drop hy)
theorem gK.fold {g:List bM->bM->List bM}(hg:∀ out x,gK p out->p x.f x.l x.t->gK p (g out x)):∀ (l out:List bM),gK p out->gK p l->gK p (l.foldl g out)
 | [],out,h,_=>h
 | x::l,out,h,k=>gK.fold hg l _ (hg _ _ h (k x rY)) λy hy=>k y (List.mem_cons_of_mem _ hy)
theorem gK.nz (h:gK p l):gK p (UF l):=λy hy=>h y (List.mem_filter.1 hy).1
theorem gK.sort (h:gK p l):gK p (sortA l):=λy hy=>h y ((Ik l).mem_iff.1 hy)
theorem gK.tidy (h:gK p l):gK p (dF l):=(gK.fold (λ_ _ h k=>h.merge k) _ _ (λ_ h=>by cases h) h.sort).nz
theorem gK.form (h:gK p l):gK p (bU l):=(gK.fold (λ_ _ h k=>h.ins k) _ _ (λ_ h=>by cases h) h).nz
theorem Ju {α:Type}[Inhabited α]{R:α->α->Prop}(tr:∀ a b c,R a b->R b c->R a c):∀ {l:List α},(∀ i,i+1<l.length->R (l.getD i default) (l.getD (i+1) default))->l.Pairwise R
 | [],_=>.nil
 | [x],_=>List.pairwise_singleton ..
 | x::y::r,h=>by
  have ih:=Ju tr (l:=y::r) λi hi=>h (i+1) (by simpa using hi)
  have h0:R x y:=h 0 (by simp)
  refine List.pairwise_cons.2 ⟨λz hz=>?_,ih⟩;rcases List.mem_cons.1 hz with rfl|hz
  .exact h0
  .exact tr _ _ _ h0 ((List.pairwise_cons.1 ih).1 z hz)
theorem ax5 (l:List bM):(sortA l).Pairwise λa b=>¬ oH b a<0:=by
 refine Ju (λa b c h k=>?_) λi hi=>?_
 .rw[Es] at *;omega
 .have hl:(sortA l).length=l.length:=vJ ..;have h:=QZ (c:=Q5) (λx y h=>decide_eq_false (by have:=mX h;rw[Es] at *;omega)) (k:=l.length-1) (o:=l) (by omega) i (by omega)
  exact oN h
theorem Gy:∀ (l out:List bM),out.Pairwise (λa b=>oH a b<0)->l.Pairwise (λa b=>¬ oH b a<0)->(∀ a,a ∈ out->∀ b,b ∈ l->¬ oH b a<0)->(l.foldl jg out).Pairwise λa b=>oH a b<0
 | [],out,h,_,_=>h
 | x :: l, out, h, hl, hb => by
  obtain⟨hl1,hl2⟩:=List.pairwise_cons.1 hl;rw[List.foldl_cons];have hx:=λa ha=>hb a ha x rY;rcases List.eq_nil_or_concat out with rfl|⟨o,y,rfl⟩
  .refine Gy l _ ?_ hl2 ?_
   .show List.Pairwise _ (jg [] x)
    unfold jg;rw[if_neg (by simp)]
    exact List.pairwise_singleton ..
   .unfold jg;rw[if_neg (by simp)]
    intro a ha;rw[lV ha];exact hl1
  .rw[List.concat_eq_append] at *;have hlast:(o++[y]).getD ((o++[y]).length-1) default=y:=by
    rw[jd,kC,Nat.add_sub_cancel,iO,List.getElem?_append_right (Nat.le_refl _),Nat.sub_self];rfl
   obtain⟨p1,_,p3⟩:=List.pairwise_append.1 h;unfold jg;rw[hlast]
   split
   .rename_i hc;rw[show (o++[y]).set ((o++[y]).length-1) { y with q:=y.q+x.q }=o++[{ y with q:=y.q+x.q }] by
     rw[jd,kC,Nat.add_sub_cancel,List.set_append_right _ _ (Nat.le_refl _),Nat.sub_self];rfl]
    have e0:∀ a,oH a { y with q:=y.q+x.q }=oH a y:=λa=>rfl
    have e1:∀ b,oH b { y with q:=y.q+x.q }=oH b y:=λa=>rfl
    refine Gy l _ (List.pairwise_append.2 ⟨p1,List.pairwise_singleton ..,λa ha b hb'=>?_⟩) hl2 λa ha b hb'=>?_
    .rw[lV hb',e0];exact p3 a ha y (List.mem_singleton.2 rfl)
    .rcases ru ha with ha|ha
     .exact hb a (List.mem_append.2 (.inl ha)) b (List.mem_cons_of_mem _ hb')
     .rw[lV ha,e1];exact hb y (List.mem_append.2 (.inr (List.mem_singleton.2 rfl))) b (List.mem_cons_of_mem _ hb')
   .rename_i hc;have hyx:oH y x<0:=by
     have h1:oH y x≠0:=λe=>hc ⟨by simp,e⟩
     have h2:=hx y (List.mem_append.2 (.inr (List.mem_singleton.2 rfl)));rw[Es] at h2 ⊢;rw[Ne,Gw] at h1;omega
    refine Gy l _ (List.pairwise_append.2 ⟨h,List.pairwise_singleton ..,λa ha b hb'=>?_⟩) hl2 λa ha b hb'=>?_
    .rw[lV hb'];rcases ru ha with ha|ha
     .have:=p3 a ha y (List.mem_singleton.2 rfl);rw[Es] at *;omega
     .rw[lV ha];exact hyx
    .rcases ru ha with ha|ha
     .exact hb a ha b (List.mem_cons_of_mem _ hb')
     .rw[lV ha];exact hl1 b hb'
theorem FI (l:List bM):(dF l).Pairwise λa b=>oH a b<0 :=
 List.Pairwise.filter _ (Gy _ _ .nil (ax5 l) λ_ h=>by cases h)
theorem FK:∀ {l:List bM},l.Pairwise (λa b=>oH a b<0)->x ∈ l->1<=x.l->iH l (x.l-1) x.f x.t=x.q
 | y :: l, hp, hx, h1 => by
  obtain⟨p1,p2⟩:=List.pairwise_cons.1 hp;rw[pO];rcases List.mem_cons.1 hx with rfl|hx
  .have hz:iH l (x.l-1) x.f x.t=0:=by
    unfold iH;refine (LW λz hz=>?_);have:=p1 z hz;rw[Es] at this;rw[if_neg (by omega)]
   rw[hz,Rat.add_zero];unfold wM;rw[if_pos ⟨rfl,by omega,rfl⟩]
  .have:=p1 x hx;rw[Es] at this;rw[FK p2 hx h1];unfold wM;rw[if_neg (by omega),Rat.zero_add]
end
structure Hr (a b:Au):Prop where
 st:a.st=b.st
 sym:a.sym=b.sym
 ini:a.ini=b.ini
 fin:a.fin=b.fin
 ent:∀ s i j,iH a.aB s i j=iH b.aB s i j
def qR (a:Au):Au:={ a with aB:=bU a.aB }
def oq (a:Au)(c:Rat):Au:={ qR a with ini:=a.ini.map λx=>x*c }
def moved (l:List bM)(eF:Nat):List bM:=l.map λx=>⟨x.f+eF,x.l,x.t+eF,x.q⟩
def kV (a b:Au):Au:=⟨a.sym,a.st+b.st,a.ini++b.ini,a.fin++b.fin,bU (moved a.aB 0++moved b.aB a.st)⟩
def wS (a:Au):Au:=⟨a.sym,a.st,a.fin,a.ini,bU (a.aB.map λx=>⟨x.t,x.l,x.f,x.q⟩)⟩
section
variable {a b c d:Au}{w:List Int}{s i j:Nat}
theorem KD {n:Nat}{f g:Nat->Nat->Rat}(h:∀ i j,i<n->j<n->f i j=g i j):EH n f=EH n g:=by
 unfold EH;refine List.map_congr_left λi hi=>List.map_congr_left λj hj=>h i j (List.mem_range.1 hi) (List.mem_range.1 hj)
theorem Hr.bC1 (h:Hr a b)(r q:List Au)(hr:∀ s i j,mW r s i j=mW q s i j):mW (a::r) s i j=mW (b::q) s i j:=by
 rw[mW,mW,h.st,h.ent,hr]
theorem Hr.EK (h:Hr a b):ah [a]=ah [b]:=by
 unfold ah;have e:(λs=>EH (aK [a]) (mW [a] s))=λs=>EH (aK [b]) (mW [b] s):=by
  funext s;rw[dN,dN,h.st];exact KD λi j _ _=>h.bC1 [] [] λ_ _ _=>rfl
 rw[e,dN,dN,h.st];simp only[List.flatMap_cons,List.flatMap_nil,Qc,List.getD_cons_zero,h.ini,h.fin,h.sym]
theorem Hr.ser (h:Hr a b):kQ a=kQ b:=by unfold kQ;rw[h.EK]
theorem Hr.refl (a:Au):Hr a a:=⟨rfl,rfl,rfl,rfl,λ_ _ _=>rfl⟩
theorem Gz (a:Au):Hr (qR a) a:=⟨rfl,rfl,rfl,rfl,λ_ _ _=>qQ⟩
theorem Au.Ok.form (h:a.Ok):(qR a).Ok:=⟨h.H8,h.ini,h.fin,gK.form (p:=λf l t=>f<a.st/\t<a.st/\1<=l/\l<=a.sym) h.arc⟩
theorem Au.Ok.scale (h:a.Ok)(q:Rat):(oq a q).Ok:=⟨h.H8,by show (a.ini.map _).length=_;rw[dL];exact h.ini,h.fin,h.form.arc⟩
theorem Au.Ok.union (h:a.Ok)(k:b.Ok)(hs:a.sym=b.sym):(kV a b).Ok:=by
 refine⟨h.H8,by show (a.ini++b.ini).length=_;rw[jd,h.ini,k.ini];rfl,by show (a.fin++b.fin).length=_;rw[jd,h.fin,k.fin];rfl,gK.form (p:=λf l t=>f<a.st+b.st/\t<a.st+b.st/\1<=l/\l<=a.sym) λy hy=>?_⟩
 rcases ru hy with hy|hy
 .obtain⟨x,hx,rfl⟩:=jH hy;have:=h.arc x hx;exact⟨by show x.f+0<_;omega,by show x.t+0<_;omega,this.2.2.1,this.2.2.2⟩
 .obtain⟨x,hx,rfl⟩:=jH hy;have:=k.arc x hx;exact⟨by show x.f+a.st<_;omega,by show x.t+a.st<_;omega,this.2.2.1,by show x.l<=_;omega⟩
theorem Au.Ok.rev (h:a.Ok):(wS a).Ok:=⟨h.H8,h.fin,h.ini,gK.form (p:=λf l t=>f<a.st/\t<a.st/\1<=l/\l<=a.sym) λy hy=>by
 obtain⟨x,hx,rfl⟩:=jH hy;have:=h.arc x hx;exact⟨this.2.1,this.1,this.2.2⟩⟩
theorem ax6 {m m2:bQ}{q:Rat}(hn:m2.n=m.n)(hm:m2.gV=m.gV)(hf:m2.fin=m.fin)(hi:∀ i,i<m.n->m2.ini.getD i 0=m.ini.getD i 0*q)(w:List Int):kU m2 w=kU m w*q:=by
 have hv:∀ i,i<m.n->(aZ m2 w).getD i 0=(aZ m w).getD i 0*q:=by
  induction hl:w.length generalizing w with
  | zero =>
   rw[EQ hl];exact hi
  | succ n ih =>
   have hne:w≠[]:=λe=>by subst e;cases hl
   obtain⟨y,x,rfl⟩:∃ y x,w=y++[x]:=⟨w.dropLast,w.getLast hne,(List.dropLast_concat_getLast hne).symm⟩;intro i hi';have ihy:=ih y (by rw[jd,kC] at hl;omega)
   rw[iq,iq,pK (by rw[hn];exact hi'),pK hi',hn,<- nG]
   refine aF λk hk=>?_;have e:iU m2 (x.toNat-1) k i=iU m (x.toNat-1) k i:=by unfold iU;rw[hm]
   rw[ihy k hk,e,Rat.mul_assoc,Rat.mul_assoc,Rat.mul_comm q]
 unfold kU mZ;rw[hn,hf,<- nG];refine aF λi hi'=>?_;show (aZ m2 w).getD i 0*_=_
 rw[hv i hi',Rat.mul_assoc,Rat.mul_assoc,Rat.mul_comm q]
theorem ah6 (ha:a.Ok)(q:Rat)(w:List Int):kQ (oq a q) w=kQ a w*q:=by
 rw[<- (Gz a).ser];refine ax6 (m:=ah [qR a]) (m2:=ah [oq a q]) rfl ?_ rfl (λi hi=>?_) w
 .rfl
 .show ((a.ini.map λx=>x*q)++[]).getD i 0=(a.ini++[]).getD i 0*q
  rw[List.append_nil,List.append_nil,iO,List.getElem?_map,iO];have hi:i<a.ini.length:=by rw[ha.ini];exact Nat.lt_of_lt_of_eq hi dN
  rw[lF hi];rfl
theorem uX {l:List bM}{n:Nat}:iH (moved l n) s i j=if n<=i/\n<=j then iH l s (i-n) (j-n) else 0:=by
 unfold iH moved;rw[Ox]
 split
 .refine Ih λx _=>?_;show (if x.f+n=i/\x.l=s+1/\x.t+n=j then x.q else 0)=if x.f=i-n/\x.l=s+1/\x.t=j-n then x.q else 0
  by_cases hc:x.f=i-n/\x.l=s+1/\x.t=j-n
  .rw[if_pos hc,if_pos (by omega)]
  .rw[if_neg hc,if_neg (by omega)]
 .refine LW λx _=>?_;show (if x.f+n=i/\x.l=s+1/\x.t+n=j then x.q else 0)=0
  rw[if_neg (by omega)]
theorem OQ {l:List bM}{n:Nat}(h:∀ x,x ∈ l->x.f<n/\x.t<n)(hij:n<=i \/ n<=j):iH l s i j=0:=LW λx hx=>if_neg (by have:=h x hx;omega)
theorem ah7 (ha:a.Ok)(hb:b.Ok)(hs:a.sym=b.sym)(hw:iy a.sym w):kQ (kV a b) w=kQ a w+kQ b w:=by
 obtain⟨h1,h2⟩:=ZT ha hb hs w hw;have em:(ah [kV a b]).gV=(ah [a,b]).gV:=by
  show (List.range a.sym).map _=(List.range a.sym).map _
  refine List.map_congr_left λs _=>?_;rw[dN,size_two];show EH (a.st+b.st) _=_
  refine KD λi j hi hj=>?_;show mW [kV a b] s i j=mW [a,b] s i j
  have e0:mW [kV a b] s i j=iH (kV a b).aB s i j:=by
   simp only[mW];rw[if_pos (show i<(kV a b).st from hi),if_pos (show j<(kV a b).st from hj)]
  rw[e0];show iH (bU _) s i j=_
  rw[qQ,qH,uX,uX,if_pos ⟨Nat.zero_le _,Nat.zero_le _⟩,Nat.sub_zero,Nat.sub_zero];have oa:=OQ (l:=a.aB) (n:=a.st) (s:=s) (i:=i) (j:=j) λx hx=>⟨(ha.arc x hx).1,(ha.arc x hx).2.1⟩;simp only[mW];by_cases hi1:i<a.st <;> by_cases hj1:j<a.st
  .rw[if_pos hi1,if_pos hj1,if_neg (by omega),Rat.add_zero]
  .rw[if_pos hi1,if_neg hj1,if_neg (by omega),oa (.inr (by omega)),Rat.add_zero]
  .rw[if_neg hi1,if_pos hj1,if_neg (by omega),oa (.inl (by omega)),Rat.add_zero]
  .rw[if_neg hi1,if_neg hj1,if_pos (by omega),oa (.inl (by omega)),Rat.zero_add,if_pos (show i-a.st<b.st by omega),if_pos (show j-a.st<b.st by omega)]
 have en:(ah [kV a b]).n=(ah [a,b]).n:=by show aK _=aK _;rw[dN,size_two];rfl
 have ev:aZ (ah [kV a b]) w=aZ (ah [a,b]) w:=by
  have es:stepM (ah [kV a b])=stepM (ah [a,b]):=by
   funext v s;unfold stepM iU;rw[em,en]
  unfold aZ;rw[es];congr 1;show (a.ini++b.ini)++[]=a.ini++(b.ini++[])
  rw[List.append_nil,List.append_nil]
 unfold kQ kU mZ;rw[en,ev,show (ah [a,b]).n=a.st+b.st from size_two,show (ah [a]).n=a.st from dN,show (ah [b]).n=b.st from dN,CQ]
 have f1:∀ i,i<a.st->vf (ah [kV a b]).fin i=vf (ah [a]).fin i:=λi hi=>by
  show ((a.fin++b.fin)++[]).getD i 0=(a.fin++[]).getD i 0
  rw[List.append_nil,List.append_nil,iO,List.getElem?_append_left (by rw[ha.fin];exact hi),<- iO]
 have f2:∀ i,vf (ah [kV a b]).fin (a.st+i)=vf (ah [b]).fin i:=λi=>by
  show ((a.fin++b.fin)++[]).getD (a.st+i) 0=(b.fin++[]).getD i 0
  rw[List.append_nil,List.append_nil,iO,List.getElem?_append_right (by rw[ha.fin];omega),ha.fin,Nat.add_sub_cancel_left,<- iO]
 congr 1
 .exact aF λi hi=>by rw[show vf (aZ (ah [a,b]) w) i=vf (aZ (ah [a]) w) i from h1 i hi,f1 i hi]
 .exact aF λi hi=>by rw[show vf (aZ (ah [a,b]) w) (a.st+i)=vf (aZ (ah [b]) w) i from h2 i hi,f2 i]
theorem ZW {m:bQ}(hw:iy m.k w):kU (aU m) w=kU m w.reverse:=by
 have h:=Bv w [] hw;rw[List.nil_append] at h;rw[<- h];unfold kU jW mZ;exact aF λi _=>Rat.mul_comm ..
end
noncomputable def eqA (a b:Au):Option (List Int):=tu (ah [a,b])
noncomputable def zeA (a:Au):Option (List Int):=tu (ah [a])
noncomputable def VL (a:Au):Nat:=EI a.sym (kQ a)
section
variable {a b c:Au}{w:List Int}{q:Rat}
theorem ZX {x y:Rat}(h:x-y=0):x=y:=by
 rw[<- Rat.sub_add_cancel (a:=x) (b:=y),h,Rat.zero_add]
theorem tY:(ah [a]).k=a.sym:=wL
theorem bo6:(ah [a,b]).k=a.sym:=wL
theorem ax7 (ha:a.Ok)(hb:b.Ok)(hs:a.sym=b.sym):eqA a b=none ↔ ∀ w,iy a.sym w->kQ a w=kQ b w:=by
 unfold eqA;rw[Ep (VA ha hb),bo6];constructor
 .intro h w hw;have:=h w hw;rw[TQ ha hb hs hw] at this;exact ZX this
 .intro h w hw;rw[TQ ha hb hs hw,h w hw,Rat.sub_self]
theorem bd0 (a:Au):VL a<=a.st:=by
 have:=aP0 (ah [a]);rw[tY,show (ah [a]).n=a.st from dN] at this
 exact this
end
def BJ (k n:Int):Nat:=(k % n).toNat
def Qe (v:Int):Int:=v % 13-6
def Qg (v:Int):Int:=1+IntKind.i64.wrap (v.tdiv 13) % 3
def TS (v:Int):Rat:=((Qe v:Int):Rat) / ((Qg v:Int):Rat)
structure gB where
 st:Int
 ini:List Int
 fin:List Int
 aB:List Int
instance:Inhabited gB:=⟨⟨0,[],[],[]⟩⟩
def gQ (m:gB)(most:Nat):Nat:=1+BJ (IntKind.i64.wrap (m.st-1)) most
def Bz (l:List Int)(i one:Nat):Rat:=if i<l.length then TS (l.getD i 0) else if i=one then 1 else 0
def VN (l:List Int)(sym n g:Nat):bM:=⟨BJ (l.getD (4*g) 0) n,1+BJ (l.getD (4*g+1) 0) sym,BJ (l.getD (4*g+2) 0) n,TS (l.getD (4*g+3) 0)⟩
def groups (l:List Int):Nat:=min (l.length / 4) 10
def dS (m:gB)(sym most:Nat):Au:=⟨sym,gQ m most,(List.range (gQ m most)).map λi=>Bz m.ini i 0,(List.range (gQ m most)).map λi=>Bz m.fin i (gQ m most-1),(List.range (groups m.aB)).map (VN m.aB sym (gQ m most))⟩
section
variable {m:gB}{sym most:Nat}{k v:Int}{l:List Int}
theorem Et {n:Nat}(k:Int)(h:1<=n):BJ k n<n:=by
 have h1:=Int.emod_lt_of_pos k (show (0:Int)<n by omega)
 have h2:=Int.emod_nonneg k (show (n:Int)≠0 by omega)
 unfold BJ;omega
theorem OU {n:Nat}(k:Int)(h:1<=n):(BJ k n:Int)=k % n:=by
 have h2:=Int.emod_nonneg k (show (n:Int)≠0 by omega)
 unfold BJ;omega
theorem TT (v:Int):-6<=Qe v/\Qe v<=6:=by unfold Qe;omega
theorem TU (v:Int):1<=Qg v/\Qg v<=3:=by unfold Qg;omega
theorem ZY (v:Int):sz (TS v)<=1:=by
 have h1:=TT v;have h2:=TU v;exact au4 (by omega) (by omega) (by omega)
theorem VO (l:List Int)(i one:Nat):sz (Bz l i one)<=1:=by
 unfold Bz
 split
 .exact ZY _
 .split
  .rw[yG];exact Nat.le_refl _
  .rw[fH];exact Nat.le_refl _
theorem Jv (h:1<=most):1<=gQ m most/\gQ m most<=most:=by
 have:=Et (IntKind.i64.wrap (m.st-1)) h;unfold gQ;omega
theorem aP1 (hs:1<=sym)(h:1<=most):(dS m sym most).Ok:=by
 have hst:=Jv (m:=m) h;refine⟨hs,by simp[dS],by simp[dS],λx hx=>?_⟩
 obtain⟨g,_,rfl⟩:=jH hx;have h1:=Et (m.aB.getD (4*g) 0) hst.1;have h2:=Et (m.aB.getD (4*g+1) 0) hs;have h3:=Et (m.aB.getD (4*g+2) 0) hst.1;refine⟨h1,h3,?_,?_⟩
 .show 1<=1+BJ _ _;omega
 .show 1+BJ _ _<=sym;omega
structure Au.Sz (a:Au) (B N:Nat):Prop where
 ini:Small B a.ini
 fin:Small B a.fin
 arc:∀ x,x ∈ a.aB->sz x.q<=B
 num:a.aB.length<=N
theorem xZ:(dS m sym most).Sz 1 10:=by
 refine⟨λq hq=>?_,λq hq=>?_,λx hx=>?_,?_⟩
 .obtain⟨i,_,rfl⟩:=jH hq;exact VO ..
 .obtain⟨i,_,rfl⟩:=jH hq;exact VO ..
 .obtain⟨g,_,rfl⟩:=jH hx;exact ZY _
 .show ((List.range (groups m.aB)).map _).length<=10
  rw[dL,List.length_range];exact Nat.min_le_right ..
end
abbrev dW (q:Rat):D:=.ag [dB (iD q).neg,aI (iD q).num,aI (iD q).den,dI 0,dB false,dU 0,.sl [],.sl []]
abbrev vW (q:Rat):V:=.ag [.d (dB (iD q).neg),.d (aI (iD q).num),.d (aI (iD q).den),.d (dI 0),.d (dB false),.d (dU 0),.d (.sl []),.d (.sl [])]
abbrev lC (l:List Rat):D:=.sl (l.map dW)
abbrev jv (x:bM):D:=.ag [dI x.f,dI x.l,dI x.t,dB (iD x.q).neg,aI (iD x.q).num,aI (iD x.q).den,dI 0,dB false,dU 0,.sl [],.sl []]
abbrev KE (x:bM):V:=.ag [.d (dI x.f),.d (dI x.l),.d (dI x.t),.d (dB (iD x.q).neg),.d (aI (iD x.q).num),.d (aI (iD x.q).den),.d (dI 0),.d (dB false),.d (dU 0),.d (.sl []),.d (.sl [])]
abbrev iL (l:List bM):D:=.sl (l.map jv)
abbrev jG:V:=.ag [.d (dI 1),.d (.sl [])]
abbrev uY (a:Au):V:=.ag [.d (dI 1),.d (.sl []),.d (dI a.sym),.d (dI a.st),.d (lC a.ini),.d (lC a.fin),.d (iL a.aB)]
abbrev uD (m:bQ):V:=.ag [.d (gm m.ini),.d (gm m.fin),.d (.sl (m.gV.map kN))]
abbrev yH (m:bQ)(w:List Int):D:=.ag [ints w,gm (aZ m w)]
abbrev ah8 (m:bQ)(w:List Int):V:=.ag [.d (ints w),.d (gm (aZ m w))]
section
variable {q:Rat}{x:bM}
theorem ax8:bV (.ag [.d (dB false),.mt,.mt,.d (dI 0),.d (dB false),.d (dU 0),.mt,.mt]) (vW 0):=by
 unfold vW;rw[rG];exact bV.ag (.cons vR (.cons bV.mt (.cons bV.mt (.cons vR (.cons vR (.cons vR (.cons bV.mt (.cons bV.mt .nil))))))))
theorem FM:bV (.ag [.d (dB (iD q).neg),.d (aI (iD q).num),.d (aI (iD q).den),.d (dI 0),.d (dB false),.d (dU 0),.mt,.mt]) (vW q) :=
 bV.ag (.cons vR (.cons vR (.cons vR (.cons vR (.cons vR (.cons vR (.cons bV.mt (.cons bV.mt .nil))))))))
