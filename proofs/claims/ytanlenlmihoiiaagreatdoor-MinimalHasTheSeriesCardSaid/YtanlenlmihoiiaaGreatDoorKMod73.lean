/-
  M, chapters 23 and 24: automata over the rational numbers, their machines, differences.
-/
import Derived.Test.YtanlenlmihoiiaaGreatDoorKMod37c
set_option linter.unusedVariables false
set_option linter.unusedSimpArgs false
namespace Go.AL
open Go Go.BigFrame
structure bQ where
 n:Nat
 ini:List Rat
 fin:List Rat
 gV:List (List (List Rat))
def bQ.k (m:bQ):Nat:=m.gV.length
def iU (m:bQ)(s i j:Nat):Rat:=((m.gV.getD s []).getD i []).getD j 0
def stepM (m:bQ)(v:List Rat)(s:Nat):List Rat:=(List.range m.n).map λj=>aW (λi=>v.getD i 0*iU m s i j) m.n
def aZ (m:bQ)(w:List Int):List Rat:=w.foldl (λv x=>stepM m v (x.toNat-1)) m.ini
def mZ (n:Nat)(u v:Nat->Rat):Rat:=aW (λi=>u i*v i) n
def kU (m:bQ)(w:List Int):Rat:=mZ m.n (vf (aZ m w)) (vf m.fin)
structure bQ.Ok (m:bQ):Prop where
 ini:m.ini.length=m.n
 fin:m.fin.length=m.n
def qN (a b:List Int):Int:=if a.length≠b.length then (if a.length<b.length then -1 else 1) else cmpL a b
def iy (k:Nat)(w:List Int):Prop:=∀ x,x ∈ w->1<=x/\x<=(k:Int)
def dD (k:Nat)(w:List Int):List (List Int):=(List.range k).map λs=>w++[((s+1:Nat):Int)]
section
variable {m:bQ}{w u:List Int}{a b c:List Int}
theorem CJ (m:bQ)(v:List Rat)(s:Nat):(stepM m v s).length=m.n:=by simp[stepM]
theorem iq (x:Int):aZ m (w++[x])=stepM m (aZ m w) (x.toNat-1):=by unfold aZ;rw[List.foldl_append];rfl
theorem lu (h:m.Ok)(w:List Int):(aZ m w).length=m.n:=by
 rcases List.eq_nil_or_concat w with rfl|⟨w,x,rfl⟩
 .exact h.ini
 .rw[List.concat_eq_append,iq,CJ]
theorem QU (m:bQ)(s:Nat):aw2 m.n m.n λu j=>aW (λi=>u i*iU m s i j) m.n :=
 ⟨λu v h j _=>aF λi hi=>by rw[h i hi],λu v c j _=>by
  rw[<- ig,<- pF];exact aF λi _=>by rw[Rat.add_mul,Rat.mul_assoc],λj _=>jk λi _=>Rat.zero_mul _⟩
theorem Fq (n:Nat)(f:Nat->Rat):aw2 n 1 λu _=>mZ n u f :=
 ⟨λu v h _ _=>aF λi hi=>by rw[h i hi],λu v c _ _=>by
  unfold mZ;rw[<- ig,<- pF];exact aF λi _=>by rw[Rat.add_mul,Rat.mul_assoc],λ_ _=>jk λi _=>Rat.zero_mul _⟩
theorem pK {v:List Rat}{s j:Nat}(hj:j<m.n):(stepM m v s).getD j 0=aW (λi=>v.getD i 0*iU m s i j) m.n:=aO _ _ hj
theorem Fv (a:List Int):qN a a=0:=by unfold qN;rw[if_neg (by omega),Kv]
theorem Gt (a b:List Int):qN b a = -qN a b:=by
 unfold qN;by_cases h:a.length=b.length
 .rw[if_neg (show ¬ b.length≠a.length by omega),if_neg (show ¬ a.length≠b.length by omega)];exact Vw a b
 .rw[if_pos (show b.length≠a.length by omega),if_pos (show a.length≠b.length by omega)]
  by_cases h1:a.length<b.length
  .rw[if_pos h1,if_neg (show ¬ b.length<a.length by omega)];rfl
  .rw[if_neg h1,if_pos (show b.length<a.length by omega)]
theorem Jq (h:qN a b=0):a=b:=by
 unfold qN at h
 split at h
 .split at h <;> cases h
 .exact QT h
theorem Gu (h:qN a b<=0)(k:qN b c<=0):qN a c<=0:=by
 unfold qN at *;by_cases h1:a.length=b.length
 .by_cases h2:b.length=c.length
  .rw[if_neg (by omega)] at h k ⊢
   exact Oy h k
  .rw[if_pos (by omega)] at k ⊢
   split at k
   .rw[if_pos (by omega)];decide
   .exact absurd k (by decide)
 .rw[if_pos (by omega)] at h
  split at h
  .by_cases h2:b.length=c.length
   .rw[if_pos (by omega),if_pos (by omega)];decide
   .rw[if_pos (by omega)] at k
    split at k
    .rw[if_pos (by omega),if_pos (by omega)];decide
    .exact absurd k (by decide)
  .exact absurd h (by decide)
theorem En (h:qN a b<0)(k:qN b c<=0):qN a c<0:=by
 have h1:=Gu (Int.le_of_lt h) k;have h2:qN a c≠0:=λe=>by
  have:=Jq e;subst this;have:=Gt a b;omega
 omega
theorem Nc (h:qN a b<=0):a.length<=b.length:=by
 unfold qN at h
 split at h
 .split at h
  .omega
  .exact absurd h (by decide)
 .omega
theorem Gv (h:a.length<b.length):qN a b<0:=by
 unfold qN;rw[if_pos (by omega),if_pos h];decide
theorem Vx {x:Int}(h:qN a b<=0):qN (a++[x]) (b++[x])<=0:=by
 have hl:=Nc h;unfold qN at *;rw[jd,jd];by_cases h1:a.length=b.length
 .rw[if_neg (by omega)] at h ⊢
  rw[Oz h1];exact h
 .rw[if_pos (by omega),if_pos (by simp only[kC];omega)];decide
theorem LV {x y:Int}(h:qN a b<0):qN (a++[x]) (b++[y])<0:=by
 have hl:=Nc (Int.le_of_lt h);unfold qN at *;rw[jd,jd];by_cases h1:a.length=b.length
 .rw[if_neg (by omega)] at h
  rw[if_neg (by simp only[kC];omega),Gs h1,if_neg (by omega)];exact h
 .rw[if_pos (by simp only[kC];omega),if_pos (by simp only[kC];omega)];decide
theorem ax2 (k:Nat)(w:List Int):(dD k w).Pairwise λa b=>qN a b<0:=by
 unfold dD;refine List.pairwise_map.2 (List.pairwise_lt_range.imp λ{a b} h=>?_);unfold qN;rw[if_neg (by simp),Gs rfl,if_pos (Kv w),if_pos (by omega)];decide
theorem CO {k:Nat}:a ∈ dD k w ↔ ∃ s,s<k/\a=w++[((s+1:Nat):Int)]:=by
 unfold dD;rw[List.mem_map];exact⟨λ⟨s,h,e⟩=>⟨s,List.mem_range.1 h,e.symm⟩,λ⟨s,h,e⟩=>⟨s,List.mem_range.2 h,e.symm⟩⟩
def xk (m:bQ)(K:List (List Int)):List (List Rat):=K.map (aZ m)
def upTo (K:List (List Int))(v:List Int):List (List Int):=K.filter λu=>decide (qN u v<=0)
theorem eY {K:List (List Int)}{v:List Int}:u ∈ upTo K v ↔ u ∈ K/\qN u v<=0:=by
 unfold upTo;rw[List.mem_filter,decide_eq_true_eq]
structure QV (m:bQ) (V K Q:List (List Int)):Prop where
 sub:∀ u,u ∈ K->u ∈ V
 root:[] ∈ V \/ [] ∈ Q
 kids:∀ u,u ∈ K->∀ s,s<m.k->u++[((s+1:Nat):Int)] ∈ V \/ u++[((s+1:Nat):Int)] ∈ Q
 span:∀ v,v ∈ V->cZ m.n (xk m (upTo K v)) (vf (aZ m v))
 ord:(V++Q).Pairwise λa b=>qN a b<0
 par:∀ q,q ∈ Q->q=[] \/ ∃ u,u ∈ K/\∃ s,s<m.k/\q=u++[((s+1:Nat):Int)]
 uN:∀ v,v ∈ V \/ v ∈ Q->iy m.k v
theorem QV.start (m:bQ):QV m [] [] [[]] :=
 ⟨λ_ h=>(by cases h),.inr (List.mem_singleton.2 rfl),λ_ h=>(by cases h),λ_ h=>(by cases h),List.pairwise_singleton ..,λq h=>.inl (lV h),λv h x hx=>by
  rcases h with h|h
  .cases h
  .rw[lV h] at hx;cases hx⟩
theorem QV.reach {V K Q:List (List Int)}(h:QV m V K Q):∀ (w:List Int),iy m.k w->(∀ q,q ∈ Q->qN w q<0)->cZ m.n (xk m (upTo K w)) (vf (aZ m w)):=by
 intro w
 induction hl:w.length generalizing w with
 | zero =>
  intro _ hq;have e:=EQ hl;subst e;rcases h.root with h1|h1
  .exact h.span _ h1
  .have:=hq _ h1;rw[Fv] at this;exact absurd this (by decide)
 | succ n ih =>
  intro hw hq;have hne:w≠[]:=λe=>by subst e;cases hl
  obtain⟨y,x,rfl⟩:∃ y x,w=y++[x]:=⟨w.dropLast,w.getLast hne,(List.dropLast_concat_getLast hne).symm⟩;have hx:=hw x (by simp)
  have hy:iy m.k y:=λz hz=>hw z (List.mem_append.2 (.inl hz));have hyl:y.length=n:=by rw[jd,kC] at hl;omega
  have hyx:qN y (y++[x])<0:=Gv (by rw[jd,kC];omega)
  have hs:=ih y hyl hy λq hq'=>En hyx (Int.le_of_lt (hq q hq'));rw[iq];have hmap:=cZ.map (QU m (x.toNat-1)) hs (C:=xk m (upTo K (y++[x]))) λb hb=>by
   obtain⟨u,hu,rfl⟩:=jH hb;obtain⟨hu1,hu2⟩:=eY.1 hu;have hux:u++[x] ∈ V:=by
    have:=h.kids u hu1 (x.toNat-1) (by omega)
    rw[show ((x.toNat-1+1:Nat):Int)=x by omega] at this
    refine this.resolve_right λk=>?_;have a:=hq _ k;have b:=Vx (x:=x) hu2;have c:=Gt (u++[x]) (y++[x]);omega
   have hsp:=h.span _ hux;rw[iq] at hsp;refine (hsp.congr (v:=λj=>aW (λi=>vf (aZ m u) i*iU m (x.toNat-1) i j) m.n) λj hj=>(pK hj).symm).mono λb hb=>?_;obtain⟨z,hz,rfl⟩:=jH hb;obtain⟨hz1,hz2⟩:=eY.1 hz;exact List.mem_map.2 ⟨z,eY.2 ⟨hz1,Gu hz2 (Vx hu2)⟩,rfl⟩
  exact hmap.congr λj hj=>pK hj
theorem QW {K:List (List Int)}{v x:List Int}(hu:u ∈ upTo K v):u ∈ upTo (K++[x]) v :=
 eY.2 ⟨List.mem_append.2 (.inl (eY.1 hu).1),(eY.1 hu).2⟩
theorem QV.head {V K Q:List (List Int)}(h:QV m V K (w::Q)):(∀ v,v ∈ V->qN v w<0)/\(∀ q,q ∈ Q->qN w q<0):=by
 obtain⟨_,h2,h3⟩:=List.pairwise_append.1 h.ord;exact⟨λv hv=>h3 v hv w rY,(List.pairwise_cons.1 h2).1⟩
theorem QV.drop {V K Q:List (List Int)}(h:QV m V K (w::Q))(hs:cZ m.n (xk m K) (vf (aZ m w))):QV m (V++[w]) K Q:=by
 have e:V++w::Q=(V++[w])++Q:=by simp
 refine⟨λu hu=>List.mem_append.2 (.inl (h.sub u hu)),?_,λu hu s hs'=>?_,λv hv=>?_,by rw[<- e];exact h.ord,λq hq=>h.par q (List.mem_cons_of_mem _ hq),λv hv=>?_⟩
 .rcases h.root with h1|h1
  .exact .inl (List.mem_append.2 (.inl h1))
  .rcases List.mem_cons.1 h1 with h1|h1
   .exact .inl (List.mem_append.2 (.inr (List.mem_singleton.2 h1)))
   .exact .inr h1
 .rcases h.kids u hu s hs' with h1|h1
  .exact .inl (List.mem_append.2 (.inl h1))
  .rcases List.mem_cons.1 h1 with h1|h1
   .exact .inl (List.mem_append.2 (.inr (List.mem_singleton.2 h1)))
   .exact .inr h1
 .rcases ru hv with hv|hv
  .exact h.span v hv
  .rw[lV hv];refine hs.mono λb hb=>?_;obtain⟨u,hu,rfl⟩:=jH hb;exact List.mem_map.2 ⟨u,eY.2 ⟨hu,Int.le_of_lt (h.head.1 u (h.sub u hu))⟩,rfl⟩
 .refine h.uN v (hv.elim (λhv=>?_) λhv=>.inr (List.mem_cons_of_mem _ hv));exact (ru hv).imp id λhv=>List.mem_cons.2 (.inl (lV hv))
theorem QV.keep {V K Q:List (List Int)}(h:QV m V K (w::Q)):QV m (V++[w]) (K++[w]) (Q++dD m.k w):=by
 have hd:=h.head;refine⟨λu hu=>?_,?_,λu hu s hs'=>?_,λv hv=>?_,?_,λq hq=>?_,λv hv=>?_⟩
 .exact (ru hu).elim (λhu=>List.mem_append.2 (.inl (h.sub u hu))) λhu=>List.mem_append.2 (.inr hu)
 .rcases h.root with h1|h1
  .exact .inl (List.mem_append.2 (.inl h1))
  .rcases List.mem_cons.1 h1 with h1|h1
   .exact .inl (List.mem_append.2 (.inr (List.mem_singleton.2 h1)))
   .exact .inr (List.mem_append.2 (.inl h1))
 .rcases ru hu with hu|hu
  .rcases h.kids u hu s hs' with h1|h1
   .exact .inl (List.mem_append.2 (.inl h1))
   .rcases List.mem_cons.1 h1 with h1|h1
    .exact .inl (List.mem_append.2 (.inr (List.mem_singleton.2 h1)))
    .exact .inr (List.mem_append.2 (.inl h1))
  .rw[lV hu];exact .inr (List.mem_append.2 (.inr (CO.2 ⟨s,hs',rfl⟩)))
 .rcases ru hv with hv|hv
  .exact (h.span v hv).mono λb hb=>by
    obtain⟨u,hu,rfl⟩:=jH hb;exact List.mem_map.2 ⟨u,QW hu,rfl⟩
  .rw[lV hv];exact .mem (List.mem_map.2 ⟨w,eY.2 ⟨List.mem_append.2 (.inr (List.mem_singleton.2 rfl)),by rw[Fv];exact Int.le_refl _⟩,rfl⟩)
 .rw[show (V++[w])++(Q++dD m.k w)=(V++w::Q)++dD m.k w by simp]
  refine List.pairwise_append.2 ⟨h.ord,ax2 m.k w,λa ha b hb=>?_⟩;obtain⟨s,_,rfl⟩:=CO.1 hb;have hwb:qN w (w++[((s+1:Nat):Int)])<0:=Gv (by rw[jd,kC];omega)
  rcases ru ha with ha|ha
  .exact En (hd.1 a ha) (Int.le_of_lt hwb)
  .rcases List.mem_cons.1 ha with rfl|ha
   .exact hwb
   .rcases h.par a (List.mem_cons_of_mem _ ha) with rfl|⟨u,hu,t,_,rfl⟩
    .exact Gv (by rw[jd,kC];show 0<_;omega)
    .exact LV (hd.1 u (h.sub u hu))
 .rcases ru hq with hq|hq
  .exact (h.par q (List.mem_cons_of_mem _ hq)).imp id λ⟨u,hu,r⟩=>⟨u,List.mem_append.2 (.inl hu),r⟩
  .obtain⟨s,hs',rfl⟩:=CO.1 hq;exact .inr ⟨w,List.mem_append.2 (.inr (List.mem_singleton.2 rfl)),s,hs',rfl⟩
 .have hw:=h.uN w (.inr rY);rcases hv with hv|hv
  .rcases ru hv with hv|hv
   .exact h.uN v (.inl hv)
   .rw[lV hv];exact hw
  .rcases ru hv with hv|hv
   .exact h.uN v (.inr (List.mem_cons_of_mem _ hv))
   .obtain⟨s,hs',rfl⟩:=CO.1 hv;intro x hx;rcases ru hx with hx|hx
    .exact hw x hx
    .rw[lV hx];omega
def Fz (m:bQ)(K:List (List Int)):Prop:=∀ u,u ∈ K->kU m u=0
theorem QV.zero {V K Q:List (List Int)}(h:QV m V K Q)(hz:Fz m K)(hw:iy m.k w)(hq:∀ q,q ∈ Q->qN w q<0):kU m w=0:=by
 refine (h.reach w hw hq).kill (L:=λu _=>mZ m.n u (vf m.fin)) (Fq m.n (vf m.fin)) λb hb=>?_;obtain⟨u,hu,rfl⟩:=jH hb;exact hz u (eY.1 hu).1
structure yZ (m:bQ) (w:List Int):Prop where
 uN:iy m.k w
 nz:kU m w≠0
 before:∀ u,iy m.k u->qN u w<0->kU m u=0
theorem yZ.unique {v:List Int}(h:yZ m w)(k:yZ m v):w=v:=by
 refine Jq (Decidable.byContradiction λhne=>?_);have:=Gt w v;rcases Int.lt_or_gt_of_ne hne with h1|h1
 .exact h.nz (k.before w h.uN h1)
 .exact k.nz (h.before v k.uN (by omega))
theorem QV.first {V K Q:List (List Int)}(h:QV m V K (w::Q))(hz:Fz m K)(hn:kU m w≠0):yZ m w :=
 ⟨h.uN w (.inr rY),hn,λu hu hl=>h.zero hz hu λq hq=>by
  rcases List.mem_cons.1 hq with rfl|hq
  .exact hl
  .exact En hl (Int.le_of_lt (h.head.2 q hq))⟩
theorem QV.none {V K:List (List Int)}(h:QV m V K [])(hz:Fz m K)(w:List Int)(hw:iy m.k w):kU m w=0:=h.zero hz hw λq hq=>by cases hq
end
def eU (w:List Rat):Nat:=w.findIdx λx=>decide (x≠0)
def Ii (t:List Rat)(f:Rat)(c:List Rat):List Rat:=(List.range t.length).map λi=>t.getD i 0+f*c.getD i 0
def sZ:List dh->List Rat->List Rat->List Rat
 | [],_,t=>t
 | r::rs,w,t=>sZ rs (jr w r) (Ii t (kz w r) r.c)
def jU (rs:List dh)(w:List Rat):List Rat:=sZ rs w (List.replicate rs.length 0)
def Nh (rs:List dh)(w:List Rat):List Rat:=(jU rs w).map (λx=>-x)++[1]
def newR (rs:List dh)(w:List Rat):dh:=⟨bC rs w,Nh rs w,eU (bC rs w)⟩
def bW (rs:List dh)(w:List Rat):Bool:=decide (eU (bC rs w)<(bC rs w).length)
def tq (rs:List dh)(w:List Rat):List dh:=if bW rs w=true then rs++[newR rs w] else rs
section
variable {n:Nat}{rs:List dh}{w:List Rat}
theorem Kw (w:List Rat):eU w<=w.length:=List.findIdx_le_length
theorem vH (h:eU w<w.length):w.getD (eU w) 0≠0:=by
 have:=List.findIdx_getElem (w:=h);rw[iO,lF h,Option.getD_some];exact mX this
theorem uy {i:Nat}(h:i<eU w):w.getD i 0=0:=by
 have hl:=Nat.lt_of_lt_of_le h (Kw w);have:=List.not_of_lt_findIdx h;rw[iO,lF hl,Option.getD_some];simpa using this
theorem OA:eU w=w.length ↔ bn2 w:=by
 constructor
 .intro h i hi;exact uy (by omega)
 .intro h;have:=Kw w;rcases Nat.lt_or_ge (eU w) w.length with h1|h1
  .exact absurd (h _ h1) (vH h1)
  .omega
theorem zh (e:MI n rs)(hw:w.length=n):bW rs w=false ↔ cZ n (pz rs) (vf w):=by
 rw[<- aO2 e hw,<- OA];have:=Kw (bC rs w);unfold bW;rw[decide_eq_false_iff_not];omega
theorem Vy (t:List Rat)(f:Rat)(c:List Rat):(Ii t f c).length=t.length:=by simp[Ii]
theorem OB:∀ (rs:List dh) (w t:List Rat),(sZ rs w t).length=t.length
 | [],_,_=>rfl
 | r::rs,w,t=>by rw[sZ,OB rs,Vy]
theorem Ae (rs:List dh)(w:List Rat):(jU rs w).length=rs.length:=by rw[jU,OB,List.length_replicate]
theorem TP (rs:List dh)(w:List Rat):(Nh rs w).length=rs.length+1:=by rw[Nh,jd,dL,Ae];rfl
end
structure Join (m:bQ) (V K Q:List (List Int)) (rs:List dh):Prop where
 EO:QV m V K Q
 ech:MI m.n rs
 len:rs.length=K.length
 rows:∀ r,r ∈ rs->cZ m.n (xk m K) (vf r.v)
 kept:∀ u,u ∈ K->cZ m.n (pz rs) (vf (aZ m u))
section
variable {m:bQ}{V K Q:List (List Int)}{rs:List dh}{w:List Int}
theorem Join.start (m:bQ):Join m [] [] [[]] [] :=
 ⟨QV.start m,⟨λ_ h=>(by cases h),List.Pairwise.nil⟩,rfl,λ_ h=>(by cases h),λ_ h=>(by cases h)⟩
theorem Join.drop (ok:m.Ok)(j:Join m V K (w::Q) rs)(h:bW rs (aZ m w)=false):Join m (V++[w]) K Q rs :=
 ⟨j.EO.drop (((zh j.ech (lu ok w)).1 h).trans λb hb=>by
  obtain⟨r,hr,rfl⟩:=jH hb;exact j.rows r hr),j.ech,j.len,j.rows,j.kept⟩
theorem Ky (rs:List dh)(r:dh):pz (rs++[r])=pz rs++[r.v]:=by simp[pz]
theorem Join.keep (ok:m.Ok)(j:Join m V K (w::Q) rs)(h:bW rs (aZ m w)=true):Join m (V++[w]) (K++[w]) (Q++dD m.k w) (rs++[newR rs (aZ m w)]):=by
 have hl:=lu ok w;have hp:eU (bC rs (aZ m w))<(bC rs (aZ m w)).length:=mX h;have hs:=CG rs (aZ m w);rw[hl] at hs;refine⟨j.EO.keep,j.ech.grow hl _ (by rw[mD,hl] at hp;exact hp) (vH hp),?_,λr hr=>?_,λu hu=>?_⟩
 .rw[jd,jd,j.len];rfl
 .rcases ru hr with hr|hr
  .exact (j.rows r hr).mono λb hb=>by
    obtain⟨u,hu,rfl⟩:=jH hb;exact List.mem_map.2 ⟨u,List.mem_append.2 (.inl hu),rfl⟩
  .rw[lV hr];have h1:cZ m.n (xk m (K++[w])) (vf (aZ m w)):=.mem (List.mem_map.2 ⟨w,List.mem_append.2 (.inr (List.mem_singleton.2 rfl)),rfl⟩);have h2:=(hs.trans λb hb=>by
    obtain⟨r,hr,rfl⟩:=jH hb;exact (j.rows r hr).mono λb hb=>by
     obtain⟨u,hu,rfl⟩:=jH hb;exact List.mem_map.2 ⟨u,List.mem_append.2 (.inl hu),rfl⟩:cZ m.n (xk m (K++[w])) _)
   refine (h1.plus (h2.smul (-1))).congr λi _=>?_;show (bC rs (aZ m w)).getD i 0=(aZ m w).getD i 0 + -1*((aZ m w).getD i 0-(bC rs (aZ m w)).getD i 0)
   rw[Rat.neg_mul,Rat.one_mul,Rat.neg_sub,Rat.sub_eq_add_neg,Rat.add_comm ((aZ m w).getD i 0),Rat.add_assoc,Rat.neg_add_cancel,Rat.add_zero]
 .rw[Ky];rcases ru hu with hu|hu
  .exact (j.kept u hu).mono λb hb=>List.mem_append.2 (.inl hb)
  .rw[lV hu];have h1:=hs.mono (C:=pz rs++[bC rs (aZ m w)]) λb hb=>List.mem_append.2 (.inl hb);have h2:cZ m.n (pz rs++[bC rs (aZ m w)]) (vf (bC rs (aZ m w))):=.mem (List.mem_append.2 (.inr (List.mem_singleton.2 rfl)));refine (h1.plus h2).congr λi _=>?_;show (aZ m w).getD i 0=(aZ m w).getD i 0-(bC rs (aZ m w)).getD i 0+(bC rs (aZ m w)).getD i 0
   rw[Rat.sub_add_cancel]
theorem Join.le (j:Join m V K Q rs):rs.length<=m.n:=j.ech.len
def jM (m:bQ)(Q:List (List Int))(rs:List dh):Nat:=Q.length+(m.k+1)*(m.n-rs.length)
theorem CP (ok:m.Ok)(j:Join m V K (w::Q) rs)(h:bW rs (aZ m w)=true):jM m (Q++dD m.k w) (rs++[newR rs (aZ m w)])<jM m (w::Q) rs:=by
 have h1:=(j.keep ok h).le;rw[jd,kC] at h1;unfold jM;rw[show (Q++dD m.k w).length=Q.length+(dD m.k w).length from jd,show (rs++[newR rs (aZ m w)]).length=rs.length+1 by simp,show (w::Q).length=Q.length+1 from rfl,show (dD m.k w).length=m.k by simp[dD]]
 obtain⟨d,hd⟩:∃ d,m.n-rs.length=d+1:=⟨m.n-rs.length-1,by omega⟩
 rw[hd,show m.n-(rs.length+1)=d by omega,Nat.mul_succ]
 omega
theorem vI:jM m Q rs<jM m (w::Q) rs:=by
 unfold jM;rw[List.length_cons];omega
end
structure bM where
 f:Nat
 l:Nat
 t:Nat
 q:Rat
instance:Inhabited bM:=⟨⟨0,0,0,0⟩⟩
structure Au where
 sym:Nat
 st:Nat
 ini:List Rat
 fin:List Rat
 aB:List bM
instance:Inhabited Au:=⟨⟨0,0,[],[],[]⟩⟩
structure Au.Ok (a:Au):Prop where
 H8:1<=a.sym
 ini:a.ini.length=a.st
 fin:a.fin.length=a.st
 arc:∀ x,x ∈ a.aB->x.f<a.st/\x.t<a.st/\1<=x.l/\x.l<=a.sym
def iH (l:List bM)(s i j:Nat):Rat:=mF (λx=>if x.f=i/\x.l=s+1/\x.t=j then x.q else 0) l
def aK (l:List Au):Nat:=(l.map (·.st)).sum
def mW:List Au->Nat->Nat->Nat->Rat
 | [],_,_,_=>0
 | a::r,s,i,j=>if i<a.st then (if j<a.st then iH a.aB s i j else 0) else (if j<a.st then 0 else mW r s (i-a.st) (j-a.st))
def EH (n:Nat)(f:Nat->Nat->Rat):List (List Rat):=(List.range n).map λi=>(List.range n).map λj=>f i j
def Qc:List Au->List Rat
 | []=>[]
 | a::r=>a.fin++r.flatMap λb=>b.fin.map λx=>-x
def ah (l:List Au):bQ:=⟨aK l,l.flatMap (·.ini),Qc l,(List.range (l.getD 0 default).sym).map λs=>EH (aK l) (mW l s)⟩
section
variable {a b:Au}{l:List Au}{s i j n:Nat}
theorem Nj {f:Nat->Nat->Rat}(hi:i<n)(hj:j<n):((EH n f).getD i []).getD j 0=f i j:=by
 unfold EH;rw[aO _ _ hi,aO _ _ hj]
theorem wL:(ah l).k=(l.getD 0 default).sym:=by simp[bQ.k,ah]
theorem xq (hs:s<(l.getD 0 default).sym)(hi:i<aK l)(hj:j<aK l):iU (ah l) s i j=mW l s i j:=by
 unfold iU ah;rw[aO _ _ hs,Nj hi hj]
theorem dN:aK [a]=a.st:=by simp[aK]
theorem size_two:aK [a,b]=a.st+b.st:=by simp[aK]
theorem Vz (ha:a.Ok):(ah [a]).Ok:=⟨by simp[ah,aK,ha.ini],by simp[ah,Qc,aK,ha.fin]⟩
theorem VA (ha:a.Ok)(hb:b.Ok):(ah [a,b]).Ok:=⟨by simp[ah,aK,ha.ini,hb.ini],by simp[ah,Qc,aK,ha.fin,hb.fin]⟩
theorem CQ (f:Nat->Rat)(n:Nat):∀ m,aW f (n+m)=aW f n+aW (λi=>f (n+i)) m
 | 0=>by rw[Nat.add_zero,aW,Rat.add_zero]
 | m+1=>by rw[<- Nat.add_assoc,aW,CQ f n m,aW,Rat.add_assoc]
theorem ZT (ha:a.Ok)(hb:b.Ok)(hs:a.sym=b.sym)(w:List Int)(hw:iy a.sym w) :
  (∀ i,i<a.st->(aZ (ah [a,b]) w).getD i 0=(aZ (ah [a]) w).getD i 0)/\∀ i,i<b.st->(aZ (ah [a,b]) w).getD (a.st+i) 0=(aZ (ah [b]) w).getD i 0:=by
 induction hn:w.length generalizing w with
 | zero =>
  have e:=EQ hn;subst e;constructor
  .intro i hi;show (a.ini++(b.ini++[])).getD i 0=(a.ini++[]).getD i 0
   rw[List.append_nil,List.append_nil,iO,List.getElem?_append_left (by rw[ha.ini];exact hi),<- iO]
  .intro i hi;show (a.ini++(b.ini++[])).getD (a.st+i) 0=(b.ini++[]).getD i 0
   rw[List.append_nil,iO,List.getElem?_append_right (by rw[ha.ini];omega),ha.ini,Nat.add_sub_cancel_left,<- iO]
 | succ n ih =>
  have hne:w≠[]:=λe=>by subst e;cases hn
  obtain⟨y,x,rfl⟩:∃ y x,w=y++[x]:=⟨w.dropLast,w.getLast hne,(List.dropLast_concat_getLast hne).symm⟩;have hx:=hw x (by simp)
  obtain⟨h1,h2⟩:=ih y (λz hz=>hw z (List.mem_append.2 (.inl hz))) (by rw[jd,kC] at hn;omega)
  have hsa:x.toNat-1<a.sym:=by omega
  have e1:∀ i j,i<a.st+b.st->j<a.st+b.st->iU (ah [a,b]) (x.toNat-1) i j=mW [a,b] (x.toNat-1) i j:=λi j hi hj=>xq (l:=[a,b]) hsa (by rw[size_two];exact hi) (by rw[size_two];exact hj)
  have e2:∀ i j,i<a.st->j<a.st->iU (ah [a]) (x.toNat-1) i j=mW [a] (x.toNat-1) i j:=λi j hi hj=>xq (l:=[a]) hsa (by rw[dN];exact hi) (by rw[dN];exact hj)
  have e3:∀ i j,i<b.st->j<b.st->iU (ah [b]) (x.toNat-1) i j=mW [b] (x.toNat-1) i j:=λi j hi hj=>xq (l:=[b]) (by show _<b.sym;omega) (by rw[dN];exact hi) (by rw[dN];exact hj)
  constructor
  .intro i hi;rw[iq,iq,pK (by show i<aK [a,b];rw[size_two];omega),pK (by show i<aK [a];rw[dN];exact hi),show (ah [a,b]).n=a.st+b.st from size_two,show (ah [a]).n=a.st from dN,CQ,jk (n:=b.st),Rat.add_zero]
   .refine aF λk hk=>?_;rw[h1 k hk,e1 k i (by omega) (by omega),e2 k i hk hi]
    simp only[mW,if_pos hk,if_pos hi]
   .intro k hk;rw[e1 _ i (by omega) (by omega)]
    simp only[mW,if_neg (show ¬ a.st+k<a.st by omega),if_pos hi,Rat.mul_zero]
  .intro i hi;rw[iq,iq,pK (by show a.st+i<aK [a,b];rw[size_two];omega),pK (by show i<aK [b];rw[dN];exact hi),show (ah [a,b]).n=a.st+b.st from size_two,show (ah [b]).n=b.st from dN,CQ,jk (n:=a.st),Rat.zero_add]
   .refine aF λk hk=>?_;rw[h2 k hk,e1 _ _ (by omega) (by omega),e3 k i hk hi]
    simp only[mW,if_neg (show ¬ a.st+k<a.st by omega),if_neg (show ¬ a.st+i<a.st by omega),if_pos hk,if_pos hi,Nat.add_sub_cancel_left]
   .intro k hk;rw[e1 _ _ (by omega) (by omega)]
    simp only[mW,if_pos hk,if_neg (show ¬ a.st+i<a.st by omega),Rat.mul_zero]
def kQ (a:Au)(w:List Int):Rat:=kU (ah [a]) w
theorem TQ (ha:a.Ok)(hb:b.Ok)(hs:a.sym=b.sym){w:List Int}(hw:iy a.sym w):kU (ah [a,b]) w=kQ a w-kQ b w:=by
 obtain⟨h1,h2⟩:=ZT ha hb hs w hw;unfold kQ kU mZ;rw[show (ah [a,b]).n=a.st+b.st from size_two,show (ah [a]).n=a.st from dN,show (ah [b]).n=b.st from dN,CQ,Rat.sub_eq_add_neg]
 have f1:∀ i,i<a.st->vf (ah [a,b]).fin i=vf (ah [a]).fin i:=λi hi=>by
  show (a.fin++_).getD i 0=(a.fin++[]).getD i 0
  rw[List.append_nil,iO,List.getElem?_append_left (by rw[ha.fin];exact hi),<- iO]
 have f2:∀ i,i<b.st->vf (ah [a,b]).fin (a.st+i) = -(vf (ah [b]).fin i):=λi hi=>by
  show (a.fin++(b.fin.map (λx=>-x)++[])).getD (a.st+i) 0 = -((b.fin++[]).getD i 0)
  rw[List.append_nil,List.append_nil,iO,List.getElem?_append_right (by rw[ha.fin];omega),ha.fin,Nat.add_sub_cancel_left,List.getElem?_map,iO,lF (by rw[hb.fin];exact hi)]
  rfl
 congr 1
 .exact aF λi hi=>by rw[show vf (aZ (ah [a,b]) w) i=vf (aZ (ah [a]) w) i from h1 i hi,f1 i hi]
 .rw[show -aW (λi=>vf (aZ (ah [b]) w) i*vf (ah [b]).fin i) b.st=aW (λi=>-1*(vf (aZ (ah [b]) w) i*vf (ah [b]).fin i)) b.st by rw[ig,Rat.neg_mul,Rat.one_mul]]
  refine aF λi hi=>?_;rw[show vf (aZ (ah [a,b]) w) (a.st+i)=vf (aZ (ah [b]) w) i from h2 i hi,f2 i hi,Rat.mul_neg,Rat.neg_mul,Rat.one_mul]
