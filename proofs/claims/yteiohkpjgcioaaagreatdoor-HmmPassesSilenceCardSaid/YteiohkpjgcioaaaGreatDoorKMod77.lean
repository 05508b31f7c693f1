/-
  M, chapter 23: what the search answers, and the rank of a series.
-/
import Derived.Test.YteiohkpjgcioaaaGreatDoorKMod37c
set_option linter.unusedVariables false
set_option linter.unusedSimpArgs false
namespace Go.AL
open Go Go.BigFrame
structure pz where
 n:Nat
 ini:List Rat
 fin:List Rat
 ac0:List (List (List Rat))
def pz.k (m:pz):Nat:=m.ac0.length
def SI (m:pz)(s i j:Nat):Rat:=((m.ac0.getD s []).getD i []).getD j 0
def stepM (m:pz)(v:List Rat)(s:Nat):List Rat:=(List.range m.n).map λj=>dw (λi=>v.getD i 0*SI m s i j) m.n
def iq (m:pz)(w:List Int):List Rat:=w.foldl (λv x=>stepM m v (x.toNat-1)) m.ini
def XF (n:Nat)(u v:Nat->Rat):Rat:=dw (λi=>u i*v i) n
def U8 (m:pz)(w:List Int):Rat:=XF m.n (vf (iq m w)) (vf m.fin)
structure pz.Ok (m:pz):Prop where
 ini:m.ini.length=m.n
 fin:m.fin.length=m.n
def Bv (a b:List Int):Int:=if a.length≠b.length then (if a.length<b.length then -1 else 1) else cmpL a b
def G6 (k:Nat)(w:List Int):Prop:=∀ x,x ∈ w->1<=x/\x<=(k:Int)
def oV (k:Nat)(w:List Int):List (List Int):=(List.range k).map λs=>w++[((s+1:Nat):Int)]
section
variable {m:pz}{w u:List Int}{a b c:List Int}
theorem Ku (m:pz)(v:List Rat)(s:Nat):(stepM m v s).length=m.n:=by simp[stepM]
theorem CJ (x:Int):iq m (w++[x])=stepM m (iq m w) (x.toNat-1):=by unfold iq;rw[List.foldl_append];rfl
theorem Ak (h:m.Ok)(w:List Int):(iq m w).length=m.n:=by
 rcases List.eq_nil_or_concat w with rfl|⟨w,x,rfl⟩
 .exact h.ini
 .rw[List.concat_eq_append,CJ,Ku]
theorem ac1 (m:pz)(s:Nat):aE1 m.n m.n λu j=>dw (λi=>u i*SI m s i j) m.n :=
 ⟨λu v h j _=>dZ λi hi=>by rw[h i hi],λu v c j _=>by
  rw[<- Gq,<- CG];exact dZ λi _=>by rw[Rat.add_mul,Rat.mul_assoc],λj _=>oU λi _=>Rat.zero_mul _⟩
theorem U9 (n:Nat)(f:Nat->Rat):aE1 n 1 λu _=>XF n u f :=
 ⟨λu v h _ _=>dZ λi hi=>by rw[h i hi],λu v c _ _=>by
  unfold XF;rw[<- Gq,<- CG];exact dZ λi _=>by rw[Rat.add_mul,Rat.mul_assoc],λ_ _=>oU λi _=>Rat.zero_mul _⟩
theorem Fp {v:List Rat}{s j:Nat}(hj:j<m.n):(stepM m v s).getD j 0=dw (λi=>v.getD i 0*SI m s i j) m.n:=dM _ _ hj
theorem Va (a:List Int):Bv a a=0:=by unfold Bv;rw[if_neg (by omega),Kt]
theorem SN (a b:List Int):Bv b a = -Bv a b:=by
 unfold Bv;by_cases h:a.length=b.length
 .rw[if_neg (show ¬ b.length≠a.length by omega),if_neg (show ¬ a.length≠b.length by omega)];exact U7 a b
 .rw[if_pos (show b.length≠a.length by omega),if_pos (show a.length≠b.length by omega)]
  by_cases h1:a.length<b.length
  .rw[if_pos h1,if_neg (show ¬ b.length<a.length by omega)];rfl
  .rw[if_neg h1,if_pos (show b.length<a.length by omega)]
theorem Vb (h:Bv a b=0):a=b:=by
 unfold Bv at h
 split at h
 .split at h <;> cases h
 .exact Qw h
theorem Qx (h:Bv a b<=0)(k:Bv b c<=0):Bv a c<=0:=by
 unfold Bv at *;by_cases h1:a.length=b.length
 .by_cases h2:b.length=c.length
  .rw[if_neg (by omega)] at h k ⊢
   exact N8 h k
  .rw[if_pos (by omega)] at k ⊢
   split at k
   .rw[if_pos (by omega)];decide
   .exact absurd k (by decide)
 .rw[if_pos (by omega)] at h
  split at h
  .by_cases h2:b.length=c.length
   .rw[if_pos (by omega),if_pos (by omega)];decide
   .rw[if_pos (by omega)] at k
    split at k
    .rw[if_pos (by omega),if_pos (by omega)];decide
    .exact absurd k (by decide)
  .exact absurd h (by decide)
theorem Eb (h:Bv a b<0)(k:Bv b c<=0):Bv a c<0:=by
 have h1:=Qx (Int.le_of_lt h) k;have h2:Bv a c≠0:=λe=>by
  have:=Vb e;subst this;have:=SN a b;omega
 omega
theorem Y5 (h:Bv a b<=0):a.length<=b.length:=by
 unfold Bv at h
 split at h
 .split at h
  .omega
  .exact absurd h (by decide)
 .omega
theorem Kv (h:a.length<b.length):Bv a b<0:=by
 unfold Bv;rw[if_pos (by omega),if_pos h];decide
theorem Vd {x:Int}(h:Bv a b<=0):Bv (a++[x]) (b++[x])<=0:=by
 have hl:=Y5 h;unfold Bv at *;rw[jT,jT];by_cases h1:a.length=b.length
 .rw[if_neg (by omega)] at h ⊢
  rw[N9 h1];exact h
 .rw[if_pos (by omega),if_pos (by simp only[nN];omega)];decide
theorem Ve {x y:Int}(h:Bv a b<0):Bv (a++[x]) (b++[y])<0:=by
 have hl:=Y5 (Int.le_of_lt h);unfold Bv at *;rw[jT,jT];by_cases h1:a.length=b.length
 .rw[if_neg (by omega)] at h
  rw[if_neg (by simp only[nN];omega),Gs h1,if_neg (by omega)];exact h
 .rw[if_pos (by simp only[nN];omega),if_pos (by simp only[nN];omega)];decide
theorem ao8 (k:Nat)(w:List Int):(oV k w).Pairwise λa b=>Bv a b<0:=by
 unfold oV;refine List.pairwise_map.2 (List.pairwise_lt_range.imp λ{a b} h=>?_);unfold Bv;rw[if_neg (by simp),Gs rfl,if_pos (Kt w),if_pos (by omega)];decide
theorem CO {k:Nat}:a ∈ oV k w ↔ ∃ s,s<k/\a=w++[((s+1:Nat):Int)]:=by
 unfold oV;rw[List.mem_map];exact⟨λ⟨s,h,e⟩=>⟨s,List.mem_range.1 h,e.symm⟩,λ⟨s,h,e⟩=>⟨s,List.mem_range.2 h,e.symm⟩⟩
def XG (m:pz)(K:List (List Int)):List (List Rat):=K.map (iq m)
def upTo (K:List (List Int))(v:List Int):List (List Int):=K.filter λu=>decide (Bv u v<=0)
theorem wE {K:List (List Int)}{v:List Int}:u ∈ upTo K v ↔ u ∈ K/\Bv u v<=0:=by
 unfold upTo;rw[List.mem_filter,decide_eq_true_eq]
structure Qy (m:pz) (V K Q:List (List Int)):Prop where
 sub:∀ u,u ∈ K->u ∈ V
 root:[] ∈ V \/ [] ∈ Q
 kids:∀ u,u ∈ K->∀ s,s<m.k->u++[((s+1:Nat):Int)] ∈ V \/ u++[((s+1:Nat):Int)] ∈ Q
 span:∀ v,v ∈ V->fP m.n (XG m (upTo K v)) (vf (iq m v))
 ord:(V++Q).Pairwise λa b=>Bv a b<0
 par:∀ q,q ∈ Q->q=[] \/ ∃ u,u ∈ K/\∃ s,s<m.k/\q=u++[((s+1:Nat):Int)]
 inW:∀ v,v ∈ V \/ v ∈ Q->G6 m.k v
theorem Qy.start (m:pz):Qy m [] [] [[]] :=
 ⟨λ_ h=>(by cases h),.inr (List.mem_singleton.2 rfl),λ_ h=>(by cases h),λ_ h=>(by cases h),List.pairwise_singleton ..,λq h=>.inl (qm h),λv h x hx=>by
  rcases h with h|h
  .cases h
  .rw[qm h] at hx;cases hx⟩
theorem Qy.reach {V K Q:List (List Int)}(h:Qy m V K Q):∀ (w:List Int),G6 m.k w->(∀ q,q ∈ Q->Bv w q<0)->fP m.n (XG m (upTo K w)) (vf (iq m w)):=by
 intro w
 induction hl:w.length generalizing w with
 | zero =>
  intro _ hq;have e:=KZ hl;subst e;rcases h.root with h1|h1
  .exact h.span _ h1
  .have:=hq _ h1;rw[Va] at this;exact absurd this (by decide)
 | succ n ih =>
  intro hw hq;have hne:w≠[]:=λe=>by subst e;cases hl
  obtain⟨y,x,rfl⟩:∃ y x,w=y++[x]:=⟨w.dropLast,w.getLast hne,(List.dropLast_concat_getLast hne).symm⟩;have hx:=hw x (by simp)
  have hy:G6 m.k y:=λz hz=>hw z (List.mem_append.2 (.inl hz));have hyl:y.length=n:=by rw[jT,nN] at hl;omega
  have hyx:Bv y (y++[x])<0:=Kv (by rw[jT,nN];omega)
  have hs:=ih y hyl hy λq hq'=>Eb hyx (Int.le_of_lt (hq q hq'));rw[CJ];have hmap:=fP.map (ac1 m (x.toNat-1)) hs (C:=XG m (upTo K (y++[x]))) λb hb=>by
   obtain⟨u,hu,rfl⟩:=Az hb;obtain⟨hu1,hu2⟩:=wE.1 hu;have hux:u++[x] ∈ V:=by
    have:=h.kids u hu1 (x.toNat-1) (by omega)
    rw[show ((x.toNat-1+1:Nat):Int)=x by omega] at this
    refine this.resolve_right λk=>?_;have a:=hq _ k;have b:=Vd (x:=x) hu2;have c:=SN (u++[x]) (y++[x]);omega
   have hsp:=h.span _ hux;rw[CJ] at hsp;refine (hsp.congr (v:=λj=>dw (λi=>vf (iq m u) i*SI m (x.toNat-1) i j) m.n) λj hj=>(Fp hj).symm).mono λb hb=>?_;obtain⟨z,hz,rfl⟩:=Az hb;obtain⟨hz1,hz2⟩:=wE.1 hz;exact List.mem_map.2 ⟨z,wE.2 ⟨hz1,Qx hz2 (Vd hu2)⟩,rfl⟩
  exact hmap.congr λj hj=>Fp hj
theorem ac2 {K:List (List Int)}{v x:List Int}(hu:u ∈ upTo K v):u ∈ upTo (K++[x]) v :=
 wE.2 ⟨List.mem_append.2 (.inl (wE.1 hu).1),(wE.1 hu).2⟩
theorem Qy.head {V K Q:List (List Int)}(h:Qy m V K (w::Q)):(∀ v,v ∈ V->Bv v w<0)/\(∀ q,q ∈ Q->Bv w q<0):=by
 obtain⟨_,h2,h3⟩:=List.pairwise_append.1 h.ord;exact⟨λv hv=>h3 v hv w yD,(List.pairwise_cons.1 h2).1⟩
theorem Qy.drop {V K Q:List (List Int)}(h:Qy m V K (w::Q))(hs:fP m.n (XG m K) (vf (iq m w))):Qy m (V++[w]) K Q:=by
 have e:V++w::Q=(V++[w])++Q:=by simp
 refine⟨λu hu=>List.mem_append.2 (.inl (h.sub u hu)),?_,λu hu s hs'=>?_,λv hv=>?_,by rw[<- e];exact h.ord,λq hq=>h.par q (List.mem_cons_of_mem _ hq),λv hv=>?_⟩
 .rcases h.root with h1|h1
  .exact .inl (List.mem_append.2 (.inl h1))
  .rcases List.mem_cons.1 h1 with h1|h1
   .exact .inl (List.mem_append.2 (.inr (List.mem_singleton.2 h1)))
   .exact .inr h1
 .rcases h.kids u hu s hs' with h1|h1
  .exact .inl (List.mem_append.2 (.inl h1))
  .rcases List.mem_cons.1 h1 with h1|h1
   .exact .inl (List.mem_append.2 (.inr (List.mem_singleton.2 h1)))
   .exact .inr h1
 .rcases BO hv with hv|hv
  .exact h.span v hv
  .rw[qm hv];refine hs.mono λb hb=>?_;obtain⟨u,hu,rfl⟩:=Az hb;exact List.mem_map.2 ⟨u,wE.2 ⟨hu,Int.le_of_lt (h.head.1 u (h.sub u hu))⟩,rfl⟩
 .refine h.inW v (hv.elim (λhv=>?_) λhv=>.inr (List.mem_cons_of_mem _ hv));exact (BO hv).imp id λhv=>List.mem_cons.2 (.inl (qm hv))
theorem Qy.keep {V K Q:List (List Int)}(h:Qy m V K (w::Q)):Qy m (V++[w]) (K++[w]) (Q++oV m.k w):=by
 have hd:=h.head;refine⟨λu hu=>?_,?_,λu hu s hs'=>?_,λv hv=>?_,?_,λq hq=>?_,λv hv=>?_⟩
 .exact (BO hu).elim (λhu=>List.mem_append.2 (.inl (h.sub u hu))) λhu=>List.mem_append.2 (.inr hu)
 .rcases h.root with h1|h1
  .exact .inl (List.mem_append.2 (.inl h1))
  .rcases List.mem_cons.1 h1 with h1|h1
   .exact .inl (List.mem_append.2 (.inr (List.mem_singleton.2 h1)))
   .exact .inr (List.mem_append.2 (.inl h1))
 .rcases BO hu with hu|hu
  .rcases h.kids u hu s hs' with h1|h1
   .exact .inl (List.mem_append.2 (.inl h1))
   .rcases List.mem_cons.1 h1 with h1|h1
    .exact .inl (List.mem_append.2 (.inr (List.mem_singleton.2 h1)))
    .exact .inr (List.mem_append.2 (.inl h1))
  .rw[qm hu];exact .inr (List.mem_append.2 (.inr (CO.2 ⟨s,hs',rfl⟩)))
 .rcases BO hv with hv|hv
  .exact (h.span v hv).mono λb hb=>by
    obtain⟨u,hu,rfl⟩:=Az hb;exact List.mem_map.2 ⟨u,ac2 hu,rfl⟩
  .rw[qm hv];exact .mem (List.mem_map.2 ⟨w,wE.2 ⟨List.mem_append.2 (.inr (List.mem_singleton.2 rfl)),by rw[Va];exact Int.le_refl _⟩,rfl⟩)
 .rw[show (V++[w])++(Q++oV m.k w)=(V++w::Q)++oV m.k w by simp]
  refine List.pairwise_append.2 ⟨h.ord,ao8 m.k w,λa ha b hb=>?_⟩;obtain⟨s,_,rfl⟩:=CO.1 hb;have hwb:Bv w (w++[((s+1:Nat):Int)])<0:=Kv (by rw[jT,nN];omega)
  rcases BO ha with ha|ha
  .exact Eb (hd.1 a ha) (Int.le_of_lt hwb)
  .rcases List.mem_cons.1 ha with rfl|ha
   .exact hwb
   .rcases h.par a (List.mem_cons_of_mem _ ha) with rfl|⟨u,hu,t,_,rfl⟩
    .exact Kv (by rw[jT,nN];show 0<_;omega)
    .exact Ve (hd.1 u (h.sub u hu))
 .rcases BO hq with hq|hq
  .exact (h.par q (List.mem_cons_of_mem _ hq)).imp id λ⟨u,hu,r⟩=>⟨u,List.mem_append.2 (.inl hu),r⟩
  .obtain⟨s,hs',rfl⟩:=CO.1 hq;exact .inr ⟨w,List.mem_append.2 (.inr (List.mem_singleton.2 rfl)),s,hs',rfl⟩
 .have hw:=h.inW w (.inr yD);rcases hv with hv|hv
  .rcases BO hv with hv|hv
   .exact h.inW v (.inl hv)
   .rw[qm hv];exact hw
  .rcases BO hv with hv|hv
   .exact h.inW v (.inr (List.mem_cons_of_mem _ hv))
   .obtain⟨s,hs',rfl⟩:=CO.1 hv;intro x hx;rcases BO hx with hx|hx
    .exact hw x hx
    .rw[qm hx];omega
def Hy (m:pz)(K:List (List Int)):Prop:=∀ u,u ∈ K->U8 m u=0
theorem Qy.zero {V K Q:List (List Int)}(h:Qy m V K Q)(hz:Hy m K)(hw:G6 m.k w)(hq:∀ q,q ∈ Q->Bv w q<0):U8 m w=0:=by
 refine (h.reach w hw hq).kill (L:=λu _=>XF m.n u (vf m.fin)) (U9 m.n (vf m.fin)) λb hb=>?_;obtain⟨u,hu,rfl⟩:=Az hb;exact hz u (wE.1 hu).1
structure Ec (m:pz) (w:List Int):Prop where
 inW:G6 m.k w
 nz:U8 m w≠0
 before:∀ u,G6 m.k u->Bv u w<0->U8 m u=0
theorem Ec.unique {v:List Int}(h:Ec m w)(k:Ec m v):w=v:=by
 refine Vb (Decidable.byContradiction λhne=>?_);have:=SN w v;rcases Int.lt_or_gt_of_ne hne with h1|h1
 .exact h.nz (k.before w h.inW h1)
 .exact k.nz (h.before v k.inW (by omega))
theorem Qy.first {V K Q:List (List Int)}(h:Qy m V K (w::Q))(hz:Hy m K)(hn:U8 m w≠0):Ec m w :=
 ⟨h.inW w (.inr yD),hn,λu hu hl=>h.zero hz hu λq hq=>by
  rcases List.mem_cons.1 hq with rfl|hq
  .exact hl
  .exact Eb hl (Int.le_of_lt (h.head.2 q hq))⟩
theorem Qy.none {V K:List (List Int)}(h:Qy m V K [])(hz:Hy m K)(w:List Int)(hw:G6 m.k w):U8 m w=0:=h.zero hz hw λq hq=>by cases hq
end
def Am (w:List Rat):Nat:=w.findIdx λx=>decide (x≠0)
def ac3 (t:List Rat)(f:Rat)(c:List Rat):List Rat:=(List.range t.length).map λi=>t.getD i 0+f*c.getD i 0
def Oa:List kV->List Rat->List Rat->List Rat
 | [],_,t=>t
 | r::rs,w,t=>Oa rs (wC w r) (ac3 t (Fh w r) r.c)
def BK (rs:List kV)(w:List Rat):List Rat:=Oa rs w (List.replicate rs.length 0)
def byS (rs:List kV)(w:List Rat):List Rat:=(BK rs w).map (λx=>-x)++[1]
def newR (rs:List kV)(w:List Rat):kV:=⟨nK rs w,byS rs w,Am (nK rs w)⟩
def qE (rs:List kV)(w:List Rat):Bool:=decide (Am (nK rs w)<(nK rs w).length)
def Jo (rs:List kV)(w:List Rat):List kV:=if qE rs w=true then rs++[newR rs w] else rs
section
variable {n:Nat}{rs:List kV}{w:List Rat}
theorem Kw (w:List Rat):Am w<=w.length:=List.findIdx_le_length
theorem Ky (h:Am w<w.length):w.getD (Am w) 0≠0:=by
 have:=List.findIdx_getElem (w:=h);rw[iZ,sU h,Option.getD_some];exact jC this
theorem PN {i:Nat}(h:i<Am w):w.getD i 0=0:=by
 have hl:=Nat.lt_of_lt_of_le h (Kw w);have:=List.not_of_lt_findIdx h;rw[iZ,sU hl,Option.getD_some];simpa using this
theorem XH:Am w=w.length ↔ a08 w:=by
 constructor
 .intro h i hi;exact PN (by omega)
 .intro h;have:=Kw w;rcases Nat.lt_or_ge (Am w) w.length with h1|h1
  .exact absurd (h _ h1) (Ky h1)
  .omega
theorem Kz (e:Uc n rs)(hw:w.length=n):qE rs w=false ↔ fP n (Aj rs) (vf w):=by
 rw[<- aE2 e hw,<- XH];have:=Kw (nK rs w);unfold qE;rw[decide_eq_false_iff_not];omega
theorem ao9 (t:List Rat)(f:Rat)(c:List Rat):(ac3 t f c).length=t.length:=by simp[ac3]
theorem Vf:∀ (rs:List kV) (w t:List Rat),(Oa rs w t).length=t.length
 | [],_,_=>rfl
 | r::rs,w,t=>by rw[Oa,Vf rs,ao9]
theorem XI (rs:List kV)(w:List Rat):(BK rs w).length=rs.length:=by rw[BK,Vf,List.length_replicate]
theorem aE4 (rs:List kV)(w:List Rat):(byS rs w).length=rs.length+1:=by rw[byS,jT,dF,XI];rfl
end
structure Join (m:pz) (V K Q:List (List Int)) (rs:List kV):Prop where
 bfs:Qy m V K Q
 ech:Uc m.n rs
 len:rs.length=K.length
 rows:∀ r,r ∈ rs->fP m.n (XG m K) (vf r.v)
 kept:∀ u,u ∈ K->fP m.n (Aj rs) (vf (iq m u))
section
variable {m:pz}{V K Q:List (List Int)}{rs:List kV}{w:List Int}
theorem Join.start (m:pz):Join m [] [] [[]] [] :=
 ⟨Qy.start m,⟨λ_ h=>(by cases h),List.Pairwise.nil⟩,rfl,λ_ h=>(by cases h),λ_ h=>(by cases h)⟩
theorem Join.drop (ok:m.Ok)(j:Join m V K (w::Q) rs)(h:qE rs (iq m w)=false):Join m (V++[w]) K Q rs :=
 ⟨j.bfs.drop (((Kz j.ech (Ak ok w)).1 h).trans λb hb=>by
  obtain⟨r,hr,rfl⟩:=Az hb;exact j.rows r hr),j.ech,j.len,j.rows,j.kept⟩
theorem Qz (rs:List kV)(r:kV):Aj (rs++[r])=Aj rs++[r.v]:=by simp[Aj]
theorem Join.keep (ok:m.Ok)(j:Join m V K (w::Q) rs)(h:qE rs (iq m w)=true):Join m (V++[w]) (K++[w]) (Q++oV m.k w) (rs++[newR rs (iq m w)]):=by
 have hl:=Ak ok w;have hp:Am (nK rs (iq m w))<(nK rs (iq m w)).length:=jC h;have hs:=Gp rs (iq m w);rw[hl] at hs;refine⟨j.bfs.keep,j.ech.grow hl _ (by rw[CB,hl] at hp;exact hp) (Ky hp),?_,λr hr=>?_,λu hu=>?_⟩
 .rw[jT,jT,j.len];rfl
 .rcases BO hr with hr|hr
  .exact (j.rows r hr).mono λb hb=>by
    obtain⟨u,hu,rfl⟩:=Az hb;exact List.mem_map.2 ⟨u,List.mem_append.2 (.inl hu),rfl⟩
  .rw[qm hr];have h1:fP m.n (XG m (K++[w])) (vf (iq m w)):=.mem (List.mem_map.2 ⟨w,List.mem_append.2 (.inr (List.mem_singleton.2 rfl)),rfl⟩);have h2:=(hs.trans λb hb=>by
    obtain⟨r,hr,rfl⟩:=Az hb;exact (j.rows r hr).mono λb hb=>by
     obtain⟨u,hu,rfl⟩:=Az hb;exact List.mem_map.2 ⟨u,List.mem_append.2 (.inl hu),rfl⟩:fP m.n (XG m (K++[w])) _)
   refine (h1.plus (h2.smul (-1))).congr λi _=>?_;show (nK rs (iq m w)).getD i 0=(iq m w).getD i 0 + -1*((iq m w).getD i 0-(nK rs (iq m w)).getD i 0)
   rw[Rat.neg_mul,Rat.one_mul,Rat.neg_sub,Rat.sub_eq_add_neg,Rat.add_comm ((iq m w).getD i 0),Rat.add_assoc,Rat.neg_add_cancel,Rat.add_zero]
 .rw[Qz];rcases BO hu with hu|hu
  .exact (j.kept u hu).mono λb hb=>List.mem_append.2 (.inl hb)
  .rw[qm hu];have h1:=hs.mono (C:=Aj rs++[nK rs (iq m w)]) λb hb=>List.mem_append.2 (.inl hb);have h2:fP m.n (Aj rs++[nK rs (iq m w)]) (vf (nK rs (iq m w))):=.mem (List.mem_append.2 (.inr (List.mem_singleton.2 rfl)));refine (h1.plus h2).congr λi _=>?_;show (iq m w).getD i 0=(iq m w).getD i 0-(nK rs (iq m w)).getD i 0+(nK rs (iq m w)).getD i 0
   rw[Rat.sub_add_cancel]
theorem Join.le (j:Join m V K Q rs):rs.length<=m.n:=j.ech.len
def tY (m:pz)(Q:List (List Int))(rs:List kV):Nat:=Q.length+(m.k+1)*(m.n-rs.length)
theorem KA (ok:m.Ok)(j:Join m V K (w::Q) rs)(h:qE rs (iq m w)=true):tY m (Q++oV m.k w) (rs++[newR rs (iq m w)])<tY m (w::Q) rs:=by
 have h1:=(j.keep ok h).le;rw[jT,nN] at h1;unfold tY;rw[show (Q++oV m.k w).length=Q.length+(oV m.k w).length from jT,show (rs++[newR rs (iq m w)]).length=rs.length+1 by simp,show (w::Q).length=Q.length+1 from rfl,show (oV m.k w).length=m.k by simp[oV]]
 obtain⟨d,hd⟩:∃ d,m.n-rs.length=d+1:=⟨m.n-rs.length-1,by omega⟩
 rw[hd,show m.n-(rs.length+1)=d by omega,Nat.mul_succ]
 omega
theorem KC:tY m Q rs<tY m (w::Q) rs:=by
 unfold tY;rw[List.length_cons];omega
end
structure aT where
 f:Nat
 l:Nat
 t:Nat
 q:Rat
instance:Inhabited aT:=⟨⟨0,0,0,0⟩⟩
structure Au where
 sym:Nat
 st:Nat
 ini:List Rat
 fin:List Rat
 aX:List aT
instance:Inhabited Au:=⟨⟨0,0,[],[],[]⟩⟩
structure Au.Ok (a:Au):Prop where
 qR:1<=a.sym
 ini:a.ini.length=a.st
 fin:a.fin.length=a.st
 arc:∀ x,x ∈ a.aX->x.f<a.st/\x.t<a.st/\1<=x.l/\x.l<=a.sym
def gV (l:List aT)(s i j:Nat):Rat:=qC (λx=>if x.f=i/\x.l=s+1/\x.t=j then x.q else 0) l
def Hz (l:List Au):Nat:=(l.map (·.st)).sum
def Ob:List Au->Nat->Nat->Nat->Rat
 | [],_,_,_=>0
 | a::r,s,i,j=>if i<a.st then (if j<a.st then gV a.aX s i j else 0) else (if j<a.st then 0 else Ob r s (i-a.st) (j-a.st))
def mtx (n:Nat)(f:Nat->Nat->Rat):List (List Rat):=(List.range n).map λi=>(List.range n).map λj=>f i j
def aQ9:List Au->List Rat
 | []=>[]
 | a::r=>a.fin++r.flatMap λb=>b.fin.map λx=>-x
def iR (l:List Au):pz:=⟨Hz l,l.flatMap (·.ini),aQ9 l,(List.range (l.getD 0 default).sym).map λs=>mtx (Hz l) (Ob l s)⟩
section
variable {a b:Au}{l:List Au}{s i j n:Nat}
theorem aE5 {f:Nat->Nat->Rat}(hi:i<n)(hj:j<n):((mtx n f).getD i []).getD j 0=f i j:=by
 unfold mtx;rw[dM _ _ hi,dM _ _ hj]
theorem KD (hs:s<(l.getD 0 default).sym)(hi:i<Hz l)(hj:j<Hz l):SI (iR l) s i j=Ob l s i j:=by
 unfold SI iR;rw[dM _ _ hs,aE5 hi hj]
theorem kG:Hz [a]=a.st:=by simp[Hz]
theorem ap0 (ha:a.Ok):(iR [a]).Ok:=⟨by simp[iR,Hz,ha.ini],by simp[iR,aQ9,Hz,ha.fin]⟩
theorem Vg (f:Nat->Rat)(n:Nat):∀ m,dw f (n+m)=dw f n+dw (λi=>f (n+i)) m
 | 0=>by rw[Nat.add_zero,dw,Rat.add_zero]
 | m+1=>by rw[<- Nat.add_assoc,dw,Vg f n m,dw,Rat.add_assoc]
def G7 (a:Au)(w:List Int):Rat:=U8 (iR [a]) w
end
def Y6 {α β:Type}(H:α->β->Rat)(r:Nat):Prop:=∃ (A:α->Nat->Rat) (B:Nat->β->Rat),∀ a b,H a b=dw (λk=>A a k*B k b) r
section
variable {α β:Type}{H G:α->β->Rat}{r s:Nat}
theorem Y6.plus (h:Y6 H r)(k:Y6 G s):Y6 (λa b=>H a b+G a b) (r+s):=by
 obtain⟨A,B,e⟩:=h;obtain⟨A2,B2,e2⟩:=k;refine⟨λa k=>if k<r then A a k else A2 a (k-r),λk b=>if k<r then B k b else B2 (k-r) b,λa b=>?_⟩
 show H a b+G a b=_
 rw[Vg,e,e2];congr 1
 .exact dZ λk hk=>by simp only[if_pos hk]
 .exact dZ λk _=>by simp only[if_neg (show ¬ r+k<r by omega),Nat.add_sub_cancel_left]
theorem Y6.smul (h:Y6 H r)(c:Rat):Y6 (λa b=>c*H a b) r :=
 have ⟨A,B,e⟩:=h
 ⟨λa k=>c*A a k,B,λa b=>by show c*H a b=_;rw[e,<- Gq];exact dZ λk _=>(Rat.mul_assoc ..).symm⟩
theorem Y6.map {α2 β2:Type}(h:Y6 H r)(f:α2->α)(g:β2->β):Y6 (λa b=>H (f a) (g b)) r :=
 have ⟨A,B,e⟩:=h
 ⟨λa k=>A (f a) k,λk b=>B k (g b),λa b=>e _ _⟩
theorem Y6.zero:Y6 H 0 ↔ ∀ a b,H a b=0 :=
 ⟨λ⟨_,_,e⟩ a b=>by rw[e];rfl,λh=>⟨λ_ _=>0,λ_ _=>0,λa b=>by rw[h];rfl⟩⟩
structure ap1 (H:α->β->Rat) (r:Nat):Prop where
 fac:Y6 H r
 least:∀ s,Y6 H s->r<=s
theorem ap1.unique (h:ap1 H r)(k:ap1 H s):r=s:=Nat.le_antisymm (h.least _ k.fac) (k.least _ h.fac)
end
def PO (B:Nat)(rs:List kV):Prop:=∀ k r,rs[k]? = some r->(∀ i,sz (r.v.getD i 0)+1<=4 ^ k*(B+1))/\∀ i,sz (r.c.getD i 0)+1<=4 ^ k*(B+1)
section
variable {B:Nat}{rs:List kV}{w t:List Rat}
theorem Vh {f:Nat->Rat}{C:Nat}(n:Nat)(hC:1<=C)(h:∀ i,sz (f i)<=C)(i:Nat):sz (((List.range n).map f).getD i 0)<=C:=by
 rcases Nat.lt_or_ge i n with hi|hi
 .rw[dM _ _ hi];exact h i
 .rw[iZ,List.getElem?_eq_none (by simp;exact hi),Option.getD_none,gJ];exact hC
theorem ap2 {r:kV}{C:Nat}(hw:∀ i,sz (w.getD i 0)+1<=C)(hr:∀ i,sz (r.v.getD i 0)+1<=C):sz (Fh w r)+2<=2*C:=by
 have h:=aQ0 (w.getD r.p 0) (r.v.getD r.p 0);have h1:=hw r.p;have h2:=hr r.p;unfold Fh;omega
theorem SQ {r:kV}{C:Nat}(hw:∀ i,sz (w.getD i 0)+1<=C)(hr:∀ i,sz (r.v.getD i 0)+1<=C)(i:Nat):sz ((wC w r).getD i 0)+1<=4*C:=by
 have hC:1<=C:=Nat.le_trans (Nat.le_add_left 1 _) (hw 0);have key:sz ((wC w r).getD i 0)<=4*C-1:=Vh w.length (f:=λi=>w.getD i 0-Fh w r*r.v.getD i 0) (by omega) (λi=>by
  have h1:=Xp (w.getD i 0) (Fh w r*r.v.getD i 0);have h2:=jZ (Fh w r) (r.v.getD i 0);have h3:=ap2 hw hr;have h4:=hw i;have h5:=hr i;omega) i
 omega
theorem aE6 {r:kV}{C:Nat}(hw:∀ i,sz (w.getD i 0)+1<=C)(ht:∀ i,sz (t.getD i 0)+1<=C)(hr:∀ i,sz (r.v.getD i 0)+1<=C)(hc:∀ i,sz (r.c.getD i 0)+1<=C)(i:Nat):sz ((ac3 t (Fh w r) r.c).getD i 0)+1<=4*C:=by
 have hC:1<=C:=Nat.le_trans (Nat.le_add_left 1 _) (hw 0);have key:sz ((ac3 t (Fh w r) r.c).getD i 0)<=4*C-1:=Vh t.length (f:=λi=>t.getD i 0+Fh w r*r.c.getD i 0) (by omega) (λi=>by
  have h1:=vz (t.getD i 0) (Fh w r*r.c.getD i 0);have h2:=jZ (Fh w r) (r.c.getD i 0);have h3:=ap2 hw hr;have h4:=ht i;have h5:=hc i;omega) i
 omega
theorem Y7:∀ (rs:List kV) (j:Nat) (w:List Rat),(∀ k r,rs[k]? = some r->∀ i,sz (r.v.getD i 0)+1<=4 ^ (j+k)*(B+1))->(∀ i,sz (w.getD i 0)+1<=4 ^ j*(B+1))->∀ i,sz ((nK rs w).getD i 0)+1<=4 ^ (j+rs.length)*(B+1)
 | [],_,_,_,hw,i=>hw i
 | r :: rs, j, w, h, hw, i => by
  have h0:=h 0 r rfl;rw[Nat.add_zero] at h0;have:=Y7 rs (j+1) (wC w r) (λk q hq=>by
   have:=h (k+1) q hq
   rwa [show j+(k+1)=j+1+k by omega] at this) (λi=>by
   have:=SQ hw h0 i
   rwa [Nat.pow_succ,Nat.mul_comm (4 ^ j),Nat.mul_assoc]) i
  rwa [nK,List.length_cons,show j+(rs.length+1)=j+1+rs.length by omega]
theorem Vj:∀ (rs:List kV) (j:Nat) (w t:List Rat),(∀ k r,rs[k]? = some r->(∀ i,sz (r.v.getD i 0)+1<=4 ^ (j+k)*(B+1))/\∀ i,sz (r.c.getD i 0)+1<=4 ^ (j+k)*(B+1))->(∀ i,sz (w.getD i 0)+1<=4 ^ j*(B+1))->(∀ i,sz (t.getD i 0)+1<=4 ^ j*(B+1)) ->
  ∀ i,sz ((Oa rs w t).getD i 0)+1<=4 ^ (j+rs.length)*(B+1)
 | [],_,_,_,_,_,ht,i=>ht i
 | r :: rs, j, w, t, h, hw, ht, i => by
  have h0:=h 0 r rfl;rw[Nat.add_zero] at h0;have:=Vj rs (j+1) (wC w r) (ac3 t (Fh w r) r.c) (λk q hq=>by
   have:=h (k+1) q hq
   rwa [show j+(k+1)=j+1+k by omega] at this) (λi=>by
   have:=SQ hw h0.1 i
   rwa [Nat.pow_succ,Nat.mul_comm (4 ^ j),Nat.mul_assoc]) (λi=>by
   have:=aE6 hw ht h0.1 h0.2 i
   rwa [Nat.pow_succ,Nat.mul_comm (4 ^ j),Nat.mul_assoc]) i
  rwa [Oa,List.length_cons,show j+(rs.length+1)=j+1+rs.length by omega]
theorem PO.nil:PO B []:=λk r h=>by cases h
theorem PO.take (h:PO B rs)(j:Nat):PO B (rs.take j):=λk r hk=>by
 rw[List.getElem?_take] at hk
 split at hk
 .exact h k r hk
 .cases hk
theorem PO.red (h:PO B rs)(hw:∀ i,sz (w.getD i 0)<=B)(i:Nat):sz ((nK rs w).getD i 0)+1<=4 ^ rs.length*(B+1):=by
 have:=Y7 rs 0 w (λk r hk=>by rw[Nat.zero_add];exact (h k r hk).1) (λi=>by rw[Nat.pow_zero,Nat.one_mul];have:=hw i;omega) i
 rwa [Nat.zero_add] at this
theorem ap3 (n i:Nat):(List.replicate n (0:Rat)).getD i 0=0:=by
 rw[iZ,List.getElem?_replicate]
 split <;> rfl
theorem PO.Oa (h:PO B rs)(h1:1<=B)(hw:∀ i,sz (w.getD i 0)<=B)(n i:Nat):sz ((Go.AL.Oa rs w (List.replicate n 0)).getD i 0)+1<=4 ^ rs.length*(B+1):=by
 have:=Vj rs 0 w (List.replicate n 0) (λk r hk=>by rw[Nat.zero_add];exact h k r hk) (λi=>by rw[Nat.pow_zero,Nat.one_mul];have:=hw i;omega) (λi=>by rw[Nat.pow_zero,Nat.one_mul,ap3,gJ];omega) i
 rwa [Nat.zero_add] at this
theorem ap4 (k:Nat):1<=4 ^ k:=Nat.one_le_pow _ _ (by decide)
theorem PO.byS (h:PO B rs)(h1:1<=B)(hw:∀ i,sz (w.getD i 0)<=B)(i:Nat):sz ((Go.AL.byS rs w).getD i 0)+1<=4 ^ rs.length*(B+1):=by
 have hp:B+1<=4 ^ rs.length*(B+1):=Nat.le_mul_of_pos_left _ (ap4 _);have hl:((BK rs w).map λx=>-x).length=(BK rs w).length:=dF ..;unfold Go.AL.byS;rw[iZ];rcases Nat.lt_or_ge i (BK rs w).length with hi|hi
 .rw[List.getElem?_append_left (by rw[hl];exact hi),List.getElem?_map,sU hi,Option.map_some,Option.getD_some,Xo]
  have:=h.Oa h1 hw rs.length i;rw[iZ,show Go.AL.Oa rs w (List.replicate rs.length 0)=BK rs w from rfl,sU hi,Option.getD_some] at this
  exact this
 .rw[List.getElem?_append_right (by rw[hl];exact hi),hl]
  rcases Nat.eq_zero_or_pos (i-(BK rs w).length) with h0|h0
  .rw[h0];show sz 1+1<=_
   rw[Ig];omega
  .rw[List.getElem?_eq_none (by rw[nN];exact h0),Option.getD_none,gJ];omega
theorem PO.grow (h:PO B rs)(h1:1<=B)(hw:∀ i,sz (w.getD i 0)<=B):PO B (rs++[newR rs w]):=λk r hk=>by
 rcases Nat.lt_or_ge k rs.length with hi|hi
 .rw[List.getElem?_append_left hi] at hk;exact h k r hk
 .rw[List.getElem?_append_right hi] at hk;rcases Nat.eq_zero_or_pos (k-rs.length) with h0|h0
  .rw[h0] at hk;cases hk
   have e:k=rs.length:=by omega
   subst e;exact⟨λi=>h.red hw i,λi=>h.byS h1 hw i⟩
  .rw[List.getElem?_eq_none (by rw[nN];exact h0)] at hk;cases hk
theorem PO.add (h:PO B rs)(h1:1<=B)(hw:∀ i,sz (w.getD i 0)<=B):PO B (Jo rs w):=by
 unfold Jo
 split
 .exact h.grow h1 hw
 .exact h
end
def Ans (m:pz):Option (List Int)->Prop
 | none=>∀ w,G6 m.k w->U8 m w=0
 | some w=>Ec m w
section
variable {m m2:pz}{V K Q:List (List Int)}{rs:List kV}{w:List Int}{o p:Option (List Int)}
theorem Ans.unique (h:Ans m o)(k:Ans m p):o=p:=by
 cases o with
 | none =>
  cases p with
  | none=>rfl
  | some w=>exact absurd (h w k.inW) k.nz
 | some v =>
  cases p with
  | none=>exact absurd (k v h.inW) h.nz
  | some w=>rw[Ec.unique h k]
theorem Ans.congr (hk:m2.k=m.k)(e:∀ w,G6 m.k w->(U8 m w=0 ↔ U8 m2 w=0))(h:Ans m o):Ans m2 o:=by
 cases o with
 | none=>exact λw hw=>(e w (hk ▸ hw)).1 (h w (hk ▸ hw))
 | some v=>exact⟨hk ▸ h.inW,λz=>h.nz ((e v h.inW).2 z),λu hu hl=>(e u (hk ▸ hu)).1 (h.before u (hk ▸ hu) hl)⟩
structure Ed (K Q:List (List Int)):Prop where
 kept:∀ (i:Nat) (u:List Int),K[i]? = some u->u.length<=i
 open_:∀ q:List Int,q ∈ Q->q.length<=K.length
theorem Ed.start:Ed [] [[]]:=⟨λi u h=>(by cases h),λq h=>(by rw[qm h];exact Nat.le_refl _)⟩
theorem Ed.drop (h:Ed K (w::Q)):Ed K Q:=⟨h.kept,λq hq=>h.open_ q (List.mem_cons_of_mem _ hq)⟩
theorem Ed.keep {k:Nat}(h:Ed K (w::Q)):Ed (K++[w]) (Q++oV k w):=by
 have hw:=h.open_ w yD;refine⟨λi u hi=>?_,λq hq=>?_⟩
 .rcases Nat.lt_or_ge i K.length with hl|hl
  .rw[List.getElem?_append_left hl] at hi;exact h.kept i u hi
  .rw[List.getElem?_append_right hl] at hi;rcases Nat.eq_zero_or_pos (i-K.length) with h0|h0
   .rw[h0] at hi;cases hi;omega
   .rw[List.getElem?_eq_none (by rw[nN];exact h0)] at hi;cases hi
 .rw[jT,nN];rcases BO hq with hq|hq
  .have:=h.open_ q (List.mem_cons_of_mem _ hq);omega
  .obtain⟨s,_,rfl⟩:=CO.1 hq;rw[jT,nN];omega
theorem Join.new (ok:m.Ok)(j:Join m V K (w::Q) rs)(hz:Hy m K)(hn:U8 m w≠0):qE rs (iq m w)=true:=by
 cases hg:qE rs (iq m w) with
 | true=>rfl
 | false =>
  refine absurd ?_ hn;have hs:=((Kz j.ech (Ak ok w)).1 hg).trans λb hb=>by
   obtain⟨r,hr,rfl⟩:=Az hb;exact j.rows r hr
  refine hs.kill (L:=λu _=>XF m.n u (vf m.fin)) (U9 m.n (vf m.fin)) λb hb=>?_;obtain⟨u,hu,rfl⟩:=Az hb;exact hz u hu
theorem Hy.add (hz:Hy m K)(h:U8 m w=0):Hy m (K++[w]):=λu hu=>(BO hu).elim (hz u) λhu=>by rw[qm hu];exact h
open Classical in
noncomputable def SS (m:pz):Option (List Int):=if h:∃ o,Ans m o then h.choose else none
theorem Oc (h:Ans m o):SS m=o:=by
 have h':∃ o,Ans m o:=⟨o,h⟩;unfold SS;rw[dif_pos h'];exact Ans.unique h'.choose_spec h
end
theorem ap5 {p:Nat->Prop}:∀ n,p n->∃ r,p r/\∀ s,p s->r<=s:=by
 intro n
 induction n using Nat.strongRecOn with
 | ind n ih =>
  intro h;by_cases hx:∃ k,k<n/\p k
  .obtain⟨k,hk,hp⟩:=hx;exact ih k hk hp
  .exact⟨n,h,λs hs=>Decidable.byContradiction λhlt=>hx ⟨s,by omega,hs⟩⟩
