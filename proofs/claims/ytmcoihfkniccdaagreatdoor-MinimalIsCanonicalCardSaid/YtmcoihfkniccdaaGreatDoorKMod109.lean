/-
  M, chapter 24: when two minimal realisations are the same; a further state that has no effect.
-/
import Derived.Test.YtmcoihfkniccdaaGreatDoorKWkBD
set_option linter.unusedVariables false
set_option linter.unusedSimpArgs false
namespace Go.AL
open Go Go.BigFrame
section
variable {m a b:Mach}{B n e i s j:Nat}{vs:List (List Rat)}{y:KSt}{w l:List Int}{K:List (List Int)}
theorem rowsB_le:∀ (k:Nat) (vs:List (List Rat)),vs.length=k→(rowsB vs).length≤vs.length
 | 0,vs,h=>by rw [en9 h];exact Nat.le_refl _
 | k+1,vs,h=>by
  have hne:vs≠[]:=fun e=>by rw [e] at h;cases h
  obtain ⟨z,x,rfl⟩:∃ z x,vs=z++[x]:=⟨vs.dropLast,vs.getLast hne,(List.dropLast_concat_getLast hne).symm⟩
  rw [la9,ls9] at h
  have ih:=rowsB_le k z (by omega)
  rw [rowsB_snoc,la9,ls9]
  unfold addS
  split
  ·rw [la9,ls9];omega
  ·omega
theorem rowsB_by:∀ (k:Nat) (vs:List (List Rat)),vs.length=k→(∀ v,v ∈ vs→v.length=n)→(rowsB vs).length=vs.length→ByOK n (rowsB vs) vs
 | 0,vs,h,_,_=>by rw [en9 h];exact ByOK.nil
 | k + 1, vs, h, hl, he => by
  have hne:vs≠[]:=fun e=>by rw [e] at h;cases h
  obtain ⟨z,x,rfl⟩:∃ z x,vs=z++[x]:=⟨vs.dropLast,vs.getLast hne,(List.dropLast_concat_getLast hne).symm⟩
  rw [la9,ls9] at h
  have hle:=rowsB_le k z (by omega)
  rw [rowsB_snoc,la9,ls9] at he
  rw [rowsB_snoc]
  by_cases hg:growsS (rowsB z) x=true
  ·rw [show addS (rowsB z) x=rowsB z++[newR (rowsB z) x] from if_pos hg] at he ⊢
   rw [la9,ls9] at he
   exact (rowsB_by k z (by omega) (fun v hv=>hl v (List.mem_append.2 (.inl hv))) (by omega)).grow (hl x (List.mem_append.2 (.inr (List.mem_singleton.2 rfl))))
  ·rw [show addS (rowsB z) x=rowsB z from if_neg hg] at he
   omega
theorem rows_search (ok:m.Ok)(n6:m.n≤6)(h1:1≤B)(hz:∀ w,InW m.k w→w.length≤6→∀ i,sz ((vecM m w).getD i 0)≤B):∀ (N:Nat) (Q:List (List Int)) (y:KSt),InvS m B Q y→y.rs=rowsB (y.ks.map (vecM m))→leftM m Q y.rs≤N→∃ y,InvS m B [] y∧y.rs=rowsB (y.ks.map (vecM m))
 | N,[],y,h,hr,_=>⟨y,h,hr⟩
 | 0,w::Q,y,h,hr,hN=>by
  have:=left_drop (m:=m) (w:=w) (Q:=Q) (rs:=y.rs)
  omega
 | N + 1, w :: Q, y, h, hr, hN => by
  have hw:InW m.k w:=by
   obtain ⟨V,j,_⟩:=h.join
   exact j.bfs.inW w (.inr mc9)
  have h6:=h.b.six n6 w mc9
  obtain ⟨ht,hf⟩:=h.next ok h1 (hz w hw h6)
  have keep:(keepB m w y).2.rs=rowsB ((keepB m w y).2.ks.map (vecM m)):=by
   unfold keepB
   by_cases hg:growsS y.rs (vecM m w)=true
   ·rw [if_pos hg]
    show y.rs++[newR y.rs (vecM m w)]=rowsB ((y.ks++[w]).map (vecM m))
    rw [List.map_append,List.map_cons,List.map_nil,rowsB_snoc,← hr]
    exact (if_pos hg).symm
   ·rw [if_neg hg];exact hr
  cases hk:(keepB m w y).1 with
  | true=>exact rows_search ok n6 h1 hz N _ _ (ht hk).1 keep (by have:=(ht hk).2;omega)
  | false=>exact rows_search ok n6 h1 hz N _ _ (hf hk).1 keep (by have:=(hf hk).2;omega)
theorem done_rowsP (h:InvS m B [] y)(ok:m.Ok)(hw:InW m.k w):growsS y.rs (vecM m w)=false:=by
 obtain ⟨V,j,_⟩:=h.join
 refine (grows_iff j.ech (vecM_len ok w)).2 ((j.bfs.reach w hw fun q hq=>by cases hq).trans fun b hb=>?_)
 obtain ⟨u,hu,rfl⟩:=mm9 hb
 exact j.kept u (upTo_mem.1 hu).1
theorem inW_app8 {k:Nat}{u l:List Int}(hu:InW k u)(hl:InW k l):InW k (u++l):=fun q hq=>(mp9 hq).elim (hu q) (hl q)
theorem mapG8 {α β:Type}{f:α→β}{d:α}{e:β}{l:List α}{i:Nat}(hi:i<l.length):(l.map f).getD i e=f (l.getD i d):=by
 rw [gd9,List.getElem?_map,ge9 hi,gd9,ge9 hi];rfl
theorem coef_row (ok:m.Ok)(z:m.Sz e)(hi:i<(preM m).length)(hs:s<m.k)(hl:InW m.k l) :
  wtM m (((preM m).getD i []++[((s+1:Nat):Int)])++l)=linI (fun u l=>wtM m (u++l)) (preM m) (fun j=>(coefN m (preM m) i s).getD j 0) l:=by
 obtain ⟨y,hy,hb⟩:=bas_ex (turn_ok ok) z.turn
 obtain ⟨mv,v⟩:=view_of ok hy
 have hsh:=bas_short (turn_ok ok) z.turn
 have hm6:=z.n6
 have hn:(basK (turnM m)).length≤m.n:=by rw [← hb];exact hy.b.few.2
 obtain ⟨x,hx,hr⟩:=rows_search (m:=mv) (B:=69177619) v.ok (by rw [v.n];omega) (by decide) (fun w hw h6 i=>by
  rw [v.vec w (by rw [← v.k];exact hw)]
  exact view_sz6 z h6 (fun l hl=>by have h1:l.length<m.n:=hsh l hl;omega) i) _ _ _ (InvS.start mv 69177619) rfl (Nat.le_refl _)
 have hf:=hy.first ok v hx
 have hK:=preM_eq hf
 have inW:∀ u,u ∈ preM m→InW m.k u:=by rw [hK];exact hf.inW
 have hmap:x.ks.map (vecM mv)=(preM m).map (viewM m (basK (turnM m))):=by
  rw [hK]
  exact List.map_congr_left fun u hu=>v.vec u (hf.inW u hu)
 have hrs:x.rs=rowsB ((preM m).map (viewM m (basK (turnM m)))):=by rw [hr,hmap]
 have hlen:(rowsB ((preM m).map (viewM m (basK (turnM m))))).length=((preM m).map (viewM m (basK (turnM m)))).length:=by
  rw [← hrs,lm9,hK];exact hx.b.few.1.symm
 have by9:=rowsB_by (n:=(basK (turnM m)).length) _ _ rfl (fun v hv=>by obtain ⟨u,_,rfl⟩:=mm9 hv;exact view_len) hlen
 have hws:InW m.k ((preM m).getD i []++[((s+1:Nat):Int)]):=fun q hq=>by
  rcases mp9 hq with hq|hq
  ·exact inW _ (getD_mem hi []) q hq
  ·rw [ms9 hq];omega
 have hg:growsS (rowsB ((preM m).map (viewM m (basK (turnM m))))) (viewM m (basK (turnM m)) ((preM m).getD i []++[((s+1:Nat):Int)]))=false:=by
  rw [← hrs,← v.vec _ hws]
  exact done_rowsP hx v.ok (by rw [v.k];exact hws)
 have hlr:InW m.k l.reverse:=inW_rev hl
 obtain ⟨V,jn,_⟩:=hy.join
 rw [hb] at jn
 obtain ⟨d,hd⟩:=hank_cols ok jn hlr
 have hw:∀ u,wtM m (u++l)=sumN (fun q=>d q*hankM m u ((basK (turnM m)).getD q [])) (basK (turnM m)).length:=fun u=>by
  rw [← hd u,hank_wt _ u hlr,List.reverse_reverse]
 unfold linI
 rw [hw]
 have e1:∀ q,q<(basK (turnM m)).length→hankM m ((preM m).getD i []++[((s+1:Nat):Int)]) ((basK (turnM m)).getD q [])=sumN (fun j=>(coefN m (preM m) i s).getD j 0*hankM m ((preM m).getD j []) ((basK (turnM m)).getD q [])) (preM m).length:=fun q hq=>by
  have h:=by9.find view_len hg hq
  rw [view_get hq,lm9] at h
  rw [h]
  refine sumN_congr fun j hj=>?_
  rw [mapG8 (d:=[]) hj,view_get hq]
  rfl
 rw [sumN_congr (g:=fun q=>sumN (fun j=>(coefN m (preM m) i s).getD j 0*(hankM m ((preM m).getD j []) ((basK (turnM m)).getD q [])*d q)) (preM m).length) fun q hq=>by
  show d q*_=_
  rw [e1 q hq,Rat.mul_comm,← sumN_mulR]
  exact sumN_congr fun j _=>Rat.mul_assoc ..,sumN_swap]
 refine sumN_congr fun j _=>?_
 show sumN (fun q=>_*_) _=_*wtM m _
 rw [sumN_mulL,hw]
 congr 1
 exact sumN_congr fun q _=>Rat.mul_comm ..
theorem pre_same (oka:a.Ok)(za:a.Sz e)(okb:b.Ok)(zb:b.Sz n)(hk:a.k=b.k)(h:∀ w,InW a.k w→wtM a w=wtM b w):preM a=preM b:=by
 have fa:=(pre_ex oka za).1.first
 have fb:=(pre_ex okb zb).1.first
 rw [← hk] at fb
 exact fa.unique (fb.congr fun u l hu hl=>h _ (inW_app8 hu hl))
theorem coef_same (oka:a.Ok)(za:a.Sz e)(okb:b.Ok)(zb:b.Sz n)(hk:a.k=b.k)(h:∀ w,InW a.k w→wtM a w=wtM b w)(hi:i<(preM a).length)(hs:s<a.k)(hj:j<(preM a).length):(coefN a (preM a) i s).getD j 0=(coefN b (preM b) i s).getD j 0:=by
 have fa:=(pre_ex oka za).1.first
 have hp:=pre_same oka za okb zb hk h
 refine fa.only (c:=fun j=>(coefN a (preM a) i s).getD j 0) (d:=fun j=>(coefN b (preM b) i s).getD j 0) (fun l hl=>?_) hj
 have h1:=coef_row oka za hi hs hl
 have h2:=coef_row okb zb (i:=i) (s:=s) (l:=l) (by rw [← hp];exact hi) (by rw [← hk];exact hs) (by rw [← hk];exact hl)
 rw [← h1,h _ (inW_app8 (fun q hq=>by
  rcases mp9 hq with hq|hq
  ·exact fa.inW _ (getD_mem hi []) q hq
  ·rw [ms9 hq];omega) hl),hp,h2]
 unfold linI
 rw [← hp]
 exact sumN_congr fun t ht=>by
  show _*wtM b _=_*wtM a _
  rw [h _ (inW_app8 (fa.inW _ (getD_mem ht [])) hl)]
def dV (c:Nat→Nat→Nat→Rat)(n:Nat)(w:List Int):Nat→Rat:=w.foldl (fun v x j=>sumN (fun i=>v i*c i (x.toNat-1) j) n) fun j=>if 0=j then 1 else 0
theorem pre_root (h:PreK m K)(h0:0<K.length):K.getD 0 []=[]:=by
 have hl:=index_len h.first.ord (fun u hu hne=>⟨u.dropLast,h.init u hu hne,by
  rw [List.length_dropLast]
  have:0<u.length:=by cases u with
   | nil=>exact absurd rfl hne
   | cons=>exact Nat.succ_pos _
  omega⟩) _ 0 h0 rfl
 rw [gd9,ge9 h0]
 exact en9 (by show K[0].length=0;omega)
theorem row_coords (ok:m.Ok)(z:m.Sz e)(h0:0<(preM m).length):∀ (N:Nat) (w:List Int),w.length=N→InW m.k w→∀ l,InW m.k l→wtM m (w++l)=linI (fun u l=>wtM m (u++l)) (preM m) (dV (fun i s j=>(coefN m (preM m) i s).getD j 0) (preM m).length w) l:=by
 have pk:=(pre_ex ok z).1
 intro N
 induction N with
 | zero =>
  intro w hw _ l hl
  rw [en9 hw]
  have h:=linI_one (h:=fun u l=>wtM m (u++l)) h0 l
  rw [pre_root pk h0] at h
  exact h.symm
 | succ N ih =>
  intro w hn hw l hl
  have hne:w≠[]:=fun e=>by rw [e] at hn;cases hn
  obtain ⟨z9,x,rfl⟩:∃ z x,w=z++[x]:=⟨w.dropLast,w.getLast hne,(List.dropLast_concat_getLast hne).symm⟩
  have hx:=hw x (by simp)
  obtain ⟨s,hs,rfl⟩:∃ s:Nat,s<m.k∧x=((s+1:Nat):Int):=⟨x.toNat-1,by omega,by omega⟩
  have hz:InW m.k z9:=fun q hq=>hw q (List.mem_append.2 (.inl hq))
  have es:(((s+1:Nat):Int)).toNat-1=s:=by omega
  have hsl:InW m.k ([((s+1:Nat):Int)]++l):=fun q hq=>by
   rcases mp9 hq with hq|hq
   ·rw [ms9 hq];omega
   ·exact hl q hq
  rw [List.append_assoc,ih z9 (by rw [la9,ls9] at hn;omega) hz _ hsl]
  unfold linI
  rw [sumN_congr (g:=fun i=>sumN (fun j=>dV (fun i s j=>(coefN m (preM m) i s).getD j 0) (preM m).length z9 i*(coefN m (preM m) i s).getD j 0*wtM m ((preM m).getD j []++l)) (preM m).length) fun i hi=>by
   show _*wtM m _=_
   rw [← List.append_assoc,coef_row ok z hi hs hl]
   unfold linI
   rw [← sumN_mulL]
   exact sumN_congr fun j _=>(Rat.mul_assoc ..).symm,sumN_swap]
  refine sumN_congr fun j _=>?_
  rw [sumN_mulR]
  congr 1
  unfold dV
  rw [List.foldl_append]
  show _=sumN (fun i=>_*(coefN m (preM m) i ((((s+1:Nat):Int)).toNat-1)).getD j 0) _
  rw [es]
theorem dV_congr {c d:Nat→Nat→Nat→Rat}{n k:Nat}(h:∀ i s j,i<n→s<k→j<n→c i s j=d i s j):∀ (q:Nat) (w:List Int),w.length=q→InW k w→∀ j,j<n→dV c n w j=dV d n w j:=by
 intro q
 induction q with
 | zero=>intro w hw _ j _;rw [en9 hw];rfl
 | succ q ih =>
  intro w hn hw j hj
  have hne:w≠[]:=fun e=>by rw [e] at hn;cases hn
  obtain ⟨z9,x,rfl⟩:∃ z x,w=z++[x]:=⟨w.dropLast,w.getLast hne,(List.dropLast_concat_getLast hne).symm⟩
  have hx:=hw x (by simp)
  have ih:=ih z9 (by rw [la9,ls9] at hn;omega) fun q hq=>hw q (List.mem_append.2 (.inl hq))
  unfold dV at ih ⊢
  rw [List.foldl_append,List.foldl_append]
  show sumN (fun i=>_*_) _=sumN (fun i=>_*_) _
  exact sumN_congr fun i hi=>by rw [ih i hi,h i _ j hi (by omega) hj]
theorem sumN_none {f:Nat→Rat}:sumN f 0=0:=rfl
theorem ser_same (oka:a.Ok)(za:a.Sz e)(okb:b.Ok)(zb:b.Sz n)(hk:a.k=b.k)(hl:(preM a).length=(preM b).length)(hf:∀ j,j<(preM a).length→wtM a ((preM a).getD j [])=wtM b ((preM b).getD j []))
  (hc:∀ i s j,i<(preM a).length→s<a.k→j<(preM a).length→(coefN a (preM a) i s).getD j 0=(coefN b (preM b) i s).getD j 0) (hw:InW a.k w):wtM a w=wtM b w:=by
 have nil:∀ k,InW k []:=fun k q hq=>by cases hq
 rcases Nat.eq_zero_or_pos (preM a).length with h0|h0
 ·have ha:=(pre_ex oka za).1.first
  have hb:=(pre_ex okb zb).1.first
  obtain ⟨c,_,h1⟩:=ha.reach w hw
  obtain ⟨d,_,h2⟩:=hb.reach w (by rw [← hk];exact hw)
  have h1:=h1 [] (nil _)
  have h2:=h2 [] (nil _)
  unfold linI at h1 h2
  rw [← hl] at h2
  rw [h0] at h1 h2
  rw [List.append_nil] at h1 h2
  rw [h1,h2,sumN_none,sumN_none]
 ·have h1:=row_coords oka za h0 _ w rfl hw [] (nil _)
  have h2:=row_coords okb zb (by rw [← hl];exact h0) _ w rfl (by rw [← hk];exact hw) [] (nil _)
  rw [List.append_nil] at h1 h2
  rw [h1,h2]
  unfold linI
  rw [← hl]
  exact sumN_congr fun j hj=>by
   show _*wtM a _=_*wtM b _
   rw [List.append_nil,List.append_nil,hf j hj,dV_congr hc w.length w rfl hw j hj]
end
noncomputable def minN (a:Au):Au:=⟨a.sym,(preM (machL [a])).length,iniN (preM (machL [a])).length,(preM (machL [a])).map (serA a),tidyA (tidyA (arcN (machL [a]) (preM (machL [a]))))⟩
section
variable {a b:Au}{e n:Nat}
theorem flat_congr {α β:Type}{f g:α→List β}:∀ {l:List α},(∀ x,x ∈ l→f x=g x)→l.flatMap f=l.flatMap g
 | [],_=>rfl
 | x::l,h=>by
  rw [List.flatMap_cons,List.flatMap_cons,h x mc9,flat_congr fun y hy=>h y (List.mem_cons_of_mem _ hy)]
theorem arcN_congr {m m':Mach}{K:List (List Int)}(hk:m.k=m'.k)(h:∀ i s j,i<K.length→s<m.k→j<K.length→(coefN m K i s).getD j 0=(coefN m' K i s).getD j 0):arcN m K=arcN m' K:=by
 unfold arcN
 refine flat_congr fun i hi=>?_
 unfold arcI
 rw [← hk]
 refine flat_congr fun s hs=>?_
 unfold arcS
 refine List.map_congr_left fun j hj=>?_
 unfold arcJ
 rw [h i s j (List.mem_range.1 hi) (List.mem_range.1 hs) (List.mem_range.1 hj)]
theorem min_same (oka:(machL [a]).Ok)(za:(machL [a]).Sz e)(okb:(machL [b]).Ok)(zb:(machL [b]).Sz n)(hs:a.sym=b.sym)(h:∀ w,InW a.sym w→serA a w=serA b w):minN a=minN b:=by
 have hk:(machL [a]).k=(machL [b]).k:=by rw [k_one,k_one,hs]
 have h':∀ w,InW (machL [a]).k w→wtM (machL [a]) w=wtM (machL [b]) w:=fun w hw=>h w (by rwa [k_one] at hw)
 have hp:=pre_same oka za okb zb hk h'
 have hc:=fun i s j=>coef_same (i:=i) (s:=s) (j:=j) oka za okb zb hk h'
 rw [← hp] at hc
 unfold minN
 rw [← hp,hs,arcN_congr hk fun i s j h1 h2 h3=>hc i s j h1 h2 h3,List.map_congr_left fun u hu=>h u (by
  have:=(pre_ex oka za).1.first.inW u hu
  rwa [k_one] at this)]
theorem min_ser (oka:(machL [a]).Ok)(za:(machL [a]).Sz e)(okb:(machL [b]).Ok)(zb:(machL [b]).Sz n)(hs:a.sym=b.sym)(h:minN a=minN b){w:List Int}(hw:InW a.sym w):serA a w=serA b w:=by
 have hk:(machL [a]).k=(machL [b]).k:=by rw [k_one,k_one,hs]
 have hl:(preM (machL [a])).length=(preM (machL [b])).length:=congrArg Au.st h
 have hf:(preM (machL [a])).map (serA a)=(preM (machL [b])).map (serA b):=congrArg Au.fin h
 have ha:tidyA (tidyA (arcN (machL [a]) (preM (machL [a]))))=tidyA (tidyA (arcN (machL [b]) (preM (machL [b])))):=congrArg Au.arcs h
 refine ser_same oka za okb zb hk hl (fun j hj=>?_) (fun i s j hi hs9 hj=>?_) (by rw [k_one];exact hw)
 ·have e1:((preM (machL [a])).map (serA a)).getD j 0=((preM (machL [b])).map (serA b)).getD j 0:=by rw [hf]
  rw [mapG8 (d:=[]) hj,mapG8 (d:=[]) (by rw [← hl];exact hj)] at e1
  exact e1
 ·rw [← ent_arcN hs9 hi hj,← ent_arcN (by rw [← hk];exact hs9) (by rw [← hl];exact hi) (by rw [← hl];exact hj)]
  rw [← entA_tidy,← entA_tidy (l:=tidyA (arcN (machL [a]) (preM (machL [a])))),ha,entA_tidy,entA_tidy]
def extA (a:Au)(r q:Rat)(l t:Nat):Au:=⟨a.sym,a.st+1,a.ini++[0],a.fin++[r],a.arcs++[⟨a.st,l,t,q⟩]⟩
variable {r q:Rat}{l t:Nat}
theorem ext_ok (h:a.Ok)(hl:1≤l∧l≤a.sym)(ht:t<a.st):(extA a r q l t).Ok :=
 ⟨h.sym0,by show (a.ini++[0]).length=_;rw [la9,h.ini];rfl,by show (a.fin++[r]).length=_;rw [la9,h.fin];rfl,fun x hx=>by
  rcases mp9 hx with hx|hx
  ·obtain ⟨h1,h2,h3,h4⟩:=h.arc x hx
   exact ⟨Nat.lt_succ_of_lt h1,Nat.lt_succ_of_lt h2,h3,h4⟩
  ·rw [ms9 hx]
   exact ⟨Nat.lt_succ_self _,Nat.lt_succ_of_lt ht,hl.1,hl.2⟩⟩
theorem app_low {v:List Rat}{x:Rat}{i:Nat}(hi:i<v.length):(v++[x]).getD i 0=v.getD i 0:=by
 rw [gd9,List.getElem?_append_left hi,← gd9]
theorem app_top {v:List Rat}{x:Rat}:(v++[x]).getD v.length 0=x:=by
 rw [gd9,List.getElem?_append_right (Nat.le_refl _),Nat.sub_self];rfl
theorem ext_step (h:a.Ok)(ht:t<a.st){v:List Rat}(hv:v.length=a.st){s:Nat}:stepF (a.st+1) (v++[0]) s (extA a r q l t).arcs=stepF a.st v s a.arcs++[0]:=by
 have hlt:∀ x,x ∈ (extA a r q l t).arcs→x.t<a.st+1:=fun x hx=>by
  rcases mp9 hx with hx|hx
  ·have:=(h.arc x hx).2.1;omega
  ·rw [ms9 hx];exact Nat.lt_succ_of_lt ht
 have last:∀ j,inF (v++[0]) s j ⟨a.st,l,t,q⟩ = 0:=fun j=>by
  unfold inF
  split
  ·show (v++[0]).getD a.st 0*q=0
   rw [← hv,app_top,Rat.zero_mul]
  ·rfl
 refine List.ext_getElem (by rw [stepF_len,la9,stepF_len];rfl) fun j h1 h2=>?_
 have g:∀ (x y:List Rat) (h1:j<x.length) (h2:j<y.length),x.getD j 0=y.getD j 0→x[j]=y[j]:=fun x y h1 h2 e=>by
  rw [gd9,gd9,ge9 h1,ge9 h2] at e
  exact e
 refine g _ _ h1 h2 ?_
 rw [stepF_len] at h1
 rw [stepF_get hlt]
 show lsum _ (a.arcs++[⟨a.st,l,t,q⟩])=_
 rw [lsum_append]
 show lsum _ a.arcs+(inF (v++[0]) s j ⟨a.st,l,t,q⟩ + 0)=_
 rw [last,Rat.add_zero,Rat.add_zero]
 rcases Nat.lt_or_ge j a.st with hj|hj
 ·rw [app_low (by rw [stepF_len];exact hj),stepF_get fun x hx=>(h.arc x hx).2.1]
  refine lsum_congr fun x hx=>?_
  unfold inF
  rw [app_low (by rw [hv];exact (h.arc x hx).1)]
 ·have hj:j=(stepF a.st v s a.arcs).length:=by rw [stepF_len];omega
  rw [hj,app_top]
  refine lsumZ fun x hx=>?_
  unfold inF
  rw [if_neg fun hh=>?_]
  have:=(h.arc x hx).2.1
  rw [stepF_len] at hh
  omega
theorem ext_fw (h:a.Ok)(ht:t<a.st):∀ (N:Nat) (u:List Int),u.length=N→fwA (extA a r q l t) u=fwA a u++[0]
 | 0,u,hu=>by rw [en9 hu];rfl
 | N + 1, u, hu => by
  have hne:u≠[]:=fun e=>by rw [e] at hu;cases hu
  obtain ⟨z,x,rfl⟩:∃ z x,u=z++[x]:=⟨u.dropLast,u.getLast hne,(List.dropLast_concat_getLast hne).symm⟩
  have ih:=ext_fw h ht N z (by rw [la9,ls9] at hu;omega)
  have sn:∀ (c:Au),fwA c (z++[x])=stepF c.st (fwA c z) x.toNat c.arcs:=fun c=>by
   unfold fwA;rw [List.foldl_append];rfl
  rw [sn,sn,ih]
  exact ext_step h ht (fwA_len h z)
theorem ext_ser (h:a.Ok)(hl:1≤l∧l≤a.sym)(ht:t<a.st){w:List Int}(hw:InW a.sym w):serA (extA a r q l t) w=serA a w:=by
 rw [← dotF_ser (ext_ok h hl ht) hw,← dotF_ser h hw,ext_fw h ht _ w rfl]
 show dotF _ (a.fin++[r]) (a.st+1)=_
 have hfl:=fwA_len h w
 unfold dotF
 show sumN _ a.st+(fwA a w++[0]).getD a.st 0*(a.fin++[r]).getD a.st 0=_
 have h0:(fwA a w++[0]).getD a.st 0=0:=by rw [← hfl];exact app_top
 rw [h0,Rat.zero_mul,Rat.add_zero]
 exact sumN_congr fun i hi=>by
  rw [app_low (by rw [hfl];exact hi),app_low (by rw [h.fin];exact hi)]
theorem ext_sz (h:a.Sz 1 10)(hr:sz r≤1)(hq:sz q≤1):(extA a r q l t).Sz 1 11:=by
 refine ⟨fun x hx=>?_,fun x hx=>?_,fun x hx=>?_,?_⟩
 ·rcases mp9 hx with hx|hx
  ·exact h.ini x hx
  ·rw [ms9 hx,sz_zero];decide
 ·rcases mp9 hx with hx|hx
  ·exact h.fin x hx
  ·rw [ms9 hx];exact hr
 ·rcases mp9 hx with hx|hx
  ·exact h.arc x hx
  ·rw [ms9 hx];exact hq
 ·show (a.arcs++[_]).length≤11
  rw [la9,ls9]
  have:=h.num
  omega
theorem Au.Sz.few11 (h:a.Sz 1 11)(hs:a.st≤6):a.Few :=
 ⟨hs,fun q hq=>Nat.le_trans (h.ini q hq) (by decide),fun q hq=>Nat.le_trans (h.fin q hq) (by decide),fun s i j=>by
  have h1:=entA_sz (B:=1) (by decide) h.arc s i j
  have:=h.num
  have:=Nat.mul_le_mul_right 2 this
  omega⟩
end
end Go.AL
