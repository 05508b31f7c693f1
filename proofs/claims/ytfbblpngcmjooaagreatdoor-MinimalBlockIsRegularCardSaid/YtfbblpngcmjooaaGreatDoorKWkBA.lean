/-
  Walks of package minimal, part 1: the prefixes (printed by mk2.py).
-/
import Derived.Test.YtfbblpngcmjooaaGreatDoorKMod103
set_option linter.unusedVariables false
set_option linter.unusedSimpArgs false
namespace Go.AL
open Go Go.BigFrame
section
variable {m:Mach}{B l:Nat}{y z:KSt}{K:List (List Int)}{rs:List SRow}
structure ViewOf (m mv:Mach):Prop where
 n:mv.n=(basK (turnM m)).length
 k:mv.k=m.k
 ok:mv.Ok
 vec:∀ w,InW m.k w→vecM mv w=viewM m (basK (turnM m)) w
 wt:∀ w,InW m.k w→wtM mv w=wtM m w
theorem view_of (ok:m.Ok)(h:InvS (turnM m) B [] z):∃ mv,ViewOf m mv:=by
 obtain ⟨V,j,_⟩:=h.join
 have hw:=h.inW
 rw [h.bas] at j hw
 rw [turn_k] at hw
 obtain ⟨mv,h1,h2,h3,h4,h5⟩:=view_mach ok j hw
 exact ⟨mv,h1,h2,h3,h4,h5⟩
theorem InvS.first (ok:m.Ok)(h:InvS (turnM m) B [] z){mv:Mach}(v:ViewOf m mv)(hy:InvS mv B [] y):FirstI m.k (fun u l=>wtM m (u++l)) y.ks:=by
 obtain ⟨V2,j2,_⟩:=h.join
 obtain ⟨V,j,_⟩:=hy.join
 have hw:=h.inW
 rw [h.bas] at j2 hw
 rw [turn_k] at hw
 have inw:∀ u,u ∈ y.ks→InW m.k u:=fun u hu=>by rw [← v.k];exact hy.inW u hu
 have f:=first_views (ρ:=id) (K:=y.ks) (rs:=y.rs) rfl ok j2 hw hy.ord inw (fun w hw=>by
   have h1:=j.bfs.reach w (by rw [v.k];exact hw) fun q hq=>by cases hq
   rw [v.n,v.vec w hw] at h1
   refine h1.mono fun b hb=>?_
   obtain ⟨u,hu,rfl⟩:=List.mem_map.1 hb
   exact List.mem_map.2 ⟨u,hu,(v.vec u (inw u (upTo_mem.1 hu).1)).symm⟩) (by rw [← v.n];exact j.ech) j.len fun r hr=>by
   have h1:=j.rows r hr
   rw [v.n] at h1
   refine h1.mono fun b hb=>?_
   obtain ⟨u,hu,rfl⟩:=List.mem_map.1 hb
   exact List.mem_map.2 ⟨u,hu,(v.vec u (inw u hu)).symm⟩
 refine f.rev.congr fun u l _ hl=>?_
 show wtM m (u++l)=hankM m u l.reverse
 rw [hank_wt l.reverse u (inW_rev hl),List.reverse_reverse]
theorem InvS.rank (ok:m.Ok)(h:InvS (turnM m) B [] z){mv:Mach}(v:ViewOf m mv)(hy:InvS mv B [] y):y.ks.length=rankF m.k (wtM m):=by
 obtain ⟨V2,j2,_⟩:=h.join
 rw [h.bas] at j2
 exact prefix_rank ok j2 v.n v.k v.vec hy
theorem index_len (ho:K.Pairwise fun a b=>slx a b<0)(hp:∀ u,u ∈ K→u≠[]→∃ x,x ∈ K∧x.length+1=u.length):∀ (q i:Nat) (hi:i<K.length),K[i].length=q→q≤i:=by
 intro q
 induction q with
 | zero=>intro i _ _;exact Nat.zero_le _
 | succ q ih =>
  intro i hi hq
  obtain ⟨x,hx,hxl⟩:=hp K[i] (List.getElem_mem hi) fun e=>by rw [e] at hq;cases hq
  obtain ⟨t,ht,rfl⟩:=List.mem_iff_getElem.1 hx
  have h1:=ih t ht (by omega)
  have h2:t<i:=by
   rcases Nat.lt_trichotomy t i with g|g|g
   ·exact g
   ·subst g;omega
   ·have h3:=List.pairwise_iff_getElem.1 ho i t hi ht g
    have h4:=slx_len (Int.le_of_lt h3)
    omega
  omega
theorem short_words (ho:K.Pairwise fun a b=>slx a b<0)(hp:∀ u,u ∈ K→u≠[]→∃ x,x ∈ K∧x.length+1=u.length):∀ u,u ∈ K→u.length<K.length:=fun u hu=>by
 obtain ⟨i,hi,rfl⟩:=List.mem_iff_getElem.1 hu
 exact Nat.lt_of_le_of_lt (index_len ho hp _ i hi rfl) hi
theorem InvS.short (h:InvS m B [] y):∀ u,u ∈ y.ks→u.length<y.ks.length:=short_words h.ord fun u hu hne=>⟨u.dropLast,h.closed hu hne,by
 have:=List.length_pos_iff.2 hne
 rw [List.length_dropLast];omega⟩
structure SufK (m:Mach) (K:List (List Int)):Prop where
 first:FirstI m.k (fun w l=>wtM m (l++w)) K
 tail:∀ s u,s::u ∈ K→u ∈ K
 rank:K.length=rankF m.k (wtM m)
theorem SufK.unique {K':List (List Int)}(h:SufK m K)(h':SufK m K'):K=K':=h.first.unique h'.first
theorem SufK.short (h:SufK m K):∀ u,u ∈ K→u.length<K.length:=short_words h.first.ord fun u hu hne=>by
 cases u with
 | nil=>exact absurd rfl hne
 | cons s u=>exact ⟨u,h.tail s u hu,rfl⟩
noncomputable abbrev colW (m:Mach):List Int→List Rat:=fun w=>viewM (turnM m) (basK (turnM (turnM m))) w.reverse
theorem stepF_col (ok:m.Ok)(h:InvS (turnM (turnM m)) B [] z):StepF m.k (basK (turnM (turnM m))).length (colW m):=by
 obtain ⟨mv,v⟩:=view_of (turn_ok ok) h
 exact ⟨mv,v.n,v.k.trans turn_k,fun w hw=>(v.vec w.reverse (by rw [turn_k];exact inW_rev hw)).symm⟩
theorem SufO.fin (ok:m.Ok)(hk:1≤m.k)(h:InvS (turnM (turnM m)) B [] z)(s:SufO m.k (basK (turnM (turnM m))).length B (colW m) l [] K rs):SufK m K:=by
 have hf:=stepF_col ok h
 have all:=s.all hf hk
 have reach:∀ w,InW m.k w→SpanV (basK (turnM (turnM m))).length ((upTo K w).map (colW m)) (vf (colW m w)):=fun w hw=>all w.length w rfl hw
 obtain ⟨V2,j2,_⟩:=h.join
 have hw:=h.inW
 rw [h.bas] at j2 hw
 rw [turn_k,turn_k] at hw
 have f:=first_views (m:=turnM m) (ρ:=List.reverse) (K:=K) (rs:=rs) (k:=m.k) turn_k (turn_ok ok) j2 hw s.s.ord s.s.inW reach s.s.sp.ech s.s.len s.s.rows
 refine ⟨f.congr fun w l hw hl=>?_,s.s.tail,?_⟩
 ·show wtM m (l++w)=hankM (turnM m) w.reverse l
  rw [hank_wt l w.reverse (by rw [turn_k];exact hl),wt_turn fun x hx=>?_]
  ·rw [List.reverse_append,List.reverse_reverse,List.reverse_reverse]
  ·rcases List.mem_append.1 hx with hx|hx
   ·exact hw x (List.mem_reverse.1 hx)
   ·exact hl x (List.mem_reverse.1 hx)
 ·rw [← s.s.len]
  have hr:=rank_views (m:=turnM m) (U:=K.map List.reverse) (turn_ok ok) j2 s.s.sp.ech (fun r hr=>by
    have h1:=s.s.rows r hr
    rw [List.map_map];exact h1) (fun u hu=>by
    obtain ⟨x,hx,rfl⟩:=List.mem_map.1 hu
    rw [turn_k];exact inW_rev (s.s.inW x hx)) fun w hw=>by
    rw [turn_k] at hw
    have h1:=reach w.reverse (inW_rev hw)
    rw [show colW m w.reverse=viewM (turnM m) (basK (turnM (turnM m))) w by show viewM _ _ w.reverse.reverse=_;rw [List.reverse_reverse]] at h1
    refine h1.trans fun b hb=>?_
    obtain ⟨u,hu,rfl⟩:=List.mem_map.1 hb
    exact s.s.kept u (upTo_mem.1 hu).1
  rw [hr]
  have h1:=rank_mach (turnM m)
  rw [turn_k,tab_congr (g:=fun w=>wtM m w.reverse) fun w hw=>wt_turn hw] at h1
  have h2:=rank_turn (rank_mach m) h1
  rw [turn_k];exact h2
def blockV (s:List Int→Rat)(S:List (List Int))(u:List Int):List Rat:=S.map fun w=>s (u++w)
theorem block_get {s:List Int→Rat}{S:List (List Int)}{u:List Int}{j:Nat}(hj:j<S.length):(blockV s S u).getD j 0=s (u++S.getD j []):=by
 unfold blockV
 rw [gd9,List.getElem?_map,ge9 hj,gd9,ge9 hj];rfl
def rowsB (vs:List (List Rat)):List SRow:=vs.foldl addS []
theorem rowsB_snoc {vs:List (List Rat)}{v:List Rat}:rowsB (vs++[v])=addS (rowsB vs) v:=by unfold rowsB;rw [List.foldl_append];rfl
theorem rowsB_ok {n:Nat}(h1:1≤B):∀ (vs:List (List Rat)),(∀ v,v ∈ vs→v.length=n)→(∀ v,v ∈ vs→∀ i,sz (v.getD i 0)≤B)→SpOK n B (rowsB vs)∧SpanJ n vs (rowsB vs)∧∀ r,r ∈ rowsB vs→r.p=firstP r.v:=by
 intro vs
 induction hq:vs.length generalizing vs with
 | zero=>intro _ _;rw [List.eq_nil_of_length_eq_zero hq];exact ⟨SpOK.nil,SpanJ.nil,fun _ h=>by cases h⟩
 | succ q ih =>
  intro hl hz
  obtain ⟨P,x,rfl⟩:∃ u x,vs=u++[x]:=⟨vs.dropLast,vs.getLast (fun h=>by rw [h] at hq;cases hq),(List.dropLast_concat_getLast _).symm⟩
  rw [la9,ls9] at hq
  have hx:=hl x (List.mem_append.2 (.inr (List.mem_singleton.2 rfl)))
  obtain ⟨a,b,c⟩:=ih P (by omega) (fun v hv=>hl v (List.mem_append.2 (.inl hv))) (fun v hv=>hz v (List.mem_append.2 (.inl hv)))
  rw [rowsB_snoc]
  exact ⟨a.add hx h1 (hz x (List.mem_append.2 (.inr (List.mem_singleton.2 rfl)))),b.add a.ech hx,lead_add c⟩
theorem block_grows {k:Nat}{s:List Int→Rat}{P S:List (List Int)}(f:FirstI k (fun u l=>s (u++l)) P)(g:FirstI k (fun w l=>s (l++w)) S)(h1:1≤B)(hz:∀ u,u ∈ P→∀ j,sz ((blockV s S u).getD j 0)≤B){i:Nat}(hi:i<P.length) :
  growsS (rowsB ((P.take i).map (blockV s S))) (blockV s S (P.getD i []))=true:=by
 refine Decidable.byContradiction fun hn=>?_
 have hl:∀ u,(blockV s S u).length=S.length:=fun u=>lm9 ..
 obtain ⟨sp,sj,_⟩:=rowsB_ok (n:=S.length) h1 ((P.take i).map (blockV s S)) (fun v hv=>by obtain ⟨u,_,rfl⟩:=List.mem_map.1 hv;exact hl u) fun v hv=>by
  obtain ⟨u,hu,rfl⟩:=List.mem_map.1 hv
  exact hz u (List.mem_of_mem_take hu)
 have h2:=(grows_iff sp.ech (hl _)).1 (Bool.eq_false_iff.2 hn)
 have h3:SpanV S.length ((P.take i).map (blockV s S)) (vf (blockV s S (P.getD i []))):=h2.trans fun b hb=>by
  obtain ⟨r,hr,rfl⟩:=List.mem_map.1 hb
  exact sj.rows r hr
 obtain ⟨c,hc⟩:=h3.coef
 have htl:((P.take i).map (blockV s S)).length=i:=by rw [lm9,List.length_take];omega
 rw [htl] at hc
 refine block_ind f g hi (c:=fun t=>if t<i then c t else 0) (fun t ht=>if_neg (by omega)) fun j hj=>?_
 have h4:=hc j hj
 rw [show vf (blockV s S (P.getD i [])) j=s (P.getD i []++S.getD j []) from block_get hj] at h4
 rw [h4]
 obtain ⟨d,hd⟩:∃ d,P.length=i+d:=⟨P.length-i,by omega⟩
 rw [hd,sumN_app,sumN_zero (f:=fun t=>(fun t=>if t<i then c t else 0) (i+t)*s (P.getD (i+t) []++S.getD j [])) fun t _=>by
  show (if i+t<i then c (i+t) else 0)*_=0
  rw [if_neg (by omega),Rat.zero_mul],Rat.add_zero]
 refine sumN_congr fun t ht=>?_
 show c t*_=(if t<i then c t else 0)*_
 rw [if_pos ht]
 congr 1
 have e:((P.take i).map (blockV s S)).getD t []=blockV s S (P.getD t []):=by
  rw [gd9,List.getElem?_map,List.getElem?_take,if_pos ht,ge9 (by omega),gd9,ge9 (by omega)];rfl
 rw [e,block_get hj]
end
open Classical in
noncomputable def preM (m:Mach):List (List Int):=if h:∃ K,FirstI m.k (fun u l=>wtM m (u++l)) K then h.choose else []
open Classical in
noncomputable def sufM (m:Mach):List (List Int):=if h:∃ K,SufK m K then h.choose else []
theorem preM_eq {m:Mach}{K:List (List Int)}(f:FirstI m.k (fun u l=>wtM m (u++l)) K):preM m=K:=by
 have h:∃ K,FirstI m.k (fun u l=>wtM m (u++l)) K:=⟨K,f⟩
 unfold preM
 rw [dif_pos h]
 exact h.choose_spec.unique f
theorem sufM_eq {m:Mach}{K:List (List Int)}(f:SufK m K):sufM m=K:=by
 have h:∃ K,SufK m K:=⟨K,f⟩
 unfold sufM
 rw [dif_pos h]
 exact h.choose_spec.unique f
end Go.AL
namespace Go.Proofs.YtfbblpngcmjooaaGreatDoor
open Go Go.AL
noncomputable abbrev bL (m:Mach):List (List Int):=basK (turnM m)
noncomputable abbrev dPre (m:Mach)(w:List Int):D:=.ag [ints w,dQs (vecM m w),dQs (viewM m (bL m) w)]
noncomputable abbrev vPre (m:Mach)(w:List Int):V:=.ag [.d (ints w),.d (dQs (vecM m w)),.d (dQs (viewM m (bL m) w))]
theorem vd_pre {m:Mach}{w:List Int}:VD (vPre m w) (dPre m w):=VD.ag (.cons (VC.d _) (.cons (VC.d _) (.cons (VC.d _) .nil)))
noncomputable abbrev vView (m:Mach):V:=.fn F.rows_Machine_Views_1 [.ref [dRows (turnM m) (bL m)]]
noncomputable def kP (m:Mach)(b bs bx bv:Nat):KM BSt:=⟨fun y=>boxS b y.2.1 y.1.rs,fun y=>rowV y.2.1 y.1.rs,fun y=>rowC y.2.1 y.1.rs,fun y=>rowP y.2.1 y.1.rs,fun _=>.box bs T.pSpace [.ptr 1000 b 0],fun y=>.box bx T.prexs [.osl 1006 y.2.2.1 y.1.ks.length y.2.2.2],fun y=>.row y.2.2.1 y.2.2.2 T.prex 3 (y.1.ks.map (dPre m)),fun _=>.box bv T.fnView [vView m]⟩
noncomputable def keepV (v:List Rat)(w:List Int)(y:KSt):Bool × KSt:=if growsS y.rs v=true then (true,⟨y.ks++[w],y.rs++[newR y.rs v]⟩) else (false,y)
theorem keepV_t {v:List Rat}{w:List Int}{y:KSt}(h:growsS y.rs v=true):keepV v w y=(true,⟨y.ks++[w],y.rs++[newR y.rs v]⟩):=if_pos h
theorem keepV_f {v:List Rat}{w:List Int}{y:KSt}(h:growsS y.rs v=false):keepV v w y=(false,y):=if_neg (by rw [h];exact Bool.false_ne_true)
structure BasT (m:Mach):Prop where
 inv:∃ z,InvS (turnM m) 16777215 [] z∧z.ks=bL m
theorem basT_of {m:Mach}{e:Nat}(ok:m.Ok)(z6:m.Sz e):BasT m:=⟨invS_ex (turn_ok ok) z6.n6 (by decide) fun w _ h6 i=>Nat.le_trans (vecM_sz z6.turn h6 i) (by decide)⟩
theorem BasT.len {m:Mach}(h:BasT m)(n6:m.n≤6):(bL m).length≤m.n∧(∀ l,l ∈ bL m→l.length≤5)∧∀ l,l ∈ bL m→InW m.k l:=by
 obtain ⟨z,hz,e⟩:=h.inv
 refine ⟨by rw [← e];exact hz.b.few.2,(bas_facts hz (show (turnM m).n≤6 from n6)).2.1,fun l hl=>?_⟩
 have:=(bas_facts hz (show (turnM m).n≤6 from n6)).2.2 l hl
 rwa [turn_k] at this
theorem keepV_rows {m:Mach}{L:List (List Int)}{w:List Int}{y:KSt}(h:y.rs=rowsB (y.ks.map (viewM m L))):(keepV (viewM m L w) w y).2.rs=rowsB ((keepV (viewM m L w) w y).2.ks.map (viewM m L)):=by
 cases hg:growsS y.rs (viewM m L w) with
 | true =>
  rw [keepV_t hg,List.map_append,List.map_cons,List.map_nil,rowsB_snoc,← h]
  exact (if_pos hg).symm
 | false=>rw [keepV_f hg];exact h
theorem invS_visW {m:Mach}{B:Nat}{Q:List (List Int)}{y:KSt}(h:InvS m B Q y):∀ w,w ∈ Q→InW m.k w:=fun w hw=>by
 obtain ⟨V,j,_⟩:=h.join
 exact j.bfs.inW w (.inr hw)
theorem invS_vis5 {m:Mach}{B:Nat}{Q:List (List Int)}{y:KSt}(h:InvS m B Q y)(n5:m.n≤5):∀ w,w ∈ Q→w.length≤5:=fun w hw=>by
 obtain ⟨V,j,_⟩:=h.join
 rcases j.bfs.par w hw with rfl|⟨u,hu,s,_,rfl⟩
 ·exact Nat.zero_le _
 ·obtain ⟨i,hi,rfl⟩:=List.mem_iff_getElem.1 hu
  have h1:=h.len.kept i _ (ge9 hi)
  have h2:=h.b.few
  rw [la9,ls9]
  omega
set_option maxRecDepth 8000 in
set_option maxHeartbeats 3200000 in
theorem prefixes_1 {m:Mach}{e b bs bx bv:Nat}{w:List Int}{y:KSt}{B:SpB}{bo co:Nat}(ok:m.Ok)(z6:m.Sz e)(hL:BasT m)(sp:SpOK (bL m).length 16777215 y.rs)(hw:w.length≤5)(hk:y.ks.length≤64):FSpecE P F.minimal_prefixes_1 [vRow m w,.ptr 1007 bv 0,.ptr 1004 bs 0,.ptr 1005 bx 0] (kmM (kP m b bs bx bv) (y,B,bo,co)) (fun z:Bool × BSt=>.d (dB z.1)) (fun z=>kmM (kP m b bs bx bv) z.2) (fun z=>z.1=(keepV (viewM m (bL m) w) w y).1∧z.2.1=(keepV (viewM m (bL m) w) w y).2):=by
 obtain ⟨ks,rs⟩:=y
 have sp:SpOK (bL m).length 16777215 rs:=sp
 have hk:ks.length≤64:=hk
 have n6:=z6.n6
 obtain ⟨hl6,hl5,_⟩:=hL.len n6
 have hvl:(viewM m (bL m) w).length=(bL m).length:=view_len
 have hvz:∀ j,sz ((viewM m (bL m) w).getD j 0)≤16777215:=fun j=>view_sz16 z6 hw hl5 j
 refine FSpecE.intro fn.minimal_prefixes_1 (by rfl) (by rfl) (nb9 (by rfl)) fun E hE=>(AW.sg hE rfl (bxA rfl rfl fun b4=>(asD rfl (OL.nil (AW.seq (AW.dg 1 [0,1,2,3,4,5,6,7] order_free hE rfl (by kernel_rfl) (OI.of_OL (os:=[_,_,_,_,_,_,_,_]) rfl ?_)))))))
 refine ldPA ag.Row rfl rfl (vs:=[_,_]) rfl (nb9 rfl) (ldPC ce.fnView rfl rfl rfl (faP fd.Row_1 rfl rfl (ldPC ce.Rats rfl rfl rfl (clv rfl .rq2 (Views_1 (m:=m) (L:=bL m) (u:=w) ok z6 (by omega) (by omega) (fun l hl=>Nat.le_succ_of_le (hl5 l hl))) (bd2 (cs:=[_,_,_]) z.prex pl.prex (pvC (evA rfl) (pvC (evD rfl) pvN)) (by rfl) (al z.prex rfl fun b6=>(sto sz.prex rfl rfl rfl rfl rfl (nb9 rfl) (cells2:=[_,_,_]) rfl ?_)))))))
 refine OL.nil (AW.seq (AW.seq (AW.regionK (by rw [hE];rfl) (SK.ofOL (ldPC ce.pSpace rfl rfl (v:=.ptr 1000 b 0) rfl (OL.nil ?_))))))
 refine SK.ofOL (faP fd.prex_1 rfl rfl (OL.nil ?_))
 refine SK.ofOL (ldPC ce.Rats rfl rfl (v:=.d (dQs (viewM m (bL m) w))) rfl (OL.nil ?_))
 refine SK.ofSO (SO.callE (args':=[.ptr 1000 b 0,.d (dQs (viewM m (bL m) w))]) (show 16<E.n by rw [hE];exact Nat.le_of_ble_eq_true (by rfl)) rfl (VLes.refl _) (Mc:=spM b B rs) (fun id blk hk=>lk_own (l:=spL b B rs) (.cons rfl (.cons rfl (.cons rfl (.cons rfl trivial)))) id blk hk) (AddS (b:=b) (B:=B) sp hvl (by omega) hvz) (fun x _ id hk=>spM_none id hk) ?_)
 rintro B2 -
 refine SK.ofOL (nt rfl (OL.nil ?_))
 refine SK.nil (AW.cond rfl (fun hg=>?_) (fun hg=>?_))
 ·have hg:growsS rs (viewM m (bL m) w)=false:=by simpa using hg
  rw [show addS rs (viewM m (bL m) w)=rs from if_neg (by rw [hg];exact Bool.false_ne_true)]
  refine AW.sg hE rfl (asD rfl (OL.nil ?_))
  exact AW.ret ⟨(false,(⟨ks,rs⟩,B2,bo,co)),⟨(congrArg Prod.fst (keepV_f (y:=⟨ks,rs⟩) hg)).symm,(congrArg Prod.snd (keepV_f (y:=⟨ks,rs⟩) hg)).symm⟩,⟨_,.tmp rfl .nil,.le vR⟩,fun id blk hk=>lk_own (l:=kmL (kP m b bs bx bv) (⟨ks,rs⟩,B2,bo,co)) (.cons rfl (.cons rfl (.cons rfl (.cons rfl (.cons rfl (.cons rfl (.cons rfl (.cons rfl trivial)))))))) id blk hk⟩
 ·have hg:growsS rs (viewM m (bL m) w)=true:=by simpa using hg
  rw [show addS rs (viewM m (bL m) w)=rs++[newR rs (viewM m (bL m) w)] from if_pos hg]
  refine AW.skip (AW.sg hE rfl (ldPC ce.prexs rfl rfl (v:=.osl 1006 bo ks.length co) rfl (ldPA ag.prex rfl rfl (vs:=[_,_,_]) rfl (nb9 rfl) (lt1 (y:=dPre m w) sl.prexs vd_pre rfl (by decide) ?_))))
  refine apO sl.prexs rfl rfl rfl (by rw [lm9]) (VC.d _) (fun y hy=>by rw [List.mem_singleton.1 hy];rfl) (by simp;omega) (by simp;omega) (.inl rfl) (ys:=(ks++[w]).map (dPre m)) (by rw [List.map_append];rfl) (n2:=ks.length+1) rfl fun b21 c21=>?_
  refine sto sz.prexs rfl rfl rfl rfl rfl (nb9 rfl) rfl (OL.nil (AW.seq ?_))
  have hln:(ks++[w]).length=ks.length+1:=la9
  refine AW.to [] [(1000,boxS b B2 (rs++[newR rs (viewM m (bL m) w)])),(1001,rowV B2 (rs++[newR rs (viewM m (bL m) w)])),(1002,rowC B2 (rs++[newR rs (viewM m (bL m) w)])),(1003,rowP B2 (rs++[newR rs (viewM m (bL m) w)])),(1004,.box bs T.pSpace [.ptr 1000 b 0]),(1005,.box bx T.prexs [.osl 21 b21 (ks.length+1) c21]),(21,.row b21 c21 T.prex 3 ((ks++[w]).map (dPre m))),(1007,.box bv T.fnView [vView m])] .nil (.cons rfl (.cons rfl (.cons rfl (.cons rfl (.cons rfl (.cons rfl (.cons rfl (.cons rfl (.nil))))))))) ?_
  refine AW.rename 21 1006 rfl (AW.boxW 1005 [.osl 1006 b21 (ks.length+1) c21] rfl (.cons VLe.osl .nil) ?_)
  refine AW.rg hE rfl (asD rfl (OL.nil ?_))
  exact AW.ret ⟨(true,(⟨ks++[w],rs++[newR rs (viewM m (bL m) w)]⟩,B2,b21,c21)),⟨(congrArg Prod.fst (keepV_t (y:=⟨ks,rs⟩) hg)).symm,(congrArg Prod.snd (keepV_t (y:=⟨ks,rs⟩) hg)).symm⟩,⟨_,.tmp rfl .nil,.le vR⟩,fun id blk hk=>lk_own (l:=kmL (kP m b bs bx bv) (⟨ks++[w],rs++[newR rs (viewM m (bL m) w)]⟩,B2,b21,c21)) (.cons rfl (.cons rfl (.cons rfl (.cons rfl (.cons rfl (.cons (by show _=some (Blk.box bx T.prexs [.osl 1006 b21 (ks++[w]).length c21]);rw [hln];rfl) (.cons rfl (.cons rfl trivial)))))))) id blk hk⟩
set_option maxRecDepth 8000 in
set_option maxHeartbeats 6400000 in
theorem prefixesQ {m mv:Mach}{e:Nat}(ok:m.Ok)(fl:m.Full)(z6:m.Sz e)(n1:1≤m.n)(n5:m.n≤5)(hL:BasT m)(v:ViewOf m mv):FSpecE P F.minimal_prefixes [vMach m] noMem (fun z:KSt × SpB × Nat=>.tup [.d (.sl (z.1.ks.map (dPre m))),.ptr 1000 z.2.2 0,vView m]) (fun z=>spM z.2.2 z.2.1 z.1.rs) (fun z=>InvS mv 16777215 [] z.1∧z.1.rs=rowsB (z.1.ks.map (viewM m (bL m)))):=by
 have n6:=z6.n6
 have k4:=z6.k2
 have hln:=hL.len n6
 have hvn:mv.n=(bL m).length:=v.n
 have hvk:mv.k=m.k:=v.k
 refine FSpecE.intro fn.minimal_prefixes (by rfl) (by rfl) (nb9 (by rfl)) fun E hE=>(AW.sg hE rfl (bxA rfl rfl fun b1=>(asM rfl (asD rfl (asD rfl (OL.nil (AW.sg hE rfl ?_)))))))
 refine al z.prexs rfl fun b5=>(OL.nil (AW.seq (AW.regionK (by rw [hE];rfl) (SK.ofOL (ldPA ag.Machine rfl rfl (vs:=[_,_,_]) rfl (nb9 rfl) (OL.nil ?_))))))
 refine SK.ofSO (SO.callE (args':=[vMach m]) (show 9<E.n by rw [hE];exact Nat.le_of_ble_eq_true (by rfl)) rfl (VLes.refl _) (Mc:=noMem) (fun _ _ h=>by cases h) (ViewsQ (m:=m) ok fl z6 n1) (fun _ _ _ h=>h) ?_)
 rintro y1 hI1
 have hI1:InvS (turnM m) 16777215 [] y1:=hI1
 rw [hI1.bas]
 refine SK.ofOL (bd z.Space pl.Space (cs:=[_,_,_]) rfl (OL.nil ?_))
 refine SK.ofOL (bxA rfl rfl fun b11=>OL.nil ?_)
 refine SK.ofOL (al z.fnView rfl fun b6=>OL.nil ?_)
 refine SK.ofOL (al z.pSpace rfl fun b7=>OL.nil ?_)
 refine SK.ofOL (sto sz.fnView rfl rfl rfl rfl rfl (nb9 rfl) (cells2:=[_]) rfl (OL.nil ?_))
 refine SK.ofOL (sto sz.pSpace rfl rfl rfl rfl rfl (nb9 rfl) (cells2:=[_]) rfl (OL.nil ?_))
 refine SK.nil (AW.seq (AW.rename 11 1000 rfl (AW.deadR 1001 T.Rats 1 rfl (AW.deadR 1002 T.Rats 1 rfl (AW.deadR 1003 T.int 1 rfl (AW.boxW 1000 [.osl 1001 0 0 0,.osl 1002 0 0 0,.osl 1003 0 0 0] rfl (.cons vle_mtO (.cons vle_mtO (.cons vle_mtO .nil))) (AW.rename 7 1004 rfl ?_)))))))
 refine AW.boxW 1004 [.ptr 1000 b11 0] rfl (.cons VLe.ptr .nil) (AW.rename 5 1005 rfl (AW.deadR 1006 T.prex 3 rfl (AW.boxW 1005 [.osl 1006 0 0 0] rfl (.cons vle_mtO .nil) (AW.rename 6 1007 rfl ?_))))
 refine AW.to [(1,.ptr 1 b1 0),(2,.mt),(5,.ptr 1005 b5 0),(6,.ptr 1007 b6 0),(7,.ptr 1004 b7 0)] ((1,.box b1 T.Machine [.d (dQs m.ini),.d (dQs m.fin),.d (.sl (m.mats.map dQss))])::kmL (kP m b11 b7 b5 b6) ((⟨[],[]⟩,(default:SpB),0,0):BSt)) (.cons VLe.ptr (.cons vR (.cons VLe.ptr (.cons VLe.ptr (.cons VLe.ptr .nil))))) (.cons rfl (.cons rfl (.cons rfl (.cons rfl (.cons rfl (.cons rfl (.cons rfl (.cons rfl (.cons rfl (.nil)))))))))) ?_
 refine AW.regionK (by rw [hE];rfl) (SK.ofOL (ldPA ag.Machine rfl rfl (vs:=[_,_,_]) rfl (nb9 rfl) (OL.nil ?_)))
 refine SK.ofOL (mkF (vs:=[_,_,_]) rfl (OL.nil ?_))
 refine SK.ofSO (SO.callE (args':=[vMach m,.fn F.minimal_prefixes_1 [.ptr 1007 b6 0,.ptr 1004 b7 0,.ptr 1005 b5 0]]) (show 14<E.n by rw [hE];exact Nat.le_of_ble_eq_true (by rfl)) rfl (VLes.refl _) (Mc:=kmM (kP m b11 b7 b5 b6) ((⟨[],[]⟩,(default:SpB),0,0):BSt)) (fun id blk hk=>lk_own (l:=kmL (kP m b11 b7 b5 b6) ((⟨[],[]⟩,(default:SpB),0,0):BSt)) (.cons rfl (.cons rfl (.cons rfl (.cons rfl (.cons rfl (.cons rfl (.cons rfl (.cons rfl trivial)))))))) id blk hk)
  (ExploreQ (m:=m) (k:=kP m b11 b7 b5 b6) (I:=fun Q y=>InvS mv 16777215 Q y.1∧y.1.rs=rowsB (y.1.ks.map (viewM m (bL m)))) (μ:=fun Q y=>leftM mv Q y.1.rs) ok fl z6 (fun Q y hI=>⟨hI.1.b.six (by omega),Nat.le_add_right _ _⟩)
   (fun w Q y hI=>FSpecE_mono (prefixes_1 (y:=y.1) (B:=y.2.1) (bo:=y.2.2.1) (co:=y.2.2.2) ok z6 hL (by rw [← hvn];exact hI.1.sp) (invS_vis5 hI.1 (by omega) w (List.mem_cons_self ..)) (by have:=hI.1.b.few;omega)) fun z hz=>by
    have hwi:InW m.k w:=by have h:=invS_visW hI.1 w (List.mem_cons_self ..);rwa [hvk] at h
    have hv:=v.vec w hwi
    have h9:=hI.1.next v.ok (by decide) (fun i=>by rw [hv];exact view_sz16 z6 (invS_vis5 hI.1 (by omega) w (List.mem_cons_self ..)) hln.2.1 i)
    have e9:keepB mv w y.1=keepV (viewM m (bL m) w) w y.1:=by unfold keepB keepV;rw [hv]
    rw [e9,← hz.1,← hz.2,hvk] at h9
    have hr:z.2.1.rs=rowsB (z.2.1.ks.map (viewM m (bL m))):=by rw [hz.2];exact keepV_rows hI.2
    exact ⟨fun ht=>⟨⟨(h9.1 ht).1,hr⟩,(h9.1 ht).2⟩,fun hf=>⟨⟨(h9.2 hf).1,hr⟩,(h9.2 hf).2⟩⟩) ⟨InvS.start mv 16777215,rfl⟩ (by
     show [([]:List Int)].length+(mv.k+1)*(mv.n-0)≤1000
     have h9:=Nat.mul_le_mul (show mv.k+1≤5 by omega) (show mv.n-0≤6 by omega)
     rw [ls9];omega)) (fun x _ id hk=>kmM_none id hk) ?_)
 rintro ⟨y,B,bo,co⟩ hI
 have hI:InvS mv 16777215 [] y∧y.rs=rowsB (y.ks.map (viewM m (bL m))):=hI
 refine SK.nil (AW.seq (AW.dg 1 [0,1,2,3,4,5] order_free hE rfl (by kernel_rfl) (OI.of_OL (os:=[_,_,_,_,_,_]) rfl ?_)))
 refine ldPC ce.prexs rfl rfl (v:=.osl 1006 bo y.ks.length co) rfl (ldPC ce.pSpace rfl rfl (v:=.ptr 1000 b11 0) rfl (ldPC ce.fnView rfl rfl (v:=vView m) rfl (asO rfl (asP rfl (asF rfl (OL.nil ?_))))))
 exact AW.ret ⟨(y,B,b11),hI,⟨_,.tmp rfl (.tmp rfl (.tmp rfl .nil)),_,.cons (RO.all rfl rfl (lm9 ..).symm rfl) (.cons (.le vR) (.cons (.le vR) .nil)),rfl⟩,fun id blk hk=>lk_own (l:=spL b11 B y.rs) (.cons rfl (.cons rfl (.cons rfl (.cons rfl trivial)))) id blk hk⟩
theorem wordsQ {m:Mach}{K:List (List Int)}(nK:K.length≤64)(hK:∀ u,u ∈ K→u.length≤64):FSpec P F.minimal_words [.d (.sl (K.map (dPre m)))] (.d (.sl (K.map ints))):=by
 refine FSpec.intro fn.minimal_words (by rfl) (by rfl) (nb9 (by rfl)) fun E hE=>(AW.sg hE rfl (asM rfl (OL.nil (AW.sg hE rfl (asM rfl (OL.nil (AW.seq ?_)))))))
 refine AW.seq (AW.own 3 18 T.ints 1 rfl rfl (AW.rg hE rfl (mvD rfl (lnL sl.prexs rfl rfl (mvD rfl (OL.nil (AW.block ?_)))))))
 refine AW.whileK (α:=Nat × Nat × Nat) [(2,_),(6,_),(7,_)] [] (fun (i,bq,cq)=>[(3,.osl 18 bq i cq),(8,.d (dI i))]) (fun (i,bq,cq)=>[(18,.row bq cq T.ints 1 ((K.take i).map ints))]) (fun (i,bq,cq)=>i≤K.length) (fun (i,bq,cq)=>K.length-i) (0,0,0) (.cons (knM rfl) (.cons (knD rfl) (.cons (knD rfl) .nil))) .nil ⟨Nat.zero_le _,.rq2,.cons rfl .nil⟩ ?_
 rintro ⟨i,bq,cq⟩ h1
 have h1:i≤K.length:=h1
 refine AW.sg hE rfl (c_lss rfl rfl rfl (OL.nil (AW.seq (AW.cond rfl (fun h9=>?_) (fun h9=>?_)))))
 ·try simp only [dx9] at h9
  refine AW.skip (AW.seq (AW.block (AW.seq ?_)))
  have hi:i<K.length:=by omega
  have hKi:=hK _ (getD_mem hi [])
  refine AW.rg hE rfl (ixLn sl.prexs [] rfl rfl hi rfl rfl (ldRA ag.prex rfl (vs:=[_,_,_]) rfl (nb9 rfl) (al z.prex rfl fun b5=>(sto sz.prex rfl rfl rfl rfl rfl (nb9 rfl) (cells2:=[_,_,_]) rfl (OL.nil (AW.rg hE rfl (mvO rfl ?_)))))))
  refine faP fd.prex_0 rfl rfl (faP fd.Row_0 rfl rfl (ldPC ce.ints rfl rfl rfl (clv rfl (VLes.refl _) (FSpecR.data (clone_intsR (l:=K.getD i []) (by omega)) (lm9 ..).symm) (lt1 (y:=ints (K.getD i [])) sl.intss (VC.d _).vd rfl (by decide) ?_))))
  refine apO sl.intss rfl rfl rfl (by rw [lm9,List.length_take];omega) (VC.d _) (fun y hy=>by rw [List.mem_singleton.1 hy];rfl) (by simp only [ls9];omega) (by simp only [ls9];omega) (.inr rfl) (ys:=(K.take (i+1)).map ints) (by rw [take_snoc9 [] hi,List.map_append];rfl) (n2:=i+1) rfl fun b18 c18=>?_
  exact asO rfl (OL.nil (AW.rg hE rfl (add_i64 rfl rfl (by omega) (mvD rfl (OL.nil (AW.again (x:=(i,bq,cq)) (i+1,b18,c18) (by (simp only [];omega)) ⟨by omega,Knows.app .rq3 .rq2,.cons rfl .nil⟩))))))
 ·try simp only [dx9] at h9
  refine AW.exit (AW.seq ?_)
  obtain rfl:i=K.length:=by omega
  exact AW.rg hE rfl (mvO rfl (asO rfl (OL.nil (AW.ret (RetQ.r ⟨_,.tmp rfl .nil,RO.all rfl rfl (by simp) (by rw [List.take_length])⟩)))))
set_option maxRecDepth 8000 in
set_option maxHeartbeats 1600000 in
theorem PrefixesA {a:Au}{s:Nat}(t:Au.Take a s)(s4:s≤4)(st5:a.st≤5):FSpec P F.minimal_Prefixes [vAu a] (.tup [.d (.sl ((preM (machL [a])).map ints)),.d (dI 0)]):=by
 obtain ⟨ok,fl,z6,hn⟩:=mach1 t s4
 have hst1:=t.st1
 have hsz:sizeL [a]=a.st:=size_one
 have hL:BasT (machL [a]):=basT_of ok z6
 obtain ⟨z,hz,hze⟩:=hL.inv
 obtain ⟨mv,v⟩:=view_of ok hz
 have hl6:=(hL.len (by omega)).1
 refine FSpec.intro fn.minimal_Prefixes (by rfl) (by rfl) (nb9 (by rfl)) fun E hE=>(AW.sg hE rfl (bxA rfl rfl fun b1=>(asM rfl (asD rfl (OL.nil (AW.seq (AW.sg hE rfl ?_)))))))
 refine ldPA ag.Auto rfl rfl (vs:=[_,_,_,_,_,_,_]) rfl (nb9 rfl) (lt1 (y:=dAu a) sl.Autos vd_au rfl (by decide) (clv rfl (VLes.refl _) (CheckA (l:=[a]) (s:=s) (fit1 t.fit) ⟨Nat.le_of_ble_eq_true rfl,Nat.le_of_ble_eq_true rfl⟩) (asD rfl (OL.nil (AW.sg hE rfl (mvD rfl (c_neq rfl rfl (c:=false) (by exact cne_f (by omega)) ?_)))))))
 refine OL.nil (AW.cond rfl (fun hno=>absurd hno (by decide)) (fun _=>?_))
 refine AW.skip (AW.seq (AW.regionK (by rw [hE];rfl) (SK.ofOL (ldPA ag.Auto rfl rfl (vs:=[_,_,_,_,_,_,_]) rfl (nb9 rfl) (OL.nil ?_)))))
 refine SK.ofOL (lt1 (y:=dAu a) sl.Autos vd_au rfl (by decide) (OL.nil ?_))
 refine SK.ofOL (clv rfl .rq1 (OfQ (l:=[a]) (by rw [show (([a]:List Au).getD 0 default).sym=s from t.fit.sym];exact fit1 t.fit) ⟨Nat.le_of_ble_eq_true rfl,Nat.le_of_ble_eq_true rfl⟩ (by omega) (by have:=t.fit.st;omega)) (OL.nil ?_))
 refine SK.ofSO (SO.callNews (args':=[vMach (machL [a])]) (show 18<E.n by rw [hE];exact Nat.le_of_ble_eq_true (by rfl)) rfl (VLes.refl _) (prefixesQ (m:=(machL [a])) (mv:=mv) ok fl z6 (by omega) (by omega) hL v) ?_)
 rintro ⟨y,B,b⟩ hI
 have hI:InvS mv 16777215 [] y∧y.rs=rowsB (y.ks.map (viewM (machL [a]) (bL (machL [a])))):=hI
 have e1:y.ks=preM (machL [a]):=(preM_eq (hz.first ok v hI.1)).symm
 have hvn:mv.n=(bL (machL [a])).length:=v.n
 have hfew:=hI.1.b.few
 have hfive:=hI.1.b.five (show mv.n≤6 by omega)
 rw [e1] at hfew hfive
 dsimp only
 rw [e1]
 refine SK.ofOL (mvT rfl (OL.nil ?_))
 refine SK.ofOL (ex rfl rfl (OL.nil ?_))
 refine SK.ofOL (ex rfl rfl (OL.nil ?_))
 refine SK.ofOL (ex rfl rfl (OL.nil ?_))
 refine SK.ofOL (asD rfl (OL.nil ?_))
 refine SK.ofOL (asP rfl (OL.nil ?_))
 refine SK.ofOL (asF rfl (OL.nil ?_))
 exact SK.nil (AW.sg hE rfl (mvD rfl (clv rfl (VLes.refl _) (wordsQ (m:=(machL [a])) (K:=preM (machL [a])) (by omega) (fun u hu=>Nat.le_trans (hfive u hu) (by decide))) (asD rfl (asD rfl (OL.nil (AW.ret (RetQ.r ⟨_,.tmp rfl (.tmp rfl .nil),_,.cons (.le vR) (.cons (.le vR) .nil),rfl⟩))))))))
end Go.Proofs.YtfbblpngcmjooaaGreatDoor
