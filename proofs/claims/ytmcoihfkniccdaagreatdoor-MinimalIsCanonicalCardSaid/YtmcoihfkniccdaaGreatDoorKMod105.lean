/-
  M, chapter 24: the minimal realisation, as the code makes it.
-/
import Derived.Test.YtmcoihfkniccdaaGreatDoorKMod103
import Derived.Test.YtmcoihfkniccdaaGreatDoorKMod102
set_option linter.unusedVariables false
set_option linter.unusedSimpArgs false
namespace Go.AL
open Go Go.BigFrame
section
variable {m:Mach}{B l:Nat}{y z:KSt}{K:List (List Int)}{rs:List SRow}
structure ViewOf (m mv:Mach):Prop where
 n:mv.n=(basK (turnM m)).length
 k:mv.k=m.k
 ok:mv.Ok
 vec:∀ w,InW m.k w→vecM mv w=viewM m (basK (turnM m)) w
 wt:∀ w,InW m.k w→wtM mv w=wtM m w
theorem view_of (ok:m.Ok)(h:InvS (turnM m) B [] z):∃ mv,ViewOf m mv:=by
 obtain ⟨V,j,_⟩:=h.join
 have hw:=h.inW
 rw [h.bas] at j hw
 rw [turn_k] at hw
 obtain ⟨mv,h1,h2,h3,h4,h5⟩:=view_mach ok j hw
 exact ⟨mv,h1,h2,h3,h4,h5⟩
theorem InvS.first (ok:m.Ok)(h:InvS (turnM m) B [] z){mv:Mach}(v:ViewOf m mv)(hy:InvS mv B [] y):FirstI m.k (fun u l=>wtM m (u++l)) y.ks:=by
 obtain ⟨V2,j2,_⟩:=h.join
 obtain ⟨V,j,_⟩:=hy.join
 have hw:=h.inW
 rw [h.bas] at j2 hw
 rw [turn_k] at hw
 have inw:∀ u,u ∈ y.ks→InW m.k u:=fun u hu=>by rw [← v.k];exact hy.inW u hu
 have f:=first_views (ρ:=id) (K:=y.ks) (rs:=y.rs) rfl ok j2 hw hy.ord inw (fun w hw=>by
   have h1:=j.bfs.reach w (by rw [v.k];exact hw) fun q hq=>by cases hq
   rw [v.n,v.vec w hw] at h1
   refine h1.mono fun b hb=>?_
   obtain ⟨u,hu,rfl⟩:=mm9 hb
   exact List.mem_map.2 ⟨u,hu,(v.vec u (inw u (upTo_mem.1 hu).1)).symm⟩) (by rw [← v.n];exact j.ech) j.len fun r hr=>by
   have h1:=j.rows r hr
   rw [v.n] at h1
   refine h1.mono fun b hb=>?_
   obtain ⟨u,hu,rfl⟩:=mm9 hb
   exact List.mem_map.2 ⟨u,hu,(v.vec u (inw u hu)).symm⟩
 refine f.rev.congr fun u l _ hl=>?_
 show wtM m (u++l)=hankM m u l.reverse
 rw [hank_wt l.reverse u (inW_rev hl),List.reverse_reverse]
theorem InvS.rank (ok:m.Ok)(h:InvS (turnM m) B [] z){mv:Mach}(v:ViewOf m mv)(hy:InvS mv B [] y):y.ks.length=rankF m.k (wtM m):=by
 obtain ⟨V2,j2,_⟩:=h.join
 rw [h.bas] at j2
 exact prefix_rank ok j2 v.n v.k v.vec hy
theorem index_len (ho:K.Pairwise fun a b=>slx a b<0)(hp:∀ u,u ∈ K→u≠[]→∃ x,x ∈ K∧x.length+1=u.length):∀ (q i:Nat) (hi:i<K.length),K[i].length=q→q≤i:=by
 intro q
 induction q with
 | zero=>intro i _ _;exact Nat.zero_le _
 | succ q ih =>
  intro i hi hq
  obtain ⟨x,hx,hxl⟩:=hp K[i] (List.getElem_mem hi) fun e=>by rw [e] at hq;cases hq
  obtain ⟨t,ht,rfl⟩:=List.mem_iff_getElem.1 hx
  have h1:=ih t ht (by omega)
  have h2:t<i:=by
   rcases Nat.lt_trichotomy t i with g|g|g
   ·exact g
   ·subst g;omega
   ·have h3:=List.pairwise_iff_getElem.1 ho i t hi ht g
    have h4:=slx_len (Int.le_of_lt h3)
    omega
  omega
theorem short_words (ho:K.Pairwise fun a b=>slx a b<0)(hp:∀ u,u ∈ K→u≠[]→∃ x,x ∈ K∧x.length+1=u.length):∀ u,u ∈ K→u.length<K.length:=fun u hu=>by
 obtain ⟨i,hi,rfl⟩:=List.mem_iff_getElem.1 hu
 exact Nat.lt_of_le_of_lt (index_len ho hp _ i hi rfl) hi
theorem InvS.short (h:InvS m B [] y):∀ u,u ∈ y.ks→u.length<y.ks.length:=short_words h.ord fun u hu hne=>⟨u.dropLast,h.closed hu hne,by
 have:=List.length_pos_iff.2 hne
 rw [List.length_dropLast];omega⟩
structure SufK (m:Mach) (K:List (List Int)):Prop where
 first:FirstI m.k (fun w l=>wtM m (l++w)) K
 tail:∀ s u,s::u ∈ K→u ∈ K
 rank:K.length=rankF m.k (wtM m)
theorem SufK.unique {K':List (List Int)}(h:SufK m K)(h':SufK m K'):K=K':=h.first.unique h'.first
theorem SufK.short (h:SufK m K):∀ u,u ∈ K→u.length<K.length:=short_words h.first.ord fun u hu hne=>by
 cases u with
 | nil=>exact absurd rfl hne
 | cons s u=>exact ⟨u,h.tail s u hu,rfl⟩
noncomputable abbrev colW (m:Mach):List Int→List Rat:=fun w=>viewM (turnM m) (basK (turnM (turnM m))) w.reverse
theorem stepF_col (ok:m.Ok)(h:InvS (turnM (turnM m)) B [] z):StepF m.k (basK (turnM (turnM m))).length (colW m):=by
 obtain ⟨mv,v⟩:=view_of (turn_ok ok) h
 exact ⟨mv,v.n,v.k.trans turn_k,fun w hw=>(v.vec w.reverse (by rw [turn_k];exact inW_rev hw)).symm⟩
theorem SufO.fin (ok:m.Ok)(hk:1≤m.k)(h:InvS (turnM (turnM m)) B [] z)(s:SufO m.k (basK (turnM (turnM m))).length B (colW m) l [] K rs):SufK m K:=by
 have hf:=stepF_col ok h
 have all:=s.all hf hk
 have reach:∀ w,InW m.k w→SpanV (basK (turnM (turnM m))).length ((upTo K w).map (colW m)) (vf (colW m w)):=fun w hw=>all w.length w rfl hw
 obtain ⟨V2,j2,_⟩:=h.join
 have hw:=h.inW
 rw [h.bas] at j2 hw
 rw [turn_k,turn_k] at hw
 have f:=first_views (m:=turnM m) (ρ:=List.reverse) (K:=K) (rs:=rs) (k:=m.k) turn_k (turn_ok ok) j2 hw s.s.ord s.s.inW reach s.s.sp.ech s.s.len s.s.rows
 refine ⟨f.congr fun w l hw hl=>?_,s.s.tail,?_⟩
 ·show wtM m (l++w)=hankM (turnM m) w.reverse l
  rw [hank_wt l w.reverse (by rw [turn_k];exact hl),wt_turn fun x hx=>?_]
  ·rw [List.reverse_append,List.reverse_reverse,List.reverse_reverse]
  ·rcases mp9 hx with hx|hx
   ·exact hw x (List.mem_reverse.1 hx)
   ·exact hl x (List.mem_reverse.1 hx)
 ·rw [← s.s.len]
  have hr:=rank_views (m:=turnM m) (U:=K.map List.reverse) (turn_ok ok) j2 s.s.sp.ech (fun r hr=>by
    have h1:=s.s.rows r hr
    rw [List.map_map];exact h1) (fun u hu=>by
    obtain ⟨x,hx,rfl⟩:=mm9 hu
    rw [turn_k];exact inW_rev (s.s.inW x hx)) fun w hw=>by
    rw [turn_k] at hw
    have h1:=reach w.reverse (inW_rev hw)
    rw [show colW m w.reverse=viewM (turnM m) (basK (turnM (turnM m))) w by show viewM _ _ w.reverse.reverse=_;rw [List.reverse_reverse]] at h1
    refine h1.trans fun b hb=>?_
    obtain ⟨u,hu,rfl⟩:=mm9 hb
    exact s.s.kept u (upTo_mem.1 hu).1
  rw [hr]
  have h1:=rank_mach (turnM m)
  rw [turn_k,tab_congr (g:=fun w=>wtM m w.reverse) fun w hw=>wt_turn hw] at h1
  have h2:=rank_turn (rank_mach m) h1
  rw [turn_k];exact h2
def rowsB (vs:List (List Rat)):List SRow:=vs.foldl addS []
theorem rowsB_snoc {vs:List (List Rat)}{v:List Rat}:rowsB (vs++[v])=addS (rowsB vs) v:=by unfold rowsB;rw [List.foldl_append];rfl
theorem rowsB_ok {n:Nat}(h1:1≤B):∀ (vs:List (List Rat)),(∀ v,v ∈ vs→v.length=n)→(∀ v,v ∈ vs→∀ i,sz (v.getD i 0)≤B)→SpOK n B (rowsB vs)∧SpanJ n vs (rowsB vs)∧∀ r,r ∈ rowsB vs→r.p=firstP r.v:=by
 intro vs
 induction hq:vs.length generalizing vs with
 | zero=>intro _ _;rw [en9 hq];exact ⟨SpOK.nil,SpanJ.nil,fun _ h=>by cases h⟩
 | succ q ih =>
  intro hl hz
  obtain ⟨P,x,rfl⟩:∃ u x,vs=u++[x]:=⟨vs.dropLast,vs.getLast (fun h=>by rw [h] at hq;cases hq),(List.dropLast_concat_getLast _).symm⟩
  rw [la9,ls9] at hq
  have hx:=hl x (List.mem_append.2 (.inr (List.mem_singleton.2 rfl)))
  obtain ⟨a,b,c⟩:=ih P (by omega) (fun v hv=>hl v (List.mem_append.2 (.inl hv))) (fun v hv=>hz v (List.mem_append.2 (.inl hv)))
  rw [rowsB_snoc]
  exact ⟨a.add hx h1 (hz x (List.mem_append.2 (.inr (List.mem_singleton.2 rfl)))),b.add a.ech hx,lead_add c⟩
end
open Classical in
noncomputable def preM (m:Mach):List (List Int):=if h:∃ K,FirstI m.k (fun u l=>wtM m (u++l)) K then h.choose else []
open Classical in
noncomputable def sufM (m:Mach):List (List Int):=if h:∃ K,SufK m K then h.choose else []
theorem preM_eq {m:Mach}{K:List (List Int)}(f:FirstI m.k (fun u l=>wtM m (u++l)) K):preM m=K:=by
 have h:∃ K,FirstI m.k (fun u l=>wtM m (u++l)) K:=⟨K,f⟩
 unfold preM
 rw [dif_pos h]
 exact h.choose_spec.unique f
theorem sufM_eq {m:Mach}{K:List (List Int)}(f:SufK m K):sufM m=K:=by
 have h:∃ K,SufK m K:=⟨K,f⟩
 unfold sufM
 rw [dif_pos h]
 exact h.choose_spec.unique f
end Go.AL
namespace Go.Proofs.YtmcoihfkniccdaaGreatDoor
open Go Go.AL
noncomputable abbrev bL (m:Mach):List (List Int):=basK (turnM m)
noncomputable abbrev dPre (m:Mach)(w:List Int):D:=.ag [ints w,dQs (vecM m w),dQs (viewM m (bL m) w)]
noncomputable abbrev vPre (m:Mach)(w:List Int):V:=.ag [.d (ints w),.d (dQs (vecM m w)),.d (dQs (viewM m (bL m) w))]
theorem vd_pre {m:Mach}{w:List Int}:VD (vPre m w) (dPre m w):=VD.ag (.cons (VC.d _) (.cons (VC.d _) (.cons (VC.d _) .nil)))
noncomputable abbrev vView (m:Mach):V:=.fn F.rows_Machine_Views_1 [.ref [dRows (turnM m) (bL m)]]
noncomputable def kP (m:Mach)(b bs bx bv:Nat):KM BSt:=⟨fun y=>boxS b y.2.1 y.1.rs,fun y=>rowV y.2.1 y.1.rs,fun y=>rowC y.2.1 y.1.rs,fun y=>rowP y.2.1 y.1.rs,fun _=>.box bs T.pSpace [.ptr 1000 b 0],fun y=>.box bx T.prexs [.osl 1006 y.2.2.1 y.1.ks.length y.2.2.2],fun y=>.row y.2.2.1 y.2.2.2 T.prex 3 (y.1.ks.map (dPre m)),fun _=>.box bv T.fnView [vView m]⟩
noncomputable def keepV (v:List Rat)(w:List Int)(y:KSt):Bool × KSt:=if growsS y.rs v=true then (true,⟨y.ks++[w],y.rs++[newR y.rs v]⟩) else (false,y)
theorem keepV_t {v:List Rat}{w:List Int}{y:KSt}(h:growsS y.rs v=true):keepV v w y=(true,⟨y.ks++[w],y.rs++[newR y.rs v]⟩):=if_pos h
theorem keepV_f {v:List Rat}{w:List Int}{y:KSt}(h:growsS y.rs v=false):keepV v w y=(false,y):=if_neg (by rw [h];exact Bool.false_ne_true)
structure BasT (m:Mach):Prop where
 inv:∃ z,InvS (turnM m) 16777215 [] z∧z.ks=bL m
theorem basT_of {m:Mach}{e:Nat}(ok:m.Ok)(z6:m.Sz e):BasT m:=⟨invS_ex (turn_ok ok) z6.n6 (by decide) fun w _ h6 i=>Nat.le_trans (vecM_sz z6.turn h6 i) (by decide)⟩
theorem BasT.len {m:Mach}(h:BasT m)(n6:m.n≤6):(bL m).length≤m.n∧(∀ l,l ∈ bL m→l.length≤5)∧∀ l,l ∈ bL m→InW m.k l:=by
 obtain ⟨z,hz,e⟩:=h.inv
 refine ⟨by rw [← e];exact hz.b.few.2,(bas_facts hz (show (turnM m).n≤6 from n6)).2.1,fun l hl=>?_⟩
 have:=(bas_facts hz (show (turnM m).n≤6 from n6)).2.2 l hl
 rwa [turn_k] at this
theorem keepV_rows {m:Mach}{L:List (List Int)}{w:List Int}{y:KSt}(h:y.rs=rowsB (y.ks.map (viewM m L))):(keepV (viewM m L w) w y).2.rs=rowsB ((keepV (viewM m L w) w y).2.ks.map (viewM m L)):=by
 cases hg:growsS y.rs (viewM m L w) with
 | true =>
  rw [keepV_t hg,List.map_append,List.map_cons,List.map_nil,rowsB_snoc,← h]
  exact (if_pos hg).symm
 | false=>rw [keepV_f hg];exact h
theorem invS_visW {m:Mach}{B:Nat}{Q:List (List Int)}{y:KSt}(h:InvS m B Q y):∀ w,w ∈ Q→InW m.k w:=fun w hw=>by
 obtain ⟨V,j,_⟩:=h.join
 exact j.bfs.inW w (.inr hw)
theorem invS_vis5 {m:Mach}{B:Nat}{Q:List (List Int)}{y:KSt}(h:InvS m B Q y)(n5:m.n≤5):∀ w,w ∈ Q→w.length≤5:=fun w hw=>by
 obtain ⟨V,j,_⟩:=h.join
 rcases j.bfs.par w hw with rfl|⟨u,hu,s,_,rfl⟩
 ·exact Nat.zero_le _
 ·obtain ⟨i,hi,rfl⟩:=List.mem_iff_getElem.1 hu
  have h1:=h.len.kept i _ (ge9 hi)
  have h2:=h.b.few
  rw [la9,ls9]
  omega
set_option maxRecDepth 8000 in
set_option maxHeartbeats 3200000 in
theorem prefixes_1 {m:Mach}{e b bs bx bv:Nat}{w:List Int}{y:KSt}{B:SpB}{bo co:Nat}(ok:m.Ok)(z6:m.Sz e)(hL:BasT m)(sp:SpOK (bL m).length 16777215 y.rs)(hw:w.length≤5)(hk:y.ks.length≤64):FSpecE P F.minimal_prefixes_1 [vRow m w,.ptr 1007 bv 0,.ptr 1004 bs 0,.ptr 1005 bx 0] (kmM (kP m b bs bx bv) (y,B,bo,co)) (fun z:Bool × BSt=>.d (dB z.1)) (fun z=>kmM (kP m b bs bx bv) z.2) (fun z=>z.1=(keepV (viewM m (bL m) w) w y).1∧z.2.1=(keepV (viewM m (bL m) w) w y).2):=by
 obtain ⟨ks,rs⟩:=y
 have sp:SpOK (bL m).length 16777215 rs:=sp
 have hk:ks.length≤64:=hk
 have n6:=z6.n6
 obtain ⟨hl6,hl5,_⟩:=hL.len n6
 have hvl:(viewM m (bL m) w).length=(bL m).length:=view_len
 have hvz:∀ j,sz ((viewM m (bL m) w).getD j 0)≤16777215:=fun j=>view_sz16 z6 hw hl5 j
 refine FSpecE.intro fn.minimal_prefixes_1 (by rfl) (by rfl) (nb9 (by rfl)) fun E hE=>(AW.sg hE rfl (bxA rfl rfl fun b4=>(asD rfl (OL.nil (AW.seq (AW.dg 1 [0,1,2,3,4,5,6,7] order_free hE rfl (by kernel_rfl) (OI.of_OL (os:=[_,_,_,_,_,_,_,_]) rfl ?_)))))))
 refine ldPA ag.Row rfl rfl (vs:=[_,_]) rfl (nb9 rfl) (ldPC ce.fnView rfl rfl rfl (faP fd.Row_1 rfl rfl (ldPC ce.Rats rfl rfl rfl (clv rfl .rq2 (Views_1 (m:=m) (L:=bL m) (u:=w) ok z6 (by omega) (by omega) (fun l hl=>Nat.le_succ_of_le (hl5 l hl))) (bd2 (cs:=[_,_,_]) z.prex pl.prex (pvC (evA rfl) (pvC (evD rfl) pvN)) (by rfl) (al z.prex rfl fun b6=>(sto sz.prex rfl rfl rfl rfl rfl (nb9 rfl) (cells2:=[_,_,_]) rfl ?_)))))))
 refine OL.nil (AW.seq (AW.seq (AW.regionK (by rw [hE];rfl) (SK.ofOL (ldPC ce.pSpace rfl rfl (v:=.ptr 1000 b 0) rfl (OL.nil ?_))))))
 refine SK.ofOL (faP fd.prex_1 rfl rfl (OL.nil ?_))
 refine SK.ofOL (ldPC ce.Rats rfl rfl (v:=.d (dQs (viewM m (bL m) w))) rfl (OL.nil ?_))
 refine SK.ofSO (SO.callE (args':=[.ptr 1000 b 0,.d (dQs (viewM m (bL m) w))]) (show 16<E.n by rw [hE];exact Nat.le_of_ble_eq_true (by rfl)) rfl vL (Mc:=spM b B rs) (fun id blk hk=>lk_own (l:=spL b B rs) (.cons rfl (.cons rfl (.cons rfl (.cons rfl trivial)))) id blk hk) (AddS (b:=b) (B:=B) sp hvl (by omega) hvz) (fun x _ id hk=>spM_none id hk) ?_)
 rintro B2 -
 refine SK.ofOL (nt rfl (OL.nil ?_))
 refine SK.nil (AW.cond rfl (fun hg=>?_) (fun hg=>?_))
 ·have hg:growsS rs (viewM m (bL m) w)=false:=by simpa using hg
  rw [show addS rs (viewM m (bL m) w)=rs from if_neg (by rw [hg];exact Bool.false_ne_true)]
  refine AW.sg hE rfl (asD rfl (OL.nil ?_))
  exact AW.ret ⟨(false,(⟨ks,rs⟩,B2,bo,co)),⟨(congrArg Prod.fst (keepV_f (y:=⟨ks,rs⟩) hg)).symm,(congrArg Prod.snd (keepV_f (y:=⟨ks,rs⟩) hg)).symm⟩,⟨_,.tmp rfl .nil,.le vR⟩,fun id blk hk=>lk_own (l:=kmL (kP m b bs bx bv) (⟨ks,rs⟩,B2,bo,co)) (.cons rfl (.cons rfl (.cons rfl (.cons rfl (.cons rfl (.cons rfl (.cons rfl (.cons rfl trivial)))))))) id blk hk⟩
 ·have hg:growsS rs (viewM m (bL m) w)=true:=by simpa using hg
  rw [show addS rs (viewM m (bL m) w)=rs++[newR rs (viewM m (bL m) w)] from if_pos hg]
  refine AW.skip (AW.sg hE rfl (ldPC ce.prexs rfl rfl (v:=.osl 1006 bo ks.length co) rfl (ldPA ag.prex rfl rfl (vs:=[_,_,_]) rfl (nb9 rfl) (lt1 (y:=dPre m w) sl.prexs vd_pre rfl (by decide) ?_))))
  refine apO sl.prexs rfl rfl rfl (by rw [lm9]) (VC.d _) (fun y hy=>by rw [ms9 hy];rfl) (by simp;omega) (by simp;omega) (.inl rfl) (ys:=(ks++[w]).map (dPre m)) (by rw [List.map_append];rfl) (n2:=ks.length+1) rfl fun b21 c21=>?_
  refine sto sz.prexs rfl rfl rfl rfl rfl (nb9 rfl) rfl (OL.nil (AW.seq ?_))
  have hln:(ks++[w]).length=ks.length+1:=la9
  refine AW.to [] [(1000,boxS b B2 (rs++[newR rs (viewM m (bL m) w)])),(1001,rowV B2 (rs++[newR rs (viewM m (bL m) w)])),(1002,rowC B2 (rs++[newR rs (viewM m (bL m) w)])),(1003,rowP B2 (rs++[newR rs (viewM m (bL m) w)])),(1004,.box bs T.pSpace [.ptr 1000 b 0]),(1005,.box bx T.prexs [.osl 21 b21 (ks.length+1) c21]),(21,.row b21 c21 T.prex 3 ((ks++[w]).map (dPre m))),(1007,.box bv T.fnView [vView m])] .nil (.cons rfl (.cons rfl (.cons rfl (.cons rfl (.cons rfl (.cons rfl (.cons rfl (.cons rfl (.nil))))))))) ?_
  refine AW.rename 21 1006 rfl (AW.boxW 1005 [.osl 1006 b21 (ks.length+1) c21] rfl (.cons VLe.osl .nil) ?_)
  refine AW.rg hE rfl (asD rfl (OL.nil ?_))
  exact AW.ret ⟨(true,(⟨ks++[w],rs++[newR rs (viewM m (bL m) w)]⟩,B2,b21,c21)),⟨(congrArg Prod.fst (keepV_t (y:=⟨ks,rs⟩) hg)).symm,(congrArg Prod.snd (keepV_t (y:=⟨ks,rs⟩) hg)).symm⟩,⟨_,.tmp rfl .nil,.le vR⟩,fun id blk hk=>lk_own (l:=kmL (kP m b bs bx bv) (⟨ks++[w],rs++[newR rs (viewM m (bL m) w)]⟩,B2,b21,c21)) (.cons rfl (.cons rfl (.cons rfl (.cons rfl (.cons rfl (.cons (by show _=some (Blk.box bx T.prexs [.osl 1006 b21 (ks++[w]).length c21]);rw [hln];rfl) (.cons rfl (.cons rfl trivial)))))))) id blk hk⟩
set_option maxRecDepth 8000 in
set_option maxHeartbeats 6400000 in
theorem prefixesQ {m mv:Mach}{e:Nat}(ok:m.Ok)(fl:m.Full)(z6:m.Sz e)(n1:1≤m.n)(n5:m.n≤5)(hL:BasT m)(v:ViewOf m mv):FSpecE P F.minimal_prefixes [vMach m] noMem (fun z:KSt × SpB × Nat=>.tup [.d (.sl (z.1.ks.map (dPre m))),.ptr 1000 z.2.2 0,vView m]) (fun z=>spM z.2.2 z.2.1 z.1.rs) (fun z=>InvS mv 16777215 [] z.1∧z.1.rs=rowsB (z.1.ks.map (viewM m (bL m)))):=by
 have n6:=z6.n6
 have k4:=z6.k2
 have hln:=hL.len n6
 have hvn:mv.n=(bL m).length:=v.n
 have hvk:mv.k=m.k:=v.k
 refine FSpecE.intro fn.minimal_prefixes (by rfl) (by rfl) (nb9 (by rfl)) fun E hE=>(AW.sg hE rfl (bxA rfl rfl fun b1=>(asM rfl (asD rfl (asD rfl (OL.nil (AW.sg hE rfl ?_)))))))
 refine al z.prexs rfl fun b5=>(OL.nil (AW.seq (AW.regionK (by rw [hE];rfl) (SK.ofOL (ldPA ag.Machine rfl rfl (vs:=[_,_,_]) rfl (nb9 rfl) (OL.nil ?_))))))
 refine SK.ofSO (SO.callE (args':=[vMach m]) (show 9<E.n by rw [hE];exact Nat.le_of_ble_eq_true (by rfl)) rfl vL (Mc:=noMem) (fun _ _ h=>by cases h) (ViewsQ (m:=m) ok fl z6 n1) (fun _ _ _ h=>h) ?_)
 rintro y1 hI1
 have hI1:InvS (turnM m) 16777215 [] y1:=hI1
 rw [hI1.bas]
 refine SK.ofOL (bd z.Space pl.Space (cs:=[_,_,_]) rfl (OL.nil ?_))
 refine SK.ofOL (bxA rfl rfl fun b11=>OL.nil ?_)
 refine SK.ofOL (al z.fnView rfl fun b6=>OL.nil ?_)
 refine SK.ofOL (al z.pSpace rfl fun b7=>OL.nil ?_)
 refine SK.ofOL (sto sz.fnView rfl rfl rfl rfl rfl (nb9 rfl) (cells2:=[_]) rfl (OL.nil ?_))
 refine SK.ofOL (sto sz.pSpace rfl rfl rfl rfl rfl (nb9 rfl) (cells2:=[_]) rfl (OL.nil ?_))
 refine SK.nil (AW.seq (AW.rename 11 1000 rfl (AW.deadR 1001 T.Rats 1 rfl (AW.deadR 1002 T.Rats 1 rfl (AW.deadR 1003 T.int 1 rfl (AW.boxW 1000 [.osl 1001 0 0 0,.osl 1002 0 0 0,.osl 1003 0 0 0] rfl (.cons vle_mtO (.cons vle_mtO (.cons vle_mtO .nil))) (AW.rename 7 1004 rfl ?_)))))))
 refine AW.boxW 1004 [.ptr 1000 b11 0] rfl (.cons VLe.ptr .nil) (AW.rename 5 1005 rfl (AW.deadR 1006 T.prex 3 rfl (AW.boxW 1005 [.osl 1006 0 0 0] rfl (.cons vle_mtO .nil) (AW.rename 6 1007 rfl ?_))))
 refine AW.to [(1,.ptr 1 b1 0),(2,.mt),(5,.ptr 1005 b5 0),(6,.ptr 1007 b6 0),(7,.ptr 1004 b7 0)] ((1,.box b1 T.Machine [.d (dQs m.ini),.d (dQs m.fin),.d (.sl (m.mats.map dQss))])::kmL (kP m b11 b7 b5 b6) ((⟨[],[]⟩,(default:SpB),0,0):BSt)) (.cons VLe.ptr (.cons vR (.cons VLe.ptr (.cons VLe.ptr (.cons VLe.ptr .nil))))) (.cons rfl (.cons rfl (.cons rfl (.cons rfl (.cons rfl (.cons rfl (.cons rfl (.cons rfl (.cons rfl (.nil)))))))))) ?_
 refine AW.regionK (by rw [hE];rfl) (SK.ofOL (ldPA ag.Machine rfl rfl (vs:=[_,_,_]) rfl (nb9 rfl) (OL.nil ?_)))
 refine SK.ofOL (mkF (vs:=[_,_,_]) rfl (OL.nil ?_))
 refine SK.ofSO (SO.callE (args':=[vMach m,.fn F.minimal_prefixes_1 [.ptr 1007 b6 0,.ptr 1004 b7 0,.ptr 1005 b5 0]]) (show 14<E.n by rw [hE];exact Nat.le_of_ble_eq_true (by rfl)) rfl vL (Mc:=kmM (kP m b11 b7 b5 b6) ((⟨[],[]⟩,(default:SpB),0,0):BSt)) (fun id blk hk=>lk_own (l:=kmL (kP m b11 b7 b5 b6) ((⟨[],[]⟩,(default:SpB),0,0):BSt)) (.cons rfl (.cons rfl (.cons rfl (.cons rfl (.cons rfl (.cons rfl (.cons rfl (.cons rfl trivial)))))))) id blk hk)
  (ExploreQ (m:=m) (k:=kP m b11 b7 b5 b6) (I:=fun Q y=>InvS mv 16777215 Q y.1∧y.1.rs=rowsB (y.1.ks.map (viewM m (bL m)))) (μ:=fun Q y=>leftM mv Q y.1.rs) ok fl z6 (fun Q y hI=>⟨hI.1.b.six (by omega),Nat.le_add_right _ _⟩)
   (fun w Q y hI=>FSpecE_mono (prefixes_1 (y:=y.1) (B:=y.2.1) (bo:=y.2.2.1) (co:=y.2.2.2) ok z6 hL (by rw [← hvn];exact hI.1.sp) (invS_vis5 hI.1 (by omega) w mc9) (by have:=hI.1.b.few;omega)) fun z hz=>by
    have hwi:InW m.k w:=by have h:=invS_visW hI.1 w mc9;rwa [hvk] at h
    have hv:=v.vec w hwi
    have h9:=hI.1.next v.ok (by decide) (fun i=>by rw [hv];exact view_sz16 z6 (invS_vis5 hI.1 (by omega) w mc9) hln.2.1 i)
    have e9:keepB mv w y.1=keepV (viewM m (bL m) w) w y.1:=by unfold keepB keepV;rw [hv]
    rw [e9,← hz.1,← hz.2,hvk] at h9
    have hr:z.2.1.rs=rowsB (z.2.1.ks.map (viewM m (bL m))):=by rw [hz.2];exact keepV_rows hI.2
    exact ⟨fun ht=>⟨⟨(h9.1 ht).1,hr⟩,(h9.1 ht).2⟩,fun hf=>⟨⟨(h9.2 hf).1,hr⟩,(h9.2 hf).2⟩⟩) ⟨InvS.start mv 16777215,rfl⟩ (by
     show [([]:List Int)].length+(mv.k+1)*(mv.n-0)≤1000
     have h9:=Nat.mul_le_mul (show mv.k+1≤5 by omega) (show mv.n-0≤6 by omega)
     rw [ls9];omega)) (fun x _ id hk=>kmM_none id hk) ?_)
 rintro ⟨y,B,bo,co⟩ hI
 have hI:InvS mv 16777215 [] y∧y.rs=rowsB (y.ks.map (viewM m (bL m))):=hI
 refine SK.nil (AW.seq (AW.dg 1 [0,1,2,3,4,5] order_free hE rfl (by kernel_rfl) (OI.of_OL (os:=[_,_,_,_,_,_]) rfl ?_)))
 refine ldPC ce.prexs rfl rfl (v:=.osl 1006 bo y.ks.length co) rfl (ldPC ce.pSpace rfl rfl (v:=.ptr 1000 b11 0) rfl (ldPC ce.fnView rfl rfl (v:=vView m) rfl (asO rfl (asP rfl (asF rfl (OL.nil ?_))))))
 exact AW.ret ⟨(y,B,b11),hI,⟨_,.tmp rfl (.tmp rfl (.tmp rfl .nil)),_,.cons (RO.all rfl rfl (lm9 ..).symm rfl) (.cons (.le vR) (.cons (.le vR) .nil)),rfl⟩,fun id blk hk=>lk_own (l:=spL b11 B y.rs) (.cons rfl (.cons rfl (.cons rfl (.cons rfl trivial)))) id blk hk⟩
end Go.Proofs.YtmcoihfkniccdaaGreatDoor
namespace Go.AL
open Go Go.BigFrame
noncomputable def coefN (m:Mach)(K:List (List Int))(i s:Nat):List Rat:=takenS (rowsB (K.map (viewM m (basK (turnM m))))) (viewM m (basK (turnM m)) (K.getD i []++[((s+1:Nat):Int)]))
noncomputable def arcJ (m:Mach)(K:List (List Int))(i s j:Nat):Arc9:=⟨i,s+1,j,(coefN m K i s).getD j 0⟩
noncomputable def arcS (m:Mach)(K:List (List Int))(i s:Nat):List Arc9:=(List.range K.length).map (arcJ m K i s)
noncomputable def arcI (m:Mach)(K:List (List Int))(i:Nat):List Arc9:=(List.range m.k).flatMap (arcS m K i)
noncomputable def arcN (m:Mach)(K:List (List Int)):List Arc9:=(List.range K.length).flatMap (arcI m K)
noncomputable def arcX (m:Mach)(K:List (List Int))(i:Nat):List Arc9:=(List.range i).flatMap (arcI m K)
noncomputable def arcY (m:Mach)(K:List (List Int))(i s:Nat):List Arc9:=arcX m K i++(List.range s).flatMap (arcS m K i)
noncomputable def arcZ (m:Mach)(K:List (List Int))(i s j:Nat):List Arc9:=arcY m K i s++(List.range j).map (arcJ m K i s)
def iniN (n:Nat):List Rat:=(List.range n).map fun i=>if i=0 then 1 else 0
section
variable {m:Mach}{K:List (List Int)}{i s j n B e:Nat}{u:List Int}{rs:List SRow}
theorem flat_succ {α:Type}(f:Nat→List α)(k:Nat):(List.range (k+1)).flatMap f=(List.range k).flatMap f++f k:=by
 rw [List.range_succ,List.flatMap_append,List.flatMap_cons,List.flatMap_nil,List.append_nil]
theorem arcZ_succ:arcZ m K i s (j+1)=arcZ m K i s j++[arcJ m K i s j]:=by
 unfold arcZ
 rw [List.range_succ,List.map_append,← List.append_assoc];rfl
theorem arcZ_zero:arcZ m K i s 0=arcY m K i s:=List.append_nil _
theorem arcZ_all:arcZ m K i s K.length=arcY m K i (s+1):=by
 unfold arcZ arcY
 rw [flat_succ,← List.append_assoc];rfl
theorem arcY_zero:arcY m K i 0=arcX m K i:=List.append_nil _
theorem arcY_all:arcY m K i m.k=arcX m K (i+1):=by
 unfold arcY arcX
 rw [flat_succ];rfl
theorem arcX_all:arcX m K K.length=arcN m K:=rfl
theorem iniN_len:(iniN n).length=n:=by simp [iniN]
theorem arcN_mem {x:Arc9}:x ∈ arcN m K ↔ ∃ i,i<K.length∧∃ s,s<m.k∧∃ j,j<K.length∧x=arcJ m K i s j:=by
 unfold arcN
 rw [List.mem_flatMap]
 constructor
 ·rintro ⟨i,hi,h⟩
  obtain ⟨s,hs,h⟩:=List.mem_flatMap.1 h
  obtain ⟨j,hj,rfl⟩:=mm9 h
  exact ⟨i,List.mem_range.1 hi,s,List.mem_range.1 hs,j,List.mem_range.1 hj,rfl⟩
 ·rintro ⟨i,hi,s,hs,j,hj,rfl⟩
  exact ⟨i,List.mem_range.2 hi,List.mem_flatMap.2 ⟨s,List.mem_range.2 hs,List.mem_map.2 ⟨j,List.mem_range.2 hj,rfl⟩⟩⟩
theorem flat_len {α:Type}{f:Nat→List α}{c:Nat}(h:∀ i,(f i).length=c):∀ k,((List.range k).flatMap f).length=k*c
 | 0=>by rw [Nat.zero_mul];rfl
 | k+1=>by rw [flat_succ,la9,flat_len h k,h,Nat.succ_mul]
theorem arcS_len:(arcS m K i s).length=K.length:=by simp [arcS]
theorem arcI_len:(arcI m K i).length=m.k*K.length:=flat_len (fun _=>arcS_len) m.k
theorem arcX_len:(arcX m K i).length=i*(m.k*K.length):=flat_len (fun _=>arcI_len) i
theorem arcY_len:(arcY m K i s).length=i*(m.k*K.length)+s*K.length:=by
 unfold arcY
 rw [la9,arcX_len,flat_len (fun _=>arcS_len)]
theorem arcZ_len:(arcZ m K i s j).length=i*(m.k*K.length)+s*K.length+j:=by
 unfold arcZ
 rw [la9,arcY_len,lm9,List.length_range]
theorem view_sz3 {L:List (List Int)}(z:m.Sz e)(hu:u.length≤3)(hL:∀ l,l ∈ L→l.length≤3)(i:Nat):sz ((viewM m L u).getD i 0)≤201700:=by
 have bound:∀ {m:Mach},m.Sz e→∀ {w:List Int},w.length≤3→∀ i,sz ((vecM m w).getD i 0)≤16807:=fun {m} z {w} hw i=>by
  have h:=vecM_szE z w.length w rfl i
  have h1:7 ^ w.length≤343:=Nat.pow_le_pow_right (n:=7) (by decide) hw
  have h2:7 ^ w.length*(2*e+1)≤343*49:=Nat.mul_le_mul h1 (by have:=z.e24;omega)
  omega
 rcases Nat.lt_or_ge i L.length with hi|hi
 ·rw [view_get hi]
  have h:=dot_sz (n:=m.n) z.n6 (bound z hu) (bound z.turn (hL _ (getD_mem hi [])))
  exact Nat.le_trans h (by omega)
 ·rw [getD_outQ (by rw [view_len];exact hi),sz_zero];decide
theorem taken_sz {w:List Rat}(h:SzR B rs)(h1:1≤B)(hw:∀ i,sz (w.getD i 0)≤B)(i:Nat):sz ((takenS rs w).getD i 0)+1≤4 ^ rs.length*(B+1):=h.redC h1 hw rs.length i
theorem coefN_len:(coefN m K i s).length=(rowsB (K.map (viewM m (basK (turnM m))))).length:=takenS_len _ _
theorem coefN_sz (z:m.Sz e)(hL:∀ l,l ∈ basK (turnM m)→l.length≤3)(hK:∀ u,u ∈ K→u.length≤2)(h3:K.length≤3)(hr:(rowsB (K.map (viewM m (basK (turnM m))))).length≤3)(i s j:Nat):sz ((coefN m K i s).getD j 0)≤134217728:=by
 have hv:∀ v,v ∈ K.map (viewM m (basK (turnM m)))→∀ i,sz (v.getD i 0)≤201700:=fun v hv i=>by
  obtain ⟨u,hu,rfl⟩:=mm9 hv
  exact view_sz3 z (Nat.le_succ_of_le (hK u hu)) hL i
 obtain ⟨sp,_,_⟩:=rowsB_ok (n:=(basK (turnM m)).length) (B:=201700) (by decide) (K.map (viewM m (basK (turnM m)))) (fun v hv=>by obtain ⟨u,_,rfl⟩:=mm9 hv;exact view_len) hv
 have hki:(K.getD i []).length≤2:=by
  rcases Nat.lt_or_ge i K.length with hi|hi
  ·exact hK _ (getD_mem hi [])
  ·rw [gd9,List.getElem?_eq_none hi];exact Nat.zero_le _
 have h:=taken_sz sp.sz (by decide) (w:=viewM m (basK (turnM m)) (K.getD i []++[((s+1:Nat):Int)])) (fun q=>view_sz3 z (by rw [la9,ls9];omega) hL q) j
 have h4:=Nat.pow_le_pow_right (n:=4) (by decide) hr
 have h5:=Nat.mul_le_mul_right (201700+1) h4
 unfold coefN
 omega
theorem ent_arcN (hs:s<m.k)(hi:i<K.length)(hj:j<K.length):entA (arcN m K) s i j=(coefN m K i s).getD j 0:=by
 have key:∀ (g:Nat→List Arc9) (N:Nat) (t:Nat),(∀ x,x<N→x≠t→entA (g x) s i j=0)→t<N→entA ((List.range N).flatMap g) s i j=entA (g t) s i j:=by
  intro g N t h0 ht
  have low:∀ q,q≤N→entA ((List.range q).flatMap g) s i j=if t<q then entA (g t) s i j else 0:=by
   intro q
   induction q with
   | zero=>intro _;rw [if_neg (Nat.not_lt_zero _)];rfl
   | succ q ih =>
    intro hq
    rw [flat_succ,entA_app,ih (by omega)]
    by_cases e:q=t
    ·subst e
     rw [if_neg (Nat.lt_irrefl _),if_pos (Nat.lt_succ_self _),Rat.zero_add]
    ·rw [h0 q (by omega) e,Rat.add_zero]
     by_cases hlt:t<q
     ·rw [if_pos hlt,if_pos (by omega)]
     ·rw [if_neg hlt,if_neg (by omega)]
  rw [low N (Nat.le_refl _),if_pos ht]
 unfold arcN
 rw [key (arcI m K) K.length i (fun x _ hx=>?_) hi]
 ·unfold arcI
  rw [key (arcS m K i) m.k s (fun x _ hx=>?_) hs]
  ·have e:arcS m K i s=(List.range K.length).flatMap fun j=>[arcJ m K i s j]:=by
    unfold arcS
    induction K.length with
    | zero=>rfl
    | succ q ih=>rw [List.range_succ,List.map_append,List.flatMap_append,ih];rfl
   rw [e,key (fun j=>[arcJ m K i s j]) K.length j (fun x _ hx=>?_) hj]
   ·rw [entA_cons,entA_nil,Rat.add_zero]
    exact if_pos ⟨rfl,rfl,rfl⟩
   ·rw [entA_cons,entA_nil,Rat.add_zero]
    exact if_neg fun h=>hx h.2.2
  ·refine lsumZ fun y hy=>if_neg fun h=>?_
   obtain ⟨q,_,rfl⟩:=mm9 hy
   have:x+1=s+1:=h.2.1
   omega
 ·refine lsumZ fun y hy=>if_neg fun h=>?_
  obtain ⟨q,_,hy⟩:=List.mem_flatMap.1 hy
  obtain ⟨p,_,rfl⟩:=mm9 hy
  exact hx h.1
end
noncomputable def minR (a:Au):Au:=⟨a.sym,(preM (machL [a])).length,iniN (preM (machL [a])).length,(preM (machL [a])).map (serA a),arcN (machL [a]) (preM (machL [a]))⟩
section
variable {a:Au}
theorem minR_ok (h:1≤a.sym):(minR a).Ok :=
 ⟨h,iniN_len,lm9 ..,fun x hx=>by
  obtain ⟨i,hi,s,hs,j,hj,rfl⟩:=arcN_mem.1 hx
  rw [show (machL [a]).k=a.sym from k_one] at hs
  exact ⟨hi,hj,Nat.succ_le_succ (Nat.zero_le _),hs⟩⟩
end
end Go.AL
