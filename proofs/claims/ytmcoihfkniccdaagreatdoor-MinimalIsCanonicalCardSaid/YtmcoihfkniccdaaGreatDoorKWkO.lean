/-
  Walks of package rows, part 4: a basis of the vectors of words (printed by mk2.py).
-/
import Derived.Test.YtmcoihfkniccdaaGreatDoorKMod99
import Derived.Test.YtmcoihfkniccdaaGreatDoorKWkN
set_option linter.unusedVariables false
set_option linter.unusedSimpArgs false
namespace Go.AL
open Go Go.BigFrame
section
variable {n:Nat}{rs:List SRow}{C:List (List Rat)}{w t:List Rat}
structure ByOK (n:Nat) (rs:List SRow) (C:List (List Rat)):Prop where
 len:rs.length=C.length
 cl:∀ r,r ∈ rs→r.c.length≤C.length
 eq:∀ r,r ∈ rs→∀ i,i<n→r.v.getD i 0=sumN (fun j=>r.c.getD j 0*(C.getD j []).getD i 0) C.length
theorem ByOK.nil:ByOK n [] []:=⟨rfl,fun _ h=>(by cases h),fun _ h=>(by cases h)⟩
theorem addC_get {f:Rat}{c:List Rat}{j:Nat}(hj:j<t.length):(addC t f c).getD j 0=t.getD j 0+f*c.getD j 0:=map_getD_range _ _ hj
theorem red_taken (N:Nat)(i:Nat)(b:Nat→Rat):∀ (rs:List SRow) (w t:List Rat),i<w.length→t.length=N→(∀ r,r ∈ rs→r.v.getD i 0=sumN (fun j=>r.c.getD j 0*b j) N) →
  (redV rs w).getD i 0+sumN (fun j=>(redC rs w t).getD j 0*b j) N=w.getD i 0+sumN (fun j=>t.getD j 0*b j) N
 | [],w,t,_,_,_=>rfl
 | r :: rs, w, t, hi, ht, h => by
  show (redV rs (redStep w r)).getD i 0+sumN (fun j=>(redC rs (redStep w r) (addC t (qotR w r) r.c)).getD j 0*b j) N=_
  rw [red_taken N i b rs (redStep w r) (addC t (qotR w r) r.c) (by rw [redStep_len];exact hi) (by rw [addC_len];exact ht) fun r hr=>h r (List.mem_cons_of_mem _ hr),redStep_get hi]
  have e:sumN (fun j=>(addC t (qotR w r) r.c).getD j 0*b j) N=sumN (fun j=>t.getD j 0*b j) N+qotR w r*sumN (fun j=>r.c.getD j 0*b j) N:=by
   rw [← sumN_mulL,← sumN_add]
   refine sumN_congr fun j hj=>?_
   rw [addC_get (by rw [ht];exact hj),Rat.add_mul,Rat.mul_assoc]
  rw [e,← h r mc9,Rat.sub_eq_add_neg,Rat.add_assoc,Rat.add_comm (sumN (fun j=>t.getD j 0*b j) N),← Rat.add_assoc (-(qotR w r*r.v.getD i 0)),Rat.neg_add_cancel,Rat.zero_add]
theorem ByOK.taken (h:ByOK n rs C)(hw:w.length=n){i:Nat}(hi:i<n):w.getD i 0=(redV rs w).getD i 0+sumN (fun j=>(takenS rs w).getD j 0*(C.getD j []).getD i 0) C.length:=by
 have e:=red_taken C.length i (fun j=>(C.getD j []).getD i 0) rs w (List.replicate rs.length 0) (by rw [hw];exact hi) (by rw [List.length_replicate];exact h.len) fun r hr=>h.eq r hr i hi
 have z:sumN (fun j=>(List.replicate rs.length (0:Rat)).getD j 0*(C.getD j []).getD i 0) C.length=0:=sumN_zero fun j _=>by rw [rep_zero,Rat.zero_mul]
 rw [z,Rat.add_zero] at e
 exact e.symm
theorem ByOK.find (h:ByOK n rs C)(hw:w.length=n)(hg:growsS rs w=false){i:Nat}(hi:i<n):w.getD i 0=sumN (fun j=>(takenS rs w).getD j 0*(C.getD j []).getD i 0) C.length:=by
 have e:=h.taken hw hi
 have hz:(redV rs w).getD i 0=0:=by
  have h1:¬ firstP (redV rs w)<(redV rs w).length:=fun hl=>by
   rw [growsS_lead.2 hl] at hg;cases hg
  have h2:=redV_len rs w
  exact firstP_before (by omega)
 rw [hz,Rat.zero_add] at e
 exact e
theorem ByOK.grow (h:ByOK n rs C)(hw:w.length=n):ByOK n (rs++[newR rs w]) (C++[w]):=by
 have hl:=h.len
 refine ⟨by rw [la9,la9,h.len];rfl,fun r hr=>?_,fun r hr i hi=>?_⟩
 ·rw [la9,ls9]
  rcases mp9 hr with hr|hr
  ·have:=h.cl r hr;omega
  ·rw [ms9 hr]
   show (byS rs w).length≤_
   rw [byS_len];omega
 ·rw [la9, ls9]
  have low:∀ j,j<C.length→(C++[w]).getD j []=C.getD j []:=fun j hj=>by
   rw [gd9,List.getElem?_append_left hj,gd9]
  have top:(C++[w]).getD C.length []=w:=by
   rw [gd9,List.getElem?_append_right (Nat.le_refl _),Nat.sub_self];rfl
  show r.v.getD i 0=sumN (fun j=>r.c.getD j 0*((C++[w]).getD j []).getD i 0) C.length+r.c.getD C.length 0*((C++[w]).getD C.length []).getD i 0
  rw [top,sumN_congr (g:=fun j=>r.c.getD j 0*(C.getD j []).getD i 0) fun j hj=>by rw [low j hj]]
  rcases mp9 hr with hr|hr
  ·have hc:=h.cl r hr
   rw [← h.eq r hr i hi,show r.c.getD C.length 0=0 by rw [gd9,List.getElem?_eq_none hc];rfl,Rat.zero_mul,Rat.add_zero]
  ·rw [ms9 hr]
   show (redV rs w).getD i 0=sumN (fun j=>(byS rs w).getD j 0*(C.getD j []).getD i 0) C.length+(byS rs w).getD C.length 0*w.getD i 0
   rw [← hl,byS_last,Rat.one_mul,sumN_congr (g:=fun j=>-((takenS rs w).getD j 0)*(C.getD j []).getD i 0) fun j hj=>by rw [byS_get hj]]
   have e:=h.taken hw hi
   rw [← hl] at e
   have en:sumN (fun j=>-((takenS rs w).getD j 0)*(C.getD j []).getD i 0) rs.length = -(sumN (fun j=>(takenS rs w).getD j 0*(C.getD j []).getD i 0) rs.length):=by
    have:sumN (fun j=>-((takenS rs w).getD j 0)*(C.getD j []).getD i 0) rs.length=(-1)*sumN (fun j=>(takenS rs w).getD j 0*(C.getD j []).getD i 0) rs.length:=by
     rw [← sumN_mulL]
     exact sumN_congr fun j _=>by rw [Rat.neg_mul,Rat.neg_mul,Rat.one_mul]
    rw [this,Rat.neg_mul,Rat.one_mul]
   rw [en,e,Rat.add_comm ((redV rs w).getD i 0),← Rat.add_assoc,Rat.neg_add_cancel,Rat.zero_add]
end
section
variable {m:Mach}{B B':Nat}{y y':KSt}{u w:List Int}
theorem slx_of_le (h:slx u w≤0)(hne:u≠w):slx u w<0:=by
 rcases Int.lt_or_le (slx u w) 0 with g|g
 ·exact g
 ·exact absurd (slx_zero (Int.le_antisymm h g)) hne
theorem InvS.mem_of (h:InvS m B [] y)(h':InvS m B' [] y')(hu:u ∈ y.ks):u ∈ y'.ks:=by
 refine Decidable.byContradiction fun hn=>?_
 obtain ⟨V,j,_⟩:=h.join
 obtain ⟨V',j',_⟩:=h'.join
 have s1:=j'.bfs.reach u (h.inW u hu) fun q hq=>by cases hq
 have s2:SpanV m.n ((y.ks.filter fun k=>decide (k≠u)).map (vecM m)) (vf (vecM m u)):=s1.trans fun b hb=>by
  obtain ⟨k,hk,rfl⟩:=mm9 hb
  obtain ⟨hk1,hk2⟩:=upTo_mem.1 hk
  have hlt:slx k u<0:=slx_of_le hk2 fun e=>hn (e ▸ hk1)
  refine (j.bfs.reach k (h'.inW k hk1) fun q hq=>by cases hq).mono fun b hb=>?_
  obtain ⟨z,hz,rfl⟩:=mm9 hb
  obtain ⟨hz1,hz2⟩:=upTo_mem.1 hz
  refine List.mem_map.2 ⟨z,List.mem_filter.2 ⟨hz1,decide_eq_true fun e=>?_⟩,rfl⟩
  rw [e] at hz2
  have:=slx_neg k u
  omega
 have s3:∀ r,r ∈ y.rs→SpanV m.n ((y.ks.filter fun k=>decide (k≠u)).map (vecM m)) (vf r.v):=fun r hr=>(j.rows r hr).trans fun b hb=>by
  obtain ⟨k,hk,rfl⟩:=mm9 hb
  by_cases e:k=u
  ·rw [e];exact s2
  ·exact .mem (List.mem_map.2 ⟨k,List.mem_filter.2 ⟨hk,decide_eq_true e⟩,rfl⟩)
 have l:=span_len _ y.rs j.ech s3
 rw [lm9] at l
 have l2:(y.ks.filter fun k=>decide (k≠u)).length<y.ks.length:=List.length_filter_lt_length_iff_exists.2 ⟨u,hu,by simp⟩
 have:=j.len
 omega
theorem sorted_eq:∀ {a b:List (List Int)},a.Pairwise (fun a b=>slx a b<0)→b.Pairwise (fun a b=>slx a b<0)→(∀ u,u ∈ a ↔ u ∈ b)→a=b
 | [],[],_,_,_=>rfl
 | [],x::b,_,_,h=>absurd ((h x).2 mc9) (by simp)
 | x::a,[],_,_,h=>absurd ((h x).1 mc9) (by simp)
 | x :: a, y :: b, ha, hb, h => by
  obtain ⟨a1,a2⟩:=List.pairwise_cons.1 ha
  obtain ⟨b1,b2⟩:=List.pairwise_cons.1 hb
  have e:x=y:=by
   refine Decidable.byContradiction fun hne=>?_
   have h1:=(List.mem_cons.1 ((h x).1 mc9)).resolve_left hne
   have h2:=(List.mem_cons.1 ((h y).2 mc9)).resolve_left fun e=>hne e.symm
   have:=a1 y h2
   have:=b1 x h1
   have:=slx_neg x y
   omega
  subst e
  rw [sorted_eq a2 b2 fun u=>⟨fun hu=>?_,fun hu=>?_⟩]
  ·rcases List.mem_cons.1 ((h u).1 (List.mem_cons_of_mem _ hu)) with e|g
   ·have:=a1 u hu
    rw [e,slx_self] at this
    exact absurd this (by decide)
   ·exact g
  ·rcases List.mem_cons.1 ((h u).2 (List.mem_cons_of_mem _ hu)) with e|g
   ·have:=b1 u hu
    rw [e,slx_self] at this
    exact absurd this (by decide)
   ·exact g
theorem InvS.unique (h:InvS m B [] y)(h':InvS m B' [] y'):y.ks=y'.ks:=sorted_eq h.ord h'.ord fun u=>⟨h.mem_of h',h'.mem_of h⟩
open Classical in
noncomputable def basK (m:Mach):List (List Int):=if h:∃ (y:KSt) (B:Nat),InvS m B [] y then h.choose.ks else []
theorem InvS.bas (h:InvS m B [] y):y.ks=basK m:=by
 have hex:∃ (y:KSt) (B:Nat),InvS m B [] y:=⟨y,B,h⟩
 unfold basK
 rw [dif_pos hex]
 obtain ⟨B',h'⟩:=hex.choose_spec
 exact h.unique h'
theorem invS_search (ok:m.Ok)(n6:m.n≤6)(h1:1≤B)(hz:∀ w,InW m.k w→w.length≤6→∀ i,sz ((vecM m w).getD i 0)≤B):∀ (N:Nat) (Q:List (List Int)) (y:KSt),InvS m B Q y→leftM m Q y.rs≤N→∃ y,InvS m B [] y
 | N,[],y,h,_=>⟨y,h⟩
 | 0,w::Q,y,h,hN=>by
  have:=left_drop (m:=m) (w:=w) (Q:=Q) (rs:=y.rs)
  omega
 | N + 1, w :: Q, y, h, hN => by
  have hw:InW m.k w:=by
   obtain ⟨V,j,_⟩:=h.join
   exact j.bfs.inW w (.inr mc9)
  have h6:=h.b.six n6 w mc9
  obtain ⟨ht,hf⟩:=h.next ok h1 (hz w hw h6)
  cases hk:(keepB m w y).1 with
  | true=>exact invS_search ok n6 h1 hz N _ _ (ht hk).1 (by have:=(ht hk).2;omega)
  | false=>exact invS_search ok n6 h1 hz N _ _ (hf hk).1 (by have:=(hf hk).2;omega)
theorem invS_ex (ok:m.Ok)(n6:m.n≤6)(h1:1≤B)(hz:∀ w,InW m.k w→w.length≤6→∀ i,sz ((vecM m w).getD i 0)≤B):∃ y,InvS m B [] y∧y.ks=basK m:=by
 obtain ⟨y,h⟩:=invS_search ok n6 h1 hz _ _ _ (InvS.start m B) (Nat.le_refl _)
 exact ⟨y,h,h.bas⟩
end
section
variable {a:Au}
theorem Au.Fw.inv (f:a.Fw):∃ y,InvS (machL [a]) 16777215 [] y∧y.ks=basK (machL [a]) :=
 invS_ex f.mach.1 (by have:=f.few.st;have:=f.mach.2.2.2;omega) (by decide) fun w _ h6 i=>Nat.le_trans (vecM_sz f.mach.2.2.1 h6 i) (by decide)
end
end Go.AL
namespace Go.Proofs.YtmcoihfkniccdaaGreatDoor
open Go Go.AL
theorem FSpecE_mono {α:Type}{P:Program}{f:Nat}{args:List V}{M:Mem}{res:α→V}{M':α→Mem}{φ ψ:α→Prop}(h:FSpecE P f args M res M' φ)(hi:∀ x,φ x→ψ x):FSpecE P f args M res M' ψ :=
 ⟨h.1,fun F w vals hS hv=>(h.2 F w vals hS hv).mono fun e w' ⟨x,hx,r⟩=>⟨x,hi x hx,r⟩⟩
abbrev BSt:=KSt × SpB × Nat × Nat
def kB (m:Mach)(b bs bx:Nat):KM BSt:=⟨fun y=>boxS b y.2.1 y.1.rs,fun y=>rowV y.2.1 y.1.rs,fun y=>rowC y.2.1 y.1.rs,fun y=>rowP y.2.1 y.1.rs,fun _=>.box bs T.pSpace [.ptr 1000 b 0],fun y=>.box bx T.Rows [.osl 1006 y.2.2.1 y.1.ks.length y.2.2.2],fun y=>.row y.2.2.1 y.2.2.2 T.Row 2 (y.1.ks.map (dRow m)),fun _=>.row 0 0 T.Rats 1 []⟩
theorem keepB_t {m:Mach}{w:List Int}{y:KSt}(h:growsS y.rs (vecM m w)=true):keepB m w y=(true,⟨y.ks++[w],y.rs++[newR y.rs (vecM m w)]⟩):=if_pos h
theorem keepB_f {m:Mach}{w:List Int}{y:KSt}(h:growsS y.rs (vecM m w)=false):keepB m w y=(false,y):=if_neg (by rw [h];exact Bool.false_ne_true)
set_option maxRecDepth 8000 in
set_option maxHeartbeats 3200000 in
theorem Basis_1 {m:Mach}{e b bs bx:Nat}{w:List Int}{y:KSt}{B:SpB}{bo co:Nat}(ok:m.Ok)(z6:m.Sz e)(sp:SpOK m.n 16777215 y.rs)(hw:w.length≤6)(hk:y.ks.length≤64):FSpecE P F.rows_Machine_Basis_1 [vRow m w,.ptr 1004 bs 0,.ptr 1005 bx 0] (kmM (kB m b bs bx) (y,B,bo,co)) (fun z:Bool × BSt=>.d (dB z.1)) (fun z=>kmM (kB m b bs bx) z.2) (fun z=>z.1=(keepB m w y).1∧z.2.1=(keepB m w y).2):=by
 obtain ⟨ks,rs⟩:=y
 have sp:SpOK m.n 16777215 rs:=sp
 have hk:ks.length≤64:=hk
 refine FSpecE.intro fn.rows_Machine_Basis_1 (by rfl) (by rfl) (nb9 (by rfl)) fun E hE=>(AW.sg hE rfl (bxA rfl rfl fun b3=>(asD rfl (OL.nil (AW.seq (AW.seq (AW.regionK (by rw [hE];rfl) ?_)))))))
 refine SK.ofOL (ldPC ce.pSpace rfl rfl (v:=.ptr 1000 b 0) rfl (OL.nil ?_))
 refine SK.ofOL (faP fd.Row_1 rfl rfl (OL.nil ?_))
 refine SK.ofOL (ldPC ce.Rats rfl rfl (v:=.d (dQs (vecM m w))) rfl (OL.nil ?_))
 refine SK.ofSO (SO.callE (args':=[.ptr 1000 b 0,.d (dQs (vecM m w))]) (show 8<E.n by rw [hE];exact Nat.le_of_ble_eq_true (by rfl)) rfl vL (Mc:=spM b B rs) (fun id blk hk=>lk_own (l:=spL b B rs) (.cons rfl (.cons rfl (.cons rfl (.cons rfl trivial)))) id blk hk) (AddS (b:=b) (B:=B) sp (vecM_len ok w) z6.n6 (fun i=>Nat.le_trans (vecM_sz z6 hw i) (by decide))) (fun x _ id hk=>spM_none id hk) ?_)
 rintro B2 -
 refine SK.ofOL (nt rfl (OL.nil ?_))
 refine SK.nil (AW.cond rfl (fun hg=>?_) (fun hg=>?_))
 ·have hg:growsS rs (vecM m w)=false:=by simpa using hg
  rw [show addS rs (vecM m w)=rs from if_neg (by rw [hg];exact Bool.false_ne_true)]
  refine AW.sg hE rfl (asD rfl (OL.nil ?_))
  exact AW.ret ⟨(false,(⟨ks,rs⟩,B2,bo,co)),⟨(congrArg Prod.fst (keepB_f (y:=⟨ks,rs⟩) hg)).symm,(congrArg Prod.snd (keepB_f (y:=⟨ks,rs⟩) hg)).symm⟩,⟨_,.tmp rfl .nil,.le vR⟩,fun id blk hk=>lk_own (l:=kmL (kB m b bs bx) (⟨ks,rs⟩,B2,bo,co)) (.cons rfl (.cons rfl (.cons rfl (.cons rfl (.cons rfl (.cons rfl (.cons rfl (.cons rfl trivial)))))))) id blk hk⟩
 ·have hg:growsS rs (vecM m w)=true:=by simpa using hg
  rw [show addS rs (vecM m w)=rs++[newR rs (vecM m w)] from if_pos hg]
  refine AW.skip (AW.sg hE rfl (ldPC ce.Rows rfl rfl (v:=.osl 1006 bo ks.length co) rfl (ldPA ag.Row rfl rfl (vs:=[_,_]) rfl (nb9 rfl) (lt1 (y:=dRow m w) sl.Rows vd_row rfl (by decide) ?_))))
  refine apO sl.Rows rfl rfl rfl (by rw [lm9]) (VC.d _) (fun y hy=>by rw [ms9 hy];rfl) (by simp;omega) (by simp;omega) (.inl rfl) (ys:=(ks++[w]).map (dRow m)) (by rw [List.map_append];rfl) (n2:=ks.length+1) rfl fun b13 c13=>?_
  refine sto sz.Rows rfl rfl rfl rfl rfl (nb9 rfl) rfl (OL.nil (AW.seq ?_))
  have hln:(ks++[w]).length=ks.length+1:=la9
  refine AW.to [] [(1000,boxS b B2 (rs++[newR rs (vecM m w)])),(1001,rowV B2 (rs++[newR rs (vecM m w)])),(1002,rowC B2 (rs++[newR rs (vecM m w)])),(1003,rowP B2 (rs++[newR rs (vecM m w)])),(1004,.box bs T.pSpace [.ptr 1000 b 0]),(1005,.box bx T.Rows [.osl 13 b13 (ks.length+1) c13]),(13,.row b13 c13 T.Row 2 ((ks++[w]).map (dRow m))),(1007,.row 0 0 T.Rats 1 [])] .nil (.cons rfl (.cons rfl (.cons rfl (.cons rfl (.cons rfl (.cons rfl (.cons rfl (.cons rfl (.nil))))))))) ?_
  refine AW.rename 13 1006 rfl (AW.boxW 1005 [.osl 1006 b13 (ks.length+1) c13] rfl (.cons VLe.osl .nil) ?_)
  refine AW.rg hE rfl (asD rfl (OL.nil ?_))
  exact AW.ret ⟨(true,(⟨ks++[w],rs++[newR rs (vecM m w)]⟩,B2,b13,c13)),⟨(congrArg Prod.fst (keepB_t (y:=⟨ks,rs⟩) hg)).symm,(congrArg Prod.snd (keepB_t (y:=⟨ks,rs⟩) hg)).symm⟩,⟨_,.tmp rfl .nil,.le vR⟩,fun id blk hk=>lk_own (l:=kmL (kB m b bs bx) (⟨ks++[w],rs++[newR rs (vecM m w)]⟩,B2,b13,c13)) (.cons rfl (.cons rfl (.cons rfl (.cons rfl (.cons rfl (.cons (by show _=some (Blk.box bx T.Rows [.osl 1006 b13 (ks++[w]).length c13]);rw [hln];rfl) (.cons rfl (.cons rfl trivial)))))))) id blk hk⟩
set_option maxRecDepth 8000 in
set_option maxHeartbeats 3200000 in
theorem BasisQ {m:Mach}{e:Nat}(ok:m.Ok)(fl:m.Full)(z6:m.Sz e):FSpecE P F.rows_Machine_Basis [vMach m] noMem (fun y:KSt=>.d (dRows m y.ks)) (fun _=>noMem) (fun y=>InvS m 16777215 [] y):=by
 have n6:=z6.n6
 have k4:=z6.k2
 refine FSpecE.intro fn.rows_Machine_Basis (by rfl) (by rfl) (nb9 (by rfl)) fun E hE=>(AW.sg hE rfl (bxA rfl rfl fun b1=>(asM rfl (OL.nil (AW.sg hE rfl (al z.Rows rfl fun b3=>(OL.nil ?_)))))))
 refine AW.sg hE rfl (bd z.Space pl.Space (cs:=[_,_,_]) rfl (bxA rfl rfl fun b6=>(al z.pSpace rfl fun b4=>(sto sz.pSpace rfl rfl rfl rfl rfl (nb9 rfl) (cells2:=[_]) rfl (OL.nil (AW.seq (AW.rename 6 1000 rfl ?_)))))))
 refine AW.deadR 1001 T.Rats 1 rfl (AW.deadR 1002 T.Rats 1 rfl (AW.deadR 1003 T.int 1 rfl (AW.boxW 1000 [.osl 1001 0 0 0,.osl 1002 0 0 0,.osl 1003 0 0 0] rfl (.cons vle_mtO (.cons vle_mtO (.cons vle_mtO .nil))) (AW.rename 4 1004 rfl (AW.boxW 1004 [.ptr 1000 b6 0] rfl (.cons VLe.ptr .nil) (AW.rename 3 1005 rfl (AW.deadR 1006 T.Row 2 rfl ?_)))))))
 refine AW.deadR 1007 T.Rats 1 rfl (AW.boxW 1005 [.osl 1006 0 0 0] rfl (.cons vle_mtO .nil) ?_)
 refine AW.to [(1,.ptr 1 b1 0),(2,.mt),(3,.ptr 1005 b3 0),(4,.ptr 1004 b4 0)] ((1,.box b1 T.Machine [.d (dQs m.ini),.d (dQs m.fin),.d (.sl (m.mats.map dQss))])::kmL (kB m b6 b4 b3) ((⟨[],[]⟩,(default:SpB),0,0):BSt)) (.cons VLe.ptr (.cons vR (.cons VLe.ptr (.cons VLe.ptr .nil)))) (.cons rfl (.cons rfl (.cons rfl (.cons rfl (.cons rfl (.cons rfl (.cons rfl (.cons rfl (.cons rfl (.nil)))))))))) ?_
 refine AW.regionK (by rw [hE];rfl) (SK.ofOL (ldPA ag.Machine rfl rfl (vs:=[_,_,_]) rfl (nb9 rfl) (OL.nil ?_)))
 refine SK.ofOL (mkF (vs:=[_,_]) rfl (OL.nil ?_))
 refine SK.ofSO (SO.callE (args':=[vMach m,.fn F.rows_Machine_Basis_1 [.ptr 1004 b4 0,.ptr 1005 b3 0]]) (show 9<E.n by rw [hE];exact Nat.le_of_ble_eq_true (by rfl)) rfl vL (Mc:=kmM (kB m b6 b4 b3) ((⟨[],[]⟩,(default:SpB),0,0):BSt)) (fun id blk hk=>lk_own (l:=kmL (kB m b6 b4 b3) ((⟨[],[]⟩,(default:SpB),0,0):BSt)) (.cons rfl (.cons rfl (.cons rfl (.cons rfl (.cons rfl (.cons rfl (.cons rfl (.cons rfl trivial)))))))) id blk hk)
  (ExploreQ (m:=m) (k:=kB m b6 b4 b3) (I:=fun Q y=>InvS m 16777215 Q y.1) (μ:=fun Q y=>leftM m Q y.1.rs) ok fl z6 (fun Q y hI=>⟨hI.b.six n6,Nat.le_add_right _ _⟩)
   (fun w Q y hI=>FSpecE_mono (Basis_1 (y:=y.1) (B:=y.2.1) (bo:=y.2.2.1) (co:=y.2.2.2) ok z6 hI.sp (hI.b.six n6 w mc9) (by have:=hI.b.few;omega)) fun z hz=>by
    have h9:=hI.next ok (by decide) (fun i=>Nat.le_trans (vecM_sz z6 (hI.b.six n6 w mc9) i) (by decide))
    rw [← hz.1,← hz.2] at h9
    exact h9) (InvS.start m 16777215) (by
     show [([]:List Int)].length+(m.k+1)*(m.n-0)≤1000
     have h9:=Nat.mul_le_mul (show m.k+1≤5 by omega) (show m.n-0≤6 by omega)
     rw [ls9];omega)) (fun x _ id hk=>kmM_none id hk) ?_)
 rintro ⟨y,B,bo,co⟩ hI
 have hI:InvS m 16777215 [] y:=hI
 refine SK.nil (AW.sg hE rfl (ldPC ce.Rows rfl rfl (v:=.osl 1006 bo y.ks.length co) rfl (asO rfl (OL.nil ?_))))
 exact AW.ret ⟨y,hI,⟨_,.tmp rfl .nil,RO.row rfl (by rw [lm9]) rfl⟩,fun _ _ h=>by cases h⟩
set_option maxRecDepth 8000 in
set_option maxHeartbeats 1600000 in
theorem ViewsQ {m:Mach}{e:Nat}(ok:m.Ok)(fl:m.Full)(z6:m.Sz e)(n1:1≤m.n):FSpecE P F.rows_Machine_Views [vMach m] noMem (fun y:KSt=>.fn F.rows_Machine_Views_1 [.ref [dRows (turnM m) y.ks]]) (fun _=>noMem) (fun y=>InvS (turnM m) 16777215 [] y):=by
 have n6:=z6.n6
 have k4:=z6.k2
 refine FSpecE.intro fn.rows_Machine_Views (by rfl) (by rfl) (nb9 (by rfl)) fun E hE=>(AW.sg hE rfl (bxA rfl rfl fun b1=>(asD rfl (OL.nil (AW.seq (AW.regionK (by rw [hE];rfl) (SK.ofOL (ldPA ag.Machine rfl rfl (vs:=[_,_,_]) rfl (nb9 rfl) (OL.nil ?_)))))))))
 refine SK.ofOL (clv rfl .rq1 (TurnedQ fl n1 (by omega) (by omega)) (OL.nil ?_))
 refine SK.ofSO (SO.callE (args':=[vMach (turnM m)]) (show 6<E.n by rw [hE];exact Nat.le_of_ble_eq_true (by rfl)) rfl vL (Mc:=noMem) (fun _ _ h=>by cases h) (BasisQ (turn_ok ok) (turn_full m) z6.turn) (fun _ _ _ h=>h) ?_)
 rintro y hI
 refine SK.ofOL (al z.Rows rfl fun b3=>OL.nil ?_)
 refine SK.ofOL (sto sz.Rows rfl rfl rfl rfl rfl (nb9 rfl) (cells2:=[_]) rfl (OL.nil ?_))
 refine SK.nil (AW.seq (AW.freezeBox 3 [dRows (turnM m) y.ks] rfl (VCs.map_d [dRows (turnM m) y.ks]) (AW.to [(3,.ref [dRows (turnM m) y.ks])] [] (.cons (vle_of_eq (show V.frb 3 b3 [dRows (turnM m) y.ks] (.ptr 3 b3 0)=.ref [dRows (turnM m) y.ks] from frb_self)) .nil) .nil ?_)))
 refine AW.rg hE rfl (mkF (vs:=[_]) rfl (asF rfl (OL.nil ?_)))
 exact AW.ret ⟨y,hI,⟨_,.tmp rfl .nil,.le vR⟩,fun _ _ h=>by cases h⟩
end Go.Proofs.YtmcoihfkniccdaaGreatDoor
