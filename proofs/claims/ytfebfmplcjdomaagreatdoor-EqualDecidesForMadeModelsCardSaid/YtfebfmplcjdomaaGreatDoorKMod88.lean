/-
  M, chapter 23: how the machine of several automata is filled.
-/
import Derived.Test.YtfebfmplcjdomaaGreatDoorKWkN
import Derived.Test.YtfebfmplcjdomaaGreatDoorKMod87
set_option linter.unusedVariables false
set_option linter.unusedSimpArgs false
namespace Go.Proofs.YtfebfmplcjdomaaGreatDoor
open Go Go.AL
theorem FSpecE_mono {α:Type} {P:Program} {f:Nat} {args:List V} {M:Mem} {res:α→V} {M':α→Mem} {φ ψ:α→Prop} (h:FSpecE P f args M res M' φ) (hi:∀ x,φ x→ψ x):FSpecE P f args M res M' ψ :=
 ⟨h.1,fun F w vals hS hv=>(h.2 F w vals hS hv).mono fun e w' ⟨x,hx,r⟩=>⟨x,hi x hx,r⟩⟩
abbrev BSt:=KSt × SpB × Nat × Nat
def kB (m:Mach) (b bs bx:Nat):KM BSt:=⟨fun y=>boxS b y.2.1 y.1.rs,fun y=>rowV y.2.1 y.1.rs,fun y=>rowC y.2.1 y.1.rs,fun y=>rowP y.2.1 y.1.rs,fun _=>.box bs T.pSpace [.ptr 1000 b 0],fun y=>.box bx T.Rows [.osl 1006 y.2.2.1 y.1.ks.length y.2.2.2],fun y=>.row y.2.2.1 y.2.2.2 T.Row 2 (y.1.ks.map (dRow m))⟩
theorem keepB_t {m:Mach} {w:List Int} {y:KSt} (h:growsS y.rs (vecM m w)=true):keepB m w y=(true,⟨y.ks ++ [w],y.rs ++ [newR y.rs (vecM m w)]⟩):=if_pos h
theorem keepB_f {m:Mach} {w:List Int} {y:KSt} (h:growsS y.rs (vecM m w)=false):keepB m w y=(false,y):=if_neg (by rw [h];exact Bool.false_ne_true)
set_option maxRecDepth 8000 in
set_option maxHeartbeats 3200000 in
theorem Basis_1 {m:Mach} {e b bs bx:Nat} {w:List Int} {y:KSt} {B:SpB} {bo co:Nat} (ok:m.Ok) (z6:m.Sz e) (sp:SpOK m.n 16777215 y.rs) (hw:w.length≤6) (hk:y.ks.length≤64):FSpecE P F.rows_Machine_Basis_1 [vRow m w,.ptr 1004 bs 0,.ptr 1005 bx 0] (kmM (kB m b bs bx) (y,B,bo,co)) (fun z:Bool × BSt=>.d (dB z.1)) (fun z=>kmM (kB m b bs bx) z.2) (fun z=>z.1=(keepB m w y).1∧z.2.1=(keepB m w y).2):=by
 obtain ⟨ks,rs⟩:=y
 have sp:SpOK m.n 16777215 rs:=sp
 have hk:ks.length≤64:=hk
 refine FSpecE.intro fn.rows_Machine_Basis_1 (by rfl) (by rfl) (nb9 (by rfl)) fun E hE=>(AW.sg hE rfl (bxA rfl rfl fun b3=>(asD rfl (OL.nil (AW.seq (AW.seq (AW.regionK (by rw [hE];rfl) ?_)))))))
 refine SK.ofOL (ldPC ce.pSpace rfl rfl (v:=.ptr 1000 b 0) rfl (OL.nil ?_))
 refine SK.ofOL (faP fd.Row_1 rfl rfl (OL.nil ?_))
 refine SK.ofOL (ldPC ce.Rats rfl rfl (v:=.d (dQs (vecM m w))) rfl (OL.nil ?_))
 refine SK.ofSO (SO.callE (args':=[.ptr 1000 b 0,.d (dQs (vecM m w))]) (show 8 < E.n by rw [hE];exact Nat.le_of_ble_eq_true (by rfl)) rfl (VLes.refl _) (Mc:=spM b B rs) (fun id blk hk=>lk_own (l:=spL b B rs) (.cons rfl (.cons rfl (.cons rfl (.cons rfl trivial)))) id blk hk) (AddS (b:=b) (B:=B) sp (vecM_len ok w) z6.n6 (fun i=>Nat.le_trans (vecM_sz z6 hw i) (by decide))) (fun x _ id hk=>spM_none id hk) ?_)
 rintro B2 -
 refine SK.ofOL (nt rfl (OL.nil ?_))
 refine SK.nil (AW.cond rfl (fun hg=>?_) (fun hg=>?_))
 ·have hg:growsS rs (vecM m w)=false:=by simpa using hg
  rw [show addS rs (vecM m w)=rs from if_neg (by rw [hg];exact Bool.false_ne_true)]
  refine AW.sg hE rfl (asD rfl (OL.nil ?_))
  exact AW.ret ⟨(false,(⟨ks,rs⟩,B2,bo,co)),⟨(congrArg Prod.fst (keepB_f (y:=⟨ks,rs⟩) hg)).symm,(congrArg Prod.snd (keepB_f (y:=⟨ks,rs⟩) hg)).symm⟩,⟨_,.tmp rfl .nil,.le (VLe.refl _)⟩,fun id blk hk=>lk_own (l:=kmL (kB m b bs bx) (⟨ks,rs⟩,B2,bo,co)) (.cons rfl (.cons rfl (.cons rfl (.cons rfl (.cons rfl (.cons rfl (.cons rfl trivial))))))) id blk hk⟩
 ·have hg:growsS rs (vecM m w)=true:=by simpa using hg
  rw [show addS rs (vecM m w)=rs ++ [newR rs (vecM m w)] from if_pos hg]
  refine AW.skip (AW.sg hE rfl (ldPC ce.Rows rfl rfl (v:=.osl 1006 bo ks.length co) rfl (ldPA ag.Row rfl rfl (vs:=[_,_]) rfl (nb9 rfl) (lt1 (y:=dRow m w) sl.Rows vd_row rfl (by decide) ?_))))
  refine apO sl.Rows rfl rfl rfl (by rw [List.length_map]) (VC.d _) (fun y hy=>by rw [List.mem_singleton.1 hy];rfl) (by simp;omega) (by simp;omega) (.inl rfl) (ys:=(ks ++ [w]).map (dRow m)) (by rw [List.map_append];rfl) (n2:=ks.length+1) rfl fun b13 c13=>?_
  refine sto sz.Rows rfl rfl rfl rfl rfl (nb9 rfl) rfl (OL.nil (AW.seq ?_))
  have hln:(ks ++ [w]).length=ks.length+1:=List.length_append
  refine AW.to [] [(1000,boxS b B2 (rs ++ [newR rs (vecM m w)])),(1001,rowV B2 (rs ++ [newR rs (vecM m w)])),(1002,rowC B2 (rs ++ [newR rs (vecM m w)])),(1003,rowP B2 (rs ++ [newR rs (vecM m w)])),(1004,.box bs T.pSpace [.ptr 1000 b 0]),(1005,.box bx T.Rows [.osl 13 b13 (ks.length+1) c13]),(13,.row b13 c13 T.Row 2 ((ks ++ [w]).map (dRow m)))] .nil (.cons rfl (.cons rfl (.cons rfl (.cons rfl (.cons rfl (.cons rfl (.cons rfl (.nil)))))))) ?_
  refine AW.rename 13 1006 rfl (AW.boxW 1005 [.osl 1006 b13 (ks.length+1) c13] rfl (.cons VLe.osl .nil) ?_)
  refine AW.rg hE rfl (asD rfl (OL.nil ?_))
  exact AW.ret ⟨(true,(⟨ks ++ [w],rs ++ [newR rs (vecM m w)]⟩,B2,b13,c13)),⟨(congrArg Prod.fst (keepB_t (y:=⟨ks,rs⟩) hg)).symm,(congrArg Prod.snd (keepB_t (y:=⟨ks,rs⟩) hg)).symm⟩,⟨_,.tmp rfl .nil,.le (VLe.refl _)⟩,fun id blk hk=>lk_own (l:=kmL (kB m b bs bx) (⟨ks ++ [w],rs ++ [newR rs (vecM m w)]⟩,B2,b13,c13)) (.cons rfl (.cons rfl (.cons rfl (.cons rfl (.cons rfl (.cons (by show _=some (Blk.box bx T.Rows [.osl 1006 b13 (ks ++ [w]).length c13]);rw [hln];rfl) (.cons rfl trivial))))))) id blk hk⟩
set_option maxRecDepth 8000 in
set_option maxHeartbeats 3200000 in
theorem BasisQ {m:Mach} {e:Nat} (ok:m.Ok) (fl:m.Full) (z6:m.Sz e):FSpecE P F.rows_Machine_Basis [vMach m] noMem (fun y:KSt=>.d (dRows m y.ks)) (fun _=>noMem) (fun y=>InvB m 16777215 [] y):=by
 have n6:=z6.n6
 have k4:=z6.k2
 refine FSpecE.intro fn.rows_Machine_Basis (by rfl) (by rfl) (nb9 (by rfl)) fun E hE=>(AW.sg hE rfl (bxA rfl rfl fun b1=>(asM rfl (OL.nil (AW.sg hE rfl (al z.Rows rfl fun b3=>(OL.nil ?_)))))))
 refine AW.sg hE rfl (bd z.Space pl.Space (cs:=[_,_,_]) rfl (bxA rfl rfl fun b6=>(al z.pSpace rfl fun b4=>(sto sz.pSpace rfl rfl rfl rfl rfl (nb9 rfl) (cells2:=[_]) rfl (OL.nil (AW.seq (AW.rename 6 1000 rfl ?_)))))))
 refine AW.deadR 1001 T.Rats 1 rfl (AW.deadR 1002 T.Rats 1 rfl (AW.deadR 1003 T.int 1 rfl (AW.boxW 1000 [.osl 1001 0 0 0,.osl 1002 0 0 0,.osl 1003 0 0 0] rfl (.cons vle_mtO (.cons vle_mtO (.cons vle_mtO .nil))) (AW.rename 4 1004 rfl (AW.boxW 1004 [.ptr 1000 b6 0] rfl (.cons VLe.ptr .nil) (AW.rename 3 1005 rfl (AW.deadR 1006 T.Row 2 rfl ?_)))))))
 refine AW.boxW 1005 [.osl 1006 0 0 0] rfl (.cons vle_mtO .nil) ?_
 refine AW.to [(1,.ptr 1 b1 0),(2,.mt),(3,.ptr 1005 b3 0),(4,.ptr 1004 b4 0)] ((1,.box b1 T.Machine [.d (dQs m.ini),.d (dQs m.fin),.d (.sl (m.mats.map dQss))]) :: kmL (kB m b6 b4 b3) ((⟨[],[]⟩,(default:SpB),0,0):BSt)) (.cons VLe.ptr (.cons (VLe.refl _) (.cons VLe.ptr (.cons VLe.ptr .nil)))) (.cons rfl (.cons rfl (.cons rfl (.cons rfl (.cons rfl (.cons rfl (.cons rfl (.cons rfl (.nil))))))))) ?_
 refine AW.regionK (by rw [hE];rfl) (SK.ofOL (ldPA ag.Machine rfl rfl (vs:=[_,_,_]) rfl (nb9 rfl) (OL.nil ?_)))
 refine SK.ofOL (mkF (vs:=[_,_]) rfl (OL.nil ?_))
 refine SK.ofSO (SO.callE (args':=[vMach m,.fn F.rows_Machine_Basis_1 [.ptr 1004 b4 0,.ptr 1005 b3 0]]) (show 9 < E.n by rw [hE];exact Nat.le_of_ble_eq_true (by rfl)) rfl (VLes.refl _) (Mc:=kmM (kB m b6 b4 b3) ((⟨[],[]⟩,(default:SpB),0,0):BSt)) (fun id blk hk=>lk_own (l:=kmL (kB m b6 b4 b3) ((⟨[],[]⟩,(default:SpB),0,0):BSt)) (.cons rfl (.cons rfl (.cons rfl (.cons rfl (.cons rfl (.cons rfl (.cons rfl trivial))))))) id blk hk)
  (ExploreQ (m:=m) (k:=kB m b6 b4 b3) (I:=fun Q y=>InvB m 16777215 Q y.1) (μ:=fun Q y=>leftM m Q y.1.rs) ok fl z6 (fun Q y hI=>⟨hI.six n6,Nat.le_add_right _ _⟩)
   (fun w Q y hI=>FSpecE_mono (Basis_1 (y:=y.1) (B:=y.2.1) (bo:=y.2.2.1) (co:=y.2.2.2) ok z6 hI.sp (hI.six n6 w (List.mem_cons_self ..)) (by have:=hI.few;omega)) fun z hz=>by
    have h9:=hI.next ok (by decide) (fun i=>Nat.le_trans (vecM_sz z6 (hI.six n6 w (List.mem_cons_self ..)) i) (by decide))
    rw [← hz.1,← hz.2] at h9
    exact h9) (InvB.start m 16777215) (by
     show [([]:List Int)].length+(m.k+1) * (m.n - 0)≤1000
     have h9:=Nat.mul_le_mul (show m.k+1≤5 by omega) (show m.n - 0≤6 by omega)
     rw [List.length_singleton];omega)) (fun x _ id hk=>kmM_none id hk) ?_)
 rintro ⟨y,B,bo,co⟩ hI
 have hI:InvB m 16777215 [] y:=hI
 refine SK.nil (AW.sg hE rfl (ldPC ce.Rows rfl rfl (v:=.osl 1006 bo y.ks.length co) rfl (asO rfl (OL.nil ?_))))
 exact AW.ret ⟨y,hI,⟨_,.tmp rfl .nil,RO.row rfl (by rw [List.length_map]) rfl⟩,fun _ _ h=>by cases h⟩
set_option maxRecDepth 8000 in
set_option maxHeartbeats 1600000 in
theorem ViewsQ {m:Mach} {e:Nat} (ok:m.Ok) (fl:m.Full) (z6:m.Sz e) (n1:1≤m.n):FSpecE P F.rows_Machine_Views [vMach m] noMem (fun y:KSt=>.fn F.rows_Machine_Views_1 [.ref [dRows (turnM m) y.ks]]) (fun _=>noMem) (fun y=>InvB (turnM m) 16777215 [] y):=by
 have n6:=z6.n6
 have k4:=z6.k2
 refine FSpecE.intro fn.rows_Machine_Views (by rfl) (by rfl) (nb9 (by rfl)) fun E hE=>(AW.sg hE rfl (bxA rfl rfl fun b1=>(asD rfl (OL.nil (AW.seq (AW.regionK (by rw [hE];rfl) (SK.ofOL (ldPA ag.Machine rfl rfl (vs:=[_,_,_]) rfl (nb9 rfl) (OL.nil ?_)))))))))
 refine SK.ofOL (clv rfl .rq1 (TurnedQ fl n1 (by omega) (by omega)) (OL.nil ?_))
 refine SK.ofSO (SO.callE (args':=[vMach (turnM m)]) (show 6 < E.n by rw [hE];exact Nat.le_of_ble_eq_true (by rfl)) rfl (VLes.refl _) (Mc:=noMem) (fun _ _ h=>by cases h) (BasisQ (turn_ok ok) (turn_full m) z6.turn) (fun _ _ _ h=>h) ?_)
 rintro y hI
 refine SK.ofOL (al z.Rows rfl fun b3=>OL.nil ?_)
 refine SK.ofOL (sto sz.Rows rfl rfl rfl rfl rfl (nb9 rfl) (cells2:=[_]) rfl (OL.nil ?_))
 refine SK.nil (AW.seq (AW.freezeBox 3 [dRows (turnM m) y.ks] rfl (VCs.map_d [dRows (turnM m) y.ks]) (AW.to [(3,.ref [dRows (turnM m) y.ks])] [] (.cons (vle_of_eq (show V.frb 3 b3 [dRows (turnM m) y.ks] (.ptr 3 b3 0)=.ref [dRows (turnM m) y.ks] from frb_self)) .nil) .nil ?_)))
 refine AW.rg hE rfl (mkF (vs:=[_]) rfl (asF rfl (OL.nil ?_)))
 exact AW.ret ⟨y,hI,⟨_,.tmp rfl .nil,.le (VLe.refl _)⟩,fun _ _ h=>by cases h⟩
end Go.Proofs.YtfebfmplcjdomaaGreatDoor

set_option linter.unusedVariables false
set_option linter.unusedSimpArgs false
namespace Go.Proofs.YtfebfmplcjdomaaGreatDoor
open Go Go.AL
abbrev DSs:=DSt × SpB
def kD (b bs bf bw:Nat):KM DSs:=⟨fun y=>boxS b y.2 y.1.rs,fun y=>rowV y.2 y.1.rs,fun y=>rowC y.2 y.1.rs,fun y=>rowP y.2 y.1.rs,fun _=>.box bs T.pSpace [.ptr 1000 b 0],fun y=>.box bf T.bool [.d (dB y.1.o.isSome)],fun y=>.box bw T.ints [.d (ints (y.1.o.getD []))]⟩
theorem keepD_s {m:Mach} {w u:List Int} {rs:List SRow}:keepD m w ⟨some u,rs⟩ = (false,⟨some u,rs⟩):=if_pos rfl
theorem keepD_w {m:Mach} {w:List Int} {rs:List SRow} (h:wtM m w≠0):keepD m w ⟨none,rs⟩ = (false,⟨some w,rs⟩):=by
 unfold keepD;rw [if_neg (fun x=>by cases x),if_pos h]
theorem keepD_n {m:Mach} {w:List Int} {rs:List SRow} (h:wtM m w=0):keepD m w ⟨none,rs⟩ = (growsS rs (vecM m w),⟨none,addS rs (vecM m w)⟩):=by
 unfold keepD;rw [if_neg (fun x=>by cases x),if_neg (fun x=>x h)]
abbrev rMach (m:Mach):V:=.ref [dQs m.ini,dQs m.fin,.sl (m.mats.map dQss)]
set_option maxRecDepth 8000 in
set_option maxHeartbeats 1600000 in
theorem differ_s {m:Mach} {e b bs bf bw:Nat} {w:List Int} {rs:List SRow} {B:SpB} {u:List Int}:FSpecE P F.equal_differ_1 [vRow m w,.ptr 1005 bf 0,rMach m,.ptr 1006 bw 0,.ptr 1004 bs 0] (kmM (kD b bs bf bw) ((⟨some u,rs⟩,B):DSs)) (fun z:Bool × DSs=>.d (dB z.1)) (fun z=>kmM (kD b bs bf bw) z.2) (fun z=>z.1=(keepD m w ⟨some u,rs⟩).1∧z.2.1=(keepD m w ⟨some u,rs⟩).2):=by
 refine FSpecE.intro fn.equal_differ_1 (by rfl) (by rfl) (nb9 (by rfl)) fun E hE=>(AW.sg hE rfl (bxA rfl rfl fun b5=>(asD rfl (OL.nil (AW.seq (AW.sg hE rfl (ldPC ce.bool rfl rfl (v:=.d (dB true)) rfl ?_)))))))
 refine nt rfl (mvD rfl (OL.nd rfl (OL.nd rfl (OL.nd rfl (OL.nd rfl (OL.nd rfl (OL.nd rfl ?_)))))))
 refine OL.nd rfl (pkF rfl rfl (OL.nil (AW.cond rfl (fun hno=>absurd hno (by decide)) (fun _=>?_))))
 refine AW.skip (AW.sg hE rfl (ldPC ce.bool rfl rfl (v:=.d (dB true)) rfl (nt rfl (mvD rfl (OL.nd rfl (OL.nd rfl (OL.nd rfl ?_)))))))
 refine OL.nd rfl (pkF rfl rfl (asD rfl (OL.nil ?_)))
 exact AW.ret ⟨(false,(⟨some u,rs⟩,B)),⟨(congrArg Prod.fst keepD_s).symm,(congrArg Prod.snd keepD_s).symm⟩,⟨_,.tmp rfl .nil,.le (VLe.refl _)⟩,fun id blk hk=>lk_own (l:=kmL (kD b bs bf bw) (⟨some u,rs⟩,B)) (.cons rfl (.cons rfl (.cons rfl (.cons rfl (.cons rfl (.cons rfl (.cons rfl trivial))))))) id blk hk⟩
set_option maxRecDepth 8000 in
set_option maxHeartbeats 1600000 in
theorem differ_n {m:Mach} {e b bs bf bw:Nat} {w:List Int} {rs:List SRow} {B:SpB} (ok:m.Ok) (z6:m.Sz e) (sp:SpOK m.n 16777215 rs) (hw:w.length≤6):FSpecE P F.equal_differ_1 [vRow m w,.ptr 1005 bf 0,rMach m,.ptr 1006 bw 0,.ptr 1004 bs 0] (kmM (kD b bs bf bw) ((⟨none,rs⟩,B):DSs)) (fun z:Bool × DSs=>.d (dB z.1)) (fun z=>kmM (kD b bs bf bw) z.2) (fun z=>z.1=(keepD m w ⟨none,rs⟩).1∧z.2.1=(keepD m w ⟨none,rs⟩).2):=by
 have zd:sz (wtM m w)≤68719476736:=Nat.le_trans (dot_sz z6.n6 (vecM_sz z6 hw) z6.fin) (by have:=z6.e24;omega)
 refine FSpecE.intro fn.equal_differ_1 (by rfl) (by rfl) (nb9 (by rfl)) fun E hE=>(AW.sg hE rfl (bxA rfl rfl fun b5=>(asD rfl (OL.nil (AW.seq (AW.sg hE rfl (ldPC ce.bool rfl rfl (v:=.d (dB false)) rfl ?_)))))))
 refine nt rfl (mvD rfl (OL.yes rfl (faP fd.Row_1 rfl rfl (OL.yes rfl (ldPC ce.Rats rfl rfl rfl (OL.yes rfl (faR fd.Machine_1 rfl rfl ?_)))))))
 refine OL.yes rfl (ldRC ce.Rats rfl (OL.yes rfl (clv rfl (.cons (VLe.refl _) (.cons (VLe.refl _) (.nil))) (DotQ (u:=vecM m w) (v:=m.fin) (n:=m.n) (vecM_len ok w) ok.fin z6.n6 (vecM_sz z6 hw) (fun i=>Nat.le_trans (z6.fin i) (by have:=z6.e24;omega))) ?_)))
 rw [show dotM m.n (vf (vecM m w)) (vf m.fin)=wtM m w from rfl]
 refine OL.yes rfl (clv rfl (.cons (VLe.refl _) (.nil)) (rational_SignQ (x:=wtM m w) zd) (OL.yes rfl (c_neq rfl rfl rfl (OL.split 16 rfl (fun hn=>?_) (fun hn=>?_)))))
 ·have hn:wtM m w≠0:=fun x=>nd_t hn (sgnQ_eq.2 x)
  refine pkT rfl rfl (OL.nil (AW.cond rfl (fun _=>?_) (fun hno=>absurd hno (by decide))))
  refine AW.rg hE rfl (faP fd.Row_0 rfl rfl (ldPC ce.ints rfl rfl (v:=.d (ints w)) rfl (sto sz.ints rfl rfl rfl rfl rfl (nb9 rfl) rfl (sto sz.bool rfl rfl rfl rfl rfl (nb9 rfl) rfl (OL.nil (AW.seq (AW.regionK (by rw [hE];rfl) ?_)))))))
  refine SK.ofOL (ldPC ce.bool rfl rfl (v:=.d (dB true)) rfl (OL.nil ?_))
  refine SK.ofOL (nt rfl (OL.nil ?_))
  refine SK.ofOL (mvD (y:=dB false) rfl (OL.nil ?_))
  refine SK.ofOL (OL.nd rfl (OL.nil ?_))
  refine SK.ofOL (OL.nd rfl (OL.nil ?_))
  refine SK.ofOL (OL.nd rfl (OL.nil ?_))
  refine SK.ofOL (OL.nd rfl (OL.nil ?_))
  refine SK.ofOL (pkF rfl rfl (OL.nil ?_))
  refine SK.ofOL (asD (y:=dB false) rfl (OL.nil ?_))
  refine SK.nil ?_
  exact AW.ret ⟨(false,(⟨some w,rs⟩,B)),⟨(congrArg Prod.fst (keepD_w hn)).symm,(congrArg Prod.snd (keepD_w hn)).symm⟩,⟨_,.tmp rfl .nil,.le (VLe.refl _)⟩,fun id blk hk=>lk_own (l:=kmL (kD b bs bf bw) (⟨some w,rs⟩,B)) (.cons rfl (.cons rfl (.cons rfl (.cons rfl (.cons rfl (.cons rfl (.cons rfl trivial))))))) id blk hk⟩
 ·have hn:wtM m w=0:=sgnQ_eq.1 (nd_f hn)
  refine pkT rfl rfl (OL.nil (AW.cond rfl (fun hno=>absurd hno (by decide)) (fun _=>?_)))
  refine AW.skip (AW.seq (AW.regionK (by rw [hE];rfl) (SK.ofOL (ldPC ce.bool rfl rfl (v:=.d (dB false)) rfl (OL.nil ?_)))))
  refine SK.ofOL (nt rfl (OL.nil ?_))
  refine SK.ofOL (mvD (y:=dB true) rfl (OL.nil ?_))
  refine SK.ofOL (OL.yes rfl (ldPC ce.pSpace rfl rfl (v:=.ptr 1000 b 0) rfl (OL.nil ?_)))
  refine SK.ofOL (OL.yes rfl (faP fd.Row_1 rfl rfl (OL.nil ?_)))
  refine SK.ofOL (OL.yes rfl (ldPC ce.Rats rfl rfl (v:=.d (dQs (vecM m w))) rfl (OL.nil ?_)))
  refine SK.ofSOg rfl (SO.callE (args':=[.ptr 1000 b 0,.d (dQs (vecM m w))]) (show 26 < E.n by rw [hE];exact Nat.le_of_ble_eq_true (by rfl)) rfl (VLes.refl _) (Mc:=spM b B rs) (fun id blk hk=>lk_own (l:=spL b B rs) (.cons rfl (.cons rfl (.cons rfl (.cons rfl trivial)))) id blk hk) (AddS (b:=b) (B:=B) sp (vecM_len ok w) z6.n6 (fun i=>Nat.le_trans (vecM_sz z6 hw i) (by decide))) (fun x _ id hk=>spM_none id hk) ?_)
  rintro B2 -
  refine SK.ofOL (pkT rfl rfl (OL.nil ?_))
  refine SK.ofOL (asD (y:=dB (growsS rs (vecM m w))) rfl (OL.nil ?_))
  refine SK.nil ?_
  exact AW.ret ⟨(growsS rs (vecM m w),(⟨none,addS rs (vecM m w)⟩,B2)),⟨(congrArg Prod.fst (keepD_n hn)).symm,(congrArg Prod.snd (keepD_n hn)).symm⟩,⟨_,.tmp rfl .nil,.le (VLe.refl _)⟩,fun id blk hk=>lk_own (l:=kmL (kD b bs bf bw) (⟨none,addS rs (vecM m w)⟩,B2)) (.cons rfl (.cons rfl (.cons rfl (.cons rfl (.cons rfl (.cons rfl (.cons rfl trivial))))))) id blk hk⟩
theorem differ_1 {m:Mach} {e b bs bf bw:Nat} {w:List Int} {y:DSt} {B:SpB} (ok:m.Ok) (z6:m.Sz e) (sp:SpOK m.n 16777215 y.rs) (hw:w.length≤6):FSpecE P F.equal_differ_1 [vRow m w,.ptr 1005 bf 0,rMach m,.ptr 1006 bw 0,.ptr 1004 bs 0] (kmM (kD b bs bf bw) ((y,B):DSs)) (fun z:Bool × DSs=>.d (dB z.1)) (fun z=>kmM (kD b bs bf bw) z.2) (fun z=>z.1=(keepD m w y).1∧z.2.1=(keepD m w y).2):=by
 obtain ⟨o,rs⟩:=y
 cases o with
 | some u=>exact differ_s (e:=e)
 | none=>exact differ_n ok z6 sp hw
set_option maxRecDepth 8000 in
set_option maxHeartbeats 3200000 in
theorem differQ {m:Mach} {e:Nat} (ok:m.Ok) (fl:m.Full) (z6:m.Sz e):FSpecE P F.equal_differ [vMach m] noMem (fun _:Unit=>.tup [.d (ints ((firstNZ m).getD [])),.d (dB (firstNZ m).isSome)]) (fun _=>noMem) (fun _=>True):=by
 have n6:=z6.n6
 have k4:=z6.k2
 refine FSpecE.intro fn.equal_differ (by rfl) (by rfl) (nb9 (by rfl)) fun E hE=>(AW.sg hE rfl (bxA rfl rfl fun b1=>(al z.ints rfl fun b2=>(al z.bool rfl fun b3=>(OL.nil (AW.sg hE rfl (bd z.Space pl.Space (cs:=[_,_,_]) rfl ?_)))))))
 refine bxA rfl rfl fun b6=>(al z.pSpace rfl fun b4=>(sto sz.pSpace rfl rfl rfl rfl rfl (nb9 rfl) (cells2:=[_]) rfl (OL.nil (AW.seq (AW.rename 6 1000 rfl (AW.deadR 1001 T.Rats 1 rfl (AW.deadR 1002 T.Rats 1 rfl ?_)))))))
 refine AW.deadR 1003 T.int 1 rfl (AW.boxW 1000 [.osl 1001 0 0 0,.osl 1002 0 0 0,.osl 1003 0 0 0] rfl (.cons vle_mtO (.cons vle_mtO (.cons vle_mtO .nil))) (AW.rename 4 1004 rfl (AW.boxW 1004 [.ptr 1000 b6 0] rfl (.cons VLe.ptr .nil) (AW.rename 3 1005 rfl (AW.rename 2 1006 rfl (AW.boxW 1006 [.d (ints [])] rfl (.cons VLe.mt .nil) (AW.freezeBox 1 [dQs m.ini,dQs m.fin,.sl (m.mats.map dQss)] rfl (VCs.map_d [dQs m.ini,dQs m.fin,.sl (m.mats.map dQss)]) ?_)))))))
 refine AW.to [(1,rMach m),(2,.ptr 1006 b2 0),(3,.ptr 1005 b3 0),(4,.ptr 1004 b4 0)] (kmL (kD b6 b4 b3 b2) ((⟨none,[]⟩,(default:SpB)):DSs)) (.cons (vle_of_eq (show V.frb 1 b1 [dQs m.ini,dQs m.fin,.sl (m.mats.map dQss)] (.ptr 1 b1 0)=rMach m from frb_self)) (.cons VLe.ptr (.cons VLe.ptr (.cons VLe.ptr .nil)))) (.cons rfl (.cons rfl (.cons rfl (.cons rfl (.cons rfl (.cons rfl (.cons rfl (.nil)))))))) ?_
 refine AW.regionK (by rw [hE];rfl) (SK.ofOL (ldRA ag.Machine rfl (vs:=[_,_,_]) rfl (nb9 rfl) (OL.nil ?_)))
 refine SK.ofOL (mkF (vs:=[_,_,_,_]) rfl (OL.nil ?_))
 refine SK.ofSO (SO.callE (args':=[vMach m,.fn F.equal_differ_1 [.ptr 1005 b3 0,rMach m,.ptr 1006 b2 0,.ptr 1004 b4 0]]) (show 9 < E.n by rw [hE];exact Nat.le_of_ble_eq_true (by rfl)) rfl (VLes.refl _) (Mc:=kmM (kD b6 b4 b3 b2) ((⟨none,[]⟩,(default:SpB)):DSs)) (fun id blk hk=>lk_own (l:=kmL (kD b6 b4 b3 b2) ((⟨none,[]⟩,(default:SpB)):DSs)) (.cons rfl (.cons rfl (.cons rfl (.cons rfl (.cons rfl (.cons rfl (.cons rfl trivial))))))) id blk hk)
  (ExploreQ (m:=m) (k:=kD b6 b4 b3 b2) (I:=fun Q y=>InvE m 16777215 Q y.1) (μ:=fun Q y=>muD m Q y.1) ok fl z6 (fun Q y hI=>⟨hI.len,muD_le m Q y.1⟩)
   (fun w Q y hI=>FSpecE_mono (differ_1 (y:=y.1) (B:=y.2) ok z6 hI.sp (hI.len w (List.mem_cons_self ..))) fun z hz=>by
    have h9:=hI.next ok n6 (by decide) (fun i=>Nat.le_trans (vecM_sz z6 (hI.len w (List.mem_cons_self ..)) i) (by decide))
    rw [← hz.1,← hz.2] at h9
    exact h9) (InvE.start m 16777215) (by
     show [([]:List Int)].length+(m.k+1) * (m.n - 0)≤1000
     have h9:=Nat.mul_le_mul (show m.k+1≤5 by omega) (show m.n - 0≤6 by omega)
     rw [List.length_singleton];omega)) (fun x _ id hk=>kmM_none id hk) ?_)
 rintro ⟨y,B⟩ hI
 have hI:InvE m 16777215 [] y:=hI
 have ho:=hI.done
 obtain ⟨o,rs⟩:=y
 obtain rfl:o=firstNZ m:=ho
 refine SK.nil (AW.seq (AW.region_tree order_free (by rw [hE];rfl) (OT.node [0,1] (os:=[_,_]) (by kernel_rfl) (by decide) rfl ⟨?_,?_,trivial⟩)))
 ·refine ldPC ce.ints rfl rfl (v:=.d (ints ((firstNZ m).getD []))) rfl (OL.nil (OT.node [1,2] (os:=[_,_]) (by kernel_rfl) (by decide) rfl ⟨?_,?_,trivial⟩))
  ·refine ldPC ce.bool rfl rfl (v:=.d (dB (firstNZ m).isSome)) rfl (OL.nil (OT.node [2] (os:=[_]) (by kernel_rfl) (by decide) rfl ⟨?_,trivial⟩))
   refine sto sz.ints rfl rfl rfl rfl rfl (nb9 rfl) (cells2:=[_]) rfl (OL.nil (OT.node [3] (os:=[_]) (by kernel_rfl) (by decide) rfl ⟨?_,trivial⟩))
   refine sto sz.bool rfl rfl rfl rfl rfl (nb9 rfl) (cells2:=[_]) rfl (OL.nil (OT.leaf (by kernel_rfl) ?_))
   exact AW.ret ⟨(),trivial,⟨_,.cellC rfl rfl ce.ints rfl (.cellC rfl rfl ce.bool rfl .nil),_,.cons (.le (VLe.refl _)) (.cons (.le (VLe.refl _)) .nil),rfl⟩,fun _ _ h=>by cases h⟩
  ·refine sto sz.ints rfl rfl rfl rfl rfl (nb9 rfl) (cells2:=[_]) rfl (OL.nil (OT.node [1] (os:=[_]) (by kernel_rfl) (by decide) rfl ⟨?_,trivial⟩))
   refine ldPC ce.bool rfl rfl (v:=.d (dB (firstNZ m).isSome)) rfl (OL.nil (OT.node [3] (os:=[_]) (by kernel_rfl) (by decide) rfl ⟨?_,trivial⟩))
   refine sto sz.bool rfl rfl rfl rfl rfl (nb9 rfl) (cells2:=[_]) rfl (OL.nil (OT.leaf (by kernel_rfl) ?_))
   exact AW.ret ⟨(),trivial,⟨_,.cellC rfl rfl ce.ints rfl (.cellC rfl rfl ce.bool rfl .nil),_,.cons (.le (VLe.refl _)) (.cons (.le (VLe.refl _)) .nil),rfl⟩,fun _ _ h=>by cases h⟩
 ·refine ldPC ce.bool rfl rfl (v:=.d (dB (firstNZ m).isSome)) rfl (OL.nil (OT.node [0] (os:=[_]) (by kernel_rfl) (by decide) rfl ⟨?_,trivial⟩))
  refine ldPC ce.ints rfl rfl (v:=.d (ints ((firstNZ m).getD []))) rfl (OL.nil (OT.node [2] (os:=[_]) (by kernel_rfl) (by decide) rfl ⟨?_,trivial⟩))
  refine sto sz.ints rfl rfl rfl rfl rfl (nb9 rfl) (cells2:=[_]) rfl (OL.nil (OT.node [3] (os:=[_]) (by kernel_rfl) (by decide) rfl ⟨?_,trivial⟩))
  refine sto sz.bool rfl rfl rfl rfl rfl (nb9 rfl) (cells2:=[_]) rfl (OL.nil (OT.leaf (by kernel_rfl) ?_))
  exact AW.ret ⟨(),trivial,⟨_,.cellC rfl rfl ce.ints rfl (.cellC rfl rfl ce.bool rfl .nil),_,.cons (.le (VLe.refl _)) (.cons (.le (VLe.refl _)) .nil),rfl⟩,fun _ _ h=>by cases h⟩
end Go.Proofs.YtfebfmplcjdomaaGreatDoor

set_option linter.unusedVariables false
set_option linter.unusedSimpArgs false
namespace Go.AL
open Go Go.BigFrame
def iniT (l:List Au) (k:Nat):List Rat:=(l.take k).flatMap (·.ini)
def finT (l:List Au) (k:Nat):List Rat:=finL (l.take k)
def entB (o:Nat) (a:Au) (s i j:Nat):Rat:=if o≤i∧o≤j then (if i - o < a.st∧j - o < a.st then entA a.arcs s (i - o) (j - o) else 0) else 0
def cO (l:List Au) (k:Nat) (U:List Arc9) (s i j:Nat):Rat:=entL (l.take k) s i j+(if sizeL (l.take k)≤i∧sizeL (l.take k)≤j then entA U s (i - sizeL (l.take k)) (j - sizeL (l.take k)) else 0)
section
variable {a b x:Au} {l r:List Au} {s i j k o:Nat}
theorem takeA (hk:k < l.length):l.take (k+1)=l.take k ++ [l.getD k default]:=by
 rw [List.take_succ_eq_append_getElem hk,List.getD_eq_getElem?_getD,List.getElem?_eq_getElem hk];rfl
theorem sizeL_app:sizeL (l ++ r)=sizeL l+sizeL r:=by simp [sizeL]
theorem sizeL_snoc (hk:k < l.length):sizeL (l.take (k+1))=sizeL (l.take k)+(l.getD k default).st:=by rw [takeA hk,sizeL_app];simp [sizeL]
theorem iniT_snoc (hk:k < l.length):iniT l (k+1)=iniT l k ++ (l.getD k default).ini:=by unfold iniT;rw [takeA hk,List.flatMap_append];simp
theorem finL_app:∀ (l:List Au),l≠[]→finL (l ++ [a])=finL l ++ a.fin.map fun x=>-x
 | [],h=>absurd rfl h
 | b :: r,_=>by
  show b.fin ++ (r ++ [a]).flatMap (fun b=>b.fin.map fun x=>-x)=(b.fin ++ r.flatMap fun b=>b.fin.map fun x=>-x) ++ _
  rw [List.flatMap_append,List.append_assoc];simp
theorem finT_snoc (hk:k < l.length) (hp:0 < k):finT l (k+1)=finT l k ++ (l.getD k default).fin.map fun x=>-x:=by
 unfold finT
 rw [takeA hk,finL_app _ (fun h=>by have:=congrArg List.length h;rw [List.length_take,List.length_nil] at this;omega)]
theorem finT_one (hk:0 < l.length):finT l 1=(l.getD 0 default).fin:=by
 unfold finT
 rw [takeA hk]
 simp [finL]
theorem iniT_len (h:∀ a,a ∈ l→a.Ok):∀ k,(iniT l k).length=sizeL (l.take k)
 | 0=>by simp [iniT,sizeL]
 | k + 1 => by
  rcases Nat.lt_or_ge k l.length with hk | hk
  ·rw [iniT_snoc hk,List.length_append,iniT_len h k,sizeL_snoc hk,(h _ (getD_mem hk default)).ini]
  ·have:=iniT_len h k
   unfold iniT at *
   rw [List.take_of_length_le hk] at this
   rw [List.take_of_length_le (by omega)];exact this
theorem finT_len (h:∀ a,a ∈ l→a.Ok):∀ k,(finT l k).length=sizeL (l.take k)
 | 0=>by simp [finT,finL,sizeL]
 | k + 1 => by
  rcases Nat.lt_or_ge k l.length with hk | hk
  ·have hf:=(h _ (getD_mem hk default)).fin
   rcases Nat.eq_zero_or_pos k with h0 | h0
   ·subst h0
    rw [finT_one hk,sizeL_snoc hk,hf];simp [sizeL]
   ·rw [finT_snoc hk h0,List.length_append,List.length_map,finT_len h k,sizeL_snoc hk,hf]
  ·have:=finT_len h k
   unfold finT at *
   rw [List.take_of_length_le hk] at this
   rw [List.take_of_length_le (by omega)];exact this
theorem entL_snoc:∀ (l:List Au) (s i j:Nat),entL (l ++ [a]) s i j=entL l s i j+entB (sizeL l) a s i j
 | [], s, i, j => by
  show (if i < a.st then (if j < a.st then entA a.arcs s i j else 0) else (if j < a.st then 0 else 0))=0+(if 0≤i∧0≤j then (if i - 0 < a.st∧j - 0 < a.st then entA a.arcs s (i - 0) (j - 0) else 0) else 0)
  rw [Rat.zero_add,if_pos (show 0≤i∧0≤j from ⟨Nat.zero_le _,Nat.zero_le _⟩),Nat.sub_zero,Nat.sub_zero]
  by_cases h1:i < a.st
  ·by_cases h2:j < a.st
   ·rw [if_pos h1,if_pos h2,if_pos ⟨h1,h2⟩]
   ·rw [if_pos h1,if_neg h2,if_neg (fun e=>h2 e.2)]
  ·rw [if_neg h1,if_neg (show ¬(i < a.st∧j < a.st) from fun e=>h1 e.1)];split <;> rfl
 | b :: r, s, i, j => by
  have hs:sizeL (b :: r)=b.st+sizeL r:=by simp [sizeL]
  rw [List.cons_append,entL,entL,hs]
  by_cases h1:i < b.st
  ·have hb:entB (b.st+sizeL r) a s i j=0:=if_neg (by omega)
   rw [if_pos h1,if_pos h1,hb,Rat.add_zero]
  ·by_cases h2:j < b.st
   ·have hb:entB (b.st+sizeL r) a s i j=0:=if_neg (by omega)
    rw [if_neg h1,if_neg h1,if_pos h2,if_pos h2,hb,Rat.add_zero]
   ·rw [if_neg h1,if_neg h1,if_neg h2,if_neg h2,entL_snoc r]
    congr 1
    unfold entB
    rw [show i - b.st - sizeL r=i - (b.st+sizeL r) by omega,show j - b.st - sizeL r=j - (b.st+sizeL r) by omega]
    by_cases h3:sizeL r≤i - b.st∧sizeL r≤j - b.st
    ·rw [if_pos h3,if_pos (show b.st+sizeL r≤i∧b.st+sizeL r≤j by omega)]
    ·rw [if_neg h3,if_neg (show ¬(b.st+sizeL r≤i∧b.st+sizeL r≤j) by omega)]
theorem entL_out:∀ (l:List Au) (s i j:Nat),sizeL l≤i ∨ sizeL l≤j→entL l s i j=0
 | [],_,_,_,_=>rfl
 | b :: r, s, i, j, h => by
  have hs:sizeL (b :: r)=b.st+sizeL r:=by simp [sizeL]
  rw [hs] at h
  rw [entL]
  by_cases h1:i < b.st
  ·rw [if_pos h1,if_neg (by omega)]
  ·rw [if_neg h1]
   split
   ·rfl
   ·exact entL_out r s _ _ (by omega)
theorem cO_start:cO l k [] s i j=entL (l.take k) s i j:=by
 unfold cO
 split
 ·rw [entA_nil,Rat.add_zero]
 ·rw [Rat.add_zero]
theorem cO_done (hk:k < l.length) (h:(l.getD k default).Ok):cO l k (tidyA (l.getD k default).arcs) s i j=entL (l.take (k+1)) s i j:=by
 rw [takeA hk,entL_snoc]
 unfold cO entB
 congr 1
 by_cases h1:sizeL (l.take k)≤i∧sizeL (l.take k)≤j
 ·rw [if_pos h1,if_pos h1,entA_tidy]
  by_cases h2:i - sizeL (l.take k) < (l.getD k default).st∧j - sizeL (l.take k) < (l.getD k default).st
  ·rw [if_pos h2]
  ·rw [if_neg h2]
   exact entA_out (n:=(l.getD k default).st) (fun x hx=>⟨(h.arc x hx).1,(h.arc x hx).2.1⟩) (by omega)
 ·rw [if_neg h1,if_neg h1]
theorem entA_new {T:List Arc9} (ha:T.Pairwise fun a b=>ordA a b < 0) {p:Nat} (hp:p < T.length) (h1:1≤(T.getD p default).l):entA (T.take p) ((T.getD p default).l - 1) (T.getD p default).f (T.getD p default).t=0:=by
 refine lsumZ fun y hy=>if_neg fun e=>?_
 have hs:T=T.take p ++ T.getD p default :: T.drop (p+1):=by
  rw [List.getD_eq_getElem?_getD,List.getElem?_eq_getElem hp]
  exact (List.take_append_drop p T).symm.trans (by rw [List.drop_eq_getElem_cons hp];rfl)
 rw [hs] at ha
 have:=(List.pairwise_append.1 ha).2.2 y hy _ (List.mem_cons_self ..)
 rw [ordA_lt] at this
 omega
theorem cO_step {T:List Arc9} (ha:T.Pairwise fun a b=>ordA a b < 0) {p:Nat} (hp:p < T.length) (h1:1≤(T.getD p default).l) :
  cO l k (T.take (p+1)) s i j=if s=(T.getD p default).l - 1∧i=sizeL (l.take k)+(T.getD p default).f∧j=sizeL (l.take k)+(T.getD p default).t then (T.getD p default).q else cO l k (T.take p) s i j:=by
 have ht:T.take (p+1)=T.take p ++ [T.getD p default]:=by
  rw [List.take_succ_eq_append_getElem hp,List.getD_eq_getElem?_getD,List.getElem?_eq_getElem hp];rfl
 have hn:=entA_new ha hp h1
 generalize T.getD p default=x at *
 unfold cO
 rw [ht]
 by_cases hc:s=x.l - 1∧i=sizeL (l.take k)+x.f∧j=sizeL (l.take k)+x.t
 ·rw [if_pos hc]
  obtain ⟨rfl,rfl,rfl⟩:=hc
  rw [entL_out _ _ _ _ (.inl (Nat.le_add_right _ _)),if_pos ⟨Nat.le_add_right _ _,Nat.le_add_right _ _⟩,Nat.add_sub_cancel_left,Nat.add_sub_cancel_left,entA_app,hn,entA_cons,entA_nil,show pickA (x.l - 1) x.f x.t x=x.q from if_pos ⟨rfl,by omega,rfl⟩,Rat.zero_add,Rat.zero_add,Rat.add_zero]
 ·rw [if_neg hc]
  congr 1
  by_cases h2:sizeL (l.take k)≤i∧sizeL (l.take k)≤j
  ·rw [if_pos h2,if_pos h2,entA_app,entA_cons,entA_nil,Rat.add_zero,show pickA s (i - sizeL (l.take k)) (j - sizeL (l.take k)) x=0 from if_neg (by omega),Rat.add_zero]
  ·rw [if_neg h2,if_neg h2]
end
end Go.AL
