/-
  Walks of package hmm: Emitting of a model without silent states (printed by mk2.py).
-/
import Derived.Test.YteiohkpjgcioaaaGreatDoorKHxF
set_option linter.unusedVariables false
set_option linter.unusedSimpArgs false
namespace Go.Proofs.YteiohkpjgcioaaaGreatDoor
open Go Go.AL
theorem upI_succ {i:Nat}:upI (i+1)=upI i++[(i:Int)]:=by unfold upI;rw [List.range_succ,List.map_append];rfl
theorem tn_data {l:List Int}{i:Nat}(h:0≤l.getD i 0)(hi:i<l.length):dI (l.getD i 0)=dN ((l.map Int.toNat).getD i 0):=by
 rw [map_mem (d:=0) hi]
 show dI _=dI _
 rw [Int.toNat_of_nonneg h]
theorem order_emit {h:HM}{B:Nat}(g:HM.GoodX 1048576 B h):FSpec P F.hmm_order [vHM h] (.tup [.mt,.d (dB true)]):=hmm_order_ok g
set_option maxRecDepth 16000 in
set_option maxHeartbeats 12800000 in
theorem EmitX {h : HM} {B : Nat} (g : HM.GoodX 1048576 B h) : FSpecE P F.hmm_Emitting [vHM h] noMem (fun z : List Int => .tup [vHM ⟨h.sym, h.st, h.empty, h.ini, h.trans, h.stop, h.emit, List.replicate h.st false, z⟩, .d (dI 0)]) (fun _ => noMem) (fun _ => True) := by
 have f:=g.form
 have n0:=f.st0
 have n1:=f.st1
 have s1:=f.sym1
 have hb1:=f.b1
 have hbB:=f.bB
 have zE:=f.zE
 have e1:=f.ini
 have e2:=f.trans
 have e3:=f.stop
 have e4:=f.emit
 have e5:=f.ties
 have e6:(h.ties.map Int.toNat).length=h.st:=by rw [lm9,e5]
 refine FSpecE.intro fn.hmm_Emitting (by rfl) (by rfl) (nb9 (by rfl)) fun E hE=>(AW.sg hE rfl (bxA rfl rfl fun b1=>(al z.Hidden rfl fun b2=>(asD rfl (OL.nil (AW.seq (AW.sg hE rfl ?_)))))))
 refine ldPA ag.Hidden rfl rfl (vs:=[_,_,_,_,_,_,_,_,_,_,_]) rfl (nb9 rfl) (clv rfl vL (hmm_Valid_okW g) (asD rfl (OL.nil (AW.sg hE rfl (mvD rfl (c_neq rfl rfl (c:=false) (by exact cne_f (by omega)) (OL.nil ?_)))))))
 refine cnF rfl ?_
 refine AW.skip (AW.sg hE rfl (ldPA ag.Hidden rfl rfl (vs:=[_,_,_,_,_,_,_,_,_,_,_]) rfl (nb9 rfl) (clv rfl vL (order_emit g) (mvT rfl (ex rfl rfl (ex rfl rfl (asM rfl ?_)))))))
 refine asD rfl (OL.nil (AW.sg hE rfl (al z.ints rfl fun b7=>(OL.nil (AW.sg hE rfl (asM rfl (OL.nil ?_)))))))
 refine AW.seq (AW.sg hE rfl (faP fd.Hidden_1 rfl rfl (ldPC ce.int rfl rfl rfl (mvD rfl (OL.nil (AW.block (AW.boxW 7 [.osl 45 0 0 0] rfl (.cons VLe.mtO .nil) ?_)))))))
 refine AW.row0 45 T.int 1 rfl (AW.own 8 53 T.int 1 rfl rfl ?_)
 refine AW.whileK (α:=Nat × Nat × Nat × Nat × Nat) [(1,_),(2,_),(3,_),(5,_),(7,_),(32,_)] [(1,_),(2,_)] (fun (i,p1,c1,p2,c2)=>[(8,.osl 53 p2 i c2),(33,.d (dI i))]) (fun (i,p1,c1,p2,c2)=>[(7,.box b7 T.ints [.osl 45 p1 i c1]),(45,.row p1 c1 T.int 1 ((upI i).map dI)),(53,.row p2 c2 T.int 1 (((h.ties.map Int.toNat).take i).map dN))]) (fun (i,p1,c1,p2,c2)=>i≤h.st) (fun (i,p1,c1,p2,c2)=>h.st-i) (0,0,0,0,0) (.cons (knP rfl) (.cons (knP rfl) (.cons (knD rfl) (.cons (knM rfl) (.cons (knP rfl) (.cons (knD rfl) .nil)))))) (.cons (owB rfl) (.cons (owB rfl) .nil)) ⟨Nat.zero_le _,.rq2,.cons rfl (.cons rfl (.cons rfl .nil))⟩ ?_
 rintro ⟨i,p1,c1,p2,c2⟩ h1
 have h1:i≤h.st:=h1
 refine AW.sg hE rfl (c_lss rfl rfl rfl (OL.nil (AW.seq (AW.cond rfl (fun h34=>?_) (fun h34=>?_)))))
 ·try simp only [dx9] at h34
  refine AW.skip (AW.seq (AW.block (AW.sg hE rfl (mvD rfl (asD rfl (OL.nil (AW.seq ?_)))))))
  have hi:i<h.st:=by omega
  have hti:=f.tie i hi
  have htd:=tn_data hti.1 (show i<h.ties.length by omega)
  refine AW.rg hE rfl (faP fd.Hidden_7 rfl rfl (ldPC ce.bools rfl rfl rfl (mvD rfl (ixLn sl.bools false rfl rfl (by rw [f.silent,List.length_replicate];exact hi) rfl rfl (ldRC ce.bool rfl ?_)))))
  rw [show h.silent.getD i false=false by rw [f.silent,gd9,List.getElem?_replicate];split <;> rfl]
  refine nt rfl (OL.nil (cnT rfl ?_))
  refine AW.dg 2 [0,1,2,4,5,6,7,8,9,10,3,11,12,13] order_free hE rfl (by kernel_rfl) (OI.of_OL (os:=[_,_,_,_,_,_,_,_,_,_,_,_,_,_]) rfl ?_)
  refine ldPC ce.ints rfl rfl rfl (mvD rfl (lt1 (y:=dI i) sl.ints (VC.d _).vd rfl (by decide) (mvO rfl (faP fd.Hidden_8 rfl rfl (ldPC ce.ints rfl rfl rfl (mvD rfl (ixLn sl.ints 0 rfl rfl (by omega) rfl rfl ?_)))))))
  refine ldRC ce.int rfl (lt1 (y:=dI (h.ties.getD i 0)) sl.ints (VC.d _).vd rfl (by decide) ?_)
  refine apO sl.ints rfl rfl rfl (by rw [lm9,upI_len]) (VC.d _) (fun y hy=>by rw [ms9 hy];rfl) (by simp only [ls9];omega) (by simp only [ls9];omega) (.inr rfl) (ys:=(upI (i+1)).map dI) (by rw [upI_succ,List.map_append];rfl) (n2:=i+1) rfl fun b45 c45=>?_
  refine apO sl.ints rfl rfl rfl (by rw [lm9,List.length_take];omega) (VC.d _) (fun y hy=>by rw [ms9 hy];rfl) (by simp only [ls9];omega) (by simp only [ls9];omega) (.inr rfl) (ys:=((h.ties.map Int.toNat).take (i+1)).map dN) (by rw [take_succ_getD (show i<(h.ties.map Int.toNat).length by omega) 0,List.map_append,htd];rfl) (n2:=i+1) rfl fun b53 c53=>?_
  refine sto sz.ints rfl rfl rfl rfl rfl (nb9 rfl) (cells2:=[_]) rfl (asO rfl (OL.nil (AW.rg hE rfl (add_i64 rfl rfl (by omega) (mvD rfl (OL.nil ?_))))))
  exact AW.again (x:=(i,p1,c1,p2,c2)) (i+1,b45,c45,b53,c53) (by (simp only [];omega)) ⟨by omega,Knows.app .rq6 .rq2,Owns.app (.cons rfl (.cons rfl .nil)) (.cons rfl (.cons rfl (.cons rfl .nil)))⟩
 ·try simp only [dx9] at h34
  refine AW.exit (AW.seq (AW.seq ?_))
  obtain rfl:i=h.st:=by omega
  refine AW.rename 53 1000 rfl (AW.rg hE rfl (ldPC ce.ints rfl rfl rfl (lnO sl.ints rfl rfl (c_eql rfl rfl (c:=false) (by exact decide_eq_false (by omega)) (OL.nil (cnF rfl ?_))))))
  refine AW.skip (AW.sg hE rfl (mvO rfl (OL.callM (v:=.tup []) (.mk (args':=[.osl 1000 p2 h.st c2]) rfl (.cons VLe.osl .nil) (mem1_keep (id:=1000) (blk:=.row p2 c2 T.int 1 (((h.ties.map Int.toNat).take h.st).map dN)) rfl) mem1_sub (sortO (by rw [List.length_take];omega) ⟨n0,n1⟩)) (OL.nil (AW.seq (AW.regionK (by rw [hE];rfl) (SK.ofOL (mvO rfl (OL.nil ?_)))))))))
  refine SK.ofSO (SO.callE (args':=[.osl 1000 p2 h.st c2]) (show 62<E.n by rw [hE];exact Nat.le_of_ble_eq_true (by rfl)) rfl (.cons VLe.osl .nil) (Mc:=mem1 1000 (.row p2 c2 T.int 1 ((sortF ltN (h.st-1) ((h.ties.map Int.toNat).take h.st)).map dN))) (mem1_keep rfl) (compactN (by rw [sortF_len,List.length_take];omega) (by omega)) (fun _ _ _ _=>rfl) ?_)
  rintro tz htz
  have htz2:tz.length≤h.st:=htz
  refine SK.ofOL (asD rfl (OL.nil ?_))
  refine SK.nil (AW.seq ?_)
  refine AW.freeze 45 rfl (AW.boxW 7 [.d (ints (upI h.st))] rfl (.cons (frz_osl (by rw [lm9,upI_len]) rfl) .nil) (AW.freezeBox 7 [(ints (upI h.st))] rfl (VCs.map_d [(ints (upI h.st))]) (AW.to [(7,.ref [(ints (upI h.st))]),(1,_),(2,_),(5,_),(8,.d (.sl (tz.map dN)))] [(1,_),(2,_)] (.cons (vle_of_eq (show V.frb 7 b7 [(ints (upI h.st))] (.ptr 7 b7 0)=.ref [(ints (upI h.st))] from frb_self)) (by repeat (first|exact Knows.nil|refine Knows.cons (by first|exact knD rfl|exact knA rfl|exact knP rfl|exact knO rfl|exact knM rfl|exact knE rfl|exact knR rfl|exact knF rfl|exact knT rfl|exact knI rfl|exact knB rfl|exact knJ) ?_))) (by repeat (first|exact Owns.nil|refine Owns.cons (owB rfl) ?_)) ?_)))
  refine AW.rg hE rfl (mkF (vs:=[_]) rfl (asF rfl (OL.nil (AW.seq (AW.dg 144 [0,1,2,3,4,5,6,7,8,9] order_free hE rfl (by kernel_rfl) (OI.of_OL (os:=[_,_,_,_,_,_,_,_,_,_]) rfl ?_))))))
  refine faP fd.Hidden_0 rfl rfl (ldPC ce.int rfl rfl rfl (ldRC ce.ints rfl (lnL sl.ints rfl rfl ?_)))
  rw [upI_len]
  refine ldRC ce.ints rfl (lnL sl.ints rfl rfl ?_)
  rw [upI_len]
  refine mkLd (n:=h.st) (cp:=h.st) dB false sl.bools z.bool (VCs.cons (VC.d _) VCs.nil) rfl rfl (Nat.le_refl _) (by omega) (by omega) rfl rfl fun b70=>(bd2 (cs:=[_,_,_,_,_,_,_,_,_,_,_]) z.Hidden pl.Hidden (pvC (by exact evD rfl) (pvC (by exact evD rfl) (pvC (by exact evO rfl) (pvN)))) (by rfl) (al z.Hidden rfl fun b11=>(sto sz.Hidden rfl rfl rfl rfl rfl (nb9 rfl) (cells2:=[_,_,_,_,_,_,_,_,_,_,_]) rfl (OL.nil (AW.sg hE rfl (ldPA ag.Hidden rfl rfl (vs:=[_,_,_,_,_,_,_,_,_,_,_]) rfl (nb9 rfl) (mvM rfl ?_)))))))
  refine faP fd.Hidden_3 rfl rfl (ldPC ce.Rats rfl rfl rfl (faP fd.Hidden_2 rfl rfl (ldPA ag.Rat rfl rfl (vs:=[_,_,_]) rfl (nb9 rfl) (clv rfl (.cons vR (.cons VLe.mt .rq2)) (through0 (l:=h.ini) (e:=h.empty) (C:=B) f.zI ⟨hb1,by omega⟩ (by omega) (by omega)) (mvT rfl (ex rfl rfl (ex rfl rfl ?_)))))))
  refine al z.Rat rfl fun b13=>(asD rfl (sto sz.Rat rfl rfl rfl rfl rfl (nb9 rfl) (cells2:=[_,_,_]) rfl (OL.nil ?_)))
  refine AW.midK (α:=Unit) [(1,_),(2,_),(3,_),(5,_),(7,_),(8,_),(10,_),(11,_)] [(1,_),(2,_)] (fun _u=>[]) (fun _u=>[(11,.box b11 T.Hidden [.d (dI h.sym),.d (dI h.st),.d (dB (ofQ h.empty).neg),.d (u32s (ofQ h.empty).num),.d (u32s (ofQ h.empty).den),.d (dQs h.ini),.mt,.mt,.mt,.osl 70 b70 h.st h.st,.mt]),(70,.row b70 h.st T.bool 1 ((List.replicate h.st false).map dB))]) (fun _u=>True) (.cons (knP rfl) (.cons (knP rfl) (.cons (knJ) (.cons (knM rfl) (.cons (knR rfl) (.cons (knD rfl) (.cons (knF rfl) (.cons (knP rfl) .nil)))))))) (.cons (owB rfl) (.cons (owB rfl) .nil)) ?_ ?_
  ·refine AW.region_tree order_free (by rw [hE];rfl) (OT.node [0,1,3] (os:=[_,_,_]) (by kernel_rfl) (by decide) rfl ⟨?_,?_,?_,trivial⟩)
   ·refine mvF rfl (OL.nil (OT.node [1,3] (os:=[_,_]) (by kernel_rfl) (by decide) rfl ⟨?_,?_,trivial⟩))
    ·refine mvD rfl (OL.nil (OT.node [2,3] (os:=[_,_]) (by kernel_rfl) (by decide) rfl ⟨?_,?_,trivial⟩))
     ·refine clv rfl vL (pickH (l:=h.ini) (n:=h.st) f.ini (by omega)) (OL.nil (OT.node [3,4] (os:=[_,_]) (by kernel_rfl) (by decide) rfl ⟨?_,?_,trivial⟩))
      ·refine ldPA ag.Rat rfl rfl (vs:=[_,_,_]) rfl (nb9 rfl) (OL.nil (OT.node [4] (os:=[_]) (by kernel_rfl) (by decide) rfl ⟨?_,trivial⟩))
       refine faP fd.Hidden_3 rfl rfl (OL.nil (OT.node [5] (os:=[_]) (by kernel_rfl) (by decide) rfl ⟨?_,trivial⟩))
       refine sto sz.Rats rfl rfl rfl rfl rfl (nb9 rfl) (cells2:=[_,_,_,_,_,_,_,_,_,_,_]) rfl (OL.nil (OT.node [6] (os:=[_]) (by kernel_rfl) (by decide) rfl ⟨?_,trivial⟩))
       refine faP fd.Hidden_2 rfl rfl (OL.nil (OT.node [7] (os:=[_]) (by kernel_rfl) (by decide) rfl ⟨?_,trivial⟩))
       refine sto sz.Rat rfl rfl rfl rfl rfl (nb9 rfl) (cells2:=[_,_,_,_,_,_,_,_,_,_,_]) rfl (OL.nil (OT.leaf (by kernel_rfl) ?_))
       exact AW.reach () ⟨trivial,Knows.app .rq8 (.nil),Owns.app (.cons rfl (.cons rfl .nil)) (.cons rfl (.cons rfl .nil))⟩
      ·refine faP fd.Hidden_3 rfl rfl (OL.nil (OT.node [3,5] (os:=[_,_]) (by kernel_rfl) (by decide) rfl ⟨?_,?_,trivial⟩))
       ·refine ldPA ag.Rat rfl rfl (vs:=[_,_,_]) rfl (nb9 rfl) (OL.nil (OT.node [5] (os:=[_]) (by kernel_rfl) (by decide) rfl ⟨?_,trivial⟩))
        refine sto sz.Rats rfl rfl rfl rfl rfl (nb9 rfl) (cells2:=[_,_,_,_,_,_,_,_,_,_,_]) rfl (OL.nil (OT.node [6] (os:=[_]) (by kernel_rfl) (by decide) rfl ⟨?_,trivial⟩))
        refine faP fd.Hidden_2 rfl rfl (OL.nil (OT.node [7] (os:=[_]) (by kernel_rfl) (by decide) rfl ⟨?_,trivial⟩))
        refine sto sz.Rat rfl rfl rfl rfl rfl (nb9 rfl) (cells2:=[_,_,_,_,_,_,_,_,_,_,_]) rfl (OL.nil (OT.leaf (by kernel_rfl) ?_))
        exact AW.reach () ⟨trivial,Knows.app .rq8 (.nil),Owns.app (.cons rfl (.cons rfl .nil)) (.cons rfl (.cons rfl .nil))⟩
       ·refine sto sz.Rats rfl rfl rfl rfl rfl (nb9 rfl) (cells2:=[_,_,_,_,_,_,_,_,_,_,_]) rfl (OL.nil (OT.node [3] (os:=[_]) (by kernel_rfl) (by decide) rfl ⟨?_,trivial⟩))
        refine ldPA ag.Rat rfl rfl (vs:=[_,_,_]) rfl (nb9 rfl) (OL.nil (OT.node [6] (os:=[_]) (by kernel_rfl) (by decide) rfl ⟨?_,trivial⟩))
        refine faP fd.Hidden_2 rfl rfl (OL.nil (OT.node [7] (os:=[_]) (by kernel_rfl) (by decide) rfl ⟨?_,trivial⟩))
        refine sto sz.Rat rfl rfl rfl rfl rfl (nb9 rfl) (cells2:=[_,_,_,_,_,_,_,_,_,_,_]) rfl (OL.nil (OT.leaf (by kernel_rfl) ?_))
        exact AW.reach () ⟨trivial,Knows.app .rq8 (.nil),Owns.app (.cons rfl (.cons rfl .nil)) (.cons rfl (.cons rfl .nil))⟩
     ·refine ldPA ag.Rat rfl rfl (vs:=[_,_,_]) rfl (nb9 rfl) (OL.nil (OT.node [2] (os:=[_]) (by kernel_rfl) (by decide) rfl ⟨?_,trivial⟩))
      refine clv rfl vL (pickH (l:=h.ini) (n:=h.st) f.ini (by omega)) (OL.nil (OT.node [4] (os:=[_]) (by kernel_rfl) (by decide) rfl ⟨?_,trivial⟩))
      refine faP fd.Hidden_3 rfl rfl (OL.nil (OT.node [5] (os:=[_]) (by kernel_rfl) (by decide) rfl ⟨?_,trivial⟩))
      refine sto sz.Rats rfl rfl rfl rfl rfl (nb9 rfl) (cells2:=[_,_,_,_,_,_,_,_,_,_,_]) rfl (OL.nil (OT.node [6] (os:=[_]) (by kernel_rfl) (by decide) rfl ⟨?_,trivial⟩))
      refine faP fd.Hidden_2 rfl rfl (OL.nil (OT.node [7] (os:=[_]) (by kernel_rfl) (by decide) rfl ⟨?_,trivial⟩))
      refine sto sz.Rat rfl rfl rfl rfl rfl (nb9 rfl) (cells2:=[_,_,_,_,_,_,_,_,_,_,_]) rfl (OL.nil (OT.leaf (by kernel_rfl) ?_))
      exact AW.reach () ⟨trivial,Knows.app .rq8 (.nil),Owns.app (.cons rfl (.cons rfl .nil)) (.cons rfl (.cons rfl .nil))⟩
    ·refine ldPA ag.Rat rfl rfl (vs:=[_,_,_]) rfl (nb9 rfl) (OL.nil (OT.node [1] (os:=[_]) (by kernel_rfl) (by decide) rfl ⟨?_,trivial⟩))
     refine mvD rfl (OL.nil (OT.node [2] (os:=[_]) (by kernel_rfl) (by decide) rfl ⟨?_,trivial⟩))
     refine clv rfl vL (pickH (l:=h.ini) (n:=h.st) f.ini (by omega)) (OL.nil (OT.node [4] (os:=[_]) (by kernel_rfl) (by decide) rfl ⟨?_,trivial⟩))
     refine faP fd.Hidden_3 rfl rfl (OL.nil (OT.node [5] (os:=[_]) (by kernel_rfl) (by decide) rfl ⟨?_,trivial⟩))
     refine sto sz.Rats rfl rfl rfl rfl rfl (nb9 rfl) (cells2:=[_,_,_,_,_,_,_,_,_,_,_]) rfl (OL.nil (OT.node [6] (os:=[_]) (by kernel_rfl) (by decide) rfl ⟨?_,trivial⟩))
     refine faP fd.Hidden_2 rfl rfl (OL.nil (OT.node [7] (os:=[_]) (by kernel_rfl) (by decide) rfl ⟨?_,trivial⟩))
     refine sto sz.Rat rfl rfl rfl rfl rfl (nb9 rfl) (cells2:=[_,_,_,_,_,_,_,_,_,_,_]) rfl (OL.nil (OT.leaf (by kernel_rfl) ?_))
     exact AW.reach () ⟨trivial,Knows.app .rq8 (.nil),Owns.app (.cons rfl (.cons rfl .nil)) (.cons rfl (.cons rfl .nil))⟩
   ·refine mvD rfl (OL.nil (OT.node [0,3] (os:=[_,_]) (by kernel_rfl) (by decide) rfl ⟨?_,?_,trivial⟩))
    ·refine mvF rfl (OL.nil (OT.node [2,3] (os:=[_,_]) (by kernel_rfl) (by decide) rfl ⟨?_,?_,trivial⟩))
     ·refine clv rfl vL (pickH (l:=h.ini) (n:=h.st) f.ini (by omega)) (OL.nil (OT.node [3,4] (os:=[_,_]) (by kernel_rfl) (by decide) rfl ⟨?_,?_,trivial⟩))
      ·refine ldPA ag.Rat rfl rfl (vs:=[_,_,_]) rfl (nb9 rfl) (OL.nil (OT.node [4] (os:=[_]) (by kernel_rfl) (by decide) rfl ⟨?_,trivial⟩))
       refine faP fd.Hidden_3 rfl rfl (OL.nil (OT.node [5] (os:=[_]) (by kernel_rfl) (by decide) rfl ⟨?_,trivial⟩))
       refine sto sz.Rats rfl rfl rfl rfl rfl (nb9 rfl) (cells2:=[_,_,_,_,_,_,_,_,_,_,_]) rfl (OL.nil (OT.node [6] (os:=[_]) (by kernel_rfl) (by decide) rfl ⟨?_,trivial⟩))
       refine faP fd.Hidden_2 rfl rfl (OL.nil (OT.node [7] (os:=[_]) (by kernel_rfl) (by decide) rfl ⟨?_,trivial⟩))
       refine sto sz.Rat rfl rfl rfl rfl rfl (nb9 rfl) (cells2:=[_,_,_,_,_,_,_,_,_,_,_]) rfl (OL.nil (OT.leaf (by kernel_rfl) ?_))
       exact AW.reach () ⟨trivial,Knows.app .rq8 (.nil),Owns.app (.cons rfl (.cons rfl .nil)) (.cons rfl (.cons rfl .nil))⟩
      ·refine faP fd.Hidden_3 rfl rfl (OL.nil (OT.node [3,5] (os:=[_,_]) (by kernel_rfl) (by decide) rfl ⟨?_,?_,trivial⟩))
       ·refine ldPA ag.Rat rfl rfl (vs:=[_,_,_]) rfl (nb9 rfl) (OL.nil (OT.node [5] (os:=[_]) (by kernel_rfl) (by decide) rfl ⟨?_,trivial⟩))
        refine sto sz.Rats rfl rfl rfl rfl rfl (nb9 rfl) (cells2:=[_,_,_,_,_,_,_,_,_,_,_]) rfl (OL.nil (OT.node [6] (os:=[_]) (by kernel_rfl) (by decide) rfl ⟨?_,trivial⟩))
        refine faP fd.Hidden_2 rfl rfl (OL.nil (OT.node [7] (os:=[_]) (by kernel_rfl) (by decide) rfl ⟨?_,trivial⟩))
        refine sto sz.Rat rfl rfl rfl rfl rfl (nb9 rfl) (cells2:=[_,_,_,_,_,_,_,_,_,_,_]) rfl (OL.nil (OT.leaf (by kernel_rfl) ?_))
        exact AW.reach () ⟨trivial,Knows.app .rq8 (.nil),Owns.app (.cons rfl (.cons rfl .nil)) (.cons rfl (.cons rfl .nil))⟩
       ·refine sto sz.Rats rfl rfl rfl rfl rfl (nb9 rfl) (cells2:=[_,_,_,_,_,_,_,_,_,_,_]) rfl (OL.nil (OT.node [3] (os:=[_]) (by kernel_rfl) (by decide) rfl ⟨?_,trivial⟩))
        refine ldPA ag.Rat rfl rfl (vs:=[_,_,_]) rfl (nb9 rfl) (OL.nil (OT.node [6] (os:=[_]) (by kernel_rfl) (by decide) rfl ⟨?_,trivial⟩))
        refine faP fd.Hidden_2 rfl rfl (OL.nil (OT.node [7] (os:=[_]) (by kernel_rfl) (by decide) rfl ⟨?_,trivial⟩))
        refine sto sz.Rat rfl rfl rfl rfl rfl (nb9 rfl) (cells2:=[_,_,_,_,_,_,_,_,_,_,_]) rfl (OL.nil (OT.leaf (by kernel_rfl) ?_))
        exact AW.reach () ⟨trivial,Knows.app .rq8 (.nil),Owns.app (.cons rfl (.cons rfl .nil)) (.cons rfl (.cons rfl .nil))⟩
     ·refine ldPA ag.Rat rfl rfl (vs:=[_,_,_]) rfl (nb9 rfl) (OL.nil (OT.node [2] (os:=[_]) (by kernel_rfl) (by decide) rfl ⟨?_,trivial⟩))
      refine clv rfl vL (pickH (l:=h.ini) (n:=h.st) f.ini (by omega)) (OL.nil (OT.node [4] (os:=[_]) (by kernel_rfl) (by decide) rfl ⟨?_,trivial⟩))
      refine faP fd.Hidden_3 rfl rfl (OL.nil (OT.node [5] (os:=[_]) (by kernel_rfl) (by decide) rfl ⟨?_,trivial⟩))
      refine sto sz.Rats rfl rfl rfl rfl rfl (nb9 rfl) (cells2:=[_,_,_,_,_,_,_,_,_,_,_]) rfl (OL.nil (OT.node [6] (os:=[_]) (by kernel_rfl) (by decide) rfl ⟨?_,trivial⟩))
      refine faP fd.Hidden_2 rfl rfl (OL.nil (OT.node [7] (os:=[_]) (by kernel_rfl) (by decide) rfl ⟨?_,trivial⟩))
      refine sto sz.Rat rfl rfl rfl rfl rfl (nb9 rfl) (cells2:=[_,_,_,_,_,_,_,_,_,_,_]) rfl (OL.nil (OT.leaf (by kernel_rfl) ?_))
      exact AW.reach () ⟨trivial,Knows.app .rq8 (.nil),Owns.app (.cons rfl (.cons rfl .nil)) (.cons rfl (.cons rfl .nil))⟩
    ·refine ldPA ag.Rat rfl rfl (vs:=[_,_,_]) rfl (nb9 rfl) (OL.nil (OT.node [0] (os:=[_]) (by kernel_rfl) (by decide) rfl ⟨?_,trivial⟩))
     refine mvF rfl (OL.nil (OT.node [2] (os:=[_]) (by kernel_rfl) (by decide) rfl ⟨?_,trivial⟩))
     refine clv rfl vL (pickH (l:=h.ini) (n:=h.st) f.ini (by omega)) (OL.nil (OT.node [4] (os:=[_]) (by kernel_rfl) (by decide) rfl ⟨?_,trivial⟩))
     refine faP fd.Hidden_3 rfl rfl (OL.nil (OT.node [5] (os:=[_]) (by kernel_rfl) (by decide) rfl ⟨?_,trivial⟩))
     refine sto sz.Rats rfl rfl rfl rfl rfl (nb9 rfl) (cells2:=[_,_,_,_,_,_,_,_,_,_,_]) rfl (OL.nil (OT.node [6] (os:=[_]) (by kernel_rfl) (by decide) rfl ⟨?_,trivial⟩))
     refine faP fd.Hidden_2 rfl rfl (OL.nil (OT.node [7] (os:=[_]) (by kernel_rfl) (by decide) rfl ⟨?_,trivial⟩))
     refine sto sz.Rat rfl rfl rfl rfl rfl (nb9 rfl) (cells2:=[_,_,_,_,_,_,_,_,_,_,_]) rfl (OL.nil (OT.leaf (by kernel_rfl) ?_))
     exact AW.reach () ⟨trivial,Knows.app .rq8 (.nil),Owns.app (.cons rfl (.cons rfl .nil)) (.cons rfl (.cons rfl .nil))⟩
   ·refine ldPA ag.Rat rfl rfl (vs:=[_,_,_]) rfl (nb9 rfl) (OL.nil (OT.node [0,1] (os:=[_,_]) (by kernel_rfl) (by decide) rfl ⟨?_,?_,trivial⟩))
    ·refine mvF rfl (OL.nil (OT.node [1] (os:=[_]) (by kernel_rfl) (by decide) rfl ⟨?_,trivial⟩))
     refine mvD rfl (OL.nil (OT.node [2] (os:=[_]) (by kernel_rfl) (by decide) rfl ⟨?_,trivial⟩))
     refine clv rfl vL (pickH (l:=h.ini) (n:=h.st) f.ini (by omega)) (OL.nil (OT.node [4] (os:=[_]) (by kernel_rfl) (by decide) rfl ⟨?_,trivial⟩))
     refine faP fd.Hidden_3 rfl rfl (OL.nil (OT.node [5] (os:=[_]) (by kernel_rfl) (by decide) rfl ⟨?_,trivial⟩))
     refine sto sz.Rats rfl rfl rfl rfl rfl (nb9 rfl) (cells2:=[_,_,_,_,_,_,_,_,_,_,_]) rfl (OL.nil (OT.node [6] (os:=[_]) (by kernel_rfl) (by decide) rfl ⟨?_,trivial⟩))
     refine faP fd.Hidden_2 rfl rfl (OL.nil (OT.node [7] (os:=[_]) (by kernel_rfl) (by decide) rfl ⟨?_,trivial⟩))
     refine sto sz.Rat rfl rfl rfl rfl rfl (nb9 rfl) (cells2:=[_,_,_,_,_,_,_,_,_,_,_]) rfl (OL.nil (OT.leaf (by kernel_rfl) ?_))
     exact AW.reach () ⟨trivial,Knows.app .rq8 (.nil),Owns.app (.cons rfl (.cons rfl .nil)) (.cons rfl (.cons rfl .nil))⟩
    ·refine mvD rfl (OL.nil (OT.node [0] (os:=[_]) (by kernel_rfl) (by decide) rfl ⟨?_,trivial⟩))
     refine mvF rfl (OL.nil (OT.node [2] (os:=[_]) (by kernel_rfl) (by decide) rfl ⟨?_,trivial⟩))
     refine clv rfl vL (pickH (l:=h.ini) (n:=h.st) f.ini (by omega)) (OL.nil (OT.node [4] (os:=[_]) (by kernel_rfl) (by decide) rfl ⟨?_,trivial⟩))
     refine faP fd.Hidden_3 rfl rfl (OL.nil (OT.node [5] (os:=[_]) (by kernel_rfl) (by decide) rfl ⟨?_,trivial⟩))
     refine sto sz.Rats rfl rfl rfl rfl rfl (nb9 rfl) (cells2:=[_,_,_,_,_,_,_,_,_,_,_]) rfl (OL.nil (OT.node [6] (os:=[_]) (by kernel_rfl) (by decide) rfl ⟨?_,trivial⟩))
     refine faP fd.Hidden_2 rfl rfl (OL.nil (OT.node [7] (os:=[_]) (by kernel_rfl) (by decide) rfl ⟨?_,trivial⟩))
     refine sto sz.Rat rfl rfl rfl rfl rfl (nb9 rfl) (cells2:=[_,_,_,_,_,_,_,_,_,_,_]) rfl (OL.nil (OT.leaf (by kernel_rfl) ?_))
     exact AW.reach () ⟨trivial,Knows.app .rq8 (.nil),Owns.app (.cons rfl (.cons rfl .nil)) (.cons rfl (.cons rfl .nil))⟩
  rintro ⟨⟩ hφ
  refine AW.seq (AW.sg hE rfl (ldRC ce.ints rfl (lnL sl.ints rfl rfl ?_)))
  rw [upI_len]
  refine mvD rfl (OL.nil (AW.block ?_))
  refine AW.freeze 70 rfl (AW.boxW 11 [.d (dI h.sym),.d (dI h.st),.d (dB (ofQ h.empty).neg),.d (u32s (ofQ h.empty).num),.d (u32s (ofQ h.empty).den),.d (dQs h.ini),.osl 126 0 0 0,.osl 131 0 0 0,.osl 141 0 0 0,.d (bools (List.replicate h.st false)),.osl 146 0 0 0] rfl (.cons vR (.cons vR (.cons vR (.cons vR (.cons vR (.cons vR (.cons VLe.mtO (.cons VLe.mtO (.cons VLe.mtO (.cons (frz_osl (by rw [lm9,List.length_replicate]) rfl) (.cons VLe.mtO .nil))))))))))) ?_)
  refine AW.row0 126 T.Rats 1 rfl (AW.row0 131 T.Rat 3 rfl (AW.row0 141 T.Rats 1 rfl (AW.row0 146 T.int 1 rfl ?_)))
  refine AW.whileK (α:=Nat × Nat × Nat × Nat × Nat × Nat × Nat × Nat × Nat × List Int) [(1,_),(2,_),(3,_),(5,_),(8,_),(10,_),(11,_),(88,_),(89,_)] [(1,_),(2,_)] (fun (i,p1,c1,p2,c2,p3,c3,p5,c5,zs)=>[(90,.d (dI i))]) (fun (i,p1,c1,p2,c2,p3,c3,p5,c5,zs)=>[(11,.box b11 T.Hidden [.d (dI h.sym),.d (dI h.st),.d (dB (ofQ h.empty).neg),.d (u32s (ofQ h.empty).num),.d (u32s (ofQ h.empty).den),.d (dQs h.ini),.osl 126 p1 i c1,.osl 131 p2 i c2,.osl 141 p3 i c3,.d (bools (List.replicate h.st false)),.osl 146 p5 i c5]),(126,.row p1 c1 T.Rats 1 ((h.trans.take i).map dQs)),(131,.row p2 c2 T.Rat 3 ((h.stop.take i).map dQ)),(141,.row p3 c3 T.Rats 1 ((h.emit.take i).map dQs)),(146,.row p5 c5 T.int 1 (zs.map dI))]) (fun (i,p1,c1,p2,c2,p3,c3,p5,c5,zs)=>i≤h.st∧zs.length=i) (fun (i,p1,c1,p2,c2,p3,c3,p5,c5,zs)=>h.st-i) (0,0,0,0,0,0,0,0,0,[]) (.cons (knP rfl) (.cons (knP rfl) (.cons (knJ) (.cons (knM rfl) (.cons (knD rfl) (.cons (knF rfl) (.cons (knP rfl) (.cons (knD rfl) (.cons (knD rfl) .nil))))))))) (.cons (owB rfl) (.cons (owB rfl) .nil)) ⟨⟨Nat.zero_le _,rfl⟩,.rq1,.cons rfl (.cons rfl (.cons rfl (.cons rfl (.cons rfl .nil))))⟩ ?_
  rintro ⟨i,p1,c1,p2,c2,p3,c3,p5,c5,zs⟩ ⟨h1,hzl⟩
  have h1:i≤h.st:=h1
  have hzl:zs.length=i:=hzl
  refine AW.sg hE rfl (c_lss rfl rfl rfl (OL.nil (AW.seq (AW.cond rfl (fun h91=>?_) (fun h91=>?_)))))
  ·try simp only [dx9] at h91
   refine AW.skip (AW.seq (AW.block (AW.seq ?_)))
   have hi:i<h.st:=by omega
   have hti:=f.tie i hi
   have htd:=tn_data hti.1 (show i<h.ties.length by omega)
   have htw:=f.trow i hi
   have her:=f.erow i hi
   refine AW.rg hE rfl (ixLe i sl.ints 0 rfl rfl rfl (by rw [upI_len];exact hi) rfl rfl ?_)
   rw [upI_get hi]
   refine ldRC ce.int rfl (asD rfl (OL.nil (AW.seq (AW.dg 1 [0,1,2,3,4,5,6,7,8,9,10,11,12,13,14,15,16,17,18] order_free hE rfl (by kernel_rfl) (OI.of_OL (os:=[_,_,_,_,_,_,_,_,_,_,_,_,_,_,_,_,_,_,_]) rfl ?_)))))
   refine ldPA ag.Hidden rfl rfl (vs:=[_,_,_,_,_,_,_,_,_,_,_]) rfl (nb9 rfl) (mvM rfl (faP fd.Hidden_4 rfl rfl (ldPC ce.Ratss rfl rfl rfl (mvD rfl (ixLn sl.Ratss [] rfl rfl (by omega) rfl rfl (ldRC ce.Rats rfl (faP fd.Hidden_5 rfl rfl ?_)))))))
   refine ldPC ce.Rats rfl rfl rfl (mvD rfl (ixLn sl.Rats 0 rfl rfl (by omega) rfl rfl (ldRA ag.Rat rfl (vs:=[_,_,_]) rfl (nb9 rfl) (clv rfl (.cons vR (.cons VLe.mt .rq2)) (through0 (l:=h.trans.getD i []) (e:=h.stop.getD i 0) (C:=B) (f.zT i) ⟨hb1,by omega⟩ (by omega) (by have:=f.zS.get hb1 i;omega)) (mvT rfl (ex rfl rfl (ex rfl rfl ?_)))))))
   refine al z.Rat rfl fun b17=>(asD rfl (sto sz.Rat rfl rfl rfl rfl rfl (nb9 rfl) (cells2:=[_,_,_]) rfl (OL.nil (AW.seq (AW.regionK (by rw [hE];rfl) (SK.ofOL (mvD (y:=.sl (tz.map dN)) rfl (OL.nil ?_))))))))
   refine SK.ofOL (faP fd.Hidden_8 rfl rfl (OL.nil ?_))
   refine SK.ofOL (ldPC ce.ints rfl rfl rfl (OL.nil ?_))
   refine SK.ofOL (mvD rfl (OL.nil ?_))
   refine SK.ofOL (ixLn sl.ints 0 rfl rfl (show i<h.ties.length by omega) rfl rfl (OL.nil ?_))
   refine SK.ofOL (ldRC ce.int rfl (OL.nil ?_))
   refine SK.ofSO (SO.callE (args':=[.d (.sl (tz.map dN)),.d (dN ((h.ties.map Int.toNat).getD i 0))]) (show 117<E.n by rw [hE];exact Nat.le_of_ble_eq_true (by rfl)) rfl (.cons vR (.cons (vle_of_eq (congrArg V.d htd)) .nil)) (Mc:=noMem) (fun _ _ h=>by cases h) (searchN (Nat.le_trans htz2 (by omega))) (fun _ _ _ h=>h) ?_)
   rintro pl hpl
   refine SK.ofOL (mvT rfl (OL.nil ?_))
   refine SK.ofOL (ex rfl rfl (OL.nil ?_))
   refine SK.ofOL (ex rfl rfl (OL.nil ?_))
   refine SK.ofOL (asD rfl (OL.nil ?_))
   refine SK.ofOL (asD rfl (OL.nil ?_))
   refine SK.nil (AW.dg 2 [0,1,2,3,4,5,7,8,9,10,12,13,14,15,16,17,18,22,23,24,25,6,27,11,19,20,21,26,28,29,30,31,32,33,34] order_free hE rfl (by kernel_rfl) (OI.of_OL (os:=[_,_,_,_,_,_,_,_,_,_,_,_,_,_,_,_,_,_,_,_,_,_,_,_,_,_,_,_,_,_,_,_,_,_,_]) rfl ?_))
   refine faP fd.Hidden_4 rfl rfl (ldPC ce.Ratss rfl rfl rfl (mvF rfl (mvD rfl (clv rfl vL (pickH (l:=h.trans.getD i []) (n:=h.st) htw (by omega)) (lt1 (y:=dQs (h.trans.getD i [])) sl.Ratss (VC.d _).vd rfl (by decide) (faP fd.Hidden_5 rfl rfl (ldPC ce.Rats rfl rfl rfl ?_)))))))
   refine ldPA ag.Rat rfl rfl (vs:=[_,_,_]) rfl (nb9 rfl) (lt1 (y:=dQ (h.stop.getD i 0)) sl.Rats vd_q rfl (by decide) (faP fd.Hidden_6 rfl rfl (ldPC ce.Ratss rfl rfl rfl (faP fd.Hidden_6 rfl rfl (ldPC ce.Ratss rfl rfl rfl (mvD rfl (ixLn sl.Ratss [] rfl rfl (by omega) rfl rfl ?_)))))))
   refine ldRC ce.Rats rfl (faP fd.Hidden_8 rfl rfl (ldPC ce.ints rfl rfl rfl (mvD rfl (lt1 (y:=dI (pl.1:Int)) sl.ints (VC.d _).vd rfl (by decide) ?_))))
   refine apO sl.Ratss rfl rfl rfl (by rw [lm9,List.length_take];omega) (VC.d _) (fun y hy=>by rw [ms9 hy];rfl) (by simp only [ls9];omega) (by simp only [ls9];omega) (.inr rfl) (ys:=(h.trans.take (i+1)).map dQs) (by rw [take_succ_getD (show i<h.trans.length by omega) [],List.map_append];rfl) (n2:=i+1) rfl fun b126 c126=>?_
   refine faP fd.Hidden_4 rfl rfl ?_
   refine apO sl.Rats rfl rfl rfl (by rw [lm9,List.length_take];omega) (VC.d _) (fun y hy=>by rw [ms9 hy];rfl) (by simp only [ls9];omega) (by simp only [ls9];omega) (.inr rfl) (ys:=(h.stop.take (i+1)).map dQ) (by rw [take_succ_getD (show i<h.stop.length by omega) 0,List.map_append];rfl) (n2:=i+1) rfl fun b131 c131=>?_
   refine clv rfl vL (fresh_Rats (l:=h.emit.getD i []) (C:=B) (f.zM i) ⟨hb1,by omega⟩ (by omega)) (lt1 (y:=dQs (h.emit.getD i [])) sl.Ratss (VC.d _).vd rfl (by decide) ?_)
   refine apO sl.Ratss rfl rfl rfl (by rw [lm9,List.length_take];omega) (VC.d _) (fun y hy=>by rw [ms9 hy];rfl) (by simp only [ls9];omega) (by simp only [ls9];omega) (.inr rfl) (ys:=(h.emit.take (i+1)).map dQs) (by rw [take_succ_getD (show i<h.emit.length by omega) [],List.map_append];rfl) (n2:=i+1) rfl fun b141 c141=>?_
   refine apO sl.ints rfl rfl rfl (by rw [lm9,hzl]) (VC.d _) (fun y hy=>by rw [ms9 hy];rfl) (by simp only [ls9];omega) (by simp only [ls9];omega) (.inr rfl) (ys:=(zs++[(pl.1:Int)]).map dI) (by rw [List.map_append];rfl) (n2:=i+1) rfl fun b146 c146=>?_
   refine sto sz.Ratss rfl rfl rfl rfl rfl (nb9 rfl) (cells2:=[_,_,_,_,_,_,_,_,_,_,_]) rfl (faP fd.Hidden_5 rfl rfl (sto sz.Rats rfl rfl rfl rfl rfl (nb9 rfl) (cells2:=[_,_,_,_,_,_,_,_,_,_,_]) rfl (faP fd.Hidden_6 rfl rfl (sto sz.Ratss rfl rfl rfl rfl rfl (nb9 rfl) (cells2:=[_,_,_,_,_,_,_,_,_,_,_]) rfl (faP fd.Hidden_8 rfl rfl (sto sz.ints rfl rfl rfl rfl rfl (nb9 rfl) (cells2:=[_,_,_,_,_,_,_,_,_,_,_]) rfl (OL.nil ?_)))))))
   refine AW.rg hE rfl (add_i64 rfl rfl (by omega) (mvD rfl (OL.nil ?_)))
   exact AW.again (x:=(i,p1,c1,p2,c2,p3,c3,p5,c5,zs)) (i+1,b126,c126,b131,c131,b141,c141,b146,c146,zs++[(pl.1:Int)]) (by (simp only [];omega)) ⟨⟨by omega,by rw [la9,hzl];rfl⟩,Knows.app .rq9 .rq1,Owns.app (.cons rfl (.cons rfl .nil)) (.cons rfl (.cons rfl (.cons rfl (.cons rfl (.cons rfl .nil)))))⟩
  ·try simp only [dx9] at h91
   refine AW.exit (AW.seq ?_)
   obtain rfl:i=h.st:=by omega
   refine AW.rg hE rfl (ldPA ag.Hidden rfl rfl (vs:=[_,_,_,_,_,_,_,_,_,_,_]) rfl (nb9 rfl) (sto sz.Hidden rfl rfl rfl rfl rfl (nb9 rfl) (cells2:=[_,_,_,_,_,_,_,_,_,_,_]) rfl (asD rfl (OL.nil ?_))))
   exact AW.ret ⟨zs,trivial,⟨_,.cellA rfl rfl ag.Hidden (nb9 rfl) (.tmp rfl .nil),_,.cons (.ag (.cons (.le vR) (.cons (.le vR) (.cons (.le vR) (.cons (.le vR) (.cons (.le vR) (.cons (.le vR) (.cons (RO.row rfl (by rw [lm9,List.length_take];omega) (by rw [show h.trans.take h.st=h.trans from List.take_of_length_le (by omega)])) (.cons (RO.row rfl (by rw [lm9,List.length_take];omega) (by rw [show h.stop.take h.st=h.stop from List.take_of_length_le (by omega)])) (.cons (RO.row rfl (by rw [lm9,List.length_take];omega) (by rw [show h.emit.take h.st=h.emit from List.take_of_length_le (by omega)])) (.cons (.le vR) (.cons (RO.row rfl (by rw [lm9,hzl]) rfl) (.nil))))))))))))) (.cons (.le vR) .nil),rfl⟩,fun _ _ h=>by cases h⟩
end Go.Proofs.YteiohkpjgcioaaaGreatDoor
