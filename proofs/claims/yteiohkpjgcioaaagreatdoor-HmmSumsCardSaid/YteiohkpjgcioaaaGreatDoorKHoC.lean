/-
  Walks of package hmm: Emitting of a valid model with silent states (printed by mk2.py).
-/
import Derived.Test.YteiohkpjgcioaaaGreatDoorKHoB
import Derived.Test.YteiohkpjgcioaaaGreatDoorKHxG
set_option linter.unusedVariables false
set_option linter.unusedSimpArgs false
namespace Go.Proofs.YteiohkpjgcioaaaGreatDoor
open Go Go.AL
def lefN (h:HM)(i:Nat):List Nat:=(List.range i).filter fun i=>!(h.silent.getD i false)
theorem lefN_t {h:HM}{i:Nat}(hs:h.silent.getD i false=false):lefN h (i+1)=lefN h i++[i]:=by
 unfold lefN
 rw [List.range_succ,List.filter_append,List.filter_cons,if_pos (by rw [hs];rfl)];rfl
theorem lefN_f {h:HM}{i:Nat}(hs:h.silent.getD i false=true):lefN h (i+1)=lefN h i:=by
 unfold lefN
 rw [List.range_succ,List.filter_append,List.filter_cons,if_neg (by rw [hs];decide)]
 exact List.append_nil _
theorem lefN_len {h:HM}{i:Nat}:(lefN h i).length≤i:=by
 unfold lefN
 refine Nat.le_trans (List.length_filter_le ..) ?_
 rw [List.length_range];exact Nat.le_refl _
def tieN (h:HM)(k:Nat):Nat:=(h.ties.getD k 0).toNat
theorem tieN_data {h:HM}{k:Nat}(hk:0≤h.ties.getD k 0):dI (h.ties.getD k 0)=dN (tieN h k):=by
 unfold tieN
 show dI _=dI _
 rw [Int.toNat_of_nonneg hk]
theorem pk_len {h:HM}{l:List Rat}:(pkS h l).length=(lefS h).length:=by unfold pkS;rw [lm9]
theorem pickG {h:HM}{l:List Rat}(hl:l.length=h.st)(hn:h.st≤12):FSpec P F.hmm_Emitting_1 [.d (dQs l),.ref [dNs (lefS h)]] (.d (dQs (pkS h l))):=by
 have hll:=lef_len (h:=h)
 have hpl:=pk_len (h:=h) (l:=l)
 refine FSpec.intro fn.hmm_Emitting_1 (by rfl) (by rfl) (nb9 (by rfl)) fun E hE=>(AW.sg hE rfl (asM rfl (OL.nil (AW.sg hE rfl (ldRC ce.ints rfl (lnL (f:=fun k:Nat=>dI (k:Int)) sl.ints rfl rfl (mkL dQ 0 sl.Rats z.Rat vcs_q0 (n:=(lefS h).length) (cp:=(lefS h).length) rfl rfl (Nat.le_refl _) (by omega) (by omega) rfl fun b9=>?_)))))))
 refine asO rfl (OL.nil (AW.seq (AW.sg hE rfl (ldRC ce.ints rfl (lnL (f:=fun k:Nat=>dI (k:Int)) sl.ints rfl rfl (mvD rfl (OL.nil ?_)))))))
 refine AW.block ?_
 refine AW.whileK (α:=Nat) [(0,_),(3,_),(4,_),(10,_),(11,_)] [] (fun i=>[(12,.d (dI i))]) (fun i=>[(9,.row b9 (lefS h).length T.Rat 3 ((fillF 0 (fun j=>(pkS h l).getD j 0) (lefS h).length i).map dQ))]) (fun i=>i≤(lefS h).length) (fun i=>(lefS h).length-i) 0 (.cons (knD rfl) (.cons (knM rfl) (.cons (knO rfl) (.cons (knD rfl) (.cons (knD rfl) .nil))))) .nil ⟨Nat.zero_le _,.rq1,.cons (by rw [fillF_zero];rfl) .nil⟩ ?_
 intro i h1
 have h1:i≤(lefS h).length:=h1
 have hfl:=fillF_len (d:=(0:Rat)) (g:=fun j=>(pkS h l).getD j 0) (n:=(lefS h).length) (i:=i)
 refine AW.sg hE rfl (c_lss rfl rfl rfl (OL.nil (AW.seq (AW.cond rfl (fun h13=>?_) (fun h13=>?_)))))
 ·try simp only [dx9] at h13
  refine AW.skip (AW.seq (AW.block (AW.seq ?_)))
  have hi:i<(lefS h).length:=by omega
  obtain ⟨hk,hks⟩:=lef_get hi
  have hpg:(pkS h l).getD i 0=l.getD ((lefS h).getD i 0) 0:=map_mem (d:=0) hi
  refine AW.rg hE rfl (mvD rfl (ixLn (f:=fun k:Nat=>dI (k:Int)) sl.ints 0 rfl rfl hi rfl rfl (ldRC ce.int rfl (asD rfl (asD rfl (OL.nil (AW.rg hE rfl ?_)))))))
  refine mvO rfl (mvD rfl (mvD rfl (mvD rfl (ixLn sl.Rats 0 rfl rfl (by omega) rfl rfl (ldRA ag.Rat rfl (vs:=[_,_,_]) rfl (nb9 rfl) (ixOn sl.Rats rfl rfl (by omega) (stE sz.Rat rfl (d:=dQ (l.getD ((lefS h).getD i 0) 0)) vd_q rfl rfl (by rw [lm9];omega) (es2:=(fillF 0 (fun j=>(pkS h l).getD j 0) (lefS h).length (i+1)).map dQ) (by rw [← fillF_set hi,hpg,List.map_set]) ?_)))))))
  exact OL.nil (AW.rg hE rfl (add_i64 rfl rfl (by omega) (mvD rfl (OL.nil (AW.again (x:=i) (i+1) (by omega) ⟨by omega,Knows.app .rq5 .rq1,.cons rfl .nil⟩)))))
 ·try simp only [dx9] at h13
  refine AW.exit (AW.seq ?_)
  obtain rfl:i=(lefS h).length:=by omega
  have hfr:(List.range (lefS h).length).map (fun j=>(pkS h l).getD j 0)=(pkS h l):=by rw [← hpl];exact list_range_getD (pkS h l) 0
  refine AW.freeze 9 rfl (AW.to [(4,.d (dQs (pkS h l)))] [] (.cons (frz_osl (by rw [lm9,fillF_len]) (by rw [fillF_all,hfr])) .nil) .nil ?_)
  exact AW.rg hE rfl (mvD rfl (asD rfl (OL.nil (AW.ret (RetQ.r ⟨_,.tmp rfl .nil,.le vR⟩)))))
set_option maxRecDepth 16000 in
set_option maxHeartbeats 12800000 in
theorem EmitG {h : HM} {O : List Nat} {B : Nat} (f : h.FormS) (sm : h.Sums) (rk : h.Ranked) (td : h.Tied) (o : OrdS h O) (zE : sz h.empty ≤ B) (zI : Small B h.ini) (zT : ∀ i, Small B (h.trans.getD i [])) (zS : Small B h.stop) (zM : ∀ i, Small B (h.emit.getD i [])) (hb1 : 1 ≤ B) (hB : thB B h.st ≤ 1048576) (hn : 1 ≤ (lefS h).length) : FSpecE P F.hmm_Emitting [vHM h] noMem (fun z : List Int => .tup [vHM (emHM h O z), .d (dI 0)]) (fun _ => noMem) (fun _ => True) := by
 have n0:=f.st0
 have n1:=f.st1
 have s1:=f.sym1
 have e1:=f.ini
 have e2:=f.trans
 have e3:=f.stop
 have e4:=f.emit
 have e5:=f.ties
 have e6:=f.sill
 have hll:=lef_len (h:=h)
 have hBm:B≤thB B h.st:=thB_mono (m:=0) (Nat.zero_le _)
 have ri:=row_ok (O:=O) f sm o zT zS hb1 f.ini f.pI f.pE zI zE sm.i
 have rr:∀ i,i<h.st→RowOK9 h (thB B h.st) (rowTh h O i):=fun i hi=>row_ok f sm o zT zS hb1 (f.trow i hi) (f.pT i) (f.pS.get i) (zT i) (zS.get hb1 i) (sm.t i hi)
 have g2:(emHM h O []).trans.length=(lefS h).length:=lm9 ..
 have g3:(emHM h O []).stop.length=(lefS h).length:=lm9 ..
 have g4:(emHM h O []).emit.length=(lefS h).length:=lm9 ..
 have gT:∀ i,i<(lefS h).length→(emHM h O []).trans.getD i []=pkS h (rowTh h O ((lefS h).getD i 0)).1:=fun k hk=>map_mem (d:=0) hk
 have gS:∀ i,i<(lefS h).length→(emHM h O []).stop.getD i 0=(rowTh h O ((lefS h).getD i 0)).2:=fun k hk=>map_mem (d:=0) hk
 have gM:∀ i,i<(lefS h).length→(emHM h O []).emit.getD i []=h.emit.getD ((lefS h).getD i 0) []:=fun k hk=>map_mem (d:=0) hk
 refine FSpecE.intro fn.hmm_Emitting (by rfl) (by rfl) (nb9 (by rfl)) fun E hE=>(AW.sg hE rfl (bxA rfl rfl fun b1=>(al z.Hidden rfl fun b2=>(asD rfl (OL.nil (AW.seq (AW.sg hE rfl ?_)))))))
 refine ldPA ag.Hidden rfl rfl (vs:=[_,_,_,_,_,_,_,_,_,_,_]) rfl (nb9 rfl) (clv rfl vL (hmm_ValidS f sm rk td) (asD rfl (OL.nil (AW.sg hE rfl (mvD rfl (c_neq rfl rfl (c:=false) (by exact cne_f (by omega)) (OL.nil ?_)))))))
 refine cnF rfl ?_
 refine AW.skip (AW.seq (AW.regionK (by rw [hE];rfl) (SK.ofOL (ldPA ag.Hidden rfl rfl (vs:=[_,_,_,_,_,_,_,_,_,_,_]) rfl (nb9 rfl) (OL.nil ?_)))))
 refine SK.ofSO (SO.callE (args':=[vHM h]) (show 28<E.n by rw [hE];exact Nat.le_of_ble_eq_true (by rfl)) rfl .rq1 (Mc:=noMem) (fun _ _ h=>by cases h) (hmm_orderL f rk) (fun _ _ _ h=>h) ?_)
 rintro O2 o2
 refine SK.ofOL (mvT rfl (OL.nil ?_))
 refine SK.ofOL (ex rfl rfl (OL.nil ?_))
 refine SK.ofOL (ex rfl rfl (OL.nil ?_))
 refine SK.ofOL (asD rfl (OL.nil ?_))
 refine SK.ofOL (asD rfl (OL.nil ?_))
 refine SK.nil ?_
 have o2:OrdS h O2:=o2
 have hO2:∀ k,k ∈ O2→k<h.st:=fun k hk=>((o2.sil k).1 hk).1
 refine AW.sg hE rfl (al z.ints rfl fun b7=>(OL.nil (AW.sg hE rfl (asM rfl (OL.nil (AW.seq (AW.sg hE rfl ?_)))))))
 refine faP fd.Hidden_1 rfl rfl (ldPC ce.int rfl rfl rfl (mvD rfl (OL.nil (AW.block (AW.boxW 7 [.osl 45 0 0 0] rfl (.cons VLe.mtO .nil) (AW.row0 45 T.int 1 rfl (AW.own 8 53 T.int 1 rfl rfl ?_)))))))
 refine AW.whileK (α:=Nat × Nat × Nat × Nat × Nat) [(1,_),(2,_),(3,_),(5,_),(7,_),(32,_)] [(1,_),(2,_)] (fun (i,p1,c1,p2,c2)=>[(8,.osl 53 p2 (lefN h i).length c2),(33,.d (dI i))]) (fun (i,p1,c1,p2,c2)=>[(7,.box b7 T.ints [.osl 45 p1 (lefN h i).length c1]),(45,.row p1 c1 T.int 1 ((lefN h i).map fun k:Nat=>dI (k:Int))),(53,.row p2 c2 T.int 1 (((lefN h i).map (tieN h)).map dN))]) (fun (i,p1,c1,p2,c2)=>i≤h.st) (fun (i,p1,c1,p2,c2)=>h.st-i) (0,0,0,0,0) (.cons (knP rfl) (.cons (knP rfl) (.cons (knD rfl) (.cons (knD rfl) (.cons (knP rfl) (.cons (knD rfl) .nil)))))) (.cons (owB rfl) (.cons (owB rfl) .nil)) ⟨Nat.zero_le _,.rq2,.cons rfl (.cons rfl (.cons rfl .nil))⟩ ?_
 rintro ⟨i,p1,c1,p2,c2⟩ h1
 have h1:i≤h.st:=h1
 have hfn:=lefN_len (h:=h) (i:=i)
 refine AW.sg hE rfl (c_lss rfl rfl rfl (OL.nil (AW.seq (AW.cond rfl (fun h34=>?_) (fun h34=>?_)))))
 ·try simp only [dx9] at h34
  refine AW.skip (AW.seq (AW.block (AW.sg hE rfl (mvD rfl (asD rfl (OL.nil (AW.seq ?_)))))))
  have hi:i<h.st:=by omega
  have hti:=f.tie i hi
  have htd:=tieN_data hti.1
  refine AW.rg hE rfl (faP fd.Hidden_7 rfl rfl (ldPC ce.bools rfl rfl rfl (mvD rfl (ixLn sl.bools false rfl rfl (by omega) rfl rfl (ldRC ce.bool rfl (nt rfl (OL.nil ?_)))))))
  refine AW.cond rfl (fun hs=>?_) (fun hs=>?_)
  ·have hs:h.silent.getD i false=false:=by simpa using hs
   refine AW.dg 2 [0,1,2,4,5,6,7,8,9,10,3,11,12,13] order_free hE rfl (by kernel_rfl) (OI.of_OL (os:=[_,_,_,_,_,_,_,_,_,_,_,_,_,_]) rfl ?_)
   refine ldPC ce.ints rfl rfl rfl (mvD rfl (lt1 (y:=dI i) sl.ints (VC.d _).vd rfl (by decide) (mvO rfl (faP fd.Hidden_8 rfl rfl (ldPC ce.ints rfl rfl rfl (mvD rfl (ixLn sl.ints 0 rfl rfl (by omega) rfl rfl ?_)))))))
   refine ldRC ce.int rfl (lt1 (y:=dI (h.ties.getD i 0)) sl.ints (VC.d _).vd rfl (by decide) ?_)
   refine apO sl.ints rfl rfl rfl (by rw [lm9]) (VC.d _) (fun y hy=>by rw [ms9 hy];rfl) (by simp only [ls9];omega) (by simp only [ls9];omega) (.inr rfl) (ys:=(lefN h i++[i]).map fun k:Nat=>dI (k:Int)) (by rw [List.map_append];rfl) (n2:=(lefN h i).length+1) (rfl) fun b45 c45=>?_
   refine apO sl.ints rfl rfl rfl (by rw [lm9,lm9]) (VC.d _) (fun y hy=>by rw [ms9 hy];rfl) (by simp only [ls9];omega) (by simp only [ls9];omega) (.inr rfl) (ys:=((lefN h i++[i]).map (tieN h)).map dN) (by rw [List.map_append,List.map_append,htd];rfl) (n2:=(lefN h i).length+1) (rfl) fun b53 c53=>?_
   refine sto sz.ints rfl rfl rfl rfl rfl (nb9 rfl) (cells2:=[_]) rfl (asO rfl (OL.nil (AW.rg hE rfl (add_i64 rfl rfl (by omega) (mvD rfl (OL.nil ?_))))))
   exact AW.again (x:=(i,p1,c1,p2,c2)) (i+1,b45,c45,b53,c53) (by (simp only [];omega)) ⟨by omega,Knows.app .rq6 (.cons (by rw [lefN_t hs,la9];exact VLe.refl _) .rq1),Owns.app (.cons rfl (.cons rfl .nil)) (.cons (by rw [lefN_t hs,la9];rfl) (.cons (by rw [lefN_t hs];rfl) (.cons (by rw [lefN_t hs];rfl) .nil)))⟩
  ·have hs:h.silent.getD i false=true:=by simpa using hs
   refine AW.skip (AW.rg hE rfl (add_i64 rfl rfl (by omega) (mvD rfl (OL.nil ?_))))
   exact AW.again (x:=(i,p1,c1,p2,c2)) (i+1,p1,c1,p2,c2) (by (simp only [];omega)) ⟨by omega,Knows.app .rq6 (.cons (by rw [lefN_f hs];exact VLe.refl _) .rq1),Owns.app (.cons rfl (.cons rfl .nil)) (.cons (by rw [lefN_f hs];rfl) (.cons (by rw [lefN_f hs];rfl) (.cons (by rw [lefN_f hs];rfl) .nil)))⟩
 ·try simp only [dx9] at h34
  refine AW.exit (AW.seq (AW.seq ?_))
  obtain rfl:i=h.st:=by omega
  dsimp only
  rw [show lefN h h.st=lefS h from rfl]
  refine AW.rename 53 1000 rfl (AW.rg hE rfl (ldPC ce.ints rfl rfl rfl (lnO sl.ints rfl rfl (c_eql rfl rfl (c:=false) (decide_eq_false (by show ¬ (((lefS h).length:Int)=0);omega)) (OL.nil (cnF rfl ?_))))))
  refine AW.skip (AW.sg hE rfl (mvO rfl (OL.callM (v:=.tup []) (.mk (args':=[.osl 1000 p2 (lefS h).length c2]) rfl (.cons VLe.osl .nil) (mem1_keep (id:=1000) (blk:=.row p2 c2 T.int 1 (((lefS h).map (tieN h)).map dN)) rfl) mem1_sub (sortO (by rw [lm9]) ⟨hn,by omega⟩)) (OL.nil (AW.seq (AW.regionK (by rw [hE];rfl) (SK.ofOL (mvO rfl (OL.nil ?_)))))))))
  refine SK.ofSO (SO.callE (args':=[.osl 1000 p2 (lefS h).length c2]) (show 62<E.n by rw [hE];exact Nat.le_of_ble_eq_true (by rfl)) rfl (.cons VLe.osl .nil) (Mc:=mem1 1000 (.row p2 c2 T.int 1 ((sortF ltN ((lefS h).length-1) ((lefS h).map (tieN h))).map dN))) (mem1_keep rfl) (compactN (by rw [sortF_len,lm9]) (by omega)) (fun _ _ _ _=>rfl) ?_)
  rintro tz htz
  have htz2:tz.length≤(lefS h).length:=htz
  refine SK.ofOL (asD rfl (OL.nil ?_))
  refine SK.nil (AW.seq ?_)
  refine AW.freeze 45 rfl (AW.boxW 7 [.d (dNs (lefS h))] rfl (.cons (frz_osl (by rw [lm9]) rfl) .nil) (AW.freezeBox 7 [(dNs (lefS h))] rfl (VCs.map_d [(dNs (lefS h))]) (AW.to [(7,.ref [(dNs (lefS h))]),(1,_),(2,_),(5,_),(8,.d (.sl (tz.map dN)))] [(1,_),(2,_)] (.cons (vle_of_eq (show V.frb 7 b7 [(dNs (lefS h))] (.ptr 7 b7 0)=.ref [(dNs (lefS h))] from frb_self)) (by repeat (first|exact Knows.nil|refine Knows.cons (by first|exact knD rfl|exact knA rfl|exact knP rfl|exact knO rfl|exact knM rfl|exact knE rfl|exact knR rfl|exact knF rfl|exact knT rfl|exact knI rfl|exact knB rfl|exact knJ) ?_))) (by repeat (first|exact Owns.nil|refine Owns.cons (owB rfl) ?_)) ?_)))
  refine AW.rg hE rfl (mkF (vs:=[_]) rfl (asF rfl (OL.nil (AW.seq (AW.dg 144 [0,1,2,3,4,5,6,7,8,9] order_free hE rfl (by kernel_rfl) (OI.of_OL (os:=[_,_,_,_,_,_,_,_,_,_]) rfl ?_))))))
  refine faP fd.Hidden_0 rfl rfl (ldPC ce.int rfl rfl rfl (ldRC ce.ints rfl (lnL (f:=fun k:Nat=>dI (k:Int)) sl.ints rfl rfl (ldRC ce.ints rfl (lnL (f:=fun k:Nat=>dI (k:Int)) sl.ints rfl rfl (mkLd (n:=(lefS h).length) (cp:=(lefS h).length) dB false sl.bools z.bool (VCs.cons (VC.d _) VCs.nil) rfl rfl (Nat.le_refl _) (by omega) (by omega) rfl rfl fun b70=>(bd2 (cs:=[_,_,_,_,_,_,_,_,_,_,_]) z.Hidden pl.Hidden (pvC (by exact evD rfl) (pvC (by exact evD rfl) (pvC (by exact evO rfl) (pvN)))) (by rfl) ?_)))))))
  refine al z.Hidden rfl fun b11=>(sto sz.Hidden rfl rfl rfl rfl rfl (nb9 rfl) (cells2:=[_,_,_,_,_,_,_,_,_,_,_]) rfl (OL.nil (AW.sg hE rfl (ldPA ag.Hidden rfl rfl (vs:=[_,_,_,_,_,_,_,_,_,_,_]) rfl (nb9 rfl) (mvD rfl (faP fd.Hidden_3 rfl rfl (ldPC ce.Rats rfl rfl rfl ?_)))))))
  refine faP fd.Hidden_2 rfl rfl (ldPA ag.Rat rfl rfl (vs:=[_,_,_]) rfl (nb9 rfl) (clv rfl .rq4 (throughG (l:=h.ini) (e:=h.empty) f zT zS hb1 hB e1 hO2 o2.len zI zE) ?_))
  rw [thR_uniq o2 o e1,show thR h O (h.ini,h.empty)=iniTh h O from rfl]
  refine mvT rfl (ex rfl rfl (ex rfl rfl (al z.Rat rfl fun b13=>(asD rfl (sto sz.Rat rfl rfl rfl rfl rfl (nb9 rfl) (cells2:=[_,_,_]) rfl (OL.nil ?_))))))
  refine AW.midK (α:=Unit) [(1,_),(2,_),(3,_),(5,_),(7,_),(8,_),(10,_),(11,_)] [(1,_),(2,_)] (fun _u=>[]) (fun _u=>[(11,.box b11 T.Hidden [.d (dI h.sym),.d (dI (lefS h).length),.d (dB (ofQ (emHM h O []).empty).neg),.d (u32s (ofQ (emHM h O []).empty).num),.d (u32s (ofQ (emHM h O []).empty).den),.d (dQs (emHM h O []).ini),.mt,.mt,.mt,.osl 70 b70 (lefS h).length (lefS h).length,.mt]),(70,.row b70 (lefS h).length T.bool 1 ((List.replicate (lefS h).length false).map dB))]) (fun _u=>True) (.cons (knP rfl) (.cons (knP rfl) (.cons (knJ) (.cons (knD rfl) (.cons (knR rfl) (.cons (knD rfl) (.cons (knF rfl) (.cons (knP rfl) .nil)))))))) (.cons (owB rfl) (.cons (owB rfl) .nil)) ?_ ?_
  ·refine AW.region_tree order_free (by rw [hE];rfl) (OT.node [0,1,3] (os:=[_,_,_]) (by kernel_rfl) (by decide) rfl ⟨?_,?_,?_,trivial⟩)
   ·refine mvF rfl (OL.nil (OT.node [1,3] (os:=[_,_]) (by kernel_rfl) (by decide) rfl ⟨?_,?_,trivial⟩))
    ·refine mvD rfl (OL.nil (OT.node [2,3] (os:=[_,_]) (by kernel_rfl) (by decide) rfl ⟨?_,?_,trivial⟩))
     ·refine clv rfl vL (pickG (h:=h) (l:=(iniTh h O).1) (thR_len e1) n1) (OL.nil (OT.node [3,4] (os:=[_,_]) (by kernel_rfl) (by decide) rfl ⟨?_,?_,trivial⟩))
      ·refine ldPA ag.Rat rfl rfl (vs:=[_,_,_]) rfl (nb9 rfl) (OL.nil (OT.node [4] (os:=[_]) (by kernel_rfl) (by decide) rfl ⟨?_,trivial⟩))
       refine faP fd.Hidden_3 rfl rfl (OL.nil (OT.node [5] (os:=[_]) (by kernel_rfl) (by decide) rfl ⟨?_,trivial⟩))
       refine sto sz.Rats rfl rfl rfl rfl rfl (nb9 rfl) (cells2:=[_,_,_,_,_,_,_,_,_,_,_]) rfl (OL.nil (OT.node [6] (os:=[_]) (by kernel_rfl) (by decide) rfl ⟨?_,trivial⟩))
       refine faP fd.Hidden_2 rfl rfl (OL.nil (OT.node [7] (os:=[_]) (by kernel_rfl) (by decide) rfl ⟨?_,trivial⟩))
       refine sto sz.Rat rfl rfl rfl rfl rfl (nb9 rfl) (cells2:=[_,_,_,_,_,_,_,_,_,_,_]) rfl (OL.nil (OT.leaf (by kernel_rfl) ?_))
       exact AW.reach () ⟨trivial,Knows.app .rq8 (.nil),Owns.app (.cons rfl (.cons rfl .nil)) (.cons rfl (.cons rfl .nil))⟩
      ·refine faP fd.Hidden_3 rfl rfl (OL.nil (OT.node [3,5] (os:=[_,_]) (by kernel_rfl) (by decide) rfl ⟨?_,?_,trivial⟩))
       ·refine ldPA ag.Rat rfl rfl (vs:=[_,_,_]) rfl (nb9 rfl) (OL.nil (OT.node [5] (os:=[_]) (by kernel_rfl) (by decide) rfl ⟨?_,trivial⟩))
        refine sto sz.Rats rfl rfl rfl rfl rfl (nb9 rfl) (cells2:=[_,_,_,_,_,_,_,_,_,_,_]) rfl (OL.nil (OT.node [6] (os:=[_]) (by kernel_rfl) (by decide) rfl ⟨?_,trivial⟩))
        refine faP fd.Hidden_2 rfl rfl (OL.nil (OT.node [7] (os:=[_]) (by kernel_rfl) (by decide) rfl ⟨?_,trivial⟩))
        refine sto sz.Rat rfl rfl rfl rfl rfl (nb9 rfl) (cells2:=[_,_,_,_,_,_,_,_,_,_,_]) rfl (OL.nil (OT.leaf (by kernel_rfl) ?_))
        exact AW.reach () ⟨trivial,Knows.app .rq8 (.nil),Owns.app (.cons rfl (.cons rfl .nil)) (.cons rfl (.cons rfl .nil))⟩
       ·refine sto sz.Rats rfl rfl rfl rfl rfl (nb9 rfl) (cells2:=[_,_,_,_,_,_,_,_,_,_,_]) rfl (OL.nil (OT.node [3] (os:=[_]) (by kernel_rfl) (by decide) rfl ⟨?_,trivial⟩))
        refine ldPA ag.Rat rfl rfl (vs:=[_,_,_]) rfl (nb9 rfl) (OL.nil (OT.node [6] (os:=[_]) (by kernel_rfl) (by decide) rfl ⟨?_,trivial⟩))
        refine faP fd.Hidden_2 rfl rfl (OL.nil (OT.node [7] (os:=[_]) (by kernel_rfl) (by decide) rfl ⟨?_,trivial⟩))
        refine sto sz.Rat rfl rfl rfl rfl rfl (nb9 rfl) (cells2:=[_,_,_,_,_,_,_,_,_,_,_]) rfl (OL.nil (OT.leaf (by kernel_rfl) ?_))
        exact AW.reach () ⟨trivial,Knows.app .rq8 (.nil),Owns.app (.cons rfl (.cons rfl .nil)) (.cons rfl (.cons rfl .nil))⟩
     ·refine ldPA ag.Rat rfl rfl (vs:=[_,_,_]) rfl (nb9 rfl) (OL.nil (OT.node [2] (os:=[_]) (by kernel_rfl) (by decide) rfl ⟨?_,trivial⟩))
      refine clv rfl vL (pickG (h:=h) (l:=(iniTh h O).1) (thR_len e1) n1) (OL.nil (OT.node [4] (os:=[_]) (by kernel_rfl) (by decide) rfl ⟨?_,trivial⟩))
      refine faP fd.Hidden_3 rfl rfl (OL.nil (OT.node [5] (os:=[_]) (by kernel_rfl) (by decide) rfl ⟨?_,trivial⟩))
      refine sto sz.Rats rfl rfl rfl rfl rfl (nb9 rfl) (cells2:=[_,_,_,_,_,_,_,_,_,_,_]) rfl (OL.nil (OT.node [6] (os:=[_]) (by kernel_rfl) (by decide) rfl ⟨?_,trivial⟩))
      refine faP fd.Hidden_2 rfl rfl (OL.nil (OT.node [7] (os:=[_]) (by kernel_rfl) (by decide) rfl ⟨?_,trivial⟩))
      refine sto sz.Rat rfl rfl rfl rfl rfl (nb9 rfl) (cells2:=[_,_,_,_,_,_,_,_,_,_,_]) rfl (OL.nil (OT.leaf (by kernel_rfl) ?_))
      exact AW.reach () ⟨trivial,Knows.app .rq8 (.nil),Owns.app (.cons rfl (.cons rfl .nil)) (.cons rfl (.cons rfl .nil))⟩
    ·refine ldPA ag.Rat rfl rfl (vs:=[_,_,_]) rfl (nb9 rfl) (OL.nil (OT.node [1] (os:=[_]) (by kernel_rfl) (by decide) rfl ⟨?_,trivial⟩))
     refine mvD rfl (OL.nil (OT.node [2] (os:=[_]) (by kernel_rfl) (by decide) rfl ⟨?_,trivial⟩))
     refine clv rfl vL (pickG (h:=h) (l:=(iniTh h O).1) (thR_len e1) n1) (OL.nil (OT.node [4] (os:=[_]) (by kernel_rfl) (by decide) rfl ⟨?_,trivial⟩))
     refine faP fd.Hidden_3 rfl rfl (OL.nil (OT.node [5] (os:=[_]) (by kernel_rfl) (by decide) rfl ⟨?_,trivial⟩))
     refine sto sz.Rats rfl rfl rfl rfl rfl (nb9 rfl) (cells2:=[_,_,_,_,_,_,_,_,_,_,_]) rfl (OL.nil (OT.node [6] (os:=[_]) (by kernel_rfl) (by decide) rfl ⟨?_,trivial⟩))
     refine faP fd.Hidden_2 rfl rfl (OL.nil (OT.node [7] (os:=[_]) (by kernel_rfl) (by decide) rfl ⟨?_,trivial⟩))
     refine sto sz.Rat rfl rfl rfl rfl rfl (nb9 rfl) (cells2:=[_,_,_,_,_,_,_,_,_,_,_]) rfl (OL.nil (OT.leaf (by kernel_rfl) ?_))
     exact AW.reach () ⟨trivial,Knows.app .rq8 (.nil),Owns.app (.cons rfl (.cons rfl .nil)) (.cons rfl (.cons rfl .nil))⟩
   ·refine mvD rfl (OL.nil (OT.node [0,3] (os:=[_,_]) (by kernel_rfl) (by decide) rfl ⟨?_,?_,trivial⟩))
    ·refine mvF rfl (OL.nil (OT.node [2,3] (os:=[_,_]) (by kernel_rfl) (by decide) rfl ⟨?_,?_,trivial⟩))
     ·refine clv rfl vL (pickG (h:=h) (l:=(iniTh h O).1) (thR_len e1) n1) (OL.nil (OT.node [3,4] (os:=[_,_]) (by kernel_rfl) (by decide) rfl ⟨?_,?_,trivial⟩))
      ·refine ldPA ag.Rat rfl rfl (vs:=[_,_,_]) rfl (nb9 rfl) (OL.nil (OT.node [4] (os:=[_]) (by kernel_rfl) (by decide) rfl ⟨?_,trivial⟩))
       refine faP fd.Hidden_3 rfl rfl (OL.nil (OT.node [5] (os:=[_]) (by kernel_rfl) (by decide) rfl ⟨?_,trivial⟩))
       refine sto sz.Rats rfl rfl rfl rfl rfl (nb9 rfl) (cells2:=[_,_,_,_,_,_,_,_,_,_,_]) rfl (OL.nil (OT.node [6] (os:=[_]) (by kernel_rfl) (by decide) rfl ⟨?_,trivial⟩))
       refine faP fd.Hidden_2 rfl rfl (OL.nil (OT.node [7] (os:=[_]) (by kernel_rfl) (by decide) rfl ⟨?_,trivial⟩))
       refine sto sz.Rat rfl rfl rfl rfl rfl (nb9 rfl) (cells2:=[_,_,_,_,_,_,_,_,_,_,_]) rfl (OL.nil (OT.leaf (by kernel_rfl) ?_))
       exact AW.reach () ⟨trivial,Knows.app .rq8 (.nil),Owns.app (.cons rfl (.cons rfl .nil)) (.cons rfl (.cons rfl .nil))⟩
      ·refine faP fd.Hidden_3 rfl rfl (OL.nil (OT.node [3,5] (os:=[_,_]) (by kernel_rfl) (by decide) rfl ⟨?_,?_,trivial⟩))
       ·refine ldPA ag.Rat rfl rfl (vs:=[_,_,_]) rfl (nb9 rfl) (OL.nil (OT.node [5] (os:=[_]) (by kernel_rfl) (by decide) rfl ⟨?_,trivial⟩))
        refine sto sz.Rats rfl rfl rfl rfl rfl (nb9 rfl) (cells2:=[_,_,_,_,_,_,_,_,_,_,_]) rfl (OL.nil (OT.node [6] (os:=[_]) (by kernel_rfl) (by decide) rfl ⟨?_,trivial⟩))
        refine faP fd.Hidden_2 rfl rfl (OL.nil (OT.node [7] (os:=[_]) (by kernel_rfl) (by decide) rfl ⟨?_,trivial⟩))
        refine sto sz.Rat rfl rfl rfl rfl rfl (nb9 rfl) (cells2:=[_,_,_,_,_,_,_,_,_,_,_]) rfl (OL.nil (OT.leaf (by kernel_rfl) ?_))
        exact AW.reach () ⟨trivial,Knows.app .rq8 (.nil),Owns.app (.cons rfl (.cons rfl .nil)) (.cons rfl (.cons rfl .nil))⟩
       ·refine sto sz.Rats rfl rfl rfl rfl rfl (nb9 rfl) (cells2:=[_,_,_,_,_,_,_,_,_,_,_]) rfl (OL.nil (OT.node [3] (os:=[_]) (by kernel_rfl) (by decide) rfl ⟨?_,trivial⟩))
        refine ldPA ag.Rat rfl rfl (vs:=[_,_,_]) rfl (nb9 rfl) (OL.nil (OT.node [6] (os:=[_]) (by kernel_rfl) (by decide) rfl ⟨?_,trivial⟩))
        refine faP fd.Hidden_2 rfl rfl (OL.nil (OT.node [7] (os:=[_]) (by kernel_rfl) (by decide) rfl ⟨?_,trivial⟩))
        refine sto sz.Rat rfl rfl rfl rfl rfl (nb9 rfl) (cells2:=[_,_,_,_,_,_,_,_,_,_,_]) rfl (OL.nil (OT.leaf (by kernel_rfl) ?_))
        exact AW.reach () ⟨trivial,Knows.app .rq8 (.nil),Owns.app (.cons rfl (.cons rfl .nil)) (.cons rfl (.cons rfl .nil))⟩
     ·refine ldPA ag.Rat rfl rfl (vs:=[_,_,_]) rfl (nb9 rfl) (OL.nil (OT.node [2] (os:=[_]) (by kernel_rfl) (by decide) rfl ⟨?_,trivial⟩))
      refine clv rfl vL (pickG (h:=h) (l:=(iniTh h O).1) (thR_len e1) n1) (OL.nil (OT.node [4] (os:=[_]) (by kernel_rfl) (by decide) rfl ⟨?_,trivial⟩))
      refine faP fd.Hidden_3 rfl rfl (OL.nil (OT.node [5] (os:=[_]) (by kernel_rfl) (by decide) rfl ⟨?_,trivial⟩))
      refine sto sz.Rats rfl rfl rfl rfl rfl (nb9 rfl) (cells2:=[_,_,_,_,_,_,_,_,_,_,_]) rfl (OL.nil (OT.node [6] (os:=[_]) (by kernel_rfl) (by decide) rfl ⟨?_,trivial⟩))
      refine faP fd.Hidden_2 rfl rfl (OL.nil (OT.node [7] (os:=[_]) (by kernel_rfl) (by decide) rfl ⟨?_,trivial⟩))
      refine sto sz.Rat rfl rfl rfl rfl rfl (nb9 rfl) (cells2:=[_,_,_,_,_,_,_,_,_,_,_]) rfl (OL.nil (OT.leaf (by kernel_rfl) ?_))
      exact AW.reach () ⟨trivial,Knows.app .rq8 (.nil),Owns.app (.cons rfl (.cons rfl .nil)) (.cons rfl (.cons rfl .nil))⟩
    ·refine ldPA ag.Rat rfl rfl (vs:=[_,_,_]) rfl (nb9 rfl) (OL.nil (OT.node [0] (os:=[_]) (by kernel_rfl) (by decide) rfl ⟨?_,trivial⟩))
     refine mvF rfl (OL.nil (OT.node [2] (os:=[_]) (by kernel_rfl) (by decide) rfl ⟨?_,trivial⟩))
     refine clv rfl vL (pickG (h:=h) (l:=(iniTh h O).1) (thR_len e1) n1) (OL.nil (OT.node [4] (os:=[_]) (by kernel_rfl) (by decide) rfl ⟨?_,trivial⟩))
     refine faP fd.Hidden_3 rfl rfl (OL.nil (OT.node [5] (os:=[_]) (by kernel_rfl) (by decide) rfl ⟨?_,trivial⟩))
     refine sto sz.Rats rfl rfl rfl rfl rfl (nb9 rfl) (cells2:=[_,_,_,_,_,_,_,_,_,_,_]) rfl (OL.nil (OT.node [6] (os:=[_]) (by kernel_rfl) (by decide) rfl ⟨?_,trivial⟩))
     refine faP fd.Hidden_2 rfl rfl (OL.nil (OT.node [7] (os:=[_]) (by kernel_rfl) (by decide) rfl ⟨?_,trivial⟩))
     refine sto sz.Rat rfl rfl rfl rfl rfl (nb9 rfl) (cells2:=[_,_,_,_,_,_,_,_,_,_,_]) rfl (OL.nil (OT.leaf (by kernel_rfl) ?_))
     exact AW.reach () ⟨trivial,Knows.app .rq8 (.nil),Owns.app (.cons rfl (.cons rfl .nil)) (.cons rfl (.cons rfl .nil))⟩
   ·refine ldPA ag.Rat rfl rfl (vs:=[_,_,_]) rfl (nb9 rfl) (OL.nil (OT.node [0,1] (os:=[_,_]) (by kernel_rfl) (by decide) rfl ⟨?_,?_,trivial⟩))
    ·refine mvF rfl (OL.nil (OT.node [1] (os:=[_]) (by kernel_rfl) (by decide) rfl ⟨?_,trivial⟩))
     refine mvD rfl (OL.nil (OT.node [2] (os:=[_]) (by kernel_rfl) (by decide) rfl ⟨?_,trivial⟩))
     refine clv rfl vL (pickG (h:=h) (l:=(iniTh h O).1) (thR_len e1) n1) (OL.nil (OT.node [4] (os:=[_]) (by kernel_rfl) (by decide) rfl ⟨?_,trivial⟩))
     refine faP fd.Hidden_3 rfl rfl (OL.nil (OT.node [5] (os:=[_]) (by kernel_rfl) (by decide) rfl ⟨?_,trivial⟩))
     refine sto sz.Rats rfl rfl rfl rfl rfl (nb9 rfl) (cells2:=[_,_,_,_,_,_,_,_,_,_,_]) rfl (OL.nil (OT.node [6] (os:=[_]) (by kernel_rfl) (by decide) rfl ⟨?_,trivial⟩))
     refine faP fd.Hidden_2 rfl rfl (OL.nil (OT.node [7] (os:=[_]) (by kernel_rfl) (by decide) rfl ⟨?_,trivial⟩))
     refine sto sz.Rat rfl rfl rfl rfl rfl (nb9 rfl) (cells2:=[_,_,_,_,_,_,_,_,_,_,_]) rfl (OL.nil (OT.leaf (by kernel_rfl) ?_))
     exact AW.reach () ⟨trivial,Knows.app .rq8 (.nil),Owns.app (.cons rfl (.cons rfl .nil)) (.cons rfl (.cons rfl .nil))⟩
    ·refine mvD rfl (OL.nil (OT.node [0] (os:=[_]) (by kernel_rfl) (by decide) rfl ⟨?_,trivial⟩))
     refine mvF rfl (OL.nil (OT.node [2] (os:=[_]) (by kernel_rfl) (by decide) rfl ⟨?_,trivial⟩))
     refine clv rfl vL (pickG (h:=h) (l:=(iniTh h O).1) (thR_len e1) n1) (OL.nil (OT.node [4] (os:=[_]) (by kernel_rfl) (by decide) rfl ⟨?_,trivial⟩))
     refine faP fd.Hidden_3 rfl rfl (OL.nil (OT.node [5] (os:=[_]) (by kernel_rfl) (by decide) rfl ⟨?_,trivial⟩))
     refine sto sz.Rats rfl rfl rfl rfl rfl (nb9 rfl) (cells2:=[_,_,_,_,_,_,_,_,_,_,_]) rfl (OL.nil (OT.node [6] (os:=[_]) (by kernel_rfl) (by decide) rfl ⟨?_,trivial⟩))
     refine faP fd.Hidden_2 rfl rfl (OL.nil (OT.node [7] (os:=[_]) (by kernel_rfl) (by decide) rfl ⟨?_,trivial⟩))
     refine sto sz.Rat rfl rfl rfl rfl rfl (nb9 rfl) (cells2:=[_,_,_,_,_,_,_,_,_,_,_]) rfl (OL.nil (OT.leaf (by kernel_rfl) ?_))
     exact AW.reach () ⟨trivial,Knows.app .rq8 (.nil),Owns.app (.cons rfl (.cons rfl .nil)) (.cons rfl (.cons rfl .nil))⟩
  rintro ⟨⟩ hφ
  refine AW.seq (AW.sg hE rfl (ldRC ce.ints rfl (lnL (f:=fun k:Nat=>dI (k:Int)) sl.ints rfl rfl (mvD rfl (OL.nil (AW.block ?_))))))
  refine AW.freeze 70 rfl (AW.boxW 11 [.d (dI h.sym),.d (dI (lefS h).length),.d (dB (ofQ (emHM h O []).empty).neg),.d (u32s (ofQ (emHM h O []).empty).num),.d (u32s (ofQ (emHM h O []).empty).den),.d (dQs (emHM h O []).ini),.osl 126 0 0 0,.osl 131 0 0 0,.osl 141 0 0 0,.d (bools (List.replicate (lefS h).length false)),.osl 146 0 0 0] rfl (.cons vR (.cons vR (.cons vR (.cons vR (.cons vR (.cons vR (.cons VLe.mtO (.cons VLe.mtO (.cons VLe.mtO (.cons (frz_osl (by rw [lm9,List.length_replicate]) rfl) (.cons VLe.mtO .nil))))))))))) ?_)
  refine AW.row0 126 T.Rats 1 rfl (AW.row0 131 T.Rat 3 rfl (AW.row0 141 T.Rats 1 rfl (AW.row0 146 T.int 1 rfl ?_)))
  refine AW.whileK (α:=Nat × Nat × Nat × Nat × Nat × Nat × Nat × Nat × Nat × List Int) [(1,_),(2,_),(3,_),(5,_),(8,_),(10,_),(11,_),(88,_),(89,_)] [(1,_),(2,_)] (fun (i,p1,c1,p2,c2,p3,c3,p5,c5,zs)=>[(90,.d (dI i))]) (fun (i,p1,c1,p2,c2,p3,c3,p5,c5,zs)=>[(11,.box b11 T.Hidden [.d (dI h.sym),.d (dI (lefS h).length),.d (dB (ofQ (emHM h O []).empty).neg),.d (u32s (ofQ (emHM h O []).empty).num),.d (u32s (ofQ (emHM h O []).empty).den),.d (dQs (emHM h O []).ini),.osl 126 p1 i c1,.osl 131 p2 i c2,.osl 141 p3 i c3,.d (bools (List.replicate (lefS h).length false)),.osl 146 p5 i c5]),(126,.row p1 c1 T.Rats 1 (((emHM h O []).trans.take i).map dQs)),(131,.row p2 c2 T.Rat 3 (((emHM h O []).stop.take i).map dQ)),(141,.row p3 c3 T.Rats 1 (((emHM h O []).emit.take i).map dQs)),(146,.row p5 c5 T.int 1 (zs.map dI))]) (fun (i,p1,c1,p2,c2,p3,c3,p5,c5,zs)=>i≤(lefS h).length∧zs.length=i) (fun (i,p1,c1,p2,c2,p3,c3,p5,c5,zs)=>(lefS h).length-i) (0,0,0,0,0,0,0,0,0,[]) (.cons (knP rfl) (.cons (knP rfl) (.cons (knJ) (.cons (knD rfl) (.cons (knD rfl) (.cons (knF rfl) (.cons (knP rfl) (.cons (knD rfl) (.cons (knD rfl) .nil))))))))) (.cons (owB rfl) (.cons (owB rfl) .nil)) ⟨⟨Nat.zero_le _,rfl⟩,.rq1,.cons rfl (.cons rfl (.cons rfl (.cons rfl (.cons rfl .nil))))⟩ ?_
  rintro ⟨i,p1,c1,p2,c2,p3,c3,p5,c5,zs⟩ ⟨h1,hzl⟩
  have h1:i≤(lefS h).length:=h1
  have hzl:zs.length=i:=hzl
  refine AW.sg hE rfl (c_lss rfl rfl rfl (OL.nil (AW.seq (AW.cond rfl (fun h91=>?_) (fun h91=>?_)))))
  ·try simp only [dx9] at h91
   refine AW.skip (AW.seq (AW.block (AW.seq ?_)))
   have hi:i<(lefS h).length:=by omega
   obtain ⟨hk,hks⟩:=lef_get hi
   have hti:=f.tie ((lefS h).getD i 0) hk
   have htd:=tieN_data hti.1
   have htw:=f.trow ((lefS h).getD i 0) hk
   have her:=f.erow_le ((lefS h).getD i 0) hk
   refine AW.rg hE rfl (ixLn (f:=fun k:Nat=>dI (k:Int)) sl.ints 0 rfl rfl hi rfl rfl (ldRC ce.int rfl (asD rfl (OL.nil (AW.seq (AW.dg 1 [0,1,2,3,4,5,6,7,8,9,10,11,12,13,14,15,16,17,18] order_free hE rfl (by kernel_rfl) (OI.of_OL (os:=[_,_,_,_,_,_,_,_,_,_,_,_,_,_,_,_,_,_,_]) rfl ?_)))))))
   refine ldPA ag.Hidden rfl rfl (vs:=[_,_,_,_,_,_,_,_,_,_,_]) rfl (nb9 rfl) (mvD rfl (faP fd.Hidden_4 rfl rfl (ldPC ce.Ratss rfl rfl rfl (mvD rfl (ixLn sl.Ratss [] rfl rfl (by omega) rfl rfl (ldRC ce.Rats rfl (faP fd.Hidden_5 rfl rfl ?_)))))))
   refine ldPC ce.Rats rfl rfl rfl (mvD rfl (ixLn sl.Rats 0 rfl rfl (by omega) rfl rfl (ldRA ag.Rat rfl (vs:=[_,_,_]) rfl (nb9 rfl) ?_)))
   refine clv rfl .rq4 (throughG (l:=h.trans.getD ((lefS h).getD i 0) []) (e:=h.stop.getD ((lefS h).getD i 0) 0) f zT zS hb1 hB htw hO2 o2.len (zT ((lefS h).getD i 0)) (zS.get hb1 ((lefS h).getD i 0))) ?_
   rw [thR_uniq o2 o htw,show thR h O (h.trans.getD ((lefS h).getD i 0) [],h.stop.getD ((lefS h).getD i 0) 0)=rowTh h O ((lefS h).getD i 0) from rfl]
   refine mvT rfl (ex rfl rfl (ex rfl rfl (al z.Rat rfl fun b17=>(asD rfl (sto sz.Rat rfl rfl rfl rfl rfl (nb9 rfl) (cells2:=[_,_,_]) rfl (OL.nil (AW.seq ?_)))))))
   refine AW.regionK (by rw [hE];rfl) (SK.ofOL (mvD (y:=.sl (tz.map dN)) rfl (OL.nil ?_)))
   refine SK.ofOL (faP fd.Hidden_8 rfl rfl (OL.nil ?_))
   refine SK.ofOL (ldPC ce.ints rfl rfl rfl (OL.nil ?_))
   refine SK.ofOL (mvD rfl (OL.nil ?_))
   refine SK.ofOL (ixLn sl.ints 0 rfl rfl (show ((lefS h).getD i 0)<h.ties.length by omega) rfl rfl (OL.nil ?_))
   refine SK.ofOL (ldRC ce.int rfl (OL.nil ?_))
   refine SK.ofSO (SO.callE (args':=[.d (.sl (tz.map dN)),.d (dN (tieN h ((lefS h).getD i 0)))]) (show 117<E.n by rw [hE];exact Nat.le_of_ble_eq_true (by rfl)) rfl (.cons vR (.cons (vle_of_eq (congrArg V.d htd)) .nil)) (Mc:=noMem) (fun _ _ h=>by cases h) (searchN (Nat.le_trans htz2 (by omega))) (fun _ _ _ h=>h) ?_)
   rintro pl hpl
   refine SK.ofOL (mvT rfl (OL.nil ?_))
   refine SK.ofOL (ex rfl rfl (OL.nil ?_))
   refine SK.ofOL (ex rfl rfl (OL.nil ?_))
   refine SK.ofOL (asD rfl (OL.nil ?_))
   refine SK.ofOL (asD rfl (OL.nil ?_))
   refine SK.nil (AW.dg 2 [0,1,2,3,4,5,7,8,9,10,12,13,14,15,16,17,18,22,23,24,25,6,27,11,19,20,21,26,28,29,30,31,32,33,34] order_free hE rfl (by kernel_rfl) (OI.of_OL (os:=[_,_,_,_,_,_,_,_,_,_,_,_,_,_,_,_,_,_,_,_,_,_,_,_,_,_,_,_,_,_,_,_,_,_,_]) rfl ?_))
   refine faP fd.Hidden_4 rfl rfl (ldPC ce.Ratss rfl rfl rfl (mvF rfl (mvD rfl (clv rfl vL (pickG (h:=h) (l:=(rowTh h O ((lefS h).getD i 0)).1) (thR_len htw) n1) (lt1 (y:=dQs (pkS h (rowTh h O ((lefS h).getD i 0)).1)) sl.Ratss (VC.d _).vd rfl (by decide) (faP fd.Hidden_5 rfl rfl (ldPC ce.Rats rfl rfl rfl ?_)))))))
   refine ldPA ag.Rat rfl rfl (vs:=[_,_,_]) rfl (nb9 rfl) (lt1 (y:=dQ (rowTh h O ((lefS h).getD i 0)).2) sl.Rats vd_q rfl (by decide) (faP fd.Hidden_6 rfl rfl (ldPC ce.Ratss rfl rfl rfl (faP fd.Hidden_6 rfl rfl (ldPC ce.Ratss rfl rfl rfl (mvD rfl (ixLn sl.Ratss [] rfl rfl (by omega) rfl rfl ?_)))))))
   refine ldRC ce.Rats rfl (faP fd.Hidden_8 rfl rfl (ldPC ce.ints rfl rfl rfl (mvD rfl (lt1 (y:=dI (pl.1:Int)) sl.ints (VC.d _).vd rfl (by decide) ?_))))
   refine apO sl.Ratss rfl rfl rfl (by rw [lm9,List.length_take];omega) (VC.d _) (fun y hy=>by rw [ms9 hy];rfl) (by simp only [ls9];omega) (by simp only [ls9];omega) (.inr rfl) (ys:=((emHM h O []).trans.take (i+1)).map dQs) (by rw [take_succ_getD (show i<(emHM h O []).trans.length by omega) [],gT i hi,List.map_append];rfl) (n2:=i+1) (rfl) fun b126 c126=>?_
   refine faP fd.Hidden_4 rfl rfl ?_
   refine apO sl.Rats rfl rfl rfl (by rw [lm9,List.length_take];omega) (VC.d _) (fun y hy=>by rw [ms9 hy];rfl) (by simp only [ls9];omega) (by simp only [ls9];omega) (.inr rfl) (ys:=((emHM h O []).stop.take (i+1)).map dQ) (by rw [take_succ_getD (show i<(emHM h O []).stop.length by omega) 0,gS i hi,List.map_append];rfl) (n2:=i+1) (rfl) fun b131 c131=>?_
   refine clv rfl vL (fresh_Rats (l:=h.emit.getD ((lefS h).getD i 0) []) (C:=B) (zM ((lefS h).getD i 0)) ⟨hb1,by omega⟩ (by omega)) (lt1 (y:=dQs (h.emit.getD ((lefS h).getD i 0) [])) sl.Ratss (VC.d _).vd rfl (by decide) ?_)
   refine apO sl.Ratss rfl rfl rfl (by rw [lm9,List.length_take];omega) (VC.d _) (fun y hy=>by rw [ms9 hy];rfl) (by simp only [ls9];omega) (by simp only [ls9];omega) (.inr rfl) (ys:=((emHM h O []).emit.take (i+1)).map dQs) (by rw [take_succ_getD (show i<(emHM h O []).emit.length by omega) [],gM i hi,List.map_append];rfl) (n2:=i+1) (rfl) fun b141 c141=>?_
   refine apO sl.ints rfl rfl rfl (by rw [lm9,hzl]) (VC.d _) (fun y hy=>by rw [ms9 hy];rfl) (by simp only [ls9];omega) (by simp only [ls9];omega) (.inr rfl) (ys:=(zs++[(pl.1:Int)]).map dI) (by rw [List.map_append];rfl) (n2:=i+1) (rfl) fun b146 c146=>?_
   refine sto sz.Ratss rfl rfl rfl rfl rfl (nb9 rfl) (cells2:=[_,_,_,_,_,_,_,_,_,_,_]) rfl (faP fd.Hidden_5 rfl rfl (sto sz.Rats rfl rfl rfl rfl rfl (nb9 rfl) (cells2:=[_,_,_,_,_,_,_,_,_,_,_]) rfl (faP fd.Hidden_6 rfl rfl (sto sz.Ratss rfl rfl rfl rfl rfl (nb9 rfl) (cells2:=[_,_,_,_,_,_,_,_,_,_,_]) rfl (faP fd.Hidden_8 rfl rfl (sto sz.ints rfl rfl rfl rfl rfl (nb9 rfl) (cells2:=[_,_,_,_,_,_,_,_,_,_,_]) rfl (OL.nil ?_)))))))
   refine AW.rg hE rfl (add_i64 rfl rfl (by omega) (mvD rfl (OL.nil ?_)))
   exact AW.again (x:=(i,p1,c1,p2,c2,p3,c3,p5,c5,zs)) (i+1,b126,c126,b131,c131,b141,c141,b146,c146,zs++[(pl.1:Int)]) (by (simp only [];omega)) ⟨⟨by omega,by rw [la9,hzl];rfl⟩,Knows.app .rq9 .rq1,Owns.app (.cons rfl (.cons rfl .nil)) (.cons rfl (.cons rfl (.cons rfl (.cons rfl (.cons rfl .nil)))))⟩
  ·try simp only [dx9] at h91
   refine AW.exit (AW.seq ?_)
   obtain rfl:i=(lefS h).length:=by omega
   refine AW.rg hE rfl (ldPA ag.Hidden rfl rfl (vs:=[_,_,_,_,_,_,_,_,_,_,_]) rfl (nb9 rfl) (sto sz.Hidden rfl rfl rfl rfl rfl (nb9 rfl) (cells2:=[_,_,_,_,_,_,_,_,_,_,_]) rfl (asD rfl (OL.nil ?_))))
   exact AW.ret ⟨zs,trivial,⟨_,.cellA rfl rfl ag.Hidden (nb9 rfl) (.tmp rfl .nil),_,.cons (.ag (.cons (.le vR) (.cons (.le vR) (.cons (.le vR) (.cons (.le vR) (.cons (.le vR) (.cons (.le vR) (.cons (RO.row rfl (by rw [lm9,List.length_take];omega) (by rw [show (emHM h O []).trans.take (lefS h).length=(emHM h O []).trans from List.take_of_length_le (by omega)];rfl)) (.cons (RO.row rfl (by rw [lm9,List.length_take];omega) (by rw [show (emHM h O []).stop.take (lefS h).length=(emHM h O []).stop from List.take_of_length_le (by omega)];rfl)) (.cons (RO.row rfl (by rw [lm9,List.length_take];omega) (by rw [show (emHM h O []).emit.take (lefS h).length=(emHM h O []).emit from List.take_of_length_le (by omega)];rfl)) (.cons (.le vR) (.cons (RO.row rfl (by rw [lm9,hzl]) rfl) (.nil))))))))))))) (.cons (.le vR) .nil),rfl⟩,fun _ _ h=>by cases h⟩
end Go.Proofs.YteiohkpjgcioaaaGreatDoor
