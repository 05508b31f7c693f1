/-
  AL, part 40: a struct of five cells by value, opened and laid as data.
-/
import Derived.Test.YtfbblpngcmjooaaGreatDoorKWkBC
import Derived.Test.YtfbblpngcmjooaaGreatDoorKMod107
import Derived.Test.YtfbblpngcmjooaaGreatDoorKAlgd
import Derived.Lib.SmallJoins
set_option linter.unusedVariables false
set_option linter.unusedSimpArgs false
namespace Go.Proofs.YtfbblpngcmjooaaGreatDoor
open Go Go.AL
theorem lt3 {m:Nat}{ops:Array Oper}{K:S→Prop}{s:S}{dst:Option Nat}{ty:Nat}{pos:String}{after:Array Edge}{r:List Oper}{t e sz by_:Nat}{x x2 x3:Operand}{y y2 y3:D}(hT:SliceT P t e sz by_)(hx:VD (s.ev x) y)(hx2:VD (s.ev x2) y2)(hx3:VD (s.ev x3) y3)(hs:y.cells.length=sz∧y2.cells.length=sz∧y3.cells.length=sz)(h24:sz≤4194304)(h:OL P m ops K r (s.put dst (.d (.sl [y,y2,y3])))):OL P m ops K (⟨dst,.buildSlice t 3 #[(0,x),(1,x2),(2,x3)],ty,pos,after,none⟩ :: r) s:=OL.puren (.litD (xs:=[y,y2,y3]) hT rfl rfl (by omega) (by omega) (fun i p z hp hz=>by
 match i,hp,hz with
 | 0,hp,hz=>simp at hp hz;subst hp hz;exact hx
 | 1,hp,hz=>simp at hp hz;subst hp hz;exact hx2
 | 2,hp,hz=>simp at hp hz;subst hp hz;exact hx3
 | i+3,hp,hz=>simp at hp) (fun z hz=>by simp at hz;rcases hz with rfl|rfl|rfl;exact hs.1;exact hs.2.1;exact hs.2.2)) h
theorem vd_w0m:VD (.ag [.d (dB false),.mt,.mt,.d (dI 0),.d (dB false),.d (dU 0),.mt,.mt]) (dW 0):=by
 have e:dW 0=.ag [dB false,.sl [],.sl [],dI 0,dB false,dU 0,.sl [],.sl []]:=by unfold dW;rw [ofQ_zero];rfl
 rw [e]
 exact VD.ag (.cons (VC.d _) (.cons VC.mt (.cons VC.mt (.cons (VC.d _) (.cons (VC.d _) (.cons (VC.d _) (.cons VC.mt (.cons VC.mt .nil))))))))
theorem take_aw:Au.Take aw24 1:=⟨⟨aw_ok,aw_sz.wide,rfl,(show 1≤32 by decide),(show 2≤64 by decide)⟩,aw_sz.few (show 2≤6 by decide),(show 1≤2 by decide)⟩
theorem MinimalAw:FSpec P F.minimal_Minimal [vAu aw24] (.tup [vAu ⟨1,2,[1,0],[serA aw24 [],serA aw24 [1]],[⟨0,1,1,1⟩,⟨1,1,0,-1⟩,⟨1,1,1,2⟩]⟩,.d (dI 0)]):=by
 obtain ⟨ok,_,z6,_⟩:=mach1 take_aw (by decide)
 obtain ⟨_,h2,h3⟩:=aw_K z6 ok
 have h:=MinimalA take_aw (by decide) (by decide) (by decide) (by rw [h3];decide)
 rw [aw_arcs z6 ok,h2] at h
 exact h
theorem sz_m1q:sz (-1)≤68719476736:=by rw [sz_neg,sz_one];decide
theorem sz_2q:sz 2≤68719476736:=by
 have h:=sz_add 1 1
 rw [sz_one,show (1:Rat)+1=2 by decide +kernel] at h
 exact Nat.le_trans h (by decide)
theorem two_r:((2:Int):Rat) / ((1:Int):Rat)=2:=by decide +kernel
theorem one_r:((1:Int):Rat) / ((1:Int):Rat)=1:=by decide +kernel
theorem sameT {p:Rat}(hp:sz p≤68719476736):FSpec P F.ref01_Same [vQ p,vQ p] (.d (dB true)):=by
 have h:=ref_SameQ (p:=p) (q:=p) hp hp
 rwa [decide_eq_true rfl] at h
theorem max3 (m:MModel):(autoOf m 2 3).st≤3:=auto3.2
structure Wds (m:MModel):Prop where
 pk:PreK (machL [autoOf m 2 3]) (preM (machL [autoOf m 2 3]))
 sk:SufK (machL [autoOf m 2 3]) (sufM (machL [autoOf m 2 3]))
 pl:(preM (machL [autoOf m 2 3])).length=rkA (autoOf m 2 3)
 sl:(sufM (machL [autoOf m 2 3])).length=rkA (autoOf m 2 3)
 r3:rkA (autoOf m 2 3)≤3
theorem wds (m:MModel):Wds m:=by
 obtain ⟨ok,_,z6,hn⟩:=mach1 (take_auto (m:=m)) (by decide)
 obtain ⟨pk,pn⟩:=pre_ex ok z6
 have sk:=suf_ex ok z6 (by rw [k_one];exact (show 1≤2 by decide))
 have pl:(preM (machL [autoOf m 2 3])).length=rkA (autoOf m 2 3):=by rw [pk.rank,k_one];rfl
 have sl:(sufM (machL [autoOf m 2 3])).length=rkA (autoOf m 2 3):=by rw [sk.rank,k_one];rfl
 have:=max3 m
 exact ⟨pk,sk,pl,sl,by omega⟩
theorem tail_in {m:Mach}{K:List (List Int)}{u:List Int}(h:SufK m K)(hu:u ∈ K)(h0:0<u.length):u.tail ∈ K:=by
 cases u with
 | nil=>cases h0
 | cons s u=>exact h.tail s u hu
theorem law24_ring  : FSpec P F.law24_ring [] (vRing):=by
 refine FSpec.intro fn.law24_ring (by rfl) (by rfl) (nb9 (by rfl)) fun E hE=>(AW.sg hE rfl (al z.Ring rfl fun b0=>(OL.nil (AW.sg hE rfl (bd z.Ring pl.Ring (cs:=[_,_]) rfl (sto sz.Ring rfl rfl rfl rfl rfl (nb9 rfl) (cells2:=[_,_]) rfl (OL.nil ?_)))))))
 exact AW.ret (RetQ.r ⟨_,.cellA rfl rfl ag.Ring (nb9 rfl) .nil,.ag (.cons (.le vR) (.cons (.le (VLe.mt)) .nil))⟩)
theorem law24_plain {m:MModel}{e:Bool}(n1:m.ini.length≤9223372036854775807)(n2:m.fin.length≤9223372036854775807)(n3:m.arcs.length≤9223372036854775807):FSpec P F.law24_plain [vModelE m e] (vAu (autoOf m 2 3)):=by
 refine FSpec.intro fn.law24_plain (by rfl) (by rfl) (nb9 (by rfl)) fun E hE=>(AW.sg hE rfl (bxA rfl rfl fun b1=>(al z.Auto rfl fun b2=>(OL.nil (AW.sg hE rfl (faP fd.Model_4 rfl rfl (sto sz.bool rfl rfl rfl rfl rfl (nb9 rfl) (cells2:=[_,_,_,_,_]) rfl ?_)))))))
 refine OL.nil (AW.seq (AW.dg 1 [0,1,2,3] order_free hE rfl (by kernel_rfl) (OI.of_OL (os:=[_,_,_,_]) rfl ?_)))
 exact ldPA ag.Model rfl rfl (vs:=[_,_,_,_,_]) rfl (nb9 rfl) (clv rfl (.nil) (law24_ring) (clv rfl (VLes.refl _) (AutoI (m:=m) (sym:=2) (most:=3) (by decide) (by decide) n1 n2 n3) (sto sz.Auto rfl rfl rfl rfl rfl (nb9 rfl) (cells2:=[_,_,_,_,_,_,_]) rfl (OL.nil (AW.ret (RetQ.r ⟨_,.cellA rfl rfl ag.Auto (nb9 rfl) .nil,.ag (.cons (.le vR) (.cons (.le vR) (.cons (.le vR) (.cons (.le vR) (.cons (.le vR) (.cons (.le vR) (.cons (.le vR) .nil)))))))⟩))))))
theorem law24_q11  : FSpec P F.law24_q [.d (dI 1),.d (dI 1)] (vW 1):=by
 refine FSpec.intro fn.law24_q (by rfl) (by rfl) (nb9 (by rfl)) fun E hE=>(AW.sg hE rfl (al z.Weight rfl fun b4=>(OL.nil (AW.sg hE rfl (mvD rfl (mvD rfl (clv rfl (VLes.refl _) (ref_OfQ (n:=1) (d:=1) (by decide) (by decide) (by decide)) ?_)))))))
 rw [one_r]
 exact bd z.Weight pl.Weight (cs:=[_,_,_,_,_,_,_,_]) rfl (sto sz.Weight rfl rfl rfl rfl rfl (nb9 rfl) (cells2:=[_,_,_,_,_,_,_,_]) rfl (OL.nil (AW.ret (RetQ.r ⟨_,.cellA rfl rfl ag.Weight (nb9 rfl) .nil,.le vle_wq⟩))))
set_option maxRecDepth 8000 in
set_option maxHeartbeats 1600000 in
theorem law24_awake  : FSpec P F.law24_awake [] (.d (dB true)):=by
 refine FSpec.intro fn.law24_awake (by rfl) (by rfl) (nb9 (by rfl)) fun E hE=>(AW.sg hE rfl (asD rfl (OL.nil (AW.sg hE rfl (clv rfl (.nil) (law24_ring) (clv rfl (VLes.refl _) (law24_q11) (bd z.Weight pl.Weight (cs:=[_,_,_,_,_,_,_,_]) rfl ?_)))))))
 refine lt2 (y:=dW 1) (y2:=dW 0) sl.Weights vd_w vd_w0m ⟨rfl,rfl⟩ (by decide) (bd z.Weight pl.Weight (cs:=[_,_,_,_,_,_,_,_]) rfl (clv rfl (VLes.refl _) (law24_q11) (lt2 (y:=dW 0) (y2:=dW 1) sl.Weights vd_w0m vd_w ⟨rfl,rfl⟩ (by decide) (clv rfl (VLes.refl _) (law24_q11) (bd2 (cs:=[_,_,_,_,_,_,_,_,_,_,_]) z.Arc pl.Arc (pvC (by exact evD rfl) (pvC (by exact evD rfl) (pvC (by exact evD rfl) (pvC (by exact evA rfl) (pvN))))) (by rfl) (clv rfl (VLes.refl _) (law24_q11) ?_))))))
 refine bd2 (cs:=[_,_,_,_,_,_,_,_,_,_,_]) z.Arc pl.Arc (pvC (by exact evD rfl) (pvC (by exact evD rfl) (pvC (by exact evD rfl) (pvC (by exact evA rfl) (pvN))))) (by rfl) (clv rfl (VLes.refl _) (law24_q11) (bd2 (cs:=[_,_,_,_,_,_,_,_,_,_,_]) z.Arc pl.Arc (pvC (by exact evD rfl) (pvC (by exact evD rfl) (pvC (by exact evD rfl) (pvC (by exact evA rfl) (pvN))))) (by rfl) (lt3 (y:=dArc ⟨0,1,0,1⟩) (y2:=dArc ⟨0,1,1,1⟩) (y3:=dArc ⟨1,1,1,1⟩) sl.Arcs (vd_arc (x:=⟨0,1,0,1⟩)) (vd_arc (x:=⟨0,1,1,1⟩)) (vd_arc (x:=⟨1,1,1,1⟩)) ⟨rfl,rfl,rfl⟩ (by decide) ?_)))
 refine bd2 (cs:=[_,_,_,_,_,_,_]) z.Auto pl.Auto (pvC (by exact evA rfl) (pvC (by exact evD rfl) (pvC (by exact evD rfl) (pvC (by exact evD rfl) (pvC (by exact evD rfl) (pvC (by exact evD rfl) (pvN))))))) (by rfl) (al z.Auto rfl fun b1=>(sto sz.Auto rfl rfl rfl rfl rfl (nb9 rfl) (cells2:=[_,_,_,_,_,_,_]) rfl (OL.nil (AW.sg hE rfl (ldPA ag.Auto rfl rfl (vs:=[_,_,_,_,_,_,_]) rfl (nb9 rfl) (clv rfl (VLes.refl _) (MinimalAw) (mvT rfl ?_)))))))
 refine ex rfl rfl (ex rfl rfl (al z.Auto rfl fun b2=>(sto sz.Auto rfl rfl rfl rfl rfl (nb9 rfl) (cells2:=[_,_,_,_,_,_,_]) rfl (asD rfl (OL.nil (AW.seq (AW.dg 1 [0,1,2,3,4,5,6,7,8,9,10,11,12,13,14,15,16,17,18,19,20,21,22,23,24,25,26,27,28,29,30,31,32,33] order_free hE rfl (by kernel_rfl) (OI.of_OL (os:=[_,_,_,_,_,_,_,_,_,_,_,_,_,_,_,_,_,_,_,_,_,_,_,_,_,_,_,_,_,_,_,_,_,_]) rfl ?_))))))))
 refine mvD rfl (c_eql rfl rfl (c:=true) (decide_eq_true rfl) (mvD rfl (OL.yes rfl (faP fd.Auto_2 rfl rfl (OL.yes rfl (ldPC ce.int rfl rfl rfl (OL.yes rfl ?_)))))))
 refine c_eql rfl rfl (c:=true) (decide_eq_true rfl) (pkT rfl rfl (mvD rfl (OL.yes rfl (faP fd.Auto_5 rfl rfl (OL.yes rfl (ldPC ce.Arcs rfl rfl rfl (OL.yes rfl ?_)))))))
 refine lnL sl.Arcs rfl rfl (OL.yes rfl (c_eql rfl rfl (c:=true) (decide_eq_true rfl) (pkT rfl rfl (mvD rfl (OL.yes rfl (faP fd.Auto_5 rfl rfl (OL.yes rfl ?_)))))))
 refine ldPC ce.Arcs rfl rfl rfl (OL.yes rfl (ixLn (i:=1) sl.Arcs default rfl rfl (by decide) rfl rfl (OL.yes rfl (faR fd.Arc_3 rfl rfl (OL.yes rfl (faR fd.Weight_0 rfl rfl (OL.yes rfl ?_)))))))
 refine ldRA ag.Rat rfl (vs:=[_,_,_]) rfl (nb9 rfl) (OL.yes rfl (clv rfl (VLes.refl _) (ref_OfQ (n:=-1) (d:=1) (by decide) (by decide) (by decide)) ?_))
 rw [neg1_r]
 refine OL.yes rfl (clv rfl (VLes.refl _) (sameT (p:=-1) sz_m1q) (pkT rfl rfl (mvD rfl (OL.yes rfl (faP fd.Auto_5 rfl rfl (OL.yes rfl (ldPC ce.Arcs rfl rfl rfl ?_)))))))
 refine OL.yes rfl (ixLn (i:=2) sl.Arcs default rfl rfl (by decide) rfl rfl (OL.yes rfl (faR fd.Arc_3 rfl rfl (OL.yes rfl (faR fd.Weight_0 rfl rfl (OL.yes rfl (ldRA ag.Rat rfl (vs:=[_,_,_]) rfl (nb9 rfl) ?_)))))))
 refine OL.yes rfl (clv rfl (VLes.refl _) (ref_OfQ (n:=2) (d:=1) (by decide) (by decide) (by decide)) ?_)
 rw [two_r]
 exact OL.yes rfl (clv rfl (VLes.refl _) (sameT (p:=2) sz_2q) (pkT rfl rfl (asD rfl (OL.nil (AW.ret (RetQ.r ⟨_,.tmp rfl .nil,.le vR⟩))))))
theorem among24 {l:List (List Int)}{w:List Int}(nl:l.length≤64)(hl:∀ u,u ∈ l→u.length≤64):FSpec P F.law24_among [.d (.sl (l.map ints)),.d (ints w)] (.d (dB (decide (w ∈ l)))):=by
 refine FSpec.intro fn.law24_among (by rfl) (by rfl) (nb9 (by rfl)) fun E hE=>(AW.sg hE rfl (asD rfl (OL.nil (AW.seq (AW.sg hE rfl (asD rfl (OL.nil ?_)))))))
 refine AW.block ?_
 refine AW.whileK (α:=Nat) [(0,_),(1,_)] [] (fun i=>[(5,.d (dI i))]) (fun i=>[]) (fun i=>i≤l.length∧∀ j,j<i→l.getD j []≠w) (fun i=>l.length-i) 0 (.cons (knD rfl) (.cons (knD rfl) .nil)) .nil ⟨⟨Nat.zero_le _,fun j hj=>absurd hj (Nat.not_lt_zero _)⟩,.rq1,.nil⟩ ?_
 rintro i ⟨h1,h2⟩
 have h1:i≤l.length:=h1
 have h2:∀ j,j<i→l.getD j []≠w:=h2
 refine AW.seq (AW.sg hE rfl (mvD rfl (mvD rfl (lnL sl.intss rfl rfl (c_lss rfl rfl rfl (OL.nil (AW.cond rfl (fun h9=>?_) (fun h9=>?_))))))))
 ·try simp only [dx9] at h9
  refine AW.skip (AW.seq (AW.block (AW.seq ?_)))
  have hi:i<l.length:=by omega
  refine AW.rg hE rfl (mvD rfl (mvD rfl (ixLn sl.intss [] rfl rfl hi rfl rfl (ldRC ce.ints rfl (mvD rfl (clv rfl (VLes.refl _) (r5Same (l:=l.getD i []) (m:=w) (Nat.le_trans (hl _ (getD_mem hi [])) (by decide))) (OL.nil ?_)))))))
  refine AW.cond rfl (fun hs=>?_) (fun hs=>?_)
  ·have hs:l.getD i []=w:=of_decide_eq_true hs
   rw [decide_eq_true (show w ∈ l by rw [← hs];exact getD_mem hi [])]
   exact AW.sg hE rfl (asD rfl (OL.nil (AW.ret (RetQ.r ⟨_,.tmp rfl .nil,.le vR⟩))))
  ·have hs:l.getD i []≠w:=of_decide_eq_false hs
   refine AW.skip (AW.rg hE rfl (mvD rfl (add_i64 rfl rfl (by omega) (asD rfl (OL.nil ?_)))))
   exact AW.again (x:=i) (i+1) (by omega) ⟨⟨by omega,fun j hj=>by
    by_cases e:j=i
    ·rw [e];exact hs
    ·exact h2 j (by omega)⟩,Knows.app .rq2 .rq1,.nil⟩
 ·try simp only [dx9] at h9
  refine AW.exit (AW.seq ?_)
  obtain rfl:i=l.length:=by omega
  rw [decide_eq_false (show ¬ w ∈ l from fun hw=>by
   obtain ⟨j,hj,e⟩:=List.mem_iff_getElem.1 hw
   refine h2 j hj ?_
   rw [gd9,ge9 hj]
   exact e)]
  exact AW.rg hE rfl (asD rfl (OL.nil (AW.ret (RetQ.r ⟨_,.tmp rfl .nil,.le vR⟩))))
theorem amongT {l:List (List Int)}{w:List Int}(nl:l.length≤64)(hl:∀ u,u ∈ l→u.length≤64)(hw:w ∈ l):FSpec P F.law24_among [.d (.sl (l.map ints)),.d (ints w)] (.d (dB true)):=by
 have h:=among24 (w:=w) nl hl
 rwa [decide_eq_true hw] at h
set_option maxRecDepth 8000 in
set_option maxHeartbeats 3200000 in
theorem law_MinimalWordsAreClosed {m:MModel}{e1:Bool}(ha1:m.ini.length≤9223372036854775807)(ha2:m.fin.length≤9223372036854775807)(ha3:m.arcs.length≤9223372036854775807):FSpec P F.law24_MinimalWordsAreClosed [vModelE m e1] (.d (dB true)):=by
 obtain ⟨pk,sk,pl,sl9,r3⟩:=wds m
 have hm3:=max3 m
 have hps:∀ u,u ∈ (preM (machL [(autoOf m 2 3)]))→u.length≤2:=fun u hu=>by have:=pk.short u hu;omega
 have hss:∀ u,u ∈ (sufM (machL [(autoOf m 2 3)]))→u.length≤2:=fun u hu=>by have:=sk.short u hu;omega
 refine FSpec.intro fn.law24_MinimalWordsAreClosed (by rfl) (by rfl) (nb9 (by rfl)) fun E hE=>(AW.sg hE rfl (bxA rfl rfl fun b1=>(asD rfl (OL.nil (AW.sg hE rfl (ldPA ag.Model rfl rfl (vs:=[_,_,_,_,_]) rfl (nb9 rfl) (clv rfl (VLes.refl _) (law24_plain (m:=m) ha1 ha2 ha3) ?_)))))))
 refine al z.Auto rfl fun b3=>(sto sz.Auto rfl rfl rfl rfl rfl (nb9 rfl) (cells2:=[_,_,_,_,_,_,_]) rfl (OL.nil (AW.sg hE rfl (ldPA ag.Auto rfl rfl (vs:=[_,_,_,_,_,_,_]) rfl (nb9 rfl) (clv rfl (VLes.refl _) (PrefixesA (a:=(autoOf m 2 3)) take_auto (by decide) (by omega)) (mvT rfl (ex rfl rfl ?_)))))))
 refine ex rfl rfl (asD rfl (asD rfl (OL.nil (AW.sg hE rfl (ldPA ag.Auto rfl rfl (vs:=[_,_,_,_,_,_,_]) rfl (nb9 rfl) (clv rfl (VLes.refl _) (SuffixesA (a:=(autoOf m 2 3)) take_auto (by decide) (by decide) (by omega)) (mvT rfl ?_)))))))
 refine ex rfl rfl (ex rfl rfl (asD rfl (asD rfl (OL.nil (AW.sg hE rfl (ldPA ag.Auto rfl rfl (vs:=[_,_,_,_,_,_,_]) rfl (nb9 rfl) (clv rfl (VLes.refl _) (r23Rank (a:=(autoOf m 2 3)) rk_auto) ?_)))))))
 refine mvT rfl (ex rfl rfl (ex rfl rfl (asD rfl (asD rfl (OL.nil (AW.seq (AW.sg hE rfl ?_)))))))
 refine mvD rfl (c_neq rfl rfl (c:=false) (cne_f rfl) (mvD rfl (OL.yes rfl (mvD rfl (OL.yes rfl (c_neq rfl rfl (c:=false) (cne_f rfl) (pkF rfl rfl ?_)))))))
 refine mvD rfl (OL.yes rfl (mvD rfl (OL.yes rfl (lnL sl.intss rfl rfl (OL.yes rfl (mvD rfl (OL.yes rfl ?_)))))))
 refine c_neq rfl rfl (c:=false) (cne_f (by rw [pl])) (pkF rfl rfl (mvD rfl (OL.yes rfl (mvD rfl (OL.yes rfl (lnL sl.intss rfl rfl (OL.yes rfl ?_)))))))
 refine mvD rfl (OL.yes rfl (c_neq rfl rfl (c:=false) (cne_f (by rw [sl9])) (pkF rfl rfl (OL.nil (AW.cond rfl (fun hno=>absurd hno (by decide)) (fun _=>?_))))))
 refine AW.skip (AW.seq (AW.sg hE rfl (asD rfl (OL.nil (AW.block ?_)))))
 refine AW.whileK (α:=Nat) [(4,_),(6,_),(8,_)] [] (fun i=>[(10,.d (dI i))]) (fun i=>[]) (fun i=>i≤rkA (autoOf m 2 3)) (fun i=>rkA (autoOf m 2 3)-i) 0 (.cons (knD rfl) (.cons (knD rfl) (.cons (knD rfl) .nil))) .nil ⟨Nat.zero_le _,.rq1,.nil⟩ ?_
 rintro i h1
 have h1:i≤rkA (autoOf m 2 3):=h1
 refine AW.seq (AW.sg hE rfl (mvD rfl (mvD rfl (c_lss rfl rfl rfl (OL.nil (AW.cond rfl (fun h48=>?_) (fun h48=>?_)))))))
 ·try simp only [dx9] at h48
  refine AW.skip (AW.seq (AW.block (AW.seq (AW.seq ?_))))
  have hi:i<rkA (autoOf m 2 3):=by omega
  have hip:i<(preM (machL [(autoOf m 2 3)])).length:=by omega
  have his:i<(sufM (machL [(autoOf m 2 3)])).length:=by omega
  have hp2:=hps _ (getD_mem hip [])
  have hs2:=hss _ (getD_mem his [])
  refine AW.dg 1 [0,1,2,3,4,5,6,7,8,9,10,11,12,13,14,15,16,17,18,19,20,21,22,23,24,25,26,27] order_free hE rfl (by kernel_rfl) (OI.of_OL (os:=[_,_,_,_,_,_,_,_,_,_,_,_,_,_,_,_,_,_,_,_,_,_,_,_,_,_,_,_]) rfl ?_)
  refine mvD rfl (c_gtr rfl rfl rfl (mvD rfl (OL.split 53 rfl (fun g1=>?_) (fun g1=>?_))))
  ·have g1:0<i:=by have:=of_decide_eq_true g1;omega
   refine OL.yes rfl (mvD rfl (OL.yes rfl (mvD rfl (OL.yes rfl (bo rfl rfl (bin_sub (c:=((i-1:Nat):Int)) (by omega) (wrap_i64 (by omega))) (OL.yes rfl (ixLn (i:=i-1) sl.intss [] rfl rfl (by omega) rfl rfl ?_)))))))
   refine OL.yes rfl (ldRC ce.ints rfl (OL.yes rfl (mvD rfl (OL.yes rfl (mvD rfl (OL.yes rfl (ixLn sl.intss [] rfl rfl hip rfl rfl ?_)))))))
   refine OL.yes rfl (ldRC ce.ints rfl (OL.yes rfl ?_))
   refine clv rfl (VLes.refl _) (ref05_CompareS (l:=(preM (machL [(autoOf m 2 3)])).getD (i-1) []) (m:=((preM (machL [(autoOf m 2 3)])).getD i [])) (Nat.le_trans (hps _ (getD_mem (show i-1<(preM (machL [(autoOf m 2 3)])).length by omega) [])) (by decide))) ?_
   refine OL.yes rfl (c_geq rfl rfl (c:=false) (decide_eq_false (by have:=pk.first.lt hip g1;omega)) (OL.yes rfl (mvD rfl (OL.yes rfl (mvD rfl (OL.yes rfl (mvD rfl ?_)))))))
   refine OL.yes rfl (bo rfl rfl (bin_sub (c:=((i-1:Nat):Int)) (by omega) (wrap_i64 (by omega))) (OL.yes rfl (ixLn (i:=i-1) sl.intss [] rfl rfl (by omega) rfl rfl (OL.yes rfl (ldRC ce.ints rfl (OL.yes rfl (mvD rfl ?_)))))))
   refine OL.yes rfl (mvD rfl (OL.yes rfl (ixLn sl.intss [] rfl rfl his rfl rfl (OL.yes rfl (ldRC ce.ints rfl (OL.yes rfl ?_))))))
   refine clv rfl (VLes.refl _) (ref05_CompareS (l:=(sufM (machL [(autoOf m 2 3)])).getD (i-1) []) (m:=((sufM (machL [(autoOf m 2 3)])).getD i [])) (Nat.le_trans (hss _ (getD_mem (show i-1<(sufM (machL [(autoOf m 2 3)])).length by omega) [])) (by decide))) ?_
   refine OL.yes rfl (c_geq rfl rfl (c:=false) (decide_eq_false (by have:=sk.first.lt his g1;omega)) (OL.yes rfl (pkF rfl rfl (pkT rfl rfl (OL.nil (AW.cond rfl (fun hno=>absurd hno (by decide)) (fun _=>?_)))))))
   refine AW.skip (AW.seq ?_)
   refine AW.dg 1 [0,1,2,3,4,5,6,7,8,9,10,11,12,13,14,15,16,17,18,19,20,21,22,23,24,25,26,27,28,29,30,31,32,33,34,35,36,37,38,39] order_free hE rfl (by kernel_rfl) (OI.of_OL (os:=[_,_,_,_,_,_,_,_,_,_,_,_,_,_,_,_,_,_,_,_,_,_,_,_,_,_,_,_,_,_,_,_,_,_,_,_,_,_,_,_]) rfl ?_)
   refine mvD rfl (mvD rfl (ixLn sl.intss [] rfl rfl hip rfl rfl (ldRC ce.ints rfl (lnL sl.ints rfl rfl (c_gtr rfl rfl rfl (mvD rfl (OL.split 85 rfl (fun g2=>?_) (fun g2=>?_))))))))
   ·have g2:0<((preM (machL [(autoOf m 2 3)])).getD i []).length:=by have:=of_decide_eq_true g2;omega
    refine OL.yes rfl (mvD rfl (OL.yes rfl (mvD rfl (OL.yes rfl (mvD rfl (OL.yes rfl (ixLn sl.intss [] rfl rfl hip rfl rfl ?_)))))))
    refine OL.yes rfl (ldRC ce.ints rfl (OL.yes rfl (mvD rfl (OL.yes rfl (mvD rfl (OL.yes rfl (ixLn sl.intss [] rfl rfl hip rfl rfl ?_)))))))
    refine OL.yes rfl (ldRC ce.ints rfl (OL.yes rfl (lnL sl.ints rfl rfl (OL.yes rfl (bo rfl rfl (bin_sub (c:=((((preM (machL [(autoOf m 2 3)])).getD i []).length-1:Nat):Int)) (by omega) (wrap_i64 (by omega))) (OL.yes rfl (slTo sl.ints rfl rfl (fun _=>rfl) (by omega) (l2:=((preM (machL [(autoOf m 2 3)])).getD i []).dropLast) (by rw [List.dropLast_eq_take,Int.toNat_natCast]) ?_)))))))
    refine OL.yes rfl ?_
    refine clv rfl (VLes.refl _) (amongT (l:=(preM (machL [(autoOf m 2 3)]))) (w:=((preM (machL [(autoOf m 2 3)])).getD i []).dropLast) (Nat.le_trans (show (preM (machL [(autoOf m 2 3)])).length≤3 by omega) (by decide)) (fun u hu=>Nat.le_trans (hps u hu) (by decide)) (pk.init _ (getD_mem hip []) (fun e=>by rw [e] at g2;cases g2))) ?_
    refine OL.yes rfl (nt rfl (pkT rfl rfl (mvD rfl (OL.yes rfl (mvD rfl (OL.yes rfl (mvD rfl ?_)))))))
    refine OL.yes rfl (ixLn sl.intss [] rfl rfl his rfl rfl (OL.yes rfl (ldRC ce.ints rfl (OL.yes rfl (lnL sl.ints rfl rfl (OL.yes rfl (c_gtr rfl rfl rfl ?_)))))))
    refine OL.yes rfl (mvD rfl (OL.split 108 rfl (fun g3=>?_) (fun g3=>?_)))
    ·have g3:0<((sufM (machL [(autoOf m 2 3)])).getD i []).length:=by have:=of_decide_eq_true g3;omega
     refine OL.yes rfl (mvD rfl (OL.yes rfl (mvD rfl (OL.yes rfl (mvD rfl (OL.yes rfl (ixLn sl.intss [] rfl rfl his rfl rfl ?_)))))))
     refine OL.yes rfl (ldRC ce.ints rfl (OL.yes rfl (slFrom sl.ints rfl rfl (fun _=>rfl) (by omega) (l2:=((sufM (machL [(autoOf m 2 3)])).getD i []).tail) (List.drop_one) (OL.yes rfl ?_))))
     refine clv rfl (VLes.refl _) (amongT (l:=(sufM (machL [(autoOf m 2 3)]))) (w:=((sufM (machL [(autoOf m 2 3)])).getD i []).tail) (Nat.le_trans (show (sufM (machL [(autoOf m 2 3)])).length≤3 by omega) (by decide)) (fun u hu=>Nat.le_trans (hss u hu) (by decide)) (tail_in sk (getD_mem his []) g3)) ?_
     refine OL.yes rfl (nt rfl (OL.yes rfl (pkT rfl rfl (pkF rfl rfl (OL.nil (AW.cond rfl (fun hno=>absurd hno (by decide)) (fun _=>?_)))))))
     exact AW.skip (AW.rg hE rfl (mvD rfl (add_i64 rfl rfl (by omega) (asD rfl (OL.nil (AW.again (x:=i) (i+1) (by omega) ⟨by omega,Knows.app .rq3 .rq1,.nil⟩))))))
    ·have g3:((sufM (machL [(autoOf m 2 3)])).getD i []).length=0:=by have:=of_decide_eq_false g3;omega
     refine OL.nd rfl (OL.nd rfl (OL.nd rfl (OL.nd rfl (OL.nd rfl (OL.nd rfl (OL.nd rfl (OL.nd rfl ?_)))))))
     refine OL.yes rfl (pkF rfl rfl (pkF rfl rfl (OL.nil (AW.cond rfl (fun hno=>absurd hno (by decide)) (fun _=>?_)))))
     exact AW.skip (AW.rg hE rfl (mvD rfl (add_i64 rfl rfl (by omega) (asD rfl (OL.nil (AW.again (x:=i) (i+1) (by omega) ⟨by omega,Knows.app .rq3 .rq1,.nil⟩))))))
   ·have g2:((preM (machL [(autoOf m 2 3)])).getD i []).length=0:=by have:=of_decide_eq_false g2;omega
    refine OL.nd rfl (OL.nd rfl (OL.nd rfl (OL.nd rfl (OL.nd rfl (OL.nd rfl (OL.nd rfl (OL.nd rfl ?_)))))))
    refine OL.nd rfl (OL.nd rfl (OL.nd rfl (OL.nd rfl (OL.nd rfl (OL.nd rfl (pkF rfl rfl (mvD rfl ?_)))))))
    refine OL.yes rfl (mvD rfl (OL.yes rfl (mvD rfl (OL.yes rfl (ixLn sl.intss [] rfl rfl his rfl rfl (OL.yes rfl (ldRC ce.ints rfl ?_)))))))
    refine OL.yes rfl (lnL sl.ints rfl rfl (OL.yes rfl (c_gtr rfl rfl rfl (OL.yes rfl (mvD rfl (OL.split 108 rfl (fun g3=>?_) (fun g3=>?_)))))))
    ·have g3:0<((sufM (machL [(autoOf m 2 3)])).getD i []).length:=by have:=of_decide_eq_true g3;omega
     refine OL.yes rfl (mvD rfl (OL.yes rfl (mvD rfl (OL.yes rfl (mvD rfl (OL.yes rfl (ixLn sl.intss [] rfl rfl his rfl rfl ?_)))))))
     refine OL.yes rfl (ldRC ce.ints rfl (OL.yes rfl (slFrom sl.ints rfl rfl (fun _=>rfl) (by omega) (l2:=((sufM (machL [(autoOf m 2 3)])).getD i []).tail) (List.drop_one) (OL.yes rfl ?_))))
     refine clv rfl (VLes.refl _) (amongT (l:=(sufM (machL [(autoOf m 2 3)]))) (w:=((sufM (machL [(autoOf m 2 3)])).getD i []).tail) (Nat.le_trans (show (sufM (machL [(autoOf m 2 3)])).length≤3 by omega) (by decide)) (fun u hu=>Nat.le_trans (hss u hu) (by decide)) (tail_in sk (getD_mem his []) g3)) ?_
     refine OL.yes rfl (nt rfl (OL.yes rfl (pkT rfl rfl (pkF rfl rfl (OL.nil (AW.cond rfl (fun hno=>absurd hno (by decide)) (fun _=>?_)))))))
     exact AW.skip (AW.rg hE rfl (mvD rfl (add_i64 rfl rfl (by omega) (asD rfl (OL.nil (AW.again (x:=i) (i+1) (by omega) ⟨by omega,Knows.app .rq3 .rq1,.nil⟩))))))
    ·have g3:((sufM (machL [(autoOf m 2 3)])).getD i []).length=0:=by have:=of_decide_eq_false g3;omega
     refine OL.nd rfl (OL.nd rfl (OL.nd rfl (OL.nd rfl (OL.nd rfl (OL.nd rfl (OL.nd rfl (OL.nd rfl ?_)))))))
     refine OL.yes rfl (pkF rfl rfl (pkF rfl rfl (OL.nil (AW.cond rfl (fun hno=>absurd hno (by decide)) (fun _=>?_)))))
     exact AW.skip (AW.rg hE rfl (mvD rfl (add_i64 rfl rfl (by omega) (asD rfl (OL.nil (AW.again (x:=i) (i+1) (by omega) ⟨by omega,Knows.app .rq3 .rq1,.nil⟩))))))
  ·have g1:i=0:=by have:=of_decide_eq_false g1;omega
   refine OL.nd rfl (OL.nd rfl (OL.nd rfl (OL.nd rfl (OL.nd rfl (OL.nd rfl (OL.nd rfl (OL.nd rfl ?_)))))))
   refine OL.nd rfl (OL.nd rfl (OL.nd rfl (OL.nd rfl (OL.nd rfl (OL.nd rfl (OL.nd rfl (OL.nd rfl ?_)))))))
   refine OL.nd rfl (OL.nd rfl (OL.nd rfl (OL.nd rfl (OL.nd rfl (OL.nd rfl (OL.nd rfl (OL.nd rfl ?_)))))))
   refine pkF rfl rfl (OL.nil (AW.cond rfl (fun hno=>absurd hno (by decide)) (fun _=>?_)))
   refine AW.skip (AW.seq ?_)
   refine AW.dg 1 [0,1,2,3,4,5,6,7,8,9,10,11,12,13,14,15,16,17,18,19,20,21,22,23,24,25,26,27,28,29,30,31,32,33,34,35,36,37,38,39] order_free hE rfl (by kernel_rfl) (OI.of_OL (os:=[_,_,_,_,_,_,_,_,_,_,_,_,_,_,_,_,_,_,_,_,_,_,_,_,_,_,_,_,_,_,_,_,_,_,_,_,_,_,_,_]) rfl ?_)
   refine mvD rfl (mvD rfl (ixLn sl.intss [] rfl rfl hip rfl rfl (ldRC ce.ints rfl (lnL sl.ints rfl rfl (c_gtr rfl rfl rfl (mvD rfl (OL.split 85 rfl (fun g2=>?_) (fun g2=>?_))))))))
   ·have g2:0<((preM (machL [(autoOf m 2 3)])).getD i []).length:=by have:=of_decide_eq_true g2;omega
    refine OL.yes rfl (mvD rfl (OL.yes rfl (mvD rfl (OL.yes rfl (mvD rfl (OL.yes rfl (ixLn sl.intss [] rfl rfl hip rfl rfl ?_)))))))
    refine OL.yes rfl (ldRC ce.ints rfl (OL.yes rfl (mvD rfl (OL.yes rfl (mvD rfl (OL.yes rfl (ixLn sl.intss [] rfl rfl hip rfl rfl ?_)))))))
    refine OL.yes rfl (ldRC ce.ints rfl (OL.yes rfl (lnL sl.ints rfl rfl (OL.yes rfl (bo rfl rfl (bin_sub (c:=((((preM (machL [(autoOf m 2 3)])).getD i []).length-1:Nat):Int)) (by omega) (wrap_i64 (by omega))) (OL.yes rfl (slTo sl.ints rfl rfl (fun _=>rfl) (by omega) (l2:=((preM (machL [(autoOf m 2 3)])).getD i []).dropLast) (by rw [List.dropLast_eq_take,Int.toNat_natCast]) ?_)))))))
    refine OL.yes rfl ?_
    refine clv rfl (VLes.refl _) (amongT (l:=(preM (machL [(autoOf m 2 3)]))) (w:=((preM (machL [(autoOf m 2 3)])).getD i []).dropLast) (Nat.le_trans (show (preM (machL [(autoOf m 2 3)])).length≤3 by omega) (by decide)) (fun u hu=>Nat.le_trans (hps u hu) (by decide)) (pk.init _ (getD_mem hip []) (fun e=>by rw [e] at g2;cases g2))) ?_
    refine OL.yes rfl (nt rfl (pkT rfl rfl (mvD rfl (OL.yes rfl (mvD rfl (OL.yes rfl (mvD rfl ?_)))))))
    refine OL.yes rfl (ixLn sl.intss [] rfl rfl his rfl rfl (OL.yes rfl (ldRC ce.ints rfl (OL.yes rfl (lnL sl.ints rfl rfl (OL.yes rfl (c_gtr rfl rfl rfl ?_)))))))
    refine OL.yes rfl (mvD rfl (OL.split 108 rfl (fun g3=>?_) (fun g3=>?_)))
    ·have g3:0<((sufM (machL [(autoOf m 2 3)])).getD i []).length:=by have:=of_decide_eq_true g3;omega
     refine OL.yes rfl (mvD rfl (OL.yes rfl (mvD rfl (OL.yes rfl (mvD rfl (OL.yes rfl (ixLn sl.intss [] rfl rfl his rfl rfl ?_)))))))
     refine OL.yes rfl (ldRC ce.ints rfl (OL.yes rfl (slFrom sl.ints rfl rfl (fun _=>rfl) (by omega) (l2:=((sufM (machL [(autoOf m 2 3)])).getD i []).tail) (List.drop_one) (OL.yes rfl ?_))))
     refine clv rfl (VLes.refl _) (amongT (l:=(sufM (machL [(autoOf m 2 3)]))) (w:=((sufM (machL [(autoOf m 2 3)])).getD i []).tail) (Nat.le_trans (show (sufM (machL [(autoOf m 2 3)])).length≤3 by omega) (by decide)) (fun u hu=>Nat.le_trans (hss u hu) (by decide)) (tail_in sk (getD_mem his []) g3)) ?_
     refine OL.yes rfl (nt rfl (OL.yes rfl (pkT rfl rfl (pkF rfl rfl (OL.nil (AW.cond rfl (fun hno=>absurd hno (by decide)) (fun _=>?_)))))))
     exact AW.skip (AW.rg hE rfl (mvD rfl (add_i64 rfl rfl (by omega) (asD rfl (OL.nil (AW.again (x:=i) (i+1) (by omega) ⟨by omega,Knows.app .rq3 .rq1,.nil⟩))))))
    ·have g3:((sufM (machL [(autoOf m 2 3)])).getD i []).length=0:=by have:=of_decide_eq_false g3;omega
     refine OL.nd rfl (OL.nd rfl (OL.nd rfl (OL.nd rfl (OL.nd rfl (OL.nd rfl (OL.nd rfl (OL.nd rfl ?_)))))))
     refine OL.yes rfl (pkF rfl rfl (pkF rfl rfl (OL.nil (AW.cond rfl (fun hno=>absurd hno (by decide)) (fun _=>?_)))))
     exact AW.skip (AW.rg hE rfl (mvD rfl (add_i64 rfl rfl (by omega) (asD rfl (OL.nil (AW.again (x:=i) (i+1) (by omega) ⟨by omega,Knows.app .rq3 .rq1,.nil⟩))))))
   ·have g2:((preM (machL [(autoOf m 2 3)])).getD i []).length=0:=by have:=of_decide_eq_false g2;omega
    refine OL.nd rfl (OL.nd rfl (OL.nd rfl (OL.nd rfl (OL.nd rfl (OL.nd rfl (OL.nd rfl (OL.nd rfl ?_)))))))
    refine OL.nd rfl (OL.nd rfl (OL.nd rfl (OL.nd rfl (OL.nd rfl (OL.nd rfl (pkF rfl rfl (mvD rfl ?_)))))))
    refine OL.yes rfl (mvD rfl (OL.yes rfl (mvD rfl (OL.yes rfl (ixLn sl.intss [] rfl rfl his rfl rfl (OL.yes rfl (ldRC ce.ints rfl ?_)))))))
    refine OL.yes rfl (lnL sl.ints rfl rfl (OL.yes rfl (c_gtr rfl rfl rfl (OL.yes rfl (mvD rfl (OL.split 108 rfl (fun g3=>?_) (fun g3=>?_)))))))
    ·have g3:0<((sufM (machL [(autoOf m 2 3)])).getD i []).length:=by have:=of_decide_eq_true g3;omega
     refine OL.yes rfl (mvD rfl (OL.yes rfl (mvD rfl (OL.yes rfl (mvD rfl (OL.yes rfl (ixLn sl.intss [] rfl rfl his rfl rfl ?_)))))))
     refine OL.yes rfl (ldRC ce.ints rfl (OL.yes rfl (slFrom sl.ints rfl rfl (fun _=>rfl) (by omega) (l2:=((sufM (machL [(autoOf m 2 3)])).getD i []).tail) (List.drop_one) (OL.yes rfl ?_))))
     refine clv rfl (VLes.refl _) (amongT (l:=(sufM (machL [(autoOf m 2 3)]))) (w:=((sufM (machL [(autoOf m 2 3)])).getD i []).tail) (Nat.le_trans (show (sufM (machL [(autoOf m 2 3)])).length≤3 by omega) (by decide)) (fun u hu=>Nat.le_trans (hss u hu) (by decide)) (tail_in sk (getD_mem his []) g3)) ?_
     refine OL.yes rfl (nt rfl (OL.yes rfl (pkT rfl rfl (pkF rfl rfl (OL.nil (AW.cond rfl (fun hno=>absurd hno (by decide)) (fun _=>?_)))))))
     exact AW.skip (AW.rg hE rfl (mvD rfl (add_i64 rfl rfl (by omega) (asD rfl (OL.nil (AW.again (x:=i) (i+1) (by omega) ⟨by omega,Knows.app .rq3 .rq1,.nil⟩))))))
    ·have g3:((sufM (machL [(autoOf m 2 3)])).getD i []).length=0:=by have:=of_decide_eq_false g3;omega
     refine OL.nd rfl (OL.nd rfl (OL.nd rfl (OL.nd rfl (OL.nd rfl (OL.nd rfl (OL.nd rfl (OL.nd rfl ?_)))))))
     refine OL.yes rfl (pkF rfl rfl (pkF rfl rfl (OL.nil (AW.cond rfl (fun hno=>absurd hno (by decide)) (fun _=>?_)))))
     exact AW.skip (AW.rg hE rfl (mvD rfl (add_i64 rfl rfl (by omega) (asD rfl (OL.nil (AW.again (x:=i) (i+1) (by omega) ⟨by omega,Knows.app .rq3 .rq1,.nil⟩))))))
 ·try simp only [dx9] at h48
  exact AW.exit (AW.sg hE rfl (clv rfl (.nil) (law24_awake) (asD rfl (OL.nil (AW.ret (RetQ.r ⟨_,.tmp rfl .nil,.le vR⟩))))))
end Go.Proofs.YtfbblpngcmjooaaGreatDoor
namespace Go.AL
open Go Go.BigFrame Go.RowKit Go.ChangeShapes Go.WideShapes Go.ChangeAt Go.Joins Go.Deep
theorem array5 {α:Type}{cs:Array α}(h:cs.size=5):∃ c0 c1 c2 c3 c4,cs = #[c0,c1,c2,c3,c4]:=by
 obtain ⟨l⟩:=cs
 match l,h with
 | [c0,c1,c2,c3,c4],_=>exact ⟨c0,c1,c2,c3,c4,rfl⟩
section
variable {H:Type}{enc:TypeId × Value→H}{P:Program}{w:World}{base:Nat}{spare:Nat→Bool}{held:Bool}
theorem trod_struct5 {t:TypeId}{f0 f1 f2 f3 f4:Field}{fuel:Nat}{cs:List Value}{x:DataW H × List MemPlace}(ht:P.underlying t=some (.struct #[f0,f1,f2,f3,f4]))(h:DataW.trod enc P w base spare held fuel t cs=some x) :
  ∃ y0 y1 y2 y3 y4 n,x=(.agg [y0.1,y1.1,y2.1,y3.1,y4.1],y0.2++(y1.2++(y2.2++(y3.2++y4.2))))∧cs.length=P.cellsOf t∧DataW.trod enc P w base spare held n f0.type ((cs.drop f0.offset).take (P.cellsOf f0.type))=some y0 ∧
   DataW.trod enc P w base spare held n f1.type ((cs.drop f1.offset).take (P.cellsOf f1.type))=some y1∧DataW.trod enc P w base spare held n f2.type ((cs.drop f2.offset).take (P.cellsOf f2.type))=some y2 ∧
   DataW.trod enc P w base spare held n f3.type ((cs.drop f3.offset).take (P.cellsOf f3.type))=some y3∧DataW.trod enc P w base spare held n f4.type ((cs.drop f4.offset).take (P.cellsOf f4.type))=some y4:=by
 obtain ⟨xs,n,_,rfl,hl,hlen,hf⟩:=DataW.trod_struct ht h
 match xs,hlen with
 | [y0,y1,y2,y3,y4],_=>exact ⟨y0,y1,y2,y3,y4,n,by simp,hl,by simpa using hf 0 f0 rfl,by simpa using hf 1 f1 rfl,by simpa using hf 2 f2 rfl,by simpa using hf 3 f3 rfl,by simpa using hf 4 f4 rfl⟩
theorem open_agg5 {r:Reach}{b0:Nat}{t:TypeId}{f0 f1 f2 f3 f4:Field}{v:Value}{d:DataW H}{p:List MemPlace}(hs:P.underlying t=some (.struct #[f0,f1,f2,f3,f4]))(hone:oneCellFields P #[f0,f1,f2,f3,f4]=true)(hC:P.cellsOf t=5)
  (hv:Value.okWide P w r b0 t v) (h:DataW.Trod enc P w base spare held t v d p) :
  ∃ (v0 v1 v2 v3 v4:Value) (y0 y1 y2 y3 y4:DataW H × List MemPlace) (n:Nat),v=.agg #[v0,v1,v2,v3,v4] ∧
   DataW.trod enc P w base spare held n f0.type [v0]=some y0∧DataW.trod enc P w base spare held n f1.type [v1]=some y1∧DataW.trod enc P w base spare held n f2.type [v2]=some y2∧DataW.trod enc P w base spare held n f3.type [v3]=some y3∧DataW.trod enc P w base spare held n f4.type [v4]=some y4:=by
 obtain ⟨cs,rfl,hsz⟩:=okWide_struct hs hv
 obtain ⟨c0,c1,c2,c3,c4,rfl⟩:=array5 (hsz.trans hC)
 obtain ⟨fuel,hf⟩:=h
 obtain ⟨y0,y1,y2,y3,y4,n,hx,_,h0,h1,h2,h3,h4⟩:=trod_struct5 hs hf
 obtain ⟨o0,k0⟩:=hone_of hone 0 f0 rfl
 obtain ⟨o1,k1⟩:=hone_of hone 1 f1 rfl
 obtain ⟨o2,k2⟩:=hone_of hone 2 f2 rfl
 obtain ⟨o3,k3⟩:=hone_of hone 3 f3 rfl
 obtain ⟨o4,k4⟩:=hone_of hone 4 f4 rfl
 exact ⟨c0,c1,c2,c3,c4,y0,y1,y2,y3,y4,n,rfl,by simpa [Value.cells,o0,k0] using h0,by simpa [Value.cells,o1,k1] using h1,by simpa [Value.cells,o2,k2] using h2,by simpa [Value.cells,o3,k3] using h3,by simpa [Value.cells,o4,k4] using h4⟩
end
theorem bool_open {P:Program}{H:Type}{enc:TypeId × Value→H}{w:World}{base fuel:Nat}{spare:Nat→Bool}{held:Bool}{t:TypeId}{v:Value}{x:DataW H × List MemPlace}(ht:P.underlying t=some .bool)
  (h:DataW.trod enc P w base spare held fuel t [v]=some x):∃ b,v=.bool b:=by
 obtain ⟨b,h1,_⟩:=DataW.trod_bool ht h
 simp at h1
 exact ⟨b,h1⟩
theorem simv_agg5 {F:Hp}{u0 u1 u2 u3 u4:Value}{x0 x1 x2 x3 x4:D}(h0:SimV F u0 (.d x0))(h1:SimV F u1 (.d x1))(h2:SimV F u2 (.d x2))(h3:SimV F u3 (.d x3))(h4:SimV F u4 (.d x4)):SimV F (.agg #[u0,u1,u2,u3,u4]) (.ag [.d x0,.d x1,.d x2,.d x3,.d x4]):=by
 have h:=simvs_cons h0 (simvs_cons h1 (simvs_cons h2 (simvs_cons h3 (simvs_cons h4 simvs_nil))))
 refine .ag (us:=[u0,u1,u2,u3,u4]) h.1 (fun u hu=>?_) h.2
 simp only [List.mem_cons,List.not_mem_nil,or_false] at hu
 rcases hu with rfl|rfl|rfl|rfl|rfl
 ·exact h0.one
 ·exact h1.one
 ·exact h2.one
 ·exact h3.one
 ·exact h4.one
end Go.AL
