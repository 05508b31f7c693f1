/-
  Walks of package rows, part 2: the machine of the turned words (printed by mk2.py).
-/
import Derived.Test.YtmcoihfkniccdaaGreatDoorKWkL
set_option linter.unusedVariables false
set_option linter.unusedSimpArgs false
namespace Go.Proofs.YtmcoihfkniccdaaGreatDoor
open Go Go.AL
theorem vd_to {x y:V}{d:D}(h:x=y)(hd:VD y d):VD x d:=h ▸ hd
theorem vc_to {x y:V}{d:D}(h:x=y)(hd:VC y d):VC x d:=h ▸ hd
abbrev nilD:D:=.sc (.slice none 0 0)
theorem raw.Rats:(P.info? T.Rats).bind (fun i=>i.zero.map fun z=>z.cells.toList)=some [.slice none 0 0]:=by kernel_rfl
def hdA (i b c:Nat):D:=if i=0 then nilD else hdC b i c
theorem hdA_zero (b c:Nat):hdA 0 b c=nilD:=rfl
theorem hdA_pos {i b c:Nat}(h:0<i):hdA i b c=hdC b i c:=if_neg (by omega)
theorem hdA_cells (i b c:Nat):(hdA i b c).cells=[hdA i b c]:=by unfold hdA;split <;> rfl
theorem vle_hdA (id:Nat){i b c:Nat}(h0:i=0→c=0)(h1:i≤c):VLe (.d (hdA i b c)) (.osl id b i c):=by
 by_cases h:i=0
 ·subst h
  rw [h0 rfl]
  intro F v hs
  rw [sc_val hs]
  exact .osl (fun e=>absurd e (Nat.lt_irrefl 0)) (Nat.le_refl 0)
 ·rw [hdA_pos (by omega)];exact vle_head id h1
theorem set_at {α:Type}{l:List α}{i:Nat}{x:α}(h:l[i]? = some x):l.set i x=l:=by
 refine List.ext_getElem? fun k=>?_
 rw [List.getElem?_set]
 split
 ·rename_i e;subst e
  rw [h]
  split
  ·rfl
  ·rename_i e;rw [List.getElem?_eq_none (by omega)] at h;cases h
 ·rfl
theorem take_row {l:List Rat}{n:Nat}(h:l.length=n):((l.take n).map dQ).take n=l.map dQ:=by
 rw [List.take_of_length_le (l:=l) (by omega),List.take_of_length_le (by rw [lm9];omega)]
def trowM (m:Mach)(s i:Nat):List Rat:=((turnM m).mats.getD s []).getD i []
theorem trowM_eq {m:Mach}{s i:Nat}(hs:s<m.k)(hi:i<m.n):trowM m s i=(List.range m.n).map fun j=>((m.mats.getD s []).getD j []).getD i 0:=by
 unfold trowM
 rw [turn_mat hs]
 unfold mtx
 rw [map_getD_range _ _ hi]
theorem trowM_len {m:Mach}{s i:Nat}(hs:s<m.k)(hi:i<m.n):(trowM m s i).length=m.n:=by rw [trowM_eq hs hi];simp
theorem trowM_get {m:Mach}{s i j:Nat}(hs:s<m.k)(hi:i<m.n)(hj:j<m.n):(trowM m s i).getD j 0=((m.mats.getD s []).getD j []).getD i 0:=by
 rw [trowM_eq hs hi,map_getD_range _ _ hj]
def rowT (m:Mach)(s i:Nat):List D:=fillF nilD (fun i=>dQs (trowM m s i)) m.n i
theorem rowT_len (m:Mach)(s i:Nat):(rowT m s i).length=m.n:=fillF_len ..
theorem rowT_at {m:Mach}{s i:Nat}(hi:i<m.n):(rowT m s i)[i]? = some nilD:=by
 unfold rowT fillF
 rw [List.getElem?_map,List.getElem?_range hi,Option.map_some,if_neg (Nat.lt_irrefl i)]
theorem rowT_set {m:Mach}{s i:Nat}(hi:i<m.n):(rowT m s i).set i (dQs (trowM m s i))=rowT m s (i+1):=fillF_set (g:=fun i=>dQs (trowM m s i)) hi
theorem list_range {α:Type}{l:List α}{n:Nat}(d:α)(h:l.length=n):((List.range n).map fun i=>l.getD i d)=l:=by
 subst h
 refine List.ext_getElem (by simp) fun j h1 h2=>?_
 simp only [List.getElem_map,List.getElem_range]
 rw [gd9,ge9 h2];rfl
theorem rowT_all {m:Mach}{s:Nat}(hs:s<m.k):rowT m s m.n=((turnM m).mats.getD s []).map dQs:=by
 have hl:((turnM m).mats.getD s []).length=m.n:=(turn_full m).rows s (by rw [turn_k];exact hs)
 unfold rowT
 rw [fillF_all]
 conv=>rhs;rw [← list_range [] hl,List.map_map]
 rfl
def matT (m:Mach)(s:Nat):List D:=fillF (dQss []) (fun s=>dQss ((turnM m).mats.getD s [])) m.k s
theorem matT_len (m:Mach)(s:Nat):(matT m s).length=m.k:=fillF_len ..
theorem matT_set {m:Mach}{s:Nat}(hs:s<m.k):(matT m s).set s (dQss ((turnM m).mats.getD s []))=matT m (s+1):=fillF_set (g:=fun s=>dQss ((turnM m).mats.getD s [])) hs
theorem matT_all (m:Mach):matT m m.k=(turnM m).mats.map dQss:=by
 have hl:(turnM m).mats.length=m.k:=turn_k
 unfold matT
 rw [fillF_all]
 conv=>rhs;rw [← list_range [] hl,List.map_map]
 rfl
theorem vcs_mtD:VCs [.mt] (dQss []).cells:=.cons VC.mt .nil
theorem upd_noneM {f:Nat→Option Blk}{d e:Nat}{b:Option Blk}(hne:e≠d)(h:f e=none):upd (upd f d b) e none=upd f d b:=by
 funext t
 by_cases ht:t=e
 ·subst ht;rw [upd_same,upd_ne _ _ hne,h]
 ·rw [upd_ne _ _ ht]
abbrev cellsR (x:Rat):List D:=[dB (ofQ x).neg,u32s (ofQ x).num,u32s (ofQ x).den]
def ownTa:Nat→Option Nat
 | 25=>some 0
 | 26=>some 1
 | 27=>some 2
 | 28=>some 3
 | 29=>some 4
 | 30=>some 5
 | 31=>some 6
 | _=>none
theorem ownTa_inj {t i:Nat}(h:ownTa t=some i):t=[25,26,27,28,29,30,31].getD i 0:=by
 unfold ownTa at h
 split at h <;> first|(cases h;rfl)|cases h
noncomputable def valTa (m:Mach)(b3 b15 s:Nat)(t:Nat)(β:Nat→Nat × Nat):V :=
 match t with
 | 25=>.ptr 3 b3 2
 | 26=>.osl 15 b15 m.k m.k
 | 27=>.d (dI s)
 | 28=>.d (dQss (m.mats.getD s []))
 | 29=>.d (dI m.n)
 | 30=>.osl 30 (β 30).1 m.n m.n
 | 31=>.eptr 15 b15 1 s 0
 | _=>.junk
noncomputable abbrev telTa (m:Mach)(b3 b15 s:Nat):List Tell:=[⟨30,5,fun β=>.row (β 30).1 m.n T.Rats 1 (List.replicate m.n nilD)⟩]
theorem casTa {p:Nat→Prop}(h0:p 0)(h1:p 1)(h2:p 2)(h3:p 3)(h4:p 4)(h5:p 5)(h6:p 6):∀ i,i<7→p i:=fun i hi=>by
 have:i=0 ∨ i=1 ∨ i=2 ∨ i=3 ∨ i=4 ∨ i=5 ∨ i=6:=by omega
 rcases this with rfl|rfl|rfl|rfl|rfl|rfl|rfl <;> assumption
def ownTb:Nat→Option Nat
 | 42=>some 0
 | 43=>some 1
 | 44=>some 2
 | 45=>some 3
 | 46=>some 4
 | 47=>some 5
 | 48=>some 6
 | 49=>some 7
 | 50=>some 8
 | 51=>some 9
 | 52=>some 10
 | 53=>some 11
 | 54=>some 12
 | 55=>some 13
 | 56=>some 14
 | 57=>some 15
 | 58=>some 16
 | 59=>some 17
 | 60=>some 18
 | 61=>some 19
 | 62=>some 20
 | 63=>some 21
 | 64=>some 22
 | 65=>some 23
 | _=>none
theorem ownTb_inj {t i:Nat}(h:ownTb t=some i):t=[42,43,44,45,46,47,48,49,50,51,52,53,54,55,56,57,58,59,60,61,62,63,64,65].getD i 0:=by
 unfold ownTb at h
 split at h <;> first|(cases h;rfl)|cases h
noncomputable def valTb (m:Mach)(b3 b15 b30 s i j q c:Nat)(t:Nat)(β:Nat→Nat × Nat):V :=
 match t with
 | 42=>.ptr 3 b3 2
 | 43=>.osl 15 b15 m.k m.k
 | 44=>.d (dI s)
 | 45=>.eptr 15 b15 1 s 0
 | 46=>.osl 30 b30 m.n m.n
 | 47=>.d (dI i)
 | 48=>.ptr 3 b3 2
 | 49=>.osl 15 b15 m.k m.k
 | 50=>.d (dI s)
 | 51=>.eptr 15 b15 1 s 0
 | 52=>.osl 30 b30 m.n m.n
 | 53=>.d (dI i)
 | 54=>.eptr 30 b30 1 i 0
 | 55=>.osl 64 q j c
 | 56=>.d (dQss (m.mats.getD s []))
 | 57=>.d (dI j)
 | 58=>.ref [dQs ((m.mats.getD s []).getD j [])]
 | 59=>.d (dQs ((m.mats.getD s []).getD j []))
 | 60=>.d (dI i)
 | 61=>.ref (cellsR ((trowM m s i).getD j 0))
 | 62=>vQ ((trowM m s i).getD j 0)
 | 63=>.d (.sl [dQ ((trowM m s i).getD j 0)])
 | 64=>.osl 64 (β 64).1 (j+1) (β 64).2
 | 65=>.eptr 30 b30 1 i 0
 | _=>.junk
noncomputable abbrev telTb (m:Mach)(b3 b15 b30 s i j q c:Nat):List Tell:=[⟨64,22,fun β=>.row (β 64).1 (β 64).2 T.Rat 3 (((trowM m s i).take j).map dQ++[dQ ((trowM m s i).getD j 0)])⟩]
theorem casTb {p:Nat→Prop}(h0:p 0)(h1:p 1)(h2:p 2)(h3:p 3)(h4:p 4)(h5:p 5)(h6:p 6)(h7:p 7)(h8:p 8)(h9:p 9)(h10:p 10)(h11:p 11)(h12:p 12)(h13:p 13)(h14:p 14)(h15:p 15)(h16:p 16)(h17:p 17)(h18:p 18)(h19:p 19)(h20:p 20)(h21:p 21)(h22:p 22)(h23:p 23):∀ i,i<24→p i:=fun i hi=>by
 have:i=0 ∨ i=1 ∨ i=2 ∨ i=3 ∨ i=4 ∨ i=5 ∨ i=6 ∨ i=7 ∨ i=8 ∨ i=9 ∨ i=10 ∨ i=11 ∨ i=12 ∨ i=13 ∨ i=14 ∨ i=15 ∨ i=16 ∨ i=17 ∨ i=18 ∨ i=19 ∨ i=20 ∨ i=21 ∨ i=22 ∨ i=23:=by omega
 rcases this with rfl|rfl|rfl|rfl|rfl|rfl|rfl|rfl|rfl|rfl|rfl|rfl|rfl|rfl|rfl|rfl|rfl|rfl|rfl|rfl|rfl|rfl|rfl|rfl <;> assumption
set_option maxRecDepth 8000 in
set_option maxHeartbeats 6400000 in
theorem TurnedQ {m:Mach}(fl:m.Full)(n1:1≤m.n)(n64:m.n≤64)(k64:m.k≤64):FSpec P F.rows_Machine_Turned [vMach m] (vMach (turnM m)):=by
 have hml:m.mats.length=m.k:=rfl
 refine FSpec.intro fn.rows_Machine_Turned (by rfl) (by rfl) (nb9 (by rfl)) fun E hE=>(AW.sg hE rfl (bxA rfl rfl fun b1=>(al z.Machine rfl fun b2=>(OL.nil (AW.seq (AW.dg 34 [0,1,2,3,4,5,6,7,8,9,10] order_free hE rfl (by kernel_rfl) (OI.of_OL (os:=[_,_,_,_,_,_,_,_,_,_,_]) rfl ?_)))))))
 refine faP fd.Machine_1 rfl rfl (ldPC ce.Rats rfl rfl rfl (faP fd.Machine_0 rfl rfl (ldPC ce.Rats rfl rfl rfl (faP fd.Machine_2 rfl rfl (ldPC ce.Ratsss rfl rfl rfl (lnL sl.Ratsss rfl rfl (mkLd (n:=m.k) (cp:=m.k) dQss [] sl.Ratsss z.Ratss vcs_mtD rfl rfl (Nat.le_refl _) (by omega) (by omega) rfl rfl fun b15=>?_)))))))
 refine bd2 (cs:=[_,_,_]) z.Machine pl.Machine (pvC (by exact evD rfl) (pvC (by exact evD rfl) (pvC (by exact evO rfl) (pvN)))) (by rfl) (al z.Machine rfl fun b3=>(sto sz.Machine rfl rfl rfl rfl rfl (nb9 rfl) (cells2:=[_,_,_]) rfl (OL.nil (AW.seq (AW.sg hE rfl (faP fd.Machine_2 rfl rfl (ldPC ce.Ratsss rfl rfl rfl ?_)))))))
 refine lnL sl.Ratsss rfl rfl (mvD rfl (OL.nil (AW.block ?_)))
 refine AW.whileK (α:=Nat) [(2,_),(3,_),(18,_),(19,_)] [(2,_),(3,_)] (fun s=>[(20,.d (dI s))]) (fun s=>[(15,.row b15 m.k T.Ratss 1 (matT m s))]) (fun s=>s≤m.k) (fun s=>m.k-s) 0 (.cons (knP rfl) (.cons (knP rfl) (.cons (knD rfl) (.cons (knD rfl) .nil)))) (.cons (owB rfl) (.cons (owB rfl) .nil)) ⟨Nat.zero_le _,.rq1,.cons (by rw [matT,fillF_zero,← List.map_replicate];rfl) .nil⟩ ?_
 intro s h1
 have h1:s≤m.k:=h1
 have hmt:=matT_len m s
 refine AW.sg hE rfl (c_lss rfl rfl rfl (OL.nil (AW.seq (AW.cond rfl (fun h21=>?_) (fun h21=>?_)))))
 ·try simp only [dx9] at h21
  refine AW.skip (AW.seq (AW.block (AW.seq ?_)))
  have hs:s<m.k:=by omega
  have hmr:=fl.rows s hs
  have hmc:=fl.cols s hs
  refine AW.rg hE rfl (mvD rfl (ixLn sl.Ratsss [] rfl rfl (by omega) rfl rfl (ldRC ce.Ratss rfl (asD rfl (asD rfl (OL.nil (AW.seq ?_)))))))
  refine AW.region_planT (valTa m b3 b15 s) ownTa (telTa m b3 b15 s) 7 order_free (by rw [hE];rfl) (by rfl) (by kernel_rfl) (by kernel_rfl) ?_ ?_
  ·refine casTa ?_ ?_ ?_ ?_ ?_ ?_ ?_
   ·exact fun β L c9=>⟨_,rfl,.inl (OG.of_OL (faP (b:=b3) (o:=0) (id:=3) fd.Machine_2 ((pG_old rfl).trans rfl) rfl ⟨β,pG_put (d:=25) (i:=0) rfl (fun t ht=>ownTa_inj ht) (lt_size 8 c9.size rfl (by decide)) (mfT_same (lt_size 8 c9.size rfl (by decide)) (by rfl))⟩))⟩
   ·exact fun β L c9=>⟨_,rfl,.inl (OG.of_OL (ldPC ce.Ratsss (pG_new rfl (come_dep (j:=0) c9 (by kernel_rfl))) ((pG_M (mfT_skip (show (3:Nat)≠30 by decide) rfl)):_=some (.box b3 T.Machine [.d (dQs m.fin),.d (dQs m.ini),.osl 15 b15 m.k m.k])) (v:=.osl 15 b15 m.k m.k) rfl ⟨β,pG_put (d:=26) (i:=1) rfl (fun t ht=>ownTa_inj ht) (lt_size 8 c9.size rfl (by decide)) (mfT_same (lt_size 8 c9.size rfl (by decide)) (by rfl))⟩))⟩
   ·exact fun β L c9=>⟨_,rfl,.inl (OG.of_OL (mvD (y:=dI s) ((pG_old rfl).trans rfl) ⟨β,pG_put (d:=27) (i:=2) rfl (fun t ht=>ownTa_inj ht) (lt_size 8 c9.size rfl (by decide)) (mfT_same (lt_size 8 c9.size rfl (by decide)) (by rfl))⟩))⟩
   ·exact fun β L c9=>⟨_,rfl,.inl (OG.of_OL (mvD (y:=dQss (m.mats.getD s [])) ((pG_old rfl).trans rfl) ⟨β,pG_put (d:=28) (i:=3) rfl (fun t ht=>ownTa_inj ht) (lt_size 8 c9.size rfl (by decide)) (mfT_same (lt_size 8 c9.size rfl (by decide)) (by rfl))⟩))⟩
   ·exact fun β L c9=>⟨_,rfl,.inl (OG.of_OL (lnD sl.Ratss rfl (pG_new rfl (come_dep (j:=3) c9 (by kernel_rfl))) (n:=m.n) ((lm9 ..).trans hmr) ⟨β,pG_put (d:=29) (i:=4) rfl (fun t ht=>ownTa_inj ht) (lt_size 8 c9.size rfl (by decide)) (mfT_same (lt_size 8 c9.size rfl (by decide)) (by rfl))⟩))⟩
   ·exact fun β L c9=>⟨_,rfl,SG.of_SO (SO.makeNil (n:=m.n) (cp:=m.n) (show 30<E.n by rw [hE];exact Nat.le_of_ble_eq_true (by rfl)) (pG_new rfl (come_dep (j:=4) c9 (by kernel_rfl))) (pG_new rfl (come_dep (j:=4) c9 (by kernel_rfl))) sl.Ratss raw.Rats (Nat.le_refl _) (by omega) (by omega) fun b=>⟨upd β 30 (b,0),pG_set (d:=30) (i:=5) (x:=(b,0)) rfl (fun t ht=>ownTa_inj ht) (lt_size 8 c9.size rfl (by decide)) rfl (mfT_here (lt_size 8 c9.size rfl (by decide)) rfl rfl rfl c9.no (by rfl) (fun y hy=>absurd hy List.not_mem_nil)) (fun t j ho hl=>by unfold ownTa at ho;split at ho <;> cases ho <;> first|rfl|(rw [c9.no] at hl;cases hl)|exact come_notT c9 (by kernel_rfl) hl)⟩)⟩
   ·exact fun β L c9=>⟨_,rfl,.inl (OG.of_OL (ixO sl.Ratsss (id:=15) (b:=b15) (l:=m.k) (c:=m.k) (pG_new rfl (come_dep (j:=1) c9 (by kernel_rfl))) (pG_new rfl (come_dep (j:=2) c9 (by kernel_rfl))) (by omega) (by omega) (i:=s) (by omega) ⟨β,pG_put (d:=31) (i:=6) rfl (fun t ht=>ownTa_inj ht) (lt_size 8 c9.size rfl (by decide)) (mfT_same (lt_size 8 c9.size rfl (by decide)) (by rfl))⟩))⟩
  refine fun β L c9 hA=>⟨_,rfl,SG.of_SO (SO.stHead (id:=30) (es:=List.replicate m.n nilD) (pG_new rfl (hA 6 (by decide))) (pG_new rfl (hA 5 (by decide))) (pG_M (mfT_yes (hA 5 (by decide)) rfl rfl)) ((pG_M (mfT_skip (show (15:Nat)≠30 by decide) rfl)):_=some (.row b15 m.k T.Ratss 1 (matT m s))) sz.Ratss (by omega) (by rw [List.length_replicate];omega) fun hc=>?_)⟩
  refine AW.to [(3,.ptr 3 b3 0),(4,.d (dI s)),(5,.d (dQss (m.mats.getD s []))),(18,.d (.sl (m.mats.map dQss))),(19,.d (dI m.k)),(20,.d (dI s)),(2,.ptr 2 b2 0)] [(2,.box b2 T.Machine [.mt,.mt,.mt]),(3,.box b3 T.Machine [.d (dQs m.fin),.d (dQs m.ini),.osl 15 b15 m.k m.k]),(15,.row b15 m.k T.Ratss 1 ((matT m s).set s (hdC (β 30).1 m.n m.n))),(30,.row (β 30).1 m.n T.Rats 1 (rowT m s 0))] (.cons (vle_of_eq (sto_rho ((pG_old rfl).trans rfl))) (.cons (vle_of_eq (sto_rho ((pG_old rfl).trans rfl))) (.cons (vle_of_eq (sto_rho ((pG_old rfl).trans rfl))) (.cons (vle_of_eq (sto_rho ((pG_old rfl).trans rfl))) (.cons (vle_of_eq (sto_rho ((pG_old rfl).trans rfl))) (.cons (vle_of_eq (sto_rho ((pG_old rfl).trans rfl))) (.cons (vle_of_eq (sto_rho ((pG_old rfl).trans rfl))) (.nil)))))))) (.cons (sto_old (show (2:Nat)≠15 by decide) (pG_M (mfT_skip (show (2:Nat)≠30 by decide) rfl))) (.cons (sto_old (show (3:Nat)≠15 by decide) (pG_M (mfT_skip (show (3:Nat)≠30 by decide) rfl))) (.cons sto_new (.cons ((sto_old (show (30:Nat)≠15 by decide) (pG_M (mfT_yes (hA 5 (by decide)) rfl rfl))).trans (congrArg some (congrArg (Blk.row (β 30).1 m.n T.Rats 1) (fillF_zero ..).symm))) (.nil))))) ?_
  generalize (β 30).1=b30
  refine AW.sg hE rfl (mvD rfl (lnL sl.Ratss rfl rfl ?_))
  rw [hmr]
  refine mvD rfl (OL.nil (AW.block ?_))
  refine AW.whileK (α:=Nat) [(2,_),(3,_),(4,_),(5,_),(18,_),(19,_),(20,_),(33,_)] [(2,_),(3,_)] (fun i=>[(34,.d (dI i))]) (fun i=>[(30,.row b30 m.n T.Rats 1 (rowT m s i)),(15,.row b15 m.k T.Ratss 1 ((matT m s).set s (hdC b30 m.n m.n)))]) (fun i=>i≤m.n) (fun i=>m.n-i) 0 (.cons (knP rfl) (.cons (knP rfl) (.cons (knD rfl) (.cons (knD rfl) (.cons (knD rfl) (.cons (knD rfl) (.cons (knD rfl) (.cons (knD rfl) .nil)))))))) (.cons (owB rfl) (.cons (owB rfl) .nil)) ⟨Nat.zero_le _,.rq1,.cons rfl (.cons rfl .nil)⟩ ?_
  intro i h2
  have h2:i≤m.n:=h2
  have hrt:=rowT_len m s i
  refine AW.sg hE rfl (c_lss rfl rfl rfl (OL.nil (AW.seq (AW.cond rfl (fun h35=>?_) (fun h35=>?_)))))
  ·try simp only [dx9] at h35
   refine AW.skip (AW.seq (AW.block (AW.seq ?_)))
   have hi:i<m.n:=by omega
   have htl:=trowM_len (m:=m) hs hi
   refine AW.rg hE rfl (mvD rfl (asD rfl (OL.nil (AW.sg hE rfl (mvD rfl (lnL sl.Ratss rfl rfl ?_))))))
   rw [hmr]
   refine mvD rfl (OL.nil (AW.block (AW.row0 64 T.Rat 3 rfl ?_)))
   refine AW.whileK (α:=Nat × Nat × Nat) [(2,_),(3,_),(4,_),(5,_),(6,_),(18,_),(19,_),(20,_),(33,_),(34,_),(38,_)] [(2,_),(3,_),(15,_)] (fun (j,q,c)=>[(39,.d (dI j))]) (fun (j,q,c)=>[(30,.row b30 m.n T.Rats 1 ((rowT m s i).set i (hdA j q c))),(64,.row q c T.Rat 3 (((trowM m s i).take j).map dQ))]) (fun (j,q,c)=>j≤m.n∧(j=0→c=0)) (fun (j,q,c)=>m.n-j) (0,0,0) (.cons (knP rfl) (.cons (knP rfl) (.cons (knD rfl) (.cons (knD rfl) (.cons (knD rfl) (.cons (knD rfl) (.cons (knD rfl) (.cons (knD rfl) (.cons (knD rfl) (.cons (knD rfl) (.cons (knD rfl) .nil))))))))))) (.cons (owB rfl) (.cons (owB rfl) (.cons (owR rfl) .nil))) ⟨⟨Nat.zero_le _,fun _=>rfl⟩,.rq1,.cons (by rw [hdA_zero,set_at (rowT_at hi)];rfl) (.cons rfl .nil)⟩ ?_
   rintro ⟨j,q,c⟩ ⟨h3,hc0⟩
   have h3:j≤m.n:=h3
   have hc0:j=0→c=0:=hc0
   refine AW.sg hE rfl (c_lss rfl rfl rfl (OL.nil (AW.seq (AW.cond rfl (fun h40=>?_) (fun h40=>?_)))))
   ·try simp only [dx9] at h40
    refine AW.skip (AW.seq (AW.block (AW.sg hE rfl (mvD rfl (asD rfl (OL.nil ?_))))))
    have hj:j<m.n:=by omega
    have hcj:=hmc j hj
    have hxe:(dQ (((m.mats.getD s []).getD j []).getD i 0)).cells=cellsR ((trowM m s i).getD j 0):=by rw [trowM_get hs hi hj];rfl
    have hlen9:j=(((trowM m s i).take j).map dQ).length:=by rw [lm9,List.length_take];omega
    have hel15:((matT m s).set s (hdC b30 m.n m.n))[s]? = some (hdC b30 m.n m.n):=List.getElem?_set_self (by omega)
    have hel30:((rowT m s i).set i (hdA j q c))[i]? = some (hdA j q c):=List.getElem?_set_self (by omega)
    refine AW.rowLen 64 rfl fun hic0=>?_
    have hjc:j≤c:=by rw [← hlen9] at hic0;exact hic0
    refine AW.region_planT (valTb m b3 b15 b30 s i j q c) ownTb (telTb m b3 b15 b30 s i j q c) 24 order_free (by rw [hE];rfl) (by rfl) (by kernel_rfl) (by kernel_rfl) ?_ ?_
    ·refine casTb ?_ ?_ ?_ ?_ ?_ ?_ ?_ ?_ ?_ ?_ ?_ ?_ ?_ ?_ ?_ ?_ ?_ ?_ ?_ ?_ ?_ ?_ ?_ ?_
     ·exact fun β L c9=>⟨_,rfl,.inl (OG.of_OL (faP (b:=b3) (o:=0) (id:=3) fd.Machine_2 ((pG_old rfl).trans rfl) rfl ⟨β,pG_put (d:=42) (i:=0) rfl (fun t ht=>ownTb_inj ht) (lt_size 25 c9.size rfl (by decide)) (mfT_same (lt_size 25 c9.size rfl (by decide)) (by rfl))⟩))⟩
     ·exact fun β L c9=>⟨_,rfl,.inl (OG.of_OL (ldPC ce.Ratsss (pG_new rfl (come_dep (j:=0) c9 (by kernel_rfl))) ((pG_M (mfT_skip (show (3:Nat)≠64 by decide) rfl)):_=some (.box b3 T.Machine [.d (dQs m.fin),.d (dQs m.ini),.osl 15 b15 m.k m.k])) (v:=.osl 15 b15 m.k m.k) rfl ⟨β,pG_put (d:=43) (i:=1) rfl (fun t ht=>ownTb_inj ht) (lt_size 25 c9.size rfl (by decide)) (mfT_same (lt_size 25 c9.size rfl (by decide)) (by rfl))⟩))⟩
     ·exact fun β L c9=>⟨_,rfl,.inl (OG.of_OL (mvD (y:=dI s) ((pG_old rfl).trans rfl) ⟨β,pG_put (d:=44) (i:=2) rfl (fun t ht=>ownTb_inj ht) (lt_size 25 c9.size rfl (by decide)) (mfT_same (lt_size 25 c9.size rfl (by decide)) (by rfl))⟩))⟩
     ·exact fun β L c9=>⟨_,rfl,.inl (OG.of_OL (ixO sl.Ratsss (id:=15) (b:=b15) (l:=m.k) (c:=m.k) (pG_new rfl (come_dep (j:=1) c9 (by kernel_rfl))) (pG_new rfl (come_dep (j:=2) c9 (by kernel_rfl))) (by omega) (by omega) (i:=s) (by omega) ⟨β,pG_put (d:=45) (i:=3) rfl (fun t ht=>ownTb_inj ht) (lt_size 25 c9.size rfl (by decide)) (mfT_same (lt_size 25 c9.size rfl (by decide)) (by rfl))⟩))⟩
     ·exact fun β L c9=>⟨_,rfl,.inl (OG.of_OL (ldLe (.rowC (by decide) (pG_new rfl (come_dep (j:=3) c9 (by kernel_rfl))) ((pG_M (mfT_skip (show (15:Nat)≠64 by decide) rfl)):_=some (.row b15 m.k T.Ratss 1 ((matT m s).set s (hdC b30 m.n m.n)))) hel15 ce.Ratss (d:=hdC b30 m.n m.n) rfl) (vle_head 30 (Nat.le_refl _)) ⟨β,pG_put (d:=46) (i:=4) rfl (fun t ht=>ownTb_inj ht) (lt_size 25 c9.size rfl (by decide)) (mfT_same (lt_size 25 c9.size rfl (by decide)) (by rfl))⟩))⟩
     ·exact fun β L c9=>⟨_,rfl,.inl (OG.of_OL (mvD (y:=dI i) ((pG_old rfl).trans rfl) ⟨β,pG_put (d:=47) (i:=5) rfl (fun t ht=>ownTb_inj ht) (lt_size 25 c9.size rfl (by decide)) (mfT_same (lt_size 25 c9.size rfl (by decide)) (by rfl))⟩))⟩
     ·exact fun β L c9=>⟨_,rfl,.inl (OG.of_OL (faP (b:=b3) (o:=0) (id:=3) fd.Machine_2 ((pG_old rfl).trans rfl) rfl ⟨β,pG_put (d:=48) (i:=6) rfl (fun t ht=>ownTb_inj ht) (lt_size 25 c9.size rfl (by decide)) (mfT_same (lt_size 25 c9.size rfl (by decide)) (by rfl))⟩))⟩
     ·exact fun β L c9=>⟨_,rfl,.inl (OG.of_OL (ldPC ce.Ratsss (pG_new rfl (come_dep (j:=6) c9 (by kernel_rfl))) ((pG_M (mfT_skip (show (3:Nat)≠64 by decide) rfl)):_=some (.box b3 T.Machine [.d (dQs m.fin),.d (dQs m.ini),.osl 15 b15 m.k m.k])) (v:=.osl 15 b15 m.k m.k) rfl ⟨β,pG_put (d:=49) (i:=7) rfl (fun t ht=>ownTb_inj ht) (lt_size 25 c9.size rfl (by decide)) (mfT_same (lt_size 25 c9.size rfl (by decide)) (by rfl))⟩))⟩
     ·exact fun β L c9=>⟨_,rfl,.inl (OG.of_OL (mvD (y:=dI s) ((pG_old rfl).trans rfl) ⟨β,pG_put (d:=50) (i:=8) rfl (fun t ht=>ownTb_inj ht) (lt_size 25 c9.size rfl (by decide)) (mfT_same (lt_size 25 c9.size rfl (by decide)) (by rfl))⟩))⟩
     ·exact fun β L c9=>⟨_,rfl,.inl (OG.of_OL (ixO sl.Ratsss (id:=15) (b:=b15) (l:=m.k) (c:=m.k) (pG_new rfl (come_dep (j:=7) c9 (by kernel_rfl))) (pG_new rfl (come_dep (j:=8) c9 (by kernel_rfl))) (by omega) (by omega) (i:=s) (by omega) ⟨β,pG_put (d:=51) (i:=9) rfl (fun t ht=>ownTb_inj ht) (lt_size 25 c9.size rfl (by decide)) (mfT_same (lt_size 25 c9.size rfl (by decide)) (by rfl))⟩))⟩
     ·exact fun β L c9=>⟨_,rfl,.inl (OG.of_OL (ldLe (.rowC (by decide) (pG_new rfl (come_dep (j:=9) c9 (by kernel_rfl))) ((pG_M (mfT_skip (show (15:Nat)≠64 by decide) rfl)):_=some (.row b15 m.k T.Ratss 1 ((matT m s).set s (hdC b30 m.n m.n)))) hel15 ce.Ratss (d:=hdC b30 m.n m.n) rfl) (vle_head 30 (Nat.le_refl _)) ⟨β,pG_put (d:=52) (i:=10) rfl (fun t ht=>ownTb_inj ht) (lt_size 25 c9.size rfl (by decide)) (mfT_same (lt_size 25 c9.size rfl (by decide)) (by rfl))⟩))⟩
     ·exact fun β L c9=>⟨_,rfl,.inl (OG.of_OL (mvD (y:=dI i) ((pG_old rfl).trans rfl) ⟨β,pG_put (d:=53) (i:=11) rfl (fun t ht=>ownTb_inj ht) (lt_size 25 c9.size rfl (by decide)) (mfT_same (lt_size 25 c9.size rfl (by decide)) (by rfl))⟩))⟩
     ·exact fun β L c9=>⟨_,rfl,.inl (OG.of_OL (ixO sl.Ratss (id:=30) (b:=b30) (l:=m.n) (c:=m.n) (pG_new rfl (come_dep (j:=10) c9 (by kernel_rfl))) (pG_new rfl (come_dep (j:=11) c9 (by kernel_rfl))) (by omega) (by omega) (i:=i) (by omega) ⟨β,pG_put (d:=54) (i:=12) rfl (fun t ht=>ownTb_inj ht) (lt_size 25 c9.size rfl (by decide)) (mfT_same (lt_size 25 c9.size rfl (by decide)) (by rfl))⟩))⟩
     ·exact fun β L c9=>⟨_,rfl,.inl (OG.of_OL (ldLe (.rowC (by decide) (pG_new rfl (come_dep (j:=12) c9 (by kernel_rfl))) ((pG_M (mfT_skip (show (30:Nat)≠64 by decide) rfl)):_=some (.row b30 m.n T.Rats 1 ((rowT m s i).set i (hdA j q c)))) hel30 ce.Rats (d:=hdA j q c) (by rw [hdA_cells];rfl)) (vle_hdA 64 hc0 hjc) ⟨β,pG_put (d:=55) (i:=13) rfl (fun t ht=>ownTb_inj ht) (lt_size 25 c9.size rfl (by decide)) (mfT_same (lt_size 25 c9.size rfl (by decide)) (by rfl))⟩))⟩
     ·exact fun β L c9=>⟨_,rfl,.inl (OG.of_OL (mvD (y:=dQss (m.mats.getD s [])) ((pG_old rfl).trans rfl) ⟨β,pG_put (d:=56) (i:=14) rfl (fun t ht=>ownTb_inj ht) (lt_size 25 c9.size rfl (by decide)) (mfT_same (lt_size 25 c9.size rfl (by decide)) (by rfl))⟩))⟩
     ·exact fun β L c9=>⟨_,rfl,.inl (OG.of_OL (mvD (y:=dI j) ((pG_old rfl).trans rfl) ⟨β,pG_put (d:=57) (i:=15) rfl (fun t ht=>ownTb_inj ht) (lt_size 25 c9.size rfl (by decide)) (mfT_same (lt_size 25 c9.size rfl (by decide)) (by rfl))⟩))⟩
     ·exact fun β L c9=>⟨_,rfl,.inl (OG.of_OL (ixLn sl.Ratss [] (l:=(m.mats.getD s [])) (pG_new rfl (come_dep (j:=14) c9 (by kernel_rfl))) (pG_new rfl (come_dep (j:=15) c9 (by kernel_rfl))) (by omega) rfl rfl ⟨β,pG_put (d:=58) (i:=16) rfl (fun t ht=>ownTb_inj ht) (lt_size 25 c9.size rfl (by decide)) (mfT_same (lt_size 25 c9.size rfl (by decide)) (by rfl))⟩))⟩
     ·exact fun β L c9=>⟨_,rfl,.inl (OG.of_OL (ldRC ce.Rats (pG_new rfl (come_dep (j:=16) c9 (by kernel_rfl))) ⟨β,pG_put (d:=59) (i:=17) rfl (fun t ht=>ownTb_inj ht) (lt_size 25 c9.size rfl (by decide)) (mfT_same (lt_size 25 c9.size rfl (by decide)) (by rfl))⟩))⟩
     ·exact fun β L c9=>⟨_,rfl,.inl (OG.of_OL (mvD (y:=dI i) ((pG_old rfl).trans rfl) ⟨β,pG_put (d:=60) (i:=18) rfl (fun t ht=>ownTb_inj ht) (lt_size 25 c9.size rfl (by decide)) (mfT_same (lt_size 25 c9.size rfl (by decide)) (by rfl))⟩))⟩
     ·exact fun β L c9=>⟨_,rfl,.inl (OG.of_OL (ixLn sl.Rats 0 (l:=(m.mats.getD s []).getD j []) (pG_new rfl (come_dep (j:=17) c9 (by kernel_rfl))) (pG_new rfl (come_dep (j:=18) c9 (by kernel_rfl))) (by omega) (cs:=cellsR ((trowM m s i).getD j 0)) hxe (by rfl) ⟨β,pG_put (d:=61) (i:=19) rfl (fun t ht=>ownTb_inj ht) (lt_size 25 c9.size rfl (by decide)) (mfT_same (lt_size 25 c9.size rfl (by decide)) (by rfl))⟩))⟩
     ·exact fun β L c9=>⟨_,rfl,.inl (OG.of_OL (ldRA ag.Rat (pG_new rfl (come_dep (j:=19) c9 (by kernel_rfl))) (vs:=[_,_,_]) rfl (nb9 rfl) ⟨β,pG_put (d:=62) (i:=20) rfl (fun t ht=>ownTb_inj ht) (lt_size 25 c9.size rfl (by decide)) (mfT_same (lt_size 25 c9.size rfl (by decide)) (by rfl))⟩))⟩
     ·exact fun β L c9=>⟨_,rfl,.inl (OG.of_OL (lt1 (y:=dQ ((trowM m s i).getD j 0)) sl.Rats (vd_to (pG_new rfl (come_dep (j:=20) c9 (by kernel_rfl))) vd_q) rfl (by decide) ⟨β,pG_put (d:=63) (i:=21) rfl (fun t ht=>ownTb_inj ht) (lt_size 25 c9.size rfl (by decide)) (mfT_same (lt_size 25 c9.size rfl (by decide)) (by rfl))⟩))⟩
     ·exact fun β L c9=>⟨_,rfl,.inl (OG.of_OL (apO sl.Rats rfl (pG_new rfl (come_dep (j:=13) c9 (by kernel_rfl))) ((pG_M (mfT_no (by exact c9.no) rfl)):_=some (.row q c T.Rat 3 (((trowM m s i).take j).map dQ))) hlen9 (vc_to (pG_new rfl (come_dep (j:=21) c9 (by kernel_rfl))) (VC.d _)) (fun y hy=>by rw [ms9 hy];rfl) (by simp only [ls9];omega) (by simp only [ls9];omega) (.inr rfl) (ys:=((trowM m s i).take j).map dQ++[dQ ((trowM m s i).getD j 0)]) rfl (n2:=j+1) rfl fun b8 c8=>⟨upd β 64 (b8,c8),pG_set (d:=64) (i:=22) (x:=(b8,c8)) rfl (fun t ht=>ownTb_inj ht) (lt_size 25 c9.size rfl (by decide)) rfl (Eq.trans (mfT_here (lt_size 25 c9.size rfl (by decide)) rfl rfl rfl c9.no (by rfl) (fun y hy=>absurd hy List.not_mem_nil)) (upd_upd _ _ _ _).symm) (fun t j ho hl=>by unfold ownTb at ho;split at ho <;> cases ho <;> first|rfl|(rw [c9.no] at hl;cases hl)|exact come_notT c9 (by kernel_rfl) hl)⟩))⟩
     ·exact fun β L c9=>⟨_,rfl,.inl (OG.of_OL (ixO sl.Ratss (id:=30) (b:=b30) (l:=m.n) (c:=m.n) (pG_new rfl (come_dep (j:=4) c9 (by kernel_rfl))) (pG_new rfl (come_dep (j:=5) c9 (by kernel_rfl))) (by omega) (by omega) (i:=i) (by omega) ⟨β,pG_put (d:=65) (i:=23) rfl (fun t ht=>ownTb_inj ht) (lt_size 25 c9.size rfl (by decide)) (mfT_same (lt_size 25 c9.size rfl (by decide)) (by rfl))⟩))⟩
    refine fun β L c9 hA=>⟨_,rfl,SG.of_SO (SO.stHead (id:=64) (es:=((trowM m s i).take j).map dQ++[dQ ((trowM m s i).getD j 0)]) (pG_new rfl (hA 23 (by decide))) (pG_new rfl (hA 22 (by decide))) (pG_M (mfT_yes (hA 22 (by decide)) rfl rfl)) ((pG_M (mfT_skip (show (30:Nat)≠64 by decide) rfl)):_=some (.row b30 m.n T.Rats 1 ((rowT m s i).set i (hdA j q c)))) sz.Rats (by rw [List.length_set,rowT_len];omega) (by simp) fun hc=>?_)⟩
    refine AW.to [(3,.ptr 3 b3 0),(4,.d (dI s)),(5,.d (dQss (m.mats.getD s []))),(18,.d (.sl (m.mats.map dQss))),(19,.d (dI m.k)),(20,.d (dI s)),(2,.ptr 2 b2 0),(6,.d (dI i)),(7,.d (dI j)),(33,.d (dI m.n)),(34,.d (dI i)),(38,.d (dI m.n)),(39,.d (dI j))] [(2,.box b2 T.Machine [.mt,.mt,.mt]),(3,.box b3 T.Machine [.d (dQs m.fin),.d (dQs m.ini),.osl 15 b15 m.k m.k]),(15,.row b15 m.k T.Ratss 1 ((matT m s).set s (hdC b30 m.n m.n))),(30,.row b30 m.n T.Rats 1 ((rowT m s i).set i (hdA (j+1) (β 64).1 (β 64).2))),(64,.row (β 64).1 (β 64).2 T.Rat 3 (((trowM m s i).take (j+1)).map dQ))] (.cons (vle_of_eq (sto_rho ((pG_old rfl).trans rfl))) (.cons (vle_of_eq (sto_rho ((pG_old rfl).trans rfl))) (.cons (vle_of_eq (sto_rho ((pG_old rfl).trans rfl))) (.cons (vle_of_eq (sto_rho ((pG_old rfl).trans rfl))) (.cons (vle_of_eq (sto_rho ((pG_old rfl).trans rfl))) (.cons (vle_of_eq (sto_rho ((pG_old rfl).trans rfl))) (.cons (vle_of_eq (sto_rho ((pG_old rfl).trans rfl))) (.cons (vle_of_eq (sto_rho ((pG_old rfl).trans rfl))) (.cons (vle_of_eq (sto_rho ((pG_old rfl).trans rfl))) (.cons (vle_of_eq (sto_rho ((pG_old rfl).trans rfl))) (.cons (vle_of_eq (sto_rho ((pG_old rfl).trans rfl))) (.cons (vle_of_eq (sto_rho ((pG_old rfl).trans rfl))) (.cons (vle_of_eq (sto_rho ((pG_old rfl).trans rfl))) (.nil)))))))))))))) (.cons (sto_old (show (2:Nat)≠30 by decide) (pG_M (mfT_skip (show (2:Nat)≠64 by decide) rfl))) (.cons (sto_old (show (3:Nat)≠30 by decide) (pG_M (mfT_skip (show (3:Nat)≠64 by decide) rfl))) (.cons (sto_old (show (15:Nat)≠30 by decide) (pG_M (mfT_skip (show (15:Nat)≠64 by decide) rfl))) (.cons (sto_new.trans (congrArg some (congrArg (Blk.row b30 m.n T.Rats 1) (by rw [List.set_set,hdA_pos (Nat.succ_pos _)])))) (.cons ((sto_old (show (64:Nat)≠30 by decide) (pG_M (mfT_yes (hA 22 (by decide)) rfl rfl))).trans (congrArg some (congrArg (Blk.row (β 64).1 (β 64).2 T.Rat 3) (by rw [take_snoc 0 (show j<(trowM m s i).length by omega),List.map_append];rfl)))) (.nil)))))) ?_
    generalize (β 64).1=q2
    generalize (β 64).2=d2
    refine AW.rg hE rfl (add_i64 rfl rfl (by omega) (mvD rfl (OL.nil ?_)))
    exact AW.again (x:=(j,q,c)) (j+1,q2,d2) (by (simp only [];omega)) ⟨⟨by omega,fun e=>absurd e (Nat.succ_ne_zero j)⟩,Knows.app .rq11 .rq1,Owns.app (.cons rfl (.cons rfl (.cons rfl .nil))) (.cons rfl (.cons rfl .nil))⟩
   ·try simp only [dx9] at h40
    refine AW.exit ?_
    obtain rfl:j=m.n:=by omega
    have htl:=trowM_len (m:=m) hs hi
    refine AW.freezeIn 64 30 i rfl rfl ((List.getElem?_set_self (by rw [rowT_len];exact hi)).trans (congrArg some (hdA_pos n1))) (n:=m.n) (by rw [lm9,List.length_take];omega) (by decide) (AW.to [(3,.ptr 3 b3 0),(4,.d (dI s)),(5,.d (dQss (m.mats.getD s []))),(18,.d (.sl (m.mats.map dQss))),(19,.d (dI m.k)),(20,.d (dI s)),(2,.ptr 2 b2 0),(6,.d (dI i)),(33,.d (dI m.n)),(34,.d (dI i))] [(2,.box b2 T.Machine [.mt,.mt,.mt]),(3,.box b3 T.Machine [.d (dQs m.fin),.d (dQs m.ini),.osl 15 b15 m.k m.k]),(15,.row b15 m.k T.Ratss 1 ((matT m s).set s (hdC b30 m.n m.n))),(30,.row b30 m.n T.Rats 1 (rowT m s (i+1)))] (.cons vR (.cons vR (.cons vR (.cons vR (.cons vR (.cons vR (.cons vR (.cons vR (.cons vR (.cons vR (.nil))))))))))) (.cons rfl (.cons rfl (.cons rfl (.cons (congrArg some (congrArg (Blk.row b30 m.n T.Rats 1) (by rw [List.set_set,take_row htl];exact rowT_set hi))) (.nil))))) ?_)
    refine AW.rg hE rfl (add_i64 rfl rfl (by omega) (mvD rfl (OL.nil ?_)))
    exact AW.again (x:=i) (i+1) (by omega) ⟨by omega,Knows.app .rq8 .rq1,Owns.app (.cons rfl (.cons rfl .nil)) (.cons rfl (.cons rfl .nil))⟩
  ·try simp only [dx9] at h35
   refine AW.exit ?_
   obtain rfl:i=m.n:=by omega
   refine AW.freezeIn 30 15 s rfl rfl (List.getElem?_set_self (by rw [matT_len];exact hs)) (n:=m.n) (by rw [rowT_len];exact Nat.le_refl _) (by decide) (AW.to [(3,.ptr 3 b3 0),(4,.d (dI s)),(5,.d (dQss (m.mats.getD s []))),(18,.d (.sl (m.mats.map dQss))),(19,.d (dI m.k)),(20,.d (dI s)),(2,.ptr 2 b2 0)] [(2,.box b2 T.Machine [.mt,.mt,.mt]),(3,.box b3 T.Machine [.d (dQs m.fin),.d (dQs m.ini),.osl 15 b15 m.k m.k]),(15,.row b15 m.k T.Ratss 1 (matT m (s+1)))] (.cons vR (.cons vR (.cons vR (.cons vR (.cons vR (.cons vR (.cons vR (.nil)))))))) (.cons rfl (.cons rfl (.cons (congrArg some (congrArg (Blk.row b15 m.k T.Ratss 1) (by rw [List.set_set,rowT_all hs,List.take_of_length_le (by rw [lm9,(turn_full m).rows s (by rw [turn_k];exact hs)];exact Nat.le_refl _)];exact matT_set hs))) (.nil)))) ?_)
   exact AW.rg hE rfl (add_i64 rfl rfl (by omega) (mvD rfl (OL.nil (AW.again (x:=s) (s+1) (by omega) ⟨by omega,Knows.app .rq4 .rq1,Owns.app (.cons rfl (.cons rfl .nil)) (.cons rfl .nil)⟩))))
 ·try simp only [dx9] at h21
  refine AW.exit (AW.seq ?_)
  obtain rfl:s=m.k:=by omega
  rw [matT_all]
  refine AW.freeze 15 rfl (AW.boxW 3 [.d (dQs m.fin),.d (dQs m.ini),.d (.sl ((turnM m).mats.map dQss))] rfl (.cons vR (.cons vR (.cons (frz_osl (by rw [lm9];exact turn_k.symm) rfl) .nil))) (AW.to [(2,.ptr 2 b2 0),(3,.ptr 3 b3 0)] [(2,.box b2 T.Machine [.mt,.mt,.mt]),(3,.box b3 T.Machine [.d (dQs m.fin),.d (dQs m.ini),.d (.sl ((turnM m).mats.map dQss))])] (.cons VLe.ptr (.cons VLe.ptr .nil)) (.cons rfl (.cons rfl .nil)) ?_))
  exact AW.rg hE rfl (ldPA ag.Machine rfl rfl (vs:=[_,_,_]) rfl (nb9 rfl) (sto sz.Machine rfl rfl rfl rfl rfl (nb9 rfl) (cells2:=[_,_,_]) rfl (OL.nil (AW.ret (RetQ.r ⟨_,.cellA rfl rfl ag.Machine (nb9 rfl) .nil,.ag (.cons (.le vR) (.cons (.le vR) (.cons (.le vR) .nil)))⟩)))))
end Go.Proofs.YtmcoihfkniccdaaGreatDoor
