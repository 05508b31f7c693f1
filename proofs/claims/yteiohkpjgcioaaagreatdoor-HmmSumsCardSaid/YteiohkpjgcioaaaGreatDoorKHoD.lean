/-
  Walks of package hmm: a valid model whose states are all silent (printed by mk2.py).
-/
import Derived.Test.YteiohkpjgcioaaaGreatDoorKMod123
import Derived.Test.YteiohkpjgcioaaaGreatDoorKHoC
import Derived.Test.YteiohkpjgcioaaaGreatDoorKHxM
set_option linter.unusedVariables false
set_option linter.unusedSimpArgs false
namespace Go.AL
open Go Go.BigFrame
def numA (s:Nat):Nat→Nat→Nat→Nat→Nat × Nat
 | 0,k,_,len=>(k,len)
 | f+1,k,size,len=>if size≤k then numA s f (k-size) (size*s) (len+1) else (k,len)
def numDW (s:Nat):Nat→Nat→List Int
 | 0,_=>[]
 | n+1,k=>numDW s n (k / s)++[((1+k % s:Nat):Int)]
def numW (s k:Nat):List Int:=numDW s (numA s 400 k 1 0).2 (numA s 400 k 1 0).1
theorem num_1:∀ k,k<40→4<(numW 1 k).length ∨ (k<(uptoW 1 5).length∧numW 1 k=(uptoW 1 5).getD k []):=by decide +kernel
theorem num_2:∀ k,k<40→4<(numW 2 k).length ∨ (k<(uptoW 2 5).length∧numW 2 k=(uptoW 2 5).getD k []):=by decide +kernel
theorem num_3:∀ k,k<40→4<(numW 3 k).length ∨ (k<(uptoW 3 5).length∧numW 3 k=(uptoW 3 5).getD k []):=by decide +kernel
theorem num_all {s k:Nat}(h1:1≤s)(h3:s≤3)(hk:k<40)(hl:(numW s k).length≤4):k<(uptoW s 5).length∧numW s k=(uptoW s 5).getD k []:=by
 have:s=1 ∨ s=2 ∨ s=3:=by omega
 rcases this with rfl|rfl|rfl
 ·exact (num_1 k hk).resolve_left (by omega)
 ·exact (num_2 k hk).resolve_left (by omega)
 ·exact (num_3 k hk).resolve_left (by omega)
theorem upto_in (s:Nat):∀ n u,u ∈ uptoW s n→u.length<n∧InW s u
 | 0,u,h=>by cases h
 | n+1,u,h=>by
  rcases mp9 h with h|h
  ·have:=upto_in s n u h;exact ⟨by omega,this.2⟩
  ·have:=allW_len n u h;exact ⟨by omega,this.2⟩
def sumK (f:List Int→Rat)(s k:Nat):Rat:=lsum f ((uptoW s 5).take k)
theorem sumK_succ {f:List Int→Rat}{s k:Nat}(h1:1≤s)(h3:s≤3)(hk:k<40)(hl:(numW s k).length≤4):sumK f s (k+1)=sumK f s k+f (numW s k):=by
 obtain ⟨a,b⟩:=num_all h1 h3 hk hl
 unfold sumK
 rw [take_succ_getD a [],lsum_append,b]
 show _+(f _+0)=_
 rw [Rat.add_zero]
def nilF (w:List Int):Rat:=if w=[] then 1 else 0
theorem nil_rest (s:Nat):∀ n,∀ u,u ∈ (uptoW s (n+1)).drop 1→u≠[]
 | 0,u,h=>by
  have:(uptoW s 1).drop 1=[]:=rfl
  rw [this] at h;cases h
 | n + 1, u, h => by
  have e:uptoW s (n+1+1)=uptoW s (n+1)++allW s (n+1):=rfl
  have hl:1≤(uptoW s (n+1)).length:=by
   clear h e
   induction n with
   | zero=>exact Nat.le_refl _
   | succ n ih=>rw [show uptoW s (n+1+1)=uptoW s (n+1)++allW s (n+1) from rfl,la9];omega
  rw [e,List.drop_append_of_le_length hl] at h
  rcases mp9 h with h|h
  ·exact nil_rest s n u h
  ·have:=(allW_len (n+1) u h).1
   intro c;rw [c] at this;cases this
theorem nil_sum (s k:Nat):sumK nilF s k≤1:=by
 unfold sumK
 have hh:uptoW s 5=[]::(uptoW s 5).drop 1:=by
  have:∀ n,uptoW s (n+1)=[]::(uptoW s (n+1)).drop 1:=fun n=>by
   induction n with
   | zero=>rfl
   | succ n ih =>
    have e:uptoW s (n+1+1)=uptoW s (n+1)++allW s (n+1):=rfl
    rw [e,ih];rfl
  exact this 4
 have z:∀ l:List (List Int),(∀ u,u ∈ l→u≠[])→lsum nilF l=0:=fun l hl=>lsumZ fun u hu=>if_neg (hl u hu)
 cases k with
 | zero=>show (0:Rat)≤1;decide
 | succ k =>
  rw [hh,List.take_succ_cons]
  show nilF []+lsum nilF _≤1
  rw [z _ (fun u hu=>nil_rest s 4 u (List.mem_of_mem_take hu)),Rat.add_zero]
  exact Rat.le_refl
theorem nil_nn (w:List Int):0≤nilF w:=by unfold nilF;split;decide;exact Rat.le_refl
theorem lik_sum {g:HM}{b B:Nat}(h:HM.GoodX b B g)(k:Nat):sumK (likF g) g.sym k≤1:=mass_take h 4 k
end Go.AL
namespace Go.Proofs.YteiohkpjgcioaaaGreatDoor
open Go Go.AL
theorem lefN_nil {h:HM}(hn:lefS h=[]):∀ i,i≤h.st→∀ j,j<i→h.silent.getD j false=true:=fun i hi j hj=>by
 cases hs:h.silent.getD j false with
 | true=>rfl
 | false =>
  have:j ∈ lefS h:=lef_mem.2 ⟨by omega,hs⟩
  rw [hn] at this;cases this
def oneAu (n:Nat):Au:=⟨n,1,[1],[1],[]⟩
theorem oneAu_ok {n:Nat}(h:1≤n):(oneAu n).Ok:=⟨h,rfl,rfl,fun x hx=>by cases hx⟩
theorem oneAu_sz {n:Nat}:(oneAu n).Sz 134217728 64:=⟨.one (by rw [sz_one];decide),.one (by rw [sz_one];decide),fun x hx=>(by cases hx),Nat.zero_le _⟩
theorem oneAu_vec {n:Nat}:∀ w:List Int,(vecM (machL [oneAu n]) w).length=1∧(vecM (machL [oneAu n]) w).getD 0 0=nilF w:=fun w=>by
 rcases List.eq_nil_or_concat w with rfl|⟨u,x,rfl⟩
 ·exact ⟨rfl,rfl⟩
 ·rw [List.concat_eq_append,vecM_snoc]
  have hN:(machL [oneAu n]).n=1:=size_one
  refine ⟨by rw [stepM_len,hN],?_⟩
  rw [stepM_vf (by rw [hN];decide),hN]
  have e:nilF (u++[x])=0:=if_neg (by simp)
  rw [e]
  refine sumN_zero fun i hi=>?_
  have:entM (machL [oneAu n]) (x.toNat-1) i 0=0:=by
   obtain rfl:i=0:=by omega
   rcases Nat.lt_or_ge (x.toNat-1) n with hs|hs
   ·rw [machL_ent (l:=[oneAu n]) hs (by rw [size_one];exact hi) (by rw [size_one];exact hi)]
    rfl
   ·show ((((machL [oneAu n]).mats.getD (x.toNat-1) []).getD 0 []).getD 0 0)=0
    rw [getD_ge (l:=(machL [oneAu n]).mats) (by show ((List.range n).map _).length≤_;rw [lm9,List.length_range];exact hs)]
    rfl
  rw [this,Rat.mul_zero]
theorem oneAu_ser {n:Nat}(w:List Int):serA (oneAu n) w=nilF w:=by
 have hN:(machL [oneAu n]).n=1:=size_one
 unfold serA wtM dotM
 rw [hN]
 show (0:Rat)+(vecM (machL [oneAu n]) w).getD 0 0*1=_
 rw [(oneAu_vec w).2,Rat.zero_add,Rat.mul_one]
theorem nilF_sz (w:List Int):sz (nilF w)≤1:=by unfold nilF;split;(rw [sz_one];exact Nat.le_refl _);(rw [sz_zero];decide)
set_option maxRecDepth 8000 in
set_option maxHeartbeats 3200000 in
theorem EmitNone {h:HM}(f:h.FormS)(sm:h.Sums)(rk:h.Ranked)(td:h.Tied)(hn:lefS h=[]):FSpec P F.hmm_Emitting [vHM h] (.tup [.ag [.d (dI 0),.d (dI 0),.d (dB false),.mt,.mt,.mt,.mt,.mt,.mt,.mt,.mt],.d (dI 1)]):=by
 have n0:=f.st0
 have n1:=f.st1
 have e6:=f.sill
 have e5:=f.ties
 have hsl:=lefN_nil hn h.st (Nat.le_refl _)
 refine FSpec.intro fn.hmm_Emitting (by rfl) (by rfl) (nb9 (by rfl)) fun E hE=>(AW.sg hE rfl (bxA rfl rfl fun b1=>(al z.Hidden rfl fun b2=>(asD rfl (OL.nil (AW.seq (AW.sg hE rfl ?_)))))))
 refine ldPA ag.Hidden rfl rfl (vs:=[_,_,_,_,_,_,_,_,_,_,_]) rfl (nb9 rfl) (clv rfl vL (hmm_ValidS f sm rk td) (asD rfl (OL.nil (AW.sg hE rfl (mvD rfl (c_neq rfl rfl (c:=false) (by exact cne_f (by omega)) (OL.nil ?_)))))))
 refine cnF rfl ?_
 refine AW.skip (AW.seq (AW.regionK (by rw [hE];rfl) (SK.ofOL (ldPA ag.Hidden rfl rfl (vs:=[_,_,_,_,_,_,_,_,_,_,_]) rfl (nb9 rfl) (OL.nil ?_)))))
 refine SK.ofSO (SO.callE (args':=[vHM h]) (show 28<E.n by rw [hE];exact Nat.le_of_ble_eq_true (by rfl)) rfl .rq1 (Mc:=noMem) (fun _ _ h=>by cases h) (hmm_orderL f rk) (fun _ _ _ h=>h) ?_)
 rintro O2 o2
 refine SK.ofOL (mvT rfl (OL.nil ?_))
 refine SK.ofOL (ex rfl rfl (OL.nil ?_))
 refine SK.ofOL (ex rfl rfl (OL.nil ?_))
 refine SK.ofOL (asD rfl (OL.nil ?_))
 refine SK.ofOL (asD rfl (OL.nil ?_))
 refine SK.nil ?_
 have o2:OrdS h O2:=o2
 have hO2:∀ k,k ∈ O2→k<h.st:=fun k hk=>((o2.sil k).1 hk).1
 refine AW.sg hE rfl (al z.ints rfl fun b7=>(OL.nil (AW.sg hE rfl (asM rfl (OL.nil (AW.seq (AW.sg hE rfl ?_)))))))
 refine faP fd.Hidden_1 rfl rfl (ldPC ce.int rfl rfl rfl (mvD rfl (OL.nil (AW.block ?_))))
 refine AW.whileK (α:=Nat) [(1,_),(2,_),(3,_),(5,_),(7,_),(32,_)] [(1,_),(2,_)] (fun i=>[(8,.mt),(33,.d (dI i))]) (fun i=>[(7,.box b7 T.ints [.mt])]) (fun i=>i≤h.st) (fun i=>h.st-i) 0 (.cons (knP rfl) (.cons (knP rfl) (.cons (knD rfl) (.cons (knD rfl) (.cons (knP rfl) (.cons (knD rfl) .nil)))))) (.cons (owB rfl) (.cons (owB rfl) .nil)) ⟨Nat.zero_le _,.rq2,.cons rfl .nil⟩ ?_
 intro i h1
 have h1:i≤h.st:=h1
 refine AW.sg hE rfl (c_lss rfl rfl rfl (OL.nil (AW.seq (AW.cond rfl (fun h34=>?_) (fun h34=>?_)))))
 ·try simp only [dx9] at h34
  refine AW.skip (AW.seq (AW.block (AW.sg hE rfl (mvD rfl (asD rfl (OL.nil (AW.seq ?_)))))))
  have hi:i<h.st:=by omega
  have hs:=hsl i hi
  refine AW.rg hE rfl (faP fd.Hidden_7 rfl rfl (ldPC ce.bools rfl rfl rfl (mvD rfl (ixLn sl.bools false rfl rfl (by omega) rfl rfl (ldRC ce.bool rfl ?_)))))
  rw [hs]
  refine nt rfl (OL.nil (cnF rfl ?_))
  refine AW.skip (AW.rg hE rfl (add_i64 rfl rfl (by omega) (mvD rfl (OL.nil ?_))))
  exact AW.again (x:=i) (i+1) (by omega) ⟨by omega,Knows.app .rq6 .rq2,Owns.app (.cons rfl (.cons rfl .nil)) (.cons rfl .nil)⟩
 ·try simp only [dx9] at h34
  refine AW.exit (AW.seq (AW.sg hE rfl (ldPC ce.ints rfl rfl rfl (lnM sl.ints rfl rfl (c_eql rfl rfl (c:=true) (by exact decide_eq_true (by omega)) (OL.nil (cnT rfl ?_)))))))
  refine AW.sg hE rfl (bd z.Hidden pl.Hidden (cs:=[_,_,_,_,_,_,_,_,_,_,_]) rfl (sto sz.Hidden rfl rfl rfl rfl rfl (nb9 rfl) (cells2:=[_,_,_,_,_,_,_,_,_,_,_]) rfl (asD rfl (OL.nil ?_))))
  exact AW.ret (RetQ.r ⟨_,.cellA rfl rfl ag.Hidden (nb9 rfl) (.tmp rfl .nil),_,.cons (.ag (.cons (.le vR) (.cons (.le vR) (.cons (.le vR) (.cons (.le vR) (.cons (.le vR) (.cons (.le vR) (.cons (.le vR) (.cons (.le vR) (.cons (.le vR) (.cons (.le vR) (.cons (.le vR) .nil)))))))))))) (.cons (.le vR) .nil),rfl⟩)
set_option maxRecDepth 8000 in
set_option maxHeartbeats 3200000 in
theorem AutomatonNone {h0 h:HM}(hv:FSpec P F.hmm_Valid [vHM h0] (.d (dI 0)))(hem:FSpec P F.hmm_Emitting [vHM h0] (.tup [.ag [.d (dI 0),.d (dI 0),.d (dB false),.mt,.mt,.mt,.mt,.mt,.mt,.mt,.mt],.d (dI 1)]))(hsy:h0.sym=h.sym):FSpec P F.hmm_Automaton [vHM h0] (.tup [vAu (oneAu h.sym),.d (dI 0)]):=by
 refine FSpec.intro fn.hmm_Automaton (by rfl) (by rfl) (nb9 (by rfl)) fun E hE=>(AW.sg hE rfl (bxA rfl rfl fun b1=>(al z.Auto rfl fun b2=>(asD rfl (OL.nil (AW.seq (AW.sg hE rfl ?_)))))))
 refine ldPA ag.Hidden rfl rfl (vs:=[_,_,_,_,_,_,_,_,_,_,_]) rfl (nb9 rfl) (clv rfl vL (hv) (asD rfl (OL.nil (AW.sg hE rfl (mvD rfl (c_neq rfl rfl (c:=false) (by exact cne_f (by omega)) (OL.nil ?_)))))))
 refine cnF rfl ?_
 refine AW.skip (AW.seq (AW.region_planT (valM4 h0 b1) ownM4 (telM4 h0 b1) 11 order_free (by rw [hE];rfl) (by rfl) (by kernel_rfl) (by kernel_rfl) ?_ ?_))
 ·refine casM4 ?_ ?_ ?_ ?_ ?_ ?_ ?_ ?_ ?_ ?_ ?_
  ·exact fun β L c9=>⟨_,rfl,.inl (OG.of_OL (bd z.Ring pl.Ring (cs:=[_,_]) rfl ⟨β,pG_put (d:=21) (i:=0) rfl (fun t ht=>ownM4_inj ht) (lt_size 12 c9.size rfl (by decide)) (mfT_same (lt_size 12 c9.size rfl (by decide)) (by rfl))⟩))⟩
  ·exact fun β L c9=>⟨_,rfl,.inl (OG.of_OL (faP fd.Hidden_0 (b:=b1) (o:=0) (id:=1) ((pG_old rfl).trans rfl) rfl ⟨β,pG_put (d:=22) (i:=1) rfl (fun t ht=>ownM4_inj ht) (lt_size 12 c9.size rfl (by decide)) (mfT_same (lt_size 12 c9.size rfl (by decide)) (by rfl))⟩))⟩
  ·exact fun β L c9=>⟨_,rfl,.inl (OG.of_OL (ldPC ce.int (id:=1) (b:=b1) (o:=0) (pG_new rfl (come_dep (j:=1) c9 (by kernel_rfl))) ((pG_M (mfT_skip (show (1:Nat)≠26 by decide) (mfT_skip (show (1:Nat)≠29 by decide) (mfT_skip (show (1:Nat)≠5 by decide) rfl)))):_=some (.box b1 T.Hidden (cellsHM h0))) rfl ⟨β,pG_put (d:=23) (i:=2) rfl (fun t ht=>ownM4_inj ht) (lt_size 12 c9.size rfl (by decide)) (mfT_same (lt_size 12 c9.size rfl (by decide)) (by rfl))⟩))⟩
  ·exact fun β L c9=>⟨_,rfl,.inl (OG.of_OL (clv rfl .nil hmm_one ⟨β,pG_put (d:=24) (i:=3) rfl (fun t ht=>ownM4_inj ht) (lt_size 12 c9.size rfl (by decide)) (mfT_same (lt_size 12 c9.size rfl (by decide)) (by rfl))⟩))⟩
  ·exact fun β L c9=>⟨_,rfl,.inl (OG.of_OL (clv rfl (.cons (vle_of_eq (pG_new rfl (come_dep (j:=3) c9 (by kernel_rfl)))) .nil) (hmm_weightW (q:=1)) ⟨β,pG_put (d:=25) (i:=4) rfl (fun t ht=>ownM4_inj ht) (lt_size 12 c9.size rfl (by decide)) (mfT_same (lt_size 12 c9.size rfl (by decide)) (by rfl))⟩))⟩
  ·exact fun β L c9=>⟨_,rfl,.inl (OG.of_OL (lt1O (y:=dW 1) sl.Weights (vd_to (pG_new rfl (come_dep (j:=4) c9 (by kernel_rfl))) vd_w) rfl (by decide) (pG_M (mfT_no (by exact c9.no) (mfT_skip (show (26:Nat)≠29 by decide) (mfT_skip (show (26:Nat)≠5 by decide) rfl)))) fun b8=>⟨upd β 26 (b8,0),pG_set (d:=26) (i:=5) (x:=(b8,0)) rfl (fun t ht=>ownM4_inj ht) (lt_size 12 c9.size rfl (by decide)) rfl (mfT_here (lt_size 12 c9.size rfl (by decide)) rfl rfl rfl c9.no (by rfl) (List.forall_mem_cons.2 ⟨(by exact fun _ _=>rfl),(List.forall_mem_cons.2 ⟨(by exact fun _ _=>rfl),(fun y hy=>absurd hy List.not_mem_nil)⟩)⟩)) (fun t j ho hl=>by unfold ownM4 at ho;split at ho <;> cases ho <;> first|rfl|(rw [c9.no] at hl;cases hl)|exact come_notT c9 (by kernel_rfl) hl)⟩))⟩
  ·exact fun β L c9=>⟨_,rfl,.inl (OG.of_OL (clv rfl .nil hmm_one ⟨β,pG_put (d:=27) (i:=6) rfl (fun t ht=>ownM4_inj ht) (lt_size 12 c9.size rfl (by decide)) (mfT_same (lt_size 12 c9.size rfl (by decide)) (by rfl))⟩))⟩
  ·exact fun β L c9=>⟨_,rfl,.inl (OG.of_OL (clv rfl (.cons (vle_of_eq (pG_new rfl (come_dep (j:=6) c9 (by kernel_rfl)))) .nil) (hmm_weightW (q:=1)) ⟨β,pG_put (d:=28) (i:=7) rfl (fun t ht=>ownM4_inj ht) (lt_size 12 c9.size rfl (by decide)) (mfT_same (lt_size 12 c9.size rfl (by decide)) (by rfl))⟩))⟩
  ·exact fun β L c9=>⟨_,rfl,.inl (OG.of_OL (lt1O (y:=dW 1) sl.Weights (vd_to (pG_new rfl (come_dep (j:=7) c9 (by kernel_rfl))) vd_w) rfl (by decide) (pG_M (mfT_skip (show (29:Nat)≠26 by decide) (mfT_no (by exact c9.no) (mfT_skip (show (29:Nat)≠5 by decide) rfl)))) fun b8=>⟨upd β 29 (b8,0),pG_set (d:=29) (i:=8) (x:=(b8,0)) rfl (fun t ht=>ownM4_inj ht) (lt_size 12 c9.size rfl (by decide)) rfl (mfT_pass (lt_size 12 c9.size rfl (by decide)) (show (5:Nat)≠8 by decide) (.inl (show (26:Nat)≠29 by decide)) (by exact fun _=>rfl) (mfT_here (lt_size 12 c9.size rfl (by decide)) rfl rfl rfl c9.no (by rfl) (List.forall_mem_cons.2 ⟨(by exact fun _ _=>rfl),(fun y hy=>absurd hy List.not_mem_nil)⟩))) (fun t j ho hl=>by unfold ownM4 at ho;split at ho <;> cases ho <;> first|rfl|(rw [c9.no] at hl;cases hl)|exact come_notT c9 (by kernel_rfl) hl)⟩))⟩
  ·exact fun β L c9=>⟨_,rfl,.inl (OG.of_OL (bd2 (cs:=[_,_,_,_,_,_,_]) z.Auto pl.Auto (pvC (pG_new rfl (come_dep (j:=0) c9 (by kernel_rfl))) (pvC (pG_new rfl (come_dep (j:=2) c9 (by kernel_rfl))) (pvC rfl (pvC (pG_new rfl (come_dep (j:=5) c9 (by kernel_rfl))) (pvC (pG_new rfl (come_dep (j:=8) c9 (by kernel_rfl))) pvN))))) (by rfl) ⟨β,pG_put (d:=30) (i:=9) rfl (fun t ht=>ownM4_inj ht) (lt_size 12 c9.size rfl (by decide)) (mfT_same (lt_size 12 c9.size rfl (by decide)) (by rfl))⟩))⟩
  ·exact fun β L c9=>⟨_,rfl,.inl (OG.of_OL (al z.Auto (pG_M (mfT_skip (show (5:Nat)≠26 by decide) (mfT_skip (show (5:Nat)≠29 by decide) (mfT_no (by exact c9.no) rfl)))) fun b8=>⟨upd β 5 (b8,0),pG_set (d:=5) (i:=10) (x:=(b8,0)) rfl (fun t ht=>ownM4_inj ht) (lt_size 12 c9.size rfl (by decide)) rfl (mfT_pass (lt_size 12 c9.size rfl (by decide)) (show (5:Nat)≠10 by decide) (.inl (show (26:Nat)≠5 by decide)) (by exact fun _=>rfl) (mfT_pass (lt_size 12 c9.size rfl (by decide)) (show (8:Nat)≠10 by decide) (.inl (show (29:Nat)≠5 by decide)) (by exact fun _=>rfl) (mfT_here (lt_size 12 c9.size rfl (by decide)) rfl rfl rfl c9.no (by rfl) (fun y hy=>absurd hy List.not_mem_nil)))) (fun t j ho hl=>by unfold ownM4 at ho;split at ho <;> cases ho <;> first|rfl|(rw [c9.no] at hl;cases hl)|exact come_notT c9 (by kernel_rfl) hl)⟩))⟩
 refine fun β L c9 hA=>⟨_,rfl,.inl (OG.of_OL (sto sz.Auto (pG_new rfl (hA 10 (by decide))) (pG_new rfl (hA 9 (by decide))) rfl (pG_M (mfT_skip (show (5:Nat)≠26 by decide) (mfT_skip (show (5:Nat)≠29 by decide) (mfT_yes (hA 10 (by decide)) rfl rfl)))) rfl (nb9 rfl) (cells2:=[_,_,_,_,_,_,_]) rfl ?_))⟩
 refine OL.nil ?_
 refine AW.to [(1,.ptr 1 b1 0),(2,.ptr 2 b2 0),(5,.ptr 5 (β 5).1 0)] [(1,.box b1 T.Hidden (cellsHM h0)),(2,.box b2 T.Auto [.d (dI 0),.mt,.d (dI 0),.d (dI 0),.mt,.mt,.mt]),(5,.box (β 5).1 T.Auto [.d (dI 1),.mt,.d (dI h0.sym),.d (dI 1),.osl 26 (β 26).1 1 1,.osl 29 (β 29).1 1 1,.mt]),(26,.row (β 26).1 1 T.Weight 8 [dW 1]),(29,.row (β 29).1 1 T.Weight 8 [dW 1])] (.cons (vle_of_eq (sto_rho ((pG_old rfl).trans rfl))) (.cons (vle_of_eq (sto_rho ((pG_old rfl).trans rfl))) (.cons (vle_of_eq (sto_rho (pG_new rfl (hA 10 (by decide))))) (.nil)))) (.cons (sto_old (show (1:Nat)≠5 by decide) (pG_M (mfT_skip (show (1:Nat)≠26 by decide) (mfT_skip (show (1:Nat)≠29 by decide) (mfT_skip (show (1:Nat)≠5 by decide) rfl))))) (.cons (sto_old (show (2:Nat)≠5 by decide) (pG_M (mfT_skip (show (2:Nat)≠26 by decide) (mfT_skip (show (2:Nat)≠29 by decide) (mfT_skip (show (2:Nat)≠5 by decide) rfl))))) (.cons sto_new (.cons (sto_old (show (26:Nat)≠5 by decide) (pG_M (mfT_yes (hA 5 (by decide)) rfl rfl))) (.cons (sto_old (show (29:Nat)≠5 by decide) (pG_M (mfT_skip (show (29:Nat)≠26 by decide) (mfT_yes (hA 8 (by decide)) rfl rfl)))) (.nil)))))) ?_
 generalize (β 5).1=b5
 generalize (β 26).1=p1
 generalize (β 29).1=p2
 refine AW.rename 26 65 rfl (AW.rename 29 76 rfl (AW.boxW 5 [.d (dI 1),.mt,.d (dI h.sym),.d (dI 1),.osl 65 p1 1 1,.osl 76 p2 1 1,.mt] rfl (.cons vR (.cons vR (.cons (vle_of_eq (by rw [hsy])) (.cons vR (.cons VLe.osl (.cons VLe.osl .rq1)))))) (AW.sg hE rfl (ldPA ag.Hidden rfl rfl (vs:=[_,_,_,_,_,_,_,_,_,_,_]) rfl (nb9 rfl) (clv rfl vL (hem) (mvT rfl (ex rfl rfl ?_)))))))
 refine ex rfl rfl (al z.Hidden rfl fun b6=>(sto sz.Hidden rfl rfl rfl rfl rfl (nb9 rfl) (cells2:=[_,_,_,_,_,_,_,_,_,_,_]) rfl (asD rfl (OL.nil (AW.seq (AW.sg hE rfl (mvD rfl ?_)))))))
 refine c_neq rfl rfl (c:=true) (by exact cne_t (by omega)) (OL.nil (cnT rfl ?_))
 refine AW.seq ?_
 refine AW.freeze 65 rfl (AW.boxW 5 [.d (dI 1),.d (.sl []),.d (dI h.sym),.d (dI 1),.d (dWs [1]),.osl 76 p2 1 1,.mt] rfl (.cons vR (.cons VLe.mt (.cons vR (.cons vR (.cons (frz_osl rfl rfl) .rq2))))) ?_)
 refine AW.freeze 76 rfl (AW.boxW 5 [.d (dI 1),.d (.sl []),.d (dI h.sym),.d (dI 1),.d (dWs [1]),.d (dWs [1]),.d (dArcs [])] rfl (.cons vR (.cons vR (.cons vR (.cons vR (.cons vR (.cons (frz_osl rfl rfl) (.cons VLe.mt .nil))))))) ?_)
 refine AW.rg hE rfl (ldPA ag.Auto rfl rfl (vs:=[_,_,_,_,_,_,_]) rfl (nb9 rfl) (sto sz.Auto rfl rfl rfl rfl rfl (nb9 rfl) (cells2:=[_,_,_,_,_,_,_]) rfl (asD rfl (OL.nil ?_))))
 exact AW.ret (RetQ.r ⟨_,.cellA rfl rfl ag.Auto (nb9 rfl) (.tmp rfl .nil),_,.cons (.ag (.cons (.le vR) (.cons (.le vR) (.cons (.le vR) (.cons (.le vR) (.cons (.le vR) (.cons (.le vR) (.cons (.le vR) .nil)))))))) (.cons (.le vR) .nil),rfl⟩)
end Go.Proofs.YteiohkpjgcioaaaGreatDoor
