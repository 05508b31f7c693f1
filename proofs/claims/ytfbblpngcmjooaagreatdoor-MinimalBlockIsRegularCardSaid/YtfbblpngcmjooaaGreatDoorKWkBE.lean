/-
  Walks of the laws of chapter 24, part 2: the rows of layer 22 with their multipliers; MinimalBlockIsRegular (printed by mk2.py).
-/
import Derived.Test.YtfbblpngcmjooaaGreatDoorKAlg45
set_option linter.unusedVariables false
set_option linter.unusedSimpArgs false
namespace Go.Proofs.YtfbblpngcmjooaaGreatDoor
open Go Go.AL
noncomputable def rowsK (n:Nat)(vs:List (List Rat)):Nat→List SRow
 | 0=>[]
 | k+1=>rowsK n vs k++[⟨redV (rowsK n vs k) (vs.getD k []),(redK (rowsK n vs k) (vs.getD k []) (List.replicate n 0)).set k 1,firstP (redV (rowsK n vs k) (vs.getD k []))⟩]
theorem rowsK_len {n:Nat}{vs:List (List Rat)}:∀ k,(rowsK n vs k).length=k
 | 0=>rfl
 | k+1=>by rw [rowsK,la9,rowsK_len k];rfl
def GrowB (vs:List (List Rat)):Prop:=∀ i,i<vs.length→growsS (rowsB (vs.take i)) (vs.getD i [])=true
theorem rowsB_succ {vs:List (List Rat)}{k:Nat}(hk:k<vs.length)(g:GrowB vs):rowsB (vs.take (k+1))=rowsB (vs.take k)++[newR (rowsB (vs.take k)) (vs.getD k [])]:=by
 rw [take_snoc9 [] hk,rowsB_snoc]
 exact if_pos (g k hk)
theorem rowsK_strip {n:Nat}{vs:List (List Rat)}(g:GrowB vs):∀ k,k≤vs.length→(rowsK n vs k).map stripR=(rowsB (vs.take k)).map stripR
 | 0,_=>rfl
 | k+1,h=>by
  have ih:=rowsK_strip (n:=n) g k (by omega)
  have e:redV (rowsK n vs k) (vs.getD k [])=redV (rowsB (vs.take k)) (vs.getD k []):=by rw [← redV_strip,ih,redV_strip]
  rw [rowsK,rowsB_succ (by omega) g,List.map_append,List.map_append,ih]
  show _++[stripR ⟨_,_,_⟩]=_++[stripR (newR _ _)]
  unfold stripR newR
  rw [e]
theorem rowsK_red {n:Nat}{vs:List (List Rat)}(g:GrowB vs){k:Nat}(hk:k≤vs.length)(w:List Rat):redV (rowsK n vs k) w=redV (rowsB (vs.take k)) w:=by rw [← redV_strip,rowsK_strip g k hk,redV_strip]
theorem set_getD {l:List Rat}{k i:Nat}{x:Rat}:(l.set k x).getD i 0=x ∨ (l.set k x).getD i 0=l.getD i 0:=by
 rw [gd9,gd9,List.getElem?_set]
 by_cases h:k=i
 ·rw [if_pos h]
  by_cases h2:k<l.length
  ·rw [if_pos h2];exact .inl rfl
  ·rw [if_neg h2,List.getElem?_eq_none (by omega)];exact .inr rfl
 ·rw [if_neg h];exact .inr rfl
theorem rowsK_ok {n:Nat}{vs:List (List Rat)}(g:GrowB vs)(hl:∀ v,v ∈ vs→v.length=n)(n6:vs.length≤6)(zv:∀ v,v ∈ vs→∀ i,sz (v.getD i 0)≤16777215):∀ k,k≤vs.length→RowsK n vs.length (rowsK vs.length vs k)
 | 0,_=>⟨fun _ h=>(by cases h),fun _ h=>(by cases h),fun _ h=>(by cases h),fun k r h=>(by cases h),Nat.zero_le _⟩
 | k + 1, h => by
  have R:=rowsK_ok g hl n6 zv k (by omega)
  have hm:=getD_mem (l:=vs) (i:=k) (by omega) []
  have hvl:=hl _ hm
  have hz:=zv _ hm
  have hg:growsS (rowsK vs.length vs k) (vs.getD k [])=true:=by
   have:=g k (by omega)
   unfold growsS at this ⊢
   rwa [rowsK_red g (by omega)]
  have hp:firstP (redV (rowsK vs.length vs k) (vs.getD k []))<(redV (rowsK vs.length vs k) (vs.getD k [])).length:=growsS_lead.1 hg
  have hrl:(redV (rowsK vs.length vs k) (vs.getD k [])).length=n:=(redV_len _ _).trans hvl
  refine ⟨fun r hr=>?_,fun r hr=>?_,fun r hr=>?_,fun j r hj=>?_,by rw [rowsK_len];omega⟩
  ·rcases List.mem_append.1 hr with hr|hr
   ·exact R.len r hr
   ·rw [List.mem_singleton.1 hr];exact hrl
  ·rcases List.mem_append.1 hr with hr|hr
   ·exact R.piv r hr
   ·rw [List.mem_singleton.1 hr];exact ⟨rfl,by rw [← hrl];exact hp,firstP_nz hp⟩
  ·rcases List.mem_append.1 hr with hr|hr
   ·exact R.cl r hr
   ·rw [List.mem_singleton.1 hr];show ((redK _ _ _).set k 1).length=_;rw [List.length_set,redK_len,List.length_replicate]
  ·rw [rowsK] at hj
   have hkl:(rowsK vs.length vs k).length=k:=rowsK_len k
   rcases Nat.lt_or_ge j k with hjk|hjk
   ·rw [List.getElem?_append_left (by omega)] at hj
    exact R.zr j r hj
   ·rw [List.getElem?_append_right (by omega),hkl] at hj
    obtain ⟨rfl⟩:j=k:=by
     rcases Nat.lt_or_ge 0 (j-k) with h1|h1
     ·rw [List.getElem?_eq_none (by simp;omega)] at hj;cases hj
     ·omega
    rw [Nat.sub_self] at hj
    cases hj
    refine ⟨fun i=>?_,fun i=>?_⟩
    ·have h1:=R.zr.red hz i
     rwa [hkl] at h1
    ·show sz (((redK _ _ _).set k 1).getD i 0)+1≤_
     have hb:1+1≤4 ^ k*(16777215+1):=Nat.le_trans (show 1+1≤16777215+1 by decide) (Nat.le_mul_of_pos_left _ (pow4_pos k))
     rcases set_getD (l:=redK (rowsK vs.length vs k) (vs.getD k []) (List.replicate vs.length 0)) (k:=k) (i:=i) (x:=1) with e|e
     ·rw [e,sz_one];exact hb
     ·rw [e]
      have h1:=redK_szJ (B:=16777215) (rowsK vs.length vs k) 0 (vs.getD k []) (List.replicate vs.length 0) (fun k r hk=>by rw [Nat.zero_add];exact R.zr k r hk) (fun i=>by rw [Nat.pow_zero,Nat.one_mul];have:=hz i;omega) (fun i=>by rw [Nat.pow_zero,Nat.one_mul,rep_zero,sz_zero];decide) i
      rw [Nat.zero_add,hkl] at h1
      exact h1
def ownRd:Nat→Option Nat
 | 42=>some 0
 | 43=>some 1
 | 44=>some 2
 | 45=>some 3
 | 46=>some 4
 | 47=>some 5
 | 48=>some 6
 | 49=>some 7
 | 50=>some 8
 | 51=>some 9
 | 52=>some 10
 | 53=>some 11
 | 54=>some 12
 | 55=>some 13
 | 56=>some 14
 | 57=>some 15
 | 58=>some 16
 | 59=>some 17
 | 60=>some 18
 | 61=>some 20
 | _=>none
theorem ownRd_inj {t i:Nat}(h:ownRd t=some i):t=[42,43,44,45,46,47,48,49,50,51,52,53,54,55,56,57,58,59,60,0,61].getD i 0:=by
 unfold ownRd at h
 split at h <;> first|(cases h;rfl)|cases h
noncomputable def valRd (v:List Rat)(N b c:Nat)(rs:List SRow)(k b7:Nat)(t:Nat)(β:Nat→Nat × Nat):V :=
 match t with
 | 42=>.ptr 7 b7 0
 | 43=>.d (dQs (redV (rs.take k) v))
 | 44=>.osl 1000 b rs.length c
 | 45=>.d (dI k)
 | 46=>.eptr 1000 b 2 k 0
 | 47=>.eptr 1000 b 2 k 0
 | 48=>.d (dQs (rs.getD k default).v)
 | 49=>.ag [.d (dB (ofQ (qotR (redV (rs.take k) v) (rs.getD k default))).neg),.d (u32s (ofQ (qotR (redV (rs.take k) v) (rs.getD k default))).num),.d (u32s (ofQ (qotR (redV (rs.take k) v) (rs.getD k default))).den)]
 | 50=>.d (dQs (lessQ (redV (rs.take k) v) (rs.getD k default).v (qotR (redV (rs.take k) v) (rs.getD k default))))
 | 51=>.ptr 7 b7 1
 | 52=>.d (dQs (redK (rs.take k) v (List.replicate N 0)))
 | 53=>.osl 1000 b rs.length c
 | 54=>.d (dI k)
 | 55=>.eptr 1000 b 2 k 0
 | 56=>.eptr 1000 b 2 k 1
 | 57=>.d (dQs (rs.getD k default).c)
 | 58=>.ag [.d (dB (ofQ (qotR (redV (rs.take k) v) (rs.getD k default))).neg),.d (u32s (ofQ (qotR (redV (rs.take k) v) (rs.getD k default))).num),.d (u32s (ofQ (qotR (redV (rs.take k) v) (rs.getD k default))).den)]
 | 59=>.osl 59 (β 59).1 N (β 59).2
 | 60=>.ptr 7 b7 0
 | 61=>.ptr 7 b7 1
 | _=>.junk
noncomputable abbrev telRd (v:List Rat)(N b c:Nat)(rs:List SRow)(k b7:Nat):List Tell:=[⟨7,19,fun β=>.box b7 T.row [.d (dQs (lessQ (redV (rs.take k) v) (rs.getD k default).v (qotR (redV (rs.take k) v) (rs.getD k default)))),.d (dQs (redK (rs.take k) v (List.replicate N 0)))]⟩,⟨59,17,fun β=>.row (β 59).1 (β 59).2 T.Rat 3 ((lessQ (redK (rs.take k) v (List.replicate N 0)) (rs.getD k default).c (qotR (redV (rs.take k) v) (rs.getD k default))).map dQ)⟩]
theorem casRd {p:Nat→Prop}(h0:p 0)(h1:p 1)(h2:p 2)(h3:p 3)(h4:p 4)(h5:p 5)(h6:p 6)(h7:p 7)(h8:p 8)(h9:p 9)(h10:p 10)(h11:p 11)(h12:p 12)(h13:p 13)(h14:p 14)(h15:p 15)(h16:p 16)(h17:p 17)(h18:p 18)(h19:p 19)(h20:p 20):∀ i,i<21→p i:=fun i hi=>by
 have:i=0 ∨ i=1 ∨ i=2 ∨ i=3 ∨ i=4 ∨ i=5 ∨ i=6 ∨ i=7 ∨ i=8 ∨ i=9 ∨ i=10 ∨ i=11 ∨ i=12 ∨ i=13 ∨ i=14 ∨ i=15 ∨ i=16 ∨ i=17 ∨ i=18 ∨ i=19 ∨ i=20:=by omega
 rcases this with rfl|rfl|rfl|rfl|rfl|rfl|rfl|rfl|rfl|rfl|rfl|rfl|rfl|rfl|rfl|rfl|rfl|rfl|rfl|rfl|rfl <;> assumption
theorem ser_sz4 {m:Mach}(z:m.Sz 24){w:List Int}(hw:w.length≤4):sz (wtM m w)≤16777215:=by
 have bound:∀ i,sz ((vecM m w).getD i 0)≤117649:=fun i=>by
  have h:=vecM_szE z w.length w rfl i
  have h1:7 ^ w.length≤2401:=Nat.pow_le_pow_right (n:=7) (by decide) hw
  have h2:7 ^ w.length*(2*24+1)≤2401*49:=Nat.mul_le_mul_right _ h1
  omega
 have h:=dot_sz (n:=m.n) (u:=vf (vecM m w)) (v:=vf m.fin) z.n6 bound z.fin
 exact Nat.le_trans h (by decide)
structure Blk24 (m:MModel):Prop where
 len:∀ v,v ∈ (preM (machL [autoOf m 2 3])).map (blockV (serA (autoOf m 2 3)) (sufM (machL [autoOf m 2 3])))→v.length=(sufM (machL [autoOf m 2 3])).length
 sz:∀ v,v ∈ (preM (machL [autoOf m 2 3])).map (blockV (serA (autoOf m 2 3)) (sufM (machL [autoOf m 2 3])))→∀ i,Go.AL.sz (v.getD i 0)≤16777215
 grow:GrowB ((preM (machL [autoOf m 2 3])).map (blockV (serA (autoOf m 2 3)) (sufM (machL [autoOf m 2 3]))))
theorem blk24 (m:MModel):Blk24 m:=by
 obtain ⟨pk,sk,pl,sl9,r3⟩:=wds m
 obtain ⟨_,_,z6,_⟩:=mach1 (take_auto (m:=m)) (by decide)
 have hz:∀ u,u ∈ preM (machL [autoOf m 2 3])→∀ j,sz ((blockV (serA (autoOf m 2 3)) (sufM (machL [autoOf m 2 3])) u).getD j 0)≤16777215:=fun u hu j=>by
  rcases Nat.lt_or_ge j (sufM (machL [autoOf m 2 3])).length with hj|hj
  ·rw [block_get hj]
   refine ser_sz4 z6 ?_
   have h1:=pk.short u hu
   have h2:=sk.short _ (getD_mem hj [])
   rw [la9]
   omega
  ·rw [getD_outQ (by unfold blockV;rw [lm9];exact hj),sz_zero];decide
 refine ⟨fun v hv=>?_,fun v hv=>?_,fun i hi=>?_⟩
 ·obtain ⟨u,_,rfl⟩:=List.mem_map.1 hv
  exact lm9 ..
 ·obtain ⟨u,hu,rfl⟩:=List.mem_map.1 hv
  exact hz u hu
 ·rw [lm9] at hi
  have h:=block_grows (s:=serA (autoOf m 2 3)) (B:=16777215) pk.first sk.first (by decide) hz hi
  rw [← List.map_take]
  have e:((preM (machL [autoOf m 2 3])).map (blockV (serA (autoOf m 2 3)) (sufM (machL [autoOf m 2 3])))).getD i []=blockV (serA (autoOf m 2 3)) (sufM (machL [autoOf m 2 3])) ((preM (machL [autoOf m 2 3])).getD i []):=by
   rw [gd9,List.getElem?_map,ge9 hi,gd9,ge9 hi];rfl
  rw [e]
  exact h
theorem mapG {α β:Type}{f:α→β}{d:α}{e:β}{l:List α}{i:Nat}(hi:i<l.length):(l.map f).getD i e=f (l.getD i d):=by
 rw [gd9,List.getElem?_map,ge9 hi,gd9,ge9 hi];rfl
theorem blockV_snoc {s:List Int→Rat}{S:List (List Int)}{u:List Int}{k:Nat}(hk:k<S.length):(blockV s S u).take (k+1)=(blockV s S u).take k++[s (u++S.getD k [])]:=by
 rw [take_snoc9 0 (by unfold blockV;rw [lm9];exact hk),block_get hk]
set_option maxHeartbeats 800000 in
theorem r22lessR {v w:List Rat}{c:Rat}(nl:v.length≤64)(hw:v.length≤w.length)(zv:∀ i,sz (v.getD i 0)≤17179869183)(zw:∀ i,sz (w.getD i 0)≤17179869183)(zc:sz c≤34359738366):FSpecR P F.ref22_less [.d (dQs v),.d (dQs w),vQ c] v.length T.Rat 3 ((lessQ v w c).map dQ):=by
 have hll:=lessQ_len (v:=v) (w:=w) (c:=c)
 refine FSpecR.intro fn.ref22_less (by rfl) (by rfl) (nb9 (by rfl)) 6 rfl fun E hE=>(AW.sg hE rfl (bxA rfl rfl fun b5=>(asM rfl (OL.nil (AW.sg hE rfl (asM rfl (OL.nil ?_)))))))
 refine AW.seq (AW.seq (AW.own 7 28 T.Rat 3 rfl rfl (AW.rg hE rfl (asD rfl (OL.nil (AW.block ?_))))))
 refine AW.whileK (α:=Nat × Nat × Nat) [(0,_),(1,_),(5,_),(6,_)] [(5,_)] (fun (i,bq,cq)=>[(7,.osl 28 bq i cq),(8,.d (dI i))]) (fun (i,bq,cq)=>[(28,.row bq cq T.Rat 3 ((lessT v w c i).map dQ))]) (fun (i,bq,cq)=>i≤v.length) (fun (i,bq,cq)=>v.length-i) (0,0,0) (.cons (knD rfl) (.cons (knD rfl) (.cons (knP rfl) (.cons (knM rfl) .nil)))) (.cons (owB rfl) .nil) ⟨Nat.zero_le _,.rq2,.cons rfl .nil⟩ ?_
 rintro ⟨i,bq,cq⟩ h1
 have h1:i≤v.length:=h1
 have z1:=zv i
 have z2:=zw i
 have z3:=sz_mul (w.getD i 0) c
 refine AW.seq (AW.sg hE rfl (mvD rfl (mvD rfl (lnL sl.Rats rfl rfl (c_lss rfl rfl rfl (OL.nil (AW.cond rfl (fun h12=>?_) (fun h12=>?_))))))))
 ·try simp only [dx9] at h12
  refine AW.skip (AW.seq (AW.block (AW.dg 2 [0,1,2,3,4,5,6,7,8,9,10,11,12,13,14] order_free hE rfl (by kernel_rfl) (OI.of_OL (os:=[_,_,_,_,_,_,_,_,_,_,_,_,_,_,_]) rfl ?_))))
  refine mvO rfl (mvD rfl (mvD rfl (ixLn sl.Rats 0 rfl rfl (by omega) rfl rfl (ldRA ag.Rat rfl (vs:=[_,_,_]) rfl (nb9 rfl) (mvD rfl (mvD rfl (ixLn sl.Rats 0 rfl rfl (by omega) rfl rfl ?_)))))))
  refine ldRA ag.Rat rfl (vs:=[_,_,_]) rfl (nb9 rfl) (ldPA ag.Rat rfl rfl (vs:=[_,_,_]) rfl (nb9 rfl) (clv rfl (VLes.refl _) (ref_MulQ (x:=w.getD i 0) (y:=c) (by omega) (by omega)) (clv rfl (VLes.refl _) (ref_SubQ (x:=v.getD i 0) (y:=w.getD i 0*c) (by omega) (by omega)) (lt1 (y:=dQ (v.getD i 0-w.getD i 0*c)) sl.Rats vd_q rfl (by decide) ?_))))
  refine apO sl.Rats rfl rfl rfl (by rw [lm9,List.length_take];omega) (VC.d _) (fun y hy=>by rw [List.mem_singleton.1 hy];rfl) (by simp only [ls9];omega) (by simp only [ls9];omega) (.inr rfl) (ys:=(lessT v w c (i+1)).map dQ) (by rw [lessT_snoc (by omega),List.map_append];rfl) (n2:=i+1) rfl fun b28 c28=>?_
  refine asO rfl (OL.nil (AW.rg hE rfl (mvD rfl (add_i64 rfl rfl (by omega) (asD rfl (OL.nil ?_))))))
  exact AW.again (x:=(i,bq,cq)) (i+1,b28,c28) (by (simp only [];omega)) ⟨by omega,Knows.app .rq4 .rq2,Owns.app (.cons rfl .nil) (.cons rfl .nil)⟩
 ·try simp only [dx9] at h12
  refine AW.exit (AW.seq ?_)
  obtain rfl:i=v.length:=by omega
  refine AW.rg hE rfl (mvO rfl (asO rfl (OL.nil ?_)))
  exact AW.ret ⟨.inr rfl,28,bq,cq,(lessT v w c v.length).map dQ,rfl,rfl,by rw [show lessT v w c v.length=lessQ v w c from List.take_of_length_le (by omega),lm9];omega,by rw [show lessT v w c v.length=lessQ v w c from List.take_of_length_le (by omega)];exact List.take_of_length_le (by rw [lm9];omega)⟩
set_option maxRecDepth 8000 in
set_option maxHeartbeats 3200000 in
theorem r22reduceE {v:List Rat}{n N b c:Nat}{rs:List SRow}(R:RowsK n N rs)(hv:v.length=n)(n6:n≤6)(N6:N≤6)(zv:∀ i,sz (v.getD i 0)≤16777215):FSpecE P F.ref22_reduce [.osl 1000 b rs.length c,.d (dQs v),.d (dI N)] (mem1 1000 (rowSK b c rs)) (fun z:Nat × Nat=>.ag [.d (dQs (redV rs v)),.osl 1001 z.1 N z.2]) (fun z=>mem2 1000 (rowSK b c rs) 1001 (.row z.1 z.2 T.Rat 3 ((redK rs v (List.replicate N 0)).map dQ))) (fun _=>True):=by
 have hle:=R.le
 refine FSpecE.intro fn.ref22_reduce (by rfl) (by rfl) (nb9 (by rfl)) fun E hE=>(AW.sg hE rfl (al z.row rfl fun b6=>(OL.nil (AW.seq (AW.dg 32 [0,1,2,3,4,5,6] order_free hE rfl (by kernel_rfl) (OI.of_OL (os:=[_,_,_,_,_,_,_]) rfl ?_))))))
 refine mvD rfl (clv rfl (VLes.refl _) (r22take (l:=v) (by omega) (fun i=>Nat.le_trans (zv i) (by decide))) (mvD rfl (mkLd dQ 0 sl.Rats z.Rat vcs_q0 (n:=N) (cp:=N) rfl rfl (Nat.le_refl _) (by omega) (by omega) rfl rfl fun b14=>(bd2 (cs:=[_,_]) z.row pl.row (pvC (evD rfl) (pvC (evO rfl) pvN)) (by rfl) (al z.row rfl fun b7=>(sto sz.row rfl rfl rfl rfl rfl (nb9 rfl) (cells2:=[_,_]) rfl (OL.nil ?_)))))))
 refine AW.seq (AW.seq (AW.rename 14 59 rfl (AW.boxW 7 [.d (dQs v),.osl 59 b14 N N] rfl (.cons vR (.cons VLe.osl .nil)) (AW.rg hE rfl (asD rfl (OL.nil (AW.block ?_)))))))
 refine AW.whileK (α:=Nat × Nat × Nat) [(0,_),(6,_),(7,_)] [(6,_),(1000,_)] (fun (k,bt,ct)=>[(8,.d (dI k))]) (fun (k,bt,ct)=>[(7,.box b7 T.row [.d (dQs (redV (rs.take k) v)),.osl 59 bt N ct]),(59,.row bt ct T.Rat 3 ((redK (rs.take k) v (List.replicate N 0)).map dQ))]) (fun (k,bt,ct)=>k≤rs.length) (fun (k,bt,ct)=>rs.length-k) (0,b14,N) (.cons (knO rfl) (.cons (knP rfl) (.cons (knP rfl) .nil))) (.cons (owB rfl) (.cons (owR rfl) .nil)) ⟨Nat.zero_le _,.rq1,.cons rfl (.cons rfl .nil)⟩ ?_
 rintro ⟨k,bt,ct⟩ h1
 have h1:k≤rs.length:=h1
 have hwl:(redV (rs.take k) v).length=v.length:=redV_len _ _
 have htl:(redK (rs.take k) v (List.replicate N 0)).length=N:=by rw [redK_len,List.length_replicate]
 refine AW.seq (AW.sg hE rfl (mvD rfl (mvO rfl (lnO sl.rows rfl rfl (c_lss rfl rfl rfl (OL.nil (AW.cond rfl (fun h19=>?_) (fun h19=>?_))))))))
 ·try simp only [dx9] at h19
  refine AW.skip (AW.seq (AW.block (AW.seq ?_)))
  have hkr:k<rs.length:=by omega
  obtain ⟨zw,zt,zr,zc⟩:=R.bounds (w:=v) hkr zv
  obtain ⟨hp1,hp2,hp3⟩:=R.piv _ (getDS_mem hkr)
  have hrl:=R.len _ (getDS_mem hkr)
  have hcl:=R.cl _ (getDS_mem hkr)
  have zq:=sz_div ((redV (rs.take k) v).getD (rs.getD k default).p 0) ((rs.getD k default).v.getD (rs.getD k default).p 0)
  have zq1:=zw (rs.getD k default).p
  have zq2:=zr (rs.getD k default).p
  have zqq:sz (qotR (redV (rs.take k) v) (rs.getD k default))≤34359738366:=Nat.le_trans zq (by omega)
  have hpl:leadI (rs.getD k default).v=((rs.getD k default).p:Int):=(leadI_some (by rw [← hp1];omega)).trans (by rw [← hp1])
  refine AW.rg hE rfl (mvO rfl (mvD rfl (ixOn sl.rows rfl rfl hkr (faE fd.row_0 rfl rfl (ldEC ce.Rats (by decide) rfl rfl (rowSK_el hkr) (d:=dQs (rs.getD k default).v) rfl (clv rfl (VLes.refl _) (r22lead (v:=(rs.getD k default).v) (by omega) (fun i=>Nat.le_trans (zr i) (by decide))) ?_))))))
  rw [hpl]
  refine asD rfl (OL.nil (AW.seq (AW.dg 1 [0,1,2,3,4,5,6,7,8,9,10,11,12,13,14,15] order_free hE rfl (by kernel_rfl) (OI.of_OL (os:=[_,_,_,_,_,_,_,_,_,_,_,_,_,_,_,_]) rfl ?_))))
  refine faP fd.row_0 rfl rfl (ldPC ce.Rats rfl rfl rfl (mvD rfl (ixLn sl.Rats 0 rfl rfl (by omega) rfl rfl (ldRA ag.Rat rfl (vs:=[_,_,_]) rfl (nb9 rfl) (mvO rfl (mvD rfl (ixOn sl.rows rfl rfl hkr ?_)))))))
  refine faE fd.row_0 rfl rfl (ldEC ce.Rats (by decide) rfl rfl (rowSK_el hkr) (d:=dQs (rs.getD k default).v) rfl (mvD rfl (ixLn sl.Rats 0 rfl rfl (by omega) rfl rfl (ldRA ag.Rat rfl (vs:=[_,_,_]) rfl (nb9 rfl) (clv rfl (VLes.refl _) (ref_QuoQ (x:=(redV (rs.take k) v).getD (rs.getD k default).p 0) (y:=(rs.getD k default).v.getD (rs.getD k default).p 0) (by omega) (by omega) hp3) ?_)))))
  rw [← qot_nz]
  refine al z.Rat rfl fun b10=>(sto sz.Rat rfl rfl rfl rfl rfl (nb9 rfl) (cells2:=[_,_,_]) rfl (OL.nil (AW.freeze 59 rfl (AW.boxW 7 [.d (dQs (redV (rs.take k) v)),.d (dQs (redK (rs.take k) v (List.replicate N 0)))] rfl (.cons vR (.cons (frz_osl (by rw [lm9,htl]) rfl) .nil)) ?_))))
  have hlv:=r22less (v:=(redV (rs.take k) v)) (w:=(rs.getD k default).v) (c:=(qotR (redV (rs.take k) v) (rs.getD k default))) (by omega) (by omega) zw zr zqq
  have hlc:FSpecR P F.ref22_less [.d (dQs (redK (rs.take k) v (List.replicate N 0))),.d (dQs (rs.getD k default).c),vQ (qotR (redV (rs.take k) v) (rs.getD k default))] N T.Rat 3 ((lessQ (redK (rs.take k) v (List.replicate N 0)) (rs.getD k default).c (qotR (redV (rs.take k) v) (rs.getD k default))).map dQ):=by
   have h:=r22lessR (v:=(redK (rs.take k) v (List.replicate N 0))) (w:=(rs.getD k default).c) (c:=(qotR (redV (rs.take k) v) (rs.getD k default))) (by omega) (by omega) zt zc zqq
   rwa [htl] at h
  refine AW.region_planT (valRd v N b c rs k b7) ownRd (telRd v N b c rs k b7) 21 order_free (by rw [hE];rfl) (by rfl) (by kernel_rfl) (by kernel_rfl) ?_ ?_
  ·refine casRd ?_ ?_ ?_ ?_ ?_ ?_ ?_ ?_ ?_ ?_ ?_ ?_ ?_ ?_ ?_ ?_ ?_ ?_ ?_ ?_ ?_
   ·exact fun β L c9=>⟨_,rfl,.inl (OG.of_OL (faP (b:=b7) (o:=0) (id:=7) fd.row_0 ((pG_old rfl).trans rfl) rfl ⟨β,pG_put (d:=42) (i:=0) rfl (fun t ht=>ownRd_inj ht) (lt_size 22 c9.size rfl (by decide)) (mfT_same (lt_size 22 c9.size rfl (by decide)) (by rfl))⟩))⟩
   ·exact fun β L c9=>⟨_,rfl,.inl (OG.of_OL (ldPC ce.Rats (pG_new rfl (come_dep (j:=0) c9 (by kernel_rfl))) ((pG_M (mfT_no (by exact come_lateT c9 (by kernel_rfl)) (mfT_skip (show (7:Nat)≠59 by decide) rfl))):_=some (.box b7 T.row [.d (dQs (redV (rs.take k) v)),.d (dQs (redK (rs.take k) v (List.replicate N 0)))])) (v:=.d (dQs (redV (rs.take k) v))) rfl ⟨β,pG_put (d:=43) (i:=1) rfl (fun t ht=>ownRd_inj ht) (lt_size 22 c9.size rfl (by decide)) (mfT_same (lt_size 22 c9.size rfl (by decide)) (by rfl))⟩))⟩
   ·exact fun β L c9=>⟨_,rfl,.inl (OG.of_OL (mvO ((pG_old rfl).trans rfl) ⟨β,pG_put (d:=44) (i:=2) rfl (fun t ht=>ownRd_inj ht) (lt_size 22 c9.size rfl (by decide)) (mfT_same (lt_size 22 c9.size rfl (by decide)) (by rfl))⟩))⟩
   ·exact fun β L c9=>⟨_,rfl,.inl (OG.of_OL (mvD (y:=dI k) ((pG_old rfl).trans rfl) ⟨β,pG_put (d:=45) (i:=3) rfl (fun t ht=>ownRd_inj ht) (lt_size 22 c9.size rfl (by decide)) (mfT_same (lt_size 22 c9.size rfl (by decide)) (by rfl))⟩))⟩
   ·exact fun β L c9=>⟨_,rfl,.inl (OG.of_OL (ixOn sl.rows (pG_new rfl (come_dep (j:=2) c9 (by kernel_rfl))) (pG_new rfl (come_dep (j:=3) c9 (by kernel_rfl))) hkr ⟨β,pG_put (d:=46) (i:=4) rfl (fun t ht=>ownRd_inj ht) (lt_size 22 c9.size rfl (by decide)) (mfT_same (lt_size 22 c9.size rfl (by decide)) (by rfl))⟩))⟩
   ·exact fun β L c9=>⟨_,rfl,.inl (OG.of_OL (faE fd.row_0 (pG_new rfl (come_dep (j:=4) c9 (by kernel_rfl))) rfl ⟨β,pG_put (d:=47) (i:=5) rfl (fun t ht=>ownRd_inj ht) (lt_size 22 c9.size rfl (by decide)) (mfT_same (lt_size 22 c9.size rfl (by decide)) (by rfl))⟩))⟩
   ·exact fun β L c9=>⟨_,rfl,.inl (OG.of_OL (ldEC ce.Rats rfl (pG_new rfl (come_dep (j:=5) c9 (by kernel_rfl))) ((pG_M (mfT_skip (show (1000:Nat)≠7 by decide) (mfT_skip (show (1000:Nat)≠59 by decide) rfl))):_=some (rowSK b c rs)) (rowSK_el hkr) (d:=dQs (rs.getD k default).v) rfl ⟨β,pG_put (d:=48) (i:=6) rfl (fun t ht=>ownRd_inj ht) (lt_size 22 c9.size rfl (by decide)) (mfT_same (lt_size 22 c9.size rfl (by decide)) (by rfl))⟩))⟩
   ·exact fun β L c9=>⟨_,rfl,.inl (OG.of_OL (ldPA ag.Rat (id:=10) (b:=b10) (o:=0) ((pG_old rfl).trans rfl) ((pG_M (mfT_skip (show (10:Nat)≠7 by decide) (mfT_skip (show (10:Nat)≠59 by decide) rfl))):_=some (.box b10 T.Rat [.d (dB (ofQ (qotR (redV (rs.take k) v) (rs.getD k default))).neg),.d (u32s (ofQ (qotR (redV (rs.take k) v) (rs.getD k default))).num),.d (u32s (ofQ (qotR (redV (rs.take k) v) (rs.getD k default))).den)])) (vs:=[.d (dB (ofQ (qotR (redV (rs.take k) v) (rs.getD k default))).neg),.d (u32s (ofQ (qotR (redV (rs.take k) v) (rs.getD k default))).num),.d (u32s (ofQ (qotR (redV (rs.take k) v) (rs.getD k default))).den)]) rfl (nb9 rfl) ⟨β,pG_put (d:=49) (i:=7) rfl (fun t ht=>ownRd_inj ht) (lt_size 22 c9.size rfl (by decide)) (mfT_same (lt_size 22 c9.size rfl (by decide)) (by rfl))⟩))⟩
   ·exact fun β L c9=>⟨_,rfl,.inl (OG.of_OL (clv rfl (.cons (vle_of_eq (pG_new rfl (come_dep (j:=1) c9 (by kernel_rfl)))) (.cons (vle_of_eq (pG_new rfl (come_dep (j:=6) c9 (by kernel_rfl)))) (.cons (vle_of_eq (pG_new rfl (come_dep (j:=7) c9 (by kernel_rfl)))) .nil))) hlv ⟨β,pG_put (d:=50) (i:=8) rfl (fun t ht=>ownRd_inj ht) (lt_size 22 c9.size rfl (by decide)) (mfT_same (lt_size 22 c9.size rfl (by decide)) (by rfl))⟩))⟩
   ·exact fun β L c9=>⟨_,rfl,.inl (OG.of_OL (faP (b:=b7) (o:=0) (id:=7) fd.row_1 ((pG_old rfl).trans rfl) rfl ⟨β,pG_put (d:=51) (i:=9) rfl (fun t ht=>ownRd_inj ht) (lt_size 22 c9.size rfl (by decide)) (mfT_same (lt_size 22 c9.size rfl (by decide)) (by rfl))⟩))⟩
   ·exact fun β L c9=>⟨_,rfl,.inl (OG.of_OL (ldPC ce.Rats (pG_new rfl (come_dep (j:=9) c9 (by kernel_rfl))) ((pG_M (mfT_no (by exact come_lateT c9 (by kernel_rfl)) (mfT_skip (show (7:Nat)≠59 by decide) rfl))):_=some (.box b7 T.row [.d (dQs (redV (rs.take k) v)),.d (dQs (redK (rs.take k) v (List.replicate N 0)))])) (v:=.d (dQs (redK (rs.take k) v (List.replicate N 0)))) rfl ⟨β,pG_put (d:=52) (i:=10) rfl (fun t ht=>ownRd_inj ht) (lt_size 22 c9.size rfl (by decide)) (mfT_same (lt_size 22 c9.size rfl (by decide)) (by rfl))⟩))⟩
   ·exact fun β L c9=>⟨_,rfl,.inl (OG.of_OL (mvO ((pG_old rfl).trans rfl) ⟨β,pG_put (d:=53) (i:=11) rfl (fun t ht=>ownRd_inj ht) (lt_size 22 c9.size rfl (by decide)) (mfT_same (lt_size 22 c9.size rfl (by decide)) (by rfl))⟩))⟩
   ·exact fun β L c9=>⟨_,rfl,.inl (OG.of_OL (mvD (y:=dI k) ((pG_old rfl).trans rfl) ⟨β,pG_put (d:=54) (i:=12) rfl (fun t ht=>ownRd_inj ht) (lt_size 22 c9.size rfl (by decide)) (mfT_same (lt_size 22 c9.size rfl (by decide)) (by rfl))⟩))⟩
   ·exact fun β L c9=>⟨_,rfl,.inl (OG.of_OL (ixOn sl.rows (pG_new rfl (come_dep (j:=11) c9 (by kernel_rfl))) (pG_new rfl (come_dep (j:=12) c9 (by kernel_rfl))) hkr ⟨β,pG_put (d:=55) (i:=13) rfl (fun t ht=>ownRd_inj ht) (lt_size 22 c9.size rfl (by decide)) (mfT_same (lt_size 22 c9.size rfl (by decide)) (by rfl))⟩))⟩
   ·exact fun β L c9=>⟨_,rfl,.inl (OG.of_OL (faE fd.row_1 (pG_new rfl (come_dep (j:=13) c9 (by kernel_rfl))) rfl ⟨β,pG_put (d:=56) (i:=14) rfl (fun t ht=>ownRd_inj ht) (lt_size 22 c9.size rfl (by decide)) (mfT_same (lt_size 22 c9.size rfl (by decide)) (by rfl))⟩))⟩
   ·exact fun β L c9=>⟨_,rfl,.inl (OG.of_OL (ldEC ce.Rats rfl (pG_new rfl (come_dep (j:=14) c9 (by kernel_rfl))) ((pG_M (mfT_skip (show (1000:Nat)≠7 by decide) (mfT_skip (show (1000:Nat)≠59 by decide) rfl))):_=some (rowSK b c rs)) (rowSK_el hkr) (d:=dQs (rs.getD k default).c) rfl ⟨β,pG_put (d:=57) (i:=15) rfl (fun t ht=>ownRd_inj ht) (lt_size 22 c9.size rfl (by decide)) (mfT_same (lt_size 22 c9.size rfl (by decide)) (by rfl))⟩))⟩
   ·exact fun β L c9=>⟨_,rfl,.inl (OG.of_OL (ldPA ag.Rat (id:=10) (b:=b10) (o:=0) ((pG_old rfl).trans rfl) ((pG_M (mfT_skip (show (10:Nat)≠7 by decide) (mfT_skip (show (10:Nat)≠59 by decide) rfl))):_=some (.box b10 T.Rat [.d (dB (ofQ (qotR (redV (rs.take k) v) (rs.getD k default))).neg),.d (u32s (ofQ (qotR (redV (rs.take k) v) (rs.getD k default))).num),.d (u32s (ofQ (qotR (redV (rs.take k) v) (rs.getD k default))).den)])) (vs:=[.d (dB (ofQ (qotR (redV (rs.take k) v) (rs.getD k default))).neg),.d (u32s (ofQ (qotR (redV (rs.take k) v) (rs.getD k default))).num),.d (u32s (ofQ (qotR (redV (rs.take k) v) (rs.getD k default))).den)]) rfl (nb9 rfl) ⟨β,pG_put (d:=58) (i:=16) rfl (fun t ht=>ownRd_inj ht) (lt_size 22 c9.size rfl (by decide)) (mfT_same (lt_size 22 c9.size rfl (by decide)) (by rfl))⟩))⟩
   ·exact fun β L c9=>⟨_,rfl,.inl (OG.of_OL (clR rfl (.cons (vle_of_eq (pG_new rfl (come_dep (j:=10) c9 (by kernel_rfl)))) (.cons (vle_of_eq (pG_new rfl (come_dep (j:=15) c9 (by kernel_rfl)))) (.cons (vle_of_eq (pG_new rfl (come_dep (j:=16) c9 (by kernel_rfl)))) .nil))) hlc (pG_M (mfT_skip (show (59:Nat)≠7 by decide) (mfT_no (by exact c9.no) rfl))) fun b8 c8=>⟨upd β 59 (b8,c8),pG_set (d:=59) (i:=17) (x:=(b8,c8)) rfl (fun t ht=>ownRd_inj ht) (lt_size 22 c9.size rfl (by decide)) rfl (mfT_pass (lt_size 22 c9.size rfl (by decide)) (show (19:Nat)≠17 by decide) (.inl (show (7:Nat)≠59 by decide)) (by exact fun _=>rfl) (mfT_here (lt_size 22 c9.size rfl (by decide)) rfl rfl rfl c9.no (by rfl) (fun y hy=>absurd hy List.not_mem_nil))) (fun t j ho hl=>by unfold ownRd at ho;split at ho <;> cases ho <;> first|rfl|(rw [c9.no] at hl;cases hl)|exact come_notT c9 (by kernel_rfl) hl)⟩))⟩
   ·exact fun β L c9=>⟨_,rfl,.inl (OG.of_OL (faP (b:=b7) (o:=0) (id:=7) fd.row_0 ((pG_old rfl).trans rfl) rfl ⟨β,pG_put (d:=60) (i:=18) rfl (fun t ht=>ownRd_inj ht) (lt_size 22 c9.size rfl (by decide)) (mfT_same (lt_size 22 c9.size rfl (by decide)) (by rfl))⟩))⟩
   ·exact fun β L c9=>⟨_,rfl,.inl (OG.of_OL (sto (id:=7) (b:=b7) (o:=0) (v:=.d (dQs (lessQ (redV (rs.take k) v) (rs.getD k default).v (qotR (redV (rs.take k) v) (rs.getD k default))))) sz.Rats (pG_new rfl (come_dep (j:=18) c9 (by kernel_rfl))) (pG_new rfl (come_dep (j:=8) c9 (by kernel_rfl))) rfl ((pG_M (mfT_no (by exact c9.no) (mfT_skip (show (7:Nat)≠59 by decide) rfl))):_=some (.box b7 T.row [.d (dQs (redV (rs.take k) v)),.d (dQs (redK (rs.take k) v (List.replicate N 0)))])) rfl (nb9 rfl) (cells2:=[.d (dQs (lessQ (redV (rs.take k) v) (rs.getD k default).v (qotR (redV (rs.take k) v) (rs.getD k default)))),.d (dQs (redK (rs.take k) v (List.replicate N 0)))]) rfl ⟨β,pG_mod (fun t ht=>by unfold ownRd at ht;split at ht <;> cases ht) (lt_size 22 c9.size rfl (by decide)) (mfT_here (lt_size 22 c9.size rfl (by decide)) rfl rfl rfl c9.no (by rfl) (List.forall_mem_cons.2 ⟨(by exact fun _ _=>rfl),(fun y hy=>absurd hy List.not_mem_nil)⟩))⟩))⟩
   ·exact fun β L c9=>⟨_,rfl,.inl (OG.of_OL (faP (b:=b7) (o:=0) (id:=7) fd.row_1 ((pG_old rfl).trans rfl) rfl ⟨β,pG_put (d:=61) (i:=20) rfl (fun t ht=>ownRd_inj ht) (lt_size 22 c9.size rfl (by decide)) (mfT_same (lt_size 22 c9.size rfl (by decide)) (by rfl))⟩))⟩
  refine fun β L c9 hA=>⟨_,rfl,.inl (OG.of_OL (sto (id:=7) (b:=b7) (o:=1) (v:=.osl 59 (β 59).1 N (β 59).2) sz.Rats (pG_new rfl (hA 20 (by decide))) (pG_new rfl (hA 17 (by decide))) rfl ((pG_M (mfT_yes (hA 19 (by decide)) rfl rfl)):_=some (.box b7 T.row [.d (dQs (lessQ (redV (rs.take k) v) (rs.getD k default).v (qotR (redV (rs.take k) v) (rs.getD k default)))),.d (dQs (redK (rs.take k) v (List.replicate N 0)))])) rfl (nb9 rfl) (cells2:=[.d (dQs (lessQ (redV (rs.take k) v) (rs.getD k default).v (qotR (redV (rs.take k) v) (rs.getD k default)))),.osl 59 (β 59).1 N (β 59).2]) rfl ?_))⟩
  refine OL.nil ?_
  refine AW.to [(0,.osl 1000 b rs.length c),(6,.ptr 6 b6 0),(7,.ptr 7 b7 0),(8,.d (dI k))] [(6,.box b6 126 [.mt,.mt]),(1000,rowSK b c rs),(7,.box b7 T.row [.d (dQs (lessQ (redV (rs.take k) v) (rs.getD k default).v (qotR (redV (rs.take k) v) (rs.getD k default)))),.osl 59 (β 59).1 N (β 59).2]),(59,.row (β 59).1 (β 59).2 T.Rat 3 ((lessQ (redK (rs.take k) v (List.replicate N 0)) (rs.getD k default).c (qotR (redV (rs.take k) v) (rs.getD k default))).map dQ))] (.cons (vle_of_eq (sto_rho ((pG_old rfl).trans rfl))) (.cons (vle_of_eq (sto_rho ((pG_old rfl).trans rfl))) (.cons (vle_of_eq (sto_rho ((pG_old rfl).trans rfl))) (.cons (vle_of_eq (sto_rho ((pG_old rfl).trans rfl))) .nil)))) (.cons (sto_old (by decide) (pG_M (mfT_skip (show (6:Nat)≠7 by decide) (mfT_skip (show (6:Nat)≠59 by decide) rfl)))) (.cons (sto_old (by decide) (pG_M (mfT_skip (show (1000:Nat)≠7 by decide) (mfT_skip (show (1000:Nat)≠59 by decide) rfl)))) (.cons sto_new (.cons (sto_old (by decide) (pG_M (mfT_skip (show (59:Nat)≠7 by decide) (mfT_yes (hA 17 (by decide)) rfl rfl)))) .nil)))) ?_
  generalize (β 59).1=b59
  generalize (β 59).2=c59
  refine AW.rg hE rfl (mvD rfl (add_i64 rfl rfl (by omega) (asD rfl (OL.nil ?_))))
  exact AW.again (x:=(k,bt,ct)) (k+1,b59,c59) (by (simp only [];omega)) ⟨by omega,Knows.app .rq3 .rq1,Owns.app (.cons rfl (.cons rfl .nil)) (.cons (by rw [redV_take hkr,← lessQ_step];rfl) (.cons (by rw [redK_take hkr];rfl) .nil))⟩
 ·try simp only [dx9] at h19
  refine AW.exit (AW.seq ?_)
  obtain rfl:k=rs.length:=by omega
  have etk:rs.take rs.length=rs:=List.take_length
  exact AW.rename 59 1001 rfl (AW.boxW 7 [.d (dQs (redV rs v)),.osl 1001 bt N ct] rfl (.cons (by rw [List.take_length];exact VLe.refl _) (.cons VLe.osl .nil)) (AW.rg hE rfl (ldPA ag.row rfl rfl (vs:=[_,_]) rfl (nb9 rfl) (sto sz.row rfl rfl rfl rfl rfl (nb9 rfl) (cells2:=[_,_]) rfl (OL.nil (AW.ret ⟨(bt,ct),trivial,⟨_,.cellA rfl rfl ag.row (nb9 rfl) .nil,.le vR⟩,mem2_keep rfl (show some (Blk.row bt ct T.Rat 3 ((redK (rs.take rs.length) v (List.replicate N 0)).map dQ))=_ by rw [etk])⟩))))))
set_option maxRecDepth 8000 in
set_option maxHeartbeats 3200000 in
theorem r22rows {vs:List (List Rat)}{n:Nat}(g:GrowB vs)(hl:∀ v,v ∈ vs→v.length=n)(n6:vs.length≤6)(nn:n≤6)(zv:∀ v,v ∈ vs→∀ i,sz (v.getD i 0)≤16777215):FSpec P F.ref22_rows [.d (.sl (vs.map dQs))] (.tup [.d (.sl ((rowsK vs.length vs vs.length).map dSK)),.d (dB true)]):=by
 refine FSpec.intro fn.ref22_rows (by rfl) (by rfl) (nb9 (by rfl)) fun E hE=>(AW.sg hE rfl (asM rfl (asD rfl (OL.nil (AW.sg hE rfl (asM rfl (OL.nil ?_)))))))
 refine AW.seq (AW.seq (AW.own 4 33 T.row 2 rfl rfl (AW.rg hE rfl (asD rfl (OL.nil (AW.block ?_))))))
 refine AW.whileK (α:=Nat × Nat × Nat) [(0,_)] [] (fun (i,bo,co)=>[(4,.osl 33 bo (rowsK vs.length vs i).length co),(5,.d (dI i))]) (fun (i,bo,co)=>[(33,rowSK bo co (rowsK vs.length vs i))]) (fun (i,bo,co)=>i≤vs.length) (fun (i,bo,co)=>vs.length-i) (0,0,0) (.cons (knD rfl) .nil) .nil ⟨Nat.zero_le _,.rq2,.cons rfl .nil⟩ ?_
 rintro ⟨i,bo,co⟩ h1
 have h1:i≤vs.length:=h1
 refine AW.seq (AW.sg hE rfl (mvD rfl (mvD rfl (lnL sl.Ratss rfl rfl (c_lss rfl rfl rfl (OL.nil (AW.cond rfl (fun h10=>?_) (fun h10=>?_))))))))
 ·try simp only [dx9] at h10
  refine AW.skip (AW.seq (AW.block (AW.seq ?_)))
  have hi:i<vs.length:=by omega
  have R:=rowsK_ok g hl n6 zv i h1
  have hvi:=hl _ (getD_mem hi [])
  have zvi:=zv _ (getD_mem hi [])
  have hkl:(rowsK vs.length vs i).length=i:=rowsK_len i
  have hg:growsS (rowsK vs.length vs i) (vs.getD i [])=true:=by
   have:=g i hi
   unfold growsS at this ⊢
   rwa [rowsK_red g h1]
  have hcl:(redK (rowsK vs.length vs i) (vs.getD i []) (List.replicate vs.length 0)).length=vs.length:=by rw [redK_len,List.length_replicate]
  have hle:=R.le
  obtain ⟨zl,_⟩:=R.zr.last hle zvi
  refine AW.rename 33 1000 rfl (AW.regionK (by rw [hE];rfl) (SK.ofOL (mvO rfl (OL.nil ?_))))
  refine SK.ofOL (mvD rfl (OL.nil ?_))
  refine SK.ofOL (mvD rfl (OL.nil ?_))
  refine SK.ofOL (ixLn sl.Ratss [] rfl rfl hi rfl rfl (OL.nil ?_))
  refine SK.ofOL (ldRC ce.Rats rfl (OL.nil ?_))
  refine SK.ofOL (mvD rfl (OL.nil ?_))
  refine SK.ofOL (lnL sl.Ratss rfl rfl (OL.nil ?_))
  refine SK.ofSO (SO.callE2 (args':=[.osl 1000 bo (rowsK vs.length vs i).length co,.d (dQs (vs.getD i [])),.d (dI vs.length)]) (show 20<E.n by rw [hE];exact Nat.le_of_ble_eq_true (by rfl)) rfl (.cons VLe.osl .rq2) (Mc:=mem1 1000 (rowSK bo co (rowsK vs.length vs i))) (mem1_keep rfl) (r22reduceE (N:=vs.length) (b:=bo) (c:=co) R hvi nn n6 zvi) ?_)
  rintro ⟨bt,ct⟩ -
  refine SK.ofOL (al z.row rfl fun b6=>OL.nil ?_)
  refine SK.ofOL (sto sz.row rfl rfl rfl rfl rfl (nb9 rfl) (cells2:=[_,_]) rfl (OL.nil ?_))
  refine SK.nil ?_
  refine AW.to [(0,.d (.sl (vs.map dQs))),(4,.osl 33 bo (rowsK vs.length vs i).length co),(5,.d (dI i)),(6,.ptr 6 b6 0)] [(1000,rowSK bo co (rowsK vs.length vs i)),(6,.box b6 T.row [.d (dQs (redV (rowsK vs.length vs i) (vs.getD i []))),.osl 1001 bt vs.length ct]),(1001,.row bt ct T.Rat 3 ((redK (rowsK vs.length vs i) (vs.getD i []) (List.replicate vs.length 0)).map dQ))] (.cons vR (.cons VLe.osl .rq2)) (.cons rfl (.cons rfl (.cons rfl .nil))) ?_
  refine AW.rename 1000 33 rfl (AW.seq (AW.sg hE rfl (faP fd.row_0 rfl rfl (ldPC ce.Rats rfl rfl rfl (clv rfl (VLes.refl _) (r22lead (v:=(redV (rowsK vs.length vs i) (vs.getD i []))) (by rw [redV_len];omega) (fun j=>Nat.le_trans (zl j) (by decide))) (c_lss rfl rfl (c:=false) (decide_eq_false fun h=>by rw [leadI_neg.1 h] at hg;cases hg) (OL.nil ?_)))))))
  refine AW.cond rfl (fun hno=>absurd hno (by decide)) (fun _=>?_)
  refine AW.skip (AW.seq (AW.dg 1 [0,1,2,3,4,5] order_free hE rfl (by kernel_rfl) (OI.of_OL (os:=[_,_,_,_,_,_]) rfl ?_)))
  refine faP fd.row_1 rfl rfl (ldPC ce.Rats rfl rfl rfl (mvD rfl (clv rfl (VLes.refl _) (ref_OfQ (n:=1) (d:=1) (by decide) (by decide) (by decide)) ?_)))
  rw [one_r]
  refine ixOn sl.Rats rfl rfl (by omega) (stE sz.Rat rfl (d:=dQ 1) vd_q rfl rfl (by rw [lm9];omega) (es2:=((redK (rowsK vs.length vs i) (vs.getD i []) (List.replicate vs.length 0)).set i 1).map dQ) (by rw [List.map_set]) (OL.nil ?_))
  refine AW.freeze 1001 rfl (AW.boxW 6 [.d (dQs (redV (rowsK vs.length vs i) (vs.getD i []))),.d (dQs ((redK (rowsK vs.length vs i) (vs.getD i []) (List.replicate vs.length 0)).set i 1))] rfl (.cons vR (.cons (frz_osl (by rw [lm9,List.length_set,hcl]) rfl) .nil)) ?_)
  refine AW.rg hE rfl (mvO rfl (ldPA ag.row rfl rfl (vs:=[_,_]) rfl (nb9 rfl) ?_))
  refine lt1 (y:=dSK (⟨(redV (rowsK vs.length vs i) (vs.getD i [])),((redK (rowsK vs.length vs i) (vs.getD i []) (List.replicate vs.length 0)).set i 1),firstP (redV (rowsK vs.length vs i) (vs.getD i []))⟩:SRow)) sl.rows (vd_SK (r:=(⟨(redV (rowsK vs.length vs i) (vs.getD i [])),((redK (rowsK vs.length vs i) (vs.getD i []) (List.replicate vs.length 0)).set i 1),firstP (redV (rowsK vs.length vs i) (vs.getD i []))⟩:SRow))) rfl (by decide) ?_
  refine apO sl.rows rfl rfl rfl (lm9 ..).symm (VC.d _) (fun y hy=>by rw [List.mem_singleton.1 hy];rfl) (by simp only [ls9];omega) (by simp only [ls9];omega) (.inr rfl) (ys:=(rowsK vs.length vs (i+1)).map dSK) (by rw [rowsK,List.map_append];rfl) (n2:=(rowsK vs.length vs (i+1)).length) (by rw [rowsK,la9];rfl) fun b33 c33=>?_
  exact asO rfl (OL.nil (AW.rg hE rfl (mvD rfl (add_i64 rfl rfl (by omega) (asD rfl (OL.nil (AW.again (x:=(i,bo,co)) (i+1,b33,c33) (by (simp only [];omega)) ⟨by omega,Knows.app .rq1 .rq2,.cons rfl .nil⟩)))))))
 ·try simp only [dx9] at h10
  refine AW.exit (AW.seq ?_)
  obtain rfl:i=vs.length:=by omega
  exact AW.rg hE rfl (mvO rfl (asO rfl (asD rfl (OL.nil (AW.ret (RetQ.r ⟨_,.tmp rfl (.tmp rfl .nil),_,.cons (RO.all rfl rfl (lm9 ..).symm rfl) (.cons (.le vR) .nil),rfl⟩))))))
theorem r22Valid {vs:List (List Rat)}{n:Nat}(g:GrowB vs)(hl:∀ v,v ∈ vs→v.length=n)(n6:vs.length≤6)(nn:n≤6)(zv:∀ v,v ∈ vs→∀ i,sz (v.getD i 0)≤16777215)(n1:1≤n):FSpec P F.ref22_Valid [.d (.sl (vs.map dQs))] (.d (dB true)):=by
 refine FSpec.intro fn.ref22_Valid (by rfl) (by rfl) (nb9 (by rfl)) fun E hE=>(AW.sg hE rfl (asD rfl (OL.nil (AW.seq (AW.sg hE rfl (mvD rfl (clv rfl (VLes.refl _) (r22sized (l:=vs) (n:=n) (by omega) (by omega) hl) ?_)))))))
 refine nt rfl (mvD rfl (OL.yes rfl (mvD rfl (OL.yes rfl (lnL sl.Ratss rfl rfl (OL.yes rfl (c_gtr rfl rfl (c:=false) (by exact decide_eq_false (by omega)) ?_)))))))
 refine pkF rfl rfl (OL.nil (AW.cond rfl (fun hno=>absurd hno (by decide)) (fun _=>?_)))
 refine AW.skip (AW.sg hE rfl (mvD rfl (clv rfl (VLes.refl _) (r22rows g hl n6 nn zv) (mvT rfl (ex rfl rfl (ex rfl rfl (asD rfl ?_)))))))
 exact asD rfl (OL.nil (AW.sg hE rfl (mvD rfl (asD rfl (OL.nil (AW.ret (RetQ.r ⟨_,.tmp rfl .nil,.le vR⟩)))))))
set_option maxRecDepth 8000 in
set_option maxHeartbeats 3200000 in
theorem law_MinimalBlockIsRegular {m:MModel}{e1:Bool}(ha1:m.ini.length≤9223372036854775807)(ha2:m.fin.length≤9223372036854775807)(ha3:m.arcs.length≤9223372036854775807):FSpec P F.law24_MinimalBlockIsRegular [vModelE m e1] (.d (dB true)):=by
 obtain ⟨pk,sk,pl,sl9,r3⟩:=wds m
 obtain ⟨bl,bz,bg⟩:=blk24 m
 have hm3:=max3 m
 have hvl:((preM (machL [(autoOf m 2 3)])).map (blockV (serA (autoOf m 2 3)) (sufM (machL [(autoOf m 2 3)])))).length=(preM (machL [(autoOf m 2 3)])).length:=lm9 ..
 have hps:∀ u,u ∈ (preM (machL [(autoOf m 2 3)]))→u.length≤2:=fun u hu=>by have:=pk.short u hu;omega
 have hss:∀ u,u ∈ (sufM (machL [(autoOf m 2 3)]))→u.length≤2:=fun u hu=>by have:=sk.short u hu;omega
 refine FSpec.intro fn.law24_MinimalBlockIsRegular (by rfl) (by rfl) (nb9 (by rfl)) fun E hE=>(AW.sg hE rfl (bxA rfl rfl fun b1=>(asD rfl (OL.nil (AW.sg hE rfl (ldPA ag.Model rfl rfl (vs:=[_,_,_,_,_]) rfl (nb9 rfl) (clv rfl (VLes.refl _) (law24_plain (m:=m) ha1 ha2 ha3) ?_)))))))
 refine al z.Auto rfl fun b3=>(sto sz.Auto rfl rfl rfl rfl rfl (nb9 rfl) (cells2:=[_,_,_,_,_,_,_]) rfl (OL.nil (AW.sg hE rfl (ldPA ag.Auto rfl rfl (vs:=[_,_,_,_,_,_,_]) rfl (nb9 rfl) (clv rfl (VLes.refl _) (PrefixesA (a:=(autoOf m 2 3)) take_auto (by decide) (by omega)) (mvT rfl (ex rfl rfl ?_)))))))
 refine ex rfl rfl (asD rfl (asD rfl (OL.nil (AW.sg hE rfl (ldPA ag.Auto rfl rfl (vs:=[_,_,_,_,_,_,_]) rfl (nb9 rfl) (clv rfl (VLes.refl _) (SuffixesA (a:=(autoOf m 2 3)) take_auto (by decide) (by decide) (by omega)) (mvT rfl ?_)))))))
 refine ex rfl rfl (ex rfl rfl (asD rfl (asD rfl (OL.nil (AW.seq (AW.sg hE rfl (mvD rfl ?_)))))))
 refine c_neq rfl rfl (c:=false) (cne_f rfl) (mvD rfl (OL.yes rfl (mvD rfl (OL.yes rfl (c_neq rfl rfl (c:=false) (cne_f rfl) (pkF rfl rfl (mvD rfl ?_)))))))
 refine OL.yes rfl (mvD rfl (OL.yes rfl (lnL sl.intss rfl rfl (OL.yes rfl (mvD rfl (OL.yes rfl (lnL sl.intss rfl rfl ?_)))))))
 refine OL.yes rfl (c_neq rfl rfl (c:=false) (cne_f (by rw [pl,sl9])) (pkF rfl rfl (OL.nil (AW.cond rfl (fun hno=>absurd hno (by decide)) (fun _=>?_)))))
 refine AW.skip (AW.sg hE rfl (asM rfl (OL.nil (AW.seq (AW.seq (AW.own 8 73 T.Rats 1 rfl rfl (AW.rg hE rfl ?_)))))))
 refine asD rfl (OL.nil (AW.block ?_))
 refine AW.whileK (α:=Nat × Nat × Nat) [(2,_),(3,_),(4,_),(6,_)] [(3,_)] (fun (i,bq,cq)=>[(8,.osl 73 bq i cq),(9,.d (dI i))]) (fun (i,bq,cq)=>[(73,.row bq cq T.Rats 1 ((((preM (machL [(autoOf m 2 3)])).map (blockV (serA (autoOf m 2 3)) (sufM (machL [(autoOf m 2 3)])))).take i).map dQs))]) (fun (i,bq,cq)=>i≤(preM (machL [(autoOf m 2 3)])).length) (fun (i,bq,cq)=>(preM (machL [(autoOf m 2 3)])).length-i) (0,0,0) (.cons (knD rfl) (.cons (knP rfl) (.cons (knD rfl) (.cons (knD rfl) .nil)))) (.cons (owB rfl) .nil) ⟨Nat.zero_le _,.rq2,.cons rfl .nil⟩ ?_
 rintro ⟨i,bq,cq⟩ h1
 have h1:i≤(preM (machL [(autoOf m 2 3)])).length:=h1
 refine AW.seq (AW.sg hE rfl (mvD rfl (mvD rfl (lnL sl.intss rfl rfl (c_lss rfl rfl rfl (OL.nil (AW.cond rfl (fun h42=>?_) (fun h42=>?_))))))))
 ·try simp only [dx9] at h42
  refine AW.skip (AW.seq (AW.block (AW.seq ?_)))
  have hi:i<(preM (machL [(autoOf m 2 3)])).length:=by omega
  have hp2:=hps _ (getD_mem hi [])
  have hpw:=pk.first.inW _ (getD_mem hi [])
  have hbl:(blockV (serA (autoOf m 2 3)) (sufM (machL [(autoOf m 2 3)])) ((preM (machL [(autoOf m 2 3)])).getD i [])).length=(sufM (machL [(autoOf m 2 3)])).length:=lm9 ..
  refine AW.rg hE rfl (asM rfl (OL.nil (AW.seq (AW.seq (AW.own 10 69 T.Rat 3 rfl rfl (AW.rg hE rfl (asD rfl ?_)))))))
  refine OL.nil (AW.block ?_)
  refine AW.whileK (α:=Nat × Nat × Nat) [(2,_),(3,_),(4,_),(6,_),(8,_),(9,_)] [(3,_),(73,_)] (fun (k,br,cr)=>[(10,.osl 69 br k cr),(11,.d (dI k))]) (fun (k,br,cr)=>[(69,.row br cr T.Rat 3 (((blockV (serA (autoOf m 2 3)) (sufM (machL [(autoOf m 2 3)])) ((preM (machL [(autoOf m 2 3)])).getD i [])).take k).map dQ))]) (fun (k,br,cr)=>k≤(sufM (machL [(autoOf m 2 3)])).length) (fun (k,br,cr)=>(sufM (machL [(autoOf m 2 3)])).length-k) (0,0,0) (.cons (knD rfl) (.cons (knP rfl) (.cons (knD rfl) (.cons (knD rfl) (.cons (knO rfl) (.cons (knD rfl) .nil)))))) (.cons (owB rfl) (.cons (owR rfl) .nil)) ⟨Nat.zero_le _,.rq2,.cons rfl .nil⟩ ?_
  rintro ⟨k,br,cr⟩ h2
  have h2:k≤(sufM (machL [(autoOf m 2 3)])).length:=h2
  refine AW.seq (AW.sg hE rfl (mvD rfl (mvD rfl (lnL sl.intss rfl rfl (c_lss rfl rfl rfl (OL.nil (AW.cond rfl (fun h48=>?_) (fun h48=>?_))))))))
  ·try simp only [dx9] at h48
   refine AW.skip (AW.seq (AW.block (AW.seq ?_)))
   have hk:k<(sufM (machL [(autoOf m 2 3)])).length:=by omega
   have hs2:=hss _ (getD_mem hk [])
   have hsw:=sk.first.inW _ (getD_mem hk [])
   refine AW.dg 1 [0,1,2,3,4,5,6,7,8,9,10,11,12,13,14,15,16] order_free hE rfl (by kernel_rfl) (OI.of_OL (os:=[_,_,_,_,_,_,_,_,_,_,_,_,_,_,_,_,_]) rfl ?_)
   refine ldPA ag.Auto rfl rfl (vs:=[_,_,_,_,_,_,_]) rfl (nb9 rfl) (mvD rfl (mvD rfl (ixLn sl.intss [] rfl rfl hi rfl rfl (ldRC ce.ints rfl (mvD rfl (mvD rfl (ixLn sl.intss [] rfl rfl hk rfl rfl ?_)))))))
   refine ldRC ce.ints rfl (clv rfl (VLes.refl _) (r5Join (w:=((preM (machL [(autoOf m 2 3)])).getD i [])) (u:=((sufM (machL [(autoOf m 2 3)])).getD k [])) (by omega) (by omega)) ?_)
   refine clv rfl (VLes.refl _) (r8Weight (a:=(autoOf m 2 3)) (w:=(((preM (machL [(autoOf m 2 3)])).getD i [])++((sufM (machL [(autoOf m 2 3)])).getD k []))) wt_auto3 (fun x hx=>(List.mem_append.1 hx).elim (fun h=>by have:=hpw x h;rwa [k_one] at this) (fun h=>by have:=hsw x h;rwa [k_one] at this)) (by rw [la9];omega)) ?_
   refine mvT rfl (ex rfl rfl (ex rfl rfl (al z.Weight rfl fun b12=>(sto sz.Weight rfl rfl rfl rfl rfl (nb9 rfl) (cells2:=[_,_,_,_,_,_,_,_]) rfl (asD rfl (OL.nil (AW.rg hE rfl ?_)))))))
   refine mvO rfl (faP fd.Weight_0 rfl rfl (ldPA ag.Rat rfl rfl (vs:=[_,_,_]) rfl (nb9 rfl) (lt1 (y:=dQ (serA (autoOf m 2 3) (((preM (machL [(autoOf m 2 3)])).getD i [])++((sufM (machL [(autoOf m 2 3)])).getD k [])))) sl.Rats vd_q rfl (by decide) ?_)))
   refine apO sl.Rats rfl rfl rfl (by rw [lm9,List.length_take];omega) (VC.d _) (fun y hy=>by rw [List.mem_singleton.1 hy];rfl) (by simp only [ls9];omega) (by simp only [ls9];omega) (.inr rfl) (ys:=((blockV (serA (autoOf m 2 3)) (sufM (machL [(autoOf m 2 3)])) ((preM (machL [(autoOf m 2 3)])).getD i [])).take (k+1)).map dQ) (by rw [blockV_snoc hk,List.map_append];rfl) (n2:=k+1) rfl fun b69 c69=>?_
   refine asO rfl (OL.nil (AW.rg hE rfl (mvD rfl (add_i64 rfl rfl (by omega) (asD rfl (OL.nil ?_))))))
   exact AW.again (x:=(k,br,cr)) (k+1,b69,c69) (by (simp only [];omega)) ⟨by omega,Knows.app .rq6 .rq2,Owns.app (.cons rfl (.cons rfl .nil)) (.cons rfl .nil)⟩
  ·try simp only [dx9] at h48
   refine AW.exit ?_
   obtain rfl:k=(sufM (machL [(autoOf m 2 3)])).length:=by omega
   refine AW.freeze 69 rfl (AW.to [(2,.d (dB false)),(3,.ptr 3 b3 0),(4,.d (.sl ((preM (machL [(autoOf m 2 3)])).map ints))),(6,.d (.sl ((sufM (machL [(autoOf m 2 3)])).map ints))),(8,.osl 73 bq i cq),(9,.d (dI i)),(10,.d (dQs (blockV (serA (autoOf m 2 3)) (sufM (machL [(autoOf m 2 3)])) ((preM (machL [(autoOf m 2 3)])).getD i []))))] [(3,.box b3 T.Auto [.d (dI 1),.d (.sl []),.d (dI (autoOf m 2 3).sym),.d (dI (autoOf m 2 3).st),.d (dWs (autoOf m 2 3).ini),.d (dWs (autoOf m 2 3).fin),.d (dArcs (autoOf m 2 3).arcs)]),(73,.row bq cq T.Rats 1 ((((preM (machL [(autoOf m 2 3)])).map (blockV (serA (autoOf m 2 3)) (sufM (machL [(autoOf m 2 3)])))).take i).map dQs))] (.cons vR (.cons vR (.cons vR (.cons vR (.cons vR (.cons vR (.cons (frz_osl (by rw [lm9,List.length_take];omega) (by rw [← hbl,List.take_length])) .nil))))))) (.cons rfl (.cons rfl .nil)) ?_)
   refine AW.rg hE rfl (mvO rfl (mvD rfl (lt1 (y:=dQs (blockV (serA (autoOf m 2 3)) (sufM (machL [(autoOf m 2 3)])) ((preM (machL [(autoOf m 2 3)])).getD i []))) sl.Ratss (VC.d _).vd rfl (by decide) ?_)))
   refine apO sl.Ratss rfl rfl rfl (by rw [lm9,List.length_take];omega) (VC.d _) (fun y hy=>by rw [List.mem_singleton.1 hy];rfl) (by simp only [ls9];omega) (by simp only [ls9];omega) (.inr rfl) (ys:=(((preM (machL [(autoOf m 2 3)])).map (blockV (serA (autoOf m 2 3)) (sufM (machL [(autoOf m 2 3)])))).take (i+1)).map dQs) (by rw [take_snoc9 [] (by omega),mapG (d:=[]) hi,List.map_append];rfl) (n2:=i+1) rfl fun b73 c73=>?_
   refine asO rfl (OL.nil (AW.rg hE rfl (mvD rfl (add_i64 rfl rfl (by omega) (asD rfl (OL.nil ?_))))))
   exact AW.again (x:=(i,bq,cq)) (i+1,b73,c73) (by (simp only [];omega)) ⟨by omega,Knows.app .rq4 .rq2,Owns.app (.cons rfl .nil) (.cons rfl .nil)⟩
 ·try simp only [dx9] at h42
  refine AW.exit (AW.seq ?_)
  obtain rfl:i=(preM (machL [(autoOf m 2 3)])).length:=by omega
  refine AW.freeze 73 rfl (AW.to [(8,.d (.sl (((preM (machL [(autoOf m 2 3)])).map (blockV (serA (autoOf m 2 3)) (sufM (machL [(autoOf m 2 3)])))).map dQs)))] [] (.cons (frz_osl (by rw [lm9,List.length_take];omega) (by rw [List.take_of_length_le (by omega)])) .nil) .nil ?_)
  refine AW.rg hE rfl (clv rfl (.nil) (law24_awake) (mvD rfl (OL.yes rfl (mvD rfl (OL.yes rfl (lnL sl.Ratss rfl rfl ?_))))))
  rw [hvl]
  refine OL.yes rfl (c_eql rfl rfl rfl (OL.yes rfl (mvD rfl (OL.split 79 rfl (fun g0=>?_) (fun g0=>?_)))))
  ·skip
   exact OL.nd rfl (OL.nd rfl (OL.yes rfl (pkT rfl rfl (pkT rfl rfl (asD rfl (OL.nil (AW.ret (RetQ.r ⟨_,.tmp rfl .nil,.le vR⟩))))))))
  ·have g0:0<(preM (machL [(autoOf m 2 3)])).length:=by have:=of_decide_eq_false g0;omega
   refine OL.yes rfl (mvD rfl (OL.yes rfl (clv rfl (VLes.refl _) (r22Valid (vs:=((preM (machL [(autoOf m 2 3)])).map (blockV (serA (autoOf m 2 3)) (sufM (machL [(autoOf m 2 3)]))))) (n:=(sufM (machL [(autoOf m 2 3)])).length) bg bl (by omega) (by omega) bz (by omega)) (OL.yes rfl (pkF rfl rfl (pkT rfl rfl (asD rfl ?_)))))))
   exact OL.nil (AW.ret (RetQ.r ⟨_,.tmp rfl .nil,.le vR⟩))
end Go.Proofs.YtfbblpngcmjooaaGreatDoor
