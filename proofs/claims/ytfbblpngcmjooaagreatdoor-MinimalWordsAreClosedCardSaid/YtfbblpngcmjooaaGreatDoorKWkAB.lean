/-
  Walks of layers 22 and 23 of the specification, part 2: reductions, vectors of words (printed by mk2.py).
-/
import Derived.Test.YtfbblpngcmjooaaGreatDoorKWkAA
set_option linter.unusedVariables false
set_option linter.unusedSimpArgs false
namespace Go.Proofs.YtfbblpngcmjooaaGreatDoor
open Go Go.AL
def stripR (r:SRow):SRow:=⟨r.v,[],r.p⟩
theorem redV_strip:∀ (rs:List SRow) (w:List Rat),redV (rs.map stripR) w=redV rs w
 | [],_=>rfl
 | r::rs,w=>by
  rw [List.map_cons,redV,redV,redV_strip rs];rfl
theorem redK_none {rs:List SRow}{w:List Rat}:redK rs w (List.replicate 0 0)=[]:=List.eq_nil_of_length_eq_zero (redK_len rs w _)
def selS (vs:List (List Rat))(k:Nat):List SRow:=(vs.take k).foldl addS []
def selX (vs:List (List Rat)):Nat→List Int
 | 0=>[]
 | k+1=>if growsS (selS vs k) (vs.getD k [])=true then selX vs k++[(k:Int)] else selX vs k
theorem selS_succ {vs:List (List Rat)}{k:Nat}(hk:k<vs.length):selS vs (k+1)=addS (selS vs k) (vs.getD k []):=by
 unfold selS
 rw [take_snoc [] hk,List.foldl_append];rfl
theorem selS_t {vs:List (List Rat)}{k:Nat}(hk:k<vs.length)(h:growsS (selS vs k) (vs.getD k [])=true):selS vs (k+1)=selS vs k++[newR (selS vs k) (vs.getD k [])]:=by
 rw [selS_succ hk];exact if_pos h
theorem selS_f {vs:List (List Rat)}{k:Nat}(hk:k<vs.length)(h:growsS (selS vs k) (vs.getD k [])=false):selS vs (k+1)=selS vs k:=by
 rw [selS_succ hk];exact if_neg (by rw [h];exact Bool.false_ne_true)
theorem selX_len {vs:List (List Rat)}:∀ {k:Nat},k≤vs.length→(selX vs k).length=(selS vs k).length
 | 0,_=>rfl
 | k+1,h=>by
  rw [selX]
  cases hg:growsS (selS vs k) (vs.getD k []) with
  | true=>rw [selS_t (by omega) hg,if_pos rfl,la9,la9,selX_len (by omega)];rfl
  | false=>rw [selS_f (by omega) hg,if_neg Bool.false_ne_true,selX_len (by omega)]
theorem selS_ok {vs:List (List Rat)}{n:Nat}(hl:∀ v,v ∈ vs→v.length=n)(zv:∀ v,v ∈ vs→∀ i,sz (v.getD i 0)≤16777215):∀ {k:Nat},k≤vs.length→SpOK n 16777215 (selS vs k)∧∀ r,r ∈ selS vs k→r.p=firstP r.v
 | 0,_=>⟨SpOK.nil,fun _ h=>by cases h⟩
 | k+1,h=>by
  obtain ⟨a,b⟩:=selS_ok hl zv (k:=k) (by omega)
  have hm:=getD_mem (l:=vs) (i:=k) (by omega) []
  rw [selS_succ (by omega)]
  exact ⟨a.add (hl _ hm) (by decide) (zv _ hm),lead_add b⟩
theorem SpOK.rowsK {n:Nat}{rs:List SRow}(sp:SpOK n 16777215 rs)(hp:∀ r,r ∈ rs→r.p=firstP r.v)(n6:n≤6):RowsK n 0 (rs.map stripR):=by
 refine ⟨fun r hr=>?_,fun r hr=>?_,fun r hr=>?_,fun k r hk=>?_,by rw [lm9];have:=sp.le;omega⟩
 ·obtain ⟨x,hx,rfl⟩:=List.mem_map.1 hr
  exact sp.len x hx
 ·obtain ⟨x,hx,rfl⟩:=List.mem_map.1 hr
  exact ⟨hp x hx,sp.ech.piv x hx⟩
 ·obtain ⟨x,hx,rfl⟩:=List.mem_map.1 hr
  rfl
 ·rw [List.getElem?_map] at hk
  cases hq:rs[k]? with
  | none=>rw [hq] at hk;cases hk
  | some x =>
   rw [hq] at hk;cases hk
   have h:=sp.sz k x hq
   refine ⟨h.1,fun i=>?_⟩
   show sz (([]:List Rat).getD i 0)+1≤_
   rw [show ([]:List Rat).getD i 0=0 from rfl,sz_zero]
   exact Nat.le_trans (show 1+1≤16777215+1 by decide) (Nat.le_mul_of_pos_left _ (pow4_pos k))
theorem units_el {rs:List SRow}{i:Nat}(hi:i<rs.length):((rs.map unitR).map dQs)[i]? = some (dQs (unitR (rs.getD i default))):=by
 rw [List.map_map,List.getElem?_map,gd9,ge9 hi];rfl
theorem mix_less {cur u:List Rat}{f:Rat}:mixL cur (fun j=>cur.getD j 0-f*u.getD j 0) cur.length=lessU f u cur:=mixL_all fun j h1 h2=>by omega
theorem mix_div {rs:List SRow}{v:List Rat}:mixL (redV rs v) (fun j=>(redV rs v).getD j 0 / (redV rs v).getD (firstP (redV rs v)) 0) (redV rs v).length=unitR (newR rs v):=by
 rw [mixL_all fun j h1 h2=>by omega]
 refine List.ext_getElem (by rw [lm9,List.length_range,unitR_len];rfl) fun j h1 h2=>?_
 rw [lm9,List.length_range] at h1
 simp only [List.getElem_map,List.getElem_range]
 have e:(unitR (newR rs v))[j]=(unitR (newR rs v)).getD j 0:=by rw [gd9,ge9 h2];rfl
 rw [e,unitR_get]
 rfl
theorem restU_old {rs:List SRow}{v:List Rat}(h:growsS rs v=false):restU rs v=redV rs v:=if_neg (by rw [h];exact Bool.false_ne_true)
set_option maxRecDepth 8000 in
set_option maxHeartbeats 1600000 in
theorem r23forward {a:Au}{w:List Int}(f:Au.Fw a)(hw:InW a.sym w)(hl:w.length≤6):FSpec P F.ref23_forward [vAu a,.d (ints w)] (.d (dQs (fwA a w))):=by
 have hnum:=f.num
 have hst:=f.few.st
 have hini:=f.ok.ini
 refine FSpec.intro fn.ref23_forward (by rfl) (by rfl) (nb9 (by rfl)) fun E hE=>(AW.sg hE rfl (bxA rfl rfl fun b2=>(asM rfl (OL.nil (AW.sg hE rfl (faP fd.Auto_3 rfl rfl (ldPC ce.Weights rfl rfl rfl ?_)))))))
 refine clv rfl (VLes.refl _) (r23Numbers (l:=a.ini) (by omega)) (asD rfl (OL.nil (AW.seq (AW.sg hE rfl (asD rfl (OL.nil (AW.block ?_)))))))
 refine AW.whileK (α:=Nat) [(1,_),(2,_),(4,_)] [(2,_)] (fun i=>[(5,.d (dQs (fwA a (w.take i)))),(6,.d (dI i))]) (fun i=>[]) (fun i=>i≤w.length) (fun i=>w.length-i) 0 (.cons (knD rfl) (.cons (knP rfl) (.cons (knM rfl) .nil))) (.cons (owB rfl) .nil) ⟨Nat.zero_le _,.rq2,.nil⟩ ?_
 rintro i h1
 have h1:i≤w.length:=h1
 have hfl:(fwA a (w.take i)).length=a.st:=fwA_len f.ok _
 refine AW.seq (AW.sg hE rfl (mvD rfl (mvD rfl (lnL sl.ints rfl rfl (c_lss rfl rfl rfl (OL.nil (AW.cond rfl (fun h16=>?_) (fun h16=>?_))))))))
 ·try simp only [dx9] at h16
  refine AW.skip (AW.seq (AW.block (AW.seq ?_)))
  have hxw:=hw (w.getD i 0) (getD_mem (by omega) 0)
  refine AW.rg hE rfl (faP fd.Auto_2 rfl rfl (ldPC ce.int rfl rfl rfl (mkL dQ 0 sl.Rats z.Rat vcs_q0 rfl rfl (Nat.le_refl _) (by omega) (by omega) rfl fun b21=>(asO rfl (OL.nil (AW.seq (AW.sg hE rfl ?_)))))))
  refine asD rfl (OL.nil (AW.block ?_))
  refine AW.whileK (α:=Nat) [(1,_),(2,_),(4,_),(5,_),(6,_),(7,_)] [(2,_)] (fun k=>[(8,.d (dI k))]) (fun k=>[(21,.row b21 a.st T.Rat 3 ((stepF a.st (fwA a (w.take i)) (w.getD i 0).toNat (a.arcs.take k)).map dQ))]) (fun k=>k≤a.arcs.length) (fun k=>a.arcs.length-k) 0 (.cons (knD rfl) (.cons (knP rfl) (.cons (knM rfl) (.cons (knD rfl) (.cons (knD rfl) (.cons (knO rfl) .nil)))))) (.cons (owB rfl) .nil) ⟨Nat.zero_le _,.rq1,.cons rfl .nil⟩ ?_
  rintro k h2
  have h2:k≤a.arcs.length:=h2
  have hsl:(stepF a.st (fwA a (w.take i)) (w.getD i 0).toNat (a.arcs.take k)).length=a.st:=stepF_len
  refine AW.seq (AW.sg hE rfl (mvD rfl (faP fd.Auto_5 rfl rfl (ldPC ce.Arcs rfl rfl rfl (lnL sl.Arcs rfl rfl (c_lss rfl rfl rfl (OL.nil ?_)))))))
  refine AW.cond rfl (fun h26=>?_) (fun h26=>?_)
  ·try simp only [dx9] at h26
   refine AW.skip (AW.seq (AW.block (AW.seq ?_)))
   have hm:=getD_mem (l:=a.arcs) (i:=k) (by omega) default
   obtain ⟨hx1,hx2,hx3,hx4⟩:=f.ok.arc (a.arcs.getD k default) hm
   have hxz:=f.arc (a.arcs.getD k default) hm
   have hz1:=fwA_szV f hw hl i (a.arcs.getD k default).f
   have hz2:=fwA_szP (s:=(w.getD i 0).toNat) f hw hl i k (a.arcs.getD k default).t
   have hz3:=sz_mul ((fwA a (w.take i)).getD (a.arcs.getD k default).f 0) (a.arcs.getD k default).q
   refine AW.rg hE rfl (faP fd.Auto_5 rfl rfl (ldPC ce.Arcs rfl rfl rfl (mvD rfl (ixLn sl.Arcs default rfl rfl (by omega) rfl rfl (ldRA ag.Arc rfl (vs:=[_,_,_,_,_,_,_,_,_,_,_]) rfl (nb9 rfl) (al z.Arc rfl fun b9=>(sto sz.Arc rfl rfl rfl rfl rfl (nb9 rfl) (cells2:=[_,_,_,_,_,_,_,_,_,_,_]) rfl ?_)))))))
   refine OL.nil (AW.seq (AW.dg 1 [0,1,2,3,4,5,6] order_free hE rfl (by kernel_rfl) (OI.of_OL (os:=[_,_,_,_,_,_,_]) rfl ?_)))
   refine faP fd.Arc_1 rfl rfl (ldPC ce.int rfl rfl rfl (mvD rfl (mvD rfl (ixLn sl.ints 0 rfl rfl (by omega) rfl rfl (ldRC ce.int rfl (c_eql rfl rfl rfl (OL.nil ?_)))))))
   refine AW.cond rfl (fun hc=>?_) (fun hc=>?_)
   ·have hc:(a.arcs.getD k default).l=(w.getD i 0).toNat:=by have:=of_decide_eq_true hc;omega
    refine AW.dg 1 [0,1,2,3,4,5,6,7,8,9,10,11,12,13,14,15,16,17,18,19] order_free hE rfl (by kernel_rfl) (OI.of_OL (os:=[_,_,_,_,_,_,_,_,_,_,_,_,_,_,_,_,_,_,_,_]) rfl ?_)
    refine mvO rfl (faP fd.Arc_2 rfl rfl (ldPC ce.int rfl rfl rfl (mvO rfl (faP fd.Arc_2 rfl rfl (ldPC ce.int rfl rfl rfl (ixOn sl.Rats rfl rfl (by omega) (ldEAL ag.Rat 0 (by decide) rfl rfl (by omega) (vs:=[_,_,_]) rfl (nb9 rfl) ?_)))))))
    refine mvD rfl (faP fd.Arc_0 rfl rfl (ldPC ce.int rfl rfl rfl (ixLn sl.Rats 0 rfl rfl (by omega) rfl rfl (ldRA ag.Rat rfl (vs:=[_,_,_]) rfl (nb9 rfl) (faP fd.Arc_3 rfl rfl (faP fd.Weight_0 rfl rfl (ldPA ag.Rat rfl rfl (vs:=[_,_,_]) rfl (nb9 rfl) ?_)))))))
    refine clv rfl (VLes.refl _) (ref_MulQ (x:=(fwA a (w.take i)).getD (a.arcs.getD k default).f 0) (y:=(a.arcs.getD k default).q) (by omega) (by omega)) ?_
    refine clv rfl (VLes.refl _) (ref_AddQ (x:=(stepF a.st (fwA a (w.take i)) (w.getD i 0).toNat (a.arcs.take k)).getD (a.arcs.getD k default).t 0) (y:=(fwA a (w.take i)).getD (a.arcs.getD k default).f 0*(a.arcs.getD k default).q) (by omega) (by omega)) ?_
    refine ixOn sl.Rats rfl rfl (by omega) ?_
    refine stE sz.Rat rfl (d:=dQ ((stepF a.st (fwA a (w.take i)) (w.getD i 0).toNat (a.arcs.take k)).getD (a.arcs.getD k default).t 0+(fwA a (w.take i)).getD (a.arcs.getD k default).f 0*(a.arcs.getD k default).q)) vd_q rfl rfl (by rw [lm9];omega) (es2:=((stepF a.st (fwA a (w.take i)) (w.getD i 0).toNat (a.arcs.take k)).set (a.arcs.getD k default).t ((stepF a.st (fwA a (w.take i)) (w.getD i 0).toNat (a.arcs.take k)).getD (a.arcs.getD k default).t 0+(fwA a (w.take i)).getD (a.arcs.getD k default).f 0*(a.arcs.getD k default).q)).map dQ) (by rw [List.map_set]) ?_
    refine OL.nil (AW.rg hE rfl (mvD rfl (add_i64 rfl rfl (by omega) (asD rfl (OL.nil ?_)))))
    exact AW.again (x:=k) (k+1) (by omega) ⟨by omega,Knows.app .rq6 .rq1,Owns.app (.cons rfl .nil) (.cons (by rw [stepF_snoc (by omega),addF_t hc];rfl) .nil)⟩
   ·have hc:¬ (a.arcs.getD k default).l=(w.getD i 0).toNat:=by have:=of_decide_eq_false hc;omega
    refine AW.skip (AW.rg hE rfl (mvD rfl (add_i64 rfl rfl (by omega) (asD rfl (OL.nil ?_)))))
    exact AW.again (x:=k) (k+1) (by omega) ⟨by omega,Knows.app .rq6 .rq1,Owns.app (.cons rfl .nil) (.cons (by rw [stepF_snoc (by omega),addF_f hc];rfl) .nil)⟩
  ·try simp only [dx9] at h26
   refine AW.exit ?_
   obtain rfl:k=a.arcs.length:=by omega
   refine AW.freeze 21 rfl (AW.to [(1,.d (ints w)),(2,.ptr 2 b2 0),(4,.mt),(6,.d (dI i)),(7,.d (dQs (fwA a (w.take (i+1)))))] [(2,.box b2 T.Auto [.d (dI 1),.d (.sl []),.d (dI a.sym),.d (dI a.st),.d (dWs a.ini),.d (dWs a.fin),.d (dArcs a.arcs)])] (.cons vR (.cons vR (.cons vR (.cons vR (.cons (frz_osl (by rw [lm9,stepF_len]) (by rw [fwA_snoc (by omega),List.take_length])) .nil))))) (.cons rfl .nil) ?_)
   refine AW.rg hE rfl (mvD rfl (asD rfl (OL.nil (AW.rg hE rfl (mvD rfl (add_i64 rfl rfl (by omega) (asD rfl ?_)))))))
   exact OL.nil (AW.again (x:=i) (i+1) (by omega) ⟨by omega,Knows.app .rq3 .rq2,Owns.app (.cons rfl .nil) (.nil)⟩)
 ·try simp only [dx9] at h16
  refine AW.exit (AW.seq ?_)
  obtain rfl:i=w.length:=by omega
  exact AW.rg hE rfl (mvD rfl (asD rfl (OL.nil (AW.ret (RetQ.r ⟨_,.tmp rfl .nil,.le (by rw [List.take_length];exact VLe.refl _)⟩)))))
set_option maxRecDepth 8000 in
set_option maxHeartbeats 3200000 in
theorem r22reduce {v:List Rat}{n N b c:Nat}{rs:List SRow}(R:RowsK n N rs)(hv:v.length=n)(n6:n≤6)(N6:N≤6)(zv:∀ i,sz (v.getD i 0)≤16777215):FSpecM P F.ref22_reduce [.osl 1000 b rs.length c,.d (dQs v),.d (dI N)] (mem1 1000 (rowSK b c rs)) (.ag [.d (dQs (redV rs v)),.d (dQs (redK rs v (List.replicate N 0)))]) (mem1 1000 (rowSK b c rs)):=by
 have hle:=R.le
 refine FSpecM.intro fn.ref22_reduce (by rfl) (by rfl) (nb9 (by rfl)) fun E hE=>(AW.sg hE rfl (al z.row rfl fun b6=>(OL.nil (AW.seq (AW.dg 1 [0,1,2,3,4,5,6] order_free hE rfl (by kernel_rfl) (OI.of_OL (os:=[_,_,_,_,_,_,_]) rfl ?_))))))
 refine mvD rfl (clv rfl (VLes.refl _) (r22take (l:=v) (by omega) (fun i=>Nat.le_trans (zv i) (by decide))) (mvD rfl (mkD (z:=dQ 0) sl.Rats z.Rat vcs_q0 rfl rfl (by omega) (by omega) (bd2 (cs:=[_,_]) z.row pl.row (pvC (evD rfl) (pvC (evD rfl) pvN)) (by rfl) (al z.row rfl fun b7=>(sto sz.row rfl rfl rfl rfl rfl (nb9 rfl) (cells2:=[_,_]) rfl (OL.nil ?_)))))))
 refine AW.seq (AW.seq ?_)
 rw [show List.replicate N (dQ 0)=(List.replicate N (0:Rat)).map dQ from List.map_replicate.symm]
 refine AW.rg hE rfl (asD rfl (OL.nil (AW.block ?_)))
 refine AW.whileK (α:=Nat) [(0,_),(6,_),(7,_)] [(6,_),(1000,_)] (fun k=>[(8,.d (dI k))]) (fun k=>[(7,.box b7 T.row [.d (dQs (redV (rs.take k) v)),.d (dQs (redK (rs.take k) v (List.replicate N 0)))])]) (fun k=>k≤rs.length) (fun k=>rs.length-k) 0 (.cons (knO rfl) (.cons (knP rfl) (.cons (knP rfl) .nil))) (.cons (owB rfl) (.cons (owR rfl) .nil)) ⟨Nat.zero_le _,.rq1,.cons rfl .nil⟩ ?_
 rintro k h1
 have h1:k≤rs.length:=h1
 have hwl:(redV (rs.take k) v).length=v.length:=redV_len _ _
 have htl:(redK (rs.take k) v (List.replicate N 0)).length=N:=by rw [redK_len,List.length_replicate]
 refine AW.seq (AW.sg hE rfl (mvD rfl (mvO rfl (lnO sl.rows rfl rfl (c_lss rfl rfl rfl (OL.nil (AW.cond rfl (fun h19=>?_) (fun h19=>?_))))))))
 ·try simp only [dx9] at h19
  refine AW.skip (AW.seq (AW.block (AW.seq ?_)))
  have hkr:k<rs.length:=by omega
  obtain ⟨zw,zt,zr,zc⟩:=R.bounds (w:=v) hkr zv
  obtain ⟨hp1,hp2,hp3⟩:=R.piv _ (getDS_mem hkr)
  have hrl:=R.len _ (getDS_mem hkr)
  have hcl:=R.cl _ (getDS_mem hkr)
  have zq:=sz_div ((redV (rs.take k) v).getD (rs.getD k default).p 0) ((rs.getD k default).v.getD (rs.getD k default).p 0)
  have zq1:=zw (rs.getD k default).p
  have zq2:=zr (rs.getD k default).p
  have zqq:sz (qotR (redV (rs.take k) v) (rs.getD k default))≤34359738366:=Nat.le_trans zq (by omega)
  have hpl:leadI (rs.getD k default).v=((rs.getD k default).p:Int):=(leadI_some (by rw [← hp1];omega)).trans (by rw [← hp1])
  refine AW.rg hE rfl (mvO rfl (mvD rfl (ixOn sl.rows rfl rfl hkr (faE fd.row_0 rfl rfl (ldEC ce.Rats (by decide) rfl rfl (rowSK_el hkr) (d:=dQs (rs.getD k default).v) rfl (clv rfl (VLes.refl _) (r22lead (v:=(rs.getD k default).v) (by omega) (fun i=>Nat.le_trans (zr i) (by decide))) ?_))))))
  rw [hpl]
  refine asD rfl (OL.nil (AW.seq (AW.dg 1 [0,1,2,3,4,5,6,7,8,9,10,11,12,13,14,15] order_free hE rfl (by kernel_rfl) (OI.of_OL (os:=[_,_,_,_,_,_,_,_,_,_,_,_,_,_,_,_]) rfl ?_))))
  refine faP fd.row_0 rfl rfl (ldPC ce.Rats rfl rfl rfl (mvD rfl (ixLn sl.Rats 0 rfl rfl (by omega) rfl rfl (ldRA ag.Rat rfl (vs:=[_,_,_]) rfl (nb9 rfl) (mvO rfl (mvD rfl (ixOn sl.rows rfl rfl hkr ?_)))))))
  refine faE fd.row_0 rfl rfl (ldEC ce.Rats (by decide) rfl rfl (rowSK_el hkr) (d:=dQs (rs.getD k default).v) rfl (mvD rfl (ixLn sl.Rats 0 rfl rfl (by omega) rfl rfl (ldRA ag.Rat rfl (vs:=[_,_,_]) rfl (nb9 rfl) (clv rfl (VLes.refl _) (ref_QuoQ (x:=(redV (rs.take k) v).getD (rs.getD k default).p 0) (y:=(rs.getD k default).v.getD (rs.getD k default).p 0) (by omega) (by omega) hp3) ?_)))))
  rw [← qot_nz]
  refine al z.Rat rfl fun b10=>(sto sz.Rat rfl rfl rfl rfl rfl (nb9 rfl) (cells2:=[_,_,_]) rfl (OL.nil (AW.dg 1 [0,1,2,3,4,5,6,7,8,9,10,11,12,13,14,15,16,17,18,19,20,21] order_free hE rfl (by kernel_rfl) (OI.of_OL (os:=[_,_,_,_,_,_,_,_,_,_,_,_,_,_,_,_,_,_,_,_,_,_]) rfl ?_))))
  refine faP fd.row_0 rfl rfl (ldPC ce.Rats rfl rfl rfl (mvO rfl (mvD rfl (ixOn sl.rows rfl rfl hkr (faE fd.row_0 rfl rfl (ldEC ce.Rats (by decide) rfl rfl (rowSK_el hkr) (d:=dQs (rs.getD k default).v) rfl (ldPA ag.Rat rfl rfl (vs:=[_,_,_]) rfl (nb9 rfl) ?_)))))))
  refine clv rfl (VLes.refl _) (r22less (v:=(redV (rs.take k) v)) (w:=(rs.getD k default).v) (c:=qotR (redV (rs.take k) v) (rs.getD k default)) (by omega) (by omega) zw zr zqq) (faP fd.row_1 rfl rfl (ldPC ce.Rats rfl rfl rfl (mvO rfl (mvD rfl (ixOn sl.rows rfl rfl hkr (faE fd.row_1 rfl rfl (ldEC ce.Rats (by decide) rfl rfl (rowSK_el hkr) (d:=dQs (rs.getD k default).c) rfl ?_)))))))
  refine ldPA ag.Rat rfl rfl (vs:=[_,_,_]) rfl (nb9 rfl) (clv rfl (VLes.refl _) (r22less (v:=(redK (rs.take k) v (List.replicate N 0))) (w:=(rs.getD k default).c) (c:=qotR (redV (rs.take k) v) (rs.getD k default)) (by omega) (by omega) zt zc zqq) (faP fd.row_0 rfl rfl (sto sz.Rats rfl rfl rfl rfl rfl (nb9 rfl) (cells2:=[_,_]) rfl (faP fd.row_1 rfl rfl (sto sz.Rats rfl rfl rfl rfl rfl (nb9 rfl) (cells2:=[_,_]) rfl (OL.nil (AW.rg hE rfl ?_)))))))
  refine mvD rfl (add_i64 rfl rfl (by omega) (asD rfl (OL.nil ?_)))
  exact AW.again (x:=k) (k+1) (by omega) ⟨by omega,Knows.app .rq3 .rq1,Owns.app (.cons rfl (.cons rfl .nil)) (.cons (by rw [redV_take hkr,redK_take hkr,← lessQ_step];rfl) .nil)⟩
 ·try simp only [dx9] at h19
  refine AW.exit (AW.seq ?_)
  obtain rfl:k=rs.length:=by omega
  rw [List.take_length]
  exact AW.rg hE rfl (ldPA ag.row rfl rfl (vs:=[_,_]) rfl (nb9 rfl) (sto sz.row rfl rfl rfl rfl rfl (nb9 rfl) (cells2:=[_,_]) rfl (OL.nil (AW.ret ⟨⟨_,.cellA rfl rfl ag.row (nb9 rfl) .nil,.ag (.cons (.le vR) (.cons (.le vR) .nil))⟩,mem1_keep rfl⟩))))
set_option maxRecDepth 8000 in
set_option maxHeartbeats 1600000 in
theorem r22Select {vs:List (List Rat)}{n:Nat}(hn:1≤n∧n≤6)(nl:vs.length≤6)(hl:∀ v,v ∈ vs→v.length=n)(zv:∀ v,v ∈ vs→∀ i,sz (v.getD i 0)≤16777215):FSpec P F.ref22_Select [.d (.sl (vs.map dQs))] (.tup [.d (ints (selX vs vs.length)),.d (dI 0)]):=by
 refine FSpec.intro fn.ref22_Select (by rfl) (by rfl) (nb9 (by rfl)) fun E hE=>(AW.sg hE rfl (asM rfl (asD rfl (OL.nil (AW.seq (AW.sg hE rfl (mvD rfl ?_)))))))
 refine lnL sl.Ratss rfl rfl (c_gtr rfl rfl (c:=false) (by exact decide_eq_false (by omega)) (mvD rfl (OL.yes rfl (mvD rfl (OL.yes rfl (clv rfl (VLes.refl _) (r22sized (l:=vs) (n:=n) (by omega) (by omega) hl) (OL.yes rfl ?_)))))))
 refine nt rfl (pkF rfl rfl (OL.nil (AW.cond rfl (fun hno=>absurd hno (by decide)) (fun _=>?_))))
 refine AW.skip (AW.sg hE rfl (asM rfl (OL.nil (AW.seq (AW.own 4 39 T.int 1 rfl rfl (AW.rg hE rfl (asM rfl ?_)))))))
 refine OL.nil (AW.seq (AW.seq (AW.own 5 35 T.row 2 rfl rfl (AW.rg hE rfl (asD rfl (OL.nil (AW.block ?_)))))))
 refine AW.whileK (α:=Nat × Nat × Nat × Nat × Nat) [(0,_),(2,_),(3,_)] [] (fun (i,bq,cq,bp,cp)=>[(4,.osl 39 bq (selX vs i).length cq),(5,.osl 35 bp ((selS vs i).map stripR).length cp),(6,.d (dI i))]) (fun (i,bq,cq,bp,cp)=>[(39,.row bq cq T.int 1 ((selX vs i).map dI)),(35,rowSK bp cp ((selS vs i).map stripR))]) (fun (i,bq,cq,bp,cp)=>i≤vs.length) (fun (i,bq,cq,bp,cp)=>vs.length-i) (0,0,0,0,0) (.cons (knD rfl) (.cons (knM rfl) (.cons (knD rfl) .nil))) .nil ⟨Nat.zero_le _,.rq3,.cons rfl (.cons rfl .nil)⟩ ?_
 rintro ⟨i,bq,cq,bp,cp⟩ h1
 have h1:i≤vs.length:=h1
 obtain ⟨spo,hld⟩:=selS_ok hl zv h1
 have hsle:=spo.le
 have hxl:=selX_len h1
 have hsl:((selS vs i).map stripR).length=(selS vs i).length:=lm9 ..
 refine AW.seq (AW.sg hE rfl (mvD rfl (mvD rfl (lnL sl.Ratss rfl rfl (c_lss rfl rfl rfl (OL.nil (AW.cond rfl (fun h19=>?_) (fun h19=>?_))))))))
 ·try simp only [dx9] at h19
  refine AW.skip (AW.seq (AW.block (AW.seq ?_)))
  have hi:i<vs.length:=by omega
  have hvl:=hl _ (getD_mem hi [])
  have zvi:=zv _ (getD_mem hi [])
  refine AW.rg hE rfl (mvO rfl (mvD rfl (mvD rfl (ixLn sl.Ratss [] rfl rfl (by omega) rfl rfl (ldRC ce.Rats rfl ?_)))))
  refine clC0 (args2:=[.osl 35 bp ((selS vs i).map stripR).length cp,.d (dQs (vs.getD i [])),.d (dI (0:Nat))]) rfl (VLes.refl _) (FSpecM.ren1 (r22reduce (v:=(vs.getD i [])) (N:=0) (b:=bp) (c:=cp) (SpOK.rowsK spo hld hn.2) hvl hn.2 (by decide) zvi) (.cons VLe.osl .rq2)) (mem1_keep (id:=35) (blk:=rowSK bp cp ((selS vs i).map stripR)) rfl) ?_
  rw [redV_strip,redK_none]
  refine al z.row rfl fun b7=>(sto sz.row rfl rfl rfl rfl rfl (nb9 rfl) (cells2:=[_,_]) rfl (OL.nil (AW.sg hE rfl (faP fd.row_0 rfl rfl (ldPC ce.Rats rfl rfl rfl (clv rfl (VLes.refl _) (r22lead (v:=redV (selS vs i) (vs.getD i [])) (by rw [redV_len];omega) (fun j=>Nat.le_trans ((spo.sz.last (by omega) zvi).1 j) (by decide))) (c_geq rfl rfl rfl ?_)))))))
  refine OL.nil (AW.cond rfl (fun hg=>?_) (fun hg=>?_))
  ·have hg:growsS (selS vs i) (vs.getD i [])=true:=Decidable.byContradiction fun h9=>by have:=leadI_neg.2 (Bool.eq_false_iff.2 h9);have:=of_decide_eq_true hg;omega
   have hx1:selX vs (i+1)=selX vs i++[(i:Int)]:=by rw [selX,if_pos hg]
   have hs1:(selS vs (i+1)).map stripR=((selS vs i).map stripR)++[(stripR (newR (selS vs i) (vs.getD i [])))]:=by rw [selS_t hi hg,List.map_append];rfl
   refine AW.rg hE rfl (mvO rfl (ldPA ag.row rfl rfl (vs:=[_,_]) rfl (nb9 rfl) (lt1 (y:=dSK (stripR (newR (selS vs i) (vs.getD i [])))) sl.rows (vd_SK (r:=(stripR (newR (selS vs i) (vs.getD i []))))) rfl (by decide) ?_)))
   refine apO sl.rows rfl rfl rfl (lm9 ..).symm (VC.d _) (fun y hy=>by rw [List.mem_singleton.1 hy];rfl) (by simp only [ls9];omega) (by simp only [ls9];omega) (.inr rfl) (ys:=((selS vs (i+1)).map stripR).map dSK) (by rw [hs1,List.map_append (f:=dSK)];rfl) (n2:=((selS vs (i+1)).map stripR).length) (by rw [hs1,la9];rfl) fun b35 c35=>?_
   refine mvO rfl (mvD rfl (lt1 (y:=dI i) sl.ints (VC.d _).vd rfl (by decide) ?_))
   refine apO sl.ints rfl rfl rfl (by rw [lm9]) (VC.d _) (fun y hy=>by rw [List.mem_singleton.1 hy];rfl) (by simp only [ls9];omega) (by simp only [ls9];omega) (.inr rfl) (ys:=(selX vs (i+1)).map dI) (by rw [hx1,List.map_append];rfl) (n2:=(selX vs (i+1)).length) (by rw [hx1,la9];rfl) fun b39 c39=>?_
   refine asO rfl (asO rfl (OL.nil (AW.rg hE rfl (mvD rfl (add_i64 rfl rfl (by omega) (asD rfl (OL.nil ?_)))))))
   exact AW.again (x:=(i,bq,cq,bp,cp)) (i+1,b39,c39,b35,c35) (by (simp only [];omega)) ⟨by omega,Knows.app .rq3 .rq3,.cons rfl (.cons rfl .nil)⟩
  ·have hg:growsS (selS vs i) (vs.getD i [])=false:=leadI_neg.1 (by have:=of_decide_eq_false hg;omega)
   refine AW.skip (AW.rg hE rfl (mvD rfl (add_i64 rfl rfl (by omega) (asD rfl (OL.nil ?_)))))
   exact AW.again (x:=(i,bq,cq,bp,cp)) (i+1,bq,cq,bp,cp) (by (simp only [];omega)) ⟨by omega,Knows.app .rq3 (.cons (by rw [selX,if_neg (by rw [hg];exact Bool.false_ne_true)];exact VLe.refl _) (.cons (by rw [selS_f (by omega) hg];exact VLe.refl _) .rq1)),.cons (by rw [selX,if_neg (by rw [hg];exact Bool.false_ne_true)];rfl) (.cons (by rw [selS_f (by omega) hg];rfl) .nil)⟩
 ·try simp only [dx9] at h19
  refine AW.exit (AW.seq ?_)
  obtain rfl:i=vs.length:=by omega
  exact AW.rg hE rfl (mvO rfl (asO rfl (asD rfl (OL.nil (AW.ret (RetQ.r ⟨_,.tmp rfl (.tmp rfl .nil),_,.cons (RO.all rfl rfl (by rw [lm9]) rfl) (.cons (.le vR) .nil),rfl⟩))))))
set_option maxRecDepth 8000 in
set_option maxHeartbeats 3200000 in
theorem r23reduced {v:List Rat}{n b c:Nat}{rs:List SRow}(sp:SpOK n 16777215 rs)(hld:∀ r,r ∈ rs→r.p=firstP r.v)(hv:v.length=n)(n6:n≤6)(zv:∀ i,sz (v.getD i 0)≤16777215):FSpecM P F.ref23_reduced [.osl 1000 b (rs.map unitR).length c,.d (dQs v)] (mem1 1000 (.row b c T.Rats 1 ((rs.map unitR).map dQs))) (.d (dQs (restU rs v))) (mem1 1000 (.row b c T.Rats 1 ((rs.map unitR).map dQs))):=by
 have hle:=sp.le
 have hul:(rs.map unitR).length=rs.length:=lm9 ..
 refine FSpecM.intro fn.ref23_reduced (by rfl) (by rfl) (nb9 (by rfl)) fun E hE=>?_
 refine AW.sg hE rfl ?_
 refine asM rfl ?_
 refine OL.nil ?_
 refine AW.sg hE rfl ?_
 refine mvD rfl ?_
 refine apM sl.Rats rfl rfl (VC.d _) qs_len (by simp;omega) (by simp;omega) rfl fun b13 c13=>?_
 refine asO rfl (OL.nil (AW.seq (AW.seq ?_)))
 refine AW.to [(0,.osl 1000 b (rs.map unitR).length c),(5,.osl 13 b13 v.length c13)] [(1000,.row b c T.Rats 1 ((rs.map unitR).map dQs)),(13,.row b13 c13 T.Rat 3 (v.map dQ))] (.cons vR (.cons (vle_of_eq (by show V.osl 13 b13 (v.map dQ).length c13=_;rw [lm9])) .nil)) (.cons rfl (.cons rfl .nil)) ?_
 refine AW.rg hE rfl (asD rfl (OL.nil (AW.block ?_)))
 refine AW.whileK (α:=Nat) [(0,_),(4,_),(5,_)] [(1000,_)] (fun i=>[(6,.d (dI i))]) (fun i=>[(13,.row b13 c13 T.Rat 3 ((redV (rs.take i) v).map dQ))]) (fun i=>i≤rs.length) (fun i=>rs.length-i) 0 (.cons (knO rfl) (.cons (knJ) (.cons (knO rfl) .nil))) (.cons (owR rfl) .nil) ⟨Nat.zero_le _,.rq1,.cons rfl .nil⟩ ?_
 rintro i h1
 have h1:i≤rs.length:=h1
 have hcl:(redV (rs.take i) v).length=v.length:=redV_len _ _
 refine AW.seq (AW.sg hE rfl (mvD rfl (mvO rfl (lnO sl.Ratss rfl rfl (c_lss rfl rfl rfl (OL.nil (AW.cond rfl (fun h17=>?_) (fun h17=>?_))))))))
 ·try simp only [dx9] at h17
  refine AW.skip (AW.seq (AW.block (AW.seq ?_)))
  have hi:i<rs.length:=by omega
  obtain ⟨zw,_,zr,_⟩:=sp.sz.bounds (w:=v) (n:=0) (by omega) hi zv
  obtain ⟨hp1,hp2⟩:=sp.ech.piv _ (getDS_mem hi)
  have hrl:=sp.len _ (getDS_mem hi)
  have hpl:leadI (unitR (rs.getD i default))=((rs.getD i default).p:Int):=unitR_lead (hld _ (getDS_mem hi)) (by omega) hp2
  have hunl:=unitR_len (r:=(rs.getD i default))
  have zu:=unitR_sz zr
  refine AW.rg hE rfl (mvO rfl (mvO rfl (mvD rfl (ixOn sl.Ratss rfl rfl (by omega) (ldEC ce.Rats (by decide) rfl rfl (units_el hi) (d:=dQs (unitR (rs.getD i default))) rfl (clv rfl (VLes.refl _) (r23lead (v:=unitR (rs.getD i default)) (by omega) (fun j=>Nat.le_trans (zu j) (by decide))) ?_))))))
  rw [hpl]
  refine ixOn sl.Rats rfl rfl (by omega) (ldEAL ag.Rat 0 (by decide) rfl rfl (by omega) (vs:=[_,_,_]) rfl (nb9 rfl) (al z.Rat rfl fun b7=>(sto sz.Rat rfl rfl rfl rfl rfl (nb9 rfl) (cells2:=[_,_,_]) rfl (OL.nil (AW.sg hE rfl (asD rfl (OL.nil ?_)))))))
  refine AW.block ?_
  refine AW.whileK (α:=Nat) [(0,_),(4,_),(5,_),(6,_),(7,_)] [(7,_),(1000,_)] (fun j=>[(8,.d (dI j))]) (fun j=>[(13,.row b13 c13 T.Rat 3 ((mixL (redV (rs.take i) v) (fun j=>(redV (rs.take i) v).getD j 0-((redV (rs.take i) v).getD (rs.getD i default).p 0)*(unitR (rs.getD i default)).getD j 0) j).map dQ))]) (fun j=>j≤v.length∧(((redV (rs.take i) v).getD (rs.getD i default).p 0)=0→j=0)) (fun j=>v.length-j) 0 (.cons (knO rfl) (.cons (knJ) (.cons (knO rfl) (.cons (knD rfl) (.cons (knP rfl) .nil))))) (.cons (owB rfl) (.cons (owR rfl) .nil)) ⟨⟨Nat.zero_le _,fun _=>rfl⟩,.rq1,.cons (by rw [mixL_zero];rfl) .nil⟩ ?_
  rintro j ⟨h2,hj0⟩
  have h2:j≤v.length:=h2
  have hj0:((redV (rs.take i) v).getD (rs.getD i default).p 0)=0→j=0:=hj0
  have hml:(mixL (redV (rs.take i) v) (fun j=>(redV (rs.take i) v).getD j 0-((redV (rs.take i) v).getD (rs.getD i default).p 0)*(unitR (rs.getD i default)).getD j 0) j).length=v.length:=mixL_len.trans hcl
  have z1:=zw (rs.getD i default).p
  refine AW.seq (AW.sg hE rfl (mvD rfl (mvO rfl (lnO sl.Rats rfl rfl (c_lss rfl rfl rfl (OL.split 31 rfl (fun ha=>?_) (fun ha=>?_)))))))
  ·have ha:j<v.length:=by have:=of_decide_eq_true ha;omega
   refine mvD rfl (OL.yes rfl (ldPA ag.Rat rfl rfl (vs:=[_,_,_]) rfl (nb9 rfl) (OL.yes rfl (clv rfl (VLes.refl _) (ref_SignQ (x:=((redV (rs.take i) v).getD (rs.getD i default).p 0)) (by omega)) (OL.yes rfl (c_neq rfl rfl rfl (OL.split 35 rfl (fun hf=>?_) (fun hf=>?_))))))))
   ·have hf:((redV (rs.take i) v).getD (rs.getD i default).p 0)≠0:=fun e=>nd_t hf (sgnQ_eq.2 e)
    refine pkT rfl rfl (OL.nil (AW.cond rfl (fun _=>?_) (fun hno=>absurd hno (by decide))))
    refine AW.skip (AW.seq (AW.block ?_))
    have hgj:(mixL (redV (rs.take i) v) (fun j=>(redV (rs.take i) v).getD j 0-((redV (rs.take i) v).getD (rs.getD i default).p 0)*(unitR (rs.getD i default)).getD j 0) j).getD j 0=(redV (rs.take i) v).getD j 0:=mixL_get (by omega)
    have z2:=zw j
    have z3:=zu j
    have z4:=sz_mul ((redV (rs.take i) v).getD (rs.getD i default).p 0) ((unitR (rs.getD i default)).getD j 0)
    refine AW.dg 1 [0,1,2,3,4,5,6,7,8,9,10,11,12,13,14,15,16,17] order_free hE rfl (by kernel_rfl) (OI.of_OL (os:=[_,_,_,_,_,_,_,_,_,_,_,_,_,_,_,_,_,_]) rfl ?_)
    refine mvO rfl (mvD rfl (mvO rfl (mvD rfl (ixOn sl.Rats rfl rfl (by omega) (ldEAL ag.Rat 0 (by decide) rfl rfl (by omega) (vs:=[_,_,_]) rfl (nb9 rfl) ?_)))))
    rw [hgj]
    refine ldPA ag.Rat rfl rfl (vs:=[_,_,_]) rfl (nb9 rfl) (mvO rfl (mvD rfl (ixOn sl.Ratss rfl rfl (by omega) (ldEC ce.Rats (by decide) rfl rfl (units_el hi) (d:=dQs (unitR (rs.getD i default))) rfl (mvD rfl (ixLn sl.Rats 0 rfl rfl (by omega) rfl rfl (ldRA ag.Rat rfl (vs:=[_,_,_]) rfl (nb9 rfl) ?_)))))))
    refine clv rfl (VLes.refl _) (ref_MulQ (x:=((redV (rs.take i) v).getD (rs.getD i default).p 0)) (y:=(unitR (rs.getD i default)).getD j 0) (by omega) (by omega)) (clv rfl (VLes.refl _) (ref_SubQ (x:=(redV (rs.take i) v).getD j 0) (y:=((redV (rs.take i) v).getD (rs.getD i default).p 0)*(unitR (rs.getD i default)).getD j 0) (by omega) (by omega)) (ixOn sl.Rats rfl rfl (by omega) ?_))
    refine stE sz.Rat rfl (d:=dQ ((fun j=>(redV (rs.take i) v).getD j 0-((redV (rs.take i) v).getD (rs.getD i default).p 0)*(unitR (rs.getD i default)).getD j 0) j)) vd_q rfl rfl (by rw [lm9];omega) (es2:=((mixL (redV (rs.take i) v) (fun j=>(redV (rs.take i) v).getD j 0-((redV (rs.take i) v).getD (rs.getD i default).p 0)*(unitR (rs.getD i default)).getD j 0) j).set j ((fun j=>(redV (rs.take i) v).getD j 0-((redV (rs.take i) v).getD (rs.getD i default).p 0)*(unitR (rs.getD i default)).getD j 0) j)).map dQ) (by rw [List.map_set]) ?_
    refine OL.nil (AW.rg hE rfl (mvD rfl (add_i64 rfl rfl (by omega) (asD rfl (OL.nil ?_)))))
    exact AW.again (x:=j) (j+1) (by omega) ⟨⟨by omega,fun h=>absurd h hf⟩,Knows.app .rq5 .rq1,Owns.app (.cons rfl (.cons rfl .nil)) (.cons (by rw [← mixL_set (show j<(redV (rs.take i) v).length by omega)];rfl) .nil)⟩
   ·have hf:((redV (rs.take i) v).getD (rs.getD i default).p 0)=0:=sgnQ_eq.1 (nd_f hf)
    refine pkT rfl rfl (OL.nil (AW.cond rfl (fun hno=>absurd hno (by decide)) (fun _=>?_)))
    refine AW.exit (AW.rg hE rfl (mvD rfl (add_i64 rfl rfl (by omega) (asD rfl (OL.nil ?_)))))
    exact AW.again (x:=i) (i+1) (by omega) ⟨by omega,Knows.app .rq3 .rq1,Owns.app (.cons rfl .nil) (.cons (by rw [redV_take hi,redStep_zero (by rw [qot_nz,hf];rw [Rat.div_def,Rat.zero_mul]),hj0 hf,mixL_zero];rfl) .nil)⟩
  ·have ha:¬ j<v.length:=by have:=of_decide_eq_false ha;omega
   obtain rfl:j=v.length:=by omega
   refine mvD rfl (OL.nd rfl (OL.nd rfl (OL.nd rfl (pkF rfl rfl (OL.nil (AW.cond rfl (fun hno=>absurd hno (by decide)) (fun _=>?_)))))))
   exact AW.exit (AW.rg hE rfl (mvD rfl (add_i64 rfl rfl (by omega) (asD rfl (OL.nil (AW.again (x:=i) (i+1) (by omega) ⟨by omega,Knows.app .rq3 .rq1,Owns.app (.cons rfl .nil) (.cons (by rw [redV_take hi,← lessU_step hp2,← mix_less,hcl];rfl) .nil)⟩))))))
 ·try simp only [dx9] at h17
  refine AW.exit (AW.seq ?_)
  obtain rfl:i=rs.length:=by omega
  rw [List.take_length]
  rw [List.take_length] at hcl
  obtain ⟨zl,_⟩:=sp.sz.last (w:=v) (by omega) zv
  refine AW.rg hE rfl (mvO rfl ?_)
  refine clC0 (args2:=[.osl 13 b13 v.length c13]) rfl (VLes.refl _) (FSpec.read (r23lead (v:=(redV rs v)) (by omega) (fun j=>Nat.le_trans (zl j) (by decide))) (.cons (frz_osl (by rw [lm9];omega) rfl) .nil)) (mem1_keep (id:=13) (blk:=.row b13 c13 T.Rat 3 ((redV rs v).map dQ)) rfl) ?_
  refine asD rfl (OL.nil (AW.seq (AW.sg hE rfl (mvD rfl (c_lss rfl rfl rfl (OL.nil (AW.cond rfl (fun hg=>?_) (fun hg=>?_))))))))
  ·have hg:growsS rs v=false:=leadI_neg.1 (of_decide_eq_true hg)
   exact AW.sg hE rfl (mvO rfl (asO rfl (OL.nil (AW.ret ⟨⟨_,.tmp rfl .nil,RO.all rfl rfl (by rw [lm9];omega) (by rw [restU_old hg])⟩,mem1_keep rfl⟩))))
  ·have hg:growsS rs v=true:=Decidable.byContradiction fun h9=>by have:=leadI_neg.2 (Bool.eq_false_iff.2 h9);have:=of_decide_eq_false hg;omega
   have hpp:firstP (redV rs v)<(redV rs v).length:=growsS_lead.1 hg
   have hpl2:leadI (redV rs v)=((firstP (redV rs v):Nat):Int):=leadI_some hpp
   rw [hpl2]
   have hnz:=firstP_nz hpp
   refine AW.skip (AW.sg hE rfl (mvO rfl (mvD rfl (ixOn sl.Rats rfl rfl (by omega) (ldEAL ag.Rat 0 (by decide) rfl rfl (by omega) (vs:=[_,_,_]) rfl (nb9 rfl) (al z.Rat rfl fun b10=>(sto sz.Rat rfl rfl rfl rfl rfl (nb9 rfl) (cells2:=[_,_,_]) rfl ?_)))))))
   refine OL.nil (AW.seq (AW.sg hE rfl (asD rfl (OL.nil (AW.block ?_)))))
   refine AW.whileK (α:=Nat) [(4,_),(5,_),(10,_)] [(10,_),(1000,_)] (fun j=>[(11,.d (dI j))]) (fun j=>[(13,.row b13 c13 T.Rat 3 ((mixL (redV rs v) (fun j=>(redV rs v).getD j 0 / (redV rs v).getD (firstP (redV rs v)) 0) j).map dQ))]) (fun j=>j≤v.length) (fun j=>v.length-j) 0 (.cons (knJ) (.cons (knO rfl) (.cons (knP rfl) .nil))) (.cons (owB rfl) (.cons (owR rfl) .nil)) ⟨Nat.zero_le _,.rq1,.cons (by rw [mixL_zero];rfl) .nil⟩ ?_
   rintro j h2
   have h2:j≤v.length:=h2
   have hml:(mixL (redV rs v) (fun j=>(redV rs v).getD j 0 / (redV rs v).getD (firstP (redV rs v)) 0) j).length=v.length:=mixL_len.trans hcl
   have z1:=zl (firstP (redV rs v))
   have z2:=zl j
   refine AW.seq (AW.sg hE rfl (mvD rfl (mvO rfl (lnO sl.Rats rfl rfl (c_lss rfl rfl rfl (OL.nil (AW.cond rfl (fun h68=>?_) (fun h68=>?_))))))))
   ·try simp only [dx9] at h68
    refine AW.skip (AW.seq (AW.block ?_))
    have hgj:(mixL (redV rs v) (fun j=>(redV rs v).getD j 0 / (redV rs v).getD (firstP (redV rs v)) 0) j).getD j 0=(redV rs v).getD j 0:=mixL_get (by omega)
    refine AW.dg 1 [0,1,2,3,4,5,6,7,8,9,10,11,12] order_free hE rfl (by kernel_rfl) (OI.of_OL (os:=[_,_,_,_,_,_,_,_,_,_,_,_,_]) rfl ?_)
    refine mvO rfl (mvD rfl (mvO rfl (mvD rfl (ixOn sl.Rats rfl rfl (by omega) (ldEAL ag.Rat 0 (by decide) rfl rfl (by omega) (vs:=[_,_,_]) rfl (nb9 rfl) ?_)))))
    rw [hgj]
    refine ldPA ag.Rat rfl rfl (vs:=[_,_,_]) rfl (nb9 rfl) (clv rfl (VLes.refl _) (ref_DivQ (x:=(redV rs v).getD j 0) (y:=(redV rs v).getD (firstP (redV rs v)) 0) (by omega) (by omega) hnz) (mvT rfl (ex rfl rfl (ex rfl rfl (ixOn sl.Rats rfl rfl (by omega) ?_)))))
    refine stE sz.Rat rfl (d:=dQ ((fun j=>(redV rs v).getD j 0 / (redV rs v).getD (firstP (redV rs v)) 0) j)) vd_q rfl rfl (by rw [lm9];omega) (es2:=((mixL (redV rs v) (fun j=>(redV rs v).getD j 0 / (redV rs v).getD (firstP (redV rs v)) 0) j).set j ((fun j=>(redV rs v).getD j 0 / (redV rs v).getD (firstP (redV rs v)) 0) j)).map dQ) (by rw [List.map_set]) ?_
    refine OL.nil (AW.rg hE rfl (mvD rfl (add_i64 rfl rfl (by omega) (asD rfl (OL.nil ?_)))))
    exact AW.again (x:=j) (j+1) (by omega) ⟨by omega,Knows.app .rq3 .rq1,Owns.app (.cons rfl (.cons rfl .nil)) (.cons (by rw [← mixL_set (show j<(redV rs v).length by omega)];rfl) .nil)⟩
   ·try simp only [dx9] at h68
    refine AW.exit (AW.seq ?_)
    obtain rfl:j=v.length:=by omega
    rw [← hcl,mix_div]
    exact AW.rg hE rfl (mvO rfl (asO rfl (OL.nil (AW.ret ⟨⟨_,.tmp rfl .nil,RO.all rfl rfl (by rw [lm9,unitR_len];rfl) (by rw [restU_new hg])⟩,mem1_keep rfl⟩))))
end Go.Proofs.YtfbblpngcmjooaaGreatDoor
