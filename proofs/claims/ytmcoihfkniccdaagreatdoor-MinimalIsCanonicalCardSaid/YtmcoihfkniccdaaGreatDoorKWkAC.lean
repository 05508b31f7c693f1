/-
  Walks of layer 23 of the specification, part 3: the search for a basis (printed by mk2.py).
-/
import Derived.Test.YtmcoihfkniccdaaGreatDoorKWkAA
import Derived.Test.YtmcoihfkniccdaaGreatDoorKWkO
set_option linter.unusedVariables false
set_option linter.unusedSimpArgs false
namespace Go.Proofs.YtmcoihfkniccdaaGreatDoor
open Go Go.AL
theorem units_el {rs:List SRow}{i:Nat}(hi:i<rs.length):((rs.map unitR).map dQs)[i]? = some (dQs (unitR (rs.getD i default))):=by
 rw [List.map_map,List.getElem?_map,gd9,ge9 hi];rfl
theorem mix_less {cur u:List Rat}{f:Rat}:mixL cur (fun j=>cur.getD j 0-f*u.getD j 0) cur.length=lessU f u cur:=mixL_all fun j h1 h2=>by omega
theorem mix_div {rs:List SRow}{v:List Rat}:mixL (redV rs v) (fun j=>(redV rs v).getD j 0 / (redV rs v).getD (firstP (redV rs v)) 0) (redV rs v).length=unitR (newR rs v):=by
 rw [mixL_all fun j h1 h2=>by omega]
 refine List.ext_getElem (by rw [lm9,List.length_range,unitR_len];rfl) fun j h1 h2=>?_
 rw [lm9,List.length_range] at h1
 simp only [List.getElem_map,List.getElem_range]
 have e:(unitR (newR rs v))[j]=(unitR (newR rs v)).getD j 0:=by rw [gd9,ge9 h2];rfl
 rw [e,unitR_get]
 rfl
theorem restU_old {rs:List SRow}{v:List Rat}(h:growsS rs v=false):restU rs v=redV rs v:=if_neg (by rw [h];exact Bool.false_ne_true)
set_option maxRecDepth 8000 in
set_option maxHeartbeats 1600000 in
theorem r23forward {a:Au}{w:List Int}(f:Au.Fw a)(hw:InW a.sym w)(hl:w.length≤6):FSpec P F.ref23_forward [vAu a,.d (ints w)] (.d (dQs (fwA a w))):=by
 have hnum:=f.num
 have hst:=f.few.st
 have hini:=f.ok.ini
 refine FSpec.intro fn.ref23_forward (by rfl) (by rfl) (nb9 (by rfl)) fun E hE=>(AW.sg hE rfl (bxA rfl rfl fun b2=>(asM rfl (OL.nil (AW.sg hE rfl (faP fd.Auto_3 rfl rfl (ldPC ce.Weights rfl rfl rfl ?_)))))))
 refine clv rfl vL (r23Numbers (l:=a.ini) (by omega)) (asD rfl (OL.nil (AW.seq (AW.sg hE rfl (asD rfl (OL.nil (AW.block ?_)))))))
 refine AW.whileK (α:=Nat) [(1,_),(2,_),(4,_)] [(2,_)] (fun i=>[(5,.d (dQs (fwA a (w.take i)))),(6,.d (dI i))]) (fun i=>[]) (fun i=>i≤w.length) (fun i=>w.length-i) 0 (.cons (knD rfl) (.cons (knP rfl) (.cons (knM rfl) .nil))) (.cons (owB rfl) .nil) ⟨Nat.zero_le _,.rq2,.nil⟩ ?_
 rintro i h1
 have h1:i≤w.length:=h1
 have hfl:(fwA a (w.take i)).length=a.st:=fwA_len f.ok _
 refine AW.seq (AW.sg hE rfl (mvD rfl (mvD rfl (lnL sl.ints rfl rfl (c_lss rfl rfl rfl (OL.nil (AW.cond rfl (fun h16=>?_) (fun h16=>?_))))))))
 ·try simp only [dx9] at h16
  refine AW.skip (AW.seq (AW.block (AW.seq ?_)))
  have hxw:=hw (w.getD i 0) (getD_mem (by omega) 0)
  refine AW.rg hE rfl (faP fd.Auto_2 rfl rfl (ldPC ce.int rfl rfl rfl (mkL dQ 0 sl.Rats z.Rat vcs_q0 rfl rfl (Nat.le_refl _) (by omega) (by omega) rfl fun b21=>(asO rfl (OL.nil (AW.seq (AW.sg hE rfl ?_)))))))
  refine asD rfl (OL.nil (AW.block ?_))
  refine AW.whileK (α:=Nat) [(1,_),(2,_),(4,_),(5,_),(6,_),(7,_)] [(2,_)] (fun k=>[(8,.d (dI k))]) (fun k=>[(21,.row b21 a.st T.Rat 3 ((stepF a.st (fwA a (w.take i)) (w.getD i 0).toNat (a.arcs.take k)).map dQ))]) (fun k=>k≤a.arcs.length) (fun k=>a.arcs.length-k) 0 (.cons (knD rfl) (.cons (knP rfl) (.cons (knM rfl) (.cons (knD rfl) (.cons (knD rfl) (.cons (knO rfl) .nil)))))) (.cons (owB rfl) .nil) ⟨Nat.zero_le _,.rq1,.cons rfl .nil⟩ ?_
  rintro k h2
  have h2:k≤a.arcs.length:=h2
  have hsl:(stepF a.st (fwA a (w.take i)) (w.getD i 0).toNat (a.arcs.take k)).length=a.st:=stepF_len
  refine AW.seq (AW.sg hE rfl (mvD rfl (faP fd.Auto_5 rfl rfl (ldPC ce.Arcs rfl rfl rfl (lnL sl.Arcs rfl rfl (c_lss rfl rfl rfl (OL.nil ?_)))))))
  refine AW.cond rfl (fun h26=>?_) (fun h26=>?_)
  ·try simp only [dx9] at h26
   refine AW.skip (AW.seq (AW.block (AW.seq ?_)))
   have hm:=getD_mem (l:=a.arcs) (i:=k) (by omega) default
   obtain ⟨hx1,hx2,hx3,hx4⟩:=f.ok.arc (a.arcs.getD k default) hm
   have hxz:=f.arc (a.arcs.getD k default) hm
   have hz1:=fwA_szV f hw hl i (a.arcs.getD k default).f
   have hz2:=fwA_szP (s:=(w.getD i 0).toNat) f hw hl i k (a.arcs.getD k default).t
   have hz3:=sz_mul ((fwA a (w.take i)).getD (a.arcs.getD k default).f 0) (a.arcs.getD k default).q
   refine AW.rg hE rfl (faP fd.Auto_5 rfl rfl (ldPC ce.Arcs rfl rfl rfl (mvD rfl (ixLn sl.Arcs default rfl rfl (by omega) rfl rfl (ldRA ag.Arc rfl (vs:=[_,_,_,_,_,_,_,_,_,_,_]) rfl (nb9 rfl) (al z.Arc rfl fun b9=>(sto sz.Arc rfl rfl rfl rfl rfl (nb9 rfl) (cells2:=[_,_,_,_,_,_,_,_,_,_,_]) rfl ?_)))))))
   refine OL.nil (AW.seq (AW.dg 1 [0,1,2,3,4,5,6] order_free hE rfl (by kernel_rfl) (OI.of_OL (os:=[_,_,_,_,_,_,_]) rfl ?_)))
   refine faP fd.Arc_1 rfl rfl (ldPC ce.int rfl rfl rfl (mvD rfl (mvD rfl (ixLn sl.ints 0 rfl rfl (by omega) rfl rfl (ldRC ce.int rfl (c_eql rfl rfl rfl (OL.nil ?_)))))))
   refine AW.cond rfl (fun hc=>?_) (fun hc=>?_)
   ·have hc:(a.arcs.getD k default).l=(w.getD i 0).toNat:=by have:=dt9 hc;omega
    refine AW.dg 1 [0,1,2,3,4,5,6,7,8,9,10,11,12,13,14,15,16,17,18,19] order_free hE rfl (by kernel_rfl) (OI.of_OL (os:=[_,_,_,_,_,_,_,_,_,_,_,_,_,_,_,_,_,_,_,_]) rfl ?_)
    refine mvO rfl (faP fd.Arc_2 rfl rfl (ldPC ce.int rfl rfl rfl (mvO rfl (faP fd.Arc_2 rfl rfl (ldPC ce.int rfl rfl rfl (ixOn sl.Rats rfl rfl (by omega) (ldEAL ag.Rat 0 (by decide) rfl rfl (by omega) (vs:=[_,_,_]) rfl (nb9 rfl) ?_)))))))
    refine mvD rfl (faP fd.Arc_0 rfl rfl (ldPC ce.int rfl rfl rfl (ixLn sl.Rats 0 rfl rfl (by omega) rfl rfl (ldRA ag.Rat rfl (vs:=[_,_,_]) rfl (nb9 rfl) (faP fd.Arc_3 rfl rfl (faP fd.Weight_0 rfl rfl (ldPA ag.Rat rfl rfl (vs:=[_,_,_]) rfl (nb9 rfl) ?_)))))))
    refine clv rfl vL (ref_MulQ (x:=(fwA a (w.take i)).getD (a.arcs.getD k default).f 0) (y:=(a.arcs.getD k default).q) (by omega) (by omega)) ?_
    refine clv rfl vL (ref_AddQ (x:=(stepF a.st (fwA a (w.take i)) (w.getD i 0).toNat (a.arcs.take k)).getD (a.arcs.getD k default).t 0) (y:=(fwA a (w.take i)).getD (a.arcs.getD k default).f 0*(a.arcs.getD k default).q) (by omega) (by omega)) ?_
    refine ixOn sl.Rats rfl rfl (by omega) ?_
    refine stE sz.Rat rfl (d:=dQ ((stepF a.st (fwA a (w.take i)) (w.getD i 0).toNat (a.arcs.take k)).getD (a.arcs.getD k default).t 0+(fwA a (w.take i)).getD (a.arcs.getD k default).f 0*(a.arcs.getD k default).q)) vd_q rfl rfl (by rw [lm9];omega) (es2:=((stepF a.st (fwA a (w.take i)) (w.getD i 0).toNat (a.arcs.take k)).set (a.arcs.getD k default).t ((stepF a.st (fwA a (w.take i)) (w.getD i 0).toNat (a.arcs.take k)).getD (a.arcs.getD k default).t 0+(fwA a (w.take i)).getD (a.arcs.getD k default).f 0*(a.arcs.getD k default).q)).map dQ) (by rw [List.map_set]) ?_
    refine OL.nil (AW.rg hE rfl (mvD rfl (add_i64 rfl rfl (by omega) (asD rfl (OL.nil ?_)))))
    exact AW.again (x:=k) (k+1) (by omega) ⟨by omega,Knows.app .rq6 .rq1,Owns.app (.cons rfl .nil) (.cons (by rw [stepF_snoc (by omega),addF_t hc];rfl) .nil)⟩
   ·have hc:¬ (a.arcs.getD k default).l=(w.getD i 0).toNat:=by have:=df9 hc;omega
    refine AW.skip (AW.rg hE rfl (mvD rfl (add_i64 rfl rfl (by omega) (asD rfl (OL.nil ?_)))))
    exact AW.again (x:=k) (k+1) (by omega) ⟨by omega,Knows.app .rq6 .rq1,Owns.app (.cons rfl .nil) (.cons (by rw [stepF_snoc (by omega),addF_f hc];rfl) .nil)⟩
  ·try simp only [dx9] at h26
   refine AW.exit ?_
   obtain rfl:k=a.arcs.length:=by omega
   refine AW.freeze 21 rfl (AW.to [(1,.d (ints w)),(2,.ptr 2 b2 0),(4,.mt),(6,.d (dI i)),(7,.d (dQs (fwA a (w.take (i+1)))))] [(2,.box b2 T.Auto [.d (dI 1),.d (.sl []),.d (dI a.sym),.d (dI a.st),.d (dWs a.ini),.d (dWs a.fin),.d (dArcs a.arcs)])] (.cons vR (.cons vR (.cons vR (.cons vR (.cons (frz_osl (by rw [lm9,stepF_len]) (by rw [fwA_snoc (by omega),List.take_length])) .nil))))) (.cons rfl .nil) ?_)
   refine AW.rg hE rfl (mvD rfl (asD rfl (OL.nil (AW.rg hE rfl (mvD rfl (add_i64 rfl rfl (by omega) (asD rfl ?_)))))))
   exact OL.nil (AW.again (x:=i) (i+1) (by omega) ⟨by omega,Knows.app .rq3 .rq2,Owns.app (.cons rfl .nil) (.nil)⟩)
 ·try simp only [dx9] at h16
  refine AW.exit (AW.seq ?_)
  obtain rfl:i=w.length:=by omega
  exact AW.rg hE rfl (mvD rfl (asD rfl (OL.nil (AW.ret (RetQ.r ⟨_,.tmp rfl .nil,.le (by rw [List.take_length];exact VLe.refl _)⟩)))))
set_option maxRecDepth 8000 in
set_option maxHeartbeats 3200000 in
theorem r23reduced {v:List Rat}{n b c:Nat}{rs:List SRow}(sp:SpOK n 16777215 rs)(hld:∀ r,r ∈ rs→r.p=firstP r.v)(hv:v.length=n)(n6:n≤6)(zv:∀ i,sz (v.getD i 0)≤16777215):FSpecM P F.ref23_reduced [.osl 1000 b (rs.map unitR).length c,.d (dQs v)] (mem1 1000 (.row b c T.Rats 1 ((rs.map unitR).map dQs))) (.d (dQs (restU rs v))) (mem1 1000 (.row b c T.Rats 1 ((rs.map unitR).map dQs))):=by
 have hle:=sp.le
 have hul:(rs.map unitR).length=rs.length:=lm9 ..
 refine FSpecM.intro fn.ref23_reduced (by rfl) (by rfl) (nb9 (by rfl)) fun E hE=>?_
 refine AW.sg hE rfl ?_
 refine asM rfl ?_
 refine OL.nil ?_
 refine AW.sg hE rfl ?_
 refine mvD rfl ?_
 refine apM sl.Rats rfl rfl (VC.d _) qs_len (by simp;omega) (by simp;omega) rfl fun b13 c13=>?_
 refine asO rfl (OL.nil (AW.seq (AW.seq ?_)))
 refine AW.to [(0,.osl 1000 b (rs.map unitR).length c),(5,.osl 13 b13 v.length c13)] [(1000,.row b c T.Rats 1 ((rs.map unitR).map dQs)),(13,.row b13 c13 T.Rat 3 (v.map dQ))] (.cons vR (.cons (vle_of_eq (by show V.osl 13 b13 (v.map dQ).length c13=_;rw [lm9])) .nil)) (.cons rfl (.cons rfl .nil)) ?_
 refine AW.rg hE rfl (asD rfl (OL.nil (AW.block ?_)))
 refine AW.whileK (α:=Nat) [(0,_),(4,_),(5,_)] [(1000,_)] (fun i=>[(6,.d (dI i))]) (fun i=>[(13,.row b13 c13 T.Rat 3 ((redV (rs.take i) v).map dQ))]) (fun i=>i≤rs.length) (fun i=>rs.length-i) 0 (.cons (knO rfl) (.cons (knJ) (.cons (knO rfl) .nil))) (.cons (owR rfl) .nil) ⟨Nat.zero_le _,.rq1,.cons rfl .nil⟩ ?_
 rintro i h1
 have h1:i≤rs.length:=h1
 have hcl:(redV (rs.take i) v).length=v.length:=redV_len _ _
 refine AW.seq (AW.sg hE rfl (mvD rfl (mvO rfl (lnO sl.Ratss rfl rfl (c_lss rfl rfl rfl (OL.nil (AW.cond rfl (fun h17=>?_) (fun h17=>?_))))))))
 ·try simp only [dx9] at h17
  refine AW.skip (AW.seq (AW.block (AW.seq ?_)))
  have hi:i<rs.length:=by omega
  obtain ⟨zw,_,zr,_⟩:=sp.sz.bounds (w:=v) (n:=0) (by omega) hi zv
  obtain ⟨hp1,hp2⟩:=sp.ech.piv _ (getDS_mem hi)
  have hrl:=sp.len _ (getDS_mem hi)
  have hpl:leadI (unitR (rs.getD i default))=((rs.getD i default).p:Int):=unitR_lead (hld _ (getDS_mem hi)) (by omega) hp2
  have hunl:=unitR_len (r:=(rs.getD i default))
  have zu:=unitR_sz zr
  refine AW.rg hE rfl (mvO rfl (mvO rfl (mvD rfl (ixOn sl.Ratss rfl rfl (by omega) (ldEC ce.Rats (by decide) rfl rfl (units_el hi) (d:=dQs (unitR (rs.getD i default))) rfl (clv rfl vL (r23lead (v:=unitR (rs.getD i default)) (by omega) (fun j=>Nat.le_trans (zu j) (by decide))) ?_))))))
  rw [hpl]
  refine ixOn sl.Rats rfl rfl (by omega) (ldEAL ag.Rat 0 (by decide) rfl rfl (by omega) (vs:=[_,_,_]) rfl (nb9 rfl) (al z.Rat rfl fun b7=>(sto sz.Rat rfl rfl rfl rfl rfl (nb9 rfl) (cells2:=[_,_,_]) rfl (OL.nil (AW.sg hE rfl (asD rfl (OL.nil ?_)))))))
  refine AW.block ?_
  refine AW.whileK (α:=Nat) [(0,_),(4,_),(5,_),(6,_),(7,_)] [(7,_),(1000,_)] (fun j=>[(8,.d (dI j))]) (fun j=>[(13,.row b13 c13 T.Rat 3 ((mixL (redV (rs.take i) v) (fun j=>(redV (rs.take i) v).getD j 0-((redV (rs.take i) v).getD (rs.getD i default).p 0)*(unitR (rs.getD i default)).getD j 0) j).map dQ))]) (fun j=>j≤v.length∧(((redV (rs.take i) v).getD (rs.getD i default).p 0)=0→j=0)) (fun j=>v.length-j) 0 (.cons (knO rfl) (.cons (knJ) (.cons (knO rfl) (.cons (knD rfl) (.cons (knP rfl) .nil))))) (.cons (owB rfl) (.cons (owR rfl) .nil)) ⟨⟨Nat.zero_le _,fun _=>rfl⟩,.rq1,.cons (by rw [mixL_zero];rfl) .nil⟩ ?_
  rintro j ⟨h2,hj0⟩
  have h2:j≤v.length:=h2
  have hj0:((redV (rs.take i) v).getD (rs.getD i default).p 0)=0→j=0:=hj0
  have hml:(mixL (redV (rs.take i) v) (fun j=>(redV (rs.take i) v).getD j 0-((redV (rs.take i) v).getD (rs.getD i default).p 0)*(unitR (rs.getD i default)).getD j 0) j).length=v.length:=mixL_len.trans hcl
  have z1:=zw (rs.getD i default).p
  refine AW.seq (AW.sg hE rfl (mvD rfl (mvO rfl (lnO sl.Rats rfl rfl (c_lss rfl rfl rfl (OL.split 31 rfl (fun ha=>?_) (fun ha=>?_)))))))
  ·have ha:j<v.length:=by have:=dt9 ha;omega
   refine mvD rfl (OL.yes rfl (ldPA ag.Rat rfl rfl (vs:=[_,_,_]) rfl (nb9 rfl) (OL.yes rfl (clv rfl vL (ref_SignQ (x:=((redV (rs.take i) v).getD (rs.getD i default).p 0)) (by omega)) (OL.yes rfl (c_neq rfl rfl rfl (OL.split 35 rfl (fun hf=>?_) (fun hf=>?_))))))))
   ·have hf:((redV (rs.take i) v).getD (rs.getD i default).p 0)≠0:=fun e=>nd_t hf (sgnQ_eq.2 e)
    refine pkT rfl rfl (OL.nil (cnT rfl ?_))
    refine AW.skip (AW.seq (AW.block ?_))
    have hgj:(mixL (redV (rs.take i) v) (fun j=>(redV (rs.take i) v).getD j 0-((redV (rs.take i) v).getD (rs.getD i default).p 0)*(unitR (rs.getD i default)).getD j 0) j).getD j 0=(redV (rs.take i) v).getD j 0:=mixL_get (by omega)
    have z2:=zw j
    have z3:=zu j
    have z4:=sz_mul ((redV (rs.take i) v).getD (rs.getD i default).p 0) ((unitR (rs.getD i default)).getD j 0)
    refine AW.dg 1 [0,1,2,3,4,5,6,7,8,9,10,11,12,13,14,15,16,17] order_free hE rfl (by kernel_rfl) (OI.of_OL (os:=[_,_,_,_,_,_,_,_,_,_,_,_,_,_,_,_,_,_]) rfl ?_)
    refine mvO rfl (mvD rfl (mvO rfl (mvD rfl (ixOn sl.Rats rfl rfl (by omega) (ldEAL ag.Rat 0 (by decide) rfl rfl (by omega) (vs:=[_,_,_]) rfl (nb9 rfl) ?_)))))
    rw [hgj]
    refine ldPA ag.Rat rfl rfl (vs:=[_,_,_]) rfl (nb9 rfl) (mvO rfl (mvD rfl (ixOn sl.Ratss rfl rfl (by omega) (ldEC ce.Rats (by decide) rfl rfl (units_el hi) (d:=dQs (unitR (rs.getD i default))) rfl (mvD rfl (ixLn sl.Rats 0 rfl rfl (by omega) rfl rfl (ldRA ag.Rat rfl (vs:=[_,_,_]) rfl (nb9 rfl) ?_)))))))
    refine clv rfl vL (ref_MulQ (x:=((redV (rs.take i) v).getD (rs.getD i default).p 0)) (y:=(unitR (rs.getD i default)).getD j 0) (by omega) (by omega)) (clv rfl vL (ref_SubQ (x:=(redV (rs.take i) v).getD j 0) (y:=((redV (rs.take i) v).getD (rs.getD i default).p 0)*(unitR (rs.getD i default)).getD j 0) (by omega) (by omega)) (ixOn sl.Rats rfl rfl (by omega) ?_))
    refine stE sz.Rat rfl (d:=dQ ((fun j=>(redV (rs.take i) v).getD j 0-((redV (rs.take i) v).getD (rs.getD i default).p 0)*(unitR (rs.getD i default)).getD j 0) j)) vd_q rfl rfl (by rw [lm9];omega) (es2:=((mixL (redV (rs.take i) v) (fun j=>(redV (rs.take i) v).getD j 0-((redV (rs.take i) v).getD (rs.getD i default).p 0)*(unitR (rs.getD i default)).getD j 0) j).set j ((fun j=>(redV (rs.take i) v).getD j 0-((redV (rs.take i) v).getD (rs.getD i default).p 0)*(unitR (rs.getD i default)).getD j 0) j)).map dQ) (by rw [List.map_set]) ?_
    refine OL.nil (AW.rg hE rfl (mvD rfl (add_i64 rfl rfl (by omega) (asD rfl (OL.nil ?_)))))
    exact AW.again (x:=j) (j+1) (by omega) ⟨⟨by omega,fun h=>absurd h hf⟩,Knows.app .rq5 .rq1,Owns.app (.cons rfl (.cons rfl .nil)) (.cons (by rw [← mixL_set (show j<(redV (rs.take i) v).length by omega)];rfl) .nil)⟩
   ·have hf:((redV (rs.take i) v).getD (rs.getD i default).p 0)=0:=sgnQ_eq.1 (nd_f hf)
    refine pkT rfl rfl (OL.nil (cnF rfl ?_))
    refine AW.exit (AW.rg hE rfl (mvD rfl (add_i64 rfl rfl (by omega) (asD rfl (OL.nil ?_)))))
    exact AW.again (x:=i) (i+1) (by omega) ⟨by omega,Knows.app .rq3 .rq1,Owns.app (.cons rfl .nil) (.cons (by rw [redV_take hi,redStep_zero (by rw [qot_nz,hf];rw [Rat.div_def,Rat.zero_mul]),hj0 hf,mixL_zero];rfl) .nil)⟩
  ·have ha:¬ j<v.length:=by have:=df9 ha;omega
   obtain rfl:j=v.length:=by omega
   refine mvD rfl (OL.nd rfl (OL.nd rfl (OL.nd rfl (pkF rfl rfl (OL.nil (cnF rfl ?_))))))
   exact AW.exit (AW.rg hE rfl (mvD rfl (add_i64 rfl rfl (by omega) (asD rfl (OL.nil (AW.again (x:=i) (i+1) (by omega) ⟨by omega,Knows.app .rq3 .rq1,Owns.app (.cons rfl .nil) (.cons (by rw [redV_take hi,← lessU_step hp2,← mix_less,hcl];rfl) .nil)⟩))))))
 ·try simp only [dx9] at h17
  refine AW.exit (AW.seq ?_)
  obtain rfl:i=rs.length:=by omega
  rw [List.take_length]
  rw [List.take_length] at hcl
  obtain ⟨zl,_⟩:=sp.sz.last (w:=v) (by omega) zv
  refine AW.rg hE rfl (mvO rfl ?_)
  refine clC0 (args2:=[.osl 13 b13 v.length c13]) rfl vL (FSpec.read (r23lead (v:=(redV rs v)) (by omega) (fun j=>Nat.le_trans (zl j) (by decide))) (.cons (frz_osl (by rw [lm9];omega) rfl) .nil)) (mem1_keep (id:=13) (blk:=.row b13 c13 T.Rat 3 ((redV rs v).map dQ)) rfl) ?_
  refine asD rfl (OL.nil (AW.seq (AW.sg hE rfl (mvD rfl (c_lss rfl rfl rfl (OL.nil (AW.cond rfl (fun hg=>?_) (fun hg=>?_))))))))
  ·have hg:growsS rs v=false:=leadI_neg.1 (dt9 hg)
   exact AW.sg hE rfl (mvO rfl (asO rfl (OL.nil (AW.ret ⟨⟨_,.tmp rfl .nil,RO.all rfl rfl (by rw [lm9];omega) (by rw [restU_old hg])⟩,mem1_keep rfl⟩))))
  ·have hg:growsS rs v=true:=Decidable.byContradiction fun h9=>by have:=leadI_neg.2 (Bool.eq_false_iff.2 h9);have:=df9 hg;omega
   have hpp:firstP (redV rs v)<(redV rs v).length:=growsS_lead.1 hg
   have hpl2:leadI (redV rs v)=((firstP (redV rs v):Nat):Int):=leadI_some hpp
   rw [hpl2]
   have hnz:=firstP_nz hpp
   refine AW.skip (AW.sg hE rfl (mvO rfl (mvD rfl (ixOn sl.Rats rfl rfl (by omega) (ldEAL ag.Rat 0 (by decide) rfl rfl (by omega) (vs:=[_,_,_]) rfl (nb9 rfl) (al z.Rat rfl fun b10=>(sto sz.Rat rfl rfl rfl rfl rfl (nb9 rfl) (cells2:=[_,_,_]) rfl ?_)))))))
   refine OL.nil (AW.seq (AW.sg hE rfl (asD rfl (OL.nil (AW.block ?_)))))
   refine AW.whileK (α:=Nat) [(4,_),(5,_),(10,_)] [(10,_),(1000,_)] (fun j=>[(11,.d (dI j))]) (fun j=>[(13,.row b13 c13 T.Rat 3 ((mixL (redV rs v) (fun j=>(redV rs v).getD j 0 / (redV rs v).getD (firstP (redV rs v)) 0) j).map dQ))]) (fun j=>j≤v.length) (fun j=>v.length-j) 0 (.cons (knJ) (.cons (knO rfl) (.cons (knP rfl) .nil))) (.cons (owB rfl) (.cons (owR rfl) .nil)) ⟨Nat.zero_le _,.rq1,.cons (by rw [mixL_zero];rfl) .nil⟩ ?_
   rintro j h2
   have h2:j≤v.length:=h2
   have hml:(mixL (redV rs v) (fun j=>(redV rs v).getD j 0 / (redV rs v).getD (firstP (redV rs v)) 0) j).length=v.length:=mixL_len.trans hcl
   have z1:=zl (firstP (redV rs v))
   have z2:=zl j
   refine AW.seq (AW.sg hE rfl (mvD rfl (mvO rfl (lnO sl.Rats rfl rfl (c_lss rfl rfl rfl (OL.nil (AW.cond rfl (fun h68=>?_) (fun h68=>?_))))))))
   ·try simp only [dx9] at h68
    refine AW.skip (AW.seq (AW.block ?_))
    have hgj:(mixL (redV rs v) (fun j=>(redV rs v).getD j 0 / (redV rs v).getD (firstP (redV rs v)) 0) j).getD j 0=(redV rs v).getD j 0:=mixL_get (by omega)
    refine AW.dg 1 [0,1,2,3,4,5,6,7,8,9,10,11,12] order_free hE rfl (by kernel_rfl) (OI.of_OL (os:=[_,_,_,_,_,_,_,_,_,_,_,_,_]) rfl ?_)
    refine mvO rfl (mvD rfl (mvO rfl (mvD rfl (ixOn sl.Rats rfl rfl (by omega) (ldEAL ag.Rat 0 (by decide) rfl rfl (by omega) (vs:=[_,_,_]) rfl (nb9 rfl) ?_)))))
    rw [hgj]
    refine ldPA ag.Rat rfl rfl (vs:=[_,_,_]) rfl (nb9 rfl) (clv rfl vL (ref_DivQ (x:=(redV rs v).getD j 0) (y:=(redV rs v).getD (firstP (redV rs v)) 0) (by omega) (by omega) hnz) (mvT rfl (ex rfl rfl (ex rfl rfl (ixOn sl.Rats rfl rfl (by omega) ?_)))))
    refine stE sz.Rat rfl (d:=dQ ((fun j=>(redV rs v).getD j 0 / (redV rs v).getD (firstP (redV rs v)) 0) j)) vd_q rfl rfl (by rw [lm9];omega) (es2:=((mixL (redV rs v) (fun j=>(redV rs v).getD j 0 / (redV rs v).getD (firstP (redV rs v)) 0) j).set j ((fun j=>(redV rs v).getD j 0 / (redV rs v).getD (firstP (redV rs v)) 0) j)).map dQ) (by rw [List.map_set]) ?_
    refine OL.nil (AW.rg hE rfl (mvD rfl (add_i64 rfl rfl (by omega) (asD rfl (OL.nil ?_)))))
    exact AW.again (x:=j) (j+1) (by omega) ⟨by omega,Knows.app .rq3 .rq1,Owns.app (.cons rfl (.cons rfl .nil)) (.cons (by rw [← mixL_set (show j<(redV rs v).length by omega)];rfl) .nil)⟩
   ·try simp only [dx9] at h68
    refine AW.exit (AW.seq ?_)
    obtain rfl:j=v.length:=by omega
    rw [← hcl,mix_div]
    exact AW.rg hE rfl (mvO rfl (asO rfl (OL.nil (AW.ret ⟨⟨_,.tmp rfl .nil,RO.all rfl rfl (by rw [lm9,unitR_len];rfl) (by rw [restU_new hg])⟩,mem1_keep rfl⟩))))
theorem FSpecE_at {α:Type}{P:Program}{f:Nat}{args:List V}{res:α→V}{r:V}{φ:α→Prop}(h:FSpecE P f args noMem res (fun _=>noMem) φ)(hr:∀ x,φ x→res x=r):FSpec P f args r :=
 FSpec.of_mem ⟨h.1,fun F w vals hS hv=>(h.2 F w vals hS hv).mono fun e w' ⟨x,hx,v,F',k1,k2,k3⟩=>⟨v,F',k1,k2,hr x hx ▸ k3⟩⟩
theorem qrow_pop1 {U:List D}{d:D}{R:List D}{b e c:Nat}:some (Blk.row b (U.length+(c+1)) e 1 (U++d::R))=some (Blk.row b ((U++[d]).length+c) e 1 ((U++[d])++R)):=by
 rw [List.append_assoc,la9,show U.length + [d].length+c=U.length+(c+1) by rw [ls9];omega];rfl
theorem fw_all {a:Au}(f:a.Fw){w:List Int}(hw:InW a.sym w)(hl:w.length≤6)(j:Nat):sz ((fwA a w).getD j 0)≤16777215:=by
 have h:=fwA_szV f hw hl w.length j
 rwa [List.take_length] at h
theorem restU_sz {n:Nat}{rs:List SRow}{v:List Rat}(sp:SpOK n 16777215 rs)(n6:n≤6)(zv:∀ i,sz (v.getD i 0)≤16777215)(j:Nat):sz ((restU rs v).getD j 0)≤274877906944:=by
 have h:=(sp.sz.last (Nat.le_trans sp.le n6) zv).1
 unfold restU
 split
 ·exact Nat.le_trans (unitR_sz h j) (by decide)
 ·exact Nat.le_trans (h j) (by decide)
theorem r5Join {w u:List Int}(nw:w.length≤1000)(nu:u.length≤1000):FSpec P F.ref05_Join [.d (ints w),.d (ints u)] (.d (ints (w++u))):=by
 refine FSpec.intro fn.ref05_Join (by rfl) (by rfl) (nb9 (by rfl)) fun E hE=>?_
 refine AW.sg hE rfl ?_
 refine asM rfl ?_
 refine OL.nil ?_
 refine AW.sg hE rfl ?_
 refine mvD rfl ?_
 refine apM sl.ints rfl rfl (VC.d _) ints_len (by simp;omega) (by simp;omega) rfl fun b6 c6=>?_
 refine mvD rfl (apOD sl.ints rfl rfl rfl rfl (VC.d _) ints_len (by simp;omega) (by simp;omega) (.inl rfl) (ys:=(w++u).map dI) (by rw [List.map_append]) ?_)
 refine asD rfl ?_
 refine OL.nil ?_
 exact AW.ret (RetQ.r ⟨_,.tmp rfl .nil,.le vR⟩)
theorem r23check {a b:Au}{s:Nat}(f:Au.Fit a s)(w:Au.Wt a)(g:Au.Fit b s)(u:Au.Wt b):FSpec P F.ref23_check [vAu a,vAu b] (.d (dI 0)):=by
 have hs:a.sym=b.sym:=f.sym.trans g.sym.symm
 refine FSpec.intro fn.ref23_check (by rfl) (by rfl) (nb9 (by rfl)) fun E hE=>(AW.sg hE rfl (bxA rfl rfl fun b2=>(bxA rfl rfl fun b3=>(asD rfl (OL.nil (AW.seq (AW.block ?_)))))))
 refine AW.sg hE rfl (ldPA ag.Auto rfl rfl (vs:=[_,_,_,_,_,_,_]) rfl (nb9 rfl) (clv rfl vL (r6Valid (a:=a) f.ok f.sz f.s1 f.st) (nt rfl (mvD rfl (OL.yes rfl (ldPA ag.Auto rfl rfl (vs:=[_,_,_,_,_,_,_]) rfl (nb9 rfl) (OL.yes rfl ?_)))))))
 refine clv rfl vL (r6Valid (a:=b) g.ok g.sz g.s1 g.st) (OL.yes rfl (nt rfl (pkF rfl rfl (asD rfl (OL.nil (cnF rfl ?_))))))
 refine AW.sg hE rfl (faP fd.Auto_0 rfl rfl (faP fd.Ring_0 rfl rfl (ldPC ce.int rfl rfl rfl (c_neq rfl rfl (c:=false) (cne_f rfl) (mvD rfl (OL.yes rfl (faP fd.Auto_0 rfl rfl ?_)))))))
 refine OL.yes rfl (faP fd.Ring_0 rfl rfl (OL.yes rfl (ldPC ce.int rfl rfl rfl (OL.yes rfl (c_neq rfl rfl (c:=false) (cne_f rfl) (pkF rfl rfl (asD rfl ?_)))))))
 refine OL.nil (cnF rfl ?_)
 refine AW.sg hE rfl (ldPA ag.Auto rfl rfl (vs:=[_,_,_,_,_,_,_]) rfl (nb9 rfl) (clv rfl vL (r8Plain w) (nt rfl (mvD rfl (OL.yes rfl (ldPA ag.Auto rfl rfl (vs:=[_,_,_,_,_,_,_]) rfl (nb9 rfl) (OL.yes rfl ?_)))))))
 refine clv rfl vL (r8Plain u) (OL.yes rfl (nt rfl (pkF rfl rfl (asD rfl (OL.nil (cnF rfl ?_))))))
 refine AW.sg hE rfl (faP fd.Auto_1 rfl rfl (ldPC ce.int rfl rfl rfl (faP fd.Auto_1 rfl rfl (ldPC ce.int rfl rfl rfl (c_neq rfl rfl (c:=false) (cne_f (by rw [hs])) (asD rfl (OL.nil ?_)))))))
 refine cnF rfl ?_
 exact AW.skip (AW.sg hE rfl (asD rfl (OL.nil (AW.ret (RetQ.r ⟨_,.tmp rfl .nil,.le vR⟩)))))
set_option maxRecDepth 8000 in
set_option maxHeartbeats 6400000 in
theorem r23spaceE {a:Au}(f:Au.Fw a):FSpecE P F.ref23_space [vAu a] noMem (fun y:KSt=>.tup [.d (.sl (y.ks.map ints)),.d (.sl ((y.ks.map (fwA a)).map dQs))]) (fun _=>noMem) (fun y=>InvS (machL [a]) 16777215 [] y):=by
 obtain ⟨ok,fl,z6,hn⟩:=f.mach
 have n6:=z6.n6
 have hst:=f.few.st
 have hst1:=f.st1
 have s4:=f.s4
 have hk:(machL [a]).k=a.sym:=k_one
 have hst0:leftM (machL [a]) [[]] ([]:List SRow)≤1000:=by
   unfold leftM
   have:=Nat.mul_le_mul (show (machL [a]).k+1≤5 by omega) (show (machL [a]).n-([]:List SRow).length≤6 by omega)
   simp only [ls9]
   omega
 refine FSpecE.intro fn.ref23_space (by rfl) (by rfl) (nb9 (by rfl)) fun E hE=>(AW.sg hE rfl (bxA rfl rfl fun b1=>(asM rfl (asM rfl (OL.nil (AW.sg hE rfl (asM rfl ?_)))))))
 refine OL.nil (AW.seq (AW.own 4 36 T.ints 1 rfl rfl (AW.rg hE rfl (asM rfl (asM rfl (OL.nil (AW.seq ?_)))))))
 refine AW.seq (AW.own 5 40 T.Rats 1 rfl rfl (AW.own 6 44 T.Rats 1 rfl rfl (AW.rg hE rfl (faP fd.Auto_2 rfl rfl (ldPC ce.int rfl rfl rfl (c_eql rfl rfl (c:=false) (by exact decide_eq_false (by omega)) (OL.nil ?_)))))))
 refine cnF rfl ?_
 refine AW.skip (AW.sg hE rfl (lt1O (y:=ints []) sl.intss VC.mt.vd rfl (by decide) rfl fun b15=>(asO rfl (OL.nil (AW.seq (AW.block (AW.rename 15 57 rfl ?_)))))))
 refine AW.whileK (α:=KSt × List (List Int) × List D × Nat × Nat × Nat × Nat × Nat × Nat × Nat × Nat) [(1,_),(2,_),(3,_)] [(1,_)] (fun (y,Q,P0,d0,c0,bw,cw,bb,cb,br,cr)=>[(4,.osl 36 bw y.ks.length cw),(5,.osl 40 bb (y.ks.map (fwA a)).length cb),(6,.osl 44 br (y.rs.map unitR).length cr),(7,.osb 57 d0 1 P0.length Q.length c0)]) (fun (y,Q,P0,d0,c0,bw,cw,bb,cb,br,cr)=>[(36,.row bw cw T.ints 1 (y.ks.map ints)),(40,.row bb cb T.Rats 1 ((y.ks.map (fwA a)).map dQs)),(44,.row br cr T.Rats 1 ((y.rs.map unitR).map dQs)),(57,.row d0 (P0.length+c0) T.ints 1 (P0++Q.map ints))]) (fun (y,Q,P0,d0,c0,bw,cw,bb,cb,br,cr)=>InvS (machL [a]) 16777215 Q y∧leftM (machL [a]) Q y.rs≤1000) (fun (y,Q,P0,d0,c0,bw,cw,bb,cb,br,cr)=>leftM (machL [a]) Q y.rs) (⟨[],[]⟩,[[]],[],b15,1,0,0,0,0,0,0) (.cons (knP rfl) (.cons (knM rfl) (.cons (knM rfl) .nil))) (.cons (owB rfl) .nil) ⟨⟨InvS.start _ _,hst0⟩,.cons vR (.cons vR (.cons vR (.cons vle_osb0 .nil))),.cons rfl (.cons rfl (.cons rfl (.cons rfl .nil)))⟩ ?_
 rintro ⟨y,Q,P0,d0,c0,bw,cw,bb,cb,br,cr⟩ ⟨hI,hm1⟩
 have hI:InvS (machL [a]) 16777215 Q y:=hI
 have hm1:leftM (machL [a]) Q y.rs≤1000:=hm1
 have hQl:Q.length≤leftM (machL [a]) Q y.rs:=Nat.le_add_right _ _
 obtain ⟨hf1,hf2⟩:=hI.b.few
 have hkl:(y.ks.map (fwA a)).length=y.ks.length:=lm9 ..
 have hrl:(y.rs.map unitR).length=y.rs.length:=lm9 ..
 refine AW.seq (AW.sg hE rfl (mvB rfl (lnB sl.intss rfl rfl (c_gtr rfl rfl rfl (OL.nil (AW.cond rfl (fun hQ=>?_) (fun hQ=>?_)))))))
 ·have hQ:0<Q.length:=by have:=dt9 hQ;omega
  refine AW.skip (AW.block (AW.seq (AW.rowLen 57 rfl fun hcl=>?_)))
  rw [la9,lm9] at hcl
  obtain ⟨c0,rfl⟩:∃ c9,c0=c9+1:=⟨c0-1,by omega⟩
  obtain ⟨w,Q,rfl⟩:∃ w Q9,Q=w::Q9:=(match Q,hQ with|w::Q9,_=>⟨w,Q9,rfl⟩)
  have hw6:=hI.b.six n6 w mc9
  have hwi:InW a.sym w:=by
   obtain ⟨V,j,_⟩:=hI.join
   have:=j.bfs.inW w (.inr mc9)
   rwa [hk] at this
  have hfv:(fwA a w)=vecM (machL [a]) w:=fwA_vec f.ok hwi
  have hfl:(fwA a w).length=a.st:=fwA_len f.ok w
  have hzv:=fw_all f hwi hw6
  rw [List.length_cons] at hQl
  refine AW.rg hE rfl (mvB rfl (ixBn (n:=0) sl.intss rfl rfl (by rw [List.length_cons];omega) (i:=P0.length) rfl (ldEC ce.ints (by decide) rfl rfl q_at (d:=ints w) rfl (asD rfl (OL.nil (AW.sg hE rfl (mvB rfl ?_)))))))
  refine slBB (l:=1) sl.intss rfl rfl (by rw [List.length_cons];omega) (o2:=P0.length+1) rfl (n2:=Q.length) rfl (asB rfl (OL.nil (AW.sg hE rfl (ldPA ag.Auto rfl rfl (vs:=[_,_,_,_,_,_,_]) rfl (nb9 rfl) (mvD rfl (clv rfl vL (r23forward f hwi hw6) (asD rfl ?_)))))))
  refine OL.nil (AW.sg hE rfl (mvO rfl (mvD rfl ?_)))
  refine clC0 (args2:=[.osl 44 br (y.rs.map unitR).length cr,.d (dQs (fwA a w))]) rfl vL (FSpecM.ren1 (r23reduced (v:=(fwA a w)) (b:=br) (c:=cr) hI.sp hI.lead (by rw [hfl,hn]) n6 hzv) (.cons VLe.osl .rq1)) (mem1_keep (id:=44) (blk:=.row br cr T.Rats 1 ((y.rs.map unitR).map dQs)) rfl) ?_
  refine asD rfl (OL.nil (AW.seq (AW.sg hE rfl (mvD rfl (clv rfl vL (r23lead (v:=restU y.rs (fwA a w)) (by rw [restU_len];omega) (fun j=>restU_sz hI.sp n6 hzv j)) (c_lss rfl rfl rfl (OL.nil ?_)))))))
  refine AW.cond rfl (fun hg=>?_) (fun hg=>?_)
  ·have hg:growsS y.rs (fwA a w)=false:=restU_lead.1 (dt9 hg)
   have hnf:=(hI.next ok (by decide) (by rw [← hfv];exact hzv)).2 (by rw [keepB_f (by rw [← hfv];exact hg)])
   rw [keepB_f (by rw [← hfv];exact hg)] at hnf
   refine AW.exit ?_
   exact AW.again (x:=(y,w::Q,P0,d0,c0+1,bw,cw,bb,cb,br,cr)) (y,Q,P0++[ints w],d0,c0,bw,cw,bb,cb,br,cr) (by exact hnf.2) ⟨⟨hnf.1,by have h9:leftM (machL [a]) Q y.rs<leftM (machL [a]) (w::Q) y.rs:=hnf.2;omega⟩,Knows.app .rq3 (.cons vR (.cons vR (.cons vR (.cons (by rw [la9];exact VLe.refl _) .nil)))),Owns.app (.cons rfl .nil) (.cons rfl (.cons rfl (.cons rfl (.cons qrow_pop1 .nil))))⟩
  ·have hg:growsS y.rs (fwA a w)=true:=Decidable.byContradiction fun h9=>by have:=restU_lead.2 (Bool.eq_false_iff.2 h9);have:=df9 hg;omega
   have hnt:=(hI.next ok (by decide) (by rw [← hfv];exact hzv)).1 (by rw [keepB_t (by rw [← hfv];exact hg)])
   rw [keepB_t (by rw [← hfv];exact hg),← hfv,hk] at hnt
   have hun:(y.rs++[newR y.rs (fwA a w)]).map unitR=y.rs.map unitR++[restU y.rs (fwA a w)]:=by rw [units_snoc,restU_new hg]
   refine AW.skip (AW.sg hE rfl (mvO rfl (mvD rfl (lt1 (y:=ints w) sl.intss (VC.d _).vd rfl (by decide) ?_))))
   refine apO sl.intss rfl rfl rfl (by rw [lm9]) (VC.d _) (fun y hy=>by rw [ms9 hy];rfl) (by simp only [ls9];omega) (by simp only [ls9];omega) (.inr rfl) (ys:=(y.ks++[w]).map ints) (by rw [List.map_append];rfl) (n2:=(y.ks++[w]).length) (by rw [la9];rfl) fun b36 c36=>?_
   refine mvO rfl (mvD rfl (lt1 (y:=dQs (fwA a w)) sl.Ratss (VC.d _).vd rfl (by decide) ?_))
   refine apO sl.Ratss rfl rfl rfl (lm9 ..).symm (VC.d _) (fun y hy=>by rw [ms9 hy];rfl) (by simp only [ls9];omega) (by simp only [ls9];omega) (.inr rfl) (ys:=((y.ks++[w]).map (fwA a)).map dQs) (by rw [List.map_append,List.map_append];rfl) (n2:=((y.ks++[w]).map (fwA a)).length) (by rw [List.map_append,la9];rfl) fun b40 c40=>?_
   refine mvO rfl (mvD rfl (lt1 (y:=dQs (restU y.rs (fwA a w))) sl.Ratss (VC.d _).vd rfl (by decide) ?_))
   refine apO sl.Ratss rfl rfl rfl (lm9 ..).symm (VC.d _) (fun y hy=>by rw [ms9 hy];rfl) (by simp only [ls9];omega) (by simp only [ls9];omega) (.inr rfl) (ys:=((y.rs++[newR y.rs (fwA a w)]).map unitR).map dQs) (by rw [hun,List.map_append];rfl) (n2:=((y.rs++[newR y.rs (fwA a w)]).map unitR).length) (by rw [hun,la9];rfl) fun b44 c44=>?_
   refine asO rfl (asO rfl (asO rfl (OL.nil (AW.sg hE rfl (asD rfl (OL.nil (AW.block ?_)))))))
   refine AW.whileK (α:=Nat × List D × Nat × Nat) [(1,_),(2,_),(3,_),(4,_),(5,_),(6,_),(8,_)] [(1,_),(36,_),(40,_),(44,_)] (fun (s,U,b,c)=>[(7,.osb 57 b 1 U.length (Q++kidsW s w).length c),(11,.d (dI ((s:Int)+1)))]) (fun (s,U,b,c)=>[(57,.row b (U.length+c) T.ints 1 (U++(Q++kidsW s w).map ints))]) (fun (s,U,b,c)=>s≤a.sym) (fun (s,U,b,c)=>a.sym-s) (0,P0++[ints w],d0,c0) (.cons (knP rfl) (.cons (knM rfl) (.cons (knM rfl) (.cons (knO rfl) (.cons (knO rfl) (.cons (knO rfl) (.cons (knD rfl) .nil))))))) (.cons (owB rfl) (.cons (owR rfl) (.cons (owR rfl) (.cons (owR rfl) .nil)))) ⟨Nat.zero_le _,.cons (by rw [show (P0++[ints w]).length=P0.length+1 from la9,show kidsW 0 w=[] from rfl,List.append_nil];exact VLe.refl _) (.cons (VLe.int (by omega)) .nil),.cons (by rw [show kidsW 0 w=[] from rfl,List.append_nil];exact qrow_pop1) .nil⟩ ?_
   rintro ⟨s,U,b,c⟩ h1
   have h1:s≤a.sym:=h1
   have hkn:=kidsW_len s w
   refine AW.seq (AW.sg hE rfl (mvD rfl (faP fd.Auto_1 rfl rfl (ldPC ce.int rfl rfl rfl (c_leq rfl rfl rfl (OL.nil (AW.cond rfl (fun h48=>?_) (fun h48=>?_))))))))
   ·try simp only [dx9] at h48
    refine AW.skip (AW.seq (AW.block ?_))
    have hsk:s<a.sym:=by omega
    have hkl2:(Q++kidsW (s+1) w).length=(Q++kidsW s w).length+1:=by rw [kidsW_succ,← List.append_assoc,la9];rfl
    have hkm:(Q++kidsW s w).map ints++[ints (w++[(s:Int)+1])]=(Q++kidsW (s+1) w).map ints:=by rw [kidsW_succ,← List.append_assoc];exact (List.map_append (f:=ints) (l₁:=Q++kidsW s w) (l₂:=[(w++[(s:Int)+1])])).symm
    have hqs:(Q++kidsW s w).length≤1010:=by rw [la9,kidsW_len];omega
    have hlen9:U.length+(Q++kidsW s w).length=(U++(Q++kidsW s w).map ints).length:=by rw [show (U++(Q++kidsW s w).map ints).length=U.length+((Q++kidsW s w).map ints).length from la9,lm9]
    refine AW.rg hE rfl (mvB rfl (mvD rfl (mvD rfl (lt1 (y:=dI ((s:Int)+1)) sl.ints (VC.d _).vd rfl (by decide) (clv rfl vL (r5Join (w:=w) (u:=[(s:Int)+1]) (by omega) (nb9 rfl)) (lt1 (y:=ints (w++[(s:Int)+1])) sl.intss (VC.d _).vd rfl (by decide) (apB sl.intss rfl rfl rfl hlen9 (VC.d _) (fun y hy=>by rw [ms9 hy];rfl) (by simp only [ls9];omega) (by simp only [ls9];omega) (.inr rfl) fun b57 k57=>?_)))))))
    rw [qP_es,List.append_assoc]
    refine asB rfl (OL.nil ?_)
    refine AW.to ([(1,.ptr 1 b1 0),(2,.mt),(3,.mt),(4,.osl 36 b36 (y.ks++[w]).length c36),(5,.osl 40 b40 ((y.ks++[w]).map (fwA a)).length c40),(6,.osl 44 b44 ((y.rs++[newR y.rs (fwA a w)]).map unitR).length c44),(8,.d (ints w)),(11,.d (dI ((s:Int)+1)))]++[(7,.osb 57 b57 1 (qP k57 U).length (Q++kidsW (s+1) w).length (k57 / 2))]) ([(1,.box b1 T.Auto [.d (dI 1),.d (.sl []),.d (dI a.sym),.d (dI a.st),.d (dWs a.ini),.d (dWs a.fin),.d (dArcs a.arcs)]),(36,.row b36 c36 T.ints 1 ((y.ks++[w]).map ints)),(40,.row b40 c40 T.Rats 1 (((y.ks++[w]).map (fwA a)).map dQs)),(44,.row b44 c44 T.Rats 1 (((y.rs++[newR y.rs (fwA a w)]).map unitR).map dQs))]++[(57,.row b57 ((qP k57 U).length+k57 / 2) T.ints 1 (qP k57 U++(Q++kidsW (s+1) w).map ints))]) (Knows.app (.cons vR (.cons vR (.cons vR (.cons vR (.cons vR (.cons vR (.cons vR (.cons vR (.nil))))))))) (.cons (by rw [qP_len,hkl2];exact VLe.refl _) .nil)) (Owns.app (.cons rfl (.cons rfl (.cons rfl (.cons rfl (.nil))))) (.cons (by rw [qP_len,← hkm];rfl) .nil)) ?_
    generalize qP k57 U=P3
    generalize k57 / 2=c3
    refine AW.rg hE rfl (mvD rfl (add_i64 rfl rfl (by omega) (asD rfl (OL.nil ?_))))
    exact AW.again (x:=(s,U,b,c)) (s+1,P3,b57,c3) (by (simp only [];omega)) ⟨by omega,Knows.app .rq7 (.cons vR (.cons (VLe.int (by omega)) .nil)),Owns.app (.cons rfl (.cons rfl (.cons rfl (.cons rfl .nil)))) (.cons rfl .nil)⟩
   ·try simp only [dx9] at h48
    refine AW.exit ?_
    obtain rfl:s=a.sym:=(by omega)
    exact AW.again (x:=(y,w::Q,P0,d0,c0+1,bw,cw,bb,cb,br,cr)) ((⟨y.ks++[w],y.rs++[newR y.rs (fwA a w)]⟩:KSt),Q++kidsW a.sym w,U,b,c,b36,c36,b40,c40,b44,c44) (by exact hnt.2) ⟨⟨hnt.1,by have h9:leftM (machL [a]) (Q++kidsW a.sym w) (⟨y.ks++[w],y.rs++[newR y.rs (fwA a w)]⟩:KSt).rs<leftM (machL [a]) (w::Q) y.rs:=hnt.2;omega⟩,Knows.app .rq3 .rq4,Owns.app (.cons rfl .nil) (.cons rfl (.cons rfl (.cons rfl (.cons rfl .nil))))⟩
 ·have hQ:Q.length=0:=by have:=df9 hQ;omega
  obtain rfl:Q=[]:=en9 hQ
  refine AW.exit (AW.sg hE rfl (mvO rfl (mvO rfl (asO rfl (asO rfl (OL.nil ?_))))))
  exact AW.ret ⟨y,hI,⟨_,.tmp rfl (.tmp rfl .nil),_,.cons (RO.all rfl rfl (lm9 ..).symm rfl) (.cons (RO.all rfl rfl (lm9 ..).symm rfl) .nil),rfl⟩,fun id blk hk=>by cases hk⟩
theorem r23space {a:Au}(f:Au.Fw a):FSpec P F.ref23_space [vAu a] (.tup [.d (.sl ((basK (machL [a])).map ints)),.d (.sl ((vecs (machL [a]) (basK (machL [a]))).map dQs))]) :=
 FSpecE_at (r23spaceE f) fun y hy=>by
  have e:y.ks.map (fwA a)=vecs (machL [a]) y.ks:=List.map_congr_left fun u hu=>fwA_vec f.ok (by have:=hy.inW u hu;rwa [k_one] at this)
  rw [e,hy.bas]
end Go.Proofs.YtmcoihfkniccdaaGreatDoor
