/-
  Walks of package span, part 2: spaces that grow (printed by mk2.py).
-/
import Derived.Test.YtmcoihfkniccdaaGreatDoorKMod87
set_option linter.unusedVariables false
set_option linter.unusedSimpArgs false
namespace Go.Proofs.YtmcoihfkniccdaaGreatDoor
open Go Go.AL
structure SpB where
 b1:Nat
 c1:Nat
 b2:Nat
 c2:Nat
 b3:Nat
 c3:Nat
instance:Inhabited SpB:=⟨⟨0,0,0,0,0,0⟩⟩
abbrev rowV (B:SpB)(rs:List SRow):Blk:=.row B.b1 B.c1 T.Rats 1 (rs.map fun r=>dQs r.v)
abbrev rowC (B:SpB)(rs:List SRow):Blk:=.row B.b2 B.c2 T.Rats 1 (rs.map fun r=>dQs r.c)
abbrev rowP (B:SpB)(rs:List SRow):Blk:=.row B.b3 B.c3 T.int 1 (rs.map fun r=>dI r.p)
abbrev boxS (b:Nat)(B:SpB)(rs:List SRow):Blk:=.box b T.Space [.osl 1001 B.b1 rs.length B.c1,.osl 1002 B.b2 rs.length B.c2,.osl 1003 B.b3 rs.length B.c3]
abbrev spL (b:Nat)(B:SpB)(rs:List SRow):List (Nat × Blk):=[(1000,boxS b B rs),(1001,rowV B rs),(1002,rowC B rs),(1003,rowP B rs)]
def spM (b:Nat)(B:SpB)(rs:List SRow):Mem:=lk none ((spL b B rs).map fun p=>(p.1,some p.2))
theorem spM_none {b b2:Nat}{B B2:SpB}{rs rs2:List SRow}(id:Nat)(h:spM b B rs id=none):spM b2 B2 rs2 id=none:=by
 unfold spM at *
 simp only [spL,List.map_cons,List.map_nil,lk] at h ⊢
 repeat (split at h;· cases h)
 simp only [*,if_false]
theorem qot_nz {w:List Rat}{r:SRow}:qotR w r=w.getD r.p 0 / r.v.getD r.p 0:=rfl
theorem red_g {w:List Rat}{r:SRow}:mixL w (fun j=>w.getD j 0-qotR w r*r.v.getD j 0) w.length=redStep w r:=mixL_all fun j h1 h2=>by omega
theorem add_g {t c:List Rat}{f:Rat}{i:Nat}(hi:c.length=i):mixL t (fun j=>t.getD j 0+f*c.getD j 0) i=addC t f c:=mixL_all fun j h1 _=>by
 show t.getD j 0+f*c.getD j 0=_
 rw [getD_outQ (l:=c) (by omega),Rat.mul_zero,Rat.add_zero]
theorem firstI_neg {rs:List SRow}{w:List Rat}:(firstI (redV rs w)<0) ↔ growsS rs w=false:=by
 unfold firstI growsS
 split
 ·rename_i h;rw [decide_eq_true h];constructor
  ·intro;omega
  ·intro k;cases k
 ·rename_i h;rw [decide_eq_false h];exact ⟨fun _=>rfl,fun _=>by decide⟩
theorem firstI_pos {rs:List SRow}{w:List Rat}(h:growsS rs w=true):firstI (redV rs w)=(firstP (redV rs w):Int):=if_pos (dt9 h)
set_option maxRecDepth 8000 in
set_option maxHeartbeats 3200000 in
theorem reduceS {v:List Rat}{n b:Nat}{B:SpB}{rs:List SRow}(sp:SpOK n 16777215 rs)(hv:v.length=n)(n6:n≤6)(zv:∀ i,sz (v.getD i 0)≤16777215):FSpecM P F.span_Space_reduce [.ptr 1000 b 0,.d (dQs v)] (spM b B rs) (.tup [.d (dQs (redV rs v)),.d (dQs (takenS rs v))]) (spM b B rs):=by
 have hle:=sp.le
 have hpiv:=sp.ech.piv
 have hlen:=sp.len
 have hcl:=sp.cl
 have hz:=sp.sz
 refine FSpecM.intro fn.span_Space_reduce (by rfl) (by rfl) (nb9 (by rfl)) fun E hE=>(AW.sg hE rfl (asM rfl (asM rfl (OL.nil (AW.sg hE rfl (mvD rfl (lnL sl.Rats rfl rfl ?_)))))))
 refine mkL dQ 0 sl.Rats z.Rat vcs_q0 rfl rfl (Nat.le_refl _) (by omega) (by omega) rfl fun b18=>(asO rfl (OL.nil (AW.seq (AW.sg hE rfl (mvD rfl (lnL sl.Rats rfl rfl (mvD rfl ?_)))))))
 refine OL.nil (AW.block ?_)
 refine AW.whileK (α:=Nat) [(0,_),(4,_),(5,_),(19,_),(20,_)] [(1000,_),(1001,_),(1002,_),(1003,_)] (fun i=>[(21,.d (dI i))]) (fun i=>[(18,.row b18 v.length T.Rat 3 ((fillF 0 (fun j=>v.getD j 0) v.length i).map dQ))]) (fun i=>i≤v.length) (fun i=>v.length-i) 0 (.cons (knP rfl) (.cons (knO rfl) (.cons (knM rfl) (.cons (knD rfl) (.cons (knD rfl) .nil))))) (.cons (owB rfl) (.cons (owR rfl) (.cons (owR rfl) (.cons (owR rfl) .nil)))) ⟨Nat.zero_le _,.rq1,.cons (by rw [fillF_zero];rfl) .nil⟩ ?_
 intro i h1
 have h1:i≤v.length:=h1
 have hfl:=fillF_len 0 (fun j=>v.getD j 0) v.length i
 refine AW.sg hE rfl (c_lss rfl rfl rfl (OL.nil (AW.seq (AW.cond rfl (fun h22=>?_) (fun h22=>?_)))))
 ·try simp only [dx9] at h22
  refine AW.skip (AW.seq (AW.block (AW.seq ?_)))
  have zx:=zv i
  refine AW.rg hE rfl (mvD rfl (ixLn sl.Rats 0 rfl rfl (by omega) rfl rfl (ldRA ag.Rat rfl (vs:=[_,_,_]) rfl (nb9 rfl) (al z.Rat rfl fun b7=>(asD rfl (sto sz.Rat rfl rfl rfl rfl rfl (nb9 rfl) (cells2:=[_,_,_]) rfl (OL.nil ?_)))))))
  refine AW.rg hE rfl (mvO rfl (mvD rfl (ldPA ag.Rat rfl rfl (vs:=[_,_,_]) rfl (nb9 rfl) (bd z.Rat pl.Rat (cs:=[_,_,_]) rfl (clv rfl (.cons vR (.cons (vle_q0) .nil)) (rational_AddQ (x:=v.getD i 0) (y:=0) (by omega) (by rw [sz_zero];decide)) ?_)))))
  rw [Rat.add_zero]
  refine ixOn sl.Rats rfl rfl (by omega) (stE sz.Rat rfl (d:=dQ (v.getD i 0)) vd_q rfl rfl (by rw [lm9];omega) (es2:=(fillF 0 (fun j=>v.getD j 0) v.length (i+1)).map dQ) (by rw [← fillF_set (show i<v.length by omega),List.map_set]) (OL.nil (AW.rg hE rfl (add_i64 rfl rfl (by omega) (mvD rfl (OL.nil ?_))))))
  exact AW.again (x:=i) (i+1) (by omega) ⟨by omega,Knows.app .rq5 .rq1,Owns.app (.cons rfl (.cons rfl (.cons rfl (.cons rfl .nil)))) (.cons rfl .nil)⟩
 ·try simp only [dx9] at h22
  refine AW.exit (AW.seq ?_)
  obtain rfl:i=v.length:=by omega
  rw [fill_row rfl]
  refine AW.rg hE rfl (mvP rfl (ncP rfl (faP fd.Space_0 rfl rfl (ldPC ce.Ratss rfl rfl rfl (lnO sl.Ratss rfl rfl (mkL dQ 0 sl.Rats z.Rat vcs_q0 rfl rfl (Nat.le_refl _) (by omega) (by omega) rfl fun b38=>(asO rfl ?_)))))))
  refine OL.nil (AW.seq (AW.sg hE rfl (mvP rfl (ncP rfl (faP fd.Space_0 rfl rfl (ldPC ce.Ratss rfl rfl rfl (lnO sl.Ratss rfl rfl ?_)))))))
  refine mvD rfl (OL.nil (AW.block ?_))
  refine AW.whileK (α:=Nat) [(0,_),(4,_),(5,_),(42,_),(43,_)] [(1000,_),(1001,_),(1002,_),(1003,_)] (fun k=>[(44,.d (dI k))]) (fun k=>[(18,.row b18 v.length T.Rat 3 ((redV (rs.take k) v).map dQ)),(38,.row b38 rs.length T.Rat 3 ((redC (rs.take k) v (List.replicate rs.length 0)).map dQ))]) (fun k=>k≤rs.length) (fun k=>rs.length-k) 0 (.cons (knP rfl) (.cons (knO rfl) (.cons (knO rfl) (.cons (knO rfl) (.cons (knD rfl) .nil))))) (.cons (owB rfl) (.cons (owR rfl) (.cons (owR rfl) (.cons (owR rfl) .nil)))) ⟨Nat.zero_le _,.rq1,.cons rfl (.cons rfl .nil)⟩ ?_
  intro k h2
  have h2:k≤rs.length:=h2
  have hwl:(redV (rs.take k) v).length=v.length:=redV_len _ _
  have htl:(redC (rs.take k) v (List.replicate rs.length 0)).length=rs.length:=by rw [redC_len,List.length_replicate]
  refine AW.sg hE rfl (c_lss rfl rfl rfl (OL.nil (AW.seq (AW.cond rfl (fun h45=>?_) (fun h45=>?_)))))
  ·try simp only [dx9] at h45
   refine AW.skip (AW.seq (AW.block (AW.seq ?_)))
   have hkr:k<rs.length:=by omega
   obtain ⟨zw,zt,zr,zc⟩:=hz.bounds (w:=v) (n:=rs.length) (by omega) hkr zv
   obtain ⟨hp1,hp2⟩:=hpiv _ (getDS_mem hkr)
   have hrl:=hlen _ (getDS_mem hkr)
   have hck:=hcl k _ (getDS_get hkr)
   have zq:=sz_div ((redV (rs.take k) v).getD (rs.getD k default).p 0) ((rs.getD k default).v.getD (rs.getD k default).p 0)
   have zq1:=zw (rs.getD k default).p
   have zq2:=zr (rs.getD k default).p
   have zqq:sz (qotR (redV (rs.take k) v) (rs.getD k default))≤34359738366:=Nat.le_trans zq (by omega)
   refine AW.rg hE rfl (mvD rfl (ixOn sl.Ratss rfl rfl (by omega) (ldEL ce.Rats default (by decide) rfl rfl hkr rfl (asD rfl (asD rfl (OL.nil (AW.seq ?_)))))))
   refine AW.dg 1 [0,1,2,3,4,5,6,7,8,9,10,11,12,13,14,15,16,17,18,19,20,21,22,23,24,25,26] order_free hE rfl (by kernel_rfl) (OI.of_OL (os:=[_,_,_,_,_,_,_,_,_,_,_,_,_,_,_,_,_,_,_,_,_,_,_,_,_,_,_]) rfl ?_)
   refine mvO rfl (mvP rfl (ncP rfl (faP fd.Space_2 rfl rfl (ldPC ce.ints rfl rfl rfl (mvD rfl (ixOn sl.ints rfl rfl (by omega) (ldEL ce.int default (by decide) rfl rfl hkr rfl ?_)))))))
   refine ixOn sl.Rats rfl rfl (by omega) (ldEAL ag.Rat 0 (by decide) rfl rfl (by omega) (vs:=[_,_,_]) rfl (nb9 rfl) (mvD rfl (mvP rfl (ncP rfl (faP fd.Space_2 rfl rfl (ldPC ce.ints rfl rfl rfl (mvD rfl ?_)))))))
   refine ixOn sl.ints rfl rfl (by omega) (ldEL ce.int default (by decide) rfl rfl hkr rfl (ixLn sl.Rats 0 rfl rfl (by omega) rfl rfl (ldRA ag.Rat rfl (vs:=[_,_,_]) rfl (nb9 rfl) (clv rfl vL (rational_DivQ (x:=(redV (rs.take k) v).getD (rs.getD k default).p 0) (y:=(rs.getD k default).v.getD (rs.getD k default).p 0) (by omega) (by omega) hp2) ?_))))
   rw [← qot_nz]
   refine mvT rfl (ex rfl rfl (ex rfl rfl (al z.Rat rfl fun b10=>(sto sz.Rat rfl rfl rfl rfl rfl (nb9 rfl) (cells2:=[_,_,_]) rfl (asD rfl (OL.nil (AW.seq ?_)))))))
   refine AW.sg hE rfl (ldPA ag.Rat rfl rfl (vs:=[_,_,_]) rfl (nb9 rfl) (clv rfl vL (rational_SignQ (x:=qotR (redV (rs.take k) v) (rs.getD k default)) (by omega)) (c_eql rfl rfl rfl (OL.nil (AW.cond rfl (fun h0=>?_) (fun h0=>?_))))))
   ·have h0:qotR (redV (rs.take k) v) (rs.getD k default)=0:=sgnQ_eq.1 (dt9 h0)
    refine AW.exit ?_
    first|(obtain rfl:i=k+1:=(by omega))|skip
    refine AW.rg hE rfl (add_i64 rfl rfl (by omega) (mvD rfl (OL.nil ?_)))
    exact AW.again (x:=k) (k+1) (by omega) ⟨by omega,Knows.app .rq5 .rq1,Owns.app (.cons rfl (.cons rfl (.cons rfl (.cons rfl .nil)))) (.cons (by rw [redV_take (by omega),redStep_zero h0];rfl) (.cons (by rw [redC_take (by omega),h0,addC_zero];rfl) .nil))⟩
   ·have _h0:=h0
    refine AW.skip (AW.seq (AW.sg hE rfl (mvD rfl (lnL sl.Rats rfl rfl (mvD rfl (OL.nil (AW.block ?_)))))))
    refine AW.whileK (α:=Nat) [(0,_),(4,_),(5,_),(8,_),(10,_),(42,_),(43,_),(44,_),(76,_),(77,_)] [(10,_),(38,_),(1000,_),(1001,_),(1002,_),(1003,_)] (fun i=>[(78,.d (dI i))]) (fun i=>[(18,.row b18 v.length T.Rat 3 ((mixL (redV (rs.take k) v) (fun j=>(redV (rs.take k) v).getD j 0-qotR (redV (rs.take k) v) (rs.getD k default)*(rs.getD k default).v.getD j 0) i).map dQ))]) (fun i=>i≤v.length) (fun i=>v.length-i) 0 (.cons (knP rfl) (.cons (knO rfl) (.cons (knO rfl) (.cons (knD rfl) (.cons (knP rfl) (.cons (knO rfl) (.cons (knD rfl) (.cons (knD rfl) (.cons (knD rfl) (.cons (knD rfl) .nil)))))))))) (.cons (owB rfl) (.cons (owR rfl) (.cons (owB rfl) (.cons (owR rfl) (.cons (owR rfl) (.cons (owR rfl) .nil)))))) ⟨Nat.zero_le _,.rq1,.cons (by rw [mixL_zero];rfl) .nil⟩ ?_
    intro i h3
    have h3:i≤v.length:=h3
    have hml:(mixL (redV (rs.take k) v) (fun j=>(redV (rs.take k) v).getD j 0-qotR (redV (rs.take k) v) (rs.getD k default)*(rs.getD k default).v.getD j 0) i).length=v.length:=mixL_len.trans hwl
    refine AW.sg hE rfl (c_lss rfl rfl rfl (OL.nil (AW.seq (AW.cond rfl (fun h79=>?_) (fun h79=>?_)))))
    ·try simp only [dx9] at h79
     refine AW.skip (AW.seq (AW.block (AW.seq ?_)))
     have zxr:=zr i
     have zxw:=zw i
     have zm:=sz_mul (qotR (redV (rs.take k) v) (rs.getD k default)) ((rs.getD k default).v.getD i 0)
     refine AW.rg hE rfl (mvD rfl (ixLn sl.Rats 0 rfl rfl (by omega) rfl rfl (ldRA ag.Rat rfl (vs:=[_,_,_]) rfl (nb9 rfl) (al z.Rat rfl fun b13=>(asD rfl (sto sz.Rat rfl rfl rfl rfl rfl (nb9 rfl) (cells2:=[_,_,_]) rfl (OL.nil ?_)))))))
     refine AW.dg 1 [0,1,2,3,4,5,6,7,8,9,10,11] order_free hE rfl (by kernel_rfl) (OI.of_OL (os:=[_,_,_,_,_,_,_,_,_,_,_,_]) rfl ?_)
     refine mvO rfl (mvD rfl (mvO rfl (mvD rfl (ixOn sl.Rats rfl rfl (by omega) (ldEAL ag.Rat 0 (by decide) rfl rfl (by omega) (vs:=[_,_,_]) rfl (nb9 rfl) ?_)))))
     rw [mixL_get (by omega)]
     refine ldPA ag.Rat rfl rfl (vs:=[_,_,_]) rfl (nb9 rfl) (ldPA ag.Rat rfl rfl (vs:=[_,_,_]) rfl (nb9 rfl) (clv rfl vL (rational_MulQ (x:=qotR (redV (rs.take k) v) (rs.getD k default)) (y:=(rs.getD k default).v.getD i 0) (by omega) (by omega)) (clv rfl vL (rational_SubQ (x:=(redV (rs.take k) v).getD i 0) (y:=qotR (redV (rs.take k) v) (rs.getD k default)*(rs.getD k default).v.getD i 0) (by omega) (by omega)) (ixOn sl.Rats rfl rfl (by omega) ?_))))
     refine stE sz.Rat rfl (d:=dQ ((fun j=>(redV (rs.take k) v).getD j 0-qotR (redV (rs.take k) v) (rs.getD k default)*(rs.getD k default).v.getD j 0) i)) vd_q rfl rfl (by rw [lm9];omega) (es2:=(mixL (redV (rs.take k) v) (fun j=>(redV (rs.take k) v).getD j 0-qotR (redV (rs.take k) v) (rs.getD k default)*(rs.getD k default).v.getD j 0) (i+1)).map dQ) (by rw [← mixL_set (show i<(redV (rs.take k) v).length by omega),List.map_set]) ?_
     refine OL.nil (AW.rg hE rfl (add_i64 rfl rfl (by omega) (mvD rfl (OL.nil ?_))))
     exact AW.again (x:=i) (i+1) (by omega) ⟨by omega,Knows.app .rq10 .rq1,Owns.app (.cons rfl (.cons rfl (.cons rfl (.cons rfl (.cons rfl (.cons rfl .nil)))))) (.cons rfl .nil)⟩
    ·try simp only [dx9] at h79
     refine AW.exit (AW.seq ?_)
     obtain rfl:i=v.length:=by omega
     refine AW.rg hE rfl (mvP rfl (ncP rfl (faP fd.Space_1 rfl rfl (ldPC ce.Ratss rfl rfl rfl (mvD rfl (ixOn sl.Ratss rfl rfl (by omega) (ldEL ce.Rats default (by decide) rfl rfl hkr rfl ?_)))))))
     refine lnL sl.Rats rfl rfl ?_
     rw [hck]
     refine mvD rfl (OL.nil (AW.block ?_))
     refine AW.whileK (α:=Nat) [(0,_),(4,_),(5,_),(10,_),(42,_),(43,_),(44,_),(101,_),(102,_)] [(10,_),(18,_),(1000,_),(1001,_),(1002,_),(1003,_)] (fun i=>[(103,.d (dI i))]) (fun i=>[(38,.row b38 rs.length T.Rat 3 ((mixL (redC (rs.take k) v (List.replicate rs.length 0)) (fun j=>(redC (rs.take k) v (List.replicate rs.length 0)).getD j 0+qotR (redV (rs.take k) v) (rs.getD k default)*(rs.getD k default).c.getD j 0) i).map dQ))]) (fun i=>i≤k+1) (fun i=>k+1-i) 0 (.cons (knP rfl) (.cons (knO rfl) (.cons (knO rfl) (.cons (knP rfl) (.cons (knO rfl) (.cons (knD rfl) (.cons (knD rfl) (.cons (knD rfl) (.cons (knD rfl) .nil))))))))) (.cons (owB rfl) (.cons (owR rfl) (.cons (owB rfl) (.cons (owR rfl) (.cons (owR rfl) (.cons (owR rfl) .nil)))))) ⟨Nat.zero_le _,.rq1,.cons (by rw [mixL_zero];rfl) .nil⟩ ?_
     intro i h4
     have h4:i≤k+1:=h4
     have hml:(mixL (redC (rs.take k) v (List.replicate rs.length 0)) (fun j=>(redC (rs.take k) v (List.replicate rs.length 0)).getD j 0+qotR (redV (rs.take k) v) (rs.getD k default)*(rs.getD k default).c.getD j 0) i).length=rs.length:=mixL_len.trans htl
     refine AW.sg hE rfl (c_lss rfl rfl rfl (OL.nil (AW.seq (AW.cond rfl (fun h104=>?_) (fun h104=>?_)))))
     ·try simp only [dx9] at h104
      refine AW.skip (AW.seq (AW.block (AW.seq ?_)))
      have zxc:=zc i
      have zxt:=zt i
      have zm:=sz_mul (qotR (redV (rs.take k) v) (rs.getD k default)) ((rs.getD k default).c.getD i 0)
      refine AW.rg hE rfl (mvD rfl (ixLn sl.Rats 0 rfl rfl (by omega) rfl rfl (ldRA ag.Rat rfl (vs:=[_,_,_]) rfl (nb9 rfl) (al z.Rat rfl fun b15=>(asD rfl (sto sz.Rat rfl rfl rfl rfl rfl (nb9 rfl) (cells2:=[_,_,_]) rfl (OL.nil ?_)))))))
      refine AW.dg 1 [0,1,2,3,4,5,6,7,8,9,10,11] order_free hE rfl (by kernel_rfl) (OI.of_OL (os:=[_,_,_,_,_,_,_,_,_,_,_,_]) rfl ?_)
      refine mvO rfl (mvD rfl (mvO rfl (mvD rfl (ixOn sl.Rats rfl rfl (by omega) (ldEAL ag.Rat 0 (by decide) rfl rfl (by omega) (vs:=[_,_,_]) rfl (nb9 rfl) ?_)))))
      rw [mixL_get (by omega)]
      refine ldPA ag.Rat rfl rfl (vs:=[_,_,_]) rfl (nb9 rfl) (ldPA ag.Rat rfl rfl (vs:=[_,_,_]) rfl (nb9 rfl) (clv rfl vL (rational_MulQ (x:=qotR (redV (rs.take k) v) (rs.getD k default)) (y:=(rs.getD k default).c.getD i 0) (by omega) (by omega)) (clv rfl vL (rational_AddQ (x:=(redC (rs.take k) v (List.replicate rs.length 0)).getD i 0) (y:=qotR (redV (rs.take k) v) (rs.getD k default)*(rs.getD k default).c.getD i 0) (by omega) (by omega)) (ixOn sl.Rats rfl rfl (by omega) ?_))))
      refine stE sz.Rat rfl (d:=dQ ((fun j=>(redC (rs.take k) v (List.replicate rs.length 0)).getD j 0+qotR (redV (rs.take k) v) (rs.getD k default)*(rs.getD k default).c.getD j 0) i)) vd_q rfl rfl (by rw [lm9];omega) (es2:=(mixL (redC (rs.take k) v (List.replicate rs.length 0)) (fun j=>(redC (rs.take k) v (List.replicate rs.length 0)).getD j 0+qotR (redV (rs.take k) v) (rs.getD k default)*(rs.getD k default).c.getD j 0) (i+1)).map dQ) (by rw [← mixL_set (show i<(redC (rs.take k) v (List.replicate rs.length 0)).length by omega),List.map_set]) ?_
      refine OL.nil (AW.rg hE rfl (add_i64 rfl rfl (by omega) (mvD rfl (OL.nil ?_))))
      exact AW.again (x:=i) (i+1) (by omega) ⟨by omega,Knows.app .rq9 .rq1,Owns.app (.cons rfl (.cons rfl (.cons rfl (.cons rfl (.cons rfl (.cons rfl .nil)))))) (.cons rfl .nil)⟩
     ·try simp only [dx9] at h104
      refine AW.exit ?_
      first|(obtain rfl:i=k+1:=(by omega))|skip
      refine AW.rg hE rfl (add_i64 rfl rfl (by omega) (mvD rfl (OL.nil ?_)))
      exact AW.again (x:=k) (k+1) (by omega) ⟨by omega,Knows.app .rq5 .rq1,Owns.app (.cons rfl (.cons rfl (.cons rfl (.cons rfl .nil)))) (.cons (by rw [redV_take (by omega),← red_g,hwl];rfl) (.cons (by rw [redC_take (by omega),← add_g hck];rfl) .nil))⟩
  ·try simp only [dx9] at h45
   refine AW.exit (AW.seq ?_)
   obtain rfl:k=rs.length:=by omega
   have htk:redC (rs.take rs.length) v (List.replicate rs.length 0)=takenS rs v:=by rw [List.take_length];rfl
   rw [htk,List.take_length]
   rw [htk] at htl
   rw [List.take_length] at hwl
   refine AW.freeze 18 rfl (AW.to [(4,.d (dQs (redV rs v))),(5,.osl 38 b38 rs.length rs.length)] ((38,.row b38 rs.length T.Rat 3 ((takenS rs v).map dQ))::spL b B rs) (.cons (frz_osl (by rw [lm9];exact hwl.symm) rfl) .rq1) (.cons rfl (.cons rfl (.cons rfl (.cons rfl (.cons rfl .nil))))) ?_)
   refine AW.freeze 38 rfl (AW.to [(4,.d (dQs (redV rs v))),(5,.d (dQs (takenS rs v)))] (spL b B rs) (.cons vR (.cons (frz_osl (by rw [lm9];exact htl.symm) rfl) .nil)) (.cons rfl (.cons rfl (.cons rfl (.cons rfl .nil)))) ?_)
   exact AW.rg hE rfl (mvD rfl (mvD rfl (asD rfl (asD rfl (OL.nil (AW.ret ⟨⟨_,.tmp rfl (.tmp rfl .nil),_,.cons (.le vR) (.cons (.le vR) .nil),rfl⟩,fun id blk hk=>lk_own (l:=spL b B rs) (.cons rfl (.cons rfl (.cons rfl (.cons rfl trivial)))) id blk hk⟩))))))
set_option maxRecDepth 8000 in
set_option maxHeartbeats 3200000 in
theorem AddS {v:List Rat}{n b:Nat}{B:SpB}{rs:List SRow}(sp:SpOK n 16777215 rs)(hv:v.length=n)(n6:n≤6)(zv:∀ i,sz (v.getD i 0)≤16777215):FSpecE P F.span_Space_Add [.ptr 1000 b 0,.d (dQs v)] (spM b B rs) (fun _:SpB=>.d (dB (growsS rs v))) (fun x=>spM b x (addS rs v)) (fun _=>True):=by
 have hle:=sp.le
 obtain ⟨zl,zt⟩:=sp.sz.last (w:=v) (by omega) zv
 have hvl:(redV rs v).length=v.length:=redV_len _ _
 have htl:=takenS_len rs v
 have hbl:=byS_len rs v
 refine FSpecE.intro fn.span_Space_Add (by rfl) (by rfl) (nb9 (by rfl)) fun E hE=>(AW.sg hE rfl (asD rfl (OL.nil (AW.sg hE rfl (mvP rfl (mvD rfl (clC0 (args2:=[.ptr 1000 b 0,.d (dQs v)]) rfl vL (reduceS (b:=b) (B:=B) sp hv n6 zv) (fun id blk hk=>lk_own (l:=spL b B rs) (.cons rfl (.cons rfl (.cons rfl (.cons rfl trivial)))) id blk hk) ?_)))))))
 refine mvT rfl (ex rfl rfl (ex rfl rfl (asD rfl (asD rfl (OL.nil (AW.sg hE rfl (mvD rfl ?_)))))))
 refine clv rfl vL (firstQ (w:=redV rs v) (by omega) (fun i=>Nat.le_succ_of_le (zl i))) (asD rfl (OL.nil (AW.seq (AW.sg hE rfl (mvD rfl (c_lss rfl rfl rfl (OL.nil ?_)))))))
 refine AW.cond rfl (fun hg=>?_) (fun hg=>?_)
 ·have hg:growsS rs v=false:=firstI_neg.1 (dt9 hg)
  have hadd:addS rs v=rs:=if_neg (by rw [hg];exact Bool.false_ne_true)
  exact AW.sg hE rfl (asD rfl (OL.nil (AW.ret ⟨B,trivial,⟨_,.tmp rfl .nil,.le (by rw [hg];exact VLe.refl _)⟩,by rw [hadd];exact fun id blk hk=>lk_own (l:=spL b B rs) (.cons rfl (.cons rfl (.cons rfl (.cons rfl trivial)))) id blk hk⟩)))
 ·have hg:growsS rs v=true:=by have h1:=df9 hg;cases hc:growsS rs v with
   | true=>rfl
   | false=>exact absurd (firstI_neg.2 hc) h1
  have hadd:addS rs v=rs++[newR rs v]:=if_pos hg
  have hfi:=firstI_pos hg
  refine AW.skip (AW.sg hE rfl (clv rfl .rq2 (rational_MakeQ (n:=1) (d:=1) (by decide) (by decide) (by decide)) ?_))
  rw [q11]
  refine mvT rfl (ex rfl rfl (ex rfl rfl (al z.Rat rfl fun b8=>(sto sz.Rat rfl rfl rfl rfl rfl (nb9 rfl) (cells2:=[_,_,_]) rfl (asD rfl (OL.nil (AW.sg hE rfl ?_)))))))
  refine mvD rfl (lnL sl.Rats rfl rfl ?_)
  rw [htl]
  refine bo rfl rfl (bin_add (c:=((rs.length+1:Nat):Int)) (by omega) (wrap_i64 (by omega))) (mkL dQ 0 sl.Rats z.Rat vcs_q0 rfl rfl (Nat.le_refl _) (by omega) (by omega) rfl fun b30=>(asO rfl (OL.nil (AW.seq (AW.sg hE rfl (mvD rfl (lnL sl.Rats rfl rfl ?_)))))))
  rw [htl]
  refine mvD rfl (OL.nil (AW.block ?_))
  refine AW.whileK (α:=Nat) [(0,_),(4,_),(5,_),(6,_),(7,_),(8,_),(10,_),(31,_),(32,_)] [(8,_),(1000,_),(1001,_),(1002,_),(1003,_)] (fun i=>[(33,.d (dI i))]) (fun i=>[(30,.row b30 (rs.length+1) T.Rat 3 ((fillF 0 (fun j=>(byS rs v).getD j 0) (rs.length+1) i).map dQ))]) (fun i=>i≤rs.length) (fun i=>rs.length-i) 0 (.cons (knP rfl) (.cons (knD rfl) (.cons (knD rfl) (.cons (knD rfl) (.cons (knD rfl) (.cons (knP rfl) (.cons (knO rfl) (.cons (knD rfl) (.cons (knD rfl) .nil))))))))) (.cons (owB rfl) (.cons (owB rfl) (.cons (owR rfl) (.cons (owR rfl) (.cons (owR rfl) .nil))))) ⟨Nat.zero_le _,.rq1,.cons (by rw [fillF_zero];rfl) .nil⟩ ?_
  intro i h1
  have h1:i≤rs.length:=h1
  have hfl:=fillF_len 0 (fun j=>(byS rs v).getD j 0) (rs.length+1) i
  refine AW.sg hE rfl (c_lss rfl rfl rfl (OL.nil (AW.seq (AW.cond rfl (fun h34=>?_) (fun h34=>?_)))))
  ·try simp only [dx9] at h34
   refine AW.skip (AW.seq (AW.block (AW.seq ?_)))
   have hi:i<rs.length:=by omega
   have zx:=zt i
   refine AW.rg hE rfl (mvD rfl (ixLn sl.Rats 0 rfl rfl (by omega) rfl rfl (ldRA ag.Rat rfl (vs:=[_,_,_]) rfl (nb9 rfl) (al z.Rat rfl fun b12=>(asD rfl (sto sz.Rat rfl rfl rfl rfl rfl (nb9 rfl) (cells2:=[_,_,_]) rfl (OL.nil ?_)))))))
   refine AW.rg hE rfl (mvO rfl (mvD rfl (ldPA ag.Rat rfl rfl (vs:=[_,_,_]) rfl (nb9 rfl) (clv rfl vL (rational_NegQ (q:=(takenS rs v).getD i 0) (by omega)) ?_))))
   rw [← byS_get hi]
   refine ixOn sl.Rats rfl rfl (by omega) (stE sz.Rat rfl (d:=dQ ((fun j=>(byS rs v).getD j 0) i)) vd_q rfl rfl (by rw [lm9];omega) (es2:=(fillF 0 (fun j=>(byS rs v).getD j 0) (rs.length+1) (i+1)).map dQ) (by rw [← fillF_set (show i<rs.length+1 by omega),List.map_set]) (OL.nil (AW.rg hE rfl (add_i64 rfl rfl (by omega) (mvD rfl (OL.nil ?_))))))
   exact AW.again (x:=i) (i+1) (by omega) ⟨by omega,Knows.app .rq9 .rq1,Owns.app (.cons rfl (.cons rfl (.cons rfl (.cons rfl (.cons rfl .nil))))) (.cons rfl .nil)⟩
  ·try simp only [dx9] at h34
   refine AW.exit (AW.seq ?_)
   obtain rfl:i=rs.length:=by omega
   refine AW.rg hE rfl (mvO rfl (mvD rfl (lnL sl.Rats rfl rfl ?_)))
   rw [htl]
   refine ldPA ag.Rat rfl rfl (vs:=[_,_,_]) rfl (nb9 rfl) (ixOn sl.Rats rfl rfl (by omega) ?_)
   refine stE sz.Rat rfl (d:=dQ ((fun j=>(byS rs v).getD j 0) rs.length)) (by show VD (vQ 1) (dQ ((byS rs v).getD rs.length 0));rw [byS_last];exact vd_q) rfl rfl (by rw [lm9];omega) (es2:=(byS rs v).map dQ) (by rw [← List.map_set,fillF_set (show rs.length<rs.length+1 by omega),fill_row hbl]) ?_
   refine OL.nil (AW.seq ?_)
   refine AW.freeze 30 rfl (AW.to [(0,.ptr 1000 b 0),(5,.d (dQs (redV rs v))),(7,.d (dI (firstP (redV rs v)))),(10,.d (dQs (byS rs v)))] (spL b B rs) (.cons VLe.ptr (.cons vR (.cons (VLe.int hfi) (.cons (frz_osl (by rw [lm9];exact hbl.symm) rfl) (.nil))))) (.cons rfl (.cons rfl (.cons rfl (.cons rfl .nil)))) ?_)
   refine AW.dg 2 [0,1,2,3,4,5,6,7,8,10,11,12,13,14,15,17,18,19,20,21,22,9,16,23,24,25,26,27,28,29,30,31,32] order_free hE rfl (by kernel_rfl) (OI.of_OL (os:=[_,_,_,_,_,_,_,_,_,_,_,_,_,_,_,_,_,_,_,_,_,_,_,_,_,_,_,_,_,_,_,_,_]) rfl ?_)
   refine mvP rfl (mvP rfl (mvP rfl (mvP rfl (ncP rfl (faP fd.Space_0 rfl rfl (ldPC ce.Ratss rfl rfl rfl (mvD rfl ?_)))))))
   refine lt1 (y:=dQs (redV rs v)) sl.Ratss (VC.d _).vd rfl (by decide) (mvP rfl (ncP rfl (faP fd.Space_1 rfl rfl (ldPC ce.Ratss rfl rfl rfl (mvD rfl (lt1 (y:=dQs (byS rs v)) sl.Ratss (VC.d _).vd rfl (by decide) (mvP rfl ?_)))))))
   refine ncP rfl (faP fd.Space_2 rfl rfl (ldPC ce.ints rfl rfl rfl (mvD rfl (lt1 (y:=dI (firstP (redV rs v))) sl.ints (VC.d _).vd rfl (by decide) ?_))))
   refine apO sl.Ratss rfl rfl rfl (by rw [lm9]) (VC.d _) (fun y hy=>by rw [ms9 hy];rfl) (by simp;omega) (by simp;omega) (.inl rfl) (ys:=(rs++[(newR rs v)]).map fun r=>dQs r.v) (by rw [List.map_append];rfl) (n2:=rs.length+1) rfl fun b58 c58=>?_
   refine apO sl.Ratss rfl rfl rfl (by rw [lm9]) (VC.d _) (fun y hy=>by rw [ms9 hy];rfl) (by simp;omega) (by simp;omega) (.inl rfl) (ys:=(rs++[(newR rs v)]).map fun r=>dQs r.c) (by rw [List.map_append];rfl) (n2:=rs.length+1) rfl fun b65 c65=>?_
   refine apO sl.ints rfl rfl rfl (by rw [lm9]) (VC.d _) (fun y hy=>by rw [ms9 hy];rfl) (by simp;omega) (by simp;omega) (.inl rfl) (ys:=(rs++[(newR rs v)]).map fun r=>dI r.p) (by rw [List.map_append];rfl) (n2:=rs.length+1) rfl fun b72 c72=>?_
   refine ncP rfl (faP fd.Space_0 rfl rfl (sto sz.Ratss rfl rfl rfl rfl rfl (nb9 rfl) rfl (ncP rfl (faP fd.Space_1 rfl rfl (sto sz.Ratss rfl rfl rfl rfl rfl (nb9 rfl) rfl (ncP rfl (faP fd.Space_2 rfl rfl ?_)))))))
   refine sto sz.ints rfl rfl rfl rfl rfl (nb9 rfl) rfl (OL.nil (AW.seq ?_))
   have hln:(rs++[newR rs v]).length=rs.length+1:=by rw [la9];rfl
   refine AW.to [] [(1000,.box b T.Space [.osl 58 b58 (rs.length+1) c58,.osl 65 b65 (rs.length+1) c65,.osl 72 b72 (rs.length+1) c72]),(58,.row b58 c58 T.Rats 1 ((rs++[newR rs v]).map fun r=>dQs r.v)),(65,.row b65 c65 T.Rats 1 ((rs++[newR rs v]).map fun r=>dQs r.c)),(72,.row b72 c72 T.int 1 ((rs++[newR rs v]).map fun r=>dI r.p))] .nil (.cons rfl (.cons rfl (.cons rfl (.cons rfl .nil)))) ?_
   refine AW.rename 58 1001 rfl (AW.rename 65 1002 rfl (AW.rename 72 1003 rfl (AW.boxW 1000 [.osl 1001 b58 (rs.length+1) c58,.osl 1002 b65 (rs.length+1) c65,.osl 1003 b72 (rs.length+1) c72] rfl (.cons VLe.osl (.cons VLe.osl (.cons VLe.osl .nil))) ?_)))
   refine AW.rg hE rfl (asD rfl (OL.nil ?_))
   exact AW.ret ⟨⟨b58,c58,b65,c65,b72,c72⟩,trivial,⟨_,.tmp rfl .nil,.le (by rw [hg];exact VLe.refl _)⟩,by rw [hadd];exact fun id blk hk=>lk_own (l:=spL b ⟨b58,c58,b65,c65,b72,c72⟩ (rs++[newR rs v])) (.cons (by show _=some (Blk.box b T.Space [.osl 1001 b58 (rs++[newR rs v]).length c58,.osl 1002 b65 (rs++[newR rs v]).length c65,.osl 1003 b72 (rs++[newR rs v]).length c72]);rw [hln];rfl) (.cons rfl (.cons rfl (.cons rfl trivial)))) id blk hk⟩
end Go.Proofs.YtmcoihfkniccdaaGreatDoor
