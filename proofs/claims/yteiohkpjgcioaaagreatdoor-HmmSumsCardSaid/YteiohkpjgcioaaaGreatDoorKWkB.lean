/-
  Walks of package semiring, over the rational numbers, part 2 (printed by mk2.py).
-/
import Derived.Test.YteiohkpjgcioaaaGreatDoorKMod78
import Derived.Test.YteiohkpjgcioaaaGreatDoorKHmmA
set_option linter.unusedVariables false
set_option linter.unusedSimpArgs false
namespace Go.AL
open Go Go.BigFrame
structure SameA (a b:Au):Prop where
 st:a.st=b.st
 sym:a.sym=b.sym
 ini:a.ini=b.ini
 fin:a.fin=b.fin
 ent:∀ s i j,entA a.arcs s i j=entA b.arcs s i j
def formOf (a:Au):Au:={ a with arcs:=formA a.arcs }
section
variable {a b c d:Au}{w:List Int}{s i j:Nat}
theorem mtx_congr {n:Nat}{f g:Nat→Nat→Rat}(h:∀ i j,i<n→j<n→f i j=g i j):mtx n f=mtx n g:=by
 unfold mtx
 refine List.map_congr_left fun i hi=>List.map_congr_left fun j hj=>h i j (List.mem_range.1 hi) (List.mem_range.1 hj)
theorem SameA.ent1 (h:SameA a b)(r q:List Au)(hr:∀ s i j,entL r s i j=entL q s i j):entL (a::r) s i j=entL (b::q) s i j:=by
 rw [entL,entL,h.st,h.ent,hr]
theorem SameA.mach1 (h:SameA a b):machL [a]=machL [b]:=by
 unfold machL
 have e:(fun s=>mtx (sizeL [a]) (entL [a] s))=fun s=>mtx (sizeL [b]) (entL [b] s):=by
  funext s
  rw [size_one,size_one,h.st]
  exact mtx_congr fun i j _ _=>h.ent1 [] [] fun _ _ _=>rfl
 rw [e,size_one,size_one,h.st]
 simp only [List.flatMap_cons,List.flatMap_nil,finL,List.getD_cons_zero,h.ini,h.fin,h.sym]
theorem SameA.ser (h:SameA a b):serA a=serA b:=by unfold serA;rw [h.mach1]
theorem SameA.refl (a:Au):SameA a a:=⟨rfl,rfl,rfl,rfl,fun _ _ _=>rfl⟩
theorem Au.Ok.form (h:a.Ok):(formOf a).Ok:=⟨h.sym0,h.ini,h.fin,PlaceA.form (p:=fun f l t=>f<a.st∧t<a.st∧1≤l∧l≤a.sym) h.arc⟩
end
structure MModel where
 st:Int
 ini:List Int
 fin:List Int
 arcs:List Int
instance:Inhabited MModel:=⟨⟨0,[],[],[]⟩⟩
section
variable {m:MModel}{sym most:Nat}{k v:Int}{l:List Int}
structure Au.Sz (a:Au) (B N:Nat):Prop where
 ini:Small B a.ini
 fin:Small B a.fin
 arc:∀ x,x ∈ a.arcs→sz x.q≤B
 num:a.arcs.length≤N
end
abbrev dW (q:Rat):D:=.ag [dB (ofQ q).neg,u32s (ofQ q).num,u32s (ofQ q).den,dI 0,dB false,dU 0,.sl [],.sl []]
abbrev vW (q:Rat):V:=.ag [.d (dB (ofQ q).neg),.d (u32s (ofQ q).num),.d (u32s (ofQ q).den),.d (dI 0),.d (dB false),.d (dU 0),.d (.sl []),.d (.sl [])]
abbrev dWs (l:List Rat):D:=.sl (l.map dW)
abbrev dArc (x:Arc9):D:=.ag [dI x.f,dI x.l,dI x.t,dB (ofQ x.q).neg,u32s (ofQ x.q).num,u32s (ofQ x.q).den,dI 0,dB false,dU 0,.sl [],.sl []]
abbrev vArc (x:Arc9):V:=.ag [.d (dI x.f),.d (dI x.l),.d (dI x.t),.d (dB (ofQ x.q).neg),.d (u32s (ofQ x.q).num),.d (u32s (ofQ x.q).den),.d (dI 0),.d (dB false),.d (dU 0),.d (.sl []),.d (.sl [])]
abbrev dArcs (l:List Arc9):D:=.sl (l.map dArc)
abbrev vRing:V:=.ag [.d (dI 1),.d (.sl [])]
abbrev vAu (a:Au):V:=.ag [.d (dI 1),.d (.sl []),.d (dI a.sym),.d (dI a.st),.d (dWs a.ini),.d (dWs a.fin),.d (dArcs a.arcs)]
section
variable {q:Rat}{x:Arc9}
theorem vle_w0:VLe (.ag [.d (dB false),.mt,.mt,.d (dI 0),.d (dB false),.d (dU 0),.mt,.mt]) (vW 0):=by
 unfold vW;rw [ofQ_zero]
 exact VLe.ag (.cons vR (.cons VLe.mt (.cons VLe.mt (.cons vR (.cons vR (.cons vR (.cons VLe.mt (.cons VLe.mt .nil))))))))
theorem vle_wq:VLe (.ag [.d (dB (ofQ q).neg),.d (u32s (ofQ q).num),.d (u32s (ofQ q).den),.d (dI 0),.d (dB false),.d (dU 0),.mt,.mt]) (vW q) :=
 VLe.ag (.cons vR (.cons vR (.cons vR (.cons vR (.cons vR (.cons vR (.cons VLe.mt (.cons VLe.mt .nil))))))))
end
end Go.AL
namespace Go.Proofs.YteiohkpjgcioaaaGreatDoor
open Go Go.AL
theorem ofQ_inj {p q:Rat}(h:ofQ p=ofQ q):p=q:=by rw [← q_ofQ p,h,q_ofQ]
theorem raw_eq {r s:Raw}(h1:r.neg=s.neg)(h2:r.num=s.num)(h3:r.den=s.den):r=s:=by cases r;cases s;simp_all
theorem equal_u32 {l m:List Nat}(nl:l.length≤8796093022208)(nm:m.length≤8796093022208):FSpec P F.slices_Equal_uint32s_uint32 [.d (u32s l),.d (u32s m)] (.d (dB (decide (l=m)))):=by
 refine FSpec.intro fn.slices_Equal_uint32s_uint32 (by rfl) (by rfl) (nb9 (by rfl)) fun E hE=>(AW.sg hE rfl (asD rfl (OL.nil (AW.seq (AW.sg hE rfl (mvD rfl (lnL sl.u32s rfl rfl ?_)))))))
 refine mvD rfl (lnL sl.u32s rfl rfl (c_neq rfl rfl rfl (OL.nil (AW.cond rfl (fun h10=>?_) (fun h10=>?_)))))
 ·have hl:l.length≠m.length:=by have:=nd_t h10;omega
  exact AW.sg hE rfl (asD rfl (OL.nil (AW.ret (RetQ.r ⟨_,.tmp rfl .nil,.le (VLe.bool ((decide_eq_false fun e=>hl (by rw [e])).symm))⟩))))
 ·have hl:l.length=m.length:=by have:=nd_f h10;omega
  refine AW.skip (AW.seq (AW.sg hE rfl (mvD rfl (lnL sl.u32s rfl rfl (mvD rfl (OL.nil (AW.block ?_)))))))
  refine AW.whileK (α:=Nat) [(0,_),(1,_),(12,_)] [] (fun i=>[(13,.d (dI i))]) (fun i=>[]) (fun i=>i≤l.length∧∀ j,j<i→l.getD j 0=m.getD j 0) (fun i=>l.length-i) 0 (.cons (knD rfl) (.cons (knD rfl) (.cons (knD rfl) .nil))) .nil ⟨⟨Nat.zero_le _,fun j hj=>by omega⟩,.rq1,.nil⟩ ?_
  rintro i ⟨h1,h2⟩
  refine AW.sg hE rfl (c_lss rfl rfl rfl (OL.nil (AW.seq (AW.cond rfl (fun h14=>?_) (fun h14=>?_)))))
  ·try simp only [dx9] at h14
   refine AW.skip (AW.seq (AW.block (AW.sg hE rfl (mvD rfl (asD rfl (OL.nil (AW.seq ?_)))))))
   refine AW.dg 1 [0,1,2,3,4,5,6,7,8] order_free hE rfl (by kernel_rfl) (OI.of_OL (os:=[_,_,_,_,_,_,_,_,_]) rfl ?_)
   refine mvD rfl (mvD rfl (ixLn sl.u32s 0 rfl rfl (by omega) rfl rfl (ldRC ce.u32 rfl (mvD rfl (mvD rfl (ixLn sl.u32s 0 rfl rfl (by omega) rfl rfl (ldRC ce.u32 rfl ?_)))))))
   refine c_neq rfl rfl rfl (OL.nil (AW.cond rfl (fun hc=>?_) (fun hc=>?_)))
   ·have hc:l.getD i 0≠m.getD i 0:=by have:=nd_t hc;omega
    exact AW.sg hE rfl (asD rfl (OL.nil (AW.ret (RetQ.r ⟨_,.tmp rfl .nil,.le (VLe.bool ((decide_eq_false fun e=>hc (by rw [e])).symm))⟩))))
   ·have hc:l.getD i 0=m.getD i 0:=by have:=nd_f hc;omega
    refine AW.skip (AW.rg hE rfl (add_i64 rfl rfl (by omega) (mvD rfl (OL.nil ?_))))
    exact AW.again (x:=i) (i+1) (by omega) ⟨⟨by omega,fun j hj=>by rcases Nat.lt_or_ge j i with h|h;exact h2 j h;obtain rfl:j=i:=(by omega);exact hc⟩,Knows.app .rq3 .rq1,.nil⟩
  ·try simp only [dx9] at h14
   exact AW.exit (AW.sg hE rfl (asD rfl (OL.nil (AW.ret (RetQ.r ⟨_,.tmp rfl .nil,.le (VLe.bool ((decide_eq_true (list_eq_getD hl 0 fun j hj=>h2 j (by omega))).symm))⟩)))))
theorem sameRat {p q:Rat}(hp:sz p≤68719476736)(hq:sz q≤68719476736):FSpec P F.semiring_sameRat [vQ p,vQ q] (.d (dB (decide (p=q)))):=by
 have sp:=ofQ_sm hp
 have sq:=ofQ_sm hq
 have l1:=sp.ln
 have l2:=sp.ld
 have l3:=sq.ln
 have l4:=sq.ld
 refine FSpec.intro fn.semiring_sameRat (by rfl) (by rfl) (nb9 (by rfl)) fun E hE=>(AW.sg hE rfl (bxA rfl rfl fun b2=>(bxA rfl rfl fun b3=>(asD rfl (OL.nil (AW.sg hE rfl (faP fd.Rat_0 rfl rfl ?_)))))))
 refine ldPC ce.bool rfl rfl rfl (faP fd.Rat_0 rfl rfl (ldPC ce.bool rfl rfl rfl (eqb bt.bool rfl rfl (OL.split 9 rfl (fun g=>?_) (fun g=>?_)))))
 ·have g:=dt9 g
  refine mvD rfl (OL.yes rfl (faP fd.Rat_1 rfl rfl (OL.yes rfl (ldPC ce.u32s rfl rfl rfl (OL.yes rfl (faP fd.Rat_1 rfl rfl (OL.yes rfl ?_)))))))
  refine ldPC ce.u32s rfl rfl rfl (OL.yes rfl (clv rfl .rq2 (equal_u32 (by omega) (by omega)) (OL.split 15 rfl (fun k=>?_) (fun k=>?_))))
  ·have k:=dt9 k
   refine pkT rfl rfl (mvD rfl (OL.yes rfl (faP fd.Rat_2 rfl rfl (OL.yes rfl (ldPC ce.u32s rfl rfl rfl (OL.yes rfl (faP fd.Rat_2 rfl rfl ?_)))))))
   exact OL.yes rfl (ldPC ce.u32s rfl rfl rfl (OL.yes rfl (clv rfl .rq2 (equal_u32 (by omega) (by omega)) (pkT rfl rfl (asD rfl (OL.nil (AW.ret (RetQ.r ⟨_,.tmp rfl .nil,.le (VLe.bool (decide_eq_decide.2 ⟨fun e=>ofQ_inj (raw_eq g k e),fun e=>by rw [e]⟩))⟩))))))))
  ·have k:=df9 k
   refine pkT rfl rfl (mvD rfl (OL.nd rfl (OL.nd rfl (OL.nd rfl (OL.nd rfl (OL.nd rfl (pkF rfl rfl ?_)))))))
   exact asD rfl (OL.nil (AW.ret (RetQ.r ⟨_,.tmp rfl .nil,.le (VLe.bool ((decide_eq_false fun e=>k (by rw [e])).symm))⟩)))
 ·have g:=df9 g
  refine mvD rfl (OL.nd rfl (OL.nd rfl (OL.nd rfl (OL.nd rfl (OL.nd rfl (pkF rfl rfl (mvD rfl ?_)))))))
  refine OL.nd rfl (OL.nd rfl (OL.nd rfl (OL.nd rfl (OL.nd rfl (pkF rfl rfl (asD rfl (OL.nil ?_)))))))
  exact AW.ret (RetQ.r ⟨_,.tmp rfl .nil,.le (VLe.bool ((decide_eq_false fun e=>g (by rw [e])).symm))⟩)
theorem equalF_Monomials {f:Nat}:FSpec P F.slices_EqualFunc_Monomial_Monomial_Monomial_Monomial [.d (.sl []),.d (.sl []),.fn f []] (.d (dB true)):=by
 refine FSpec.intro fn.slices_EqualFunc_Monomial_Monomial_Monomial_Monomial (by rfl) (by rfl) (nb9 (by rfl)) fun E hE=>(AW.sg hE rfl (asD rfl (OL.nil (AW.seq (AW.sg hE rfl (mvD rfl (lnD sl.Monomials rfl rfl rfl ?_)))))))
 refine mvD rfl (lnD sl.Monomials rfl rfl rfl (c_neq rfl rfl (c:=false) (cne_f rfl) (OL.nil (cnF rfl ?_))))
 refine AW.skip (AW.seq (AW.sg hE rfl (mvD rfl (lnD sl.Monomials rfl rfl rfl (mvD rfl (OL.nil (AW.block ?_)))))))
 refine AW.whileK (α:=Unit) [(1,_),(2,_),(15,_),(16,_)] [] (fun _u=>[(17,.d (dI 0))]) (fun _u=>[]) (fun _u=>True) (fun _u=>0) () (.cons (knD rfl) (.cons (knF rfl) (.cons (knD rfl) (.cons (knD rfl) .nil)))) .nil ⟨trivial,.rq1,.nil⟩ ?_
 intro _ _
 refine AW.sg hE rfl (c_lss rfl rfl rfl (OL.nil (AW.seq (AW.cond rfl (fun hno=>absurd hno (by simp)) (fun _=>?_)))))
 exact AW.exit (AW.sg hE rfl (asD rfl (OL.nil (AW.ret (RetQ.r ⟨_,.tmp rfl .nil,.le vR⟩)))))
theorem equalF_Weights {f:Nat}:FSpec P F.slices_EqualFunc_Weight_Weight_Weight_Weight [.d (.sl []),.d (.sl []),.fn f []] (.d (dB true)):=by
 refine FSpec.intro fn.slices_EqualFunc_Weight_Weight_Weight_Weight (by rfl) (by rfl) (nb9 (by rfl)) fun E hE=>(AW.sg hE rfl (asD rfl (OL.nil (AW.seq (AW.sg hE rfl (mvD rfl (lnD sl.Weights rfl rfl rfl ?_)))))))
 refine mvD rfl (lnD sl.Weights rfl rfl rfl (c_neq rfl rfl (c:=false) (cne_f rfl) (OL.nil (cnF rfl ?_))))
 refine AW.skip (AW.seq (AW.sg hE rfl (mvD rfl (lnD sl.Weights rfl rfl rfl (mvD rfl (OL.nil (AW.block ?_)))))))
 refine AW.whileK (α:=Unit) [(1,_),(2,_),(15,_),(16,_)] [] (fun _u=>[(17,.d (dI 0))]) (fun _u=>[]) (fun _u=>True) (fun _u=>0) () (.cons (knD rfl) (.cons (knF rfl) (.cons (knD rfl) (.cons (knD rfl) .nil)))) .nil ⟨trivial,.rq1,.nil⟩ ?_
 intro _ _
 refine AW.sg hE rfl (c_lss rfl rfl rfl (OL.nil (AW.seq (AW.cond rfl (fun hno=>absurd hno (by simp)) (fun _=>?_)))))
 exact AW.exit (AW.sg hE rfl (asD rfl (OL.nil (AW.ret (RetQ.r ⟨_,.tmp rfl .nil,.le vR⟩)))))
theorem equalW {p q:Rat}(hp:sz p≤68719476736)(hq:sz q≤68719476736):FSpec P F.semiring_Equal [vW p,vW q] (.d (dB (decide (p=q)))):=by
 refine FSpec.intro fn.semiring_Equal (by rfl) (by rfl) (nb9 (by rfl)) fun E hE=>(AW.sg hE rfl (bxA rfl rfl fun b2=>(bxA rfl rfl fun b3=>(asD rfl (OL.nil (AW.sg hE rfl (asF rfl ?_)))))))
 refine OL.nil (AW.sg hE rfl (faP fd.Weight_0 rfl rfl (ldPA ag.Rat rfl rfl (vs:=[_,_,_]) rfl (nb9 rfl) (faP fd.Weight_0 rfl rfl (ldPA ag.Rat rfl rfl (vs:=[_,_,_]) rfl (nb9 rfl) (clv rfl .rq2 (sameRat hp hq) (OL.split 10 rfl (fun g=>?_) (fun g=>?_))))))))
 ·have g:=dt9 g
  refine mvD rfl (OL.yes rfl (faP fd.Weight_1 rfl rfl (OL.yes rfl (ldPC ce.int rfl rfl rfl (OL.yes rfl (faP fd.Weight_1 rfl rfl (OL.yes rfl ?_)))))))
  refine ldPC ce.int rfl rfl rfl (OL.yes rfl (c_eql rfl rfl (c:=true) (decide_eq_true rfl) (pkT rfl rfl (mvD rfl (OL.yes rfl (faP fd.Weight_2 rfl rfl (OL.yes rfl ?_)))))))
  refine ldPC ce.bool rfl rfl rfl (OL.yes rfl (faP fd.Weight_2 rfl rfl (OL.yes rfl (ldPC ce.bool rfl rfl rfl (OL.yes rfl (eqb bt.bool rfl rfl (pkT rfl rfl ?_)))))))
  refine mvD rfl (OL.yes rfl (faP fd.Weight_3 rfl rfl (OL.yes rfl (ldPC ce.u64 rfl rfl rfl (OL.yes rfl (faP fd.Weight_3 rfl rfl (OL.yes rfl ?_)))))))
  refine ldPC ce.u64 rfl rfl rfl (OL.yes rfl (c_eql rfl rfl (c:=true) (decide_eq_true rfl) (pkT rfl rfl (mvD rfl (OL.yes rfl (faP fd.Weight_4 rfl rfl (OL.yes rfl ?_)))))))
  refine ldPC ce.Monomials rfl rfl rfl (OL.yes rfl (faP fd.Weight_4 rfl rfl (OL.yes rfl (ldPC ce.Monomials rfl rfl rfl (OL.yes rfl (mvF rfl (OL.yes rfl ?_)))))))
  refine clv rfl .rq3 (equalF_Monomials) (pkT rfl rfl (mvD rfl (OL.yes rfl (faP fd.Weight_5 rfl rfl (OL.yes rfl (ldPC ce.Weights rfl rfl rfl (OL.yes rfl ?_)))))))
  refine faP fd.Weight_5 rfl rfl (OL.yes rfl (ldPC ce.Weights rfl rfl rfl (OL.yes rfl (clv rfl .rq3 (equalF_Weights) (pkT rfl rfl (asD rfl (OL.nil ?_)))))))
  exact AW.ret (RetQ.r ⟨_,.tmp rfl .nil,.le (VLe.bool ((decide_eq_true g).symm))⟩)
 ·have g:=df9 g
  refine mvD rfl (OL.nd rfl (OL.nd rfl (OL.nd rfl (OL.nd rfl (OL.nd rfl (pkF rfl rfl (mvD rfl ?_)))))))
  refine OL.nd rfl (OL.nd rfl (OL.nd rfl (OL.nd rfl (OL.nd rfl (pkF rfl rfl (mvD rfl (OL.nd rfl ?_)))))))
  refine OL.nd rfl (OL.nd rfl (OL.nd rfl (OL.nd rfl (pkF rfl rfl (mvD rfl (OL.nd rfl (OL.nd rfl ?_)))))))
  refine OL.nd rfl (OL.nd rfl (OL.nd rfl (OL.nd rfl (pkF rfl rfl (mvD rfl (OL.nd rfl (OL.nd rfl ?_)))))))
  exact OL.nd rfl (OL.nd rfl (OL.nd rfl (pkF rfl rfl (asD rfl (OL.nil (AW.ret (RetQ.r ⟨_,.tmp rfl .nil,.le (VLe.bool ((decide_eq_false g).symm))⟩)))))))
abbrev vAlg:V:=.ag [.fn F.semiring_rationals_1 [],.fn F.semiring_rationals_2 [],.fn F.semiring_rationals_3 [],.fn F.semiring_rationals_4 [],.fn F.semiring_rationals_5 [],.fn F.semiring_quotient [],.fn F.semiring_never [],.fn F.semiring_rationals_6 [],.fn F.semiring_readNumber []]
theorem rationals  : FSpec P F.semiring_rationals [] (vAlg):=by
 refine FSpec.intro fn.semiring_rationals (by rfl) (by rfl) (nb9 (by rfl)) fun E hE=>(AW.sg hE rfl (al z.algebra rfl fun b0=>(OL.nil (AW.sg hE rfl ?_))))
 refine bd2 (cs:=[_,_,_,_,_,_,_,_,_]) z.algebra pl.algebra (pvC (by exact evF rfl) (pvC (by exact evF rfl) (pvC (by exact evF rfl) (pvC (by exact evF rfl) (pvC (by exact evF rfl) (pvC (by exact evF rfl) (pvC (by exact evF rfl) (pvC (by exact evF rfl) (pvC (by exact evF rfl) (pvN)))))))))) (by rfl) ?_
 refine sto sz.algebra rfl rfl rfl rfl rfl (nb9 rfl) (cells2:=[_,_,_,_,_,_,_,_,_]) rfl (OL.nil ?_)
 exact AW.ret (RetQ.r ⟨_,.cellA rfl rfl ag.algebra (nb9 rfl) .nil,.ag (.cons (.le vR) (.cons (.le vR) (.cons (.le vR) (.cons (.le vR) (.cons (.le vR) (.cons (.le vR) (.cons (.le vR) (.cons (.le vR) (.cons (.le vR) .nil)))))))))⟩)
theorem kindR  : FSpec P F.semiring_kind [.d (dI 1)] (vAlg):=by
 refine FSpec.intro fn.semiring_kind (by rfl) (by rfl) (nb9 (by rfl)) fun E hE=>(AW.sg hE rfl (al z.algebra rfl fun b2=>(OL.nil (AW.seq (AW.sg hE rfl (mvD rfl (OL.nil ?_)))))))
 refine AW.block (AW.sg hE rfl (c_eql rfl rfl (c:=true) (by exact decide_eq_true (by omega)) (asD rfl (OL.nil (cnT rfl ?_)))))
 refine AW.sg hE rfl (clv rfl (.nil) (rationals) (sto sz.algebra rfl rfl rfl rfl rfl (nb9 rfl) (cells2:=[_,_,_,_,_,_,_,_,_]) rfl (OL.nil ?_)))
 exact AW.ret (RetQ.r ⟨_,.cellA rfl rfl ag.algebra (nb9 rfl) .nil,.ag (.cons (.le vR) (.cons (.le vR) (.cons (.le vR) (.cons (.le vR) (.cons (.le vR) (.cons (.le vR) (.cons (.le vR) (.cons (.le vR) (.cons (.le vR) .nil)))))))))⟩)
theorem single1  : FSpec P F.semiring_single [.d (dI 1)] (.d (dB true)):=by
 refine FSpec.intro fn.semiring_single (by rfl) (by rfl) (nb9 (by rfl)) fun E hE=>(AW.sg hE rfl (asD rfl (OL.nil (AW.sg hE rfl (mvD rfl (c_geq rfl rfl (c:=true) (by exact decide_eq_true (by omega)) (mvD rfl ?_)))))))
 exact OL.yes rfl (mvD rfl (OL.yes rfl (c_leq rfl rfl (c:=true) (by exact decide_eq_true (by omega)) (pkT rfl rfl (asD rfl (OL.nil (AW.ret (RetQ.r ⟨_,.tmp rfl .nil,.le vR⟩))))))))
theorem validR  : FSpec P F.semiring_Valid [vRing] (.d (dB true)):=by
 refine FSpec.intro fn.semiring_Valid (by rfl) (by rfl) (nb9 (by rfl)) fun E hE=>(AW.sg hE rfl (bxA rfl rfl fun b1=>(asD rfl (OL.nil (AW.seq (AW.sg hE rfl (faP fd.Ring_0 rfl rfl ?_)))))))
 refine ldPC ce.int rfl rfl rfl (c_neq rfl rfl (c:=true) (by exact cne_t (by omega)) (OL.nil (cnT rfl ?_)))
 refine AW.sg hE rfl (faP fd.Ring_0 rfl rfl (ldPC ce.int rfl rfl rfl (clv rfl .rq1 (single1) (mvD rfl (OL.yes rfl (faP fd.Ring_1 rfl rfl (OL.yes rfl ?_)))))))
 refine ldPC ce.ints rfl rfl rfl (OL.yes rfl (lnD sl.ints rfl rfl rfl (OL.yes rfl (c_eql rfl rfl (c:=true) (decide_eq_true rfl) (pkT rfl rfl (asD rfl (OL.nil ?_)))))))
 exact AW.ret (RetQ.r ⟨_,.tmp rfl .nil,.le vR⟩)
theorem checkQ {q:Rat}(hz:sz q≤68719476736):FSpec P F.semiring_rationals_1 [vW q] (.d (dB true)):=by
 refine FSpec.intro fn.semiring_rationals_1 (by rfl) (by rfl) (nb9 (by rfl)) fun E hE=>(AW.sg hE rfl (bxA rfl rfl fun b1=>(asD rfl (OL.nil (AW.sg hE rfl (faP fd.Weight_0 rfl rfl (ldPA ag.Rat rfl rfl (vs:=[_,_,_]) rfl (nb9 rfl) ?_)))))))
 refine clv rfl .rq1 (rational_ValidQ (by omega)) (mvD rfl (OL.yes rfl (ldPA ag.Weight rfl rfl (vs:=[_,_,_,_,_,_,_,_]) rfl (nb9 rfl) (OL.yes rfl (faP fd.Weight_0 rfl rfl (OL.yes rfl (ldPA ag.Rat rfl rfl (vs:=[_,_,_]) rfl (nb9 rfl) ?_)))))))
 exact OL.yes rfl (bd z.Weight pl.Weight (cs:=[_,_,_,_,_,_,_,_]) rfl (OL.yes rfl (clv rfl (.cons vR (.cons (vle_wq) .nil)) (equalW hz hz) (pkT rfl rfl (asD rfl (OL.nil (AW.ret (RetQ.r ⟨_,.tmp rfl .nil,.le (VLe.bool (decide_eq_true rfl))⟩))))))))
theorem zeroQ  : FSpec P F.semiring_rationals_2 [] (vW 0):=by
 refine FSpec.intro fn.semiring_rationals_2 (by rfl) (by rfl) (nb9 (by rfl)) fun E hE=>(AW.sg hE rfl (al z.Weight rfl fun b0=>(OL.nil (AW.sg hE rfl (bd z.Weight pl.Weight (cs:=[_,_,_,_,_,_,_,_]) rfl (sto sz.Weight rfl rfl rfl rfl rfl (nb9 rfl) (cells2:=[_,_,_,_,_,_,_,_]) rfl (OL.nil ?_)))))))
 exact AW.ret (RetQ.r ⟨_,.cellA rfl rfl ag.Weight (nb9 rfl) .nil,.le vle_w0⟩)
theorem plusQ {p q:Rat}(hp:sz p≤68719476736)(hq:sz q≤68719476736):FSpec P F.semiring_rationals_4 [vW p,vW q] (vW (p+q)):=by
 refine FSpec.intro fn.semiring_rationals_4 (by rfl) (by rfl) (nb9 (by rfl)) fun E hE=>(AW.sg hE rfl (bxA rfl rfl fun b2=>(bxA rfl rfl fun b3=>(al z.Weight rfl fun b4=>(OL.nil (AW.sg hE rfl (faP fd.Weight_0 rfl rfl ?_)))))))
 exact ldPA ag.Rat rfl rfl (vs:=[_,_,_]) rfl (nb9 rfl) (faP fd.Weight_0 rfl rfl (ldPA ag.Rat rfl rfl (vs:=[_,_,_]) rfl (nb9 rfl) (clv rfl .rq2 (rational_AddQ (by assumption) (by assumption)) (bd z.Weight pl.Weight (cs:=[_,_,_,_,_,_,_,_]) rfl (sto sz.Weight rfl rfl rfl rfl rfl (nb9 rfl) (cells2:=[_,_,_,_,_,_,_,_]) rfl (OL.nil (AW.ret (RetQ.r ⟨_,.cellA rfl rfl ag.Weight (nb9 rfl) .nil,.le vle_wq⟩))))))))
theorem timesQ {p q:Rat}(hp:sz p≤68719476736)(hq:sz q≤68719476736):FSpec P F.semiring_rationals_5 [vW p,vW q] (vW (p*q)):=by
 refine FSpec.intro fn.semiring_rationals_5 (by rfl) (by rfl) (nb9 (by rfl)) fun E hE=>(AW.sg hE rfl (bxA rfl rfl fun b2=>(bxA rfl rfl fun b3=>(al z.Weight rfl fun b4=>(OL.nil (AW.sg hE rfl (faP fd.Weight_0 rfl rfl ?_)))))))
 exact ldPA ag.Rat rfl rfl (vs:=[_,_,_]) rfl (nb9 rfl) (faP fd.Weight_0 rfl rfl (ldPA ag.Rat rfl rfl (vs:=[_,_,_]) rfl (nb9 rfl) (clv rfl .rq2 (rational_MulQ (by assumption) (by assumption)) (bd z.Weight pl.Weight (cs:=[_,_,_,_,_,_,_,_]) rfl (sto sz.Weight rfl rfl rfl rfl rfl (nb9 rfl) (cells2:=[_,_,_,_,_,_,_,_]) rfl (OL.nil (AW.ret (RetQ.r ⟨_,.cellA rfl rfl ag.Weight (nb9 rfl) .nil,.le vle_wq⟩))))))))
theorem checkR {q:Rat}(hz:sz q≤68719476736):FSpec P F.semiring_Check [vRing,vW q] (.d (dB true)):=by
 refine FSpec.intro fn.semiring_Check (by rfl) (by rfl) (nb9 (by rfl)) fun E hE=>(AW.sg hE rfl (bxA rfl rfl fun b2=>(bxA rfl rfl fun b3=>(asD rfl (OL.nil (AW.seq (AW.sg hE rfl ?_)))))))
 refine ldPA ag.Ring rfl rfl (vs:=[_,_]) rfl (nb9 rfl) (clv rfl .rq1 (validR) (nt rfl (OL.nil (cnF rfl ?_))))
 refine AW.skip (AW.seq (AW.sg hE rfl (faP fd.Ring_0 rfl rfl (ldPC ce.int rfl rfl rfl (c_neq rfl rfl (c:=true) (by exact cne_t (by omega)) (OL.nil (cnT rfl ?_)))))))
 refine AW.seq (AW.dg 1 [0,1,2,3,4,5,6] order_free hE rfl (by kernel_rfl) (OI.of_OL (os:=[_,_,_,_,_,_,_]) rfl ?_))
 refine faP fd.Ring_0 rfl rfl (ldPC ce.int rfl rfl rfl (clv rfl .rq1 (kindR) (fdC fc.algebra_0 rfl rfl (ldPA ag.Weight rfl rfl (vs:=[_,_,_,_,_,_,_,_]) rfl (nb9 rfl) (clv rfl vL (checkQ hz) (asD rfl (OL.nil ?_)))))))
 exact AW.ret (RetQ.r ⟨_,.tmp rfl .nil,.le vR⟩)
theorem ZeroR  : FSpec P F.semiring_Zero [vRing] (vW 0):=by
 refine FSpec.intro fn.semiring_Zero (by rfl) (by rfl) (nb9 (by rfl)) fun E hE=>(AW.sg hE rfl (bxA rfl rfl fun b1=>(al z.Weight rfl fun b2=>(OL.nil (AW.seq (AW.block (AW.sg hE rfl ?_)))))))
 refine ldPA ag.Ring rfl rfl (vs:=[_,_]) rfl (nb9 rfl) (clv rfl .rq1 (validR) (nt rfl (asD rfl (OL.nil (cnF rfl ?_)))))
 refine AW.sg hE rfl (faP fd.Ring_0 rfl rfl (ldPC ce.int rfl rfl rfl (c_neq rfl rfl (c:=true) (by exact cne_t (by omega)) (asD rfl (OL.nil (cnT rfl ?_))))))
 refine AW.sg hE rfl (faP fd.Ring_0 rfl rfl (ldPC ce.int rfl rfl rfl (clv rfl .rq1 (kindR) (fdC fc.algebra_1 rfl rfl (clv rfl (.nil) (zeroQ) (sto sz.Weight rfl rfl rfl rfl rfl (nb9 rfl) (cells2:=[_,_,_,_,_,_,_,_]) rfl (OL.nil ?_)))))))
 exact AW.ret (RetQ.r ⟨_,.cellA rfl rfl ag.Weight (nb9 rfl) .nil,.ag (.cons (.le vR) (.cons (.le vR) (.cons (.le vR) (.cons (.le vR) (.cons (.le vR) (.cons (.le vR) (.cons (.le vR) (.cons (.le vR) .nil))))))))⟩)
theorem valueR {q:Rat}(hz:sz q≤68719476736):FSpec P F.semiring_value [vRing,vW q] (vW q):=by
 refine FSpec.intro fn.semiring_value (by rfl) (by rfl) (nb9 (by rfl)) fun E hE=>(AW.sg hE rfl (bxA rfl rfl fun b2=>(bxA rfl rfl fun b3=>(al z.Weight rfl fun b4=>(OL.nil (AW.seq (AW.sg hE rfl ?_)))))))
 refine ldPA ag.Ring rfl rfl (vs:=[_,_]) rfl (nb9 rfl) (ldPA ag.Weight rfl rfl (vs:=[_,_,_,_,_,_,_,_]) rfl (nb9 rfl) (clv rfl .rq2 (checkR hz) (OL.nil (cnT rfl ?_))))
 refine AW.sg hE rfl (ldPA ag.Weight rfl rfl (vs:=[_,_,_,_,_,_,_,_]) rfl (nb9 rfl) (sto sz.Weight rfl rfl rfl rfl rfl (nb9 rfl) (cells2:=[_,_,_,_,_,_,_,_]) rfl (OL.nil ?_)))
 exact AW.ret (RetQ.r ⟨_,.cellA rfl rfl ag.Weight (nb9 rfl) .nil,.ag (.cons (.le vR) (.cons (.le vR) (.cons (.le vR) (.cons (.le vR) (.cons (.le vR) (.cons (.le vR) (.cons (.le vR) (.cons (.le vR) .nil))))))))⟩)
theorem PlusR {p q:Rat}(hp:sz p≤68719476736)(hq:sz q≤68719476736):FSpec P F.semiring_Plus [vRing,vW p,vW q] (vW (p+q)):=by
 refine FSpec.intro fn.semiring_Plus (by rfl) (by rfl) (nb9 (by rfl)) fun E hE=>(AW.sg hE rfl (bxA rfl rfl fun b3=>(bxA rfl rfl fun b4=>(bxA rfl rfl fun b5=>(al z.Weight rfl fun b6=>(OL.nil (AW.seq ?_)))))))
 refine AW.sg hE rfl (ldPA ag.Ring rfl rfl (vs:=[_,_]) rfl (nb9 rfl) (clv rfl .rq1 (validR) (nt rfl (OL.nil (cnF rfl ?_)))))
 refine AW.skip (AW.seq (AW.dg 1 [0,1,2,3,4,5,6,7] order_free hE rfl (by kernel_rfl) (OI.of_OL (os:=[_,_,_,_,_,_,_,_]) rfl ?_)))
 refine ldPA ag.Ring rfl rfl (vs:=[_,_]) rfl (nb9 rfl) (ldPA ag.Weight rfl rfl (vs:=[_,_,_,_,_,_,_,_]) rfl (nb9 rfl) (clv rfl .rq2 (valueR (by assumption)) (ldPA ag.Ring rfl rfl (vs:=[_,_]) rfl (nb9 rfl) (ldPA ag.Weight rfl rfl (vs:=[_,_,_,_,_,_,_,_]) rfl (nb9 rfl) (clv rfl .rq2 (valueR (by assumption)) (sto sz.Weight rfl rfl rfl rfl rfl (nb9 rfl) (cells2:=[_,_,_,_,_,_,_,_]) rfl (sto sz.Weight rfl rfl rfl rfl rfl (nb9 rfl) (cells2:=[_,_,_,_,_,_,_,_]) rfl ?_)))))))
 refine OL.nil (AW.seq (AW.sg hE rfl (faP fd.Ring_0 rfl rfl (ldPC ce.int rfl rfl rfl (c_neq rfl rfl (c:=true) (by exact cne_t (by omega)) (OL.nil (cnT rfl ?_)))))))
 refine AW.seq (AW.dg 1 [0,1,2,3,4,5,6,7] order_free hE rfl (by kernel_rfl) (OI.of_OL (os:=[_,_,_,_,_,_,_,_]) rfl ?_))
 refine faP fd.Ring_0 rfl rfl (ldPC ce.int rfl rfl rfl (clv rfl .rq1 (kindR) (fdC fc.algebra_3 rfl rfl (ldPA ag.Weight rfl rfl (vs:=[_,_,_,_,_,_,_,_]) rfl (nb9 rfl) (ldPA ag.Weight rfl rfl (vs:=[_,_,_,_,_,_,_,_]) rfl (nb9 rfl) (clv rfl vL (plusQ hp hq) (sto sz.Weight rfl rfl rfl rfl rfl (nb9 rfl) (cells2:=[_,_,_,_,_,_,_,_]) rfl ?_)))))))
 refine OL.nil ?_
 exact AW.ret (RetQ.r ⟨_,.cellA rfl rfl ag.Weight (nb9 rfl) .nil,.ag (.cons (.le vR) (.cons (.le vR) (.cons (.le vR) (.cons (.le vR) (.cons (.le vR) (.cons (.le vR) (.cons (.le vR) (.cons (.le vR) .nil))))))))⟩)
theorem TimesR {p q:Rat}(hp:sz p≤68719476736)(hq:sz q≤68719476736):FSpec P F.semiring_Times [vRing,vW p,vW q] (vW (p*q)):=by
 refine FSpec.intro fn.semiring_Times (by rfl) (by rfl) (nb9 (by rfl)) fun E hE=>(AW.sg hE rfl (bxA rfl rfl fun b3=>(bxA rfl rfl fun b4=>(bxA rfl rfl fun b5=>(al z.Weight rfl fun b6=>(OL.nil (AW.seq ?_)))))))
 refine AW.sg hE rfl (ldPA ag.Ring rfl rfl (vs:=[_,_]) rfl (nb9 rfl) (clv rfl .rq1 (validR) (nt rfl (OL.nil (cnF rfl ?_)))))
 refine AW.skip (AW.seq (AW.dg 1 [0,1,2,3,4,5,6,7] order_free hE rfl (by kernel_rfl) (OI.of_OL (os:=[_,_,_,_,_,_,_,_]) rfl ?_)))
 refine ldPA ag.Ring rfl rfl (vs:=[_,_]) rfl (nb9 rfl) (ldPA ag.Weight rfl rfl (vs:=[_,_,_,_,_,_,_,_]) rfl (nb9 rfl) (clv rfl .rq2 (valueR (by assumption)) (ldPA ag.Ring rfl rfl (vs:=[_,_]) rfl (nb9 rfl) (ldPA ag.Weight rfl rfl (vs:=[_,_,_,_,_,_,_,_]) rfl (nb9 rfl) (clv rfl .rq2 (valueR (by assumption)) (sto sz.Weight rfl rfl rfl rfl rfl (nb9 rfl) (cells2:=[_,_,_,_,_,_,_,_]) rfl (sto sz.Weight rfl rfl rfl rfl rfl (nb9 rfl) (cells2:=[_,_,_,_,_,_,_,_]) rfl ?_)))))))
 refine OL.nil (AW.seq (AW.sg hE rfl (faP fd.Ring_0 rfl rfl (ldPC ce.int rfl rfl rfl (c_neq rfl rfl (c:=true) (by exact cne_t (by omega)) (OL.nil (cnT rfl ?_)))))))
 refine AW.seq (AW.dg 1 [0,1,2,3,4,5,6,7] order_free hE rfl (by kernel_rfl) (OI.of_OL (os:=[_,_,_,_,_,_,_,_]) rfl ?_))
 refine faP fd.Ring_0 rfl rfl (ldPC ce.int rfl rfl rfl (clv rfl .rq1 (kindR) (fdC fc.algebra_4 rfl rfl (ldPA ag.Weight rfl rfl (vs:=[_,_,_,_,_,_,_,_]) rfl (nb9 rfl) (ldPA ag.Weight rfl rfl (vs:=[_,_,_,_,_,_,_,_]) rfl (nb9 rfl) (clv rfl vL (timesQ hp hq) (sto sz.Weight rfl rfl rfl rfl rfl (nb9 rfl) (cells2:=[_,_,_,_,_,_,_,_]) rfl ?_)))))))
 refine OL.nil ?_
 exact AW.ret (RetQ.r ⟨_,.cellA rfl rfl ag.Weight (nb9 rfl) .nil,.ag (.cons (.le vR) (.cons (.le vR) (.cons (.le vR) (.cons (.le vR) (.cons (.le vR) (.cons (.le vR) (.cons (.le vR) (.cons (.le vR) .nil))))))))⟩)
theorem IsZeroR {q:Rat}(hz:sz q≤68719476736):FSpec P F.automaton_IsZero [vRing,vW q] (.d (dB (decide (q=0)))):=by
 have h0K:=z0K
 refine FSpec.intro fn.automaton_IsZero (by rfl) (by rfl) (nb9 (by rfl)) fun E hE=>(AW.sg hE rfl (bxA rfl rfl fun b2=>(bxA rfl rfl fun b3=>(asD rfl (OL.nil (AW.seq (AW.dg 1 [0,1,2,3,4] order_free hE rfl (by kernel_rfl) (OI.of_OL (os:=[_,_,_,_,_]) rfl ?_))))))))
 exact ldPA ag.Weight rfl rfl (vs:=[_,_,_,_,_,_,_,_]) rfl (nb9 rfl) (ldPA ag.Ring rfl rfl (vs:=[_,_]) rfl (nb9 rfl) (clv rfl .rq1 (ZeroR) (clv rfl .rq2 (equalW hz h0K) (asD rfl (OL.nil (AW.ret (RetQ.r ⟨_,.tmp rfl .nil,.le vR⟩)))))))
end Go.Proofs.YteiohkpjgcioaaaGreatDoor
