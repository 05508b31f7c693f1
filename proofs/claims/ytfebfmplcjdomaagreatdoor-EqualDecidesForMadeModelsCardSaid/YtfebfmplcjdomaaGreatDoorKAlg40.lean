/-
  AL, part 40: a struct of five cells by value, opened and laid as data.
-/
import Derived.Test.YtfebfmplcjdomaaGreatDoorKWkAE
import Derived.Test.YtfebfmplcjdomaaGreatDoorKAlgd
import Derived.Lib.SmallJoins
set_option linter.unusedVariables false
set_option linter.unusedSimpArgs false
namespace Go.Proofs.YtfebfmplcjdomaaGreatDoor
open Go Go.AL
theorem auto3 {m:MModel}:1≤(autoOf m 2 3).st∧(autoOf m 2 3).st≤3:=stOf_le (m:=m) (most:=3) (by decide)
theorem wt_auto3 {m:MModel}:Au.Wt (autoOf m 2 3):=⟨take_auto.fit.ok,auto_sz,(show 2≤32 by decide),take_auto.fit.st⟩
theorem fw_auto {m:MModel}:(autoOf m 2 3).Fw :=
 ⟨take_auto.fit.ok,take_auto.few,(show 2≤4 by decide),auto3.1,fun x hx=>Nat.le_trans (auto_sz.arc x hx) (by decide),Nat.le_trans auto_sz.num (by decide)⟩
theorem rk_auto {m:MModel}:Au.Rk (autoOf m 2 3) 2 :=
 ⟨take_auto,wt_auto3,by decide,auto_sz.rev.up (by decide) (by decide),fw_auto,form_fw take_auto.fit.ok auto_sz (show 2≤4 by decide) auto3.1 (Nat.le_trans auto3.2 (by decide)),rev_fw take_auto.fit.ok auto_sz (show 2≤4 by decide) auto3.1 (Nat.le_trans auto3.2 (by decide))⟩
theorem neg_auto {m:MModel}:Au.Fit (scaleOf (autoOf m 2 3) (-1)) 2 :=
 have t:=take_auto (m:=m)
 ⟨t.fit.ok.scale (-1),(auto_sz.scale (by rw [sz_neg,sz_one];exact Nat.le_refl _)).up (by decide) (by decide),rfl,(show 2≤32 by decide),t.fit.st⟩
theorem diff_auto {m n:MModel}:(diffRaw (autoOf m 2 3) (autoOf n 2 3)).Fw:=diff_fw take_auto.fit.ok take_auto.fit.ok auto_sz auto_sz rfl (show 2≤4 by decide) auto3.1 auto6
theorem r23Equal {a b:Au} {s:Nat} (t:Au.Take a s) (w:Au.Wt a) (t2:Au.Take b s) (w2:Au.Wt b) (u:Au.Fit (scaleOf b (-1)) s) (fd:(diffRaw a b).Fw):FSpec P F.ref23_Equal [vAu a,vAu b] (.tup [.d (dB (eqA a b).isNone),.d (ints ((eqA a b).getD [])),.d (dI 0)]):=by
 refine FSpec.intro fn.ref23_Equal (by rfl) (by rfl) (nb9 (by rfl)) fun E hE=>(AW.sg hE rfl (bxA rfl rfl fun b2=>(bxA rfl rfl fun b3=>(asD rfl (asM rfl (asD rfl (OL.nil ?_)))))))
 refine AW.seq (AW.sg hE rfl (ldPA ag.Auto rfl rfl (vs:=[_,_,_,_,_,_,_]) rfl (nb9 rfl) (ldPA ag.Auto rfl rfl (vs:=[_,_,_,_,_,_,_]) rfl (nb9 rfl) (clv rfl (.cons (VLe.refl _) (.cons (VLe.refl _) (.nil))) (r23check t.fit w t2.fit w2) (asD rfl (OL.nil (AW.sg hE rfl ?_)))))))
 refine mvD rfl (c_neq rfl rfl (c:=false) (by exact cne_f (by omega)) (OL.nil (AW.cond rfl (fun hno=>absurd hno (by decide)) (fun _=>?_))))
 refine AW.skip (AW.sg hE rfl (ldPA ag.Auto rfl rfl (vs:=[_,_,_,_,_,_,_]) rfl (nb9 rfl) (ldPA ag.Auto rfl rfl (vs:=[_,_,_,_,_,_,_]) rfl (nb9 rfl) (clv rfl (.cons (VLe.refl _) (.cons (VLe.refl _) (.nil))) (r23difference t.fit t2.fit u) (clv rfl (.cons (VLe.refl _) (.nil)) (r23zero fd) ?_)))))
 rw [diff_first t.fit.ok t2.fit.ok (t.fit.sym.trans t2.fit.sym.symm)]
 refine mvT rfl (ex rfl rfl (ex rfl rfl (asD rfl (asD rfl (OL.nil (AW.sg hE rfl (mvD rfl ?_)))))))
 exact mvD rfl (asD rfl (asD rfl (asD rfl (OL.nil (AW.ret (RetQ.r ⟨_,.tmp rfl (.tmp rfl (.tmp rfl .nil)),_,.cons (.le (VLe.refl _)) (.cons (.le (VLe.refl _)) (.cons (.le (VLe.refl _)) .nil)),rfl⟩))))))
set_option maxRecDepth 8000 in
set_option maxHeartbeats 3200000 in
theorem law_EqualDecidesForMadeModels {m n:MModel} {e1 e2:Bool} (ha1:m.ini.length≤9223372036854775807) (ha2:m.fin.length≤9223372036854775807) (ha3:m.arcs.length≤9223372036854775807) (hb1:n.ini.length≤9223372036854775807) (hb2:n.fin.length≤9223372036854775807) (hb3:n.arcs.length≤9223372036854775807):FSpec P F.law23_EqualDecidesForMadeModels [vModelE m e1,vModelE n e2] (.d (dB true)):=by
 refine FSpec.intro fn.law23_EqualDecidesForMadeModels (by rfl) (by rfl) (nb9 (by rfl)) fun E hE=>(AW.sg hE rfl (bxA rfl rfl fun b2=>(bxA rfl rfl fun b3=>(asD rfl (OL.nil (AW.seq (AW.dg 1 [0,1,2,3,4,5,6,7] order_free hE rfl (by kernel_rfl) (OI.of_OL (os:=[_,_,_,_,_,_,_,_]) rfl ?_))))))))
 refine ldPA ag.Model rfl rfl (vs:=[_,_,_,_,_]) rfl (nb9 rfl) (clv rfl (.cons (VLe.refl _) (.nil)) (law23_plain (m:=m) ha1 ha2 ha3) (ldPA ag.Model rfl rfl (vs:=[_,_,_,_,_]) rfl (nb9 rfl) (clv rfl (.cons (VLe.refl _) (.nil)) (law23_plain (m:=n) hb1 hb2 hb3) (al z.Auto rfl fun b5=>(al z.Auto rfl fun b6=>(sto sz.Auto rfl rfl rfl rfl rfl (nb9 rfl) (cells2:=[_,_,_,_,_,_,_]) rfl (sto sz.Auto rfl rfl rfl rfl rfl (nb9 rfl) (cells2:=[_,_,_,_,_,_,_]) rfl ?_)))))))
 refine OL.nil (AW.sg hE rfl (ldPA ag.Auto rfl rfl (vs:=[_,_,_,_,_,_,_]) rfl (nb9 rfl) (ldPA ag.Auto rfl rfl (vs:=[_,_,_,_,_,_,_]) rfl (nb9 rfl) (clv rfl (.cons (VLe.refl _) (.cons (VLe.refl _) (.nil))) (EqualA (a:=(autoOf m 2 3)) (b:=(autoOf n 2 3)) take_auto take_auto (by decide) auto6) (mvT rfl (ex rfl rfl (ex rfl rfl ?_)))))))
 refine ex rfl rfl (asD rfl (asD rfl (asD rfl (OL.nil (AW.sg hE rfl (ldPA ag.Auto rfl rfl (vs:=[_,_,_,_,_,_,_]) rfl (nb9 rfl) (ldPA ag.Auto rfl rfl (vs:=[_,_,_,_,_,_,_]) rfl (nb9 rfl) ?_)))))))
 refine clv rfl (.cons (VLe.refl _) (.cons (VLe.refl _) (.nil))) (r23Equal (a:=(autoOf m 2 3)) (b:=(autoOf n 2 3)) take_auto wt_auto3 take_auto wt_auto3 neg_auto diff_auto) (mvT rfl (ex rfl rfl (ex rfl rfl (ex rfl rfl (asD rfl (asD rfl (asD rfl ?_)))))))
 refine OL.nil (AW.sg hE rfl (ldPA ag.Auto rfl rfl (vs:=[_,_,_,_,_,_,_]) rfl (nb9 rfl) (clv rfl (.cons (VLe.refl _) (.nil)) (RankA (a:=(autoOf m 2 3)) take_auto (by decide)) (mvT rfl (ex rfl rfl (ex rfl rfl (asD rfl ?_)))))))
 refine asD rfl (OL.nil (AW.sg hE rfl (ldPA ag.Auto rfl rfl (vs:=[_,_,_,_,_,_,_]) rfl (nb9 rfl) (clv rfl (.cons (VLe.refl _) (.nil)) (r23Rank (a:=(autoOf m 2 3)) rk_auto) (mvT rfl (ex rfl rfl (ex rfl rfl ?_)))))))
 refine asD rfl (asD rfl (OL.nil (AW.sg hE rfl (clv rfl (.nil) (law23_awake) (mvD rfl (OL.yes rfl (mvD rfl ?_)))))))
 refine OL.yes rfl (mvD rfl (OL.yes rfl (eqbS bt.bool rfl rfl rfl (pkT rfl rfl (mvD rfl (OL.yes rfl (mvD rfl ?_)))))))
 refine OL.yes rfl (mvD rfl (OL.yes rfl (clv rfl (.cons (VLe.refl _) (.cons (VLe.refl _) (.nil))) (r5SameT (eq_len take_auto take_auto) rfl) (pkT rfl rfl (mvD rfl (OL.yes rfl (mvD rfl ?_)))))))
 refine OL.yes rfl (mvD rfl (OL.yes rfl (c_eql rfl rfl (c:=true) (decide_eq_true rfl) (pkT rfl rfl (mvD rfl (OL.yes rfl (mvD rfl ?_)))))))
 refine OL.yes rfl (mvD rfl (OL.yes rfl (c_eql rfl rfl (c:=true) (decide_eq_true rfl) (pkT rfl rfl (mvD rfl (OL.yes rfl (mvD rfl ?_)))))))
 exact OL.yes rfl (mvD rfl (OL.yes rfl (c_eql rfl rfl (c:=true) (decide_eq_true rfl) (pkT rfl rfl (asD rfl (OL.nil (AW.ret (RetQ.r ⟨_,.tmp rfl .nil,.le (VLe.refl _)⟩))))))))
end Go.Proofs.YtfebfmplcjdomaaGreatDoor

set_option linter.unusedVariables false
set_option linter.unusedSimpArgs false
set_option linter.unusedVariables false
set_option linter.unusedSimpArgs false
namespace Go.AL
open Go Go.BigFrame Go.RowKit Go.ChangeShapes Go.WideShapes Go.ChangeAt Go.Joins Go.Deep
theorem array5 {α:Type} {cs:Array α} (h:cs.size=5):∃ c0 c1 c2 c3 c4,cs = #[c0,c1,c2,c3,c4]:=by
 obtain ⟨l⟩:=cs
 match l,h with
 | [c0,c1,c2,c3,c4],_=>exact ⟨c0,c1,c2,c3,c4,rfl⟩
section
variable {H:Type} {enc:TypeId × Value→H} {P:Program} {w:World} {base:Nat} {spare:Nat→Bool} {held:Bool}
theorem trod_struct5 {t:TypeId} {f0 f1 f2 f3 f4:Field} {fuel:Nat} {cs:List Value} {x:DataW H × List MemPlace} (ht:P.underlying t=some (.struct #[f0,f1,f2,f3,f4])) (h:DataW.trod enc P w base spare held fuel t cs=some x) :
  ∃ y0 y1 y2 y3 y4 n,x=(.agg [y0.1,y1.1,y2.1,y3.1,y4.1],y0.2 ++ (y1.2 ++ (y2.2 ++ (y3.2 ++ y4.2))))∧cs.length=P.cellsOf t∧DataW.trod enc P w base spare held n f0.type ((cs.drop f0.offset).take (P.cellsOf f0.type))=some y0 ∧
   DataW.trod enc P w base spare held n f1.type ((cs.drop f1.offset).take (P.cellsOf f1.type))=some y1∧DataW.trod enc P w base spare held n f2.type ((cs.drop f2.offset).take (P.cellsOf f2.type))=some y2 ∧
   DataW.trod enc P w base spare held n f3.type ((cs.drop f3.offset).take (P.cellsOf f3.type))=some y3∧DataW.trod enc P w base spare held n f4.type ((cs.drop f4.offset).take (P.cellsOf f4.type))=some y4:=by
 obtain ⟨xs,n,_,rfl,hl,hlen,hf⟩:=DataW.trod_struct ht h
 match xs,hlen with
 | [y0,y1,y2,y3,y4],_=>exact ⟨y0,y1,y2,y3,y4,n,by simp,hl,by simpa using hf 0 f0 rfl,by simpa using hf 1 f1 rfl,by simpa using hf 2 f2 rfl,by simpa using hf 3 f3 rfl,by simpa using hf 4 f4 rfl⟩
theorem open_agg5 {r:Reach} {b0:Nat} {t:TypeId} {f0 f1 f2 f3 f4:Field} {v:Value} {d:DataW H} {p:List MemPlace} (hs:P.underlying t=some (.struct #[f0,f1,f2,f3,f4])) (hone:oneCellFields P #[f0,f1,f2,f3,f4]=true) (hC:P.cellsOf t=5)
  (hv:Value.okWide P w r b0 t v) (h:DataW.Trod enc P w base spare held t v d p) :
  ∃ (v0 v1 v2 v3 v4:Value) (y0 y1 y2 y3 y4:DataW H × List MemPlace) (n:Nat),v=.agg #[v0,v1,v2,v3,v4] ∧
   DataW.trod enc P w base spare held n f0.type [v0]=some y0∧DataW.trod enc P w base spare held n f1.type [v1]=some y1∧DataW.trod enc P w base spare held n f2.type [v2]=some y2∧DataW.trod enc P w base spare held n f3.type [v3]=some y3∧DataW.trod enc P w base spare held n f4.type [v4]=some y4:=by
 obtain ⟨cs,rfl,hsz⟩:=okWide_struct hs hv
 obtain ⟨c0,c1,c2,c3,c4,rfl⟩:=array5 (hsz.trans hC)
 obtain ⟨fuel,hf⟩:=h
 obtain ⟨y0,y1,y2,y3,y4,n,hx,_,h0,h1,h2,h3,h4⟩:=trod_struct5 hs hf
 obtain ⟨o0,k0⟩:=hone_of hone 0 f0 rfl
 obtain ⟨o1,k1⟩:=hone_of hone 1 f1 rfl
 obtain ⟨o2,k2⟩:=hone_of hone 2 f2 rfl
 obtain ⟨o3,k3⟩:=hone_of hone 3 f3 rfl
 obtain ⟨o4,k4⟩:=hone_of hone 4 f4 rfl
 exact ⟨c0,c1,c2,c3,c4,y0,y1,y2,y3,y4,n,rfl,by simpa [Value.cells,o0,k0] using h0,by simpa [Value.cells,o1,k1] using h1,by simpa [Value.cells,o2,k2] using h2,by simpa [Value.cells,o3,k3] using h3,by simpa [Value.cells,o4,k4] using h4⟩
end
theorem bool_open {P:Program} {H:Type} {enc:TypeId × Value→H} {w:World} {base fuel:Nat} {spare:Nat→Bool} {held:Bool} {t:TypeId} {v:Value} {x:DataW H × List MemPlace} (ht:P.underlying t=some .bool)
  (h:DataW.trod enc P w base spare held fuel t [v]=some x):∃ b,v=.bool b:=by
 obtain ⟨b,h1,_⟩:=DataW.trod_bool ht h
 simp at h1
 exact ⟨b,h1⟩
theorem simv_agg5 {F:Hp} {u0 u1 u2 u3 u4:Value} {x0 x1 x2 x3 x4:D} (h0:SimV F u0 (.d x0)) (h1:SimV F u1 (.d x1)) (h2:SimV F u2 (.d x2)) (h3:SimV F u3 (.d x3)) (h4:SimV F u4 (.d x4)):SimV F (.agg #[u0,u1,u2,u3,u4]) (.ag [.d x0,.d x1,.d x2,.d x3,.d x4]):=by
 have h:=simvs_cons h0 (simvs_cons h1 (simvs_cons h2 (simvs_cons h3 (simvs_cons h4 simvs_nil))))
 refine .ag (us:=[u0,u1,u2,u3,u4]) h.1 (fun u hu=>?_) h.2
 simp only [List.mem_cons,List.not_mem_nil,or_false] at hu
 rcases hu with rfl | rfl | rfl | rfl | rfl
 ·exact h0.one
 ·exact h1.one
 ·exact h2.one
 ·exact h3.one
 ·exact h4.one
end Go.AL
