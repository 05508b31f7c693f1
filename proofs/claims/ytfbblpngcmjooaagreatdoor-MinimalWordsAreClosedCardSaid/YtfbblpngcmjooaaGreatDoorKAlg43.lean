/-
  AL, part 43: a call that reads an owned row as data, and answers a number.
-/
import Derived.Test.YtfbblpngcmjooaaGreatDoorKWkU
import Derived.Test.YtfbblpngcmjooaaGreatDoorKWkF
import Derived.Test.YtfbblpngcmjooaaGreatDoorKMod92
set_option linter.unusedVariables false
set_option linter.unusedSimpArgs false
namespace Go.Proofs.YtfbblpngcmjooaaGreatDoor
open Go Go.AL
theorem take_auto {m:MModel}:Au.Take (autoOf m 2 3) 2 :=
 have ok:=auto_ok (m:=m) (sym:=2) (most:=3) (by decide) (by decide)
 have hs:=stOf_le (m:=m) (most:=3) (by decide)
 ⟨⟨ok,auto_sz.wide,rfl,(show 2≤32 by decide),(by show stOf m 3≤64;omega)⟩,auto_sz.few (by show stOf m 3≤6;omega),hs.1⟩
end Go.Proofs.YtfbblpngcmjooaaGreatDoor
namespace Go.AL
open Go Go.BigFrame
section
variable {P:Program}{E:Env}{K:S→Prop}{s:S}{ty:Nat}{pos:String}{after:Array Edge}
theorem RO.all {M Mk:Mem}{id b n c e sz:Nat}{es:List D}{d:D}(hM:M id=some (.row b c e sz es))(hk:Mk id=Option.none)(hn:n=es.length)(hd:d=.sl es):RO M Mk (.osl id b n c) (.d d):=by
 subst hn hd
 have h:=RO.osl (M:=M) (Mk:=Mk) hM hk (Nat.le_refl es.length)
 rwa [List.take_length] at h
end
end Go.AL
namespace Go.Proofs.YtfbblpngcmjooaaGreatDoor
open Go Go.AL
abbrev swapA (l:List Arc9):List Arc9:=l.map fun x=>⟨x.t,x.l,x.f,x.q⟩
theorem swapA_len {l:List Arc9}:(swapA l).length=l.length:=lm9 ..
theorem swapA_snoc {l:List Arc9}{i:Nat}(hi:i<l.length):(swapA l).take (i+1)=(swapA l).take i++[⟨(l.getD i default).t,(l.getD i default).l,(l.getD i default).f,(l.getD i default).q⟩]:=by
 rw [take_snoc9 default (by rw [swapA_len];exact hi)]
 congr 2
 unfold swapA
 rw [gd9,List.getElem?_map,gd9,ge9 hi]
 rfl
abbrev rawR (a:Au):Au:=⟨a.sym,a.st,a.fin,a.ini,swapA a.arcs⟩
theorem rawR_ok {a:Au}(h:a.Ok):(rawR a).Ok:=⟨h.sym0,h.fin,h.ini,fun y hy=>by
 obtain ⟨x,hx,rfl⟩:=List.mem_map.1 hy
 have:=h.arc x hx
 exact ⟨this.2.1,this.1,this.2.2⟩⟩
theorem rawR_sz {a:Au}(h:a.Sz 134217728 20):(rawR a).Sz 134217728 20:=⟨h.fin,h.ini,fun y hy=>by
 obtain ⟨x,hx,rfl⟩:=List.mem_map.1 hy
 exact h.arc x hx,by show (swapA a.arcs).length≤20;rw [swapA_len];exact h.num⟩
theorem r6Weights {l:List Rat}(nl:l.length≤64)(hz:∀ x,x ∈ l→sz x≤134217728):FSpec P F.ref06_Weights [vRing,.d (dWs l),.d (dI l.length)] (.d (dB true)):=by
 refine FSpec.intro fn.ref06_Weights (by rfl) (by rfl) (nb9 (by rfl)) fun E hE=>(AW.sg hE rfl (bxA rfl rfl fun b3=>(asD rfl (OL.nil (AW.seq (AW.sg hE rfl (mvD rfl ?_)))))))
 refine lnL sl.Weights rfl rfl (mvD rfl (c_neq rfl rfl (c:=false) (cne_f rfl) (OL.nil (AW.cond rfl (fun hno=>absurd hno (by decide)) (fun _=>?_)))))
 refine AW.skip (AW.seq (AW.sg hE rfl (asD rfl (OL.nil (AW.block ?_)))))
 refine AW.whileK (α:=Nat) [(1,_),(2,_),(3,_)] [(3,_)] (fun i=>[(7,.d (dI i))]) (fun i=>[]) (fun i=>i≤l.length) (fun i=>l.length-i) 0 (.cons (knD rfl) (.cons (knD rfl) (.cons (knP rfl) .nil))) (.cons (owB rfl) .nil) ⟨Nat.zero_le _,.rq1,.nil⟩ ?_
 rintro i h1
 have h1:i≤l.length:=h1
 refine AW.seq (AW.sg hE rfl (mvD rfl (mvD rfl (c_lss rfl rfl rfl (OL.nil (AW.cond rfl (fun h14=>?_) (fun h14=>?_)))))))
 ·try simp only [dx9] at h14
  refine AW.skip (AW.seq (AW.block (AW.seq ?_)))
  have hx:=hz (l.getD i 0) (getD_mem (by omega) 0)
  refine AW.dg 1 [0,1,2,3,4,5,6] order_free hE rfl (by kernel_rfl) (OI.of_OL (os:=[_,_,_,_,_,_,_]) rfl ?_)
  refine ldPA ag.Ring rfl rfl (vs:=[_,_]) rfl (nb9 rfl) (mvD rfl (mvD rfl (ixLn sl.Weights 0 rfl rfl (by omega) rfl rfl (ldRA ag.Weight rfl (vs:=[_,_,_,_,_,_,_,_]) rfl (nb9 rfl) (clv rfl (VLes.refl _) (r3Check (q:=(l.getD i 0)) (by omega)) (nt rfl (OL.nil ?_)))))))
  refine AW.cond rfl (fun hno=>absurd hno (by decide)) (fun _=>?_)
  exact AW.skip (AW.rg hE rfl (mvD rfl (add_i64 rfl rfl (by omega) (asD rfl (OL.nil (AW.again (x:=i) (i+1) (by omega) ⟨by omega,Knows.app .rq3 .rq1,Owns.app (.cons rfl .nil) (.nil)⟩))))))
 ·try simp only [dx9] at h14
  exact AW.exit (AW.sg hE rfl (asD rfl (OL.nil (AW.ret (RetQ.r ⟨_,.tmp rfl .nil,.le vR⟩)))))
set_option maxHeartbeats 3200000 in
theorem r6Valid {a:Au}(h:a.Ok)(za:a.Sz 134217728 20)(s1:a.sym≤32)(s2:a.st≤64):FSpec P F.ref06_Valid [vAu a] (.d (dB true)):=by
 have e1:=h.ini
 have e2:=h.fin
 have e3:=za.num
 have h0:=h.sym0
 refine FSpec.intro fn.ref06_Valid (by rfl) (by rfl) (nb9 (by rfl)) fun E hE=>(AW.sg hE rfl (bxA rfl rfl fun b1=>(asD rfl (OL.nil (AW.seq (AW.sg hE rfl (faP fd.Auto_0 rfl rfl ?_)))))))
 refine ldPA ag.Ring rfl rfl (vs:=[_,_]) rfl (nb9 rfl) (clv rfl .rq1 (r3Valid) (nt rfl (mvD rfl (OL.yes rfl (faP fd.Auto_1 rfl rfl (OL.yes rfl (ldPC ce.int rfl rfl rfl ?_)))))))
 refine OL.yes rfl (clv rfl (VLes.refl _) (r5Alpha (s:=a.sym) (by omega)) (OL.yes rfl (nt rfl (pkF rfl rfl (mvD rfl (OL.yes rfl (faP fd.Auto_2 rfl rfl ?_)))))))
 refine OL.yes rfl (ldPC ce.int rfl rfl rfl (OL.yes rfl (clv rfl (VLes.refl _) (r6In (v:=a.st) (lo:=0) (hi:=64) (by omega)) (OL.yes rfl (nt rfl (pkF rfl rfl (mvD rfl ?_)))))))
 refine OL.yes rfl (faP fd.Auto_0 rfl rfl (OL.yes rfl (ldPA ag.Ring rfl rfl (vs:=[_,_]) rfl (nb9 rfl) (OL.yes rfl (faP fd.Auto_3 rfl rfl (OL.yes rfl (ldPC ce.Weights rfl rfl rfl ?_)))))))
 refine OL.yes rfl (faP fd.Auto_2 rfl rfl (OL.yes rfl (ldPC ce.int rfl rfl rfl (OL.yes rfl (clv rfl (.cons vR (.cons vR (.cons (VLe.int (by omega)) .nil))) (r6Weights (l:=a.ini) (by omega) za.ini) (OL.yes rfl (nt rfl ?_)))))))
 refine pkF rfl rfl (mvD rfl (OL.yes rfl (faP fd.Auto_0 rfl rfl (OL.yes rfl (ldPA ag.Ring rfl rfl (vs:=[_,_]) rfl (nb9 rfl) (OL.yes rfl (faP fd.Auto_4 rfl rfl ?_)))))))
 refine OL.yes rfl (ldPC ce.Weights rfl rfl rfl (OL.yes rfl (faP fd.Auto_2 rfl rfl (OL.yes rfl (ldPC ce.int rfl rfl rfl (OL.yes rfl (clv rfl (.cons vR (.cons vR (.cons (VLe.int (by omega)) .nil))) (r6Weights (l:=a.fin) (by omega) za.fin) ?_)))))))
 refine OL.yes rfl (nt rfl (pkF rfl rfl (mvD rfl (OL.yes rfl (faP fd.Auto_5 rfl rfl (OL.yes rfl (ldPC ce.Arcs rfl rfl rfl ?_)))))))
 refine OL.yes rfl (lnL sl.Arcs rfl rfl (OL.yes rfl (c_gtr rfl rfl (c:=false) (by exact decide_eq_false (by omega)) (pkF rfl rfl (OL.nil (AW.cond rfl (fun hno=>absurd hno (by decide)) (fun _=>?_)))))))
 refine AW.skip (AW.seq (AW.sg hE rfl (asD rfl (OL.nil (AW.block (AW.whileK (α:=Nat) [(1,_)] [(1,_)] (fun i=>[(3,.d (dI i))]) (fun i=>[]) (fun i=>i≤a.arcs.length) (fun i=>a.arcs.length-i) 0 (.cons (knP rfl) .nil) (.cons (owB rfl) .nil) ⟨Nat.zero_le _,.rq1,.nil⟩ ?_))))))
 rintro i h1
 have h1:i≤a.arcs.length:=h1
 refine AW.seq (AW.sg hE rfl (mvD rfl (faP fd.Auto_5 rfl rfl (ldPC ce.Arcs rfl rfl rfl (lnL sl.Arcs rfl rfl (c_lss rfl rfl rfl (OL.nil ?_)))))))
 refine AW.cond rfl (fun h51=>?_) (fun h51=>?_)
 ·try simp only [dx9] at h51
  refine AW.skip (AW.seq (AW.block (AW.seq ?_)))
  have hm:=getD_mem (l:=a.arcs) (i:=i) (by omega) default
  have hx:=za.arc (a.arcs.getD i default) hm
  obtain ⟨hx1,hx2,hx3,hx4⟩:=h.arc (a.arcs.getD i default) hm
  refine AW.rg hE rfl (faP fd.Auto_5 rfl rfl (ldPC ce.Arcs rfl rfl rfl (mvD rfl (ixLn sl.Arcs default rfl rfl (by omega) rfl rfl (ldRA ag.Arc rfl (vs:=[_,_,_,_,_,_,_,_,_,_,_]) rfl (nb9 rfl) (al z.Arc rfl fun b4=>(sto sz.Arc rfl rfl rfl rfl rfl (nb9 rfl) (cells2:=[_,_,_,_,_,_,_,_,_,_,_]) rfl ?_)))))))
  refine OL.nil (AW.sg hE rfl (faP fd.Arc_0 rfl rfl (ldPC ce.int rfl rfl rfl (faP fd.Auto_2 rfl rfl (ldPC ce.int rfl rfl rfl (bo rfl rfl (bin_sub (c:=(a.st:Int)-1) (by omega) (wrap_i64 (by omega))) (clv rfl (VLes.refl _) (r6In (v:=(a.arcs.getD i default).f) (lo:=0) (hi:=(a.st:Int)-1) (by omega)) ?_)))))))
  refine nt rfl (mvD rfl (OL.yes rfl (faP fd.Arc_2 rfl rfl (OL.yes rfl (ldPC ce.int rfl rfl rfl (OL.yes rfl (faP fd.Auto_2 rfl rfl ?_)))))))
  refine OL.yes rfl (ldPC ce.int rfl rfl rfl (OL.yes rfl (bo rfl rfl (bin_sub (c:=(a.st:Int)-1) (by omega) (wrap_i64 (by omega))) (OL.yes rfl (clv rfl (VLes.refl _) (r6In (v:=(a.arcs.getD i default).t) (lo:=0) (hi:=(a.st:Int)-1) (by omega)) (OL.yes rfl (nt rfl ?_)))))))
  refine pkF rfl rfl (mvD rfl (OL.yes rfl (faP fd.Arc_1 rfl rfl (OL.yes rfl (ldPC ce.int rfl rfl rfl (OL.yes rfl (faP fd.Auto_1 rfl rfl ?_)))))))
  refine OL.yes rfl (ldPC ce.int rfl rfl rfl (OL.yes rfl (clv rfl (VLes.refl _) (r6In (v:=(a.arcs.getD i default).l) (lo:=0) (hi:=a.sym) (by omega)) (OL.yes rfl (nt rfl (pkF rfl rfl (mvD rfl ?_)))))))
  refine OL.yes rfl (faP fd.Auto_0 rfl rfl (OL.yes rfl (ldPA ag.Ring rfl rfl (vs:=[_,_]) rfl (nb9 rfl) (OL.yes rfl (faP fd.Arc_3 rfl rfl (OL.yes rfl (ldPA ag.Weight rfl rfl (vs:=[_,_,_,_,_,_,_,_]) rfl (nb9 rfl) ?_)))))))
  refine OL.yes rfl (clv rfl (VLes.refl _) (r3Check (q:=(a.arcs.getD i default).q) (by omega)) (OL.yes rfl (nt rfl (pkF rfl rfl (OL.nil (AW.cond rfl (fun hno=>absurd hno (by decide)) (fun _=>?_)))))))
  exact AW.skip (AW.rg hE rfl (mvD rfl (add_i64 rfl rfl (by omega) (asD rfl (OL.nil (AW.again (x:=i) (i+1) (by omega) ⟨by omega,Knows.app .rq1 .rq1,Owns.app (.cons rfl .nil) (.nil)⟩))))))
 ·try simp only [dx9] at h51
  exact AW.exit (AW.sg hE rfl (asD rfl (OL.nil (AW.ret (RetQ.r ⟨_,.tmp rfl .nil,.le vR⟩)))))
theorem r15done {a:Au}(h:a.Ok)(za:a.Sz 134217728 20)(s2:a.st≤64):FSpec P F.ref15_done [vAu a] (.tup [vAu (formOf a),.d (dI 0)]):=by
 have e3:=za.num
 have e4:=formA_len a.arcs
 refine FSpec.intro fn.ref15_done (by rfl) (by rfl) (nb9 (by rfl)) fun E hE=>(AW.sg hE rfl (bxA rfl rfl fun b1=>(al z.Auto rfl fun b2=>(asD rfl (OL.nil (AW.seq (AW.sg hE rfl ?_)))))))
 refine faP fd.Auto_2 rfl rfl (ldPC ce.int rfl rfl rfl (c_gtr rfl rfl (c:=false) (by exact decide_eq_false (by omega)) (OL.nil (AW.cond rfl (fun hno=>absurd hno (by decide)) (fun _=>?_)))))
 refine AW.skip (AW.sg hE rfl (ldPA ag.Auto rfl rfl (vs:=[_,_,_,_,_,_,_]) rfl (nb9 rfl) (clv rfl (VLes.refl _) (r6Form (a:=a) h za s2) (sto sz.Auto rfl rfl rfl rfl rfl (nb9 rfl) (cells2:=[_,_,_,_,_,_,_]) rfl (OL.nil (AW.seq (AW.sg hE rfl ?_)))))))
 refine faP fd.Auto_5 rfl rfl (ldPC ce.Arcs rfl rfl rfl (lnL sl.Arcs rfl rfl (c_gtr rfl rfl (c:=false) (decide_eq_false (by show ¬ (2048:Int)<((formA a.arcs).length:Int);omega)) (OL.nil (AW.cond rfl (fun hno=>absurd hno (by decide)) (fun _=>?_))))))
 refine AW.skip (AW.sg hE rfl (ldPA ag.Auto rfl rfl (vs:=[_,_,_,_,_,_,_]) rfl (nb9 rfl) (sto sz.Auto rfl rfl rfl rfl rfl (nb9 rfl) (cells2:=[_,_,_,_,_,_,_]) rfl (asD rfl (OL.nil ?_)))))
 exact AW.ret (RetQ.r ⟨_,.cellA rfl rfl ag.Auto (nb9 rfl) (.tmp rfl .nil),_,.cons (.ag (.cons (.le vR) (.cons (.le vR) (.cons (.le vR) (.cons (.le vR) (.cons (.le vR) (.cons (.le vR) (.cons (.le vR) .nil)))))))) (.cons (.le vR) .nil),rfl⟩)
set_option maxHeartbeats 1600000 in
theorem r15Reverse {a:Au}{s:Nat}(f:Au.Fit a s):FSpec P F.ref15_Reverse [vAu a] (.tup [vAu (revOf a),.d (dI 0)]):=by
 have e3:=f.sz.num
 have hsl:=swapA_len (l:=a.arcs)
 refine FSpec.intro fn.ref15_Reverse (by rfl) (by rfl) (nb9 (by rfl)) fun E hE=>(AW.sg hE rfl (bxA rfl rfl fun b1=>(al z.Auto rfl fun b2=>(asD rfl (OL.nil (AW.seq (AW.sg hE rfl ?_)))))))
 refine ldPA ag.Auto rfl rfl (vs:=[_,_,_,_,_,_,_]) rfl (nb9 rfl) (clv rfl (VLes.refl _) (r6Valid (a:=a) f.ok f.sz f.s1 f.st) (nt rfl (OL.nil (AW.cond rfl (fun hno=>absurd hno (by decide)) (fun _=>?_)))))
 refine AW.skip (AW.sg hE rfl (faP fd.Auto_0 rfl rfl (ldPA ag.Ring rfl rfl (vs:=[_,_]) rfl (nb9 rfl) (faP fd.Auto_1 rfl rfl (ldPC ce.int rfl rfl rfl (faP fd.Auto_2 rfl rfl (ldPC ce.int rfl rfl rfl ?_)))))))
 refine faP fd.Auto_4 rfl rfl (ldPC ce.Weights rfl rfl rfl (faP fd.Auto_3 rfl rfl (ldPC ce.Weights rfl rfl rfl (bd2 (cs:=[_,_,_,_,_,_,_]) z.Auto pl.Auto (pvC (by exact evA rfl) (pvC (by exact evD rfl) (pvC (by exact evD rfl) (pvC (by exact evD rfl) (pvC (by exact evD rfl) (pvN)))))) (by rfl) (al z.Auto rfl fun b4=>(sto sz.Auto rfl rfl rfl rfl rfl (nb9 rfl) (cells2:=[_,_,_,_,_,_,_]) rfl (OL.nil ?_)))))))
 refine AW.seq (AW.sg hE rfl (asD rfl (OL.nil (AW.block (AW.deadR 46 T.Arc 11 rfl ?_)))))
 refine AW.boxW 4 [.d (dI 1),.d (.sl []),.d (dI a.sym),.d (dI a.st),.d (dWs a.fin),.d (dWs a.ini),.osl 46 0 0 0] rfl (.cons vR (.cons vR (.cons vR (.cons vR (.cons vR (.cons vR (.cons vle_mtO .nil))))))) ?_
 refine AW.whileK (α:=Nat × Nat × Nat) [(1,_),(2,_),(3,_),(4,_)] [(1,_),(2,_)] (fun (i,bq,cq)=>[(5,.d (dI i))]) (fun (i,bq,cq)=>[(4,.box b4 T.Auto [.d (dI 1),.d (.sl []),.d (dI a.sym),.d (dI a.st),.d (dWs a.fin),.d (dWs a.ini),.osl 46 bq i cq]),(46,rowA bq cq ((swapA a.arcs).take i))]) (fun (i,bq,cq)=>i≤a.arcs.length) (fun (i,bq,cq)=>a.arcs.length-i) (0,0,0) (.cons (knP rfl) (.cons (knP rfl) (.cons (knD rfl) (.cons (knP rfl) .nil)))) (.cons (owB rfl) (.cons (owB rfl) .nil)) ⟨Nat.zero_le _,.rq1,.cons rfl (.cons rfl .nil)⟩ ?_
 rintro ⟨i,bq,cq⟩ h1
 have h1:i≤a.arcs.length:=h1
 refine AW.seq (AW.sg hE rfl (mvD rfl (faP fd.Auto_5 rfl rfl (ldPC ce.Arcs rfl rfl rfl (lnL sl.Arcs rfl rfl (c_lss rfl rfl rfl (OL.nil ?_)))))))
 refine AW.cond rfl (fun h26=>?_) (fun h26=>?_)
 ·try simp only [dx9] at h26
  refine AW.skip (AW.seq (AW.block (AW.sg hE rfl (faP fd.Auto_5 rfl rfl (ldPC ce.Arcs rfl rfl rfl (mvD rfl (ixLn sl.Arcs default rfl rfl (by omega) rfl rfl ?_)))))))
  refine ldRA ag.Arc rfl (vs:=[_,_,_,_,_,_,_,_,_,_,_]) rfl (nb9 rfl) (al z.Arc rfl fun b6=>(sto sz.Arc rfl rfl rfl rfl rfl (nb9 rfl) (cells2:=[_,_,_,_,_,_,_,_,_,_,_]) rfl (OL.nil (AW.rg hE rfl (faP fd.Auto_5 rfl rfl (ldPC ce.Arcs rfl rfl rfl (faP fd.Arc_2 rfl rfl ?_)))))))
  refine ldPC ce.int rfl rfl rfl (faP fd.Arc_1 rfl rfl (ldPC ce.int rfl rfl rfl (faP fd.Arc_0 rfl rfl (ldPC ce.int rfl rfl rfl (faP fd.Arc_3 rfl rfl (ldPA ag.Weight rfl rfl (vs:=[_,_,_,_,_,_,_,_]) rfl (nb9 rfl) (bd2 (cs:=[_,_,_,_,_,_,_,_,_,_,_]) z.Arc pl.Arc (pvC (by exact evD rfl) (pvC (by exact evD rfl) (pvC (by exact evD rfl) (pvC (by exact evA rfl) (pvN))))) (by rfl) ?_)))))))
  refine lt1 (y:=dArc ⟨(a.arcs.getD i default).t,(a.arcs.getD i default).l,(a.arcs.getD i default).f,(a.arcs.getD i default).q⟩) sl.Arcs (vd_arc (x:=⟨(a.arcs.getD i default).t,(a.arcs.getD i default).l,(a.arcs.getD i default).f,(a.arcs.getD i default).q⟩)) rfl (by decide) ?_
  refine apO sl.Arcs rfl rfl rfl (by rw [lm9,List.length_take];omega) (VC.d _) (fun y hy=>by rw [List.mem_singleton.1 hy];rfl) (by simp only [ls9,lm9,List.length_take];omega) (by simp only [ls9,lm9,List.length_take];omega) (.inr rfl) (ys:=((swapA a.arcs).take (i+1)).map dArc) (by rw [swapA_snoc (by omega),List.map_append];rfl) (n2:=i+1) rfl fun b46 c46=>?_
  refine faP fd.Auto_5 rfl rfl (sto sz.Arcs rfl rfl rfl rfl rfl (nb9 rfl) (cells2:=[_,_,_,_,_,_,_]) rfl (OL.nil (AW.rg hE rfl (mvD rfl (add_i64 rfl rfl (by omega) (asD rfl (OL.nil ?_)))))))
  exact AW.again (x:=(i,bq,cq)) (i+1,b46,c46) (by (simp only [];omega)) ⟨by omega,Knows.app .rq4 .rq1,Owns.app (.cons rfl (.cons rfl .nil)) (.cons rfl (.cons rfl .nil))⟩
 ·try simp only [dx9] at h26
  refine AW.exit (AW.seq ?_)
  obtain rfl:i=a.arcs.length:=by omega
  refine AW.freeze 46 rfl (AW.boxW 4 [.d (dI 1),.d (.sl []),.d (dI a.sym),.d (dI a.st),.d (dWs a.fin),.d (dWs a.ini),.d (dArcs (swapA a.arcs))] rfl (.cons vR (.cons vR (.cons vR (.cons vR (.cons vR (.cons vR (.cons (frz_osl (by rw [lm9,List.length_take];omega) (by rw [List.take_of_length_le (by omega)])) .nil))))))) ?_)
  refine AW.rg hE rfl (ldPA ag.Auto rfl rfl (vs:=[_,_,_,_,_,_,_]) rfl (nb9 rfl) (clv rfl (VLes.refl _) (r15done (a:=rawR a) (rawR_ok f.ok) (rawR_sz f.sz) f.st) (ex rfl rfl (ex rfl rfl (sto sz.Auto rfl rfl rfl rfl rfl (nb9 rfl) (cells2:=[_,_,_,_,_,_,_]) rfl (asD rfl (OL.nil ?_)))))))
  exact AW.ret (RetQ.r ⟨_,.cellA rfl rfl ag.Auto (nb9 rfl) (.tmp rfl .nil),_,.cons (.ag (.cons (.le vR) (.cons (.le vR) (.cons (.le vR) (.cons (.le vR) (.cons (.le vR) (.cons (.le vR) (.cons (.le vR) .nil)))))))) (.cons (.le vR) .nil),rfl⟩)
theorem fc.Auto_3:FieldC P T.Auto 3 4:=⟨by kernel_rfl⟩
theorem ints_len {l:List Int}:∀ y,y ∈ l.map dI→y.cells.length=1:=fun y hy=>by obtain ⟨a,_,rfl⟩:=List.mem_map.1 hy;rfl
structure Au.Wt (a:Au):Prop where
 ok:a.Ok
 sz:a.Sz 1 10
 s2:a.sym≤32
 st:a.st≤64
theorem Au.Wt.wide {a:Au}(f:Au.Wt a):a.Sz 134217728 20:=Go.AL.Au.Sz.wide f.sz
theorem step_sz {a:Au}(f:Au.Wt a){v:List Rat}{B s i j:Nat}(hv:∀ i,sz (v.getD i 0)≤B):sz ((stepF a.st v s (a.arcs.take i)).getD j 0)≤10*(B+2)+1:=by
 have h2:(a.arcs.take i).length≤a.arcs.length:=by rw [List.length_take];exact Nat.min_le_right ..
 exact stepF_sz hv (fun x hx=>⟨(f.ok.arc x (List.mem_of_mem_take hx)).2.1,f.sz.arc x (List.mem_of_mem_take hx)⟩) (Nat.le_trans h2 f.sz.num)
theorem addF_t {v out:List Rat}{s:Nat}{x:Arc9}(h:x.l=s):addF v s out x=out.set x.t (out.getD x.t 0+v.getD x.f 0*x.q):=if_pos h
theorem addF_f {v out:List Rat}{s:Nat}{x:Arc9}(h:¬ x.l=s):addF v s out x=out:=if_neg h
theorem r8Plain {a:Au}(f:Au.Wt a):FSpec P F.ref08_Plain [vAu a] (.d (dB true)):=by
 have e3:=f.wide.num
 have e4:=formA_len a.arcs
 have hfo:∀ x,x ∈ formA a.arcs→x.f<a.st∧x.t<a.st∧1≤x.l∧x.l≤a.sym:=f.ok.form.arc
 refine FSpec.intro fn.ref08_Plain (by rfl) (by rfl) (nb9 (by rfl)) fun E hE=>(AW.sg hE rfl (bxA rfl rfl fun b1=>(asD rfl (OL.nil (AW.sg hE rfl (faP fd.Auto_0 rfl rfl (ldPA ag.Ring rfl rfl (vs:=[_,_]) rfl (nb9 rfl) ?_)))))))
 refine faP fd.Auto_5 rfl rfl (ldPC ce.Arcs rfl rfl rfl (clv rfl (VLes.refl _) (r6Arcs (l:=a.arcs) e3 f.wide.arc) (asD rfl (OL.nil (AW.seq (AW.sg hE rfl (asD rfl ?_)))))))
 refine OL.nil (AW.block (AW.whileK (α:=Nat) [(3,_)] [] (fun i=>[(4,.d (dI i))]) (fun i=>[]) (fun i=>i≤(formA a.arcs).length) (fun i=>(formA a.arcs).length-i) 0 (.cons (knD rfl) .nil) .nil ⟨Nat.zero_le _,.rq1,.nil⟩ ?_))
 rintro i h1
 have h1:i≤(formA a.arcs).length:=h1
 refine AW.seq (AW.sg hE rfl (mvD rfl (mvD rfl (lnL sl.Arcs rfl rfl (c_lss rfl rfl rfl (OL.nil (AW.cond rfl (fun h13=>?_) (fun h13=>?_))))))))
 ·try simp only [dx9] at h13
  refine AW.skip (AW.seq (AW.block (AW.seq ?_)))
  have hx:=(hfo ((formA a.arcs).getD i default) (getD_mem (by omega) default)).2.2.1
  refine AW.rg hE rfl (mvD rfl (mvD rfl (ixLn sl.Arcs default rfl rfl (by omega) rfl rfl (faR fd.Arc_1 rfl rfl (ldRC ce.int rfl (c_eql rfl rfl (c:=false) (by exact decide_eq_false (by omega)) (OL.nil ?_)))))))
  refine AW.cond rfl (fun hno=>absurd hno (by decide)) (fun _=>?_)
  exact AW.skip (AW.rg hE rfl (mvD rfl (add_i64 rfl rfl (by omega) (asD rfl (OL.nil (AW.again (x:=i) (i+1) (by omega) ⟨by omega,Knows.app .rq1 .rq1,.nil⟩))))))
 ·try simp only [dx9] at h13
  exact AW.exit (AW.sg hE rfl (asD rfl (OL.nil (AW.ret (RetQ.r ⟨_,.tmp rfl .nil,.le vR⟩)))))
end Go.Proofs.YtfbblpngcmjooaaGreatDoor
namespace Go.AL
open Go Go.BigFrame
def Mem.joined (M N:Mem):Mem:=fun id=>if (N id).isSome then N id else M id
section
variable {P:Program}{E:Env}{K:S→Prop}{s:S}{ty:Nat}{pos:String}{after:Array Edge}
theorem After.joined {F F':Hp}{w w':World}{M N:Mem}(h:Sim F M w)(ha:After F noMem w F' N w'):After F M w F' (M.joined N) w':=by
 have part:∀ id blk,(M.joined N) id=some blk→N id=some blk ∨ (N id=Option.none∧M id=some blk):=fun id blk hm=>by
  unfold Mem.joined at hm
  cases hq:N id with
  | none=>simp [hq] at hm;exact .inr ⟨rfl,hm⟩
  | some b=>simp [hq] at hm;exact .inl (by rw [← hm])
 have far:∀ id blk k,M id=some blk→blk.owns k→k<w.heap.size:=fun id blk k hm ho=>(h.own id blk hm).lt ho
 have new:∀ id blk k,N id=some blk→blk.owns k→w.heap.size≤k:=fun id blk k hm ho=>(ha.mnew k ⟨id,blk,hm,ho⟩).resolve_right (owned_none k)
 refine ⟨ha.grow.mono fun i x=>absurd x (owned_none i),ha.le,⟨ha.sim.imm,fun id blk hm=>?_,fun id blk k hm ho=>?_,fun i j bi bj k hi hj ki kj=>?_⟩,fun k p q=>.inl ((ha.new k p q).resolve_right (owned_none k)),fun k ⟨id,blk,hm,ho⟩=>?_⟩
 ·rcases part id blk hm with hm|⟨_,hm⟩
  ·exact ha.sim.own id blk hm
  ·exact (h.own id blk hm).keep ha.le fun k ho=>ha.grow.block k (far id blk k hm ho) (owned_none k)
 ·rcases part id blk hm with hm|⟨_,hm⟩
  ·exact ha.sim.apart id blk k hm ho
  ·cases hf:F' k with
   | none=>rfl
   | some o =>
    have h1:=far id blk k hm ho
    have h2:=(ha.new k (h.apart id blk k hm ho) (by rw [hf];simp)).resolve_right (owned_none k)
    omega
 ·rcases part i bi hi with hi|⟨ni,hi⟩ <;> rcases part j bj hj with hj|⟨nj,hj⟩
  ·exact ha.sim.inj i j bi bj k hi hj ki kj
  ·have:=new i bi k hi ki;have:=far j bj k hj kj;omega
  ·have:=far i bi k hi ki;have:=new j bj k hj kj;omega
  ·exact h.inj i j bi bj k hi hj ki kj
 ·rcases part id blk hm with hm|⟨_,hm⟩
  ·exact .inl (new id blk k hm ho)
  ·exact .inr ⟨id,blk,hm,ho⟩
theorem SO.callNews {α:Type}{f:Operand}{args:Array Operand}{ats:Array TypeId}{fid:Nat}{caps args':List V}{Mk:α→Mem}{res:α→V}{φ:α→Prop}{dst:Option Nat}{g:Option (Nat × Bool)}(hd:Below' E.n dst)
  (hf:s.ev f=.fn fid caps) (ha:VLes (args.toList.map s.ev++caps) args') (hs:FSpecE P fid args' noMem res Mk φ)
  (h:∀ x,φ x→K ((⟨s.ρ,s.M.joined (Mk x)⟩:S).put dst (res x))):SO P E ⟨dst,.call { callee:=.value f,args:=args,argTypes:=ats },ty,pos,after,g⟩ K s:=fun F a w hr=>by
 have hf':=hr.eval f;rw [hf] at hf'
 generalize haf:a.eval f=af at hf'
 cases hf' with
 | @fn _ us _ hl hrr =>
  have hvs:SimVs F (args.toList.map a.eval++us) args':=simVs_le (simVs_app (simVs_map hr.eval _) ⟨hl,hrr⟩) ha
  have hcc:=hs.2 F w _ (sim_none hr.sim.imm) hvs
  unfold execOp
  have e1:(args.map a.eval++us.toArray)=(args.toList.map a.eval++us).toArray:=by simp
  simp only [resolve,haf,Deferred.ofValue,Sem.run_bind,Sem.run_pure,Result.andThen_ok,invoke,Array.empty_append,e1,run_call_fn hs.1]
  refine hcc.mono fun e2 w' ⟨x,hφ,v,F',he,hA,hv⟩=>?_
  exact ⟨v,he,F',_,hr.after_put (dst:=dst) (After.joined hr.sim hA) hd (v:=res x) hv,h x hφ⟩
end
theorem FSpec.read {P:Program}{f id b c e sz:Nat}{es:List D}{args args2:List V}{x:Value}(h:FSpec P f args (.d (.sc x)))(ha:VLes (args2.map (V.frz id b c es)) args) :
  FSpecM P f args2 (mem1 id (.row b c e sz es)) (.d (.sc x)) (mem1 id (.row b c e sz es)) :=
 ⟨h.1,fun F w vals hS hv=>by
  obtain ⟨F',h1,h2,h3,h4⟩:=freeze_row hS (mem1_self id (.row b c e sz es))
  have hv':SimVs F' vals args:=simVs_le ⟨by rw [hv.1,lm9],fun i y u hy hu=>by
   rw [List.getElem?_map] at hy
   cases hq:args2[i]? with
   | none=>rw [hq] at hy;cases hy
   | some z=>rw [hq] at hy;cases hy;exact V.frz_sim h1 h4 (hv.2 i z u hq hu)⟩ ha
  refine (h.2 F' w vals h2.imm hv').mono fun e2 w' ⟨v,F'',he,hx,hr⟩=>⟨v,F,he,⟨hx.grow.mono fun i k=>k.elim,Hp.le.refl _,⟨fun k o hk=>hx.imm k o (hx.le k o (h1 k o hk)),fun j blk hm=>?_,hS.apart,hS.inj⟩,fun k p q=>absurd p q,fun k k2=>.inr k2⟩,?_⟩
  ·refine (hS.own j blk hm).keep (Hp.le.refl _) fun k ho=>hx.grow.block k ((hS.own j blk hm).lt ho) fun q=>q
  ·cases hr with
   | d hd ho=>cases hd with
    | sc hs=>exact .d (.sc hs) ho⟩
end Go.AL
