/-
  Walks of layer 23 of the specification, part 3: the search for a basis (printed by mk2.py).
-/
import Derived.Test.YtfbblpngcmjooaaGreatDoorKWkAB
import Derived.Test.YtfbblpngcmjooaaGreatDoorKWkO
set_option linter.unusedVariables false
set_option linter.unusedSimpArgs false
namespace Go.Proofs.YtfbblpngcmjooaaGreatDoor
open Go Go.AL
theorem FSpecE_at {α:Type}{P:Program}{f:Nat}{args:List V}{res:α→V}{r:V}{φ:α→Prop}(h:FSpecE P f args noMem res (fun _=>noMem) φ)(hr:∀ x,φ x→res x=r):FSpec P f args r :=
 FSpec.of_mem ⟨h.1,fun F w vals hS hv=>(h.2 F w vals hS hv).mono fun e w' ⟨x,hx,v,F',k1,k2,k3⟩=>⟨v,F',k1,k2,hr x hx ▸ k3⟩⟩
theorem qrow_pop1 {U:List D}{d:D}{R:List D}{b e c:Nat}:some (Blk.row b (U.length+(c+1)) e 1 (U++d::R))=some (Blk.row b ((U++[d]).length+c) e 1 ((U++[d])++R)):=by
 rw [List.append_assoc,la9,show U.length + [d].length+c=U.length+(c+1) by rw [ls9];omega];rfl
theorem fw_all {a:Au}(f:a.Fw){w:List Int}(hw:InW a.sym w)(hl:w.length≤6)(j:Nat):sz ((fwA a w).getD j 0)≤16777215:=by
 have h:=fwA_szV f hw hl w.length j
 rwa [List.take_length] at h
theorem restU_sz {n:Nat}{rs:List SRow}{v:List Rat}(sp:SpOK n 16777215 rs)(n6:n≤6)(zv:∀ i,sz (v.getD i 0)≤16777215)(j:Nat):sz ((restU rs v).getD j 0)≤274877906944:=by
 have h:=(sp.sz.last (Nat.le_trans sp.le n6) zv).1
 unfold restU
 split
 ·exact Nat.le_trans (unitR_sz h j) (by decide)
 ·exact Nat.le_trans (h j) (by decide)
theorem vecs_get {m:Mach}{L:List (List Int)}{i:Nat}(hi:i<L.length):(vecs m L).getD i []=vecM m (L.getD i []):=by
 unfold vecs
 rw [gd9,List.getElem?_map,ge9 hi,gd9,ge9 hi];rfl
theorem vecs_len {m:Mach}{L:List (List Int)}:(vecs m L).length=L.length:=lm9 ..
theorem r5Join {w u:List Int}(nw:w.length≤1000)(nu:u.length≤1000):FSpec P F.ref05_Join [.d (ints w),.d (ints u)] (.d (ints (w++u))):=by
 refine FSpec.intro fn.ref05_Join (by rfl) (by rfl) (nb9 (by rfl)) fun E hE=>?_
 refine AW.sg hE rfl ?_
 refine asM rfl ?_
 refine OL.nil ?_
 refine AW.sg hE rfl ?_
 refine mvD rfl ?_
 refine apM sl.ints rfl rfl (VC.d _) ints_len (by simp;omega) (by simp;omega) rfl fun b6 c6=>?_
 refine mvD rfl (apOD sl.ints rfl rfl rfl rfl (VC.d _) ints_len (by simp;omega) (by simp;omega) (.inl rfl) (ys:=(w++u).map dI) (by rw [List.map_append]) ?_)
 refine asD rfl ?_
 refine OL.nil ?_
 exact AW.ret (RetQ.r ⟨_,.tmp rfl .nil,.le vR⟩)
theorem r23Check {a:Au}{s:Nat}(f:Au.Fit a s)(w:Au.Wt a):FSpec P F.ref23_Check [vAu a] (.d (dI 0)):=by
 refine FSpec.intro fn.ref23_Check (by rfl) (by rfl) (nb9 (by rfl)) fun E hE=>(AW.sg hE rfl (bxA rfl rfl fun b1=>(asD rfl (OL.nil (AW.seq (AW.block (AW.sg hE rfl ?_)))))))
 refine ldPA ag.Auto rfl rfl (vs:=[_,_,_,_,_,_,_]) rfl (nb9 rfl) (clv rfl (VLes.refl _) (r6Valid (a:=a) f.ok f.sz f.s1 f.st) (nt rfl (asD rfl (OL.nil (AW.cond rfl (fun hno=>absurd hno (by decide)) (fun _=>?_))))))
 refine AW.sg hE rfl (faP fd.Auto_0 rfl rfl (faP fd.Ring_0 rfl rfl (ldPC ce.int rfl rfl rfl (c_neq rfl rfl (c:=false) (cne_f rfl) (asD rfl (OL.nil (AW.cond rfl (fun hno=>absurd hno (by decide)) (fun _=>?_))))))))
 refine AW.sg hE rfl (ldPA ag.Auto rfl rfl (vs:=[_,_,_,_,_,_,_]) rfl (nb9 rfl) (clv rfl (VLes.refl _) (r8Plain w) (nt rfl (asD rfl (OL.nil (AW.cond rfl (fun hno=>absurd hno (by decide)) (fun _=>?_)))))))
 exact AW.skip (AW.sg hE rfl (asD rfl (OL.nil (AW.ret (RetQ.r ⟨_,.tmp rfl .nil,.le vR⟩)))))
set_option maxRecDepth 8000 in
set_option maxHeartbeats 6400000 in
theorem r23spaceE {a:Au}(f:Au.Fw a):FSpecE P F.ref23_space [vAu a] noMem (fun y:KSt=>.tup [.d (.sl (y.ks.map ints)),.d (.sl ((y.ks.map (fwA a)).map dQs))]) (fun _=>noMem) (fun y=>InvS (machL [a]) 16777215 [] y):=by
 obtain ⟨ok,fl,z6,hn⟩:=f.mach
 have n6:=z6.n6
 have hst:=f.few.st
 have hst1:=f.st1
 have s4:=f.s4
 have hk:(machL [a]).k=a.sym:=k_one
 have hst0:leftM (machL [a]) [[]] ([]:List SRow)≤1000:=by
   unfold leftM
   have:=Nat.mul_le_mul (show (machL [a]).k+1≤5 by omega) (show (machL [a]).n-([]:List SRow).length≤6 by omega)
   simp only [ls9]
   omega
 refine FSpecE.intro fn.ref23_space (by rfl) (by rfl) (nb9 (by rfl)) fun E hE=>(AW.sg hE rfl (bxA rfl rfl fun b1=>(asM rfl (asM rfl (OL.nil (AW.sg hE rfl (asM rfl ?_)))))))
 refine OL.nil (AW.seq (AW.own 4 36 T.ints 1 rfl rfl (AW.rg hE rfl (asM rfl (asM rfl (OL.nil (AW.seq ?_)))))))
 refine AW.seq (AW.own 5 40 T.Rats 1 rfl rfl (AW.own 6 44 T.Rats 1 rfl rfl (AW.rg hE rfl (faP fd.Auto_2 rfl rfl (ldPC ce.int rfl rfl rfl (c_eql rfl rfl (c:=false) (by exact decide_eq_false (by omega)) (OL.nil ?_)))))))
 refine AW.cond rfl (fun hno=>absurd hno (by decide)) (fun _=>?_)
 refine AW.skip (AW.sg hE rfl (lt1O (y:=ints []) sl.intss VC.mt.vd rfl (by decide) rfl fun b15=>(asO rfl (OL.nil (AW.seq (AW.block (AW.rename 15 57 rfl ?_)))))))
 refine AW.whileK (α:=KSt × List (List Int) × List D × Nat × Nat × Nat × Nat × Nat × Nat × Nat × Nat) [(1,_),(2,_),(3,_)] [(1,_)] (fun (y,Q,P0,d0,c0,bw,cw,bb,cb,br,cr)=>[(4,.osl 36 bw y.ks.length cw),(5,.osl 40 bb (y.ks.map (fwA a)).length cb),(6,.osl 44 br (y.rs.map unitR).length cr),(7,.osb 57 d0 1 P0.length Q.length c0)]) (fun (y,Q,P0,d0,c0,bw,cw,bb,cb,br,cr)=>[(36,.row bw cw T.ints 1 (y.ks.map ints)),(40,.row bb cb T.Rats 1 ((y.ks.map (fwA a)).map dQs)),(44,.row br cr T.Rats 1 ((y.rs.map unitR).map dQs)),(57,.row d0 (P0.length+c0) T.ints 1 (P0++Q.map ints))]) (fun (y,Q,P0,d0,c0,bw,cw,bb,cb,br,cr)=>InvS (machL [a]) 16777215 Q y∧leftM (machL [a]) Q y.rs≤1000) (fun (y,Q,P0,d0,c0,bw,cw,bb,cb,br,cr)=>leftM (machL [a]) Q y.rs) (⟨[],[]⟩,[[]],[],b15,1,0,0,0,0,0,0) (.cons (knP rfl) (.cons (knM rfl) (.cons (knM rfl) .nil))) (.cons (owB rfl) .nil) ⟨⟨InvS.start _ _,hst0⟩,.cons vR (.cons vR (.cons vR (.cons vle_osb0 .nil))),.cons rfl (.cons rfl (.cons rfl (.cons rfl .nil)))⟩ ?_
 rintro ⟨y,Q,P0,d0,c0,bw,cw,bb,cb,br,cr⟩ ⟨hI,hm1⟩
 have hI:InvS (machL [a]) 16777215 Q y:=hI
 have hm1:leftM (machL [a]) Q y.rs≤1000:=hm1
 have hQl:Q.length≤leftM (machL [a]) Q y.rs:=Nat.le_add_right _ _
 obtain ⟨hf1,hf2⟩:=hI.b.few
 have hkl:(y.ks.map (fwA a)).length=y.ks.length:=lm9 ..
 have hrl:(y.rs.map unitR).length=y.rs.length:=lm9 ..
 refine AW.seq (AW.sg hE rfl (mvB rfl (lnB sl.intss rfl rfl (c_gtr rfl rfl rfl (OL.nil (AW.cond rfl (fun hQ=>?_) (fun hQ=>?_)))))))
 ·have hQ:0<Q.length:=by have:=of_decide_eq_true hQ;omega
  refine AW.skip (AW.block (AW.seq (AW.rowLen 57 rfl fun hcl=>?_)))
  rw [la9,lm9] at hcl
  obtain ⟨c0,rfl⟩:∃ c9,c0=c9+1:=⟨c0-1,by omega⟩
  obtain ⟨w,Q,rfl⟩:∃ w Q9,Q=w::Q9:=(match Q,hQ with|w::Q9,_=>⟨w,Q9,rfl⟩)
  have hw6:=hI.b.six n6 w (List.mem_cons_self ..)
  have hwi:InW a.sym w:=by
   obtain ⟨V,j,_⟩:=hI.join
   have:=j.bfs.inW w (.inr (List.mem_cons_self ..))
   rwa [hk] at this
  have hfv:(fwA a w)=vecM (machL [a]) w:=fwA_vec f.ok hwi
  have hfl:(fwA a w).length=a.st:=fwA_len f.ok w
  have hzv:=fw_all f hwi hw6
  rw [List.length_cons] at hQl
  refine AW.rg hE rfl (mvB rfl (ixBn (n:=0) sl.intss rfl rfl (by rw [List.length_cons];omega) (i:=P0.length) rfl (ldEC ce.ints (by decide) rfl rfl q_at (d:=ints w) rfl (asD rfl (OL.nil (AW.sg hE rfl (mvB rfl ?_)))))))
  refine slBB (l:=1) sl.intss rfl rfl (by rw [List.length_cons];omega) (o2:=P0.length+1) rfl (n2:=Q.length) rfl (asB rfl (OL.nil (AW.sg hE rfl (ldPA ag.Auto rfl rfl (vs:=[_,_,_,_,_,_,_]) rfl (nb9 rfl) (mvD rfl (clv rfl (VLes.refl _) (r23forward f hwi hw6) (asD rfl ?_)))))))
  refine OL.nil (AW.sg hE rfl (mvO rfl (mvD rfl ?_)))
  refine clC0 (args2:=[.osl 44 br (y.rs.map unitR).length cr,.d (dQs (fwA a w))]) rfl (VLes.refl _) (FSpecM.ren1 (r23reduced (v:=(fwA a w)) (b:=br) (c:=cr) hI.sp hI.lead (by rw [hfl,hn]) n6 hzv) (.cons VLe.osl .rq1)) (mem1_keep (id:=44) (blk:=.row br cr T.Rats 1 ((y.rs.map unitR).map dQs)) rfl) ?_
  refine asD rfl (OL.nil (AW.seq (AW.sg hE rfl (mvD rfl (clv rfl (VLes.refl _) (r23lead (v:=restU y.rs (fwA a w)) (by rw [restU_len];omega) (fun j=>restU_sz hI.sp n6 hzv j)) (c_lss rfl rfl rfl (OL.nil ?_)))))))
  refine AW.cond rfl (fun hg=>?_) (fun hg=>?_)
  ·have hg:growsS y.rs (fwA a w)=false:=restU_lead.1 (of_decide_eq_true hg)
   have hnf:=(hI.next ok (by decide) (by rw [← hfv];exact hzv)).2 (by rw [keepB_f (by rw [← hfv];exact hg)])
   rw [keepB_f (by rw [← hfv];exact hg)] at hnf
   refine AW.exit ?_
   exact AW.again (x:=(y,w::Q,P0,d0,c0+1,bw,cw,bb,cb,br,cr)) (y,Q,P0++[ints w],d0,c0,bw,cw,bb,cb,br,cr) (by exact hnf.2) ⟨⟨hnf.1,by have h9:leftM (machL [a]) Q y.rs<leftM (machL [a]) (w::Q) y.rs:=hnf.2;omega⟩,Knows.app .rq3 (.cons vR (.cons vR (.cons vR (.cons (by rw [la9];exact VLe.refl _) .nil)))),Owns.app (.cons rfl .nil) (.cons rfl (.cons rfl (.cons rfl (.cons qrow_pop1 .nil))))⟩
  ·have hg:growsS y.rs (fwA a w)=true:=Decidable.byContradiction fun h9=>by have:=restU_lead.2 (Bool.eq_false_iff.2 h9);have:=of_decide_eq_false hg;omega
   have hnt:=(hI.next ok (by decide) (by rw [← hfv];exact hzv)).1 (by rw [keepB_t (by rw [← hfv];exact hg)])
   rw [keepB_t (by rw [← hfv];exact hg),← hfv,hk] at hnt
   have hun:(y.rs++[newR y.rs (fwA a w)]).map unitR=y.rs.map unitR++[restU y.rs (fwA a w)]:=by rw [units_snoc,restU_new hg]
   refine AW.skip (AW.sg hE rfl (mvO rfl (mvD rfl (lt1 (y:=ints w) sl.intss (VC.d _).vd rfl (by decide) ?_))))
   refine apO sl.intss rfl rfl rfl (by rw [lm9]) (VC.d _) (fun y hy=>by rw [List.mem_singleton.1 hy];rfl) (by simp only [ls9];omega) (by simp only [ls9];omega) (.inr rfl) (ys:=(y.ks++[w]).map ints) (by rw [List.map_append];rfl) (n2:=(y.ks++[w]).length) (by rw [la9];rfl) fun b36 c36=>?_
   refine mvO rfl (mvD rfl (lt1 (y:=dQs (fwA a w)) sl.Ratss (VC.d _).vd rfl (by decide) ?_))
   refine apO sl.Ratss rfl rfl rfl (lm9 ..).symm (VC.d _) (fun y hy=>by rw [List.mem_singleton.1 hy];rfl) (by simp only [ls9];omega) (by simp only [ls9];omega) (.inr rfl) (ys:=((y.ks++[w]).map (fwA a)).map dQs) (by rw [List.map_append,List.map_append];rfl) (n2:=((y.ks++[w]).map (fwA a)).length) (by rw [List.map_append,la9];rfl) fun b40 c40=>?_
   refine mvO rfl (mvD rfl (lt1 (y:=dQs (restU y.rs (fwA a w))) sl.Ratss (VC.d _).vd rfl (by decide) ?_))
   refine apO sl.Ratss rfl rfl rfl (lm9 ..).symm (VC.d _) (fun y hy=>by rw [List.mem_singleton.1 hy];rfl) (by simp only [ls9];omega) (by simp only [ls9];omega) (.inr rfl) (ys:=((y.rs++[newR y.rs (fwA a w)]).map unitR).map dQs) (by rw [hun,List.map_append];rfl) (n2:=((y.rs++[newR y.rs (fwA a w)]).map unitR).length) (by rw [hun,la9];rfl) fun b44 c44=>?_
   refine asO rfl (asO rfl (asO rfl (OL.nil (AW.sg hE rfl (asD rfl (OL.nil (AW.block ?_)))))))
   refine AW.whileK (α:=Nat × List D × Nat × Nat) [(1,_),(2,_),(3,_),(4,_),(5,_),(6,_),(8,_)] [(1,_),(36,_),(40,_),(44,_)] (fun (s,U,b,c)=>[(7,.osb 57 b 1 U.length (Q++kidsW s w).length c),(11,.d (dI ((s:Int)+1)))]) (fun (s,U,b,c)=>[(57,.row b (U.length+c) T.ints 1 (U++(Q++kidsW s w).map ints))]) (fun (s,U,b,c)=>s≤a.sym) (fun (s,U,b,c)=>a.sym-s) (0,P0++[ints w],d0,c0) (.cons (knP rfl) (.cons (knM rfl) (.cons (knM rfl) (.cons (knO rfl) (.cons (knO rfl) (.cons (knO rfl) (.cons (knD rfl) .nil))))))) (.cons (owB rfl) (.cons (owR rfl) (.cons (owR rfl) (.cons (owR rfl) .nil)))) ⟨Nat.zero_le _,.cons (by rw [show (P0++[ints w]).length=P0.length+1 from la9,show kidsW 0 w=[] from rfl,List.append_nil];exact VLe.refl _) (.cons (VLe.int (by omega)) .nil),.cons (by rw [show kidsW 0 w=[] from rfl,List.append_nil];exact qrow_pop1) .nil⟩ ?_
   rintro ⟨s,U,b,c⟩ h1
   have h1:s≤a.sym:=h1
   have hkn:=kidsW_len s w
   refine AW.seq (AW.sg hE rfl (mvD rfl (faP fd.Auto_1 rfl rfl (ldPC ce.int rfl rfl rfl (c_leq rfl rfl rfl (OL.nil (AW.cond rfl (fun h48=>?_) (fun h48=>?_))))))))
   ·try simp only [dx9] at h48
    refine AW.skip (AW.seq (AW.block ?_))
    have hsk:s<a.sym:=by omega
    have hkl2:(Q++kidsW (s+1) w).length=(Q++kidsW s w).length+1:=by rw [kidsW_succ,← List.append_assoc,la9];rfl
    have hkm:(Q++kidsW s w).map ints++[ints (w++[(s:Int)+1])]=(Q++kidsW (s+1) w).map ints:=by rw [kidsW_succ,← List.append_assoc];exact (List.map_append (f:=ints) (l₁:=Q++kidsW s w) (l₂:=[(w++[(s:Int)+1])])).symm
    have hqs:(Q++kidsW s w).length≤1010:=by rw [la9,kidsW_len];omega
    have hlen9:U.length+(Q++kidsW s w).length=(U++(Q++kidsW s w).map ints).length:=by rw [show (U++(Q++kidsW s w).map ints).length=U.length+((Q++kidsW s w).map ints).length from la9,lm9]
    refine AW.rg hE rfl (mvB rfl (mvD rfl (mvD rfl (lt1 (y:=dI ((s:Int)+1)) sl.ints (VC.d _).vd rfl (by decide) (clv rfl (VLes.refl _) (r5Join (w:=w) (u:=[(s:Int)+1]) (by omega) (nb9 rfl)) (lt1 (y:=ints (w++[(s:Int)+1])) sl.intss (VC.d _).vd rfl (by decide) (apB sl.intss rfl rfl rfl hlen9 (VC.d _) (fun y hy=>by rw [List.mem_singleton.1 hy];rfl) (by simp only [ls9];omega) (by simp only [ls9];omega) (.inr rfl) fun b57 k57=>?_)))))))
    rw [qP_es,List.append_assoc]
    refine asB rfl (OL.nil ?_)
    refine AW.to ([(1,.ptr 1 b1 0),(2,.mt),(3,.mt),(4,.osl 36 b36 (y.ks++[w]).length c36),(5,.osl 40 b40 ((y.ks++[w]).map (fwA a)).length c40),(6,.osl 44 b44 ((y.rs++[newR y.rs (fwA a w)]).map unitR).length c44),(8,.d (ints w)),(11,.d (dI ((s:Int)+1)))]++[(7,.osb 57 b57 1 (qP k57 U).length (Q++kidsW (s+1) w).length (k57 / 2))]) ([(1,.box b1 T.Auto [.d (dI 1),.d (.sl []),.d (dI a.sym),.d (dI a.st),.d (dWs a.ini),.d (dWs a.fin),.d (dArcs a.arcs)]),(36,.row b36 c36 T.ints 1 ((y.ks++[w]).map ints)),(40,.row b40 c40 T.Rats 1 (((y.ks++[w]).map (fwA a)).map dQs)),(44,.row b44 c44 T.Rats 1 (((y.rs++[newR y.rs (fwA a w)]).map unitR).map dQs))]++[(57,.row b57 ((qP k57 U).length+k57 / 2) T.ints 1 (qP k57 U++(Q++kidsW (s+1) w).map ints))]) (Knows.app (.cons vR (.cons vR (.cons vR (.cons vR (.cons vR (.cons vR (.cons vR (.cons vR (.nil))))))))) (.cons (by rw [qP_len,hkl2];exact VLe.refl _) .nil)) (Owns.app (.cons rfl (.cons rfl (.cons rfl (.cons rfl (.nil))))) (.cons (by rw [qP_len,← hkm];rfl) .nil)) ?_
    generalize qP k57 U=P3
    generalize k57 / 2=c3
    refine AW.rg hE rfl (mvD rfl (add_i64 rfl rfl (by omega) (asD rfl (OL.nil ?_))))
    exact AW.again (x:=(s,U,b,c)) (s+1,P3,b57,c3) (by (simp only [];omega)) ⟨by omega,Knows.app .rq7 (.cons vR (.cons (VLe.int (by omega)) .nil)),Owns.app (.cons rfl (.cons rfl (.cons rfl (.cons rfl .nil)))) (.cons rfl .nil)⟩
   ·try simp only [dx9] at h48
    refine AW.exit ?_
    obtain rfl:s=a.sym:=(by omega)
    exact AW.again (x:=(y,w::Q,P0,d0,c0+1,bw,cw,bb,cb,br,cr)) ((⟨y.ks++[w],y.rs++[newR y.rs (fwA a w)]⟩:KSt),Q++kidsW a.sym w,U,b,c,b36,c36,b40,c40,b44,c44) (by exact hnt.2) ⟨⟨hnt.1,by have h9:leftM (machL [a]) (Q++kidsW a.sym w) (⟨y.ks++[w],y.rs++[newR y.rs (fwA a w)]⟩:KSt).rs<leftM (machL [a]) (w::Q) y.rs:=hnt.2;omega⟩,Knows.app .rq3 .rq4,Owns.app (.cons rfl .nil) (.cons rfl (.cons rfl (.cons rfl (.cons rfl .nil))))⟩
 ·have hQ:Q.length=0:=by have:=of_decide_eq_false hQ;omega
  obtain rfl:Q=[]:=List.eq_nil_of_length_eq_zero hQ
  refine AW.exit (AW.sg hE rfl (mvO rfl (mvO rfl (asO rfl (asO rfl (OL.nil ?_))))))
  exact AW.ret ⟨y,hI,⟨_,.tmp rfl (.tmp rfl .nil),_,.cons (RO.all rfl rfl (lm9 ..).symm rfl) (.cons (RO.all rfl rfl (lm9 ..).symm rfl) .nil),rfl⟩,fun id blk hk=>by cases hk⟩
theorem r23space {a:Au}(f:Au.Fw a):FSpec P F.ref23_space [vAu a] (.tup [.d (.sl ((basK (machL [a])).map ints)),.d (.sl ((vecs (machL [a]) (basK (machL [a]))).map dQs))]) :=
 FSpecE_at (r23spaceE f) fun y hy=>by
  have e:y.ks.map (fwA a)=vecs (machL [a]) y.ks:=List.map_congr_left fun u hu=>fwA_vec f.ok (by have:=hy.inW u hu;rwa [k_one] at this)
  rw [e,hy.bas]
theorem r23Space {a:Au}(h:a.Ok)(za:a.Sz 134217728 20)(s2:a.st≤64)(ff:(formOf a).Fw):FSpec P F.ref23_Space [vAu a] (.tup [.d (.sl ((basK (machL [a])).map ints)),.d (.sl ((vecs (machL [a]) (basK (machL [a]))).map dQs))]):=by
 refine FSpec.intro fn.ref23_Space (by rfl) (by rfl) (nb9 (by rfl)) fun E hE=>(AW.sg hE rfl (bxA rfl rfl fun b1=>(asM rfl (asM rfl (OL.nil (AW.sg hE rfl (ldPA ag.Auto rfl rfl (vs:=[_,_,_,_,_,_,_]) rfl (nb9 rfl) ?_)))))))
 refine clv rfl (VLes.refl _) (r6Form (a:=a) h za s2) (clv rfl (VLes.refl _) (r23space (a:=formOf a) ff) ?_)
 rw [(form_same a).mach1]
 exact ex rfl rfl (ex rfl rfl (asD rfl (asD rfl (OL.nil (AW.ret (RetQ.r ⟨_,.tmp rfl (.tmp rfl .nil),_,.cons (.le vR) (.cons (.le vR) .nil),rfl⟩))))))
theorem r23Back {a:Au}{s:Nat}(f:Au.Fit a s)(rz:(revOf a).Sz 134217728 20)(ff:(formOf (revOf a)).Fw):FSpec P F.ref23_Back [vAu a] (.d (.sl ((vecs (turnM (machL [a])) (basK (turnM (machL [a])))).map dQs))):=by
 refine FSpec.intro fn.ref23_Back (by rfl) (by rfl) (nb9 (by rfl)) fun E hE=>(AW.sg hE rfl (bxA rfl rfl fun b1=>(asM rfl (OL.nil (AW.sg hE rfl (ldPA ag.Auto rfl rfl (vs:=[_,_,_,_,_,_,_]) rfl (nb9 rfl) (clv rfl (VLes.refl _) (r15Reverse f) ?_)))))))
 refine mvT rfl (ex rfl rfl (ex rfl rfl (al z.Auto rfl fun b3=>(sto sz.Auto rfl rfl rfl rfl rfl (nb9 rfl) (cells2:=[_,_,_,_,_,_,_]) rfl (asD rfl (OL.nil (AW.sg hE rfl ?_)))))))
 refine ldPA ag.Auto rfl rfl (vs:=[_,_,_,_,_,_,_]) rfl (nb9 rfl) (clv rfl (VLes.refl _) (r23Space (a:=revOf a) f.ok.rev rz f.st ff) ?_)
 rw [machL_rev]
 refine mvT rfl (ex rfl rfl (ex rfl rfl (asD rfl (asD rfl (OL.nil (AW.sg hE rfl (mvD rfl ?_)))))))
 exact asD rfl (OL.nil (AW.ret (RetQ.r ⟨_,.tmp rfl .nil,.le vR⟩)))
end Go.Proofs.YtfbblpngcmjooaaGreatDoor
