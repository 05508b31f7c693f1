/-
  Walks of package rational, part 2: products, single limbs, shifts, the number of bits (printed by mk.py).
-/
import Derived.Test.YteiohkpjgcioaaaGreatDoorKHdr
import Derived.Test.YteiohkpjgcioaaaGreatDoorKNuma
set_option linter.unusedVariables false
set_option linter.unusedSimpArgs false
namespace Go.Proofs.YteiohkpjgcioaaaGreatDoor
open Go Go.AL
theorem limbs_at {L:List Nat}{i:Int}(hL:Lim L)(hi:0≤i):FSpec P F.rational_limbs_at [.d (u32s L),.d (dI i)] (.d (dU (L.getD i.toNat 0))):=by
 refine FSpec.intro fn.rational_limbs_at (by rfl) (by rfl) (nb9 (by rfl)) fun E hE=>(AW.sg hE rfl (asD rfl (OL.nil (AW.seq (AW.sg hE rfl (mvD rfl (mvD rfl ?_)))))))
 refine lnL sl.limbs rfl rfl (c_lss rfl rfl rfl (OL.nil (AW.cond rfl (fun h=>?_) (fun h=>?_))))
 ·have h:=dt9 h
  refine AW.sg hE rfl (mvD rfl (mvD rfl (ixL sl.limbs 0 rfl rfl (by omega) (by omega) rfl rfl (ldRC ce.u32 rfl (cv it.u32 it.u64 rfl (wrap_u64 ⟨by omega,by have:=hL.getD i.toNat;omega⟩) (asD rfl (OL.nil ?_)))))))
  exact AW.ret (RetQ.r ⟨_,.tmp rfl .nil,.le vR⟩)
 ·have h:=df9 h
  exact AW.skip (AW.sg hE rfl (asD rfl (OL.nil (AW.ret (RetQ.r ⟨_,.tmp rfl .nil,.le (VLe.int (by rw [gd9,List.getElem?_eq_none (by omega)];rfl))⟩)))))
theorem limbs_atn {L:List Nat}{i:Nat}(hL:Lim L):FSpec P F.rational_limbs_at [.d (u32s L),.d (dI i)] (.d (dU (L.getD i 0))):=limbs_at hL (Int.natCast_nonneg i)
theorem limbs_clean {L:List Nat}(hL:Lim L)(hn:L.length≤8796093022208):FSpec P F.rational_limbs_clean [.d (u32s L)] (.d (u32s (lim (val L)))):=by
 refine FSpec.intro fn.rational_limbs_clean (by rfl) (by rfl) (nb9 (by rfl)) fun E hE=>(AW.sg hE rfl (asM rfl (OL.nil (AW.seq (AW.block (AW.while (α:=List Nat) (fun A=>[(0,.d (u32s A))]) (fun A=>[]) (fun A=>Lim A∧val A=val L∧A.length≤L.length) (fun A=>A.length) L ⟨⟨hL,rfl,Nat.le_refl _⟩,.rq1,.nil⟩ ?_))))))
 rintro A ⟨hA,hv,hl⟩
 refine AW.seq (AW.sg hE rfl (mvD rfl (lnL sl.limbs rfl rfl (c_gtr rfl rfl rfl (OL.split 5 rfl (fun h0=>?_) (fun h0=>?_))))))
 ·have h0:=dt9 h0
  refine mvD rfl (OL.yes rfl (mvD rfl (OL.yes rfl (mvD rfl (OL.yes rfl (lnL sl.limbs rfl rfl (OL.yes rfl ?_)))))))
  refine sub_i64 rfl rfl (by omega) (OL.yes rfl (ixL sl.limbs 0 rfl rfl (by omega) (by omega) rfl rfl (OL.yes rfl (ldRC ce.u32 rfl (OL.yes rfl (c_eql rfl rfl rfl (OL.split 13 rfl (fun h=>?_) (fun h=>?_))))))))
  ·have h:=dt9 h
   refine pkT rfl rfl (OL.nil (cnT rfl ?_))
   refine AW.skip (AW.block (AW.rg hE rfl (mvD rfl (mvD rfl (lnL sl.limbs rfl rfl (sub_i64 rfl rfl (by omega) (slTo sl.limbs rfl rfl (fun _=>rfl) (by omega) (l2:=A.dropLast) (by rw [List.dropLast_eq_take];congr 1;omega) ?_)))))))
   exact asD rfl (OL.nil (AW.again (x:=A) A.dropLast (by rw [List.length_dropLast];omega) ⟨⟨hA.dropLast,by rw [← hv,val_dropLast (by omega) (by rw [toNat_pred] at h;omega)],by rw [List.length_dropLast];omega⟩,.rq1,.nil⟩))
  ·have h:=df9 h
   refine pkT rfl rfl (OL.nil (cnF rfl ?_))
   exact AW.exit (AW.sg hE rfl (mvD rfl (asD rfl (OL.nil (AW.ret (RetQ.r ⟨_,.tmp rfl .nil,.le (vle_of_eq (by rw [← hv,lim_val hA (last_ne (by omega) (by rw [toNat_pred] at h;omega))];rfl))⟩))))))
 ·have h0:=df9 h0
  refine mvD rfl (OL.nd rfl (OL.nd rfl (OL.nd rfl (OL.nd rfl (OL.nd rfl (OL.nd rfl (OL.nd rfl ?_)))))))
  refine pkF rfl rfl (OL.nil (cnF rfl ?_))
  exact AW.exit (AW.sg hE rfl (mvD rfl (asD rfl (OL.nil (AW.ret (RetQ.r ⟨_,.tmp rfl .nil,.le (vle_of_eq (by rw [← hv,nil_of (L:=A) (by omega),val_nil,lim_zero];rfl))⟩))))))
theorem limbs_cmp {A C:List Nat}(hA:Lim A)(hC:Lim C)(nA:A.length≤8796093022208)(nC:C.length≤8796093022208):FSpec P F.rational_limbs_cmp [.d (u32s A),.d (u32s C)] (.d (dI (cmpN (val A) (val C)))):=by
 refine FSpec.intro fn.rational_limbs_cmp (by rfl) (by rfl) (nb9 (by rfl)) fun E hE=>(AW.sg hE rfl (asD rfl (OL.nil (AW.seq (AW.sg hE rfl (mvD rfl (lnL sl.limbs rfl rfl ?_)))))))
 refine mvD rfl (lnL sl.limbs rfl rfl (mx rfl rfl (c:=((max A.length C.length:Nat):Int)) (by omega) (sub_i64 rfl rfl (by omega) (asD rfl (OL.nil (AW.block ?_))))))
 refine AW.while (α:=Nat) (fun n=>[(0,.d (u32s A)),(1,.d (u32s C)),(5,.d (dI ((n:Int)-1)))]) (fun n=>[]) (fun n=>n≤max A.length C.length∧∀ j,n≤j→A.getD j 0=C.getD j 0) (fun n=>n) (max A.length C.length) ⟨⟨Nat.le_refl _,fun j hj=>by rw [getD_out (by omega),getD_out (by omega)]⟩,.rq3,.nil⟩ ?_
 rintro n ⟨hn,hh⟩
 refine AW.seq (AW.sg hE rfl (mvD rfl (c_geq rfl rfl rfl (OL.nil (AW.cond rfl (fun h=>?_) (fun h=>?_))))))
 ·have h:=dt9 h
  refine AW.skip (AW.seq (AW.block (AW.seq ?_)))
  have e1:((n:Int)-1).toNat=n-1:=by omega
  have hx:=hA.getD (n-1)
  have hy:=hC.getD (n-1)
  refine AW.rg hE rfl (mvD rfl (mvD rfl (cl (limbs_at hA (by omega)) rfl vL ?_)))
  rw [e1]
  refine mvD rfl (mvD rfl (cl (limbs_at hC (by omega)) rfl vL ?_))
  rw [e1]
  refine asD rfl (asD rfl (OL.nil (AW.sg hE rfl (mvD rfl (mvD rfl (c_neq rfl rfl rfl (OL.nil ?_)))))))
  refine AW.cond rfl (fun hne=>?_) (fun hne=>?_)
  ·have hne:=nd_t hne
   refine AW.sg hE rfl (mvD rfl (mvD rfl (subm_u64 rfl rfl rfl (shr63 rfl rfl rfl (cv it.u64 it.int rfl (wrap_i64 (by omega)) (mul_i64 rfl rfl (by omega) (sub_i64 rfl rfl (by omega) ?_)))))))
   exact asD rfl (OL.nil (AW.ret (RetQ.r ⟨_,.tmp rfl .nil,.le (VLe.int (by rw [cmp_at hA hC (i:=n-1) (fun j hj=>hh j (by omega)) (by omega)];split <;> omega))⟩)))
  ·have hne:A.getD (n-1) 0=C.getD (n-1) 0:=by have:=nd_f hne;omega
   exact AW.skip (AW.rg hE rfl (mvD rfl (sub_i64 rfl rfl (by omega) (asD rfl (OL.nil (AW.again (x:=n) (n-1) (by omega) ⟨⟨by omega,fun j hj=>by rcases Nat.lt_or_ge j n with hj2|hj2;(have:j=n-1:=by omega);rw [this];exact hne;exact hh j hj2⟩,.cons vR (.cons vR (.cons (VLe.int (by omega)) .nil)),.nil⟩))))))
 ·have h:=df9 h
  exact AW.exit (AW.sg hE rfl (asD rfl (OL.nil (AW.ret (RetQ.r ⟨_,.tmp rfl .nil,.le (VLe.int (by rw [val_eq_of hA hC fun j=>hh j (by omega)];simp [cmpN]))⟩)))))
theorem limbs_plus {A C:List Nat}(hA:Lim A)(hC:Lim C)(nA:A.length≤4398046511104)(nC:C.length≤4398046511104):FSpec P F.rational_limbs_plus [.d (u32s A),.d (u32s C)] (.d (u32s (lim (val A+val C)))):=by
 refine FSpec.intro fn.rational_limbs_plus (by rfl) (by rfl) (nb9 (by rfl)) fun E hE=>(AW.sg hE rfl (asM rfl (OL.nil (AW.sg hE rfl (asM rfl (OL.nil (AW.sg hE rfl ?_)))))))
 refine asD rfl (OL.nil (AW.seq (AW.sg hE rfl (asD rfl (OL.nil (AW.own 5 34 T.u32 1 rfl rfl (AW.block ?_)))))))
 refine AW.while (α:=Nat × List Nat × Nat × Nat × Nat) (fun (i,out,sum,b,c)=>[(0,.d (u32s A)),(1,.d (u32s C)),(5,.osl 34 b out.length c),(6,.d (dU sum)),(7,.d (dI i))]) (fun (i,out,sum,b,c)=>[(34,.row b c T.u32 1 (out.map d32))]) (fun (i,out,sum,b,c)=>out.length=i∧Lim out∧val out+Bp i*sum=val (A.take i)+val (C.take i)∧sum≤1∧i≤max A.length C.length+1∧(i=max A.length C.length+1→sum=0)) (fun (i,out,sum,b,c)=>max A.length C.length+1-i) (0,[],0,0,0) ⟨⟨rfl,Lim.nil,rfl,by omega,by omega,by omega⟩,.rq5,.cons rfl .nil⟩ ?_
 rintro ⟨i,out,sum,b,c⟩ ⟨h1,hO,h2,h3,h4,h5⟩
 refine AW.seq ?_
 refine AW.mid (α:=Unit) (fun _u=>[(0,.d (u32s A)),(1,.d (u32s C)),(5,.osl 34 b out.length c),(6,.d (dU sum)),(7,.d (dI i)),(18,.d (dB (decide (i<max A.length C.length ∨ 0<sum))))]) (fun _u=>[(34,.row b c T.u32 1 (out.map d32))]) (fun _u=>True) ?_ ?_
 ·refine AW.rg hE rfl (mvD rfl (mvD rfl (lnL sl.limbs rfl rfl (mvD rfl (lnL sl.limbs rfl rfl (mx rfl rfl (c:=((max A.length C.length:Nat):Int)) (by omega) (c_lss rfl rfl rfl ?_)))))))
  refine OL.split 14 rfl (fun hi=>?_) (fun hi=>?_)
  ·have hi:=dt9 hi
   exact mvD rfl (OL.nd rfl (OL.nd rfl (pkT rfl rfl (OL.nil (AW.reach () ⟨trivial,.cons vR (.cons vR (.cons vR (.cons vR (.cons vR (.cons (VLe.bool (by simp;omega)) .nil))))),.cons rfl .nil⟩)))))
  ·have hi:=df9 hi
   exact mvD rfl (OL.yes rfl (mvD rfl (OL.yes rfl (c_gtr rfl rfl rfl (pkF rfl rfl (OL.nil (AW.reach () ⟨trivial,.cons vR (.cons vR (.cons vR (.cons vR (.cons vR (.cons (VLe.bool (by simp;omega)) .nil))))),.cons rfl .nil⟩)))))))
 rintro ⟨⟩ -
 refine AW.cond rfl (fun h=>?_) (fun h=>?_)
 ·have h:=dt9 h
  refine AW.skip (AW.seq (AW.block (AW.seq ?_)))
  have hx:=hA.getD i
  have hy:=hC.getD i
  refine AW.rg hE rfl (mvD rfl (mvD rfl (mvD rfl (cl (limbs_atn hA) rfl vL (mvD rfl (mvD rfl (cl (limbs_atn hC) rfl vL ?_)))))))
  refine add_u64 rfl rfl (by omega) (add_u64 rfl rfl (by omega) (asD rfl (OL.nil (AW.sg hE rfl (mvO rfl (mvD rfl (cv it.u64 it.u32 rfl (c:=(((sum+(A.getD i 0+C.getD i 0)) % 4294967296:Nat):Int)) (by rw [wrap_u32_mod];omega) ?_)))))))
  refine lt1 sl.limbs (VC.d _).vd rfl (by decide) ?_
  refine apO sl.limbs rfl rfl rfl (by simp) (VC.d _) (by simp [D.cells]) (by simp;omega) (by simp;omega) (.inr rfl) (ys:=(out++[(sum+(A.getD i 0+C.getD i 0)) % 4294967296]).map d32) (by simp) (n2:=(out++[(sum+(A.getD i 0+C.getD i 0)) % 4294967296]).length) (by simp) fun b2 c2=>?_
  refine asO rfl (OL.nil (AW.rg hE rfl (mvD rfl (shr32 rfl rfl rfl (asD rfl (OL.nil (AW.rg hE rfl ?_)))))))
  refine mvD rfl (add_i64 rfl rfl (by omega) (asD rfl (OL.nil ?_)))
  exact AW.again (x:=(i,out,sum,b,c)) (i+1,out++[(sum+(A.getD i 0+C.getD i 0)) % 4294967296],(sum+(A.getD i 0+C.getD i 0)) / 4294967296,b2,c2) (by (simp only [];omega)) ⟨⟨by simp [h1],hO.append (.cons (Nat.mod_lt _ (by decide)) .nil),by rw [val_snoc,h1,take_succ_val hA,take_succ_val hC];exact plus_step h2,by omega,by omega,fun e=>by rw [getD_out (A:=A) (by omega),getD_out (A:=C) (by omega)];omega⟩,.rq5,.cons rfl .nil⟩
 ·have h:=df9 h
  refine AW.exit (AW.seq ?_)
  have hv:val out=val A+val C:=by
   have:=h2
   rw [take_all (A:=A) (by omega),take_all (A:=C) (by omega),show sum=0 by omega] at this
   simpa using this
  refine AW.freeze 34 rfl (AW.to [(5,.d (u32s out))] [] (.cons (frz_osl (by simp) rfl) .nil) .nil ?_)
  exact AW.rg hE rfl (mvD rfl (cl (limbs_clean hO (by omega)) rfl vL (asD rfl (OL.nil (AW.ret (RetQ.r ⟨_,.tmp rfl .nil,.le (vle_of_eq (by rw [← hv];rfl))⟩))))))
theorem limbs_minus {A C:List Nat}(hA:Lim A)(hC:Lim C)(nA:A.length≤8796093022208)(hle:val C≤val A):FSpec P F.rational_limbs_minus [.d (u32s A),.d (u32s C)] (.d (u32s (lim (val A-val C)))):=by
 refine FSpec.intro fn.rational_limbs_minus (by rfl) (by rfl) (nb9 (by rfl)) fun E hE=>(AW.sg hE rfl (asM rfl (OL.nil (AW.sg hE rfl (mvD rfl (lnL sl.limbs rfl rfl (mkL d32 0 sl.limbs z.u32 (.cons (VC.d _) .nil) rfl rfl (Nat.le_refl _) (by omega) (by omega) rfl fun b11=>?_)))))))
 refine asO rfl (OL.nil (AW.sg hE rfl (asD rfl (OL.nil (AW.seq (AW.sg hE rfl (mvD rfl ?_)))))))
 refine lnL sl.limbs rfl rfl (mvD rfl (OL.nil (AW.block ?_)))
 refine AW.while (α:=Nat × List Nat × Nat) (fun (i,out,less)=>[(0,.d (u32s A)),(1,.d (u32s C)),(5,.osl 11 b11 A.length A.length),(6,.d (dU less)),(13,.d (dI A.length)),(14,.d (dI i))]) (fun (i,out,less)=>[(11,.row b11 A.length T.u32 1 (out.map d32))]) (fun (i,out,less)=>out.length=A.length∧Lim out∧val (A.take i)+less*Bp i=val (out.take i)+val (C.take i)∧less≤1∧i≤A.length) (fun (i,out,less)=>A.length-i) (0,List.replicate A.length 0,0) ⟨⟨by simp,Lim.zeros _,by simp [val_nil],by omega,by omega⟩,.rq6,.cons rfl .nil⟩ ?_
 rintro ⟨i,out,less⟩ ⟨h1,hO,h2,h3,h4⟩
 refine AW.sg hE rfl (c_lss rfl rfl rfl (OL.nil (AW.seq (AW.cond rfl (fun h=>?_) (fun h=>?_)))))
 ·have h:=dt9 h
  refine AW.skip (AW.seq (AW.block (AW.sg hE rfl (mvD rfl (asD rfl (OL.nil (AW.seq ?_)))))))
  have hx:=hA.getD i
  have hy:=hC.getD i
  refine AW.rg hE rfl (mvD rfl (mvD rfl (cl (limbs_atn hA) rfl vL (mvD rfl (mvD rfl (cl (limbs_atn hC) rfl vL (subm_u64 rfl rfl rfl ?_)))))))
  refine mvD rfl (subm_u64 rfl rfl rfl (asD rfl (OL.nil (AW.rg hE rfl (mvO rfl (mvD rfl (mvD rfl ?_)))))))
  refine cv it.u64 it.u32 rfl (c:=(((A.getD i 0+4294967296-C.getD i 0-less) % 4294967296:Nat):Int)) (by rw [wrap_u32_mod];omega) (mvD rfl (shr63 rfl rfl rfl (ixOn sl.limbs rfl rfl (by omega) (stE sz.u32 rfl (VC.d _).vd rfl rfl (by simp;omega) (es2:=(out.set i ((A.getD i 0+4294967296-C.getD i 0-less) % 4294967296)).map d32) (by rw [List.map_set]) (asD rfl (OL.nil (AW.rg hE rfl ?_)))))))
  refine add_i64 rfl rfl (by omega) (mvD rfl (OL.nil ?_))
  exact AW.again (x:=(i,out,less)) (i+1,out.set i ((A.getD i 0+4294967296-C.getD i 0-less) % 4294967296),if A.getD i 0<C.getD i 0+less then 1 else 0) (by (simp only [];omega)) ⟨⟨by simp [h1],hO.set _ (Nat.mod_lt _ (by decide)),by rw [take_succ_val hA,take_succ_val hC,take_succ_val (hO.set _ (Nat.mod_lt _ (by decide))),List.take_set_of_le (Nat.le_refl _),getD_set_self (by omega)];exact minus_step h2 hx hy h3,by split <;> omega,by omega⟩,.cons vR (.cons vR (.cons vR (.cons (VLe.int (by split <;> omega)) .rq2))),.cons rfl .nil⟩
 ·have h:=df9 h
  refine AW.exit (AW.seq ?_)
  have hv:val out=val A-val C:=minus_end hA hO h1 hle (by rw [show i=A.length by omega] at h2;exact h2) h3 hC
  refine AW.freeze 11 rfl (AW.to [(5,.d (u32s out))] [] (.cons (frz_osl (by simp [h1]) rfl) .nil) .nil ?_)
  exact AW.rg hE rfl (mvD rfl (cl (limbs_clean hO (by omega)) rfl vL (asD rfl (OL.nil (AW.ret (RetQ.r ⟨_,.tmp rfl .nil,.le (vle_of_eq (by rw [← hv];rfl))⟩))))))
theorem limbs_times {A C:List Nat}(hA:Lim A)(hC:Lim C)(nA:A.length≤4398046511104)(nC:C.length≤4398046511104):FSpec P F.rational_limbs_times [.d (u32s A),.d (u32s C)] (.d (u32s (lim (val A*val C)))):=by
 refine FSpec.intro fn.rational_limbs_times (by rfl) (by rfl) (nb9 (by rfl)) fun E hE=>(AW.sg hE rfl (asM rfl (OL.nil (AW.sg hE rfl (mvD rfl (lnL sl.limbs rfl rfl (mvD rfl ?_)))))))
 refine lnL sl.limbs rfl rfl (bo rfl rfl (bin_add (c:=((A.length+C.length:Nat):Int)) (by omega) (wrap_i64 (by omega))) (mkL d32 0 sl.limbs z.u32 (.cons (VC.d _) .nil) rfl rfl (Nat.le_refl _) (by omega) (by omega) rfl fun b=>(asO rfl (OL.nil (AW.seq (AW.sg hE rfl (mvD rfl ?_)))))))
 refine lnL sl.limbs rfl rfl (mvD rfl (OL.nil (AW.block ?_)))
 refine AW.while (α:=Nat × List Nat) (fun (i,out)=>[(0,.d (u32s A)),(1,.d (u32s C)),(5,.osl 14 b (A.length+C.length) (A.length+C.length)),(16,.d (dI A.length)),(17,.d (dI i))]) (fun (i,out)=>[(14,.row b (A.length+C.length) T.u32 1 (out.map d32))]) (fun (i,out)=>out.length=A.length+C.length∧Lim out∧val out=val (A.take i)*val C∧i≤A.length) (fun (i,out)=>A.length-i) (0,List.replicate (A.length+C.length) 0) ⟨⟨by simp,Lim.zeros _,by simp [val_nil,val_zeros],by omega⟩,.rq5,.cons rfl .nil⟩ ?_
 rintro ⟨i,out0⟩ ⟨h1,hO0,h2,h3⟩
 refine AW.sg hE rfl (c_lss rfl rfl rfl (OL.nil (AW.seq (AW.cond rfl (fun h=>?_) (fun h=>?_)))))
 ·have h:=dt9 h
  refine AW.skip (AW.seq (AW.block (AW.sg hE rfl (mvD rfl (asD rfl (OL.nil (AW.sg hE rfl ?_)))))))
  refine asD rfl (OL.nil (AW.sg hE rfl (asD rfl (OL.nil (AW.block ?_)))))
  refine AW.while (α:=Nat × List Nat × Nat) (fun (j,out,sum)=>[(0,.d (u32s A)),(1,.d (u32s C)),(5,.osl 14 b (A.length+C.length) (A.length+C.length)),(6,.d (dI i)),(7,.d (dU sum)),(8,.d (dI j)),(16,.d (dI A.length)),(17,.d (dI i))]) (fun (j,out,sum)=>[(14,.row b (A.length+C.length) T.u32 1 (out.map d32))]) (fun (j,out,sum)=>out.length=A.length+C.length∧Lim out∧val out+sum*Bp (i+j)=val (A.take i)*val C+A.getD i 0*Bp i*val (C.take j)∧sum≤4294967295∧j≤C.length+1∧(j=C.length+1→sum=0)) (fun (j,out,sum)=>C.length+1-j) (0,out0,0) ⟨⟨h1,hO0,by simp [val_nil,h2],by omega,by omega,by omega⟩,.rq8,.cons rfl .nil⟩ ?_
  rintro ⟨j,out,sum⟩ ⟨g1,hO,g2,g3,g4,g5⟩
  refine AW.seq ?_
  refine AW.mid (α:=Unit) (fun _u=>[(0,.d (u32s A)),(1,.d (u32s C)),(5,.osl 14 b (A.length+C.length) (A.length+C.length)),(6,.d (dI i)),(7,.d (dU sum)),(8,.d (dI j)),(16,.d (dI A.length)),(17,.d (dI i)),(27,.d (dB (decide (j<C.length ∨ 0<sum))))]) (fun _u=>[(14,.row b (A.length+C.length) T.u32 1 (out.map d32))]) (fun _u=>True) ?_ ?_
  ·refine AW.rg hE rfl (mvD rfl (mvD rfl (lnL sl.limbs rfl rfl (c_lss rfl rfl rfl (OL.split 23 rfl (fun hj=>?_) (fun hj=>?_))))))
   ·have hj:=dt9 hj
    exact mvD rfl (OL.nd rfl (OL.nd rfl (pkT rfl rfl (OL.nil (AW.reach () ⟨trivial,.cons vR (.cons vR (.cons vR (.cons vR (.cons vR (.cons vR (.cons vR (.cons vR (.cons (VLe.bool (by simp;omega)) .nil)))))))),.cons rfl .nil⟩)))))
   ·have hj:=df9 hj
    exact mvD rfl (OL.yes rfl (mvD rfl (OL.yes rfl (c_gtr rfl rfl rfl (pkF rfl rfl (OL.nil (AW.reach () ⟨trivial,.cons vR (.cons vR (.cons vR (.cons vR (.cons vR (.cons vR (.cons vR (.cons vR (.cons (VLe.bool (by simp;omega)) .nil)))))))),.cons rfl .nil⟩)))))))
  rintro ⟨⟩ -
  refine AW.cond rfl (fun hc=>?_) (fun hc=>?_)
  ·have hc:=dt9 hc
   refine AW.skip (AW.seq (AW.block (AW.seq ?_)))
   have ha:=hA.getD i
   have hc2:=hC.getD j
   have ho:=hO.getD (i+j)
   have hp:A.getD i 0*C.getD j 0≤4294967295*4294967295:=Nat.mul_le_mul (by omega) (by omega)
   have st1:val (out.set (i+j) ((sum+(out.getD (i+j) 0+A.getD i 0*C.getD j 0)) % 4294967296))+(sum+(out.getD (i+j) 0+A.getD i 0*C.getD j 0)) / 4294967296*Bp (i+(j+1))=val (A.take i)*val C+A.getD i 0*Bp i*val (C.take (j+1)):=by
    rw [take_succ_val hC];exact times_step (by omega) g2 rfl
   refine AW.dg 1 [0,1,2,3,4,5,6,7,8,9,10,11,12,13,14,15,16,17] order_free hE rfl (by kernel_rfl) (OI.of_OL (os:=[_,_,_,_,_,_,_,_,_,_,_,_,_,_,_,_,_,_]) rfl ?_)
   refine mvD rfl (mvO rfl (mvD rfl (mvD rfl (add_i64 rfl rfl (by omega) (ixO sl.limbs rfl rfl (by omega) (by omega) (i:=i+j) (by omega) (ldEL ce.u32 0 (by decide) rfl rfl (by omega) rfl (cv it.u32 it.u64 rfl (wrap_u64 (by omega)) ?_)))))))
   refine mvD rfl (mvD rfl (cl (limbs_atn hA) rfl vL (mvD rfl (mvD rfl (cl (limbs_atn hC) rfl vL (mul_u64 rfl rfl (by omega) (add_u64 rfl rfl (by omega) ?_)))))))
   refine add_u64 rfl rfl (by omega) (asD rfl (OL.nil (AW.sg hE rfl (mvO rfl (mvD rfl (mvD rfl (add_i64 rfl rfl (by omega) ?_)))))))
   refine mvD rfl (cv it.u64 it.u32 rfl (c:=(((sum+(out.getD (i+j) 0+A.getD i 0*C.getD j 0)) % 4294967296:Nat):Int)) (by rw [wrap_u32_mod];omega) (ixO sl.limbs rfl rfl (by omega) (by omega) (i:=i+j) (by omega) (stE sz.u32 rfl (VC.d _).vd rfl rfl (by simp;omega) (es2:=(out.set (i+j) ((sum+(out.getD (i+j) 0+A.getD i 0*C.getD j 0)) % 4294967296)).map d32) (by rw [List.map_set]) (OL.nil (AW.rg hE rfl (mvD rfl (shr32 rfl rfl rfl ?_)))))))
   refine asD rfl (OL.nil (AW.rg hE rfl (mvD rfl (add_i64 rfl rfl (by omega) (asD rfl (OL.nil ?_))))))
   exact AW.again (x:=(j,out,sum)) (j+1,out.set (i+j) ((sum+(out.getD (i+j) 0+A.getD i 0*C.getD j 0)) % 4294967296),(sum+(out.getD (i+j) 0+A.getD i 0*C.getD j 0)) / 4294967296) (by (simp only [];omega)) ⟨⟨by simp [g1],hO.set _ (Nat.mod_lt _ (by decide)),st1,by omega,by omega,fun e=>times_top hA hC (j:=j+1) (by omega) st1 e.symm⟩,.rq8,.cons rfl .nil⟩
  ·have hc:=df9 hc
   refine AW.exit (AW.rg hE rfl (add_i64 rfl rfl (by omega) (mvD rfl (OL.nil ?_))))
   exact AW.again (x:=(i,out0)) (i+1,out) (by (simp only [];omega)) ⟨⟨g1,hO,outer_step hA (j:=j) (by omega) (by rw [show sum=0 by omega] at g2;exact g2),by omega⟩,.rq5,.cons rfl .nil⟩
 ·have h:=df9 h
  refine AW.exit (AW.seq ?_)
  have hv:val out0=val A*val C:=by rw [h2,take_all (by omega)]
  refine AW.freeze 14 rfl (AW.to [(5,.d (u32s out0))] [] (.cons (frz_osl (by simp [h1]) rfl) .nil) .nil ?_)
  exact AW.rg hE rfl (mvD rfl (cl (limbs_clean hO0 (by omega)) rfl vL (asD rfl (OL.nil (AW.ret (RetQ.r ⟨_,.tmp rfl .nil,.le (vle_of_eq (by rw [← hv];rfl))⟩))))))
theorem limbs_small {A:List Nat}{d:Nat}(hA:Lim A)(nA:A.length≤8796093022208)(h0:0<d)(hd:d<4294967296):FSpec P F.rational_limbs_small [.d (u32s A),.d (d32 d)] (.tup [.d (u32s (lim (val A / d))),.d (d32 (val A % d))]):=by
 refine FSpec.intro fn.rational_limbs_small (by rfl) (by rfl) (nb9 (by rfl)) fun E hE=>(AW.sg hE rfl (asM rfl (asD rfl (OL.nil (AW.sg hE rfl (mvD rfl (lnL sl.limbs rfl rfl ?_)))))))
 refine mkL d32 0 sl.limbs z.u32 (.cons (VC.d _) .nil) rfl rfl (Nat.le_refl _) (by omega) (by omega) rfl fun b=>(asO rfl (asD rfl (OL.nil (AW.seq (AW.sg hE rfl (mvD rfl (lnL sl.limbs rfl rfl ?_)))))))
 refine sub_i64 rfl rfl (by omega) (asD rfl (OL.nil (AW.block ?_)))
 refine AW.while (α:=Nat × List Nat × Nat) (fun (n,out,r)=>[(0,.d (u32s A)),(1,.d (d32 d)),(6,.osl 11 b A.length A.length),(7,.d (dU r)),(8,.d (dI ((n:Int)-1)))]) (fun (n,out,r)=>[(11,.row b A.length T.u32 1 (out.map d32))]) (fun (n,out,r)=>out.length=A.length∧Lim out∧val A / Bp n=val (out.drop n)*d+r∧r<d∧n≤A.length) (fun (n,out,r)=>n) (A.length,List.replicate A.length 0,0) ⟨⟨by simp,Lim.zeros _,by rw [Nat.div_eq_of_lt (val_lt hA),List.drop_eq_nil_of_le (by simp),val_nil];omega,h0,Nat.le_refl _⟩,.rq5,.cons rfl .nil⟩ ?_
 rintro ⟨n,out,r⟩ ⟨h1,hO,h2,h3,h4⟩
 refine AW.seq (AW.sg hE rfl (mvD rfl (c_geq rfl rfl rfl (OL.nil (AW.cond rfl (fun h=>?_) (fun h=>?_))))))
 ·have h:=dt9 h
  refine AW.skip (AW.seq (AW.block (AW.seq ?_)))
  have ha:=hA.getD (n-1)
  have e1:((n:Int)-1).toNat=n-1:=by omega
  have hq:(r*4294967296+A.getD (n-1) 0) / d<4294967296:=Nat.div_lt_of_lt_mul (by have:=Nat.mul_le_mul_right 4294967296 (show r+1≤d from h3);omega)
  refine AW.rg hE rfl (mvD rfl (shl32 rfl rfl rfl (by omega) (mvD rfl (mvD rfl (ixL sl.limbs 0 rfl rfl (by omega) (by omega) rfl rfl ?_)))))
  rw [e1]
  refine ldRC ce.u32 rfl (cv it.u32 it.u64 rfl (wrap_u64 (by omega)) (orA (a:=r*4294967296) (b:=A.getD (n-1) 0) 32 r rfl rfl rfl (by omega) (by omega) (asD rfl (OL.nil (AW.sg hE rfl (mvO rfl (mvD rfl ?_)))))))
  refine mvD rfl (mvD rfl (cv it.u32 it.u64 rfl (wrap_u64 (by omega)) (bo rfl rfl (c:=.int .u64 (((r*4294967296+A.getD (n-1) 0) / d:Nat):Int)) (quo_nat (by omega) (by omega)) (cv it.u64 it.u32 rfl (c:=(((r*4294967296+A.getD (n-1) 0) / d:Nat):Int)) (wrap_u32 ⟨Int.natCast_nonneg _,by generalize (r*4294967296+A.getD (n-1) 0) / d=q at hq ⊢;omega⟩) (ixO sl.limbs rfl rfl (by omega) (by omega) (i:=n-1) (by omega) (stE sz.u32 rfl (VC.d _).vd rfl rfl (by simp;omega) (es2:=(out.set (n-1) ((r*4294967296+A.getD (n-1) 0) / d)).map d32) (by rw [List.map_set]) (OL.nil ?_)))))))
  refine AW.rg hE rfl (mvD rfl (mvD rfl (cv it.u32 it.u64 rfl (wrap_u64 (by omega)) (bo rfl rfl (c:=.int .u64 (((r*4294967296+A.getD (n-1) 0) % d:Nat):Int)) (rem_nat (by omega)) (asD rfl (OL.nil (AW.rg hE rfl ?_)))))))
  refine mvD rfl (sub_i64 rfl rfl (by omega) (asD rfl (OL.nil ?_)))
  exact AW.again (x:=(n,out,r)) (n-1,out.set (n-1) ((r*4294967296+A.getD (n-1) 0) / d),(r*4294967296+A.getD (n-1) 0) % d) (by (simp only [];omega)) ⟨⟨by simp [h1],hO.set _ hq,by rw [drop_set_pred (by omega) (by omega)];exact small_step h0 hA (by omega) h2,Nat.mod_lt _ h0,by omega⟩,.cons vR (.cons vR (.cons vR (.cons vR (.cons (VLe.int (by omega)) .nil)))),.cons rfl .nil⟩
 ·have h:=df9 h
  refine AW.exit (AW.seq ?_)
  have hv:val A=val out*d+r:=by have:=h2;rw [show n=0 by omega] at this;simpa [Bp_zero] using this
  have hu:=(Nat.div_mod_unique (a:=val A) (c:=r) (d:=val out) h0).2 ⟨by rw [Nat.mul_comm d];omega,h3⟩
  have hv1:val out=val A / d:=hu.1.symm
  have hv2:r=val A % d:=hu.2.symm
  refine AW.freeze 11 rfl (AW.to [(6,.d (u32s out)),(7,.d (dU r))] [] (.cons (frz_osl (by simp [h1]) rfl) .rq1) .nil ?_)
  refine AW.rg hE rfl (mvD rfl (cl (limbs_clean hO (by omega)) rfl vL (mvD rfl (cv it.u64 it.u32 rfl (c:=((r:Nat):Int)) (by rw [wrap_u32_mod];omega) (asD rfl (asD rfl (OL.nil ?_)))))))
  exact AW.ret (RetQ.r ⟨_,.tmp rfl (.tmp rfl .nil),_,.cons (.le vR) (.cons (.le vR) .nil),by rw [← hv1,← hv2];rfl⟩)
theorem bits_len {x:Nat}(hx:x<4294967296):FSpec P F.math_bits_Len32 [.d (d32 x)] (.d (dI (blen x))):=by
 refine FSpec.intro fn.math_bits_Len32 (by rfl) (by rfl) (nb9 (by rfl)) fun E hE=>(AW.sg hE rfl (asD rfl (OL.nil (AW.mid (α:=Nat × Nat) (fun (y,s)=>[(0,.d (d32 y)),(2,.d (dI s))]) (fun (y,s)=>[]) (fun (y,s)=>y<65536∧blen y+s=blen x∧s≤16) ?_ ?_))))
 ·refine AW.sg hE rfl (mvD rfl (c_geq rfl rfl rfl (OL.nil (AW.cond rfl (fun h=>?_) (fun h=>?_)))))
  ·have h:=dt9 h
   refine AW.sg hE rfl (mvD rfl (shrV rfl rfl ⟨by decide,by decide⟩ (c:=((x / 65536:Nat):Int)) (by show (x:Int) / 65536=_;omega) (asD rfl (OL.nil (AW.rg hE rfl (asD rfl (OL.nil ?_)))))))
   exact AW.reach (x / 65536,16) ⟨⟨by omega,blen_shift (k:=16) (by omega),by omega⟩,.rq2,.nil⟩
  ·have h:=df9 h
   exact AW.skip (AW.reach (x,0) ⟨⟨by omega,rfl,by omega⟩,.rq2,.nil⟩)
 rintro ⟨y,s⟩ ⟨h1,h2,h2s⟩
 refine AW.mid (α:=Nat × Nat) (fun (z,t)=>[(0,.d (d32 z)),(2,.d (dI t))]) (fun (z,t)=>[]) (fun (z,t)=>z<256∧blen z+t=blen x∧t≤24) ?_ ?_
 ·refine AW.sg hE rfl (mvD rfl (c_geq rfl rfl rfl (OL.nil (AW.cond rfl (fun h8=>?_) (fun h8=>?_)))))
  ·have h8:=dt9 h8
   refine AW.sg hE rfl (mvD rfl (shrV rfl rfl ⟨by decide,by decide⟩ (c:=((y / 256:Nat):Int)) (by show (y:Int) / 256=_;omega) (asD rfl (OL.nil (AW.rg hE rfl (mvD rfl (add_i64 rfl rfl (by omega) ?_)))))))
   exact asD rfl (OL.nil (AW.reach (y / 256,s+8) ⟨⟨by omega,by have:=blen_shift (x:=y) (k:=8) (by omega);rw [show y / 256=y / 2 ^ 8 from rfl];omega,by omega⟩,.rq2,.nil⟩))
  ·have h8:=df9 h8
   exact AW.skip (AW.reach (y,s) ⟨⟨by omega,h2,by omega⟩,.rq2,.nil⟩)
 rintro ⟨z,t⟩ ⟨h3,h4,h4t⟩
 refine AW.seq ?_
 have hz:=blen_mono (x:=z) (k:=8) (by omega)
 refine AW.rg hE rfl (mvD rfl (mvD rfl (cv it.u32 it.u8 rfl (c:=(z:Int)) (wrap_u8 (by omega)) (sAt st.str rfl rfl (q:=blen z) (tbl (by kernel_rfl) h3) (cv it.u8 it.int rfl (wrap_i64 (by omega)) (add_i64 rfl rfl (by omega) (asD rfl ?_)))))))
 exact OL.nil (AW.ret (RetQ.r ⟨_,.tmp rfl .nil,.le (VLe.int (by omega))⟩))
theorem bits_lead {x:Nat}(hx:x<4294967296):FSpec P F.math_bits_LeadingZeros32 [.d (d32 x)] (.d (dI (32-(blen x:Int)))):=by
 refine FSpec.intro fn.math_bits_LeadingZeros32 (by rfl) (by rfl) (nb9 (by rfl)) fun E hE=>(AW.sg hE rfl (asD rfl (OL.nil (AW.seq ?_))))
 have h0:=blen_mono (x:=x) (k:=32) (by omega)
 exact AW.rg hE rfl (mvD rfl (cl (bits_len hx) rfl vL (sub_i64 rfl rfl (by omega) (asD rfl (OL.nil (AW.ret (RetQ.r ⟨_,.tmp rfl .nil,.le vR⟩)))))))
end Go.Proofs.YteiohkpjgcioaaaGreatDoor
