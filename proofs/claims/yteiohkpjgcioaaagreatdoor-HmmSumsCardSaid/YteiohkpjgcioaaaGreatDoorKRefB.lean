/-
  Walks of the reference's numbers, part 2: division (printed by mk2.py).
-/
import Derived.Test.YteiohkpjgcioaaaGreatDoorKRatB
import Derived.Test.YteiohkpjgcioaaaGreatDoorKNumb
import Derived.Test.YteiohkpjgcioaaaGreatDoorKAlgd
set_option linter.unusedVariables false
set_option linter.unusedSimpArgs false
namespace Go.Proofs.YteiohkpjgcioaaaGreatDoor
open Go Go.AL
theorem ref_trim {L:List Nat}(hL:Lim L)(hn:L.length≤8796093022208):FSpec P F.ref01_trim [.d (u32s L)] (.d (u32s (lim (val L)))):=by
 refine FSpec.intro fn.ref01_trim (by rfl) (by rfl) (nb9 (by rfl)) fun E hE=>(AW.sg hE rfl (asM rfl (OL.nil (AW.seq (AW.block (AW.whileK (α:=List Nat) [(2,_)] [] (fun A=>[(0,.d (u32s A))]) (fun A=>[]) (fun A=>Lim A∧val A=val L∧A.length≤L.length) (fun A=>A.length) L (.cons (knM rfl) .nil) .nil ⟨⟨hL,rfl,Nat.le_refl _⟩,.rq1,.nil⟩ ?_))))))
 rintro A ⟨hA,hv,hl⟩
 refine AW.seq (AW.sg hE rfl (mvD rfl (lnL sl.u32s rfl rfl (c_gtr rfl rfl rfl (mvD rfl (OL.split 6 rfl (fun g6=>?_) (fun g6=>?_)))))))
 ·try simp only [dx9] at g6
  refine OL.yes rfl (mvD rfl (OL.yes rfl (mvD rfl (OL.yes rfl (lnL sl.u32s rfl rfl (OL.yes rfl (sub_i64 rfl rfl (by omega) ?_)))))))
  refine OL.yes rfl (ixL sl.u32s 0 rfl rfl (by omega) (by omega) rfl rfl (OL.yes rfl (ldRC ce.u32 rfl (OL.yes rfl (c_eql rfl rfl rfl (pkT rfl rfl (OL.nil ?_)))))))
  refine AW.cond rfl (fun h14=>?_) (fun h14=>?_)
  ·try simp only [dx9] at h14
   refine AW.skip (AW.block (AW.rg hE rfl (mvD rfl (mvD rfl (lnL sl.u32s rfl rfl (sub_i64 rfl rfl (by omega) (slTo sl.u32s rfl rfl (fun _=>rfl) (by omega) (l2:=A.dropLast) (by rw [List.dropLast_eq_take];congr 1;omega) ?_)))))))
   refine asD rfl (OL.nil ?_)
   exact AW.again (x:=A) A.dropLast (by rw [List.length_dropLast];omega) ⟨⟨hA.dropLast,by rw [← hv,val_dropLast (by omega) (by rw [toNat_pred] at h14;omega)],by rw [List.length_dropLast];omega⟩,Knows.app .rq1 .rq1,.nil⟩
  ·try simp only [dx9] at h14
   exact AW.exit (AW.sg hE rfl (mvD rfl (asD rfl (OL.nil (AW.ret (RetQ.r ⟨_,.tmp rfl .nil,.le (vle_of_eq (by rw [← hv,lim_val hA (last_ne (by omega) (by rw [toNat_pred] at h14;omega))];rfl))⟩))))))
 ·try simp only [dx9] at g6
  refine OL.nd rfl (OL.nd rfl (OL.nd rfl (OL.nd rfl (OL.nd rfl (OL.nd rfl (OL.nd rfl (pkF rfl rfl ?_)))))))
  refine OL.nil (cnF rfl ?_)
  exact AW.exit (AW.sg hE rfl (mvD rfl (asD rfl (OL.nil (AW.ret (RetQ.r ⟨_,.tmp rfl .nil,.le (vle_of_eq (by rw [← hv,nil_of (L:=A) (by omega),val_nil,lim_zero];rfl))⟩))))))
theorem ref_natural {v:Nat}(hv:v<18446744073709551616):FSpec P F.ref01_natural [.d (dU v)] (.d (u32s (lim v))):=by
 refine FSpec.intro fn.ref01_natural (by rfl) (by rfl) (nb9 (by rfl)) fun E hE=>(AW.sg hE rfl (asM rfl (OL.nil (AW.sg hE rfl (mvD rfl (cv it.u64 it.u32 rfl (c:=((v % 4294967296:Nat):Int)) (by rw [wrap_u32_mod];omega) (mvD rfl ?_)))))))
 refine shr32 rfl rfl rfl (cv it.u64 it.u32 rfl (c:=((v / 4294967296:Nat):Int)) (by rw [wrap_u32_mod];omega) (lt2 sl.u32s (VC.d _).vd (VC.d _).vd ⟨rfl,rfl⟩ (by decide) (cl (ref_trim (L:=[v % 4294967296,v / 4294967296]) (.cons (by omega) (.cons (by omega) .nil)) (by simp)) rfl vL ?_)))
 rw [show val [v % 4294967296,v / 4294967296]=v by simp only [val_cons,val_nil];omega]
 exact asD rfl (OL.nil (AW.ret (RetQ.r ⟨_,.tmp rfl .nil,.le vR⟩)))
theorem ref_sign {v:Int}:FSpec P F.ref01_sign [.d (dI v)] (.d (dI (sgnI v))):=by
 refine FSpec.intro fn.ref01_sign (by rfl) (by rfl) (nb9 (by rfl)) fun E hE=>(AW.sg hE rfl (asD rfl (OL.nil (AW.seq (AW.block (AW.sg hE rfl (mvD rfl ?_)))))))
 refine c_lss rfl rfl rfl (asD rfl (OL.nil (AW.cond rfl (fun h3=>?_) (fun h3=>?_))))
 ·try simp only [dx9] at h3
  exact AW.sg hE rfl (asD rfl (OL.nil (AW.ret (RetQ.r ⟨_,.tmp rfl .nil,.le (VLe.int (by unfold sgnI;rw [if_pos h3]))⟩))))
 ·try simp only [dx9] at h3
  refine AW.sg hE rfl (mvD rfl (c_gtr rfl rfl rfl (asD rfl (OL.nil (AW.cond rfl (fun h6=>?_) (fun h6=>?_))))))
  ·try simp only [dx9] at h6
   exact AW.sg hE rfl (asD rfl (OL.nil (AW.ret (RetQ.r ⟨_,.tmp rfl .nil,.le (VLe.int (by unfold sgnI;rw [if_neg h3,if_pos h6]))⟩))))
  ·try simp only [dx9] at h6
   exact AW.skip (AW.sg hE rfl (asD rfl (OL.nil (AW.ret (RetQ.r ⟨_,.tmp rfl .nil,.le (VLe.int (by unfold sgnI;rw [if_neg h3,if_neg h6]))⟩)))))
theorem ref_compare {a b:Nat}(na:(lim a).length≤8796093022208)(nb:(lim b).length≤8796093022208):FSpec P F.ref01_compare [.d (u32s (lim a)),.d (u32s (lim b))] (.d (dI (cmpN a b))):=by
 refine FSpec.intro fn.ref01_compare (by rfl) (by rfl) (nb9 (by rfl)) fun E hE=>(AW.sg hE rfl (asD rfl (OL.nil (AW.seq (AW.sg hE rfl (mvD rfl (lnL sl.u32s rfl rfl ?_)))))))
 refine mvD rfl (lnL sl.u32s rfl rfl (c_neq rfl rfl rfl (OL.nil (AW.cond rfl (fun h10=>?_) (fun h10=>?_)))))
 ·try simp only [dx9] at h10
  refine AW.sg hE rfl (mvD rfl (lnL sl.u32s rfl rfl (mvD rfl (lnL sl.u32s rfl rfl (sub_i64 rfl rfl (by omega) (clv rfl .rq1 (ref_sign) (asD rfl ?_)))))))
  exact OL.nil (AW.ret (RetQ.r ⟨_,.tmp rfl .nil,.le (vle_of_eq (by rw [cmp_len (by omega)];rfl))⟩))
 ·try simp only [dx9] at h10
  refine AW.skip (AW.seq (AW.sg hE rfl (mvD rfl (lnL sl.u32s rfl rfl (sub_i64 rfl rfl (by omega) (asD rfl (OL.nil ?_)))))))
  refine AW.block ?_
  refine AW.whileK (α:=Nat) [(0,_),(1,_)] [] (fun n=>[(5,.d (dI ((n:Int)-1)))]) (fun n=>[]) (fun n=>n≤(lim a).length∧∀ j,n≤j→(lim a).getD j 0=(lim b).getD j 0) (fun n=>n) (lim a).length (.cons (knD rfl) (.cons (knD rfl) .nil)) .nil ⟨⟨Nat.le_refl _,fun j hj=>by rw [getD_out (by omega),getD_out (by omega)]⟩,.rq1,.nil⟩ ?_
  rintro n ⟨hn,hh⟩
  refine AW.seq (AW.sg hE rfl (mvD rfl (c_geq rfl rfl rfl (OL.nil (AW.cond rfl (fun h=>?_) (fun h=>?_))))))
  ·have h:=dt9 h
   have e1:((n:Int)-1).toNat=n-1:=by omega
   have hx:=(lim_Lim a).getD (n-1)
   have hy:=(lim_Lim b).getD (n-1)
   refine AW.skip (AW.seq (AW.block (AW.seq (AW.dg 1 [0,1,2,3,4,5,6,7,8] order_free hE rfl (by kernel_rfl) (OI.of_OL (os:=[_,_,_,_,_,_,_,_,_]) rfl ?_)))))
   refine mvD rfl (mvD rfl (ixLe (n-1) sl.u32s 0 rfl rfl (by omega) (by omega) rfl rfl (ldRC ce.u32 rfl (mvD rfl (mvD rfl (ixLe (n-1) sl.u32s 0 rfl rfl (by omega) (by omega) rfl rfl (ldRC ce.u32 rfl ?_)))))))
   refine c_neq rfl rfl rfl (OL.nil (AW.cond rfl (fun hne=>?_) (fun hne=>?_)))
   ·have hne:(lim a).getD (n-1) 0≠(lim b).getD (n-1) 0:=by have:=nd_t hne;omega
    refine AW.seq (AW.dg 1 [0,1,2,3,4,5,6,7,8,9,10,11,12] order_free hE rfl (by kernel_rfl) (OI.of_OL (os:=[_,_,_,_,_,_,_,_,_,_,_,_,_]) rfl ?_))
    refine mvD rfl (mvD rfl (ixLe (n-1) sl.u32s 0 rfl rfl (by omega) (by omega) rfl rfl (ldRC ce.u32 rfl (cv it.u32 it.int rfl (wrap_i64 (by omega)) (mvD rfl (mvD rfl (ixLe (n-1) sl.u32s 0 rfl rfl (by omega) (by omega) rfl rfl ?_)))))))
    exact ldRC ce.u32 rfl (cv it.u32 it.int rfl (wrap_i64 (by omega)) (sub_i64 rfl rfl (by omega) (clv rfl .rq1 (ref_sign) (asD rfl (OL.nil (AW.ret (RetQ.r ⟨_,.tmp rfl .nil,.le (VLe.int (by rw [cmp_sgn (cmp_at (lim_Lim a) (lim_Lim b) (i:=n-1) (fun j hj=>hh j (by omega)) hne) hne,val_lim,val_lim]))⟩)))))))
   ·have hne:(lim a).getD (n-1) 0=(lim b).getD (n-1) 0:=by have:=nd_f hne;omega
    refine AW.skip (AW.rg hE rfl (mvD rfl (sub_i64 rfl rfl (by omega) (asD rfl (OL.nil ?_)))))
    exact AW.again (x:=n) (n-1) (by omega) ⟨⟨by omega,fun j hj=>by rcases Nat.lt_or_ge j n with hj2|hj2;(have:j=n-1:=by omega);rw [this];omega;exact hh j hj2⟩,Knows.app .rq2 (.cons (VLe.int (by omega)) .nil),.nil⟩
  ·have h:=df9 h
   exact AW.exit (AW.sg hE rfl (asD rfl (OL.nil (AW.ret (RetQ.r ⟨_,.tmp rfl .nil,.le (VLe.int (by have h:=val_eq_of (lim_Lim a) (lim_Lim b) fun j=>hh j (by omega);rw [val_lim,val_lim] at h;subst h;simp [cmpN]))⟩)))))
theorem ref_limb {L:List Nat}{i:Nat}(hL:Lim L):FSpec P F.ref01_limb [.d (u32s L),.d (dI i)] (.d (dU (L.getD i 0))):=by
 refine FSpec.intro fn.ref01_limb (by rfl) (by rfl) (nb9 (by rfl)) fun E hE=>(AW.sg hE rfl (asD rfl (OL.nil (AW.seq (AW.sg hE rfl (mvD rfl (mvD rfl ?_)))))))
 refine lnL sl.u32s rfl rfl (c_geq rfl rfl rfl (OL.nil (AW.cond rfl (fun h8=>?_) (fun h8=>?_))))
 ·try simp only [dx9] at h8
  exact AW.sg hE rfl (asD rfl (OL.nil (AW.ret (RetQ.r ⟨_,.tmp rfl .nil,.le (VLe.int (by rw [getD_out (by omega)];rfl))⟩))))
 ·try simp only [dx9] at h8
  refine AW.skip (AW.sg hE rfl (mvD rfl (mvD rfl (ixLn sl.u32s 0 rfl rfl (by omega) rfl rfl (ldRC ce.u32 rfl (cv it.u32 it.u64 rfl (wrap_u64 ⟨by omega,by have:=hL.getD i;omega⟩) (asD rfl ?_)))))))
  exact OL.nil (AW.ret (RetQ.r ⟨_,.tmp rfl .nil,.le vR⟩))
theorem ref_plus {A C:List Nat}(hA:Lim A)(hC:Lim C)(nA:A.length≤4398046511104)(nC:C.length≤4398046511104):FSpec P F.ref01_plus [.d (u32s A),.d (u32s C)] (.d (u32s (lim (val A+val C)))):=by
 refine FSpec.intro fn.ref01_plus (by rfl) (by rfl) (nb9 (by rfl)) fun E hE=>(AW.sg hE rfl (asM rfl (OL.nil (AW.sg hE rfl (asM rfl (OL.nil (AW.sg hE rfl ?_)))))))
 refine asD rfl (OL.nil (AW.seq (AW.sg hE rfl (asD rfl (OL.nil (AW.own 5 31 T.u32 1 rfl rfl (AW.block ?_)))))))
 refine AW.whileK (α:=Nat × List Nat × Nat × Nat × Nat) [(0,_),(1,_),(4,_)] [] (fun (i,out,sum,b,c)=>[(5,.osl 31 b out.length c),(6,.d (dU sum)),(7,.d (dI i))]) (fun (i,out,sum,b,c)=>[(31,.row b c T.u32 1 (out.map d32))]) (fun (i,out,sum,b,c)=>out.length=i∧Lim out∧val out+Bp i*sum=val (A.take i)+val (C.take i)∧sum≤1∧i≤max A.length C.length+1) (fun (i,out,sum,b,c)=>max A.length C.length+1-i) (0,[],0,0,0) (.cons (knD rfl) (.cons (knD rfl) (.cons (knM rfl) .nil))) .nil ⟨⟨rfl,Lim.nil,rfl,by omega,by omega⟩,.rq3,.cons rfl .nil⟩ ?_
 rintro ⟨i,out,sum,b,c⟩ ⟨h1,hO,h2,h3,h4⟩
 refine AW.seq (AW.sg hE rfl (mvD rfl (mvD rfl (lnL sl.u32s rfl rfl (mvD rfl (lnL sl.u32s rfl rfl (mx rfl rfl (c:=((max A.length C.length:Nat):Int)) (by omega) ?_)))))))
 refine c_leq rfl rfl rfl (OL.nil (AW.cond rfl (fun h15=>?_) (fun h15=>?_)))
 ·try simp only [dx9] at h15
  refine AW.skip (AW.seq (AW.block (AW.seq ?_)))
  have hx:=hA.getD i
  have hy:=hC.getD i
  refine AW.rg hE rfl (mvD rfl (mvD rfl (clv rfl .rq2 (ref_limb (by assumption)) (mvD rfl (mvD rfl (clv rfl .rq2 (ref_limb (by assumption)) (add_u64 rfl rfl (by omega) ?_)))))))
  refine mvD rfl (add_u64 rfl rfl (by omega) (asD rfl (OL.nil (AW.rg hE rfl (mvO rfl (mvD rfl (cv it.u64 it.u32 rfl (c:=(((sum+(A.getD i 0+C.getD i 0)) % 4294967296:Nat):Int)) (by rw [wrap_u32_mod];omega) ?_)))))))
  refine lt1 sl.u32s (VC.d _).vd rfl (by decide) ?_
  refine apO sl.u32s rfl rfl rfl (by simp) (VC.d _) (by simp [D.cells]) (by simp;omega) (by simp;omega) (.inr rfl) (ys:=(out++[(sum+(A.getD i 0+C.getD i 0)) % 4294967296]).map d32) (by simp) (n2:=(out++[(sum+(A.getD i 0+C.getD i 0)) % 4294967296]).length) (by simp) fun b2 c2=>?_
  refine mvD rfl (shr32 rfl rfl rfl (asO rfl (asD rfl (OL.nil (AW.rg hE rfl (mvD rfl (add_i64 rfl rfl (by omega) ?_)))))))
  refine asD rfl (OL.nil ?_)
  exact AW.again (x:=(i,out,sum,b,c)) (i+1,out++[(sum+(A.getD i 0+C.getD i 0)) % 4294967296],(sum+(A.getD i 0+C.getD i 0)) / 4294967296,b2,c2) (by (simp only [];omega)) ⟨⟨by simp [h1],hO.append (.cons (Nat.mod_lt _ (by decide)) .nil),by rw [val_snoc,h1,take_succ_val hA,take_succ_val hC];exact plus_step h2,by omega,by omega⟩,Knows.app .rq3 (.cons vR (.cons (VLe.int (by omega)) .rq1)),.cons rfl .nil⟩
 ·try simp only [dx9] at h15
  refine AW.exit (AW.seq ?_)
  have hv:val out=val A+val C:=plus_fin hA hC (by omega) h1 h2
  refine AW.freeze 31 rfl (AW.to [(5,.d (u32s out))] [] (.cons (frz_osl (by simp) rfl) .nil) .nil ?_)
  exact AW.rg hE rfl (mvD rfl (clv rfl .rq1 (ref_trim (by assumption) (by omega)) (asD rfl (OL.nil (AW.ret (RetQ.r ⟨_,.tmp rfl .nil,.le (vle_of_eq (by rw [← hv];rfl))⟩))))))
theorem ref_minus {A C:List Nat}(hA:Lim A)(hC:Lim C)(nA:A.length≤8796093022208)(hle:val C≤val A):FSpec P F.ref01_minus [.d (u32s A),.d (u32s C)] (.d (u32s (lim (val A-val C)))):=by
 refine FSpec.intro fn.ref01_minus (by rfl) (by rfl) (nb9 (by rfl)) fun E hE=>(AW.sg hE rfl (asM rfl (OL.nil (AW.sg hE rfl (asM rfl (OL.nil (AW.sg hE rfl ?_)))))))
 refine asD rfl (OL.nil (AW.seq (AW.sg hE rfl (asD rfl (OL.nil (AW.own 5 29 T.u32 1 rfl rfl (AW.block ?_)))))))
 refine AW.whileK (α:=Nat × List Nat × Nat × Nat × Nat) [(0,_),(1,_),(4,_)] [] (fun (i,out,less,b,c)=>[(5,.osl 29 b out.length c),(6,.d (dU less)),(7,.d (dI i))]) (fun (i,out,less,b,c)=>[(29,.row b c T.u32 1 (out.map d32))]) (fun (i,out,less,b,c)=>out.length=i∧Lim out∧val (A.take i)+less*Bp i=val out+val (C.take i)∧less≤1∧i≤A.length) (fun (i,out,less,b,c)=>A.length-i) (0,[],0,0,0) (.cons (knD rfl) (.cons (knD rfl) (.cons (knM rfl) .nil))) .nil ⟨⟨rfl,Lim.nil,by simp [val_nil],by omega,by omega⟩,.rq3,.cons rfl .nil⟩ ?_
 rintro ⟨i,out,less,b,c⟩ ⟨h1,hO,h2,h3,h4⟩
 refine AW.seq (AW.sg hE rfl (mvD rfl (mvD rfl (lnL sl.u32s rfl rfl (c_lss rfl rfl rfl (OL.nil (AW.cond rfl (fun h12=>?_) (fun h12=>?_))))))))
 ·try simp only [dx9] at h12
  refine AW.skip (AW.seq (AW.block (AW.seq ?_)))
  have hx:=hA.getD i
  have hy:=hC.getD i
  refine AW.rg hE rfl (mvD rfl (mvD rfl (clv rfl .rq2 (ref_limb (by assumption)) (add_u64 rfl rfl (by omega) (mvD rfl (mvD rfl (clv rfl .rq2 (ref_limb (by assumption)) ?_)))))))
  refine sub_u64 rfl rfl (by omega) (mvD rfl (sub_u64 rfl rfl (by omega) (asD rfl (OL.nil (AW.rg hE rfl (mvO rfl (mvD rfl ?_)))))))
  refine cv it.u64 it.u32 rfl (c:=(((A.getD i 0+4294967296-C.getD i 0-less) % 4294967296:Nat):Int)) (by rw [wrap_u32_mod];omega) (lt1 sl.u32s (VC.d _).vd rfl (by decide) ?_)
  refine apO sl.u32s rfl rfl rfl (by simp) (VC.d _) (by simp [D.cells]) (by simp;omega) (by simp;omega) (.inr rfl) (ys:=(out++[(A.getD i 0+4294967296-C.getD i 0-less) % 4294967296]).map d32) (by simp) (n2:=(out++[(A.getD i 0+4294967296-C.getD i 0-less) % 4294967296]).length) (by simp) fun b2 c2=>?_
  refine mvD rfl (shr32 rfl rfl rfl (sub_u64 rfl rfl (by omega) (asO rfl (asD rfl (OL.nil (AW.rg hE rfl (mvD rfl ?_)))))))
  refine add_i64 rfl rfl (by omega) (asD rfl (OL.nil ?_))
  exact AW.again (x:=(i,out,less,b,c)) (i+1,out++[(A.getD i 0+4294967296-C.getD i 0-less) % 4294967296],if A.getD i 0<C.getD i 0+less then 1 else 0,b2,c2) (by (simp only [];omega)) ⟨⟨by simp [h1],hO.append (.cons (Nat.mod_lt _ (by decide)) .nil),by rw [take_succ_val hA,take_succ_val hC,val_snoc,h1];exact minus_step h2 hx hy h3,by split <;> omega,by omega⟩,Knows.app .rq3 (.cons vR (.cons (VLe.int (by split <;> omega)) .rq1)),.cons rfl .nil⟩
 ·try simp only [dx9] at h12
  refine AW.exit (AW.seq ?_)
  have hv:val out=val A-val C:=minus_end hA hO (by omega) hle (by rw [take_all (A:=out) (by omega)];rw [show i=A.length by omega] at h2;exact h2) h3 hC
  refine AW.freeze 29 rfl (AW.to [(5,.d (u32s out))] [] (.cons (frz_osl (by simp) rfl) .nil) .nil ?_)
  exact AW.rg hE rfl (mvD rfl (clv rfl .rq1 (ref_trim (by assumption) (by omega)) (asD rfl (OL.nil (AW.ret (RetQ.r ⟨_,.tmp rfl .nil,.le (vle_of_eq (by rw [← hv];rfl))⟩))))))
theorem ref_times {A C:List Nat}(hA:Lim A)(hC:Lim C)(nA:A.length≤4398046511104)(nC:C.length≤4398046511104):FSpec P F.ref01_times [.d (u32s A),.d (u32s C)] (.d (u32s (lim (val A*val C)))):=by
 refine FSpec.intro fn.ref01_times (by rfl) (by rfl) (nb9 (by rfl)) fun E hE=>(AW.sg hE rfl (asM rfl (OL.nil (AW.sg hE rfl (mvD rfl (lnL sl.u32s rfl rfl (mvD rfl ?_)))))))
 refine lnL sl.u32s rfl rfl (bo rfl rfl (bin_add (c:=((A.length+C.length:Nat):Int)) (by omega) (wrap_i64 (by omega))) (mkL d32 0 sl.u32s z.u32 (.cons (VC.d _) .nil) rfl rfl (Nat.le_refl _) (by omega) (by omega) rfl fun b=>(asO rfl (OL.nil (AW.seq (AW.sg hE rfl (asD rfl ?_)))))))
 refine OL.nil (AW.block ?_)
 refine AW.whileK (α:=Nat × List Nat) [(0,_),(1,_),(4,_)] [] (fun (i,out)=>[(5,.osl 15 b (A.length+C.length) (A.length+C.length)),(6,.d (dI i))]) (fun (i,out)=>[(15,.row b (A.length+C.length) T.u32 1 (out.map d32))]) (fun (i,out)=>out.length=A.length+C.length∧Lim out∧val out=val (A.take i)*val C∧i≤A.length∧∀ j,i+C.length≤j→out.getD j 0=0) (fun (i,out)=>A.length-i) (0,List.replicate (A.length+C.length) 0) (.cons (knD rfl) (.cons (knD rfl) (.cons (knM rfl) .nil))) .nil ⟨⟨by simp,Lim.zeros _,by simp [val_nil,val_zeros],by omega,fun j _=>zeros_getD _ j⟩,.rq2,.cons rfl .nil⟩ ?_
 rintro ⟨i,out0⟩ ⟨h1,hO0,h2,h3,h4⟩
 refine AW.seq (AW.sg hE rfl (mvD rfl (mvD rfl (lnL sl.u32s rfl rfl (c_lss rfl rfl rfl (OL.nil (AW.cond rfl (fun h19=>?_) (fun h19=>?_))))))))
 ·try simp only [dx9] at h19
  refine AW.skip (AW.seq (AW.block (AW.sg hE rfl (asD rfl (OL.nil (AW.seq (AW.sg hE rfl ?_)))))))
  refine asD rfl (OL.nil (AW.block ?_))
  refine AW.whileK (α:=Nat × List Nat × Nat) [(0,_),(1,_),(4,_),(6,_)] [] (fun (j,out,sum)=>[(5,.osl 15 b (A.length+C.length) (A.length+C.length)),(7,.d (dU sum)),(8,.d (dI j))]) (fun (j,out,sum)=>[(15,.row b (A.length+C.length) T.u32 1 (out.map d32))]) (fun (j,out,sum)=>out.length=A.length+C.length∧Lim out∧val out+sum*Bp (i+j)=val (A.take i)*val C+A.getD i 0*Bp i*val (C.take j)∧sum≤4294967295∧j≤C.length∧∀ k,i+C.length≤k→out.getD k 0=0) (fun (j,out,sum)=>C.length-j) (0,out0,0) (.cons (knD rfl) (.cons (knD rfl) (.cons (knM rfl) (.cons (knD rfl) .nil)))) .nil ⟨⟨h1,hO0,by simp [val_nil,h2],by omega,by omega,h4⟩,.rq3,.cons rfl .nil⟩ ?_
  rintro ⟨j,out,sum⟩ ⟨g1,hO,g2,g3,g4,g6⟩
  refine AW.seq (AW.sg hE rfl (mvD rfl (mvD rfl (lnL sl.u32s rfl rfl (c_lss rfl rfl rfl (OL.nil (AW.cond rfl (fun h25=>?_) (fun h25=>?_))))))))
  ·try simp only [dx9] at h25
   refine AW.skip (AW.seq (AW.block (AW.seq ?_)))
   have ha:=hA.getD i
   have hc2:=hC.getD j
   have ho:=hO.getD (i+j)
   have hp:A.getD i 0*C.getD j 0≤4294967295*4294967295:=Nat.mul_le_mul (by omega) (by omega)
   have st1:val (out.set (i+j) ((sum+(out.getD (i+j) 0+A.getD i 0*C.getD j 0)) % 4294967296))+(sum+(out.getD (i+j) 0+A.getD i 0*C.getD j 0)) / 4294967296*Bp (i+(j+1))=val (A.take i)*val C+A.getD i 0*Bp i*val (C.take (j+1)):=by
    rw [take_succ_val hC];exact times_step (by omega) g2 rfl
   refine AW.dg 1 [0,1,2,3,4,5,6,7,8,9,10,11,12,13,14,15,16,17,18,19,20,21] order_free hE rfl (by kernel_rfl) (OI.of_OL (os:=[_,_,_,_,_,_,_,_,_,_,_,_,_,_,_,_,_,_,_,_,_,_]) rfl ?_)
   refine mvD rfl (mvD rfl (ixLn sl.u32s 0 rfl rfl (by omega) rfl rfl (ldRC ce.u32 rfl (cv it.u32 it.u64 rfl (wrap_u64 (by omega)) (mvD rfl (mvD rfl (ixLn sl.u32s 0 rfl rfl (by omega) rfl rfl ?_)))))))
   refine ldRC ce.u32 rfl (cv it.u32 it.u64 rfl (wrap_u64 (by omega)) (bo rfl rfl (bin_mul (c:=((A.getD i 0*C.getD j 0:Nat):Int)) (by rw [Int.natCast_mul]) (wrap_u64 (by omega))) (mvO rfl (mvD rfl (mvD rfl (add_i64 rfl rfl (by omega) (ixO sl.u32s rfl rfl (by omega) (by omega) (i:=i+j) (by omega) ?_)))))))
   refine ldEL ce.u32 0 (by decide) rfl rfl (by omega) rfl (cv it.u32 it.u64 rfl (wrap_u64 (by omega)) (add_u64 rfl rfl (by omega) (mvD rfl (add_u64 rfl rfl (by omega) (asD rfl (OL.nil (AW.rg hE rfl ?_)))))))
   refine mvO rfl (mvD rfl (mvD rfl (add_i64 rfl rfl (by omega) (mvD rfl (cv it.u64 it.u32 rfl (c:=(((sum+(out.getD (i+j) 0+A.getD i 0*C.getD j 0)) % 4294967296:Nat):Int)) (by rw [wrap_u32_mod];omega) (mvD rfl (shr32 rfl rfl rfl ?_)))))))
   refine ixO sl.u32s rfl rfl (by omega) (by omega) (i:=i+j) (by omega) (stE sz.u32 rfl (VC.d _).vd rfl rfl (by simp;omega) (es2:=(out.set (i+j) ((sum+(out.getD (i+j) 0+A.getD i 0*C.getD j 0)) % 4294967296)).map d32) (by rw [List.map_set]) (asD rfl (OL.nil (AW.rg hE rfl (mvD rfl (add_i64 rfl rfl (by omega) (asD rfl ?_)))))))
   refine OL.nil ?_
   exact AW.again (x:=(j,out,sum)) (j+1,out.set (i+j) ((sum+(out.getD (i+j) 0+A.getD i 0*C.getD j 0)) % 4294967296),(sum+(out.getD (i+j) 0+A.getD i 0*C.getD j 0)) / 4294967296) (by (simp only [];omega)) ⟨⟨by simp [g1],hO.set _ (Nat.mod_lt _ (by decide)),st1,by omega,by omega,set_zero g6 (by omega)⟩,Knows.app .rq4 (.cons vR (.cons (VLe.int (by omega)) .rq1)),.cons rfl .nil⟩
  ·try simp only [dx9] at h25
   refine AW.exit (AW.rg hE rfl (mvO rfl (mvD rfl (mvD rfl (lnL sl.u32s rfl rfl (add_i64 rfl rfl (by omega) (mvD rfl ?_)))))))
   refine cv it.u64 it.u32 rfl (c:=(sum:Int)) (by rw [wrap_u32_mod];omega) (ixO sl.u32s rfl rfl (by omega) (by omega) (i:=i+C.length) (by omega) (stE sz.u32 rfl (VC.d _).vd rfl rfl (by simp;omega) (es2:=(out.set (i+C.length) sum).map d32) (by rw [List.map_set]) (OL.nil (AW.rg hE rfl (mvD rfl (add_i64 rfl rfl (by omega) (asD rfl ?_)))))))
   refine OL.nil ?_
   exact AW.again (x:=(i,out0)) (i+1,out.set (i+C.length) sum) (by (simp only [];omega)) ⟨⟨by simp [g1],hO.set _ (by omega),row_fin hA (by omega) (g6 _ (Nat.le_refl _)) (by rw [show j=C.length by omega] at g2;exact g2),by omega,fun k hk=>by rw [Go.AL.getD_set_ne (by omega)];exact g6 k (by omega)⟩,Knows.app .rq3 .rq2,.cons rfl .nil⟩
 ·try simp only [dx9] at h19
  refine AW.exit (AW.seq ?_)
  have hv:val out0=val A*val C:=by rw [h2,take_all (by omega)]
  refine AW.freeze 15 rfl (AW.to [(5,.d (u32s out0))] [] (.cons (frz_osl (by simp [h1]) rfl) .nil) .nil ?_)
  exact AW.rg hE rfl (mvD rfl (clv rfl .rq1 (ref_trim (by assumption) (by omega)) (asD rfl (OL.nil (AW.ret (RetQ.r ⟨_,.tmp rfl .nil,.le (vle_of_eq (by rw [← hv];rfl))⟩))))))
theorem ref_plusN {a b:Nat}(na:(lim a).length≤4398046511104)(nb:(lim b).length≤4398046511104):FSpec P F.ref01_plus [.d (u32s (lim a)),.d (u32s (lim b))] (.d (u32s (lim (a+b)))):=by
 have h:=ref_plus (lim_Lim a) (lim_Lim b) na nb
 rw [val_lim,val_lim] at h;exact h
theorem ref_minusN {a b:Nat}(na:(lim a).length≤8796093022208)(hle:b≤a):FSpec P F.ref01_minus [.d (u32s (lim a)),.d (u32s (lim b))] (.d (u32s (lim (a-b)))):=by
 have h:=ref_minus (lim_Lim a) (lim_Lim b) na (by rw [val_lim,val_lim];exact hle)
 rw [val_lim,val_lim] at h;exact h
theorem ref_timesN {a b:Nat}(na:(lim a).length≤4398046511104)(nb:(lim b).length≤4398046511104):FSpec P F.ref01_times [.d (u32s (lim a)),.d (u32s (lim b))] (.d (u32s (lim (a*b)))):=by
 have h:=ref_times (lim_Lim a) (lim_Lim b) na nb
 rw [val_lim,val_lim] at h;exact h
theorem Int.natCast_pow_two (m:Nat):((2 ^ m:Nat):Int)=2 ^ m:=by rw [Int.natCast_pow];rfl
theorem pow_lim2 (m:Nat):2 ^ (m % 32)<4294967296:=Nat.pow_lt_pow_right (m:=m % 32) (n:=32) (by decide) (Nat.mod_lt _ (by decide))
theorem pow_lim (m:Nat):((2 ^ (m % 32):Nat):Int)≤4294967295:=by have:=pow_lim2 m;omega
theorem ref_divide {a b:Nat}(hb:b≠0)(na:(lim a).length≤1099511627776)(nb:(lim b).length≤1099511627776):FSpec P F.ref01_divide [.d (u32s (lim a)),.d (u32s (lim b))] (.tup [.d (u32s (lim (a / b))),.d (u32s (lim (a % b)))]):=by
 refine FSpec.intro fn.ref01_divide (by rfl) (by rfl) (nb9 (by rfl)) fun E hE=>(AW.sg hE rfl (asM rfl (asM rfl (OL.nil (AW.sg hE rfl (mvD rfl (lnL sl.u32s rfl rfl ?_)))))))
 refine mkL d32 0 sl.u32s z.u32 (.cons (VC.d _) .nil) rfl rfl (Nat.le_refl _) (by omega) (by omega) rfl fun b11=>(asO rfl (OL.nil (AW.sg hE rfl (asM rfl (OL.nil (AW.seq (AW.sg hE rfl ?_)))))))
 refine mvD rfl (lnL sl.u32s rfl rfl (mul_i64 rfl rfl (by omega) (sub_i64 rfl rfl (by omega) (asD rfl (OL.nil (AW.block ?_))))))
 refine AW.whileK (α:=Nat × List Nat × Nat × Nat) [(0,_),(1,_),(4,_),(5,_)] [] (fun (n,q,r,Q)=>[(6,.osl 11 b11 (lim a).length (lim a).length),(7,.d (u32s (lim r))),(8,.d (dI ((n:Int)-1)))]) (fun (n,q,r,Q)=>[(11,.row b11 (lim a).length T.u32 1 (q.map d32))]) (fun (n,q,r,Q)=>q.length=(lim a).length∧Lim q∧val q=Q*2 ^ n∧a / 2 ^ n=Q*b+r∧r<b∧n≤32*(lim a).length) (fun (n,q,r,Q)=>n) (32*(lim a).length,List.replicate (lim a).length 0,0,0) (.cons (knD rfl) (.cons (knD rfl) (.cons (knM rfl) (.cons (knM rfl) .nil)))) .nil ⟨⟨by simp,Lim.zeros _,by rw [val_zeros,Nat.zero_mul],by rw [div_start,Nat.zero_mul],by omega,Nat.le_refl _⟩,.cons vR (.cons (by rw [lim_zero];exact VLe.mt) .rq1),.cons rfl .nil⟩ ?_
 rintro ⟨n,q,r,Q⟩ ⟨h1,hq,h2,h3,h4,h5⟩
 refine AW.seq (AW.sg hE rfl (mvD rfl (c_geq rfl rfl rfl (OL.nil (AW.cond rfl (fun h=>?_) (fun h=>?_))))))
 ·have h:=dt9 h
  obtain ⟨m,rfl⟩:∃ m,n=m+1:=⟨n-1,by omega⟩
  have hmi:((m+1:Nat):Int)-1=(m:Int):=by omega
  have hrl:=len_le (Nat.le_of_lt h4)
  have ht:a / 2 ^ m % 2<2:=Nat.mod_lt _ (by decide)
  have hds:=div_step (i:=m) (Nat.pos_of_ne_zero hb) h3 h4
  have hr2:=len_le (show r+r+a / 2 ^ m % 2≤b+b by omega)
  have hr3:=len_le (show r+r≤b+b by omega)
  have hbb:=len_add b b
  refine AW.skip (AW.seq (AW.block (AW.sg hE rfl (mvD rfl (mvD rfl (clv rfl .rq2 (ref_plusN (by omega) (by omega)) (asD rfl ?_)))))))
  refine OL.nil ?_
  refine AW.midK (α:=Unit) [(0,_),(1,_),(4,_),(5,_),(6,_),(8,_)] [(11,_)] (fun _u=>[(7,.d (u32s (lim (r+r+a / 2 ^ m % 2))))]) (fun _u=>[]) (fun _u=>True) (.cons (knD rfl) (.cons (knD rfl) (.cons (knM rfl) (.cons (knM rfl) (.cons (knO rfl) (.cons (knD rfl) .nil)))))) (.cons (owR rfl) .nil) ?_ ?_
  ·refine AW.sg hE rfl (mvD rfl (mvD rfl (bo rfl rfl (quoN m 32 hmi (by omega) (by decide)) (ixLn sl.u32s 0 rfl rfl (by omega) rfl rfl (ldRC ce.u32 rfl (mvD rfl (bo rfl rfl (remN m 32 hmi (by decide)) ?_)))))))
   refine cv it.int it.uint rfl (wrap_u64 (by omega)) (shrV rfl rfl ⟨Int.natCast_nonneg _,by rw [Int.toNat_natCast];have:m % 32<32:=Nat.mod_lt _ (by decide);exact Nat.le_of_lt this⟩ (by rw [Int.toNat_natCast,div_pow_cast]) (bo rfl rfl (and1_u32 (Nat.lt_of_le_of_lt (Nat.div_le_self ..) ((lim_Lim a).getD _))) ?_))
   rw [bit_eq (lim_Lim a),val_lim]
   refine c_eql rfl rfl rfl (OL.nil (AW.cond rfl (fun h33=>?_) (fun h33=>?_)))
   ·try simp only [dx9] at h33
    refine AW.rg hE rfl (mvD rfl (lt1 sl.u32s (VC.d _).vd rfl (by decide) (cl (ref_plusN (b:=1) (by omega) (by have:=len_small (g:=1) (by decide);omega)) rfl (.cons vR (.cons (vle_of_eq (by rw [lim_small (n:=1) (by decide) (by decide)];rfl)) .nil)) (asD rfl (OL.nil ?_)))))
    exact AW.reach () ⟨trivial,Knows.app .rq6 (.cons (vle_of_eq (by rw [show a / 2 ^ m % 2=1 by omega];rfl)) .nil),Owns.app (.cons rfl .nil) (.nil)⟩
   ·try simp only [dx9] at h33
    refine AW.skip ?_
    exact AW.reach () ⟨trivial,Knows.app .rq6 (.cons (vle_of_eq (by rw [show a / 2 ^ m % 2=0 by omega];rfl)) .nil),Owns.app (.cons rfl .nil) (.nil)⟩
  rintro ⟨⟩ hφ
  refine AW.sg hE rfl (mvD rfl (mvD rfl (cl (ref_compare (by omega) (by omega)) rfl vL (c_geq rfl rfl rfl (OL.nil (AW.cond rfl (fun h40=>?_) (fun h40=>?_)))))))
  ·have h40:b≤r+r+a / 2 ^ m % 2:=cmp_nneg (by have:=dt9 h40;omega)
   have hsb:=set_bit (i:=m) (by omega) hq h2
   refine AW.sg hE rfl (mvD rfl (mvD rfl (clv rfl .rq2 (ref_minusN (by omega) (by assumption)) (asD rfl (OL.nil (AW.rg hE rfl (mvO rfl ?_)))))))
   refine mvD rfl (bo rfl rfl (quoN m 32 hmi (by omega) (by decide)) (ixOn sl.u32s rfl rfl (by omega) (ldEL ce.u32 0 (by decide) rfl rfl (by omega) rfl (mvD rfl (bo rfl rfl (remN m 32 hmi (by decide)) (cv it.int it.uint rfl (wrap_u64 (by omega)) ?_))))))
   refine shlV rfl rfl ⟨Int.natCast_nonneg _,by rw [Int.toNat_natCast];have:m % 32<32:=Nat.mod_lt _ (by decide);exact Nat.le_of_lt this⟩ (c:=((2 ^ (m % 32):Nat):Int)) (by rw [Int.toNat_natCast,Int.one_mul,← Int.natCast_pow_two,wrap_u32 ⟨Int.natCast_nonneg _,pow_lim m⟩]) ?_
   refine bo rfl rfl (or_u32 (hq.getD _) (pow_lim2 m)) (ixOn sl.u32s rfl rfl (by omega) (stE sz.u32 rfl (VC.d _).vd rfl rfl (by simp;omega) (es2:=(q.set (m / 32) (q.getD (m / 32) 0 ||| 2 ^ (m % 32))).map d32) (by rw [List.map_set]) (OL.nil (AW.rg hE rfl (mvD rfl (sub_i64 rfl rfl (by omega) (asD rfl ?_)))))))
   refine OL.nil ?_
   exact AW.again (x:=(m+1,q,r,Q)) (m,q.set (m / 32) (q.getD (m / 32) 0 ||| 2 ^ (m % 32)),r+r+a / 2 ^ m % 2-b,2*Q+1) (by (simp only [];omega)) ⟨⟨by simp [h1],hsb.2,hsb.1,(hds.2 h40).1,(hds.2 h40).2,by omega⟩,Knows.app .rq4 (.cons vR (.cons vR (.cons (VLe.int (by omega)) .nil))),.cons rfl .nil⟩
  ·have h40:r+r+a / 2 ^ m % 2<b:=by have:=df9 h40;rcases Nat.lt_or_ge (r+r+a / 2 ^ m % 2) b with h|h;exact h;exact absurd (cmp_ge h) this
   refine AW.skip (AW.rg hE rfl (mvD rfl (sub_i64 rfl rfl (by omega) (asD rfl (OL.nil ?_)))))
   exact AW.again (x:=(m+1,q,r,Q)) (m,q,r+r+a / 2 ^ m % 2,2*Q) (by (simp only [];omega)) ⟨⟨h1,hq,by rw [h2,Nat.pow_succ,Nat.mul_comm 2 Q,Nat.mul_assoc,Nat.mul_comm 2],hds.1 h40,h40,by omega⟩,Knows.app .rq4 (.cons vR (.cons vR (.cons (VLe.int (by omega)) .nil))),.cons rfl .nil⟩
 ·have h:=df9 h
  refine AW.exit (AW.seq ?_)
  obtain rfl:n=0:=by omega
  obtain ⟨e1,e2⟩:=div_fin h3 h4
  subst e1
  subst e2
  have hv:val q=a / b:=by rw [h2,Nat.pow_zero,Nat.mul_one]
  refine AW.freeze 11 rfl (AW.to [(6,.d (u32s q)),(7,.d (u32s (lim (a % b))))] [] (.cons (frz_osl (by simp [h1]) rfl) .rq1) .nil ?_)
  refine AW.rg hE rfl (mvD rfl (cl (ref_trim hq (by omega)) rfl vL ?_))
  rw [hv]
  exact mvD rfl (asD rfl (asD rfl (OL.nil (AW.ret (RetQ.r ⟨_,.tmp rfl (.tmp rfl .nil),_,.cons (.le vR) (.cons (.le vR) .nil),rfl⟩)))))
theorem ref_divisor {a b:Nat}(na:(lim a).length≤1099511627776)(nb:(lim b).length≤1099511627776):FSpec P F.ref01_divisor [.d (u32s (lim a)),.d (u32s (lim b))] (.d (u32s (lim (Nat.gcd a b)))):=by
 refine FSpec.intro fn.ref01_divisor (by rfl) (by rfl) (nb9 (by rfl)) fun E hE=>(AW.sg hE rfl (asM rfl (OL.nil (AW.seq (AW.block ?_)))))
 refine AW.whileK (α:=Nat × Nat) [(4,_)] [] (fun (x,y)=>[(0,.d (u32s (lim x))),(1,.d (u32s (lim y)))]) (fun (x,y)=>[]) (fun (x,y)=>Nat.gcd x y=Nat.gcd a b∧(lim x).length≤1099511627776∧(lim y).length≤1099511627776) (fun (x,y)=>y) (a,b) (.cons (knM rfl) .nil) .nil ⟨⟨rfl,na,nb⟩,.rq2,.nil⟩ ?_
 rintro ⟨x,y⟩ ⟨h1,h2,h3⟩
 refine AW.seq (AW.sg hE rfl (mvD rfl (lnL sl.u32s rfl rfl (c_gtr rfl rfl rfl (OL.nil (AW.cond rfl (fun h=>?_) (fun h=>?_)))))))
 ·have hy:y≠0:=fun e=>by have:=dt9 h;rw [e,lim_zero] at this;exact absurd this (by decide)
  have hml:(lim (x % y)).length≤1099511627776:=Nat.le_trans (len_le (Nat.mod_le x y)) h2
  refine AW.skip (AW.block (AW.sg hE rfl (mvD rfl (mvD rfl (clv rfl .rq2 (ref_divide (by assumption) (by assumption) (by assumption)) (mvT rfl (ex rfl rfl ?_)))))))
  refine ex rfl rfl (asD rfl (asD rfl (OL.nil (AW.rg hE rfl (mvD rfl (mvD rfl (asD rfl ?_)))))))
  exact asD rfl (OL.nil (AW.again (x:=(x,y)) (y,x % y) (by exact Nat.mod_lt _ (Nat.pos_of_ne_zero hy)) ⟨⟨by rw [← h1,Nat.gcd_comm y,← Nat.gcd_rec,Nat.gcd_comm],h3,hml⟩,Knows.app .rq1 .rq2,.nil⟩))
 ·have hy:y=0:=by have:=df9 h;exact lim_length_zero.1 (by omega)
  exact AW.exit (AW.sg hE rfl (mvD rfl (asD rfl (OL.nil (AW.ret (RetQ.r ⟨_,.tmp rfl .nil,.le (vle_of_eq (by rw [← h1,hy,Nat.gcd_zero_right];rfl))⟩))))))
theorem ref_oneL {L:List Nat}(hL:Lim L):FSpec P F.ref01_one [.d (u32s L)] (.d (dB (decide (L=[1])))):=by
 refine FSpec.intro fn.ref01_one (by rfl) (by rfl) (nb9 (by rfl)) fun E hE=>(AW.sg hE rfl (asD rfl (OL.nil (AW.sg hE rfl (mvD rfl (lnL sl.u32s rfl rfl (c_eql rfl rfl rfl ?_)))))))
 refine mvD rfl (OL.split 6 rfl (fun g6=>?_) (fun g6=>?_))
 ·try simp only [dx9] at g6
  refine OL.yes rfl (mvD rfl (OL.yes rfl (ixLe 0 sl.u32s 0 rfl rfl rfl (by omega) rfl rfl (OL.yes rfl (ldRC ce.u32 rfl (OL.yes rfl (c_eql rfl rfl rfl ?_)))))))
  exact pkT rfl rfl (asD rfl (OL.nil (AW.ret (RetQ.r ⟨_,.tmp rfl .nil,.le (VLe.bool (by have e:=one_val hL;exact decide_eq_decide.2 ⟨fun h=>e.2 ⟨by omega,by omega⟩,fun h=>by have:=(e.1 h).2;omega⟩))⟩))))
 ·try simp only [dx9] at g6
  exact OL.nd rfl (OL.nd rfl (OL.nd rfl (OL.nd rfl (pkF rfl rfl (asD rfl (OL.nil (AW.ret (RetQ.r ⟨_,.tmp rfl .nil,.le (VLe.bool (by have e:=one_val hL;exact (decide_eq_false fun h=>by have:=(e.1 h).1;omega).symm))⟩))))))))
theorem ref_one {n:Nat}:FSpec P F.ref01_one [.d (u32s (lim n))] (.d (dB (decide (n=1)))):=by
 have h:=ref_oneL (lim_Lim n)
 rw [show decide (lim n=[1])=decide (n=1) from decide_eq_decide.2 lim_eq_one] at h;exact h
end Go.Proofs.YteiohkpjgcioaaaGreatDoor
