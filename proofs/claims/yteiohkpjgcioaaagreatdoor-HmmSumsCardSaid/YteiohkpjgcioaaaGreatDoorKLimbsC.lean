/-
  Walks of package rational, part 3: number of bits, shifts, division, greatest common divisor (printed by mk.py).
-/
import Derived.Test.YteiohkpjgcioaaaGreatDoorKLimbsB
import Derived.Test.YteiohkpjgcioaaaGreatDoorKNuma
set_option linter.unusedVariables false
set_option linter.unusedSimpArgs false
namespace Go.Proofs.YteiohkpjgcioaaaGreatDoor
open Go Go.AL
theorem limbs_length {n:Nat}(nA:(lim n).length≤8796093022208):FSpec P F.rational_limbs_length [.d (u32s (lim n))] (.d (dI (blen n))):=by
 refine FSpec.intro fn.rational_limbs_length (by rfl) (by rfl) (nb9 (by rfl)) fun E hE=>(AW.sg hE rfl (asD rfl (OL.nil (AW.seq (AW.sg hE rfl (mvD rfl (lnL sl.limbs rfl rfl ?_)))))))
 refine c_eql rfl rfl rfl (OL.nil (AW.cond rfl (fun h=>?_) (fun h=>?_)))
 ·have h:=dt9 h
  have h0:n=0:=lim_length_zero.1 (by omega)
  exact AW.sg hE rfl (asD rfl (OL.nil (AW.ret (RetQ.r ⟨_,.tmp rfl .nil,.le (VLe.int (by rw [h0];rfl))⟩))))
 ·have h:=df9 h
  have h0:n≠0:=fun e=>by rw [e,lim_zero] at h;exact h rfl
  have hb:=blen_lim h0
  have e1:(((lim n).length:Int)-1).toNat=(lim n).length-1:=by omega
  have ht:=(lim_Lim n).getD ((lim n).length-1)
  refine AW.skip (AW.seq ?_)
  have hbl:=blen_mono (x:=(lim n).getD ((lim n).length-1) 0) (k:=32) ht
  refine AW.rg hE rfl (mvD rfl (lnL sl.limbs rfl rfl (mul_i64 rfl rfl (by omega) (mvD rfl (mvD rfl (lnL sl.limbs rfl rfl (sub_i64 rfl rfl (by omega) ?_)))))))
  refine ixL sl.limbs 0 rfl rfl (by omega) (by omega) rfl rfl ?_
  rw [e1]
  exact ldRC ce.u32 rfl (cl (bits_lead ht) rfl vL (sub_i64 rfl rfl (by omega) (asD rfl (OL.nil (AW.ret (RetQ.r ⟨_,.tmp rfl .nil,.le (VLe.int (by omega))⟩))))))
theorem limbs_left {A:List Nat}{k:Nat}(hA:Lim A)(nA:A.length≤4398046511104)(nk:k≤70368744177664):FSpec P F.rational_limbs_left [.d (u32s A),.d (dI k)] (.d (u32s (lim (val A*2 ^ k)))):=by
 refine FSpec.intro fn.rational_limbs_left (by rfl) (by rfl) (nb9 (by rfl)) fun E hE=>(AW.sg hE rfl (asM rfl (OL.nil (AW.sg hE rfl (mvD rfl (bo rfl rfl (c:=.int .i64 ((k / 32:Nat):Int)) (quo32 (by omega)) (mvD rfl ?_)))))))
 refine bo rfl rfl (c:=.int .i64 ((k / 32:Nat):Int)) (quo32 (by omega)) (mvD rfl (lnL sl.limbs rfl rfl (add_i64 rfl rfl (by omega) (bo rfl rfl (bin_add (c:=((k / 32+A.length+1:Nat):Int)) (by omega) (wrap_i64 (by omega))) (mkL d32 0 sl.limbs z.u32 (.cons (VC.d _) .nil) rfl rfl (by omega) (by omega) (by omega) rfl fun b0=>(asO rfl (OL.nil ?_)))))))
 refine AW.sg hE rfl (asD rfl (OL.nil (AW.seq (AW.sg hE rfl (mvD rfl (lnL sl.limbs rfl rfl (mvD rfl ?_)))))))
 refine OL.nil (AW.rename 17 35 rfl (AW.block ?_))
 refine AW.while (α:=Nat × List Nat × Nat × Nat × Nat) (fun (i,out,r,b,c)=>[(1,.d (dI k)),(5,.osl 35 b out.length c),(6,.d (dU r)),(18,.d (u32s A)),(19,.d (dI A.length)),(20,.d (dI i))]) (fun (i,out,r,b,c)=>[(35,.row b c T.u32 1 (out.map d32))]) (fun (i,out,r,b,c)=>out.length=k / 32+i∧Lim out∧val out+r*Bp (k / 32+i)=val (A.take i)*2 ^ (k % 32)*Bp (k / 32)∧r<2 ^ (k % 32)∧i≤A.length) (fun (i,out,r,b,c)=>A.length-i) (0,List.replicate (k / 32) 0,0,b0,k / 32+A.length+1) ⟨⟨by simp,Lim.zeros _,by simp [val_zeros,val_nil],Nat.pow_pos (by decide),by omega⟩,.cons vR (.cons (by rw [List.length_replicate];exact VLe.osl) .rq4),.cons rfl .nil⟩ ?_
 rintro ⟨i,out,r,b,c⟩ ⟨h1,hO,h2,h3,h4⟩
 refine AW.sg hE rfl (c_lss rfl rfl rfl (OL.nil (AW.seq (AW.cond rfl (fun h=>?_) (fun h=>?_)))))
 ·have h:=dt9 h
  refine AW.skip (AW.seq (AW.block (AW.seq ?_)))
  have hx:=hA.getD i
  have hp:2 ^ (k % 32)≤2147483648:=Nat.pow_le_pow_right (n:=2) (by decide) (show k % 32≤31 by omega)
  have hy:A.getD i 0*2 ^ (k % 32)+r<4294967296*2 ^ (k % 32):=by
   have:=Nat.mul_le_mul_right (2 ^ (k % 32)) (show A.getD i 0+1≤4294967296 from hx)
   rw [Nat.add_mul] at this
   omega
  refine AW.rg hE rfl (ixL sl.limbs 0 rfl rfl (by omega) (by omega) rfl rfl ?_)
  rw [Int.toNat_natCast]
  refine ldRC ce.u32 rfl (asD rfl (OL.nil (AW.sg hE rfl (mvD rfl (mvD rfl (cv it.u32 it.u64 rfl (wrap_u64 (by omega)) (mvD rfl ?_)))))))
  refine bo rfl rfl (c:=.int .i64 ((k % 32:Nat):Int)) rem32 (shlV rfl rfl ⟨by omega,by show (((k % 32:Nat):Int)).toNat≤64;omega⟩ (c:=((A.getD i 0*2 ^ (k % 32):Nat):Int)) (by rw [Int.toNat_natCast,mul_pow_cast];exact wrap_u64 ⟨Int.natCast_nonneg _,by omega⟩) (orB (k % 32) (A.getD i 0) rfl rfl rfl h3 (by omega) (asD rfl (OL.nil (AW.sg hE rfl (mvO rfl (mvD rfl ?_)))))))
  refine cv it.u64 it.u32 rfl (c:=(((A.getD i 0*2 ^ (k % 32)+r) % 4294967296:Nat):Int)) (by rw [wrap_u32_mod];omega) (lt1 sl.limbs (VC.d _).vd rfl (by decide) ?_)
  refine apO sl.limbs rfl rfl rfl (by simp) (VC.d _) (by simp [D.cells]) (by simp;omega) (by simp;omega) (.inr rfl) (ys:=(out++[(A.getD i 0*2 ^ (k % 32)+r) % 4294967296]).map d32) (by simp) (n2:=(out++[(A.getD i 0*2 ^ (k % 32)+r) % 4294967296]).length) (by simp) fun b2 c2=>?_
  refine asO rfl (OL.nil (AW.rg hE rfl (mvD rfl (shr32 rfl rfl rfl (asD rfl (OL.nil (AW.rg hE rfl ?_)))))))
  refine add_i64 rfl rfl (by omega) (mvD rfl (OL.nil ?_))
  exact AW.again (x:=(i,out,r,b,c)) (i+1,out++[(A.getD i 0*2 ^ (k % 32)+r) % 4294967296],(A.getD i 0*2 ^ (k % 32)+r) / 4294967296,b2,c2) (by (simp only [];omega)) ⟨⟨by simp [h1];omega,hO.append (.cons (Nat.mod_lt _ (by decide)) .nil),by rw [val_snoc,h1,take_succ_val hA];exact left_step h2,Nat.div_lt_of_lt_mul hy,by omega⟩,.cons vR (.cons vR (.cons (VLe.int (by omega)) .rq3)),.cons rfl .nil⟩
 ·have h:=df9 h
  refine AW.exit (AW.seq ?_)
  have hp:2 ^ (k % 32)≤2147483648:=Nat.pow_le_pow_right (n:=2) (by decide) (show k % 32≤31 by omega)
  have hv:val (out++[r])=val A*2 ^ k:=by
   rw [val_snoc,h1]
   have:=h2
   rw [show i=A.length by omega,List.take_length] at this
   rw [show i=A.length by omega]
   exact left_end (by omega) this
  have hO2:Lim (out++[r]):=hO.append (.cons (by omega) .nil)
  refine AW.rg hE rfl (mvO rfl (mvD rfl (cv it.u64 it.u32 rfl (c:=(r:Int)) (wrap_u32 (by omega)) (lt1 sl.limbs (VC.d _).vd rfl (by decide) (apOD sl.limbs rfl rfl rfl (by simp) (VC.d _) (by simp [D.cells]) (by simp;omega) (by simp;omega) (.inl rfl) (ys:=(out++[r]).map d32) (by simp) (cl (limbs_clean hO2 (by simp;omega)) rfl vL (asD rfl ?_)))))))
  exact OL.nil (AW.ret (RetQ.r ⟨_,.tmp rfl .nil,.le (vle_of_eq (by rw [← hv];rfl))⟩))
theorem limbs_right {A:List Nat}{k:Nat}(hA:Lim A)(nA:A.length≤4398046511104)(nk:k≤70368744177664):FSpec P F.rational_limbs_right [.d (u32s A),.d (dI k)] (.d (u32s (lim (val A / 2 ^ k)))):=by
 refine FSpec.intro fn.rational_limbs_right (by rfl) (by rfl) (nb9 (by rfl)) fun E hE=>(AW.sg hE rfl (asM rfl (OL.nil (AW.sg hE rfl (asM rfl (OL.nil (AW.seq ?_)))))))
 refine AW.sg hE rfl (mvD rfl (bo rfl rfl (c:=.int .i64 ((k / 32:Nat):Int)) (quo32 (by omega)) (asD rfl (OL.nil (AW.own 5 30 T.u32 1 rfl rfl (AW.block ?_))))))
 refine AW.while (α:=List Nat × Nat × Nat) (fun (out,b,c)=>[(0,.d (u32s A)),(1,.d (dI k)),(5,.osl 30 b out.length c),(6,.d (dI ((k / 32+out.length:Nat):Int)))]) (fun (out,b,c)=>[(30,.row b c T.u32 1 (out.map d32))]) (fun (out,b,c)=>Lim out∧val out=val A / 2 ^ k % Bp out.length∧(out.length=0 ∨ k / 32+out.length≤A.length)) (fun (out,b,c)=>A.length-(k / 32+out.length)) ([],0,0) ⟨⟨Lim.nil,by simp [val_nil,Bp_zero,Nat.mod_one],.inl rfl⟩,.rq4,.cons rfl .nil⟩ ?_
 rintro ⟨out,b,c⟩ ⟨hO,h1,h2⟩
 refine AW.seq (AW.sg hE rfl (mvD rfl (mvD rfl (lnL sl.limbs rfl rfl (c_lss rfl rfl rfl (OL.nil (AW.cond rfl (fun h=>?_) (fun h=>?_))))))))
 ·have h:=dt9 h
  refine AW.skip (AW.seq (AW.block ?_))
  have hx:=hA.getD (k / 32+out.length+1)
  have hy:=hA.getD (k / 32+out.length)
  have hq:(A.getD (k / 32+out.length+1) 0*4294967296+A.getD (k / 32+out.length) 0) / 2 ^ (k % 32)≤(A.getD (k / 32+out.length+1) 0*4294967296+A.getD (k / 32+out.length) 0):=Nat.div_le_self ..
  refine AW.rg hE rfl (mvO rfl (mvD rfl (mvD rfl (bo rfl rfl (bin_add (c:=((k / 32+out.length+1:Nat):Int)) (by omega) (wrap_i64 (by omega))) (cl (limbs_atn hA) rfl vL (shl32 rfl rfl rfl (by omega) (mvD rfl ?_)))))))
  refine mvD rfl (cl (limbs_atn hA) rfl vL (orA (a:=A.getD (k / 32+out.length+1) 0*4294967296) (b:=A.getD (k / 32+out.length) 0) 32 (A.getD (k / 32+out.length+1) 0) rfl rfl rfl (by omega) (by omega) (mvD rfl (bo rfl rfl (c:=.int .i64 ((k % 32:Nat):Int)) rem32 (shrV rfl rfl ⟨by omega,by show (((k % 32:Nat):Int)).toNat≤64;omega⟩ (c:=(((A.getD (k / 32+out.length+1) 0*4294967296+A.getD (k / 32+out.length) 0) / 2 ^ (k % 32):Nat):Int)) (by rw [Int.toNat_natCast,div_pow_cast]) ?_)))))
  refine cv it.u64 it.u32 rfl (c:=(((A.getD (k / 32+out.length+1) 0*4294967296+A.getD (k / 32+out.length) 0) / 2 ^ (k % 32) % 4294967296:Nat):Int)) (by rw [wrap_u32_mod];omega) (lt1 sl.limbs (VC.d _).vd rfl (by decide) ?_)
  refine apO sl.limbs rfl rfl rfl (by simp) (VC.d _) (by simp [D.cells]) (by simp;omega) (by simp;omega) (.inr rfl) (ys:=(out++[(A.getD (k / 32+out.length+1) 0*4294967296+A.getD (k / 32+out.length) 0) / 2 ^ (k % 32) % 4294967296]).map d32) (by simp) (n2:=(out++[(A.getD (k / 32+out.length+1) 0*4294967296+A.getD (k / 32+out.length) 0) / 2 ^ (k % 32) % 4294967296]).length) (by simp) fun b2 c2=>?_
  refine asO rfl (OL.nil (AW.rg hE rfl (mvD rfl (add_i64 rfl rfl (by omega) (asD rfl (OL.nil ?_))))))
  exact AW.again (x:=(out,b,c)) (out++[(A.getD (k / 32+out.length+1) 0*4294967296+A.getD (k / 32+out.length) 0) / 2 ^ (k % 32) % 4294967296],b2,c2) (by simp only [la9,ls9];omega) ⟨⟨hO.append (.cons (Nat.mod_lt _ (by decide)) .nil),by rw [right_step hA (by omega) (by omega) h1];simp,.inr (by simp;omega)⟩,.cons vR (.cons vR (.cons vR (.cons (VLe.int (by simp;omega)) .nil))),.cons rfl .nil⟩
 ·have h:=df9 h
  refine AW.exit (AW.seq ?_)
  have hv:val out=val A / 2 ^ k:=right_end hA (Q:=k / 32) (s:=k % 32) (by omega) h1 (by omega)
  refine AW.freeze 30 rfl (AW.to [(5,.d (u32s out))] [] (.cons (frz_osl (by simp) rfl) .nil) .nil ?_)
  exact AW.rg hE rfl (mvD rfl (cl (limbs_clean hO (by omega)) rfl vL (asD rfl (OL.nil (AW.ret (RetQ.r ⟨_,.tmp rfl .nil,.le (vle_of_eq (by rw [← hv];rfl))⟩))))))
theorem guess_lt {a v:Nat}:min (a / v) 4294967295<4294967296:=by omega
theorem limbs_over {A:List Nat}{n:Nat}(hA:Lim A)(nA:A.length≤1099511627776)(nn:(lim n).length≤1099511627776)(h0:n≠0):FSpec P F.rational_limbs_over [.d (u32s A),.d (u32s (lim n))] (.tup [.d (u32s (lim (val A / n))),.d (u32s (lim (val A % n)))]):=by
 have hl0:(lim n).length≠0:=fun e=>h0 (lim_length_zero.1 e)
 have hbl:=blen_le_lim n
 have hpS:=Nat.pow_pos (n:=32*(lim n).length-blen n) (a:=2) (by decide)
 have hv0:n*2 ^ (32*(lim n).length-blen n)≠0:=Nat.ne_of_gt (Nat.mul_pos (by omega) hpS)
 generalize hS:32*(lim n).length-blen n=S at *
 generalize hU:val A*2 ^ S=U
 generalize hV:n*2 ^ S=v at *
 have nU:(lim U).length≤2199023255552:=by
  rw [← hU]
  have h1:=len_shl (a:=val A) (S:=S) (m:=(lim n).length) (by omega)
  have h2:=len_val hA
  omega
 have nV:(lim v).length≤2199023255552:=by
  rw [← hV]
  have h1:=len_shl (a:=n) (S:=S) (m:=(lim n).length) (by omega)
  omega
 have hlv:(lim v).length≠0:=fun e=>hv0 (lim_length_zero.1 e)
 refine FSpec.intro fn.rational_limbs_over (by rfl) (by rfl) (nb9 (by rfl)) fun E hE=>(AW.sg hE rfl (asM rfl (asM rfl (OL.nil (AW.seq (AW.sg hE rfl (mvD rfl ?_)))))))
 refine lnL sl.limbs rfl rfl (c_eql rfl rfl rfl (OL.nil (AW.cond rfl (fun h=>?_) (fun h=>?_))))
 ·have h:=dt9 h
  have hone:lim n=[n]:=lim_one (by omega)
  have hn32:n<4294967296:=by have:=lt_lim n;rw [hone] at this;exact this
  rw [hone]
  refine AW.sg hE rfl (mvD rfl (mvD rfl (ixL (l:=[n]) sl.limbs 0 rfl rfl (by decide) (Int.zero_lt_one) rfl rfl (ldRC ce.u32 rfl (cl (limbs_small hA (by omega) (by omega) hn32) rfl vL (mvT rfl (ex rfl rfl ?_)))))))
  refine ex rfl rfl (asD rfl (asD rfl (OL.nil (AW.sg hE rfl (mvD rfl (mvD rfl (lt1 sl.limbs (VC.d _).vd rfl (by decide) ?_)))))))
  exact cl (limbs_clean (L:=[val A % n]) (.cons (Nat.lt_trans (Nat.mod_lt _ (by omega)) hn32) .nil) (by simp)) rfl vL (asD rfl (asD rfl (OL.nil (AW.ret (RetQ.r ⟨_,.tmp rfl (.tmp rfl .nil),_,.cons (.le vR) (.cons (.le (vle_of_eq (y:=.d (u32s (lim (val A % n)))) (by rw [← val_one (val A % n)];rfl))) .nil),rfl⟩)))))
 ·have h:=df9 h
  refine AW.skip (AW.sg hE rfl (mvD rfl (lnL sl.limbs rfl rfl (bo rfl rfl (bin_mul (c:=((32*(lim n).length:Nat):Int)) (by omega) (wrap_i64 (by omega))) (mvD rfl (cl (limbs_length (by omega)) rfl vL (bo rfl rfl (bin_sub (c:=(S:Int)) (by omega) (wrap_i64 (by omega))) ?_)))))))
  refine asD rfl (OL.nil (AW.sg hE rfl (mvD rfl (mvD rfl (cl (limbs_left hA (by omega) (by omega)) rfl vL (mvD rfl (mvD rfl ?_)))))))
  refine cl (limbs_left (lim_Lim n) (by omega) (by omega)) rfl vL ?_
  rw [val_lim,hU,hV]
  refine asD rfl (asD rfl (OL.nil (AW.sg hE rfl (mvD rfl (lnL sl.limbs rfl rfl (mvD rfl (lnL sl.limbs rfl rfl ?_)))))))
  refine sub_i64 rfl rfl (by omega) (add_i64 rfl rfl (by omega) (mx rfl rfl (c:=(((lim U).length+1-(lim v).length:Nat):Int)) (by omega) (mkL d32 0 sl.limbs z.u32 (.cons (VC.d _) .nil) rfl rfl (Nat.le_refl _) (by omega) (by omega) rfl fun b=>(asO rfl (OL.nil ?_)))))
  generalize hm:(lim U).length+1-(lim v).length=m
  refine AW.seq (AW.sg hE rfl (mvO rfl (lnO sl.limbs rfl rfl (sub_i64 rfl rfl (by omega) (asD rfl (OL.nil (AW.block ?_)))))))
  refine AW.while (α:=Nat × List Nat × Nat) (fun (k,q,u)=>[(4,.osl 49 b m m),(8,.d (dI S)),(9,.d (u32s (lim u))),(10,.d (u32s (lim v))),(11,.d (dI ((k:Int)-1)))]) (fun (k,q,u)=>[(49,.row b m T.u32 1 (q.map d32))]) (fun (k,q,u)=>q.length=m∧Lim q∧U=val (q.drop k)*v*Bp k+u∧u<v*Bp k∧k≤m) (fun (k,q,u)=>k) (m,List.replicate m 0,U) ⟨⟨by simp,Lim.zeros _,by rw [List.drop_eq_nil_of_le (by simp),val_nil];omega,over_start hv0 (by omega),Nat.le_refl _⟩,.rq5,.cons rfl .nil⟩ ?_
  rintro ⟨k,q,u⟩ ⟨h1,hq,h2,h3,h4⟩
  refine AW.seq (AW.sg hE rfl (mvD rfl (c_geq rfl rfl rfl (OL.nil (AW.cond rfl (fun h=>?_) (fun h=>?_))))))
  ·have h:=dt9 h
   have hpk:0<v*Bp (k-1):=Nat.mul_pos (by omega) (Bp_pos _)
   have hst:=over_step (U:=U) (u:=u) (v:=v) (k:=k-1) (Q:=val (q.drop k)) hv0 (by rw [show k-1+1=k by omega];exact h2)
   have hgs:=guess_ge (u:=u) (v:=v) (k:=k-1) hv0 (by rw [show k-1+1=k by omega];exact h3)
   have nu:(lim u).length≤4398046511104:=by have:=len_lt h3;omega
   refine AW.skip (AW.seq (AW.block (AW.sg hE rfl (mvD rfl (mvD rfl (lnL sl.limbs rfl rfl (bo rfl rfl (bin_add (c:=((k-1+(lim v).length:Nat):Int)) (by omega) (wrap_i64 (by omega))) ?_)))))))
   refine asD rfl (OL.nil (AW.seq ?_))
   have hx:=(lim_Lim u).getD (k-1+(lim v).length)
   have hy:=(lim_Lim u).getD (k-1+(lim v).length-1)
   have hz:=(lim_Lim v).getD ((lim v).length-1)
   have hzp:=top_pos hv0
   refine AW.rg hE rfl (mvD rfl (mvD rfl (cl (limbs_atn (lim_Lim u)) rfl vL (shl32 rfl rfl rfl (by omega) (mvD rfl (mvD rfl (bo rfl rfl (bin_sub (c:=((k-1+(lim v).length-1:Nat):Int)) (by omega) (wrap_i64 (by omega))) ?_)))))))
   refine cl (limbs_atn (lim_Lim u)) rfl vL (orA (a:=(lim u).getD (k-1+(lim v).length) 0*4294967296) (b:=(lim u).getD (k-1+(lim v).length-1) 0) 32 ((lim u).getD (k-1+(lim v).length) 0) rfl rfl rfl (by omega) (by omega) (mvD rfl (mvD rfl (lnL sl.limbs rfl rfl (bo rfl rfl (bin_sub (c:=(((lim v).length-1:Nat):Int)) (by omega) (wrap_i64 (by omega))) (cl (limbs_atn (lim_Lim v)) rfl vL (bo rfl rfl (quo_nat (by omega) hzp) ?_)))))))
   refine mn rfl rfl (min_lim _) (asD rfl (OL.nil ?_))
   have hgl:=guess_lt (a:=(lim u).getD (k-1+(lim v).length) 0*4294967296+(lim u).getD (k-1+(lim v).length-1) 0) (v:=(lim v).getD ((lim v).length-1) 0)
   generalize hg0:min (((lim u).getD (k-1+(lim v).length) 0*4294967296+(lim u).getD (k-1+(lim v).length-1) 0) / (lim v).getD ((lim v).length-1) 0) 4294967295=g0 at *
   refine AW.seq ?_
   have nvg:∀ g,g<4294967296→(lim (v*g)).length≤4398046511104:=fun g hg=>by have:=len_mul_small (v:=v) hg;omega
   refine AW.rg hE rfl (mvD rfl (mvD rfl (cv it.u64 it.u32 rfl (c:=(g0:Int)) (wrap_u32 (by omega)) (lt1 sl.limbs (VC.d _).vd rfl (by decide) (cl (limbs_clean (L:=[g0]) (.cons hgl .nil) (by simp)) rfl vL (cl (limbs_times (lim_Lim v) (lim_Lim _) (by omega) (len_one hgl)) rfl vL ?_))))))
   rw [val_lim,val_lim,val_one]
   refine mvD rfl (bo rfl rfl (bin_mul (c:=((32*(k-1):Nat):Int)) (by omega) (wrap_i64 (by omega))) (cl (limbs_left (lim_Lim _) (nvg g0 hgl) (by omega)) rfl vL ?_))
   rw [val_lim,← Bp_two]
   refine asD rfl (OL.nil (AW.seq (AW.block ?_)))
   refine AW.while (α:=Nat) (fun g=>[(4,.osl 49 b m m),(8,.d (dI S)),(9,.d (u32s (lim u))),(10,.d (u32s (lim v))),(11,.d (dI ((k:Int)-1))),(13,.d (dU g)),(14,.d (u32s (lim (v*g*Bp (k-1)))))]) (fun g=>[(49,.row b m T.u32 1 (q.map d32))]) (fun g=>g<4294967296∧u / (v*Bp (k-1))≤g) (fun g=>g) g0 ⟨⟨hgl,hgs⟩,.rq7,.cons rfl .nil⟩ ?_
   rintro g ⟨hg2,hg3⟩
   have nP:(lim (v*g*Bp (k-1))).length≤8796093022208:=by
    have h1:=len_mul_Bp (v*g) (k-1)
    have h2:=nvg g hg2
    omega
   have eP:v*g*Bp (k-1)=g*(v*Bp (k-1)):=by simp only [Nat.mul_assoc,Nat.mul_left_comm,Nat.mul_comm]
   refine AW.seq (AW.sg hE rfl (mvD rfl (mvD rfl (cl (limbs_cmp (lim_Lim _) (lim_Lim _) (by omega) nP) rfl vL ?_))))
   rw [val_lim,val_lim]
   refine c_lss rfl rfl rfl (OL.nil (AW.cond rfl (fun hc=>?_) (fun hc=>?_)))
   ·have hlt:u<v*g*Bp (k-1):=cmp_neg (dt9 hc)
    have hg1:0<g:=Nat.pos_of_ne_zero fun e=>by rw [e] at hlt;simp at hlt
    have hvle:v*Bp (k-1)≤v*g*Bp (k-1):=by rw [eP];exact Nat.le_mul_of_pos_left _ hg1
    have hdec:=over_pred (v:=v) (k:=k-1) hg1
    refine AW.skip (AW.block (AW.sg hE rfl (mvD rfl (mvD rfl (mvD rfl (bo rfl rfl (bin_mul (c:=((32*(k-1):Nat):Int)) (by omega) (wrap_i64 (by omega))) (cl (limbs_left (lim_Lim _) (by omega) (by omega)) rfl vL ?_)))))))
    rw [val_lim,← Bp_two]
    refine cl (limbs_minus (lim_Lim _) (lim_Lim _) nP (by rw [val_lim,val_lim];exact hvle)) rfl vL ?_
    rw [val_lim,val_lim]
    exact asD rfl (OL.nil (AW.rg hE rfl (mvD rfl (sub_u64 rfl rfl (by omega) (asD rfl (OL.nil (AW.again (x:=g) (g-1) (by omega) ⟨⟨by omega,over_dec hlt⟩,.cons vR (.cons vR (.cons vR (.cons vR (.cons vR (.cons (VLe.int (by omega)) (.cons (vle_of_eq (by rw [hdec];rfl)) .nil)))))),.cons rfl .nil⟩)))))))
   ·have hge2:v*g*Bp (k-1)≤u:=cmp_nneg (df9 hc)
    have hge:g=u / (v*Bp (k-1)):=Nat.le_antisymm ((Nat.le_div_iff_mul_le hpk).2 (by rw [← eP];exact hge2)) hg3
    refine AW.exit (AW.sg hE rfl (mvD rfl (mvD rfl (cl (limbs_minus (lim_Lim _) (lim_Lim _) (by omega) (by rw [val_lim,val_lim];exact hge2)) rfl vL ?_))))
    rw [val_lim,val_lim,eP]
    refine asD rfl (OL.nil (AW.rg hE rfl (mvO rfl (mvD rfl (mvD rfl (cv it.u64 it.u32 rfl (c:=(g:Int)) (wrap_u32 (by omega)) (ixO sl.limbs rfl rfl (by omega) (by omega) (i:=k-1) (by omega) ?_)))))))
    refine stE sz.u32 rfl (VC.d _).vd rfl rfl (by simp;omega) (es2:=(q.set (k-1) g).map d32) (by rw [List.map_set]) (OL.nil (AW.rg hE rfl (mvD rfl (sub_i64 rfl rfl (by omega) (asD rfl (OL.nil ?_))))))
    exact AW.again (x:=(k,q,u)) (k-1,q.set (k-1) g,u-g*(v*Bp (k-1))) (by simp only [];omega) ⟨⟨by simp [h1],hq.set _ hg2,by rw [drop_set_pred (by omega) (by omega),hge];exact hst.1,by rw [hge];exact hst.2,by omega⟩,.cons vR (.cons vR (.cons vR (.cons vR (.cons (VLe.int (by omega)) .nil)))),.cons rfl .nil⟩
  ·have h:=df9 h
   refine AW.exit (AW.seq ?_)
   have hk0:k=0:=by omega
   subst hk0
   rw [List.drop_zero,Bp_zero,Nat.mul_one] at h2
   rw [Bp_zero,Nat.mul_one] at h3
   have he:=over_end (a:=val A) (b:=n) (s:=S) (U:=U) h0 (by rw [hU,hV];exact h2) (by rw [hV];exact h3)
   have nu:(lim u).length≤4398046511104:=by have:=len_le (Nat.le_of_lt h3);omega
   refine AW.freeze 49 rfl (AW.to [(4,.d (u32s q)),(8,.d (dI S)),(9,.d (u32s (lim u)))] [] (.cons (frz_osl (by simp [h1]) rfl) .rq2) .nil ?_)
   refine AW.rg hE rfl (mvD rfl (cl (limbs_clean hq (by omega)) rfl vL (mvD rfl (mvD rfl (cl (limbs_right (lim_Lim u) nu (by omega)) rfl vL ?_)))))
   rw [val_lim]
   exact asD rfl (asD rfl (OL.nil (AW.ret (RetQ.r ⟨_,.tmp rfl (.tmp rfl .nil),_,.cons (.le (vle_of_eq (y:=.d (u32s (lim (val A / n)))) (by rw [← he.1];rfl))) (.cons (.le (vle_of_eq (y:=.d (u32s (lim (val A % n)))) (by rw [← he.2];rfl))) .nil),rfl⟩))))
theorem limbs_gcd {a b:Nat}(na:(lim a).length≤1099511627776)(nb:(lim b).length≤1099511627776):FSpec P F.rational_limbs_gcd [.d (u32s (lim a)),.d (u32s (lim b))] (.d (u32s (lim (Nat.gcd a b)))):=by
 refine FSpec.intro fn.rational_limbs_gcd (by rfl) (by rfl) (nb9 (by rfl)) fun E hE=>(AW.sg hE rfl (asM rfl (OL.nil (AW.seq (AW.block ?_)))))
 refine AW.while (α:=Nat × Nat) (fun (x,y)=>[(0,.d (u32s (lim x))),(1,.d (u32s (lim y)))]) (fun (x,y)=>[]) (fun (x,y)=>(lim x).length≤1099511627776∧(lim y).length≤1099511627776∧Nat.gcd x y=Nat.gcd a b) (fun (x,y)=>y) (a,b) ⟨⟨na,nb,rfl⟩,.rq2,.nil⟩ ?_
 rintro ⟨x,y⟩ ⟨h1,h2,h3⟩
 refine AW.seq (AW.sg hE rfl (mvD rfl (lnL sl.limbs rfl rfl (c_gtr rfl rfl rfl (OL.nil (AW.cond rfl (fun h=>?_) (fun h=>?_)))))))
 ·have h:=dt9 h
  have h0:y≠0:=fun e=>by rw [e,lim_zero] at h;exact absurd h (by decide)
  refine AW.skip (AW.block (AW.sg hE rfl (mvD rfl (mvD rfl (cl (limbs_over (lim_Lim x) h1 h2 h0) rfl vL ?_)))))
  rw [val_lim]
  refine mvT rfl (ex rfl rfl (ex rfl rfl (asD rfl (asD rfl (OL.nil (AW.rg hE rfl (mvD rfl ?_)))))))
  refine mvD rfl (asD rfl (asD rfl (OL.nil ?_)))
  exact AW.again (x:=(x,y)) (y,x % y) (by exact Nat.mod_lt _ (Nat.pos_of_ne_zero h0)) ⟨⟨h2,Nat.le_trans (lim_length_le (Nat.lt_trans (Nat.mod_lt x (Nat.pos_of_ne_zero h0)) (lt_lim y))) h2,by rw [← h3,Nat.gcd_comm x y,Nat.gcd_rec y x,Nat.gcd_comm]⟩,.rq2,.nil⟩
 ·have h:=df9 h
  have h0:y=0:=lim_length_zero.1 (by omega)
  exact AW.exit (AW.sg hE rfl (mvD rfl (asD rfl (OL.nil (AW.ret (RetQ.r ⟨_,.tmp rfl .nil,.le (vle_of_eq (by rw [← h3,h0,Nat.gcd_zero_right];rfl))⟩))))))
end Go.Proofs.YteiohkpjgcioaaaGreatDoor
