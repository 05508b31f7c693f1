/-
  Walks of the reference's numbers, part 2: division (printed by mk2.py).
-/
import Derived.Test.YtocehciipjhlkaaGreatDoorKRefA
import Derived.Test.YtocehciipjhlkaaGreatDoorKAlgd
set_option linter.unusedVariables false
set_option linter.unusedSimpArgs false
namespace Go.Proofs.YtocehciipjhlkaaGreatDoor
open Go Go.AL
theorem ref_plusN {a b:Nat}(na:(lim a).length≤4398046511104)(nb:(lim b).length≤4398046511104):FSpec P F.ref01_plus [.d (u32s (lim a)),.d (u32s (lim b))] (.d (u32s (lim (a+b)))):=by
 have h:=ref_plus (lim_Lim a) (lim_Lim b) na nb
 rw [val_lim,val_lim] at h;exact h
theorem ref_minusN {a b:Nat}(na:(lim a).length≤8796093022208)(hle:b≤a):FSpec P F.ref01_minus [.d (u32s (lim a)),.d (u32s (lim b))] (.d (u32s (lim (a-b)))):=by
 have h:=ref_minus (lim_Lim a) (lim_Lim b) na (by rw [val_lim,val_lim];exact hle)
 rw [val_lim,val_lim] at h;exact h
theorem ref_timesN {a b:Nat}(na:(lim a).length≤4398046511104)(nb:(lim b).length≤4398046511104):FSpec P F.ref01_times [.d (u32s (lim a)),.d (u32s (lim b))] (.d (u32s (lim (a*b)))):=by
 have h:=ref_times (lim_Lim a) (lim_Lim b) na nb
 rw [val_lim,val_lim] at h;exact h
theorem Int.natCast_pow_two (m:Nat):((2 ^ m:Nat):Int)=2 ^ m:=by rw [Int.natCast_pow];rfl
theorem pow_lim2 (m:Nat):2 ^ (m % 32)<4294967296:=Nat.pow_lt_pow_right (m:=m % 32) (n:=32) (by decide) (Nat.mod_lt _ (by decide))
theorem pow_lim (m:Nat):((2 ^ (m % 32):Nat):Int)≤4294967295:=by have:=pow_lim2 m;omega
theorem ref_divide {a b:Nat}(hb:b≠0)(na:(lim a).length≤1099511627776)(nb:(lim b).length≤1099511627776):FSpec P F.ref01_divide [.d (u32s (lim a)),.d (u32s (lim b))] (.tup [.d (u32s (lim (a / b))),.d (u32s (lim (a % b)))]):=by
 refine FSpec.intro fn.ref01_divide (by rfl) (by rfl) (nb9 (by rfl)) fun E hE=>(AW.sg hE rfl (asM rfl (asM rfl (OL.nil (AW.sg hE rfl (mvD rfl (lnL sl.u32s rfl rfl ?_)))))))
 refine mkL d32 0 sl.u32s z.u32 (.cons (VC.d _) .nil) rfl rfl (Nat.le_refl _) (by omega) (by omega) rfl fun b11=>(asO rfl (OL.nil (AW.sg hE rfl (asM rfl (OL.nil (AW.seq (AW.sg hE rfl ?_)))))))
 refine mvD rfl (lnL sl.u32s rfl rfl (mul_i64 rfl rfl (by omega) (sub_i64 rfl rfl (by omega) (asD rfl (OL.nil (AW.block ?_))))))
 refine AW.whileK (α:=Nat × List Nat × Nat × Nat) [(0,_),(1,_),(4,_),(5,_)] [] (fun (n,q,r,Q)=>[(6,.osl 11 b11 (lim a).length (lim a).length),(7,.d (u32s (lim r))),(8,.d (dI ((n:Int)-1)))]) (fun (n,q,r,Q)=>[(11,.row b11 (lim a).length T.u32 1 (q.map d32))]) (fun (n,q,r,Q)=>q.length=(lim a).length∧Lim q∧val q=Q*2 ^ n∧a / 2 ^ n=Q*b+r∧r<b∧n≤32*(lim a).length) (fun (n,q,r,Q)=>n) (32*(lim a).length,List.replicate (lim a).length 0,0,0) (.cons (knD rfl) (.cons (knD rfl) (.cons (knM rfl) (.cons (knM rfl) .nil)))) .nil ⟨⟨by simp,Lim.zeros _,by rw [val_zeros,Nat.zero_mul],by rw [div_start,Nat.zero_mul],by omega,Nat.le_refl _⟩,.cons vR (.cons (by rw [lim_zero];exact VLe.mt) .rq1),.cons rfl .nil⟩ ?_
 rintro ⟨n,q,r,Q⟩ ⟨h1,hq,h2,h3,h4,h5⟩
 refine AW.seq (AW.sg hE rfl (mvD rfl (c_geq rfl rfl rfl (OL.nil (AW.cond rfl (fun h=>?_) (fun h=>?_))))))
 ·have h:=dt9 h
  obtain ⟨m,rfl⟩:∃ m,n=m+1:=⟨n-1,by omega⟩
  have hmi:((m+1:Nat):Int)-1=(m:Int):=by omega
  have hrl:=len_le (Nat.le_of_lt h4)
  have ht:a / 2 ^ m % 2<2:=Nat.mod_lt _ (by decide)
  have hds:=div_step (i:=m) (Nat.pos_of_ne_zero hb) h3 h4
  have hr2:=len_le (show r+r+a / 2 ^ m % 2≤b+b by omega)
  have hr3:=len_le (show r+r≤b+b by omega)
  have hbb:=len_add b b
  refine AW.skip (AW.seq (AW.block (AW.sg hE rfl (mvD rfl (mvD rfl (clv rfl .rq2 (ref_plusN (by omega) (by omega)) (asD rfl ?_)))))))
  refine OL.nil ?_
  refine AW.midK (α:=Unit) [(0,_),(1,_),(4,_),(5,_),(6,_),(8,_)] [(11,_)] (fun _u=>[(7,.d (u32s (lim (r+r+a / 2 ^ m % 2))))]) (fun _u=>[]) (fun _u=>True) (.cons (knD rfl) (.cons (knD rfl) (.cons (knM rfl) (.cons (knM rfl) (.cons (knO rfl) (.cons (knD rfl) .nil)))))) (.cons (owR rfl) .nil) ?_ ?_
  ·refine AW.sg hE rfl (mvD rfl (mvD rfl (bo rfl rfl (quoN m 32 hmi (by omega) (by decide)) (ixLn sl.u32s 0 rfl rfl (by omega) rfl rfl (ldRC ce.u32 rfl (mvD rfl (bo rfl rfl (remN m 32 hmi (by decide)) ?_)))))))
   refine cv it.int it.uint rfl (wrap_u64 (by omega)) (shrV rfl rfl ⟨Int.natCast_nonneg _,by rw [Int.toNat_natCast];have:m % 32<32:=Nat.mod_lt _ (by decide);exact Nat.le_of_lt this⟩ (by rw [Int.toNat_natCast,div_pow_cast]) (bo rfl rfl (and1_u32 (Nat.lt_of_le_of_lt (Nat.div_le_self ..) ((lim_Lim a).getD _))) ?_))
   rw [bit_eq (lim_Lim a),val_lim]
   refine c_eql rfl rfl rfl (OL.nil (AW.cond rfl (fun h33=>?_) (fun h33=>?_)))
   ·try simp only [dx9] at h33
    refine AW.rg hE rfl (mvD rfl (lt1 sl.u32s (VC.d _).vd rfl (by decide) (cl (ref_plusN (b:=1) (by omega) (by have:=len_small (g:=1) (by decide);omega)) rfl (.cons vR (.cons (vle_of_eq (by rw [lim_small (n:=1) (by decide) (by decide)];rfl)) .nil)) (asD rfl (OL.nil ?_)))))
    exact AW.reach () ⟨trivial,Knows.app .rq6 (.cons (vle_of_eq (by rw [show a / 2 ^ m % 2=1 by omega];rfl)) .nil),Owns.app (.cons rfl .nil) (.nil)⟩
   ·try simp only [dx9] at h33
    refine AW.skip ?_
    exact AW.reach () ⟨trivial,Knows.app .rq6 (.cons (vle_of_eq (by rw [show a / 2 ^ m % 2=0 by omega];rfl)) .nil),Owns.app (.cons rfl .nil) (.nil)⟩
  rintro ⟨⟩ hφ
  refine AW.sg hE rfl (mvD rfl (mvD rfl (cl (ref_compare (by omega) (by omega)) rfl vL (c_geq rfl rfl rfl (OL.nil (AW.cond rfl (fun h40=>?_) (fun h40=>?_)))))))
  ·have h40:b≤r+r+a / 2 ^ m % 2:=cmp_nneg (by have:=dt9 h40;omega)
   have hsb:=set_bit (i:=m) (by omega) hq h2
   refine AW.sg hE rfl (mvD rfl (mvD rfl (clv rfl .rq2 (ref_minusN (by omega) (by assumption)) (asD rfl (OL.nil (AW.rg hE rfl (mvO rfl ?_)))))))
   refine mvD rfl (bo rfl rfl (quoN m 32 hmi (by omega) (by decide)) (ixOn sl.u32s rfl rfl (by omega) (ldEL ce.u32 0 (by decide) rfl rfl (by omega) rfl (mvD rfl (bo rfl rfl (remN m 32 hmi (by decide)) (cv it.int it.uint rfl (wrap_u64 (by omega)) ?_))))))
   refine shlV rfl rfl ⟨Int.natCast_nonneg _,by rw [Int.toNat_natCast];have:m % 32<32:=Nat.mod_lt _ (by decide);exact Nat.le_of_lt this⟩ (c:=((2 ^ (m % 32):Nat):Int)) (by rw [Int.toNat_natCast,Int.one_mul,← Int.natCast_pow_two,wrap_u32 ⟨Int.natCast_nonneg _,pow_lim m⟩]) ?_
   refine bo rfl rfl (or_u32 (hq.getD _) (pow_lim2 m)) (ixOn sl.u32s rfl rfl (by omega) (stE sz.u32 rfl (VC.d _).vd rfl rfl (by simp;omega) (es2:=(q.set (m / 32) (q.getD (m / 32) 0 ||| 2 ^ (m % 32))).map d32) (by rw [List.map_set]) (OL.nil (AW.rg hE rfl (mvD rfl (sub_i64 rfl rfl (by omega) (asD rfl ?_)))))))
   refine OL.nil ?_
   exact AW.again (x:=(m+1,q,r,Q)) (m,q.set (m / 32) (q.getD (m / 32) 0 ||| 2 ^ (m % 32)),r+r+a / 2 ^ m % 2-b,2*Q+1) (by (simp only [];omega)) ⟨⟨by simp [h1],hsb.2,hsb.1,(hds.2 h40).1,(hds.2 h40).2,by omega⟩,Knows.app .rq4 (.cons vR (.cons vR (.cons (VLe.int (by omega)) .nil))),.cons rfl .nil⟩
  ·have h40:r+r+a / 2 ^ m % 2<b:=by have:=df9 h40;rcases Nat.lt_or_ge (r+r+a / 2 ^ m % 2) b with h|h;exact h;exact absurd (cmp_ge h) this
   refine AW.skip (AW.rg hE rfl (mvD rfl (sub_i64 rfl rfl (by omega) (asD rfl (OL.nil ?_)))))
   exact AW.again (x:=(m+1,q,r,Q)) (m,q,r+r+a / 2 ^ m % 2,2*Q) (by (simp only [];omega)) ⟨⟨h1,hq,by rw [h2,Nat.pow_succ,Nat.mul_comm 2 Q,Nat.mul_assoc,Nat.mul_comm 2],hds.1 h40,h40,by omega⟩,Knows.app .rq4 (.cons vR (.cons vR (.cons (VLe.int (by omega)) .nil))),.cons rfl .nil⟩
 ·have h:=df9 h
  refine AW.exit (AW.seq ?_)
  obtain rfl:n=0:=by omega
  obtain ⟨e1,e2⟩:=div_fin h3 h4
  subst e1
  subst e2
  have hv:val q=a / b:=by rw [h2,Nat.pow_zero,Nat.mul_one]
  refine AW.freeze 11 rfl (AW.to [(6,.d (u32s q)),(7,.d (u32s (lim (a % b))))] [] (.cons (frz_osl (by simp [h1]) rfl) .rq1) .nil ?_)
  refine AW.rg hE rfl (mvD rfl (cl (ref_trim hq (by omega)) rfl vL ?_))
  rw [hv]
  exact mvD rfl (asD rfl (asD rfl (OL.nil (AW.ret (RetQ.r ⟨_,.tmp rfl (.tmp rfl .nil),_,.cons (.le vR) (.cons (.le vR) .nil),rfl⟩)))))
theorem ref_divisor {a b:Nat}(na:(lim a).length≤1099511627776)(nb:(lim b).length≤1099511627776):FSpec P F.ref01_divisor [.d (u32s (lim a)),.d (u32s (lim b))] (.d (u32s (lim (Nat.gcd a b)))):=by
 refine FSpec.intro fn.ref01_divisor (by rfl) (by rfl) (nb9 (by rfl)) fun E hE=>(AW.sg hE rfl (asM rfl (OL.nil (AW.seq (AW.block ?_)))))
 refine AW.whileK (α:=Nat × Nat) [(4,_)] [] (fun (x,y)=>[(0,.d (u32s (lim x))),(1,.d (u32s (lim y)))]) (fun (x,y)=>[]) (fun (x,y)=>Nat.gcd x y=Nat.gcd a b∧(lim x).length≤1099511627776∧(lim y).length≤1099511627776) (fun (x,y)=>y) (a,b) (.cons (knM rfl) .nil) .nil ⟨⟨rfl,na,nb⟩,.rq2,.nil⟩ ?_
 rintro ⟨x,y⟩ ⟨h1,h2,h3⟩
 refine AW.seq (AW.sg hE rfl (mvD rfl (lnL sl.u32s rfl rfl (c_gtr rfl rfl rfl (OL.nil (AW.cond rfl (fun h=>?_) (fun h=>?_)))))))
 ·have hy:y≠0:=fun e=>by have:=dt9 h;rw [e,lim_zero] at this;exact absurd this (by decide)
  have hml:(lim (x % y)).length≤1099511627776:=Nat.le_trans (len_le (Nat.mod_le x y)) h2
  refine AW.skip (AW.block (AW.sg hE rfl (mvD rfl (mvD rfl (clv rfl .rq2 (ref_divide (by assumption) (by assumption) (by assumption)) (mvT rfl (ex rfl rfl ?_)))))))
  refine ex rfl rfl (asD rfl (asD rfl (OL.nil (AW.rg hE rfl (mvD rfl (mvD rfl (asD rfl ?_)))))))
  exact asD rfl (OL.nil (AW.again (x:=(x,y)) (y,x % y) (by exact Nat.mod_lt _ (Nat.pos_of_ne_zero hy)) ⟨⟨by rw [← h1,Nat.gcd_comm y,← Nat.gcd_rec,Nat.gcd_comm],h3,hml⟩,Knows.app .rq1 .rq2,.nil⟩))
 ·have hy:y=0:=by have:=df9 h;exact lim_length_zero.1 (by omega)
  exact AW.exit (AW.sg hE rfl (mvD rfl (asD rfl (OL.nil (AW.ret (RetQ.r ⟨_,.tmp rfl .nil,.le (vle_of_eq (by rw [← h1,hy,Nat.gcd_zero_right];rfl))⟩))))))
theorem ref_oneL {L:List Nat}(hL:Lim L):FSpec P F.ref01_one [.d (u32s L)] (.d (dB (decide (L=[1])))):=by
 refine FSpec.intro fn.ref01_one (by rfl) (by rfl) (nb9 (by rfl)) fun E hE=>(AW.sg hE rfl (asD rfl (OL.nil (AW.sg hE rfl (mvD rfl (lnL sl.u32s rfl rfl (c_eql rfl rfl rfl ?_)))))))
 refine mvD rfl (OL.split 6 rfl (fun g6=>?_) (fun g6=>?_))
 ·try simp only [dx9] at g6
  refine OL.yes rfl (mvD rfl (OL.yes rfl (ixLe 0 sl.u32s 0 rfl rfl rfl (by omega) rfl rfl (OL.yes rfl (ldRC ce.u32 rfl (OL.yes rfl (c_eql rfl rfl rfl ?_)))))))
  exact pkT rfl rfl (asD rfl (OL.nil (AW.ret (RetQ.r ⟨_,.tmp rfl .nil,.le (VLe.bool (by have e:=one_val hL;exact decide_eq_decide.2 ⟨fun h=>e.2 ⟨by omega,by omega⟩,fun h=>by have:=(e.1 h).2;omega⟩))⟩))))
 ·try simp only [dx9] at g6
  exact OL.nd rfl (OL.nd rfl (OL.nd rfl (OL.nd rfl (pkF rfl rfl (asD rfl (OL.nil (AW.ret (RetQ.r ⟨_,.tmp rfl .nil,.le (VLe.bool (by have e:=one_val hL;exact (decide_eq_false fun h=>by have:=(e.1 h).1;omega).symm))⟩))))))))
theorem ref_one {n:Nat}:FSpec P F.ref01_one [.d (u32s (lim n))] (.d (dB (decide (n=1)))):=by
 have h:=ref_oneL (lim_Lim n)
 rw [show decide (lim n=[1])=decide (n=1) from decide_eq_decide.2 lim_eq_one] at h;exact h
end Go.Proofs.YtocehciipjhlkaaGreatDoor
