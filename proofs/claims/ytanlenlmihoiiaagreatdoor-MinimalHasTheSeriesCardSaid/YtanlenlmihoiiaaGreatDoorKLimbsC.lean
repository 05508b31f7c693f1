/-
  Walks of package rational, part 3: number of bits, shifts, division, greatest common divisor (printed by mk.py).
-/
import Derived.Test.YtanlenlmihoiiaaGreatDoorKLimbsB
set_option linter.unusedVariables false
set_option linter.unusedSimpArgs false
namespace Go.Proofs.YtanlenlmihoiiaaGreatDoor
open Go Go.AL
theorem TI {n:Nat}(nA:(lim n).length<=8796093022208):ai P F.mP [.d (aI (lim n))] (.d (dI (rF n))):=by
 refine ai.intro fn.mP (by rfl) (by rfl) (au (by rfl)) λE hE=>(AW.sg hE rfl (aG rfl (OL.nil (AW.seq (AW.sg hE rfl (aj rfl (fO sl.limbs rfl rfl ?_)))))))
 refine fE rfl rfl rfl (OL.nil (AW.cond rfl (λh=>?_) (λh=>?_)))
 .have h:=mX h;have h0:n=0:=dO.1 (by omega)
  exact AW.sg hE rfl (aG rfl (OL.nil (AW.ret (aT.r ⟨_,.tmp rfl .nil,.le (bV.int (by rw[h0];rfl))⟩))))
 .have h:=oN h;have h0:n≠0:=λe=>by rw[e,eX] at h;exact h rfl
  have hb:=ar5 h0;have e1:(((lim n).length:Int)-1).toNat=(lim n).length-1:=by omega
  have ht:=(bI n).getD ((lim n).length-1);refine AW.skip (AW.seq ?_);have hbl:=F8 (x:=(lim n).getD ((lim n).length-1) 0) (k:=32) ht;refine AW.rg hE rfl (aj rfl (fO sl.limbs rfl rfl (Tf rfl rfl (by omega) (aj rfl (aj rfl (fO sl.limbs rfl rfl (iW rfl rfl (by omega) ?_)))))))
  refine ixL sl.limbs 0 rfl rfl (by omega) (by omega) rfl rfl ?_
  rw[e1];exact jb ce.u32 rfl (cl (ag6 ht) rfl vL (iW rfl rfl (by omega) (aG rfl (OL.nil (AW.ret (aT.r ⟨_,.tmp rfl .nil,.le (bV.int (by omega))⟩))))))
theorem Em {A:List Nat}{k:Nat}(hA:jy A)(nA:A.length<=4398046511104)(nk:k<=70368744177664):ai P F.oW [.d (aI A),.d (dI k)] (.d (aI (lim (val A*2 ^ k)))):=by
 refine ai.intro fn.oW (by rfl) (by rfl) (au (by rfl)) λE hE=>(AW.sg hE rfl (nI rfl (OL.nil (AW.sg hE rfl (aj rfl (bo rfl rfl (c:=.int .i64 ((k / 32:Nat):Int)) (aq9 (by omega)) (aj rfl ?_)))))))
 refine bo rfl rfl (c:=.int .i64 ((k / 32:Nat):Int)) (aq9 (by omega)) (aj rfl (fO sl.limbs rfl rfl (aJ rfl rfl (by omega) (bo rfl rfl (lG (c:=((k / 32+A.length+1:Nat):Int)) (by omega) (wrap_i64 (by omega))) (U4 Ak 0 sl.limbs z.u32 (.cons (VC.d _) .nil) rfl rfl (by omega) (by omega) (by omega) rfl λb0=>(uf rfl (OL.nil ?_)))))))
 refine AW.sg hE rfl (aG rfl (OL.nil (AW.seq (AW.sg hE rfl (aj rfl (fO sl.limbs rfl rfl (aj rfl ?_)))))));refine OL.nil (AW.rename 17 35 rfl (AW.block ?_));refine AW.while (α:=Nat × List Nat × Nat × Nat × Nat) (λ(i,out,r,b,c)=>[(1,.d (dI k)),(5,.bK 35 b out.length c),(6,.d (dU r)),(18,.d (aI A)),(19,.d (dI A.length)),(20,.d (dI i))]) (λ(i,out,r,b,c)=>[(35,.row b c T.u32 1 (out.map Ak))]) (λ(i,out,r,b,c)=>out.length=k / 32+i/\jy out/\val out+r*Bp (k / 32+i)=val (A.take i)*2 ^ (k % 32)*Bp (k / 32)/\r<2 ^ (k % 32)/\i<=A.length) (λ(i,out,r,b,c)=>A.length-i) (0,List.replicate (k / 32) 0,0,b0,k / 32+A.length+1) ⟨⟨by simp,jy.zeros _,by simp[F7,jB],Nat.pow_pos (by decide),by omega⟩,.cons vR (.cons (by rw[List.length_replicate];exact bV.bK) .J5),.cons rfl .nil⟩ ?_
 rintro⟨i,out,r,b,c⟩ ⟨h1,hO,h2,h3,h4⟩
 refine AW.sg hE rfl (bD rfl rfl rfl (OL.nil (AW.seq (AW.cond rfl (λh=>?_) (λh=>?_)))))
 .have h:=mX h;refine AW.skip (AW.seq (AW.block (AW.seq ?_)));have hx:=hA.getD i;have hp:2 ^ (k % 32)<=2147483648:=Nat.pow_le_pow_right (n:=2) (by decide) (show k % 32<=31 by omega)
  have hy:A.getD i 0*2 ^ (k % 32)+r<4294967296*2 ^ (k % 32):=by
   have:=Nat.mul_le_mul_right (2 ^ (k % 32)) (show A.getD i 0+1<=4294967296 from hx)
   rw[Nat.add_mul] at this;omega
  refine AW.rg hE rfl (ixL sl.limbs 0 rfl rfl (by omega) (by omega) rfl rfl ?_)
  rw[Int.toNat_natCast];refine jb ce.u32 rfl (aG rfl (OL.nil (AW.sg hE rfl (aj rfl (aj rfl (cv it.u32 it.u64 rfl (wrap_u64 (by omega)) (aj rfl ?_)))))))
  refine bo rfl rfl (c:=.int .i64 ((k % 32:Nat):Int)) aY2 (bk6 rfl rfl ⟨by omega,by show (((k % 32:Nat):Int)).toNat<=64;omega⟩ (c:=((A.getD i 0*2 ^ (k % 32):Nat):Int)) (by rw[Int.toNat_natCast,Ti];exact wrap_u64 ⟨Int.natCast_nonneg _,by omega⟩) (orB (k % 32) (A.getD i 0) rfl rfl rfl h3 (by omega) (aG rfl (OL.nil (AW.sg hE rfl (jl rfl (aj rfl ?_)))))))
  refine cv it.u64 it.u32 rfl (c:=(((A.getD i 0*2 ^ (k % 32)+r) % 4294967296:Nat):Int)) (by rw[iC];omega) (xG sl.limbs (VC.d _).vd rfl (by decide) ?_)
  refine Am sl.limbs rfl rfl rfl (by simp) (VC.d _) (by simp[D.cells]) (by simp;omega) (by simp;omega) (.inr rfl) (ys:=(out++[(A.getD i 0*2 ^ (k % 32)+r) % 4294967296]).map Ak) (by simp) (n2:=(out++[(A.getD i 0*2 ^ (k % 32)+r) % 4294967296]).length) (by simp) λb2 c2=>?_
  refine uf rfl (OL.nil (AW.rg hE rfl (aj rfl (Lr rfl rfl rfl (aG rfl (OL.nil (AW.rg hE rfl ?_)))))));refine aJ rfl rfl (by omega) (aj rfl (OL.nil ?_))
  exact AW.again (x:=(i,out,r,b,c)) (i+1,out++[(A.getD i 0*2 ^ (k % 32)+r) % 4294967296],(A.getD i 0*2 ^ (k % 32)+r) / 4294967296,b2,c2) (by (simp only[];omega)) ⟨⟨by simp[h1];omega,hO.append (.cons (Nat.mod_lt _ (by decide)) .nil),by rw[zJ,h1,fU hA];exact left_step h2,Nat.div_lt_of_lt_mul hy,by omega⟩,.cons vR (.cons vR (.cons (bV.int (by omega)) .yI)),.cons rfl .nil⟩
 .have h:=oN h;refine AW.exit (AW.seq ?_);have hp:2 ^ (k % 32)<=2147483648:=Nat.pow_le_pow_right (n:=2) (by decide) (show k % 32<=31 by omega)
  have hv:val (out++[r])=val A*2 ^ k:=by
   rw[zJ,h1];have:=h2;rw[show i=A.length by omega,List.take_length] at this
   rw[show i=A.length by omega]
   exact ar6 (by omega) this
  have hO2:jy (out++[r]):=hO.append (.cons (by omega) .nil)
  refine AW.rg hE rfl (jl rfl (aj rfl (cv it.u64 it.u32 rfl (c:=(r:Int)) (wrap_u32 (by omega)) (xG sl.limbs (VC.d _).vd rfl (by decide) (aq6 sl.limbs rfl rfl rfl (by simp) (VC.d _) (by simp[D.cells]) (by simp;omega) (by simp;omega) (.inl rfl) (ys:=(out++[r]).map Ak) (by simp) (cl (lT hO2 (by simp;omega)) rfl vL (aG rfl ?_)))))))
  exact OL.nil (AW.ret (aT.r ⟨_,.tmp rfl .nil,.le (aC (by rw[<- hv];rfl))⟩))
theorem Vm {A:List Nat}{k:Nat}(hA:jy A)(nA:A.length<=4398046511104)(nk:k<=70368744177664):ai P F.nZ [.d (aI A),.d (dI k)] (.d (aI (lim (val A / 2 ^ k)))):=by
 refine ai.intro fn.nZ (by rfl) (by rfl) (au (by rfl)) λE hE=>(AW.sg hE rfl (nI rfl (OL.nil (AW.sg hE rfl (nI rfl (OL.nil (AW.seq ?_)))))))
 refine AW.sg hE rfl (aj rfl (bo rfl rfl (c:=.int .i64 ((k / 32:Nat):Int)) (aq9 (by omega)) (aG rfl (OL.nil (AW.own 5 30 T.u32 1 rfl rfl (AW.block ?_))))))
 refine AW.while (α:=List Nat × Nat × Nat) (λ(out,b,c)=>[(0,.d (aI A)),(1,.d (dI k)),(5,.bK 30 b out.length c),(6,.d (dI ((k / 32+out.length:Nat):Int)))]) (λ(out,b,c)=>[(30,.row b c T.u32 1 (out.map Ak))]) (λ(out,b,c)=>jy out/\val out=val A / 2 ^ k % Bp out.length/\(out.length=0 \/ k / 32+out.length<=A.length)) (λ(out,b,c)=>A.length-(k / 32+out.length)) ([],0,0) ⟨⟨jy.nil,by simp[jB,su,Nat.mod_one],.inl rfl⟩,.J5,.cons rfl .nil⟩ ?_
 rintro⟨out,b,c⟩ ⟨hO,h1,h2⟩
 refine AW.seq (AW.sg hE rfl (aj rfl (aj rfl (fO sl.limbs rfl rfl (bD rfl rfl rfl (OL.nil (AW.cond rfl (λh=>?_) (λh=>?_))))))))
 .have h:=mX h;refine AW.skip (AW.seq (AW.block ?_));have hx:=hA.getD (k / 32+out.length+1);have hy:=hA.getD (k / 32+out.length);have hq:(A.getD (k / 32+out.length+1) 0*4294967296+A.getD (k / 32+out.length) 0) / 2 ^ (k % 32)<=(A.getD (k / 32+out.length+1) 0*4294967296+A.getD (k / 32+out.length) 0):=Nat.div_le_self ..;refine AW.rg hE rfl (jl rfl (aj rfl (aj rfl (bo rfl rfl (lG (c:=((k / 32+out.length+1:Nat):Int)) (by omega) (wrap_i64 (by omega))) (cl (pq hA) rfl vL (aq7 rfl rfl rfl (by omega) (aj rfl ?_)))))))
  refine aj rfl (cl (pq hA) rfl vL (orA (a:=A.getD (k / 32+out.length+1) 0*4294967296) (b:=A.getD (k / 32+out.length) 0) 32 (A.getD (k / 32+out.length+1) 0) rfl rfl rfl (by omega) (by omega) (aj rfl (bo rfl rfl (c:=.int .i64 ((k % 32:Nat):Int)) aY2 (aL3 rfl rfl ⟨by omega,by show (((k % 32:Nat):Int)).toNat<=64;omega⟩ (c:=(((A.getD (k / 32+out.length+1) 0*4294967296+A.getD (k / 32+out.length) 0) / 2 ^ (k % 32):Nat):Int)) (by rw[Int.toNat_natCast,I4]) ?_)))))
  refine cv it.u64 it.u32 rfl (c:=(((A.getD (k / 32+out.length+1) 0*4294967296+A.getD (k / 32+out.length) 0) / 2 ^ (k % 32) % 4294967296:Nat):Int)) (by rw[iC];omega) (xG sl.limbs (VC.d _).vd rfl (by decide) ?_)
  refine Am sl.limbs rfl rfl rfl (by simp) (VC.d _) (by simp[D.cells]) (by simp;omega) (by simp;omega) (.inr rfl) (ys:=(out++[(A.getD (k / 32+out.length+1) 0*4294967296+A.getD (k / 32+out.length) 0) / 2 ^ (k % 32) % 4294967296]).map Ak) (by simp) (n2:=(out++[(A.getD (k / 32+out.length+1) 0*4294967296+A.getD (k / 32+out.length) 0) / 2 ^ (k % 32) % 4294967296]).length) (by simp) λb2 c2=>?_
  refine uf rfl (OL.nil (AW.rg hE rfl (aj rfl (aJ rfl rfl (by omega) (aG rfl (OL.nil ?_))))))
  exact AW.again (x:=(out,b,c)) (out++[(A.getD (k / 32+out.length+1) 0*4294967296+A.getD (k / 32+out.length) 0) / 2 ^ (k % 32) % 4294967296],b2,c2) (by simp only[jd,kC];omega) ⟨⟨hO.append (.cons (Nat.mod_lt _ (by decide)) .nil),by rw[right_step hA (by omega) (by omega) h1];simp,.inr (by simp;omega)⟩,.cons vR (.cons vR (.cons vR (.cons (bV.int (by simp;omega)) .nil))),.cons rfl .nil⟩
 .have h:=oN h;refine AW.exit (AW.seq ?_);have hv:val out=val A / 2 ^ k:=af0 hA (Q:=k / 32) (s:=k % 32) (by omega) h1 (by omega)
  refine AW.freeze 30 rfl (AW.to [(5,.d (aI out))] [] (.cons (dM (by simp) rfl) .nil) .nil ?_)
  exact AW.rg hE rfl (aj rfl (cl (lT hO (by omega)) rfl vL (aG rfl (OL.nil (AW.ret (aT.r ⟨_,.tmp rfl .nil,.le (aC (by rw[<- hv];rfl))⟩))))))
theorem av6 {a v:Nat}:min (a / v) 4294967295<4294967296:=by omega
theorem Ic {A:List Nat}{n:Nat}(hA:jy A)(nA:A.length<=1099511627776)(nn:(lim n).length<=1099511627776)(h0:n≠0):ai P F.oU [.d (aI A),.d (aI (lim n))] (.oM [.d (aI (lim (val A / n))),.d (aI (lim (val A % n)))]):=by
 have hl0:(lim n).length≠0:=λe=>h0 (dO.1 e);have hbl:=U5 n;have hpS:=Nat.pow_pos (n:=32*(lim n).length-rF n) (a:=2) (by decide)
 have hv0:n*2 ^ (32*(lim n).length-rF n)≠0:=Nat.ne_of_gt (Nat.mul_pos (by omega) hpS)
 generalize hS:32*(lim n).length-rF n=S at *;generalize hU:val A*2 ^ S=U;generalize hV:n*2 ^ S=v at *;have nU:(lim U).length<=2199023255552:=by
  rw[<- hU];have h1:=Zt (a:=val A) (S:=S) (m:=(lim n).length) (by omega)
  have h2:=aM0 hA;omega
 have nV:(lim v).length<=2199023255552:=by
  rw[<- hV];have h1:=Zt (a:=n) (S:=S) (m:=(lim n).length) (by omega)
  omega
 have hlv:(lim v).length≠0:=λe=>hv0 (dO.1 e);refine ai.intro fn.oU (by rfl) (by rfl) (au (by rfl)) λE hE=>(AW.sg hE rfl (nI rfl (nI rfl (OL.nil (AW.seq (AW.sg hE rfl (aj rfl ?_)))))))
 refine fO sl.limbs rfl rfl (fE rfl rfl rfl (OL.nil (AW.cond rfl (λh=>?_) (λh=>?_))))
 .have h:=mX h;have hone:lim n=[n]:=aL8 (by omega)
  have hn32:n<4294967296:=by have:=rE n;rw[hone] at this;exact this
  rw[hone];refine AW.sg hE rfl (aj rfl (aj rfl (ixL (l:=[n]) sl.limbs 0 rfl rfl (by decide) (Int.zero_lt_one) rfl rfl (jb ce.u32 rfl (cl (Vl hA (by omega) (by omega) hn32) rfl vL (ES rfl (ex rfl rfl ?_)))))))
  refine ex rfl rfl (aG rfl (aG rfl (OL.nil (AW.sg hE rfl (aj rfl (aj rfl (xG sl.limbs (VC.d _).vd rfl (by decide) ?_)))))))
  exact cl (lT (L:=[val A % n]) (.cons (Nat.lt_trans (Nat.mod_lt _ (by omega)) hn32) .nil) (by simp)) rfl vL (aG rfl (aG rfl (OL.nil (AW.ret (aT.r ⟨_,.tmp rfl (.tmp rfl .nil),_,.cons (.le vR) (.cons (.le (aC (y:=.d (aI (lim (val A % n)))) (by rw[<- val_one (val A % n)];rfl))) .nil),rfl⟩)))))
 .have h:=oN h;refine AW.skip (AW.sg hE rfl (aj rfl (fO sl.limbs rfl rfl (bo rfl rfl (MQ (c:=((32*(lim n).length:Nat):Int)) (by omega) (wrap_i64 (by omega))) (aj rfl (cl (TI (by omega)) rfl vL (bo rfl rfl (oO (c:=(S:Int)) (by omega) (wrap_i64 (by omega))) ?_)))))))
  refine aG rfl (OL.nil (AW.sg hE rfl (aj rfl (aj rfl (cl (Em hA (by omega) (by omega)) rfl vL (aj rfl (aj rfl ?_)))))))
  refine cl (Em (bI n) (by omega) (by omega)) rfl vL ?_
  rw[bJ,hU,hV];refine aG rfl (aG rfl (OL.nil (AW.sg hE rfl (aj rfl (fO sl.limbs rfl rfl (aj rfl (fO sl.limbs rfl rfl ?_)))))));refine iW rfl rfl (by omega) (aJ rfl rfl (by omega) (mx rfl rfl (c:=(((lim U).length+1-(lim v).length:Nat):Int)) (by omega) (U4 Ak 0 sl.limbs z.u32 (.cons (VC.d _) .nil) rfl rfl (Nat.le_refl _) (by omega) (by omega) rfl λb=>(uf rfl (OL.nil ?_)))))
  generalize hm:(lim U).length+1-(lim v).length=m;refine AW.seq (AW.sg hE rfl (jl rfl (Qx sl.limbs rfl rfl (iW rfl rfl (by omega) (aG rfl (OL.nil (AW.block ?_)))))))
  refine AW.while (α:=Nat × List Nat × Nat) (λ(k,q,u)=>[(4,.bK 49 b m m),(8,.d (dI S)),(9,.d (aI (lim u))),(10,.d (aI (lim v))),(11,.d (dI ((k:Int)-1)))]) (λ(k,q,u)=>[(49,.row b m T.u32 1 (q.map Ak))]) (λ(k,q,u)=>q.length=m/\jy q/\U=val (q.drop k)*v*Bp k+u/\u<v*Bp k/\k<=m) (λ(k,q,u)=>k) (m,List.replicate m 0,U) ⟨⟨by simp,jy.zeros _,by rw[List.drop_eq_nil_of_le (by simp),jB];omega,XL hv0 (by omega),Nat.le_refl _⟩,.I7,.cons rfl .nil⟩ ?_
  rintro⟨k,q,u⟩ ⟨h1,hq,h2,h3,h4⟩
  refine AW.seq (AW.sg hE rfl (aj rfl (tH rfl rfl rfl (OL.nil (AW.cond rfl (λh=>?_) (λh=>?_))))))
  .have h:=mX h;have hpk:0<v*Bp (k-1):=Nat.mul_pos (by omega) (wX _)
   have hst:=af2 (U:=U) (u:=u) (v:=v) (k:=k-1) (Q:=val (q.drop k)) hv0 (by rw[show k-1+1=k by omega];exact h2)
   have hgs:=ar7 (u:=u) (v:=v) (k:=k-1) hv0 (by rw[show k-1+1=k by omega];exact h3)
   have nu:(lim u).length<=4398046511104:=by have:=a99 h3;omega
   refine AW.skip (AW.seq (AW.block (AW.sg hE rfl (aj rfl (aj rfl (fO sl.limbs rfl rfl (bo rfl rfl (lG (c:=((k-1+(lim v).length:Nat):Int)) (by omega) (wrap_i64 (by omega))) ?_)))))))
   refine aG rfl (OL.nil (AW.seq ?_));have hx:=(bI u).getD (k-1+(lim v).length);have hy:=(bI u).getD (k-1+(lim v).length-1);have hz:=(bI v).getD ((lim v).length-1);have hzp:=Zr hv0;refine AW.rg hE rfl (aj rfl (aj rfl (cl (pq (bI u)) rfl vL (aq7 rfl rfl rfl (by omega) (aj rfl (aj rfl (bo rfl rfl (oO (c:=((k-1+(lim v).length-1:Nat):Int)) (by omega) (wrap_i64 (by omega))) ?_)))))))
   refine cl (pq (bI u)) rfl vL (orA (a:=(lim u).getD (k-1+(lim v).length) 0*4294967296) (b:=(lim u).getD (k-1+(lim v).length-1) 0) 32 ((lim u).getD (k-1+(lim v).length) 0) rfl rfl rfl (by omega) (by omega) (aj rfl (aj rfl (fO sl.limbs rfl rfl (bo rfl rfl (oO (c:=(((lim v).length-1:Nat):Int)) (by omega) (wrap_i64 (by omega))) (cl (pq (bI v)) rfl vL (bo rfl rfl (Zm (by omega) hzp) ?_)))))))
   refine mn rfl rfl (aL9 _) (aG rfl (OL.nil ?_));have hgl:=av6 (a:=(lim u).getD (k-1+(lim v).length) 0*4294967296+(lim u).getD (k-1+(lim v).length-1) 0) (v:=(lim v).getD ((lim v).length-1) 0);generalize hg0:min (((lim u).getD (k-1+(lim v).length) 0*4294967296+(lim u).getD (k-1+(lim v).length-1) 0) / (lim v).getD ((lim v).length-1) 0) 4294967295=g0 at *;refine AW.seq ?_;have nvg:∀ g,g<4294967296->(lim (v*g)).length<=4398046511104:=λg hg=>by have:=P9 (v:=v) hg;omega
   refine AW.rg hE rfl (aj rfl (aj rfl (cv it.u64 it.u32 rfl (c:=(g0:Int)) (wrap_u32 (by omega)) (xG sl.limbs (VC.d _).vd rfl (by decide) (cl (lT (L:=[g0]) (.cons hgl .nil) (by simp)) rfl vL (cl (pX (bI v) (bI _) (by omega) (aM1 hgl)) rfl vL ?_))))))
   rw[bJ,bJ,val_one];refine aj rfl (bo rfl rfl (MQ (c:=((32*(k-1):Nat):Int)) (by omega) (wrap_i64 (by omega))) (cl (Em (bI _) (nvg g0 hgl) (by omega)) rfl vL ?_))
   rw[bJ,<- wZ];refine aG rfl (OL.nil (AW.seq (AW.block ?_)));refine AW.while (α:=Nat) (λg=>[(4,.bK 49 b m m),(8,.d (dI S)),(9,.d (aI (lim u))),(10,.d (aI (lim v))),(11,.d (dI ((k:Int)-1))),(13,.d (dU g)),(14,.d (aI (lim (v*g*Bp (k-1)))))]) (λg=>[(49,.row b m T.u32 1 (q.map Ak))]) (λg=>g<4294967296/\u / (v*Bp (k-1))<=g) (λg=>g) g0 ⟨⟨hgl,hgs⟩,.rq7,.cons rfl .nil⟩ ?_
   rintro g ⟨hg2,hg3⟩
   have nP:(lim (v*g*Bp (k-1))).length<=8796093022208:=by
    have h1:=XO (v*g) (k-1);have h2:=nvg g hg2;omega
   have eP:v*g*Bp (k-1)=g*(v*Bp (k-1)):=by simp only[Nat.mul_assoc,Nat.mul_left_comm,Nat.mul_comm]
   refine AW.seq (AW.sg hE rfl (aj rfl (aj rfl (cl (zf (bI _) (bI _) (by omega) nP) rfl vL ?_))))
   rw[bJ,bJ];refine bD rfl rfl rfl (OL.nil (AW.cond rfl (λhc=>?_) (λhc=>?_)))
   .have hlt:u<v*g*Bp (k-1):=cmp_neg (mX hc);have hg1:0<g:=Nat.pos_of_ne_zero λe=>by rw[e] at hlt;simp at hlt
    have bA9:v*Bp (k-1)<=v*g*Bp (k-1):=by rw[eP];exact Nat.le_mul_of_pos_left _ hg1
    have hdec:=af4 (v:=v) (k:=k-1) hg1;refine AW.skip (AW.block (AW.sg hE rfl (aj rfl (aj rfl (aj rfl (bo rfl rfl (MQ (c:=((32*(k-1):Nat):Int)) (by omega) (wrap_i64 (by omega))) (cl (Em (bI _) (by omega) (by omega)) rfl vL ?_)))))))
    rw[bJ,<- wZ];refine cl (Bl (bI _) (bI _) nP (by rw[bJ,bJ];exact bA9)) rfl vL ?_
    rw[bJ,bJ];exact aG rfl (OL.nil (AW.rg hE rfl (aj rfl (MP rfl rfl (by omega) (aG rfl (OL.nil (AW.again (x:=g) (g-1) (by omega) ⟨⟨by omega,ar9 hlt⟩,.cons vR (.cons vR (.cons vR (.cons vR (.cons vR (.cons (bV.int (by omega)) (.cons (aC (by rw[hdec];rfl)) .nil)))))),.cons rfl .nil⟩)))))))
   .have bm8:v*g*Bp (k-1)<=u:=Ja (oN hc);have hge:g=u / (v*Bp (k-1)):=Nat.le_antisymm ((Nat.le_div_iff_mul_le hpk).2 (by rw[<- eP];exact bm8)) hg3
    refine AW.exit (AW.sg hE rfl (aj rfl (aj rfl (cl (Bl (bI _) (bI _) (by omega) (by rw[bJ,bJ];exact bm8)) rfl vL ?_))))
    rw[bJ,bJ,eP];refine aG rfl (OL.nil (AW.rg hE rfl (jl rfl (aj rfl (aj rfl (cv it.u64 it.u32 rfl (c:=(g:Int)) (wrap_u32 (by omega)) (Qr sl.limbs rfl rfl (by omega) (by omega) (i:=k-1) (by omega) ?_)))))))
    refine J4 sz.u32 rfl (VC.d _).vd rfl rfl (by simp;omega) (es2:=(q.set (k-1) g).map Ak) (by rw[List.map_set]) (OL.nil (AW.rg hE rfl (aj rfl (iW rfl rfl (by omega) (aG rfl (OL.nil ?_))))))
    exact AW.again (x:=(k,q,u)) (k-1,q.set (k-1) g,u-g*(v*Bp (k-1))) (by simp only[];omega) ⟨⟨by simp[h1],hq.set _ hg2,by rw[Ho (by omega) (by omega),hge];exact hst.1,by rw[hge];exact hst.2,by omega⟩,.cons vR (.cons vR (.cons vR (.cons vR (.cons (bV.int (by omega)) .nil)))),.cons rfl .nil⟩
  .have h:=oN h;refine AW.exit (AW.seq ?_);have hk0:k=0:=by omega
   subst hk0;rw[List.drop_zero,su,Nat.mul_one] at h2;rw[su,Nat.mul_one] at h3;have he:=ar8 (a:=val A) (b:=n) (s:=S) (U:=U) h0 (by rw[hU,hV];exact h2) (by rw[hV];exact h3)
   have nu:(lim u).length<=4398046511104:=by have:=ug (Nat.le_of_lt h3);omega
   refine AW.freeze 49 rfl (AW.to [(4,.d (aI q)),(8,.d (dI S)),(9,.d (aI (lim u)))] [] (.cons (dM (by simp[h1]) rfl) .jm) .nil ?_)
   refine AW.rg hE rfl (aj rfl (cl (lT hq (by omega)) rfl vL (aj rfl (aj rfl (cl (Vm (bI u) nu (by omega)) rfl vL ?_)))))
   rw[bJ];exact aG rfl (aG rfl (OL.nil (AW.ret (aT.r ⟨_,.tmp rfl (.tmp rfl .nil),_,.cons (.le (aC (y:=.d (aI (lim (val A / n)))) (by rw[<- he.1];rfl))) (.cons (.le (aC (y:=.d (aI (lim (val A % n)))) (by rw[<- he.2];rfl))) .nil),rfl⟩))))
theorem QN {a b:Nat}(na:(lim a).length<=1099511627776)(nb:(lim b).length<=1099511627776):ai P F.qx [.d (aI (lim a)),.d (aI (lim b))] (.d (aI (lim (Nat.gcd a b)))):=by
 refine ai.intro fn.qx (by rfl) (by rfl) (au (by rfl)) λE hE=>(AW.sg hE rfl (nI rfl (OL.nil (AW.seq (AW.block ?_)))))
 refine AW.while (α:=Nat × Nat) (λ(x,y)=>[(0,.d (aI (lim x))),(1,.d (aI (lim y)))]) (λ(x,y)=>[]) (λ(x,y)=>(lim x).length<=1099511627776/\(lim y).length<=1099511627776/\Nat.gcd x y=Nat.gcd a b) (λ(x,y)=>y) (a,b) ⟨⟨na,nb,rfl⟩,.jm,.nil⟩ ?_
 rintro⟨x,y⟩ ⟨h1,h2,h3⟩
 refine AW.seq (AW.sg hE rfl (aj rfl (fO sl.limbs rfl rfl (kS rfl rfl rfl (OL.nil (AW.cond rfl (λh=>?_) (λh=>?_)))))))
 .have h:=mX h;have h0:y≠0:=λe=>by rw[e,eX] at h;exact absurd h (by decide)
  refine AW.skip (AW.block (AW.sg hE rfl (aj rfl (aj rfl (cl (Ic (bI x) h1 h2 h0) rfl vL ?_)))));rw[bJ];refine ES rfl (ex rfl rfl (ex rfl rfl (aG rfl (aG rfl (OL.nil (AW.rg hE rfl (aj rfl ?_)))))));refine aj rfl (aG rfl (aG rfl (OL.nil ?_)));exact AW.again (x:=(x,y)) (y,x % y) (by exact Nat.mod_lt _ (Nat.pos_of_ne_zero h0)) ⟨⟨h2,Nat.le_trans (dZ (Nat.lt_trans (Nat.mod_lt x (Nat.pos_of_ne_zero h0)) (rE y))) h2,by rw[<- h3,Nat.gcd_comm x y,Nat.gcd_rec y x,Nat.gcd_comm]⟩,.jm,.nil⟩
 .have h:=oN h;have h0:y=0:=dO.1 (by omega)
  exact AW.exit (AW.sg hE rfl (aj rfl (aG rfl (OL.nil (AW.ret (aT.r ⟨_,.tmp rfl .nil,.le (aC (by rw[<- h3,h0,Nat.gcd_zero_right];rfl))⟩))))))
