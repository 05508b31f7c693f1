/-
  Walks of package rational, part 3: number of bits, shifts, division, greatest common divisor (printed by mk.py).
-/
import Derived.Test.YtnjoncgnjdkaoaaGreatDoorKLimbsB
set_option linter.unusedVariables false
set_option linter.unusedSimpArgs false
namespace Go.Proofs.YtnjoncgnjdkaoaaGreatDoor
open Go Go.AL
theorem Q7 {n:Nat}(nA:(lim n).length<=8796093022208):aj P F.lV [.d (aH (lim n))] (.d (dI (rf n))):=by
 refine aj.intro fn.lV (by rfl) (by rfl) (aB (by rfl)) λE hE=>(AW.sg hE rfl (aF rfl (OL.nil (AW.seq (AW.sg hE rfl (ai rfl (fJ sl.limbs rfl rfl ?_)))))))
 refine dR rfl rfl rfl (OL.nil (AW.cond rfl (λh=>?_) (λh=>?_)))
 .have h:=lq h;have h0:n=0:=dK.1 (by omega)
  exact AW.sg hE rfl (aF rfl (OL.nil (AW.ret (aP.r ⟨_,.tmp rfl .nil,.le (bG.int (by rw[h0];rfl))⟩))))
 .have h:=nS h;have h0:n≠0:=λe=>by rw[e,dY] at h;exact h rfl
  have hb:=ae7 h0;have e1:(((lim n).length:Int)-1).toNat=(lim n).length-1:=by omega
  have ht:=(bn n).getD ((lim n).length-1);refine AW.skip (AW.seq ?_);have hbl:=EQ (x:=(lim n).getD ((lim n).length-1) 0) (k:=32) ht;refine AW.rg hE rfl (ai rfl (fJ sl.limbs rfl rfl (QK rfl rfl (by omega) (ai rfl (ai rfl (fJ sl.limbs rfl rfl (gI rfl rfl (by omega) ?_)))))))
  refine ixL sl.limbs 0 rfl rfl (by omega) (by omega) rfl rfl ?_
  rw[e1];exact iH ce.u32 rfl (cl (Zg ht) rfl vL (gI rfl rfl (by omega) (aF rfl (OL.nil (AW.ret (aP.r ⟨_,.tmp rfl .nil,.le (bG.int (by omega))⟩))))))
theorem Dw {A:List Nat}{k:Nat}(hA:jb A)(nA:A.length<=4398046511104)(nk:k<=70368744177664):aj P F.oO [.d (aH A),.d (dI k)] (.d (aH (lim (val A*2 ^ k)))):=by
 refine aj.intro fn.oO (by rfl) (by rfl) (aB (by rfl)) λE hE=>(AW.sg hE rfl (oK rfl (OL.nil (AW.sg hE rfl (ai rfl (bo rfl rfl (c:=.int .i64 ((k / 32:Nat):Int)) (ae2 (by omega)) (ai rfl ?_)))))))
 refine bo rfl rfl (c:=.int .i64 ((k / 32:Nat):Int)) (ae2 (by omega)) (ai rfl (fJ sl.limbs rfl rfl (aI rfl rfl (by omega) (bo rfl rfl (jB (c:=((k / 32+A.length+1:Nat):Int)) (by omega) (wrap_i64 (by omega))) (QM zY 0 sl.limbs z.u32 (.cons (VC.d _) .nil) rfl rfl (by omega) (by omega) (by omega) rfl λb0=>(tJ rfl (OL.nil ?_)))))))
 refine AW.sg hE rfl (aF rfl (OL.nil (AW.seq (AW.sg hE rfl (ai rfl (fJ sl.limbs rfl rfl (ai rfl ?_)))))));refine OL.nil (AW.rename 17 35 rfl (AW.block ?_));refine AW.while (α:=Nat × List Nat × Nat × Nat × Nat) (λ(i,out,r,b,c)=>[(1,.d (dI k)),(5,.bF 35 b out.length c),(6,.d (dU r)),(18,.d (aH A)),(19,.d (dI A.length)),(20,.d (dI i))]) (λ(i,out,r,b,c)=>[(35,.row b c T.u32 1 (out.map zY))]) (λ(i,out,r,b,c)=>out.length=k / 32+i/\jb out/\val out+r*Bp (k / 32+i)=val (A.take i)*2 ^ (k % 32)*Bp (k / 32)/\r<2 ^ (k % 32)/\i<=A.length) (λ(i,out,r,b,c)=>A.length-i) (0,List.replicate (k / 32) 0,0,b0,k / 32+A.length+1) ⟨⟨by simp,jb.zeros _,by simp[EP,je],Nat.pow_pos (by decide),by omega⟩,.cons vR (.cons (by rw[List.length_replicate];exact bG.bF) .Jz),.cons rfl .nil⟩ ?_
 rintro⟨i,out,r,b,c⟩ ⟨h1,hO,h2,h3,h4⟩
 refine AW.sg hE rfl (aY rfl rfl rfl (OL.nil (AW.seq (AW.cond rfl (λh=>?_) (λh=>?_)))))
 .have h:=lq h;refine AW.skip (AW.seq (AW.block (AW.seq ?_)));have hx:=hA.getD i;have hp:2 ^ (k % 32)<=2147483648:=Nat.pow_le_pow_right (n:=2) (by decide) (show k % 32<=31 by omega)
  have hy:A.getD i 0*2 ^ (k % 32)+r<4294967296*2 ^ (k % 32):=by
   have:=Nat.mul_le_mul_right (2 ^ (k % 32)) (show A.getD i 0+1<=4294967296 from hx)
   rw[Nat.add_mul] at this;omega
  refine AW.rg hE rfl (ixL sl.limbs 0 rfl rfl (by omega) (by omega) rfl rfl ?_)
  rw[Int.toNat_natCast];refine iH ce.u32 rfl (aF rfl (OL.nil (AW.sg hE rfl (ai rfl (ai rfl (cv it.u32 it.u64 rfl (wrap_u64 (by omega)) (ai rfl ?_)))))))
  refine bo rfl rfl (c:=.int .i64 ((k % 32:Nat):Int)) aJ5 (aZ2 rfl rfl ⟨by omega,by show (((k % 32:Nat):Int)).toNat<=64;omega⟩ (c:=((A.getD i 0*2 ^ (k % 32):Nat):Int)) (by rw[Int.toNat_natCast,QL];exact wrap_u64 ⟨Int.natCast_nonneg _,by omega⟩) (orB (k % 32) (A.getD i 0) rfl rfl rfl h3 (by omega) (aF rfl (OL.nil (AW.sg hE rfl (jq rfl (ai rfl ?_)))))))
  refine cv it.u64 it.u32 rfl (c:=(((A.getD i 0*2 ^ (k % 32)+r) % 4294967296:Nat):Int)) (by rw[gG];omega) (zX sl.limbs (VC.d _).vd rfl (by decide) ?_)
  refine Ce sl.limbs rfl rfl rfl (by simp) (VC.d _) (by simp[D.cells]) (by simp;omega) (by simp;omega) (.inr rfl) (ys:=(out++[(A.getD i 0*2 ^ (k % 32)+r) % 4294967296]).map zY) (by simp) (n2:=(out++[(A.getD i 0*2 ^ (k % 32)+r) % 4294967296]).length) (by simp) λb2 c2=>?_
  refine tJ rfl (OL.nil (AW.rg hE rfl (ai rfl (Jy rfl rfl rfl (aF rfl (OL.nil (AW.rg hE rfl ?_)))))));refine aI rfl rfl (by omega) (ai rfl (OL.nil ?_))
  exact AW.again (x:=(i,out,r,b,c)) (i+1,out++[(A.getD i 0*2 ^ (k % 32)+r) % 4294967296],(A.getD i 0*2 ^ (k % 32)+r) / 4294967296,b2,c2) (by (simp only[];omega)) ⟨⟨by simp[h1];omega,hO.append (.cons (Nat.mod_lt _ (by decide)) .nil),by rw[yX,h1,fF hA];exact left_step h2,Nat.div_lt_of_lt_mul hy,by omega⟩,.cons vR (.cons vR (.cons (bG.int (by omega)) .Ah)),.cons rfl .nil⟩
 .have h:=nS h;refine AW.exit (AW.seq ?_);have hp:2 ^ (k % 32)<=2147483648:=Nat.pow_le_pow_right (n:=2) (by decide) (show k % 32<=31 by omega)
  have hv:val (out++[r])=val A*2 ^ k:=by
   rw[yX,h1];have:=h2;rw[show i=A.length by omega,List.take_length] at this
   rw[show i=A.length by omega]
   exact ae8 (by omega) this
  have hO2:jb (out++[r]):=hO.append (.cons (by omega) .nil)
  refine AW.rg hE rfl (jq rfl (ai rfl (cv it.u64 it.u32 rfl (c:=(r:Int)) (wrap_u32 (by omega)) (zX sl.limbs (VC.d _).vd rfl (by decide) (ad7 sl.limbs rfl rfl rfl (by simp) (VC.d _) (by simp[D.cells]) (by simp;omega) (by simp;omega) (.inl rfl) (ys:=(out++[r]).map zY) (by simp) (cl (kX hO2 (by simp;omega)) rfl vL (aF rfl ?_)))))))
  exact OL.nil (AW.ret (aP.r ⟨_,.tmp rfl .nil,.le (au (by rw[<- hv];rfl))⟩))
theorem TJ {A:List Nat}{k:Nat}(hA:jb A)(nA:A.length<=4398046511104)(nk:k<=70368744177664):aj P F.nN [.d (aH A),.d (dI k)] (.d (aH (lim (val A / 2 ^ k)))):=by
 refine aj.intro fn.nN (by rfl) (by rfl) (aB (by rfl)) λE hE=>(AW.sg hE rfl (oK rfl (OL.nil (AW.sg hE rfl (oK rfl (OL.nil (AW.seq ?_)))))))
 refine AW.sg hE rfl (ai rfl (bo rfl rfl (c:=.int .i64 ((k / 32:Nat):Int)) (ae2 (by omega)) (aF rfl (OL.nil (AW.own 5 30 T.u32 1 rfl rfl (AW.block ?_))))))
 refine AW.while (α:=List Nat × Nat × Nat) (λ(out,b,c)=>[(0,.d (aH A)),(1,.d (dI k)),(5,.bF 30 b out.length c),(6,.d (dI ((k / 32+out.length:Nat):Int)))]) (λ(out,b,c)=>[(30,.row b c T.u32 1 (out.map zY))]) (λ(out,b,c)=>jb out/\val out=val A / 2 ^ k % Bp out.length/\(out.length=0 \/ k / 32+out.length<=A.length)) (λ(out,b,c)=>A.length-(k / 32+out.length)) ([],0,0) ⟨⟨jb.nil,by simp[je,rP,Nat.mod_one],.inl rfl⟩,.Jz,.cons rfl .nil⟩ ?_
 rintro⟨out,b,c⟩ ⟨hO,h1,h2⟩
 refine AW.seq (AW.sg hE rfl (ai rfl (ai rfl (fJ sl.limbs rfl rfl (aY rfl rfl rfl (OL.nil (AW.cond rfl (λh=>?_) (λh=>?_))))))))
 .have h:=lq h;refine AW.skip (AW.seq (AW.block ?_));have hx:=hA.getD (k / 32+out.length+1);have hy:=hA.getD (k / 32+out.length);have hq:(A.getD (k / 32+out.length+1) 0*4294967296+A.getD (k / 32+out.length) 0) / 2 ^ (k % 32)<=(A.getD (k / 32+out.length+1) 0*4294967296+A.getD (k / 32+out.length) 0):=Nat.div_le_self ..;refine AW.rg hE rfl (jq rfl (ai rfl (ai rfl (bo rfl rfl (jB (c:=((k / 32+out.length+1:Nat):Int)) (by omega) (wrap_i64 (by omega))) (cl (o9 hA) rfl vL (ad9 rfl rfl rfl (by omega) (ai rfl ?_)))))))
  refine ai rfl (cl (o9 hA) rfl vL (orA (a:=A.getD (k / 32+out.length+1) 0*4294967296) (b:=A.getD (k / 32+out.length) 0) 32 (A.getD (k / 32+out.length+1) 0) rfl rfl rfl (by omega) (by omega) (ai rfl (bo rfl rfl (c:=.int .i64 ((k % 32:Nat):Int)) aJ5 (Y0 rfl rfl ⟨by omega,by show (((k % 32:Nat):Int)).toNat<=64;omega⟩ (c:=(((A.getD (k / 32+out.length+1) 0*4294967296+A.getD (k / 32+out.length) 0) / 2 ^ (k % 32):Nat):Int)) (by rw[Int.toNat_natCast,G6]) ?_)))))
  refine cv it.u64 it.u32 rfl (c:=(((A.getD (k / 32+out.length+1) 0*4294967296+A.getD (k / 32+out.length) 0) / 2 ^ (k % 32) % 4294967296:Nat):Int)) (by rw[gG];omega) (zX sl.limbs (VC.d _).vd rfl (by decide) ?_)
  refine Ce sl.limbs rfl rfl rfl (by simp) (VC.d _) (by simp[D.cells]) (by simp;omega) (by simp;omega) (.inr rfl) (ys:=(out++[(A.getD (k / 32+out.length+1) 0*4294967296+A.getD (k / 32+out.length) 0) / 2 ^ (k % 32) % 4294967296]).map zY) (by simp) (n2:=(out++[(A.getD (k / 32+out.length+1) 0*4294967296+A.getD (k / 32+out.length) 0) / 2 ^ (k % 32) % 4294967296]).length) (by simp) λb2 c2=>?_
  refine tJ rfl (OL.nil (AW.rg hE rfl (ai rfl (aI rfl rfl (by omega) (aF rfl (OL.nil ?_))))))
  exact AW.again (x:=(out,b,c)) (out++[(A.getD (k / 32+out.length+1) 0*4294967296+A.getD (k / 32+out.length) 0) / 2 ^ (k % 32) % 4294967296],b2,c2) (by simp only[jG,oU];omega) ⟨⟨hO.append (.cons (Nat.mod_lt _ (by decide)) .nil),by rw[right_step hA (by omega) (by omega) h1];simp,.inr (by simp;omega)⟩,.cons vR (.cons vR (.cons vR (.cons (bG.int (by simp;omega)) .nil))),.cons rfl .nil⟩
 .have h:=nS h;refine AW.exit (AW.seq ?_);have hv:val out=val A / 2 ^ k:=Y4 hA (Q:=k / 32) (s:=k % 32) (by omega) h1 (by omega)
  refine AW.freeze 30 rfl (AW.to [(5,.d (aH out))] [] (.cons (dL (by simp) rfl) .nil) .nil ?_)
  exact AW.rg hE rfl (ai rfl (cl (kX hO (by omega)) rfl vL (aF rfl (OL.nil (AW.ret (aP.r ⟨_,.tmp rfl .nil,.le (au (by rw[<- hv];rfl))⟩))))))
theorem ah3 {a v:Nat}:min (a / v) 4294967295<4294967296:=by omega
theorem Gm {A:List Nat}{n:Nat}(hA:jb A)(nA:A.length<=1099511627776)(nn:(lim n).length<=1099511627776)(h0:n≠0):aj P F.oN [.d (aH A),.d (aH (lim n))] (.jS [.d (aH (lim (val A / n))),.d (aH (lim (val A % n)))]):=by
 have hl0:(lim n).length≠0:=λe=>h0 (dK.1 e);have hbl:=Ti n;have hpS:=Nat.pow_pos (n:=32*(lim n).length-rf n) (a:=2) (by decide)
 have hv0:n*2 ^ (32*(lim n).length-rf n)≠0:=Nat.ne_of_gt (Nat.mul_pos (by omega) hpS)
 generalize hS:32*(lim n).length-rf n=S at *;generalize hU:val A*2 ^ S=U;generalize hV:n*2 ^ S=v at *;have nU:(lim U).length<=2199023255552:=by
  rw[<- hU];have h1:=XD (a:=val A) (S:=S) (m:=(lim n).length) (by omega)
  have h2:=ay6 hA;omega
 have nV:(lim v).length<=2199023255552:=by
  rw[<- hV];have h1:=XD (a:=n) (S:=S) (m:=(lim n).length) (by omega)
  omega
 have hlv:(lim v).length≠0:=λe=>hv0 (dK.1 e);refine aj.intro fn.oN (by rfl) (by rfl) (aB (by rfl)) λE hE=>(AW.sg hE rfl (oK rfl (oK rfl (OL.nil (AW.seq (AW.sg hE rfl (ai rfl ?_)))))))
 refine fJ sl.limbs rfl rfl (dR rfl rfl rfl (OL.nil (AW.cond rfl (λh=>?_) (λh=>?_))))
 .have h:=lq h;have hone:lim n=[n]:=ay4 (by omega)
  have hn32:n<4294967296:=by have:=qZ n;rw[hone] at this;exact this
  rw[hone];refine AW.sg hE rfl (ai rfl (ai rfl (ixL (l:=[n]) sl.limbs 0 rfl rfl (by decide) (Int.zero_lt_one) rfl rfl (iH ce.u32 rfl (cl (TI hA (by omega) (by omega) hn32) rfl vL (zW rfl (ex rfl rfl ?_)))))))
  refine ex rfl rfl (aF rfl (aF rfl (OL.nil (AW.sg hE rfl (ai rfl (ai rfl (zX sl.limbs (VC.d _).vd rfl (by decide) ?_)))))))
  exact cl (kX (L:=[val A % n]) (.cons (Nat.lt_trans (Nat.mod_lt _ (by omega)) hn32) .nil) (by simp)) rfl vL (aF rfl (aF rfl (OL.nil (AW.ret (aP.r ⟨_,.tmp rfl (.tmp rfl .nil),_,.cons (.le vR) (.cons (.le (au (y:=.d (aH (lim (val A % n)))) (by rw[<- val_one (val A % n)];rfl))) .nil),rfl⟩)))))
 .have h:=nS h;refine AW.skip (AW.sg hE rfl (ai rfl (fJ sl.limbs rfl rfl (bo rfl rfl (KC (c:=((32*(lim n).length:Nat):Int)) (by omega) (wrap_i64 (by omega))) (ai rfl (cl (Q7 (by omega)) rfl vL (bo rfl rfl (lQ (c:=(S:Int)) (by omega) (wrap_i64 (by omega))) ?_)))))))
  refine aF rfl (OL.nil (AW.sg hE rfl (ai rfl (ai rfl (cl (Dw hA (by omega) (by omega)) rfl vL (ai rfl (ai rfl ?_)))))))
  refine cl (Dw (bn n) (by omega) (by omega)) rfl vL ?_
  rw[bC,hU,hV];refine aF rfl (aF rfl (OL.nil (AW.sg hE rfl (ai rfl (fJ sl.limbs rfl rfl (ai rfl (fJ sl.limbs rfl rfl ?_)))))));refine gI rfl rfl (by omega) (aI rfl rfl (by omega) (mx rfl rfl (c:=(((lim U).length+1-(lim v).length:Nat):Int)) (by omega) (QM zY 0 sl.limbs z.u32 (.cons (VC.d _) .nil) rfl rfl (Nat.le_refl _) (by omega) (by omega) rfl λb=>(tJ rfl (OL.nil ?_)))))
  generalize hm:(lim U).length+1-(lim v).length=m;refine AW.seq (AW.sg hE rfl (jq rfl (G5 sl.limbs rfl rfl (gI rfl rfl (by omega) (aF rfl (OL.nil (AW.block ?_)))))))
  refine AW.while (α:=Nat × List Nat × Nat) (λ(k,q,u)=>[(4,.bF 49 b m m),(8,.d (dI S)),(9,.d (aH (lim u))),(10,.d (aH (lim v))),(11,.d (dI ((k:Int)-1)))]) (λ(k,q,u)=>[(49,.row b m T.u32 1 (q.map zY))]) (λ(k,q,u)=>q.length=m/\jb q/\U=val (q.drop k)*v*Bp k+u/\u<v*Bp k/\k<=m) (λ(k,q,u)=>k) (m,List.replicate m 0,U) ⟨⟨by simp,jb.zeros _,by rw[List.drop_eq_nil_of_le (by simp),je];omega,VR hv0 (by omega),Nat.le_refl _⟩,.DR,.cons rfl .nil⟩ ?_
  rintro⟨k,q,u⟩ ⟨h1,hq,h2,h3,h4⟩
  refine AW.seq (AW.sg hE rfl (ai rfl (qY rfl rfl rfl (OL.nil (AW.cond rfl (λh=>?_) (λh=>?_))))))
  .have h:=lq h;have hpk:0<v*Bp (k-1):=Nat.mul_pos (by omega) (wM _)
   have hst:=Y5 (U:=U) (u:=u) (v:=v) (k:=k-1) (Q:=val (q.drop k)) hv0 (by rw[show k-1+1=k by omega];exact h2)
   have hgs:=ae9 (u:=u) (v:=v) (k:=k-1) hv0 (by rw[show k-1+1=k by omega];exact h3)
   have nu:(lim u).length<=4398046511104:=by have:=aN9 h3;omega
   refine AW.skip (AW.seq (AW.block (AW.sg hE rfl (ai rfl (ai rfl (fJ sl.limbs rfl rfl (bo rfl rfl (jB (c:=((k-1+(lim v).length:Nat):Int)) (by omega) (wrap_i64 (by omega))) ?_)))))))
   refine aF rfl (OL.nil (AW.seq ?_));have hx:=(bn u).getD (k-1+(lim v).length);have hy:=(bn u).getD (k-1+(lim v).length-1);have hz:=(bn v).getD ((lim v).length-1);have hzp:=XC hv0;refine AW.rg hE rfl (ai rfl (ai rfl (cl (o9 (bn u)) rfl vL (ad9 rfl rfl rfl (by omega) (ai rfl (ai rfl (bo rfl rfl (lQ (c:=((k-1+(lim v).length-1:Nat):Int)) (by omega) (wrap_i64 (by omega))) ?_)))))))
   refine cl (o9 (bn u)) rfl vL (orA (a:=(lim u).getD (k-1+(lim v).length) 0*4294967296) (b:=(lim u).getD (k-1+(lim v).length-1) 0) 32 ((lim u).getD (k-1+(lim v).length) 0) rfl rfl rfl (by omega) (by omega) (ai rfl (ai rfl (fJ sl.limbs rfl rfl (bo rfl rfl (lQ (c:=(((lim v).length-1:Nat):Int)) (by omega) (wrap_i64 (by omega))) (cl (o9 (bn v)) rfl vL (bo rfl rfl (Xy (by omega) hzp) ?_)))))))
   refine mn rfl rfl (ay5 _) (aF rfl (OL.nil ?_));have hgl:=ah3 (a:=(lim u).getD (k-1+(lim v).length) 0*4294967296+(lim u).getD (k-1+(lim v).length-1) 0) (v:=(lim v).getD ((lim v).length-1) 0);generalize hg0:min (((lim u).getD (k-1+(lim v).length) 0*4294967296+(lim u).getD (k-1+(lim v).length-1) 0) / (lim v).getD ((lim v).length-1) 0) 4294967295=g0 at *;refine AW.seq ?_;have nvg:∀ g,g<4294967296->(lim (v*g)).length<=4398046511104:=λg hg=>by have:=Oy (v:=v) hg;omega
   refine AW.rg hE rfl (ai rfl (ai rfl (cv it.u64 it.u32 rfl (c:=(g0:Int)) (wrap_u32 (by omega)) (zX sl.limbs (VC.d _).vd rfl (by decide) (cl (kX (L:=[g0]) (.cons hgl .nil) (by simp)) rfl vL (cl (pU (bn v) (bn _) (by omega) (ay7 hgl)) rfl vL ?_))))))
   rw[bC,bC,val_one];refine ai rfl (bo rfl rfl (KC (c:=((32*(k-1):Nat):Int)) (by omega) (wrap_i64 (by omega))) (cl (Dw (bn _) (nvg g0 hgl) (by omega)) rfl vL ?_))
   rw[bC,<- wP];refine aF rfl (OL.nil (AW.seq (AW.block ?_)));refine AW.while (α:=Nat) (λg=>[(4,.bF 49 b m m),(8,.d (dI S)),(9,.d (aH (lim u))),(10,.d (aH (lim v))),(11,.d (dI ((k:Int)-1))),(13,.d (dU g)),(14,.d (aH (lim (v*g*Bp (k-1)))))]) (λg=>[(49,.row b m T.u32 1 (q.map zY))]) (λg=>g<4294967296/\u / (v*Bp (k-1))<=g) (λg=>g) g0 ⟨⟨hgl,hgs⟩,.rq7,.cons rfl .nil⟩ ?_
   rintro g ⟨hg2,hg3⟩
   have nP:(lim (v*g*Bp (k-1))).length<=8796093022208:=by
    have h1:=VT (v*g) (k-1);have h2:=nvg g hg2;omega
   have eP:v*g*Bp (k-1)=g*(v*Bp (k-1)):=by simp only[Nat.mul_assoc,Nat.mul_left_comm,Nat.mul_comm]
   refine AW.seq (AW.sg hE rfl (ai rfl (ai rfl (cl (yN (bn _) (bn _) (by omega) nP) rfl vL ?_))))
   rw[bC,bC];refine aY rfl rfl rfl (OL.nil (AW.cond rfl (λhc=>?_) (λhc=>?_)))
   .have hlt:u<v*g*Bp (k-1):=cmp_neg (lq hc);have hg1:0<g:=Nat.pos_of_ne_zero λe=>by rw[e] at hlt;simp at hlt
    have bm1:v*Bp (k-1)<=v*g*Bp (k-1):=by rw[eP];exact Nat.le_mul_of_pos_left _ hg1
    have hdec:=Y6 (v:=v) (k:=k-1) hg1;refine AW.skip (AW.block (AW.sg hE rfl (ai rfl (ai rfl (ai rfl (bo rfl rfl (KC (c:=((32*(k-1):Nat):Int)) (by omega) (wrap_i64 (by omega))) (cl (Dw (bn _) (by omega) (by omega)) rfl vL ?_)))))))
    rw[bC,<- wP];refine cl (AZ (bn _) (bn _) nP (by rw[bC,bC];exact bm1)) rfl vL ?_
    rw[bC,bC];exact aF rfl (OL.nil (AW.rg hE rfl (ai rfl (Kz rfl rfl (by omega) (aF rfl (OL.nil (AW.again (x:=g) (g-1) (by omega) ⟨⟨by omega,af2 hlt⟩,.cons vR (.cons vR (.cons vR (.cons vR (.cons vR (.cons (bG.int (by omega)) (.cons (au (by rw[hdec];rfl)) .nil)))))),.cons rfl .nil⟩)))))))
   .have a81:v*g*Bp (k-1)<=u:=G9 (nS hc);have hge:g=u / (v*Bp (k-1)):=Nat.le_antisymm ((Nat.le_div_iff_mul_le hpk).2 (by rw[<- eP];exact a81)) hg3
    refine AW.exit (AW.sg hE rfl (ai rfl (ai rfl (cl (AZ (bn _) (bn _) (by omega) (by rw[bC,bC];exact a81)) rfl vL ?_))))
    rw[bC,bC,eP];refine aF rfl (OL.nil (AW.rg hE rfl (jq rfl (ai rfl (ai rfl (cv it.u64 it.u32 rfl (c:=(g:Int)) (wrap_u32 (by omega)) (Vu sl.limbs rfl rfl (by omega) (by omega) (i:=k-1) (by omega) ?_)))))))
    refine GI sz.u32 rfl (VC.d _).vd rfl rfl (by simp;omega) (es2:=(q.set (k-1) g).map zY) (by rw[List.map_set]) (OL.nil (AW.rg hE rfl (ai rfl (gI rfl rfl (by omega) (aF rfl (OL.nil ?_))))))
    exact AW.again (x:=(k,q,u)) (k-1,q.set (k-1) g,u-g*(v*Bp (k-1))) (by simp only[];omega) ⟨⟨by simp[h1],hq.set _ hg2,by rw[FU (by omega) (by omega),hge];exact hst.1,by rw[hge];exact hst.2,by omega⟩,.cons vR (.cons vR (.cons vR (.cons vR (.cons (bG.int (by omega)) .nil)))),.cons rfl .nil⟩
  .have h:=nS h;refine AW.exit (AW.seq ?_);have hk0:k=0:=by omega
   subst hk0;rw[List.drop_zero,rP,Nat.mul_one] at h2;rw[rP,Nat.mul_one] at h3;have he:=af0 (a:=val A) (b:=n) (s:=S) (U:=U) h0 (by rw[hU,hV];exact h2) (by rw[hV];exact h3)
   have nu:(lim u).length<=4398046511104:=by have:=sZ (Nat.le_of_lt h3);omega
   refine AW.freeze 49 rfl (AW.to [(4,.d (aH q)),(8,.d (dI S)),(9,.d (aH (lim u)))] [] (.cons (dL (by simp[h1]) rfl) .iq) .nil ?_)
   refine AW.rg hE rfl (ai rfl (cl (kX hq (by omega)) rfl vL (ai rfl (ai rfl (cl (TJ (bn u) nu (by omega)) rfl vL ?_)))))
   rw[bC];exact aF rfl (aF rfl (OL.nil (AW.ret (aP.r ⟨_,.tmp rfl (.tmp rfl .nil),_,.cons (.le (au (y:=.d (aH (lim (val A / n)))) (by rw[<- he.1];rfl))) (.cons (.le (au (y:=.d (aH (lim (val A % n)))) (by rw[<- he.2];rfl))) .nil),rfl⟩))))
theorem Pg {a b:Nat}(na:(lim a).length<=1099511627776)(nb:(lim b).length<=1099511627776):aj P F.qh [.d (aH (lim a)),.d (aH (lim b))] (.d (aH (lim (Nat.gcd a b)))):=by
 refine aj.intro fn.qh (by rfl) (by rfl) (aB (by rfl)) λE hE=>(AW.sg hE rfl (oK rfl (OL.nil (AW.seq (AW.block ?_)))))
 refine AW.while (α:=Nat × Nat) (λ(x,y)=>[(0,.d (aH (lim x))),(1,.d (aH (lim y)))]) (λ(x,y)=>[]) (λ(x,y)=>(lim x).length<=1099511627776/\(lim y).length<=1099511627776/\Nat.gcd x y=Nat.gcd a b) (λ(x,y)=>y) (a,b) ⟨⟨na,nb,rfl⟩,.iq,.nil⟩ ?_
 rintro⟨x,y⟩ ⟨h1,h2,h3⟩
 refine AW.seq (AW.sg hE rfl (ai rfl (fJ sl.limbs rfl rfl (iO rfl rfl rfl (OL.nil (AW.cond rfl (λh=>?_) (λh=>?_)))))))
 .have h:=lq h;have h0:y≠0:=λe=>by rw[e,dY] at h;exact absurd h (by decide)
  refine AW.skip (AW.block (AW.sg hE rfl (ai rfl (ai rfl (cl (Gm (bn x) h1 h2 h0) rfl vL ?_)))));rw[bC];refine zW rfl (ex rfl rfl (ex rfl rfl (aF rfl (aF rfl (OL.nil (AW.rg hE rfl (ai rfl ?_)))))));refine ai rfl (aF rfl (aF rfl (OL.nil ?_)));exact AW.again (x:=(x,y)) (y,x % y) (by exact Nat.mod_lt _ (Nat.pos_of_ne_zero h0)) ⟨⟨h2,Nat.le_trans (dO (Nat.lt_trans (Nat.mod_lt x (Nat.pos_of_ne_zero h0)) (qZ y))) h2,by rw[<- h3,Nat.gcd_comm x y,Nat.gcd_rec y x,Nat.gcd_comm]⟩,.iq,.nil⟩
 .have h:=nS h;have h0:y=0:=dK.1 (by omega)
  exact AW.exit (AW.sg hE rfl (ai rfl (aF rfl (OL.nil (AW.ret (aP.r ⟨_,.tmp rfl .nil,.le (au (by rw[<- h3,h0,Nat.gcd_zero_right];rfl))⟩))))))
