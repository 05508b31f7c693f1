/-
  Walks of package rational, part 3: number of bits, shifts, division, greatest common divisor (printed by mk.py).
-/
import Derived.Test.YteiohkpjgcioaaaGreatDoorKLimbsB
set_option linter.unusedVariables false
set_option linter.unusedSimpArgs false
namespace Go.Proofs.YteiohkpjgcioaaaGreatDoor
open Go Go.AL
theorem Sr {n:Nat}(nA:(lim n).length<=8796093022208):ai P F.mr [.d (aC (lim n))] (.d (dI (o8 n))):=by
 refine ai.intro fn.mr (by rfl) (by rfl) (au (by rfl)) λE hE=>(AW.sg hE rfl (ay rfl (OL.nil (AW.seq (AW.sg hE rfl (ah rfl (eH sl.limbs rfl rfl ?_)))))))
 refine dm rfl rfl rfl (OL.nil (AW.cond rfl (λh=>?_) (λh=>?_)))
 .have h:=jC h;have h0:n=0:=dJ.1 (by omega)
  exact AW.sg hE rfl (ay rfl (OL.nil (AW.ret (aH.r ⟨_,.tmp rfl .nil,.le (aZ.int (by rw[h0];rfl))⟩))))
 .have h:=kK h;have h0:n≠0:=λe=>by rw[e,dY] at h;exact h rfl
  have hb:=al7 h0;have e1:(((lim n).length:Int)-1).toNat=(lim n).length-1:=by omega
  have ht:=(bG n).getD ((lim n).length-1);refine AW.skip (AW.seq ?_);have hbl:=BQ (x:=(lim n).getD ((lim n).length-1) 0) (k:=32) ht;refine AW.rg hE rfl (ah rfl (eH sl.limbs rfl rfl (Ry rfl rfl (by omega) (ah rfl (ah rfl (eH sl.limbs rfl rfl (fC rfl rfl (by omega) ?_)))))))
  refine ixL sl.limbs 0 rfl rfl (by omega) (by omega) rfl rfl ?_
  rw[e1];exact bP ce.u32 rfl (cl (ab3 ht) rfl vL (fC rfl rfl (by omega) (ay rfl (OL.nil (AW.ret (aH.r ⟨_,.tmp rfl .nil,.le (aZ.int (by omega))⟩))))))
theorem D7 {A:List Nat}{k:Nat}(hA:jg A)(nA:A.length<=4398046511104)(nk:k<=70368744177664):ai P F.oD [.d (aC A),.d (dI k)] (.d (aC (lim (val A*2 ^ k)))):=by
 refine ai.intro fn.oD (by rfl) (by rfl) (au (by rfl)) λE hE=>(AW.sg hE rfl (oq rfl (OL.nil (AW.sg hE rfl (ah rfl (bo rfl rfl (c:=.int .i64 ((k / 32:Nat):Int)) (al1 (by omega)) (ah rfl ?_)))))))
 refine bo rfl rfl (c:=.int .i64 ((k / 32:Nat):Int)) (al1 (by omega)) (ah rfl (eH sl.limbs rfl rfl (aB rfl rfl (by omega) (bo rfl rfl (dO (c:=((k / 32+A.length+1:Nat):Int)) (by omega) (wrap_i64 (by omega))) (Xd AB 0 sl.limbs z.u32 (.cons (VC.d _) .nil) rfl rfl (by omega) (by omega) (by omega) rfl λb0=>(uj rfl (OL.nil ?_)))))))
 refine AW.sg hE rfl (ay rfl (OL.nil (AW.seq (AW.sg hE rfl (ah rfl (eH sl.limbs rfl rfl (ah rfl ?_)))))));refine OL.nil (AW.rename 17 35 rfl (AW.block ?_));refine AW.while (α:=Nat × List Nat × Nat × Nat × Nat) (λ(i,out,r,b,c)=>[(1,.d (dI k)),(5,.bJ 35 b out.length c),(6,.d (dU r)),(18,.d (aC A)),(19,.d (dI A.length)),(20,.d (dI i))]) (λ(i,out,r,b,c)=>[(35,.row b c T.u32 1 (out.map AB))]) (λ(i,out,r,b,c)=>out.length=k / 32+i/\jg out/\val out+r*Bp (k / 32+i)=val (A.take i)*2 ^ (k % 32)*Bp (k / 32)/\r<2 ^ (k % 32)/\i<=A.length) (λ(i,out,r,b,c)=>A.length-i) (0,List.replicate (k / 32) 0,0,b0,k / 32+A.length+1) ⟨⟨by simp,jg.zeros _,by simp[FZ,jq],Nat.pow_pos (by decide),by omega⟩,.cons vR (.cons (by rw[List.length_replicate];exact aZ.bJ) .CZ),.cons rfl .nil⟩ ?_
 rintro⟨i,out,r,b,c⟩ ⟨h1,hO,h2,h3,h4⟩
 refine AW.sg hE rfl (aN rfl rfl rfl (OL.nil (AW.seq (AW.cond rfl (λh=>?_) (λh=>?_)))))
 .have h:=jC h;refine AW.skip (AW.seq (AW.block (AW.seq ?_)));have hx:=hA.getD i;have hp:2 ^ (k % 32)<=2147483648:=Nat.pow_le_pow_right (n:=2) (by decide) (show k % 32<=31 by omega)
  have hy:A.getD i 0*2 ^ (k % 32)+r<4294967296*2 ^ (k % 32):=by
   have:=Nat.mul_le_mul_right (2 ^ (k % 32)) (show A.getD i 0+1<=4294967296 from hx)
   rw[Nat.add_mul] at this;omega
  refine AW.rg hE rfl (ixL sl.limbs 0 rfl rfl (by omega) (by omega) rfl rfl ?_)
  rw[Int.toNat_natCast];refine bP ce.u32 rfl (ay rfl (OL.nil (AW.sg hE rfl (ah rfl (ah rfl (cv it.u32 it.u64 rfl (wrap_u64 (by omega)) (ah rfl ?_)))))))
  refine bo rfl rfl (c:=.int .i64 ((k % 32:Nat):Int)) aK5 (aY6 rfl rfl ⟨by omega,by show (((k % 32:Nat):Int)).toNat<=64;omega⟩ (c:=((A.getD i 0*2 ^ (k % 32):Nat):Int)) (by rw[Int.toNat_natCast,RF];exact wrap_u64 ⟨Int.natCast_nonneg _,by omega⟩) (orB (k % 32) (A.getD i 0) rfl rfl rfl h3 (by omega) (ay rfl (OL.nil (AW.sg hE rfl (fQ rfl (ah rfl ?_)))))))
  refine cv it.u64 it.u32 rfl (c:=(((A.getD i 0*2 ^ (k % 32)+r) % 4294967296:Nat):Int)) (by rw[gW];omega) (tC sl.limbs (VC.d _).vd rfl (by decide) ?_)
  refine yG sl.limbs rfl rfl rfl (by simp) (VC.d _) (by simp[D.cells]) (by simp;omega) (by simp;omega) (.inr rfl) (ys:=(out++[(A.getD i 0*2 ^ (k % 32)+r) % 4294967296]).map AB) (by simp) (n2:=(out++[(A.getD i 0*2 ^ (k % 32)+r) % 4294967296]).length) (by simp) λb2 c2=>?_
  refine uj rfl (OL.nil (AW.rg hE rfl (ah rfl (Lh rfl rfl rfl (ay rfl (OL.nil (AW.rg hE rfl ?_)))))));refine aB rfl rfl (by omega) (ah rfl (OL.nil ?_))
  exact AW.again (x:=(i,out,r,b,c)) (i+1,out++[(A.getD i 0*2 ^ (k % 32)+r) % 4294967296],(A.getD i 0*2 ^ (k % 32)+r) / 4294967296,b2,c2) (by (simp only[];omega)) ⟨⟨by simp[h1];omega,hO.append (.cons (Nat.mod_lt _ (by decide)) .nil),by rw[zK,h1,fA hA];exact left_step h2,Nat.div_lt_of_lt_mul hy,by omega⟩,.cons vR (.cons vR (.cons (aZ.int (by omega)) .wL)),.cons rfl .nil⟩
 .have h:=kK h;refine AW.exit (AW.seq ?_);have hp:2 ^ (k % 32)<=2147483648:=Nat.pow_le_pow_right (n:=2) (by decide) (show k % 32<=31 by omega)
  have hv:val (out++[r])=val A*2 ^ k:=by
   rw[zK,h1];have:=h2;rw[show i=A.length by omega,List.take_length] at this
   rw[show i=A.length by omega]
   exact al8 (by omega) this
  have hO2:jg (out++[r]):=hO.append (.cons (by omega) .nil)
  refine AW.rg hE rfl (fQ rfl (ah rfl (cv it.u64 it.u32 rfl (c:=(r:Int)) (wrap_u32 (by omega)) (tC sl.limbs (VC.d _).vd rfl (by decide) (bg6 sl.limbs rfl rfl rfl (by simp) (VC.d _) (by simp[D.cells]) (by simp;omega) (by simp;omega) (.inl rfl) (ys:=(out++[r]).map AB) (by simp) (cl (lK hO2 (by simp;omega)) rfl vL (ay rfl ?_)))))))
  exact OL.nil (AW.ret (aH.r ⟨_,.tmp rfl .nil,.le (aI (by rw[<- hv];rfl))⟩))
theorem UY {A:List Nat}{k:Nat}(hA:jg A)(nA:A.length<=4398046511104)(nk:k<=70368744177664):ai P F.nH [.d (aC A),.d (dI k)] (.d (aC (lim (val A / 2 ^ k)))):=by
 refine ai.intro fn.nH (by rfl) (by rfl) (au (by rfl)) λE hE=>(AW.sg hE rfl (oq rfl (OL.nil (AW.sg hE rfl (oq rfl (OL.nil (AW.seq ?_)))))))
 refine AW.sg hE rfl (ah rfl (bo rfl rfl (c:=.int .i64 ((k / 32:Nat):Int)) (al1 (by omega)) (ay rfl (OL.nil (AW.own 5 30 T.u32 1 rfl rfl (AW.block ?_))))))
 refine AW.while (α:=List Nat × Nat × Nat) (λ(out,b,c)=>[(0,.d (aC A)),(1,.d (dI k)),(5,.bJ 30 b out.length c),(6,.d (dI ((k / 32+out.length:Nat):Int)))]) (λ(out,b,c)=>[(30,.row b c T.u32 1 (out.map AB))]) (λ(out,b,c)=>jg out/\val out=val A / 2 ^ k % Bp out.length/\(out.length=0 \/ k / 32+out.length<=A.length)) (λ(out,b,c)=>A.length-(k / 32+out.length)) ([],0,0) ⟨⟨jg.nil,by simp[jq,rM,Nat.mod_one],.inl rfl⟩,.CZ,.cons rfl .nil⟩ ?_
 rintro⟨out,b,c⟩ ⟨hO,h1,h2⟩
 refine AW.seq (AW.sg hE rfl (ah rfl (ah rfl (eH sl.limbs rfl rfl (aN rfl rfl rfl (OL.nil (AW.cond rfl (λh=>?_) (λh=>?_))))))))
 .have h:=jC h;refine AW.skip (AW.seq (AW.block ?_));have hx:=hA.getD (k / 32+out.length+1);have hy:=hA.getD (k / 32+out.length);have hq:(A.getD (k / 32+out.length+1) 0*4294967296+A.getD (k / 32+out.length) 0) / 2 ^ (k % 32)<=(A.getD (k / 32+out.length+1) 0*4294967296+A.getD (k / 32+out.length) 0):=Nat.div_le_self ..;refine AW.rg hE rfl (fQ rfl (ah rfl (ah rfl (bo rfl rfl (dO (c:=((k / 32+out.length+1:Nat):Int)) (by omega) (wrap_i64 (by omega))) (cl (oQ hA) rfl vL (ak9 rfl rfl rfl (by omega) (ah rfl ?_)))))))
  refine ah rfl (cl (oQ hA) rfl vL (orA (a:=A.getD (k / 32+out.length+1) 0*4294967296) (b:=A.getD (k / 32+out.length) 0) 32 (A.getD (k / 32+out.length+1) 0) rfl rfl rfl (by omega) (by omega) (ah rfl (bo rfl rfl (c:=.int .i64 ((k % 32:Nat):Int)) aK5 (RD rfl rfl ⟨by omega,by show (((k % 32:Nat):Int)).toNat<=64;omega⟩ (c:=(((A.getD (k / 32+out.length+1) 0*4294967296+A.getD (k / 32+out.length) 0) / 2 ^ (k % 32):Nat):Int)) (by rw[Int.toNat_natCast,IX]) ?_)))))
  refine cv it.u64 it.u32 rfl (c:=(((A.getD (k / 32+out.length+1) 0*4294967296+A.getD (k / 32+out.length) 0) / 2 ^ (k % 32) % 4294967296:Nat):Int)) (by rw[gW];omega) (tC sl.limbs (VC.d _).vd rfl (by decide) ?_)
  refine yG sl.limbs rfl rfl rfl (by simp) (VC.d _) (by simp[D.cells]) (by simp;omega) (by simp;omega) (.inr rfl) (ys:=(out++[(A.getD (k / 32+out.length+1) 0*4294967296+A.getD (k / 32+out.length) 0) / 2 ^ (k % 32) % 4294967296]).map AB) (by simp) (n2:=(out++[(A.getD (k / 32+out.length+1) 0*4294967296+A.getD (k / 32+out.length) 0) / 2 ^ (k % 32) % 4294967296]).length) (by simp) λb2 c2=>?_
  refine uj rfl (OL.nil (AW.rg hE rfl (ah rfl (aB rfl rfl (by omega) (ay rfl (OL.nil ?_))))))
  exact AW.again (x:=(out,b,c)) (out++[(A.getD (k / 32+out.length+1) 0*4294967296+A.getD (k / 32+out.length) 0) / 2 ^ (k % 32) % 4294967296],b2,c2) (by simp only[jT,nN];omega) ⟨⟨hO.append (.cons (Nat.mod_lt _ (by decide)) .nil),by rw[right_step hA (by omega) (by omega) h1];simp,.inr (by simp;omega)⟩,.cons vR (.cons vR (.cons vR (.cons (aZ.int (by simp;omega)) .nil))),.cons rfl .nil⟩
 .have h:=kK h;refine AW.exit (AW.seq ?_);have hv:val out=val A / 2 ^ k:=Z8 hA (Q:=k / 32) (s:=k % 32) (by omega) h1 (by omega)
  refine AW.freeze 30 rfl (AW.to [(5,.d (aC out))] [] (.cons (dP (by simp) rfl) .nil) .nil ?_)
  exact AW.rg hE rfl (ah rfl (cl (lK hO (by omega)) rfl vL (ay rfl (OL.nil (AW.ret (aH.r ⟨_,.tmp rfl .nil,.le (aI (by rw[<- hv];rfl))⟩))))))
theorem ao0 {a v:Nat}:min (a / v) 4294967295<4294967296:=by omega
theorem Ij {A:List Nat}{n:Nat}(hA:jg A)(nA:A.length<=1099511627776)(nn:(lim n).length<=1099511627776)(h0:n≠0):ai P F.oC [.d (aC A),.d (aC (lim n))] (.jM [.d (aC (lim (val A / n))),.d (aC (lim (val A % n)))]):=by
 have hl0:(lim n).length≠0:=λe=>h0 (dJ.1 e);have hbl:=UF n;have hpS:=Nat.pow_pos (n:=32*(lim n).length-o8 n) (a:=2) (by decide)
 have hv0:n*2 ^ (32*(lim n).length-o8 n)≠0:=Nat.ne_of_gt (Nat.mul_pos (by omega) hpS)
 generalize hS:32*(lim n).length-o8 n=S at *;generalize hU:val A*2 ^ S=U;generalize hV:n*2 ^ S=v at *;have nU:(lim U).length<=2199023255552:=by
  rw[<- hU];have h1:=YG (a:=val A) (S:=S) (m:=(lim n).length) (by omega)
  have h2:=aB8 hA;omega
 have nV:(lim v).length<=2199023255552:=by
  rw[<- hV];have h1:=YG (a:=n) (S:=S) (m:=(lim n).length) (by omega)
  omega
 have hlv:(lim v).length≠0:=λe=>hv0 (dJ.1 e);refine ai.intro fn.oC (by rfl) (by rfl) (au (by rfl)) λE hE=>(AW.sg hE rfl (oq rfl (oq rfl (OL.nil (AW.seq (AW.sg hE rfl (ah rfl ?_)))))))
 refine eH sl.limbs rfl rfl (dm rfl rfl rfl (OL.nil (AW.cond rfl (λh=>?_) (λh=>?_))))
 .have h:=jC h;have hone:lim n=[n]:=aB6 (by omega)
  have hn32:n<4294967296:=by have:=qO n;rw[hone] at this;exact this
  rw[hone];refine AW.sg hE rfl (ah rfl (ah rfl (ixL (l:=[n]) sl.limbs 0 rfl rfl (by decide) (Int.zero_lt_one) rfl rfl (bP ce.u32 rfl (cl (UX hA (by omega) (by omega) hn32) rfl vL (BN rfl (ex rfl rfl ?_)))))))
  refine ex rfl rfl (ay rfl (ay rfl (OL.nil (AW.sg hE rfl (ah rfl (ah rfl (tC sl.limbs (VC.d _).vd rfl (by decide) ?_)))))))
  exact cl (lK (L:=[val A % n]) (.cons (Nat.lt_trans (Nat.mod_lt _ (by omega)) hn32) .nil) (by simp)) rfl vL (ay rfl (ay rfl (OL.nil (AW.ret (aH.r ⟨_,.tmp rfl (.tmp rfl .nil),_,.cons (.le vR) (.cons (.le (aI (y:=.d (aC (lim (val A % n)))) (by rw[<- val_one (val A % n)];rfl))) .nil),rfl⟩)))))
 .have h:=kK h;refine AW.skip (AW.sg hE rfl (ah rfl (eH sl.limbs rfl rfl (bo rfl rfl (Dk (c:=((32*(lim n).length:Nat):Int)) (by omega) (wrap_i64 (by omega))) (ah rfl (cl (Sr (by omega)) rfl vL (bo rfl rfl (dK (c:=(S:Int)) (by omega) (wrap_i64 (by omega))) ?_)))))))
  refine ay rfl (OL.nil (AW.sg hE rfl (ah rfl (ah rfl (cl (D7 hA (by omega) (by omega)) rfl vL (ah rfl (ah rfl ?_)))))))
  refine cl (D7 (bG n) (by omega) (by omega)) rfl vL ?_
  rw[bF,hU,hV];refine ay rfl (ay rfl (OL.nil (AW.sg hE rfl (ah rfl (eH sl.limbs rfl rfl (ah rfl (eH sl.limbs rfl rfl ?_)))))));refine fC rfl rfl (by omega) (aB rfl rfl (by omega) (mx rfl rfl (c:=(((lim U).length+1-(lim v).length:Nat):Int)) (by omega) (Xd AB 0 sl.limbs z.u32 (.cons (VC.d _) .nil) rfl rfl (Nat.le_refl _) (by omega) (by omega) rfl λb=>(uj rfl (OL.nil ?_)))))
  generalize hm:(lim U).length+1-(lim v).length=m;refine AW.seq (AW.sg hE rfl (fQ rfl (WI sl.limbs rfl rfl (fC rfl rfl (by omega) (ay rfl (OL.nil (AW.block ?_)))))))
  refine AW.while (α:=Nat × List Nat × Nat) (λ(k,q,u)=>[(4,.bJ 49 b m m),(8,.d (dI S)),(9,.d (aC (lim u))),(10,.d (aC (lim v))),(11,.d (dI ((k:Int)-1)))]) (λ(k,q,u)=>[(49,.row b m T.u32 1 (q.map AB))]) (λ(k,q,u)=>q.length=m/\jg q/\U=val (q.drop k)*v*Bp k+u/\u<v*Bp k/\k<=m) (λ(k,q,u)=>k) (m,List.replicate m 0,U) ⟨⟨by simp,jg.zeros _,by rw[List.drop_eq_nil_of_le (by simp),jq];omega,Xk hv0 (by omega),Nat.le_refl _⟩,.y9,.cons rfl .nil⟩ ?_
  rintro⟨k,q,u⟩ ⟨h1,hq,h2,h3,h4⟩
  refine AW.seq (AW.sg hE rfl (ah rfl (lG rfl rfl rfl (OL.nil (AW.cond rfl (λh=>?_) (λh=>?_))))))
  .have h:=jC h;have hpk:0<v*Bp (k-1):=Nat.mul_pos (by omega) (wU _)
   have hst:=Z9 (U:=U) (u:=u) (v:=v) (k:=k-1) (Q:=val (q.drop k)) hv0 (by rw[show k-1+1=k by omega];exact h2)
   have hgs:=al9 (u:=u) (v:=v) (k:=k-1) hv0 (by rw[show k-1+1=k by omega];exact h3)
   have nu:(lim u).length<=4398046511104:=by have:=aO2 h3;omega
   refine AW.skip (AW.seq (AW.block (AW.sg hE rfl (ah rfl (ah rfl (eH sl.limbs rfl rfl (bo rfl rfl (dO (c:=((k-1+(lim v).length:Nat):Int)) (by omega) (wrap_i64 (by omega))) ?_)))))))
   refine ay rfl (OL.nil (AW.seq ?_));have hx:=(bG u).getD (k-1+(lim v).length);have hy:=(bG u).getD (k-1+(lim v).length-1);have hz:=(bG v).getD ((lim v).length-1);have hzp:=YF hv0;refine AW.rg hE rfl (ah rfl (ah rfl (cl (oQ (bG u)) rfl vL (ak9 rfl rfl rfl (by omega) (ah rfl (ah rfl (bo rfl rfl (dK (c:=((k-1+(lim v).length-1:Nat):Int)) (by omega) (wrap_i64 (by omega))) ?_)))))))
   refine cl (oQ (bG u)) rfl vL (orA (a:=(lim u).getD (k-1+(lim v).length) 0*4294967296) (b:=(lim u).getD (k-1+(lim v).length-1) 0) 32 ((lim u).getD (k-1+(lim v).length) 0) rfl rfl rfl (by omega) (by omega) (ah rfl (ah rfl (eH sl.limbs rfl rfl (bo rfl rfl (dK (c:=(((lim v).length-1:Nat):Int)) (by omega) (wrap_i64 (by omega))) (cl (oQ (bG v)) rfl vL (bo rfl rfl (YB (by omega) hzp) ?_)))))))
   refine mn rfl rfl (aB7 _) (ay rfl (OL.nil ?_));have hgl:=ao0 (a:=(lim u).getD (k-1+(lim v).length) 0*4294967296+(lim u).getD (k-1+(lim v).length-1) 0) (v:=(lim v).getD ((lim v).length-1) 0);generalize hg0:min (((lim u).getD (k-1+(lim v).length) 0*4294967296+(lim u).getD (k-1+(lim v).length-1) 0) / (lim v).getD ((lim v).length-1) 0) 4294967295=g0 at *;refine AW.seq ?_;have nvg:∀ g,g<4294967296->(lim (v*g)).length<=4398046511104:=λg hg=>by have:=PE (v:=v) hg;omega
   refine AW.rg hE rfl (ah rfl (ah rfl (cv it.u64 it.u32 rfl (c:=(g0:Int)) (wrap_u32 (by omega)) (tC sl.limbs (VC.d _).vd rfl (by decide) (cl (lK (L:=[g0]) (.cons hgl .nil) (by simp)) rfl vL (cl (uQ (bG v) (bG _) (by omega) (aB9 hgl)) rfl vL ?_))))))
   rw[bF,bF,val_one];refine ah rfl (bo rfl rfl (Dk (c:=((32*(k-1):Nat):Int)) (by omega) (wrap_i64 (by omega))) (cl (D7 (bG _) (nvg g0 hgl) (by omega)) rfl vL ?_))
   rw[bF,<- wW];refine ay rfl (OL.nil (AW.seq (AW.block ?_)));refine AW.while (α:=Nat) (λg=>[(4,.bJ 49 b m m),(8,.d (dI S)),(9,.d (aC (lim u))),(10,.d (aC (lim v))),(11,.d (dI ((k:Int)-1))),(13,.d (dU g)),(14,.d (aC (lim (v*g*Bp (k-1)))))]) (λg=>[(49,.row b m T.u32 1 (q.map AB))]) (λg=>g<4294967296/\u / (v*Bp (k-1))<=g) (λg=>g) g0 ⟨⟨hgl,hgs⟩,.Nw,.cons rfl .nil⟩ ?_
   rintro g ⟨hg2,hg3⟩
   have nP:(lim (v*g*Bp (k-1))).length<=8796093022208:=by
    have h1:=Xm (v*g) (k-1);have h2:=nvg g hg2;omega
   have eP:v*g*Bp (k-1)=g*(v*Bp (k-1)):=by simp only[Nat.mul_assoc,Nat.mul_left_comm,Nat.mul_comm]
   refine AW.seq (AW.sg hE rfl (ah rfl (ah rfl (cl (zB (bG _) (bG _) (by omega) nP) rfl vL ?_))))
   rw[bF,bF];refine aN rfl rfl rfl (OL.nil (AW.cond rfl (λhc=>?_) (λhc=>?_)))
   .have hlt:u<v*g*Bp (k-1):=cmp_neg (jC hc);have hg1:0<g:=Nat.pos_of_ne_zero λe=>by rw[e] at hlt;simp at hlt
    have bi1:v*Bp (k-1)<=v*g*Bp (k-1):=by rw[eP];exact Nat.le_mul_of_pos_left _ hg1
    have hdec:=aa0 (v:=v) (k:=k-1) hg1;refine AW.skip (AW.block (AW.sg hE rfl (ah rfl (ah rfl (ah rfl (bo rfl rfl (Dk (c:=((32*(k-1):Nat):Int)) (by omega) (wrap_i64 (by omega))) (cl (D7 (bG _) (by omega) (by omega)) rfl vL ?_)))))))
    rw[bF,<- wW];refine cl (Bq (bG _) (bG _) nP (by rw[bF,bF];exact bi1)) rfl vL ?_
    rw[bF,bF];exact ay rfl (OL.nil (AW.rg hE rfl (ah rfl (MF rfl rfl (by omega) (ay rfl (OL.nil (AW.again (x:=g) (g-1) (by omega) ⟨⟨by omega,am1 hlt⟩,.cons vR (.cons vR (.cons vR (.cons vR (.cons vR (.cons (aZ.int (by omega)) (.cons (aI (by rw[hdec];rfl)) .nil)))))),.cons rfl .nil⟩)))))))
   .have a02:v*g*Bp (k-1)<=u:=I4 (kK hc);have hge:g=u / (v*Bp (k-1)):=Nat.le_antisymm ((Nat.le_div_iff_mul_le hpk).2 (by rw[<- eP];exact a02)) hg3
    refine AW.exit (AW.sg hE rfl (ah rfl (ah rfl (cl (Bq (bG _) (bG _) (by omega) (by rw[bF,bF];exact a02)) rfl vL ?_))))
    rw[bF,bF,eP];refine ay rfl (OL.nil (AW.rg hE rfl (fQ rfl (ah rfl (ah rfl (cv it.u64 it.u32 rfl (c:=(g:Int)) (wrap_u32 (by omega)) (Uj sl.limbs rfl rfl (by omega) (by omega) (i:=k-1) (by omega) ?_)))))))
    refine AA sz.u32 rfl (VC.d _).vd rfl rfl (by simp;omega) (es2:=(q.set (k-1) g).map AB) (by rw[List.map_set]) (OL.nil (AW.rg hE rfl (ah rfl (fC rfl rfl (by omega) (ay rfl (OL.nil ?_))))))
    exact AW.again (x:=(k,q,u)) (k-1,q.set (k-1) g,u-g*(v*Bp (k-1))) (by simp only[];omega) ⟨⟨by simp[h1],hq.set _ hg2,by rw[Hq (by omega) (by omega),hge];exact hst.1,by rw[hge];exact hst.2,by omega⟩,.cons vR (.cons vR (.cons vR (.cons vR (.cons (aZ.int (by omega)) .nil)))),.cons rfl .nil⟩
  .have h:=kK h;refine AW.exit (AW.seq ?_);have hk0:k=0:=by omega
   subst hk0;rw[List.drop_zero,rM,Nat.mul_one] at h2;rw[rM,Nat.mul_one] at h3;have he:=am0 (a:=val A) (b:=n) (s:=S) (U:=U) h0 (by rw[hU,hV];exact h2) (by rw[hV];exact h3)
   have nu:(lim u).length<=4398046511104:=by have:=sW (Nat.le_of_lt h3);omega
   refine AW.freeze 49 rfl (AW.to [(4,.d (aC q)),(8,.d (dI S)),(9,.d (aC (lim u)))] [] (.cons (dP (by simp[h1]) rfl) .dR) .nil ?_)
   refine AW.rg hE rfl (ah rfl (cl (lK hq (by omega)) rfl vL (ah rfl (ah rfl (cl (UY (bG u) nu (by omega)) rfl vL ?_)))))
   rw[bF];exact ay rfl (ay rfl (OL.nil (AW.ret (aH.r ⟨_,.tmp rfl (.tmp rfl .nil),_,.cons (.le (aI (y:=.d (aC (lim (val A / n)))) (by rw[<- he.1];rfl))) (.cons (.le (aI (y:=.d (aC (lim (val A % n)))) (by rw[<- he.2];rfl))) .nil),rfl⟩))))
theorem Qs {a b:Nat}(na:(lim a).length<=1099511627776)(nb:(lim b).length<=1099511627776):ai P F.pX [.d (aC (lim a)),.d (aC (lim b))] (.d (aC (lim (Nat.gcd a b)))):=by
 refine ai.intro fn.pX (by rfl) (by rfl) (au (by rfl)) λE hE=>(AW.sg hE rfl (oq rfl (OL.nil (AW.seq (AW.block ?_)))))
 refine AW.while (α:=Nat × Nat) (λ(x,y)=>[(0,.d (aC (lim x))),(1,.d (aC (lim y)))]) (λ(x,y)=>[]) (λ(x,y)=>(lim x).length<=1099511627776/\(lim y).length<=1099511627776/\Nat.gcd x y=Nat.gcd a b) (λ(x,y)=>y) (a,b) ⟨⟨na,nb,rfl⟩,.dR,.nil⟩ ?_
 rintro⟨x,y⟩ ⟨h1,h2,h3⟩
 refine AW.seq (AW.sg hE rfl (ah rfl (eH sl.limbs rfl rfl (iI rfl rfl rfl (OL.nil (AW.cond rfl (λh=>?_) (λh=>?_)))))))
 .have h:=jC h;have h0:y≠0:=λe=>by rw[e,dY] at h;exact absurd h (by decide)
  refine AW.skip (AW.block (AW.sg hE rfl (ah rfl (ah rfl (cl (Ij (bG x) h1 h2 h0) rfl vL ?_)))));rw[bF];refine BN rfl (ex rfl rfl (ex rfl rfl (ay rfl (ay rfl (OL.nil (AW.rg hE rfl (ah rfl ?_)))))));refine ah rfl (ay rfl (ay rfl (OL.nil ?_)));exact AW.again (x:=(x,y)) (y,x % y) (by exact Nat.mod_lt _ (Nat.pos_of_ne_zero h0)) ⟨⟨h2,Nat.le_trans (fK (Nat.lt_trans (Nat.mod_lt x (Nat.pos_of_ne_zero h0)) (qO y))) h2,by rw[<- h3,Nat.gcd_comm x y,Nat.gcd_rec y x,Nat.gcd_comm]⟩,.dR,.nil⟩
 .have h:=kK h;have h0:y=0:=dJ.1 (by omega)
  exact AW.exit (AW.sg hE rfl (ah rfl (ay rfl (OL.nil (AW.ret (aH.r ⟨_,.tmp rfl .nil,.le (aI (by rw[<- h3,h0,Nat.gcd_zero_right];rfl))⟩))))))
