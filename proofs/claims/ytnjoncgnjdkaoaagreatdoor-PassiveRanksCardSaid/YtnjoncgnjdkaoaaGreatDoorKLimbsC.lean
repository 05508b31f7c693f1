/-
  Walks of package rational, part 3: number of bits, shifts, division, greatest common divisor (printed by mk.py).
-/
import Derived.Test.YtnjoncgnjdkaoaaGreatDoorKLimbsB
set_option linter.unusedVariables false
set_option linter.unusedSimpArgs false
namespace Go.Proofs.YtnjoncgnjdkaoaaGreatDoor
open Go Go.AL
theorem QV {n:Nat}(nA:(lim n).length<=8796093022208):aj P F.lH [.d (aF (lim n))] (.d (dI (qp n))):=by
 refine aj.intro fn.lH (by rfl) (by rfl) (aA (by rfl)) λE hE=>(AW.sg hE rfl (aC rfl (OL.nil (AW.seq (AW.sg hE rfl (ai rfl (fJ sl.limbs rfl rfl ?_)))))))
 refine dG rfl rfl rfl (OL.nil (AW.cond rfl (λh=>?_) (λh=>?_)))
 .have h:=kK h;have h0:n=0:=dF.1 (by omega)
  exact AW.sg hE rfl (aC rfl (OL.nil (AW.ret (aO.r ⟨_,.tmp rfl .nil,.le (bG.int (by rw[h0];rfl))⟩))))
 .have h:=lD h;have h0:n≠0:=λe=>by rw[e,dR] at h;exact h rfl
  have hb:=ae2 h0;have e1:(((lim n).length:Int)-1).toNat=(lim n).length-1:=by omega
  have ht:=(aZ n).getD ((lim n).length-1);refine AW.skip (AW.seq ?_);have hbl:=EF (x:=(lim n).getD ((lim n).length-1) 0) (k:=32) ht;refine AW.rg hE rfl (ai rfl (fJ sl.limbs rfl rfl (QF rfl rfl (by omega) (ai rfl (ai rfl (fJ sl.limbs rfl rfl (gu rfl rfl (by omega) ?_)))))))
  refine Z9 sl.limbs 0 rfl rfl (by omega) (by omega) rfl rfl ?_
  rw[e1];exact iE ce.u32 rfl (cl (Y3 ht) rfl vL (gu rfl rfl (by omega) (aC rfl (OL.nil (AW.ret (aO.r ⟨_,.tmp rfl .nil,.le (bG.int (by omega))⟩))))))
theorem Dl {A:List Nat}{k:Nat}(hA:iT A)(nA:A.length<=4398046511104)(nk:k<=70368744177664):aj P F.nR [.d (aF A),.d (dI k)] (.d (aF (lim (val A*2 ^ k)))):=by
 refine aj.intro fn.nR (by rfl) (by rfl) (aA (by rfl)) λE hE=>(AW.sg hE rfl (jg rfl (OL.nil (AW.sg hE rfl (ai rfl (bo rfl rfl (c:=.int .i64 ((k / 32:Nat):Int)) (ad7 (by omega)) (ai rfl ?_)))))))
 refine bo rfl rfl (c:=.int .i64 ((k / 32:Nat):Int)) (ad7 (by omega)) (ai rfl (fJ sl.limbs rfl rfl (aH rfl rfl (by omega) (bo rfl rfl (kM (c:=((k / 32+A.length+1:Nat):Int)) (by omega) (wrap_i64 (by omega))) (mkL zn 0 sl.limbs z.u32 (.cons (VC.d _) .nil) rfl rfl (by omega) (by omega) (by omega) rfl λb0=>(oC rfl (OL.nil ?_)))))))
 refine AW.sg hE rfl (aC rfl (OL.nil (AW.seq (AW.sg hE rfl (ai rfl (fJ sl.limbs rfl rfl (ai rfl ?_)))))));refine OL.nil (AW.rename 17 35 rfl (AW.block ?_));refine AW.while (α:=Nat × List Nat × Nat × Nat × Nat) (λ(i,out,r,b,c)=>[(1,.d (dI k)),(5,.bH 35 b out.length c),(6,.d (dU r)),(18,.d (aF A)),(19,.d (dI A.length)),(20,.d (dI i))]) (λ(i,out,r,b,c)=>[(35,.row b c T.u32 1 (out.map zn))]) (λ(i,out,r,b,c)=>out.length=k / 32+i/\iT out/\val out+r*Bp (k / 32+i)=val (A.take i)*2 ^ (k % 32)*Bp (k / 32)/\r<2 ^ (k % 32)/\i<=A.length) (λ(i,out,r,b,c)=>A.length-i) (0,List.replicate (k / 32) 0,0,b0,k / 32+A.length+1) ⟨⟨by simp,iT.zeros _,by simp[ED,iW],Nat.pow_pos (by decide),by omega⟩,.cons vR (.cons (by rw[List.length_replicate];exact bG.bH) .GL),.cons rfl .nil⟩ ?_
 rintro⟨i,out,r,b,c⟩ ⟨h1,hO,h2,h3,h4⟩
 refine AW.sg hE rfl (aX rfl rfl rfl (OL.nil (AW.seq (AW.cond rfl (λh=>?_) (λh=>?_)))))
 .have h:=kK h;refine AW.skip (AW.seq (AW.block (AW.seq ?_)));have hx:=hA.getD i;have hp:2 ^ (k % 32)<=2147483648:=Nat.pow_le_pow_right (n:=2) (by decide) (show k % 32<=31 by omega)
  have hy:A.getD i 0*2 ^ (k % 32)+r<4294967296*2 ^ (k % 32):=by
   have:=Nat.mul_le_mul_right (2 ^ (k % 32)) (show A.getD i 0+1<=4294967296 from hx)
   rw[Nat.add_mul] at this;omega
  refine AW.rg hE rfl (Z9 sl.limbs 0 rfl rfl (by omega) (by omega) rfl rfl ?_)
  rw[Int.toNat_natCast];refine iE ce.u32 rfl (aC rfl (OL.nil (AW.sg hE rfl (ai rfl (ai rfl (cv it.u32 it.u64 rfl (wrap_u64 (by omega)) (ai rfl ?_)))))))
  refine bo rfl rfl (c:=.int .i64 ((k % 32:Nat):Int)) aG9 (aU2 rfl rfl ⟨by omega,by show (((k % 32:Nat):Int)).toNat<=64;omega⟩ (c:=((A.getD i 0*2 ^ (k % 32):Nat):Int)) (by rw[Int.toNat_natCast,QH];exact wrap_u64 ⟨Int.natCast_nonneg _,by omega⟩) (orB (k % 32) (A.getD i 0) rfl rfl rfl h3 (by omega) (aC rfl (OL.nil (AW.sg hE rfl (gU rfl (ai rfl ?_)))))))
  refine cv it.u64 it.u32 rfl (c:=(((A.getD i 0*2 ^ (k % 32)+r) % 4294967296:Nat):Int)) (by rw[gq];omega) (xe sl.limbs (VC.d _).vd rfl (by decide) ?_)
  refine zB sl.limbs rfl rfl rfl (by simp) (VC.d _) (by simp[D.cells]) (by simp;omega) (by simp;omega) (.inr rfl) (ys:=(out++[(A.getD i 0*2 ^ (k % 32)+r) % 4294967296]).map zn) (by simp) (n2:=(out++[(A.getD i 0*2 ^ (k % 32)+r) % 4294967296]).length) (by simp) λb2 c2=>?_
  refine oC rfl (OL.nil (AW.rg hE rfl (ai rfl (Jq rfl rfl rfl (aC rfl (OL.nil (AW.rg hE rfl ?_)))))));refine aH rfl rfl (by omega) (ai rfl (OL.nil ?_))
  exact AW.again (x:=(i,out,r,b,c)) (i+1,out++[(A.getD i 0*2 ^ (k % 32)+r) % 4294967296],(A.getD i 0*2 ^ (k % 32)+r) / 4294967296,b2,c2) (by (simp only[];omega)) ⟨⟨by simp[h1];omega,hO.append (.cons (Nat.mod_lt _ (by decide)) .nil),by rw[yJ,h1,fD hA];exact left_step h2,Nat.div_lt_of_lt_mul hy,by omega⟩,.cons vR (.cons vR (.cons (bG.int (by omega)) .xf)),.cons rfl .nil⟩
 .have h:=lD h;refine AW.exit (AW.seq ?_);have hp:2 ^ (k % 32)<=2147483648:=Nat.pow_le_pow_right (n:=2) (by decide) (show k % 32<=31 by omega)
  have hv:val (out++[r])=val A*2 ^ k:=by
   rw[yJ,h1];have:=h2;rw[show i=A.length by omega,List.take_length] at this
   rw[show i=A.length by omega]
   exact ae3 (by omega) this
  have hO2:iT (out++[r]):=hO.append (.cons (by omega) .nil)
  refine AW.rg hE rfl (gU rfl (ai rfl (cv it.u64 it.u32 rfl (c:=(r:Int)) (wrap_u32 (by omega)) (xe sl.limbs (VC.d _).vd rfl (by decide) (ad2 sl.limbs rfl rfl rfl (by simp) (VC.d _) (by simp[D.cells]) (by simp;omega) (by simp;omega) (.inl rfl) (ys:=(out++[r]).map zn) (by simp) (cl (kV hO2 (by simp;omega)) rfl vL (aC rfl ?_)))))))
  exact OL.nil (AW.ret (aO.r ⟨_,.tmp rfl .nil,.le (aB (by rw[<- hv];rfl))⟩))
theorem Tt {A:List Nat}{k:Nat}(hA:iT A)(nA:A.length<=4398046511104)(nk:k<=70368744177664):aj P F.mX [.d (aF A),.d (dI k)] (.d (aF (lim (val A / 2 ^ k)))):=by
 refine aj.intro fn.mX (by rfl) (by rfl) (aA (by rfl)) λE hE=>(AW.sg hE rfl (jg rfl (OL.nil (AW.sg hE rfl (jg rfl (OL.nil (AW.seq ?_)))))))
 refine AW.sg hE rfl (ai rfl (bo rfl rfl (c:=.int .i64 ((k / 32:Nat):Int)) (ad7 (by omega)) (aC rfl (OL.nil (AW.own 5 30 T.u32 1 rfl rfl (AW.block ?_))))))
 refine AW.while (α:=List Nat × Nat × Nat) (λ(out,b,c)=>[(0,.d (aF A)),(1,.d (dI k)),(5,.bH 30 b out.length c),(6,.d (dI ((k / 32+out.length:Nat):Int)))]) (λ(out,b,c)=>[(30,.row b c T.u32 1 (out.map zn))]) (λ(out,b,c)=>iT out/\val out=val A / 2 ^ k % Bp out.length/\(out.length=0 \/ k / 32+out.length<=A.length)) (λ(out,b,c)=>A.length-(k / 32+out.length)) ([],0,0) ⟨⟨iT.nil,by simp[iW,qL,Nat.mod_one],.inl rfl⟩,.GL,.cons rfl .nil⟩ ?_
 rintro⟨out,b,c⟩ ⟨hO,h1,h2⟩
 refine AW.seq (AW.sg hE rfl (ai rfl (ai rfl (fJ sl.limbs rfl rfl (aX rfl rfl rfl (OL.nil (AW.cond rfl (λh=>?_) (λh=>?_))))))))
 .have h:=kK h;refine AW.skip (AW.seq (AW.block ?_));have hx:=hA.getD (k / 32+out.length+1);have hy:=hA.getD (k / 32+out.length);have hq:(A.getD (k / 32+out.length+1) 0*4294967296+A.getD (k / 32+out.length) 0) / 2 ^ (k % 32)<=(A.getD (k / 32+out.length+1) 0*4294967296+A.getD (k / 32+out.length) 0):=Nat.div_le_self ..;refine AW.rg hE rfl (gU rfl (ai rfl (ai rfl (bo rfl rfl (kM (c:=((k / 32+out.length+1:Nat):Int)) (by omega) (wrap_i64 (by omega))) (cl (oq hA) rfl vL (ad4 rfl rfl rfl (by omega) (ai rfl ?_)))))))
  refine ai rfl (cl (oq hA) rfl vL (orA (a:=A.getD (k / 32+out.length+1) 0*4294967296) (b:=A.getD (k / 32+out.length) 0) 32 (A.getD (k / 32+out.length+1) 0) rfl rfl rfl (by omega) (by omega) (ai rfl (bo rfl rfl (c:=.int .i64 ((k % 32:Nat):Int)) aG9 (YM rfl rfl ⟨by omega,by show (((k % 32:Nat):Int)).toNat<=64;omega⟩ (c:=(((A.getD (k / 32+out.length+1) 0*4294967296+A.getD (k / 32+out.length) 0) / 2 ^ (k % 32):Nat):Int)) (by rw[Int.toNat_natCast,GK]) ?_)))))
  refine cv it.u64 it.u32 rfl (c:=(((A.getD (k / 32+out.length+1) 0*4294967296+A.getD (k / 32+out.length) 0) / 2 ^ (k % 32) % 4294967296:Nat):Int)) (by rw[gq];omega) (xe sl.limbs (VC.d _).vd rfl (by decide) ?_)
  refine zB sl.limbs rfl rfl rfl (by simp) (VC.d _) (by simp[D.cells]) (by simp;omega) (by simp;omega) (.inr rfl) (ys:=(out++[(A.getD (k / 32+out.length+1) 0*4294967296+A.getD (k / 32+out.length) 0) / 2 ^ (k % 32) % 4294967296]).map zn) (by simp) (n2:=(out++[(A.getD (k / 32+out.length+1) 0*4294967296+A.getD (k / 32+out.length) 0) / 2 ^ (k % 32) % 4294967296]).length) (by simp) λb2 c2=>?_
  refine oC rfl (OL.nil (AW.rg hE rfl (ai rfl (aH rfl rfl (by omega) (aC rfl (OL.nil ?_))))))
  exact AW.again (x:=(out,b,c)) (out++[(A.getD (k / 32+out.length+1) 0*4294967296+A.getD (k / 32+out.length) 0) / 2 ^ (k % 32) % 4294967296],b2,c2) (by simp only[iU,jL];omega) ⟨⟨hO.append (.cons (Nat.mod_lt _ (by decide)) .nil),by rw[right_step hA (by omega) (by omega) h1];simp,.inr (by simp;omega)⟩,.cons vR (.cons vR (.cons vR (.cons (bG.int (by simp;omega)) .nil))),.cons rfl .nil⟩
 .have h:=lD h;refine AW.exit (AW.seq ?_);have hv:val out=val A / 2 ^ k:=YQ hA (Q:=k / 32) (s:=k % 32) (by omega) h1 (by omega)
  refine AW.freeze 30 rfl (AW.to [(5,.d (aF out))] [] (.cons (eH (by simp) rfl) .nil) .nil ?_)
  exact AW.rg hE rfl (ai rfl (cl (kV hO (by omega)) rfl vL (aC rfl (OL.nil (AW.ret (aO.r ⟨_,.tmp rfl .nil,.le (aB (by rw[<- hv];rfl))⟩))))))
theorem ag6 {a v:Nat}:min (a / v) 4294967295<4294967296:=by omega
theorem F5 {A:List Nat}{n:Nat}(hA:iT A)(nA:A.length<=1099511627776)(nn:(lim n).length<=1099511627776)(h0:n≠0):aj P F.nO [.d (aF A),.d (aF (lim n))] (.jE [.d (aF (lim (val A / n))),.d (aF (lim (val A % n)))]):=by
 have hl0:(lim n).length≠0:=λe=>h0 (dF.1 e);have hbl:=SN n;have hpS:=Nat.pow_pos (n:=32*(lim n).length-qp n) (a:=2) (by decide)
 have hv0:n*2 ^ (32*(lim n).length-qp n)≠0:=Nat.ne_of_gt (Nat.mul_pos (by omega) hpS)
 generalize hS:32*(lim n).length-qp n=S at *;generalize hU:val A*2 ^ S=U;generalize hV:n*2 ^ S=v at *;have nU:(lim U).length<=2199023255552:=by
  rw[<- hU];have h1:=Xt (a:=val A) (S:=S) (m:=(lim n).length) (by omega)
  have h2:=aw5 hA;omega
 have nV:(lim v).length<=2199023255552:=by
  rw[<- hV];have h1:=Xt (a:=n) (S:=S) (m:=(lim n).length) (by omega)
  omega
 have hlv:(lim v).length≠0:=λe=>hv0 (dF.1 e);refine aj.intro fn.nO (by rfl) (by rfl) (aA (by rfl)) λE hE=>(AW.sg hE rfl (jg rfl (jg rfl (OL.nil (AW.seq (AW.sg hE rfl (ai rfl ?_)))))))
 refine fJ sl.limbs rfl rfl (dG rfl rfl rfl (OL.nil (AW.cond rfl (λh=>?_) (λh=>?_))))
 .have h:=kK h;have hone:lim n=[n]:=aw3 (by omega)
  have hn32:n<4294967296:=by have:=qo n;rw[hone] at this;exact this
  rw[hone];refine AW.sg hE rfl (ai rfl (ai rfl (Z9 (l:=[n]) sl.limbs 0 rfl rfl (by decide) (Int.zero_lt_one) rfl rfl (iE ce.u32 rfl (cl (Tq hA (by omega) (by omega) hn32) rfl vL (yu rfl (ex rfl rfl ?_)))))))
  refine ex rfl rfl (aC rfl (aC rfl (OL.nil (AW.sg hE rfl (ai rfl (ai rfl (xe sl.limbs (VC.d _).vd rfl (by decide) ?_)))))))
  exact cl (kV (L:=[val A % n]) (.cons (Nat.lt_trans (Nat.mod_lt _ (by omega)) hn32) .nil) (by simp)) rfl vL (aC rfl (aC rfl (OL.nil (AW.ret (aO.r ⟨_,.tmp rfl (.tmp rfl .nil),_,.cons (.le vR) (.cons (.le (aB (y:=.d (aF (lim (val A % n)))) (by rw[<- val_one (val A % n)];rfl))) .nil),rfl⟩)))))
 .have h:=lD h;refine AW.skip (AW.sg hE rfl (ai rfl (fJ sl.limbs rfl rfl (bo rfl rfl (J6 (c:=((32*(lim n).length:Nat):Int)) (by omega) (wrap_i64 (by omega))) (ai rfl (cl (QV (by omega)) rfl vL (bo rfl rfl (nN (c:=(S:Int)) (by omega) (wrap_i64 (by omega))) ?_)))))))
  refine aC rfl (OL.nil (AW.sg hE rfl (ai rfl (ai rfl (cl (Dl hA (by omega) (by omega)) rfl vL (ai rfl (ai rfl ?_)))))))
  refine cl (Dl (aZ n) (by omega) (by omega)) rfl vL ?_
  rw[bf,hU,hV];refine aC rfl (aC rfl (OL.nil (AW.sg hE rfl (ai rfl (fJ sl.limbs rfl rfl (ai rfl (fJ sl.limbs rfl rfl ?_)))))));refine gu rfl rfl (by omega) (aH rfl rfl (by omega) (mx rfl rfl (c:=(((lim U).length+1-(lim v).length:Nat):Int)) (by omega) (mkL zn 0 sl.limbs z.u32 (.cons (VC.d _) .nil) rfl rfl (Nat.le_refl _) (by omega) (by omega) rfl λb=>(oC rfl (OL.nil ?_)))))
  generalize hm:(lim U).length+1-(lim v).length=m;refine AW.seq (AW.sg hE rfl (gU rfl (Iy sl.limbs rfl rfl (gu rfl rfl (by omega) (aC rfl (OL.nil (AW.block ?_)))))))
  refine AW.while (α:=Nat × List Nat × Nat) (λ(k,q,u)=>[(4,.bH 49 b m m),(8,.d (dI S)),(9,.d (aF (lim u))),(10,.d (aF (lim v))),(11,.d (dI ((k:Int)-1)))]) (λ(k,q,u)=>[(49,.row b m T.u32 1 (q.map zn))]) (λ(k,q,u)=>q.length=m/\iT q/\U=val (q.drop k)*v*Bp k+u/\u<v*Bp k/\k<=m) (λ(k,q,u)=>k) (m,List.replicate m 0,U) ⟨⟨by simp,iT.zeros _,by rw[List.drop_eq_nil_of_le (by simp),iW];omega,VI hv0 (by omega),Nat.le_refl _⟩,.Gs,.cons rfl .nil⟩ ?_
  rintro⟨k,q,u⟩ ⟨h1,hq,h2,h3,h4⟩
  refine AW.seq (AW.sg hE rfl (ai rfl (ql rfl rfl rfl (OL.nil (AW.cond rfl (λh=>?_) (λh=>?_))))))
  .have h:=kK h;have hpk:0<v*Bp (k-1):=Nat.mul_pos (by omega) (vN _)
   have hst:=YR (U:=U) (u:=u) (v:=v) (k:=k-1) (Q:=val (q.drop k)) hv0 (by rw[show k-1+1=k by omega];exact h2)
   have hgs:=ae4 (u:=u) (v:=v) (k:=k-1) hv0 (by rw[show k-1+1=k by omega];exact h3)
   have nu:(lim u).length<=4398046511104:=by have:=aJ9 h3;omega
   refine AW.skip (AW.seq (AW.block (AW.sg hE rfl (ai rfl (ai rfl (fJ sl.limbs rfl rfl (bo rfl rfl (kM (c:=((k-1+(lim v).length:Nat):Int)) (by omega) (wrap_i64 (by omega))) ?_)))))))
   refine aC rfl (OL.nil (AW.seq ?_));have hx:=(aZ u).getD (k-1+(lim v).length);have hy:=(aZ u).getD (k-1+(lim v).length-1);have hz:=(aZ v).getD ((lim v).length-1);have hzp:=Xr hv0;refine AW.rg hE rfl (ai rfl (ai rfl (cl (oq (aZ u)) rfl vL (ad4 rfl rfl rfl (by omega) (ai rfl (ai rfl (bo rfl rfl (nN (c:=((k-1+(lim v).length-1:Nat):Int)) (by omega) (wrap_i64 (by omega))) ?_)))))))
   refine cl (oq (aZ u)) rfl vL (orA (a:=(lim u).getD (k-1+(lim v).length) 0*4294967296) (b:=(lim u).getD (k-1+(lim v).length-1) 0) 32 ((lim u).getD (k-1+(lim v).length) 0) rfl rfl rfl (by omega) (by omega) (ai rfl (ai rfl (fJ sl.limbs rfl rfl (bo rfl rfl (nN (c:=(((lim v).length-1:Nat):Int)) (by omega) (wrap_i64 (by omega))) (cl (oq (aZ v)) rfl vL (bo rfl rfl (Xn (by omega) hzp) ?_)))))))
   refine mn rfl rfl (aw4 _) (aC rfl (OL.nil ?_));have hgl:=ag6 (a:=(lim u).getD (k-1+(lim v).length) 0*4294967296+(lim u).getD (k-1+(lim v).length-1) 0) (v:=(lim v).getD ((lim v).length-1) 0);generalize hg0:min (((lim u).getD (k-1+(lim v).length) 0*4294967296+(lim u).getD (k-1+(lim v).length-1) 0) / (lim v).getD ((lim v).length-1) 0) 4294967295=g0 at *;refine AW.seq ?_;have nvg:∀ g,g<4294967296->(lim (v*g)).length<=4398046511104:=λg hg=>by have:=Oc (v:=v) hg;omega
   refine AW.rg hE rfl (ai rfl (ai rfl (cv it.u64 it.u32 rfl (c:=(g0:Int)) (wrap_u32 (by omega)) (xe sl.limbs (VC.d _).vd rfl (by decide) (cl (kV (L:=[g0]) (.cons hgl .nil) (by simp)) rfl vL (cl (oD (aZ v) (aZ _) (by omega) (aw6 hgl)) rfl vL ?_))))))
   rw[bf,bf,val_one];refine ai rfl (bo rfl rfl (J6 (c:=((32*(k-1):Nat):Int)) (by omega) (wrap_i64 (by omega))) (cl (Dl (aZ _) (nvg g0 hgl) (by omega)) rfl vL ?_))
   rw[bf,<- vP];refine aC rfl (OL.nil (AW.seq (AW.block ?_)));refine AW.while (α:=Nat) (λg=>[(4,.bH 49 b m m),(8,.d (dI S)),(9,.d (aF (lim u))),(10,.d (aF (lim v))),(11,.d (dI ((k:Int)-1))),(13,.d (dU g)),(14,.d (aF (lim (v*g*Bp (k-1)))))]) (λg=>[(49,.row b m T.u32 1 (q.map zn))]) (λg=>g<4294967296/\u / (v*Bp (k-1))<=g) (λg=>g) g0 ⟨⟨hgl,hgs⟩,.rq7,.cons rfl .nil⟩ ?_
   rintro g ⟨hg2,hg3⟩
   have nP:(lim (v*g*Bp (k-1))).length<=8796093022208:=by
    have h1:=VK (v*g) (k-1);have h2:=nvg g hg2;omega
   have eP:v*g*Bp (k-1)=g*(v*Bp (k-1)):=by simp only[Nat.mul_assoc,Nat.mul_left_comm,Nat.mul_comm]
   refine AW.seq (AW.sg hE rfl (ai rfl (ai rfl (cl (yx (aZ _) (aZ _) (by omega) nP) rfl vL ?_))))
   rw[bf,bf];refine aX rfl rfl rfl (OL.nil (AW.cond rfl (λhc=>?_) (λhc=>?_)))
   .have hlt:u<v*g*Bp (k-1):=cmp_neg (kK hc);have hg1:0<g:=Nat.pos_of_ne_zero λe=>by rw[e] at hlt;simp at hlt
    have bf2:v*Bp (k-1)<=v*g*Bp (k-1):=by rw[eP];exact Nat.le_mul_of_pos_left _ hg1
    have hdec:=YS (v:=v) (k:=k-1) hg1;refine AW.skip (AW.block (AW.sg hE rfl (ai rfl (ai rfl (ai rfl (bo rfl rfl (J6 (c:=((32*(k-1):Nat):Int)) (by omega) (wrap_i64 (by omega))) (cl (Dl (aZ _) (by omega) (by omega)) rfl vL ?_)))))))
    rw[bf,<- vP];refine cl (Ap (aZ _) (aZ _) nP (by rw[bf,bf];exact bf2)) rfl vL ?_
    rw[bf,bf];exact aC rfl (OL.nil (AW.rg hE rfl (ai rfl (J5 rfl rfl (by omega) (aC rfl (OL.nil (AW.again (x:=g) (g-1) (by omega) ⟨⟨by omega,ae6 hlt⟩,.cons vR (.cons vR (.cons vR (.cons vR (.cons vR (.cons (bG.int (by omega)) (.cons (aB (by rw[hdec];rfl)) .nil)))))),.cons rfl .nil⟩)))))))
   .have aV7:v*g*Bp (k-1)<=u:=GU (lD hc);have hge:g=u / (v*Bp (k-1)):=Nat.le_antisymm ((Nat.le_div_iff_mul_le hpk).2 (by rw[<- eP];exact aV7)) hg3
    refine AW.exit (AW.sg hE rfl (ai rfl (ai rfl (cl (Ap (aZ _) (aZ _) (by omega) (by rw[bf,bf];exact aV7)) rfl vL ?_))))
    rw[bf,bf,eP];refine aC rfl (OL.nil (AW.rg hE rfl (gU rfl (ai rfl (ai rfl (cv it.u64 it.u32 rfl (c:=(g:Int)) (wrap_u32 (by omega)) (YA sl.limbs rfl rfl (by omega) (by omega) (i:=k-1) (by omega) ?_)))))))
    refine Oa sz.u32 rfl (VC.d _).vd rfl rfl (by simp;omega) (es2:=(q.set (k-1) g).map zn) (by rw[List.map_set]) (OL.nil (AW.rg hE rfl (ai rfl (gu rfl rfl (by omega) (aC rfl (OL.nil ?_))))))
    exact AW.again (x:=(k,q,u)) (k-1,q.set (k-1) g,u-g*(v*Bp (k-1))) (by simp only[];omega) ⟨⟨by simp[h1],hq.set _ hg2,by rw[FI (by omega) (by omega),hge];exact hst.1,by rw[hge];exact hst.2,by omega⟩,.cons vR (.cons vR (.cons vR (.cons vR (.cons (bG.int (by omega)) .nil)))),.cons rfl .nil⟩
  .have h:=lD h;refine AW.exit (AW.seq ?_);have hk0:k=0:=by omega
   subst hk0;rw[List.drop_zero,qL,Nat.mul_one] at h2;rw[qL,Nat.mul_one] at h3;have he:=ae5 (a:=val A) (b:=n) (s:=S) (U:=U) h0 (by rw[hU,hV];exact h2) (by rw[hV];exact h3)
   have nu:(lim u).length<=4398046511104:=by have:=rF (Nat.le_of_lt h3);omega
   refine AW.freeze 49 rfl (AW.to [(4,.d (aF q)),(8,.d (dI S)),(9,.d (aF (lim u)))] [] (.cons (eH (by simp[h1]) rfl) .gy) .nil ?_)
   refine AW.rg hE rfl (ai rfl (cl (kV hq (by omega)) rfl vL (ai rfl (ai rfl (cl (Tt (aZ u) nu (by omega)) rfl vL ?_)))))
   rw[bf];exact aC rfl (aC rfl (OL.nil (AW.ret (aO.r ⟨_,.tmp rfl (.tmp rfl .nil),_,.cons (.le (aB (y:=.d (aF (lim (val A / n)))) (by rw[<- he.1];rfl))) (.cons (.le (aB (y:=.d (aF (lim (val A % n)))) (by rw[<- he.2];rfl))) .nil),rfl⟩))))
theorem O3 {a b:Nat}(na:(lim a).length<=1099511627776)(nb:(lim b).length<=1099511627776):aj P F.oN [.d (aF (lim a)),.d (aF (lim b))] (.d (aF (lim (Nat.gcd a b)))):=by
 refine aj.intro fn.oN (by rfl) (by rfl) (aA (by rfl)) λE hE=>(AW.sg hE rfl (jg rfl (OL.nil (AW.seq (AW.block ?_)))))
 refine AW.while (α:=Nat × Nat) (λ(x,y)=>[(0,.d (aF (lim x))),(1,.d (aF (lim y)))]) (λ(x,y)=>[]) (λ(x,y)=>(lim x).length<=1099511627776/\(lim y).length<=1099511627776/\Nat.gcd x y=Nat.gcd a b) (λ(x,y)=>y) (a,b) ⟨⟨na,nb,rfl⟩,.gy,.nil⟩ ?_
 rintro⟨x,y⟩ ⟨h1,h2,h3⟩
 refine AW.seq (AW.sg hE rfl (ai rfl (fJ sl.limbs rfl rfl (gV rfl rfl rfl (OL.nil (AW.cond rfl (λh=>?_) (λh=>?_)))))))
 .have h:=kK h;have h0:y≠0:=λe=>by rw[e,dR] at h;exact absurd h (by decide)
  refine AW.skip (AW.block (AW.sg hE rfl (ai rfl (ai rfl (cl (F5 (aZ x) h1 h2 h0) rfl vL ?_)))));rw[bf];refine yu rfl (ex rfl rfl (ex rfl rfl (aC rfl (aC rfl (OL.nil (AW.rg hE rfl (ai rfl ?_)))))));refine ai rfl (aC rfl (aC rfl (OL.nil ?_)));exact AW.again (x:=(x,y)) (y,x % y) (by exact Nat.mod_lt _ (Nat.pos_of_ne_zero h0)) ⟨⟨h2,Nat.le_trans (dN (Nat.lt_trans (Nat.mod_lt x (Nat.pos_of_ne_zero h0)) (qo y))) h2,by rw[<- h3,Nat.gcd_comm x y,Nat.gcd_rec y x,Nat.gcd_comm]⟩,.gy,.nil⟩
 .have h:=lD h;have h0:y=0:=dF.1 (by omega)
  exact AW.exit (AW.sg hE rfl (ai rfl (aC rfl (OL.nil (AW.ret (aO.r ⟨_,.tmp rfl .nil,.le (aB (by rw[<- h3,h0,Nat.gcd_zero_right];rfl))⟩))))))
