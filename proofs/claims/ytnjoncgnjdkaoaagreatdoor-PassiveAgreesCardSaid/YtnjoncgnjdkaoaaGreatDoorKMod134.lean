/-
  M, chapter 30: a sample with one changed value.
-/
import Derived.Test.YtnjoncgnjdkaoaaGreatDoorKPvG
set_option linter.unusedVariables false
set_option linter.unusedSimpArgs false
namespace Go.Proofs.YtnjoncgnjdkaoaaGreatDoor
open Go Go.AL
def aH8:List bW->List Rat->List Rat->List Rat
 | [],_,t=>t
 | r::rs,w,t=>aH8 rs (jl w r) (Yi t r.c (jZ w r))
structure aM5 (n N:Nat) (rs:List bW):Prop where
 len:∀ r,r ∈ rs->r.v.length=n
 piv:∀ r,r ∈ rs->r.p=iP r.v/\r.p<n/\r.v.getD r.p 0≠0
 cl:∀ r,r ∈ rs->r.c.length=N
 zr:KJ 16777215 rs
 le:rs.length<=6
theorem au1 {t c:List Rat}{q:Rat}{T C:Nat}(ht:∀ i,sz (t.getD i 0)<=T)(hc:∀ i,sz (c.getD i 0)+sz q<=C)(i:Nat):sz ((Yi t c q).getD i 0)<=T+C+1:=by
 unfold Yi;refine Nb t.length (f:=λi=>t.getD i 0-c.getD i 0*q) (by omega) (λi=>?_) i
 have h1:=QW (t.getD i 0) (c.getD i 0*q);have h2:=mD (c.getD i 0) q;have h3:=ht i;have h4:=hc i;omega
theorem Vm {B:Nat}:∀ (rs:List bW) (j:Nat) (w t:List Rat),(∀ k r,rs[k]? = some r->(∀ i,sz (r.v.getD i 0)+1<=4 ^ (j+k)*(B+1))/\∀ i,sz (r.c.getD i 0)+1<=4 ^ (j+k)*(B+1))->(∀ i,sz (w.getD i 0)+1<=4 ^ j*(B+1))->(∀ i,sz (t.getD i 0)+1<=4 ^ j*(B+1)) ->
  ∀ i,sz ((aH8 rs w t).getD i 0)+1<=4 ^ (j+rs.length)*(B+1)
 | [],_,_,_,_,_,ht,i=>ht i
 | r :: rs, j, w, t, h, hw, ht, i => by
  have h0:=h 0 r rfl;rw[Nat.add_zero] at h0;have:=Vm rs (j+1) (jl w r) (Yi t r.c (jZ w r)) (λk q hq=>by
   have:=h (k+1) q hq
   rwa [show j+(k+1)=j+1+k by omega] at this) (λi=>by
   have:=Go.AL.H7 hw h0.1 i
   rwa [Nat.pow_succ,Nat.mul_comm (4 ^ j),Nat.mul_assoc]) (λi=>by
   have h2:=Wv hw h0.1;have:=au1 (t:=t) (c:=r.c) (q:=jZ w r) (T:=4 ^ j*(B+1)-1) (C:=3*(4 ^ j*(B+1))-3) (λi=>by have:=ht i;omega) (λi=>by have:=h0.2 i;omega) i
   have h3:=hw 0;rw[Nat.pow_succ,Nat.mul_comm (4 ^ j),Nat.mul_assoc];omega) i
  rwa [aH8,List.length_cons,show j+(rs.length+1)=j+1+rs.length by omega]
theorem aM5.bounds {n N k:Nat}{rs:List bW}{w:List Rat}(z:aM5 n N rs)(hk:k<rs.length)(zw:∀ i,sz (w.getD i 0)<=16777215) :
  (∀ i,sz ((bg (rs.take k) w).getD i 0)<=17179869183)/\(∀ i,sz ((aH8 (rs.take k) w (List.replicate N 0)).getD i 0)<=17179869183)/\(∀ i,sz ((rs.getD k default).v.getD i 0)<=17179869183)/\∀ i,sz ((rs.getD k default).c.getD i 0)<=17179869183:=by
 obtain⟨h1,_,h3,h4⟩:=z.zr.bounds (n:=N) z.le hk zw;refine⟨h1,λi=>?_,h3,h4⟩;have ht:(rs.take k).length=k:=by rw[List.length_take];omega
 have hle:=z.le;have hb:=JS (show k<=5 by omega)
 have h:=Vm (B:=16777215) (rs.take k) 0 w (List.replicate N 0) (λk r hk=>by rw[Nat.zero_add];exact (z.zr.take _) k r hk) (λi=>by rw[Nat.pow_zero,Nat.one_mul];have:=zw i;omega) (λi=>by rw[Nat.pow_zero,Nat.one_mul,Nc,gm];decide) i
 rw[Nat.zero_add,ht] at h;omega
structure Au.Rk (a:Au) (s:Nat):Prop where
 take:Au.Take a s
 wt:Au.Wt a
 s4:s<=4
 rz:(Ul a).Sz 134217728 20
 fa:a.Fw
 ff:(Gs a).Fw
 fr:(Gs (Ul a)).Fw
end Go.Proofs.YtnjoncgnjdkaoaaGreatDoor
namespace Go.AL
open Go Go.BigFrame
section
variable {m:dP}{N E:Nat}
theorem YI (hn:m.n<=N)(hi:∀ i,IB 1 24 (m.ini.getD i 0))(he:∀ s i j,IB 1 E (oq m s i j)):∀ (n:Nat) (w:List Int),w.length=n->∀ i,IB (n+1) (24*(N*E) ^ n) ((bP m w).getD i 0)
 | 0,w,h,i=>by rw[IK h];exact (hi i).mono (Nat.le_refl _)
 | n+1,w,h,i=>by
  have hne:w≠[]:=λe=>by subst e;cases h
  obtain⟨y,x,rfl⟩:∃ y x,w=y++[x]:=⟨w.dropLast,w.getLast hne,(List.dropLast_concat_getLast hne).symm⟩;rw[lm];unfold stepM;refine an9 (λc=>?_) i;have h1:=IB.aX (k:=n+1+1) (C:=24*(N*E) ^ n*E) (λa=>(YI hn hi he n y (by rw[jG,oU] at h;omega) a).mul (he (x.toNat-1) a c)) m.n
  refine h1.mono ?_;have h2:=Nat.mul_le_mul_right (24*(N*E) ^ n*E) hn;refine Nat.le_trans h2 (Nat.le_of_eq ?_);rw[Nat.pow_succ,Nat.mul_left_comm];exact Nat.mul_assoc ..
theorem aH9 (hn:m.n<=N)(hi:∀ i,IB 1 24 (m.ini.getD i 0))(hf:∀ i,IB 1 24 (m.fin.getD i 0))(he:∀ s i j,IB 1 E (oq m s i j))(w:List Int):IB (w.length+2) (N*(24*(N*E) ^ w.length*24)) (wV m w):=by
 unfold wV vZ;have h1:=IB.aX (k:=w.length+1+1) (C:=24*(N*E) ^ w.length*24) (λa=>(YI hn hi he w.length w rfl a).mul (hf a)) m.n;exact h1.mono (Nat.mul_le_mul_right _ hn)
end
section
variable {a:Au}{s most:Nat}{w:List Int}
theorem IE {k C:Nat}{l:List Rat}(h:∀ q,q ∈ l->IB k C q)(i:Nat):IB k C (l.getD i 0):=by
 rcases Nat.lt_or_ge i l.length with hi|hi
 .exact h _ (getD_mem hi 0)
 .rw[Ai hi];exact IB.zero
theorem Pla.ent (p:Pla a s most)(t i j:Nat):IB 1 336 (oq (cZ [a]) t i j):=by
 by_cases h:t<a.sym/\i<a.st/\j<a.st
 .rw[I8 h.1 (by rw[jm];exact h.2.1) (by rw[jm];exact h.2.2)]
  simp only[uJ,if_pos h.2.1,if_pos h.2.2];have h1:IB 1 (a.aS.length*24) (iU a.aS t i j):=IB.jR λx hx=>by
   split
   .exact p.arc x hx
   .exact IB.zero
  exact h1.mono (Nat.mul_le_mul_right 24 p.num)
 .rw[show oq (cZ [a]) t i j = 0 from ?_]
  .exact IB.zero
  .unfold oq;by_cases ht:t<a.sym
   .rw[show (cZ [a]).qL.getD t []=GK (aJ [a]) (uJ [a] t) from aT _ _ ht,jm]
    by_cases hi:i<a.st
    .unfold GK;rw[aT _ _ hi,Ai (by simp;omega)]
    .unfold GK;rw[Ai (l:=(List.range _).map _) (by simp;omega)];rfl
   .rw[Ai (l:=(cZ [a]).qL) (by simp[cZ];omega)];rfl
theorem Pla.wt (p:Pla a s most)(w:List Int):IB (w.length+2) (most*(24*(most*336) ^ w.length*24)) (iD a w) :=
 aH9 (m:=cZ [a]) (by rw[show (cZ [a]).n=a.st from jm];exact p.st) (by rw[show (cZ [a]).ini=a.ini++[] from rfl,List.append_nil];exact IE p.ini) (by rw[show (cZ [a]).fin=a.fin++[] from rfl,List.append_nil];exact IE p.fin) p.ent w
theorem Pla.wt2 (p:Pla a s 2)(hl:w.length<=4):IB 6 (1152*672 ^ 4) (iD a w):=by
 have h:=(p.wt w).up (4-w.length);rw[show w.length+2+(4-w.length)=6 by omega] at h
 refine h.mono ?_;rcases (by omega:w.length=0 \/ w.length=1 \/ w.length=2 \/ w.length=3 \/ w.length=4) with e|e|e|e|e <;> rw[e] <;> decide
theorem RU {n:Int}{C:Nat}(h:n.natAbs*46656<=C):IB 6 C (n:Rat):=⟨n*46656,by
 rw[Rat.intCast_mul];rfl,by rw[Int.natAbs_mul];exact h⟩
end
def RV:List Rat:=[((1:Int):Rat),((2:Int):Rat),((4:Int):Rat),((8:Int):Rat)]
def kv2:List Rat:=[((1:Int):Rat),((2:Int):Rat),((4:Int):Rat),((9:Int):Rat)]
abbrev kF (vs:List Rat):List Int->Rat:=aC (ah 1 3) vs
abbrev kO (vs:List Rat):Au:=NY 1 (kF vs) (ah 1 1)
theorem au2:eY (kF RV) (ah 1 1) (ah 1 1).length=[[]]:=by decide +kernel
theorem au3:bM (iF (kF RV) (ah 1 1) (ah 1 1).length) (uj (kF RV) (ah 1 1) [] 1)=false:=by decide +kernel
theorem aI1:∀ w,w ∈ ah 1 3->iD (kO RV) w=kF RV w:=by decide +kernel
theorem aI2:¬ ∀ w,w ∈ ah 1 3->iD (kO kv2) w=kF kv2 w:=by decide +kernel
theorem au4:(dZ (kO RV).aS).length=1/\((dZ (kO RV).aS).getD 0 default).q=((2:Int):Rat)/\(kO RV).st=1:=by decide +kernel
theorem au5 {y:Option Au}(h:RcQ 1 (kF RV) (ah 1 1) (ah 1 3) y):y=some (kO RV):=by
 cases y with
 | none =>
  rcases h with ⟨u,l,hu,l1,l2,hg⟩|⟨w,hw,hne⟩
  .rw[au2,List.mem_singleton] at hu;subst hu;obtain rfl:l=1:=by omega
   rw[au3] at hg;cases hg
  .exact absurd (aI1 w hw) hne
 | some a=>rw[h.1]
theorem au6 {y:Option Au}(h:RcQ 1 (kF kv2) (ah 1 1) (ah 1 3) y):y=none:=by
 cases y with
 | none=>rfl
 | some a =>
  obtain⟨rfl,_,h3⟩:=h;exact absurd h3 aI2
theorem IG {n:Int}(h:n.natAbs<=100):sz ((n:Rat))<=1:=(RU (C:=4665600) (by omega)).sz (t:=1) (by decide) (by decide)
theorem aV7:Small 1 RV:=λq hq=>by
 simp only[RV,List.mem_cons,List.not_mem_nil,or_false] at hq;rcases hq with rfl|rfl|rfl|rfl <;> exact IG (by decide)
theorem aV8:Small 1 kv2:=λq hq=>by
 simp only[kv2,List.mem_cons,List.not_mem_nil,or_false] at hq;rcases hq with rfl|rfl|rfl|rfl <;> exact IG (by decide)
theorem aV9 {q:Rat}{C:Nat}(h:IB 6 C q)(hC:C*6<=3888*1080 ^ 5):IB 7 (3888*1080 ^ 5) q:=(h.up 1).mono hC
theorem aW0 (w:List Int):IB 7 (3888*1080 ^ 5) (kF RV w):=aV9 (C:=4665600) (IE (λq hq=>by
 simp only[RV,List.mem_cons,List.not_mem_nil,or_false] at hq;rcases hq with rfl|rfl|rfl|rfl <;> exact RU (by decide)) _) (by decide +kernel)
theorem aW1 (w:List Int):IB 7 (3888*1080 ^ 5) (kF kv2 w):=aV9 (C:=4665600) (IE (λq hq=>by
 simp only[kv2,List.mem_cons,List.not_mem_nil,or_false] at hq;rcases hq with rfl|rfl|rfl|rfl <;> exact RU (by decide)) _) (by decide +kernel)
end Go.AL
namespace Go.Proofs.YtnjoncgnjdkaoaaGreatDoor
open Go Go.AL
theorem au7 {a:Au}{s most:Nat}(p:Pla a s most)(h6:most<=6):Au.Take a s :=
 ⟨⟨p.ok,p.sz.up (by decide) (by decide),p.sym,by have:=p.s3;have:=p.sym;omega,by have:=p.st;omega⟩,p.few h6⟩
theorem aW2 {a:Au}{s most:Nat}(p:Pla a s most)(h6:most<=6):Au.Wt a:=⟨p.ok,p.sz.up (by decide) (by decide),by have:=p.s3;have:=p.sym;omega,by have:=p.st;omega⟩
def OD (y:Option Au):Au:=(y.map ja).getD ⟨0,0,[],[],[]⟩
def bh4 (y:Option Au):Int:=if y.isSome then 1 else 0
def bh5 (y:Option Au):Int:=if y.isSome then 0 else 24
theorem aI3 (y:Option Au):aU5 y=.jS [.ag [.d (dI (bh4 y)),.d (.sl []),.d (dI (OD y).sym),.d (dI (OD y).st),.d (wG (OD y).ini),.d (wG (OD y).fin),.d (oI (OD y).aS)],.d (dI (bh5 y))]:=by
 cases y <;> rfl
theorem Oq {s m:Nat}{vs:List Rat}{Z:Nat}(hs:1<=s/\s<=2)(m4:m+1<=4)(hb:(ah s (m+1)).length<=4000)(hl:vs.length=(ah s (m+1)).length)(h1:1<=Z)(h6:Z<=6)(zs:Small Z vs)(cC:(ah s (m / 2)).length<=3)(hib:∀ w,IB 7 (3888*1080 ^ 5) (aC (ah s (m+1)) vs w)) :
  jw P F.qA [.d (dI s),.d (dI ((m+1:Nat):Int)),.d (iQ vs)] jO (λy:Option Au=>.jS [.ag [.d (dI (bh4 y)),.d (.sl []),.d (dI (OD y).sym),.d (dI (OD y).st),.d (wG (OD y).ini),.d (wG (OD y).fin),.d (oI (OD y).aS)],.d (dI (bh5 y))]) (λ_=>jO) (RcQ s (aC (ah s (m+1)) vs) (ah s (m / 2)) (ah s (m+1))):=by
 have h:=as8 hs m4 hb hl h1 h6 zs cC hib
 rwa [show aU5=_ from funext aI3] at h
set_option maxRecDepth 8000 in
set_option maxHeartbeats 3200000 in
theorem au8  : aj P F.Aj [] (.d (dB true)):=by
 obtain⟨ha1,ha2,ha3⟩:=au4;have q2:sz ((2:Int):Rat)<=1:=IG (by decide)
 refine aj.intro fn.Aj (by rfl) (by rfl) (aB (by rfl)) λE hE=>(AW.sg hE rfl (aF rfl (OL.nil (AW.seq (AW.vC (by rw[hE];rfl) (SK.fM (bJ rfl .bZ (Bh (n:=1) (by decide)) (OL.nil ?_))))))))
 refine SK.fM (bJ rfl .bZ (Bh (n:=2) (by decide)) (OL.nil ?_))
 refine SK.fM (bJ rfl .bZ (Bh (n:=4) (by decide)) (OL.nil ?_))
 refine SK.fM (bJ rfl .bZ (Bh (n:=8) (by decide)) (OL.nil ?_))
 refine SK.fM (ltN (ys:=[dQ ((1:Int):Rat),dQ ((2:Int):Rat),dQ ((4:Int):Rat),dQ ((8:Int):Rat)]) sl.bQ rfl (J8 xP (J8 xP (J8 xP (J8 xP pdN)))) rfl (by decide) (by decide) (λy hy=>by simp at hy;rcases hy with rfl|rfl|rfl|rfl <;> rfl) (OL.nil ?_))
 refine SK.IY (SO.JF (args':=[.d (dI 1),.d (dI 3),.d (iQ RV)]) (show 11<E.n by rw[hE];exact Nat.le_of_ble_eq_true (by rfl)) rfl vL (Mc:=jO) (λ_ _ h=>by cases h) (Oq (s:=1) (m:=2) (vs:=RV) (Z:=1) (by decide) (by decide) (by decide +kernel) (by decide +kernel) (by decide) (by decide) aV7 (by decide +kernel) aW0) (λ_ _ _ h=>h) ?_)
 rintro y hy
 obtain rfl:=au5 hy;refine SK.fM (zW rfl (OL.nil ?_));refine SK.fM (ex rfl rfl (OL.nil ?_));refine SK.fM (ex rfl rfl (OL.nil ?_));refine SK.fM (al z.Auto rfl λb1=>OL.nil ?_);refine SK.fM (eH sz.Auto rfl rfl rfl rfl rfl (aB rfl) (cells2:=[_,_,_,_,_,_,_]) rfl (OL.nil ?_));refine SK.fM (aF rfl (OL.nil ?_));refine SK.nil (AW.seq (AW.vC (by rw[hE];rfl) (SK.fM (bJ rfl .bZ (Bh (n:=1) (by decide)) (OL.nil ?_)))))
 refine SK.fM (bJ rfl .bZ (Bh (n:=2) (by decide)) (OL.nil ?_))
 refine SK.fM (bJ rfl .bZ (Bh (n:=4) (by decide)) (OL.nil ?_))
 refine SK.fM (bJ rfl .bZ (Bh (n:=9) (by decide)) (OL.nil ?_))
 refine SK.fM (ltN (ys:=[dQ ((1:Int):Rat),dQ ((2:Int):Rat),dQ ((4:Int):Rat),dQ ((9:Int):Rat)]) sl.bQ rfl (J8 xP (J8 xP (J8 xP (J8 xP pdN)))) rfl (by decide) (by decide) (λy hy=>by simp at hy;rcases hy with rfl|rfl|rfl|rfl <;> rfl) (OL.nil ?_))
 refine SK.IY (SO.JF (args':=[.d (dI 1),.d (dI 3),.d (iQ kv2)]) (show 20<E.n by rw[hE];exact Nat.le_of_ble_eq_true (by rfl)) rfl vL (Mc:=jO) (λ_ _ h=>by cases h) (Oq (s:=1) (m:=2) (vs:=kv2) (Z:=1) (by decide) (by decide) (by decide +kernel) (by decide +kernel) (by decide) (by decide) aV8 (by decide +kernel) aW1) (λ_ _ _ h=>h) ?_)
 rintro y hy
 obtain rfl:=au6 hy;refine SK.fM (zW rfl (OL.nil ?_));refine SK.fM (ex rfl rfl (OL.nil ?_));refine SK.fM (ex rfl rfl (OL.nil ?_));refine SK.fM (al z.Auto rfl λb3=>OL.nil ?_);refine SK.fM (eH sz.Auto rfl rfl rfl rfl rfl (aB rfl) (cells2:=[_,_,_,_,_,_,_]) rfl (OL.nil ?_));refine SK.fM (aF rfl (OL.nil ?_));refine SK.nil (AW.seq (AW.dg 1 [0,1,2,3,4,5,6,7,8,9,10,11,12,13,14,15,16,17,18,19,20,21,22,23,24,25,26,27,28] ay hE rfl (by kernel_rfl) (OI.aK (os:=[_,_,_,_,_,_,_,_,_,_,_,_,_,_,_,_,_,_,_,_,_,_,_,_,_,_,_,_,_]) rfl ?_)))
 refine ai rfl (dR rfl rfl (c:=true) (decide_eq_true rfl) (ai rfl (OL.yes rfl (ai rfl (OL.yes rfl (dR rfl rfl (c:=true) (decide_eq_true rfl) (oC rfl rfl ?_)))))));refine ai rfl (OL.yes rfl (aW fd.mF rfl rfl (OL.yes rfl (aG ce.int rfl rfl rfl (OL.yes rfl (dR rfl rfl (c:=true) (decide_eq_true (by show (((kO RV).st:Nat):Int)=1;rw[ha3];rfl)) (oC rfl rfl ?_)))))))
 refine ai rfl (OL.yes rfl (aW fd.jJ rfl rfl (OL.yes rfl (aG ce.dH rfl rfl rfl (OL.yes rfl (fJ (l:=dZ (kO RV).aS) (f:=jy) sl.dH rfl rfl (OL.yes rfl ?_)))))));refine dR rfl rfl (c:=true) (decide_eq_true (by rw[ha1];rfl)) (oC rfl rfl (ai rfl (OL.yes rfl (aW fd.jJ rfl rfl (OL.yes rfl (aG ce.dH rfl rfl rfl (OL.yes rfl ?_)))))))
 refine LJ (l:=dZ (kO RV).aS) (f:=jy) 0 sl.dH default rfl rfl rfl (by omega) rfl rfl (OL.yes rfl (Vp fd.uS rfl rfl (OL.yes rfl (Vp fd.gK rfl rfl (OL.yes rfl (jH ag.Rat rfl (vs:=[_,_,_]) rfl (aB rfl) ?_))))))
 rw[ha2];refine OL.yes rfl (bJ rfl vL (Bh (n:=2) (by decide)) (OL.yes rfl (bJ rfl vL (Q8 (x:=((2:Int):Rat)) (y:=((2:Int):Rat)) (by omega) (by omega)) (OL.yes rfl (dR rfl rfl (c:=true) (decide_eq_true (QV.2 rfl)) (oC rfl rfl (aF rfl ?_)))))))
 exact OL.nil (AW.ret (aP.r ⟨_,.tmp rfl .nil,.le vR⟩))
end Go.Proofs.YtnjoncgnjdkaoaaGreatDoor
namespace Go.AL
open Go Go.BigFrame
section
variable {F:List (List Int)}{f:List Int->Rat}{k s:Nat}{d:Rat}
def sO (F:List (List Int))(f:List Int->Rat)(k:Nat)(d:Rat):List Rat:=(F.map f).set k ((F.map f).getD k 0+d)
theorem KR:(sO F f k d).length=F.length:=by unfold sO;rw[List.length_set,dJ]
theorem II {i:Nat}(hi:i<F.length):(F.map f).getD i 0=f (F.getD i []):=by
 rw[ig,List.getElem?_map,lu hi,ig,lu hi];rfl
theorem aI4 {i:Nat}(hi:i<F.length)(h:i≠k):f (F.getD i [])=(sO F f k d).getD i 0:=by
 have e:(sO F f k d).getD i 0=(F.map f).getD i 0:=by
  unfold sO;rw[ig,List.getElem?_set_ne (Ne.symm h),<- ig]
 rw[e,II hi]
theorem aW3 (hk:k<F.length):(sO F f k d).getD k 0=f (F.getD k [])+d:=by
 unfold sO;rw[ig,List.getElem?_set_self (by rw[dJ];exact hk),II hk];rfl
theorem aW4 (hk:k<F.length)(hd:d≠0):f (F.getD k [])≠(sO F f k d).getD k 0:=by
 rw[aW3 hk];intro e;exact hd (by
  have h:f (F.getD k [])+d-f (F.getD k [])=0:=by rw[<- e];exact Rat.sub_self
  rw[Rat.add_comm,Rat.add_sub_cancel] at h;exact h)
theorem aI5 {Q:Rat->Prop}(hk:k<F.length)(h:∀ w,w ∈ F->Q (f w))(hc:Q (f (F.getD k [])+d)):∀ q,q ∈ sO F f k d->Q q:=λq hq=>by
 unfold sO at hq;rcases List.mem_or_eq_of_mem_set hq with hq|rfl
 .obtain⟨w,hw,rfl⟩:=mM hq;exact h w hw
 .rw[II hk];exact hc
theorem au9 {a:Au}{n:Int}(p:Pla a s 2)(hF:∀ w,w ∈ F->w.length<=4)(hk:k<F.length)(hn:n.natAbs<=100):∀ q,q ∈ sO F (iD a) k (n:Rat)->IB 6 (1152*672 ^ 4+4665600) q :=
 aI5 (Q:=λq=>IB 6 (1152*672 ^ 4+4665600) q) hk (λw hw=>(p.wt2 (hF w hw)).mono (Nat.le_add_right _ _)) ((p.wt2 (hF _ (getD_mem hk []))).add (RU (by omega)))
theorem aW5 {a:Au}{n:Int}(p:Pla a s 2)(hF:∀ w,w ∈ F->w.length<=4)(hk:k<F.length)(hn:n.natAbs<=100):Small 2 (sO F (iD a) k (n:Rat)) :=
 λq hq=>(au9 p hF hk hn q hq).sz (t:=2) (by decide +kernel) (by decide +kernel)
theorem aI6 {a:Au}{n:Int}(p:Pla a s 2)(hF:∀ w,w ∈ F->w.length<=4)(hk:k<F.length)(hn:n.natAbs<=100)(w:List Int):IB 7 (3888*1080 ^ 5) (aC F (sO F (iD a) k (n:Rat)) w) :=
 aV9 (IE (au9 p hF hk hn) _) (by decide +kernel)
