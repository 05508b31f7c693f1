/-
  N, part 1: natural numbers as lists of limbs of 32 bits, the least significant one first.
-/
import Derived.Test.YtnjoncgnjdkaoaaGreatDoorKAlgc
set_option linter.unusedVariables false
set_option linter.unusedSimpArgs false
namespace Go.AL
def val:List Nat->Nat
 | []=>0
 | x::L=>x+4294967296*val L
def jb (L:List Nat):Prop:=∀ x,x ∈ L->x<4294967296
def lim (n:Nat):List Nat:=if n=0 then [] else n % 4294967296::lim (n / 4294967296)
termination_by n
decreasing_by omega
abbrev Bp (i:Nat):Nat:=4294967296 ^ i
theorem wM (i:Nat):0<Bp i:=Nat.pow_pos (by decide)
theorem kQ (i:Nat):Bp (i+1)=Bp i*4294967296:=Nat.pow_succ ..
theorem rP:Bp 0=1:=rfl
theorem dY:lim 0=[]:=by rw[lim];simp
theorem CJ {n:Nat}(h:n≠0):lim n=n % 4294967296::lim (n / 4294967296):=by rw[lim,if_neg h]
theorem je:val []=0:=rfl
theorem jf (x:Nat)(L:List Nat):val (x::L)=x+4294967296*val L:=rfl
theorem jb.nil:jb []:=λx h=>by simp at h
theorem jb.cons {x:Nat}{L:List Nat}(hx:x<4294967296)(h:jb L):jb (x::L):=λy hy=>by
 rcases List.mem_cons.1 hy with rfl|hy
 .exact hx
 .exact h y hy
theorem jb.tail {x:Nat}{L:List Nat}(h:jb (x::L)):jb L:=λy hy=>h y (List.mem_cons_of_mem _ hy)
theorem jb.head {x:Nat}{L:List Nat}(h:jb (x::L)):x<4294967296:=h x uZ
theorem jb.append {L M:List Nat}(h:jb L)(k:jb M):jb (L++M):=λx hx=>(ul hx).elim (h x) (k x)
theorem jb.take {L:List Nat}(h:jb L)(i:Nat):jb (L.take i):=λx hx=>h x (List.mem_of_mem_take hx)
theorem jb.drop {L:List Nat}(h:jb L)(i:Nat):jb (L.drop i):=λx hx=>h x (List.mem_of_mem_drop hx)
theorem jb.set {L:List Nat}(h:jb L)(i:Nat){y:Nat}(hy:y<4294967296):jb (L.set i y):=λx hx=>by
 rcases List.mem_or_eq_of_mem_set hx with hx|rfl
 .exact h x hx
 .exact hy
theorem jb.zeros (n:Nat):jb (List.replicate n 0):=λx hx=>by rw[(List.mem_replicate.1 hx).2];decide
theorem jb.getD {L:List Nat}(h:jb L)(i:Nat):L.getD i 0<4294967296:=by
 rw[ig];cases hg:L[i]? with
 | none=>decide
 | some x=>exact h x (List.mem_of_getElem? hg)
theorem bn (n:Nat):jb (lim n):=by
 induction n using Nat.strongRecOn with
 | _ n ih =>
  by_cases h:n=0
  .rw[h,dY];exact jb.nil
  .rw[CJ h];exact .cons (Nat.mod_lt _ (by decide)) (ih _ (by omega))
theorem bC (n:Nat):val (lim n)=n:=by
 induction n using Nat.strongRecOn with
 | _ n ih =>
  by_cases h:n=0
  .rw[h,dY];rfl
  .rw[CJ h,jf,ih _ (by omega)];omega
theorem val_append (L M:List Nat):val (L++M)=val L+Bp L.length*val M:=by
 induction L with
 | nil=>simp[je,rP]
 | cons x L ih =>
  have e:∀ z,Bp L.length*4294967296*z=4294967296*(Bp L.length*z):=λz=>by rw[Nat.mul_comm (Bp L.length),Nat.mul_assoc]
  rw[List.cons_append,jf,jf,ih,List.length_cons,kQ,e];omega
theorem yX (L:List Nat)(x:Nat):val (L++[x])=val L+Bp L.length*x:=by rw[val_append];simp[jf,je]
theorem yY {L:List Nat}(h:jb L):val L<Bp L.length:=by
 induction L with
 | nil=>simp[je,rP]
 | cons x L ih =>
  have h1:=ih h.tail;have h2:=h.head;rw[jf,List.length_cons,kQ];have:4294967296*(val L+1)<=4294967296*Bp L.length:=Nat.mul_le_mul_left _ h1;omega
theorem EP (n:Nat):val (List.replicate n 0)=0:=by
 induction n with
 | zero=>rfl
 | succ n ih=>rw[List.replicate_succ,jf,ih]
theorem getD_eq {L:List Nat}(h:jb L)(i:Nat):L.getD i 0=val L / Bp i % 4294967296:=by
 induction L generalizing i with
 | nil=>simp[je]
 | cons x L ih =>
  have h2:=h.head;cases i with
  | zero=>simp only[List.getD_cons_zero,jf,rP];omega
  | succ i =>
   rw[List.getD_cons_succ,ih h.tail,jf,kQ,Nat.mul_comm (Bp i),<- Nat.div_div_eq_div_mul];congr 2;omega
theorem G7 {L:List Nat}(h:jb L)(i:Nat):val (L.take i)=val L % Bp i:=by
 have h1:=val_append (L.take i) (L.drop i);rw[List.take_append_drop] at h1;have h2:=yY (h.take i);by_cases hi:i<=L.length
 .rw[List.length_take,Nat.min_eq_left hi] at h1 h2;rw[h1,Nat.add_mul_mod_self_left,Nat.mod_eq_of_lt h2]
 .rw[List.take_of_length_le (by omega)]
  have h3:=yY h;rw[Nat.mod_eq_of_lt];exact Nat.lt_of_lt_of_le h3 (Nat.pow_le_pow_right (by decide) (by omega))
theorem QN {L:List Nat}{i:Nat}(hi:i<L.length)(y:Nat):val (L.set i y)+L.getD i 0*Bp i=val L+y*Bp i:=by
 induction L generalizing i with
 | nil=>simp at hi
 | cons x L ih =>
  cases i with
  | zero=>simp only[List.set_cons_zero,List.getD_cons_zero,jf,rP];omega
  | succ i =>
   have:=ih (i:=i) (by simpa using hi)
   simp only[List.set_cons_succ,List.getD_cons_succ,jf,kQ];have e:∀ z,z*(Bp i*4294967296)=4294967296*(z*Bp i):=λz=>by rw[<- Nat.mul_assoc,Nat.mul_comm]
   rw[e,e];omega
theorem QO {L:List Nat}(h:jb L)(hl:L.getLast? ≠ some 0):lim (val L)=L:=by
 induction L with
 | nil=>rw[je,dY]
 | cons x L ih =>
  have hx:=h.head;have hne:val (x::L)≠0:=by
   intro h0;rw[jf] at h0;have hx0:x=0:=by omega
   have hL0:val L=0:=by omega
   cases L with
   | nil=>subst hx0;exact hl rfl
   | cons y L =>
    have:=ih h.tail (by simpa using hl)
    rw[hL0,dY] at this;cases this
  have hl':L.getLast? ≠ some 0:=by
   cases L with
   | nil=>simp
   | cons y L=>simpa using hl
  rw[CJ hne];have e1:val (x::L) % 4294967296=x:=by rw[jf];omega
  have e2:val (x::L) / 4294967296=val L:=by rw[jf];omega
  rw[e1,e2,ih h.tail hl']
theorem ae3 (n:Nat):(lim n).getLast? ≠ some 0:=by
 induction n using Nat.strongRecOn with
 | _ n ih =>
  by_cases h:n=0
  .rw[h,dY];simp
  .rw[CJ h];have:=ih (n / 4294967296) (by omega)
   by_cases h2:n / 4294967296=0
   .rw[h2,dY];simp only[List.getLast?_singleton,ne_eq,Option.some.injEq];omega
   .have hc:lim (n / 4294967296)≠[]:=by rw[CJ h2];simp
    obtain⟨y,L,hL⟩:=List.exists_cons_of_ne_nil hc;rw[hL] at this ⊢;simpa using this
theorem dO {n k:Nat}(h:n<Bp k):(lim n).length<=k:=by
  induction k generalizing n with
  | zero => have : n = 0 := by rw[rP] at h; omega
            rw[this,dY];simp
  | succ k ih =>
    by_cases hn:n=0
    · rw[hn,dY];simp
    · rw[CJ hn, List.length_cons]
      have:=ih (n:=n / 4294967296) (by rw[kQ] at h;exact Nat.div_lt_of_lt_mul (by rwa [Nat.mul_comm]))
      omega
theorem qZ (n:Nat):n<Bp (lim n).length:=by
 have:=yY (bn n)
 rwa [bC] at this
theorem dK {n:Nat}:(lim n).length=0 ↔ n=0:=by
 constructor
 .intro h;have:=qZ n;rw[h,rP] at this;omega
 .intro h;rw[h,dY];rfl
theorem VK {n:Nat}(h:n≠0):Bp ((lim n).length-1)<=n:=by
 rcases Nat.lt_or_ge n (Bp ((lim n).length-1)) with h'|h'
 .have h1:=dO h';have h2:(lim n).length≠0:=λe=>h (dK.1 e);omega
 .exact h'
theorem wO {n:Nat}(h:n<4294967296)(h0:n≠0):lim n=[n]:=by
 rw[CJ h0,Nat.mod_eq_of_lt h,Nat.div_eq_of_lt h,dY]
theorem jb.dropLast {L:List Nat}(h:jb L):jb L.dropLast:=λx hx=>h x (List.dropLast_subset _ hx)
theorem QR {L:List Nat}(h:0<L.length):L=L.dropLast++[L.getD (L.length-1) 0]:=by
 have hne:L≠[]:=λe=>by rw[e] at h;simp at h
 have h1:=List.dropLast_concat_getLast hne;have h2:L.getLast hne=L.getD (L.length-1) 0:=by
  rw[ig,lu (by omega),Option.getD_some,List.getLast_eq_getElem]
 rw[<- h2];exact h1.symm
theorem G8 {L:List Nat}(h0:0<L.length)(h:L.getD (L.length-1) 0=0):val L.dropLast=val L:=by
 have h1:=QR h0;rw[h] at h1;have h2:val L=val (L.dropLast++[0]):=by rw[<- h1]
 rw[h2,yX];simp
theorem Xz {L:List Nat}(h0:0<L.length)(h:L.getD (L.length-1) 0≠0):L.getLast? ≠ some 0:=by
 rw[QR h0];simpa using h
theorem ae4 {L:List Nat}(h:¬ 0<L.length):L=[]:=IK (by omega)
def DU (a b:Nat):Int:=if a<b then -1 else if a=b then 0 else 1
theorem VL:∀ {a b:Nat},(∀ j,a / Bp j % 4294967296=b / Bp j % 4294967296)->a=b:=by
 intro a
 induction a using Nat.strongRecOn with
 | _ a ih =>
  intro b h;have h0:=h 0;simp only[rP,Nat.div_one] at h0;have hs:∀ j,a / 4294967296 / Bp j % 4294967296=b / 4294967296 / Bp j % 4294967296:=λj=>by
   have:=h (j+1);rw[kQ,Nat.mul_comm] at this
   rwa [Nat.div_div_eq_div_mul,Nat.div_div_eq_div_mul]
  by_cases ha:a=0
  .subst ha;have hz:∀ b:Nat,(∀ j,b / Bp j % 4294967296=0)->b=0:=by
    intro b
    induction b using Nat.strongRecOn with
    | _ b ihb =>
     intro hb;have h0:=hb 0;simp only[rP,Nat.div_one] at h0;by_cases hb0:b=0
     .exact hb0
     .have:=ihb (b / 4294967296) (by omega) λj=>by
       have:=hb (j+1);rw[kQ,Nat.mul_comm] at this
       rwa [Nat.div_div_eq_div_mul]
      omega
   exact (hz b λj=>by have:=h j;rw[<- this,Nat.zero_div]).symm
  .have:=ih (a / 4294967296) (by omega) hs
   omega
theorem XA {A C:List Nat}(hA:jb A)(hC:jb C){n:Nat}(h:∀ j,n<=j->A.getD j 0=C.getD j 0):val A / Bp n=val C / Bp n:=by
 apply VL;intro j;have:=h (n+j) (by omega)
 rw[getD_eq hA,getD_eq hC] at this;rw[Nat.div_div_eq_div_mul,Nat.div_div_eq_div_mul,<- Nat.pow_add];exact this
theorem yZ {A:List Nat}(hA:jb A)(i:Nat):val A / Bp i=val A / Bp (i+1)*4294967296+A.getD i 0:=by
 rw[getD_eq hA,kQ,<- Nat.div_div_eq_div_mul];omega
theorem OO {A C:List Nat}(hA:jb A)(hC:jb C){i:Nat}(h:∀ j,i+1<=j->A.getD j 0=C.getD j 0)(hl:A.getD i 0<C.getD i 0):val A<val C:=by
 have h1:=XA hA hC h;have h2:=yZ hA i;have h3:=yZ hC i;have h4:val A / Bp i<val C / Bp i:=by omega
 exact Nat.lt_of_not_le λhle=>absurd (Nat.div_le_div_right (c:=Bp i) hle) (by omega)
theorem OQ {A C:List Nat}(hA:jb A)(hC:jb C)(h:∀ j,A.getD j 0=C.getD j 0):val A=val C:=by
 have:=XA hA hC (n:=0) λj _=>h j;simpa [rP] using this
theorem ae5 {A C:List Nat}(hA:jb A)(hC:jb C){i:Nat}(h:∀ j,i+1<=j->A.getD j 0=C.getD j 0)(hne:A.getD i 0≠C.getD i 0):DU (val A) (val C)=if A.getD i 0<C.getD i 0 then -1 else 1:=by
 unfold DU;rcases Nat.lt_or_gt_of_ne hne with hl|hl
 .rw[if_pos (OO hA hC h hl),if_pos hl]
 .have:=OO hC hA (λj hj=>(h j hj).symm) hl;rw[if_neg (by omega),if_neg (by omega),if_neg (by omega)]
theorem fF {A:List Nat}(hA:jb A)(i:Nat):val (A.take (i+1))=val (A.take i)+Bp i*A.getD i 0:=by
 rw[G7 hA,G7 hA,getD_eq hA,kQ,Nat.mod_mul]
theorem tK {A:List Nat}{i:Nat}(h:A.length<=i):A.take i=A:=List.take_of_length_le h
theorem y5 {A:List Nat}{i:Nat}(h:A.length<=i):A.getD i 0=0:=by rw[ig,List.getElem?_eq_none h];rfl
theorem OU {o s a c x y i:Nat}(h:o+Bp i*s=a+c):o+Bp i*((s+(x+y)) % 4294967296)+Bp (i+1)*((s+(x+y)) / 4294967296)=(a+Bp i*x)+(c+Bp i*y):=by
 rw[kQ];generalize Bp i=k at h ⊢;have e:s+(x+y)=(s+(x+y)) % 4294967296+4294967296*((s+(x+y)) / 4294967296):=by omega
 have e2:k*(s+(x+y))=k*((s+(x+y)) % 4294967296)+k*4294967296*((s+(x+y)) / 4294967296):=by
  rw[Nat.mul_assoc,<- Nat.mul_add,<- e]
 rw[Nat.mul_add,Nat.mul_add] at e2;omega
theorem Ox {L:List Nat}{i y:Nat}(h:i<L.length):(L.set i y).getD i 0=y:=by
 rw[ig,List.getElem?_set_self h];rfl
theorem getD_set_ne {L:List Nat}{i j y:Nat}(h:i≠j):(L.set i y).getD j 0=L.getD j 0:=by
 rw[ig,List.getElem?_set_ne h,ig]
theorem Lu {o l a c x y i:Nat}(h:a+l*Bp i=o+c)(hx:x<4294967296)(hy:y<4294967296)(hl:l<=1) :
  (a+Bp i*x)+(if x<y+l then 1 else 0)*Bp (i+1)=(o+Bp i*((x+4294967296-y-l) % 4294967296))+(c+Bp i*y):=by
 rw[kQ];generalize Bp i=k at h ⊢;have e:x+(if x<y+l then 1 else 0)*4294967296=(x+4294967296-y-l) % 4294967296+y+l:=by split <;> omega
 have e2:k*(x+(if x<y+l then 1 else 0)*4294967296)=k*((x+4294967296-y-l) % 4294967296+y+l):=by rw[e]
 have e3:(if x<y+l then 1 else 0)*(k*4294967296)=k*((if x<y+l then 1 else 0)*4294967296):=by
  rw[<- Nat.mul_assoc,Nat.mul_comm (if x<y+l then 1 else 0) k,Nat.mul_assoc]
 rw[e3];rw[Nat.mul_add,Nat.mul_add,Nat.mul_add,Nat.mul_comm k l] at e2;omega
theorem OV {A C O:List Nat}{l:Nat}(hA:jb A)(hO:jb O)(h1:O.length=A.length)(hle:val C<=val A)(h:val (A.take A.length)+l*Bp A.length=val (O.take A.length)+val (C.take A.length))(hl:l<=1)(hC:jb C) :
  val O=val A-val C:=by
 have a1:=yY hA;have a2:=yY hO;rw[h1] at a2;rw[List.take_length,tK (A:=O) (by omega),G7 hC,Nat.mod_eq_of_lt (by omega)] at h
 have:l=0 \/ l=1:=by omega
 rcases this with rfl|rfl <;> omega
theorem FU {L:List Nat}{n y:Nat}(hn:0<n)(h:n<=L.length):val ((L.set (n-1) y).drop (n-1))=val (L.drop n)*4294967296+y:=by
 have e:(L.set (n-1) y).drop (n-1)=y::L.drop n:=by
  rw[List.drop_eq_getElem_cons (by simp;omega),List.getElem_set_self,List.drop_set_of_lt (by omega),show n-1+1=n by omega]
 rw[e,jf];omega
theorem y7 (n:Nat):((n:Int)-1).toNat=n-1:=by omega
end Go.AL
namespace Go.AL
theorem yh (i j:Nat):Bp (i+j)=Bp i*Bp j:=Nat.pow_add ..
theorem LC {out:List Nat}{i j s V a t c T:Nat}(hl:i+j<out.length)(h:val out+s*Bp (i+j)=V+a*Bp i*t)(hT:T=s+(out.getD (i+j) 0+a*c)) :
  val (out.set (i+j) (T % 4294967296))+T / 4294967296*Bp (i+(j+1))=V+a*Bp i*(t+Bp j*c):=by
 have h1:=QN hl (T % 4294967296);rw[show i+(j+1)=(i+j)+1 by omega,kQ,Nat.mul_add]
 have e1:a*Bp i*(Bp j*c)=a*c*Bp (i+j):=by rw[yh];simp only[Nat.mul_assoc,Nat.mul_left_comm,Nat.mul_comm]
 rw[e1];generalize Bp (i+j)=k at *;have e2:T*k=T % 4294967296*k+T / 4294967296*(k*4294967296):=by
  have:T=T % 4294967296+4294967296*(T / 4294967296):=by omega
  calc T*k=(T % 4294967296+4294967296*(T / 4294967296))*k:=by rw[<- this]
   _=_:=by rw[Nat.add_mul];congr 1;rw[Nat.mul_comm k,Nat.mul_comm 4294967296,Nat.mul_assoc]
 have e3:T*k=s*k+(out.getD (i+j) 0*k+a*c*k):=by rw[hT,Nat.add_mul,Nat.add_mul]
 omega
theorem Y1 {A C out:List Nat}{i j s:Nat}(hA:jb A)(hC:jb C)(hj:C.length<=j)(h:val out+s*Bp (i+j)=val (A.take i)*val C+A.getD i 0*Bp i*val (C.take j))(hj2:C.length+1=j):s=0:=by
 rw[tK (A:=C) hj] at h;have h1:val (A.take (i+1))<Bp (i+1):=by rw[G7 hA];exact Nat.mod_lt _ (wM _)
 have h2:=yY hC;rw[fF hA] at h1;have e:val (A.take i)*val C+A.getD i 0*Bp i*val C=(val (A.take i)+Bp i*A.getD i 0)*val C:=by rw[Nat.add_mul,Nat.mul_comm (Bp i)]
 rw[e] at h;have h3:(val (A.take i)+Bp i*A.getD i 0)*val C<Bp (i+1)*Bp C.length:=by
  rcases Nat.eq_zero_or_pos (val C) with h0|h0
  .rw[h0,Nat.mul_zero];exact Nat.mul_pos (wM _) (wM _)
  .exact Nat.lt_of_lt_of_le (Nat.mul_lt_mul_of_pos_right h1 h0) (Nat.mul_le_mul_left _ (Nat.le_of_lt h2))
 rw[<- yh,show i+1+C.length=i+j by omega] at h3
 rcases Nat.eq_zero_or_pos s with h0|h0
 .exact h0
 .have:=Nat.le_mul_of_pos_left (Bp (i+j)) h0;omega
theorem VN {A C out:List Nat}{i j:Nat}(hA:jb A)(hj:C.length<=j)(h:val out+0*Bp (i+j)=val (A.take i)*val C+A.getD i 0*Bp i*val (C.take j)):val out=val (A.take (i+1))*val C:=by
 rw[tK (A:=C) hj] at h;rw[fF hA,Nat.add_mul,Nat.mul_comm (Bp i)];omega
theorem VO {A:List Nat}{n d r q:Nat}(hd:0<d)(hA:jb A)(h0:0<n)(h:val A / Bp n=q*d+r) :
  val A / Bp (n-1)=(q*4294967296+(r*4294967296+A.getD (n-1) 0) / d)*d+(r*4294967296+A.getD (n-1) 0) % d:=by
 have h1:=yZ hA (n-1);rw[show n-1+1=n by omega,h] at h1
 rw[h1,Nat.add_mul,Nat.add_mul];have h2:=Nat.div_add_mod (r*4294967296+A.getD (n-1) 0) d;rw[Nat.mul_comm d] at h2;have e:q*4294967296*d=q*d*4294967296:=by rw[Nat.mul_assoc,Nat.mul_comm 4294967296,<- Nat.mul_assoc]
 rw[e];omega
def rf (x:Nat):Nat:=if x=0 then 0 else Nat.log2 x+1
theorem Y2:rf 0=0:=rfl
theorem ay3 (x:Nat):x<2 ^ rf x:=by
 unfold rf
 split
 .rename_i h;subst h;decide
 .exact Nat.lt_log2_self
theorem XB {x:Nat}(h:x≠0):2 ^ (rf x-1)<=x:=by
 unfold rf;rw[if_neg h];exact Nat.log2_self_le h
theorem ae6 {x:Nat}(h:x≠0):0<rf x:=by unfold rf;rw[if_neg h];omega
theorem Y3 {x m:Nat}(h1:2 ^ m<=x)(h2:x<2 ^ (m+1)):rf x=m+1:=by
 have h0:x≠0:=by have:=Nat.pow_pos (n:=m) (a:=2) (by decide);omega
 unfold rf;rw[if_neg h0];have a:=Nat.log2_self_le h0;have b:=Nat.lt_log2_self (n:=x);have c1:m<Nat.log2 x+1:=(Nat.pow_lt_pow_iff_right (by decide)).1 (Nat.lt_of_le_of_lt h1 b)
 have c2:Nat.log2 x<m+1:=(Nat.pow_lt_pow_iff_right (by decide)).1 (Nat.lt_of_le_of_lt a h2)
 omega
theorem Gg {x k:Nat}(h:2 ^ k<=x):rf (x / 2 ^ k)+k=rf x:=by
 have h0:x≠0:=by have:=Nat.pow_pos (n:=k) (a:=2) (by decide);omega
 have a:=XB h0;have b:=ay3 x;have c:=ae6 h0;have hk:k<rf x:=(Nat.pow_lt_pow_iff_right (by decide)).1 (Nat.lt_of_le_of_lt h b)
 have e:rf (x / 2 ^ k)=rf x-k-1+1:=Y3
  (by rw[Nat.le_div_iff_mul_le (Nat.pow_pos (by decide)),<- Nat.pow_add,show rf x-k-1+k=rf x-1 by omega];exact a)
  (Nat.div_lt_of_lt_mul (by rw[<- Nat.pow_add,show k+(rf x-k-1+1)=rf x by omega];exact b))
 omega
theorem EQ {x k:Nat}(h:x<2 ^ k):rf x<=k:=by
 rcases Nat.eq_zero_or_pos x with h0|h0
 .rw[h0,Y2];omega
 .have a:=XB (x:=x) (by omega)
  have:=(Nat.pow_lt_pow_iff_right (a:=2) (by decide)).1 (Nat.lt_of_le_of_lt a h)
  omega
theorem tbl {bs:ByteArray}(h:((List.range 256).all λn=>decide ((bs[n]?).map (·.toNat)=some (rf n)))=true){z:Nat}(hz:z<256):(bs[z]?).map (·.toNat)=some (rf z):=by
 have:=List.all_eq_true.1 h z (List.mem_range.2 hz);exact lq this
end Go.AL
namespace Go.AL
theorem wP (i:Nat):Bp i=2 ^ (32*i):=by rw[Nat.pow_mul]
theorem VP {n:Nat}:(lim n).getD ((lim n).length-1) 0=n / Bp ((lim n).length-1):=by
 rw[getD_eq (bn n),bC,Nat.mod_eq_of_lt];by_cases h:n=0
 .subst h;simp
 .have h1:=qZ n;have h2:(lim n).length≠0:=λe=>h (dK.1 e);rw[show (lim n).length=(lim n).length-1+1 by omega,kQ] at h1
  exact Nat.div_lt_of_lt_mul h1
theorem XC {n:Nat}(h:n≠0):0<(lim n).getD ((lim n).length-1) 0:=by
 rw[VP];exact Nat.div_pos (VK h) (wM _)
theorem ae7 {n:Nat}(h:n≠0):rf n=32*((lim n).length-1)+rf ((lim n).getD ((lim n).length-1) 0):=by
 have h1:=Gg (x:=n) (k:=32*((lim n).length-1)) (by rw[<- wP];exact VK h)
 rw[VP,wP];omega
theorem Ti (n:Nat):rf n<=32*(lim n).length:=EQ (by rw[<- wP];exact qZ n)
theorem left_step {o r a x s Q:Nat}{i:Nat}(hl:o+r*Bp (Q+i)=a*2 ^ s*Bp Q) :
  o+Bp (Q+i)*((x*2 ^ s+r) % 4294967296)+(x*2 ^ s+r) / 4294967296*Bp (Q+(i+1))=(a+Bp i*x)*2 ^ s*Bp Q:=by
 rw[show Q+(i+1)=(Q+i)+1 by omega,kQ]
 have e1:(a+Bp i*x)*2 ^ s*Bp Q=a*2 ^ s*Bp Q+x*2 ^ s*Bp (Q+i):=by
  rw[Nat.add_mul,Nat.add_mul,yh];congr 1;simp only[Nat.mul_assoc,Nat.mul_left_comm,Nat.mul_comm]
 rw[e1,<- hl];generalize Bp (Q+i)=k;generalize hT:x*2 ^ s=y;have e2:(y+r)*k=k*((y+r) % 4294967296)+(y+r) / 4294967296*(k*4294967296):=by
  have:y+r=(y+r) % 4294967296+4294967296*((y+r) / 4294967296):=by omega
  calc (y+r)*k=((y+r) % 4294967296+4294967296*((y+r) / 4294967296))*k:=by rw[<- this]
   _=_:=by rw[Nat.add_mul,Nat.mul_comm k];congr 1;rw[Nat.mul_comm 4294967296,Nat.mul_assoc,Nat.mul_comm 4294967296]
 have e3:(y+r)*k=y*k+r*k:=Nat.add_mul ..;omega
theorem ae8 {o r a s Q k i:Nat}(hk:k=32*Q+s)(hl:o+r*Bp (Q+i)=a*2 ^ s*Bp Q):o+Bp (Q+i)*r=a*2 ^ k:=by
 rw[hk,Nat.pow_add,<- wP,Nat.mul_comm (Bp Q),<- Nat.mul_assoc,<- hl,Nat.mul_comm r]
theorem VQ {A:List Nat}(hA:jb A){k Q s i:Nat}(hk:k=32*Q+s)(hs:s<32) :
  (A.getD (Q+i+1) 0*4294967296+A.getD (Q+i) 0) / 2 ^ s % 4294967296=val A / 2 ^ k / Bp i % 4294967296:=by
 have h1:=yZ hA (Q+i);have h2:=yZ hA (Q+i+1);have e:val A / 2 ^ k / Bp i=val A / Bp (Q+i) / 2 ^ s:=by
  rw[Nat.div_div_eq_div_mul,Nat.div_div_eq_div_mul,hk,Nat.pow_add,<- wP,yh];congr 1;simp only[Nat.mul_assoc,Nat.mul_left_comm,Nat.mul_comm]
 rw[e,h1,h2];generalize val A / Bp (Q+i+1+1)=z;generalize A.getD (Q+i+1) 0=x;generalize A.getD (Q+i) 0=y;have hp:2 ^ s*2 ^ (32-s)=4294967296:=by rw[<- Nat.pow_add,show s+(32-s)=32 by omega]
 have hpos:0<2 ^ s:=Nat.pow_pos (by decide)
 have e2:(z*4294967296+x)*4294967296+y=(x*4294967296+y)+2 ^ s*(2 ^ (32-s)*z*4294967296):=by
  have:2 ^ s*(2 ^ (32-s)*z*4294967296)=4294967296*z*4294967296:=by rw[<- hp];simp only[Nat.mul_assoc]
  rw[this];omega
 rw[e2,Nat.add_mul_div_left _ _ hpos,Nat.add_mul_mod_self_right]
theorem right_step {A out:List Nat}(hA:jb A){k Q s:Nat}(hk:k=32*Q+s)(hs:s<32)(h:val out=val A / 2 ^ k % Bp out.length) :
  val (out++[(A.getD (Q+out.length+1) 0*4294967296+A.getD (Q+out.length) 0) / 2 ^ s % 4294967296])=val A / 2 ^ k % Bp (out.length+1):=by
 rw[yX,VQ hA hk hs,h,kQ,Nat.mod_mul]
theorem Y4 {A out:List Nat}(hA:jb A){k Q s:Nat}(hk:k=32*Q+s)(h:val out=val A / 2 ^ k % Bp out.length)(hl:A.length<=Q+out.length):val out=val A / 2 ^ k:=by
 rw[h,Nat.mod_eq_of_lt];have h1:=yY hA;have h2:Bp A.length<=Bp (Q+out.length):=Nat.pow_le_pow_right (by decide) hl
 have h3:val A / 2 ^ k<=val A / Bp Q:=by
  rw[hk,Nat.pow_add,<- wP,<- Nat.div_div_eq_div_mul];exact Nat.div_le_self ..
 have h4:val A / Bp Q<Bp out.length:=Nat.div_lt_of_lt_mul (by rw[<- yh];omega)
 omega
theorem ae9 {u v k:Nat}(hv:v≠0)(hu:u<v*Bp (k+1)) :
  u / (v*Bp k)<=min (((lim u).getD (k+(lim v).length) 0*4294967296+(lim u).getD (k+(lim v).length-1) 0) / (lim v).getD ((lim v).length-1) 0) 4294967295:=by
 have hl:(lim v).length≠0:=λe=>hv (dK.1 e);have hpos:0<v*Bp k:=Nat.mul_pos (by omega) (wM k)
 have hvp:=XC hv;rw[Nat.le_min];constructor
 .rw[Nat.le_div_iff_mul_le hvp,VP];have s1:=yZ (bn u) (k+(lim v).length);have s2:=yZ (bn u) (k+(lim v).length-1);rw[bC] at s1 s2;rw[show k+(lim v).length-1+1=k+(lim v).length by omega] at s2
  have z:u / Bp (k+(lim v).length+1)=0:=by
   apply Nat.div_eq_of_lt;have h1:=qZ v;have h2:v*Bp (k+1)<=Bp (lim v).length*Bp (k+1):=Nat.mul_le_mul_right _ (Nat.le_of_lt h1);rw[<- yh,show (lim v).length+(k+1)=k+(lim v).length+1 by omega] at h2
   omega
  rw[z] at s1;have hT:(lim u).getD (k+(lim v).length) 0*4294967296+(lim u).getD (k+(lim v).length-1) 0=u / Bp (k+(lim v).length-1):=by
   rw[s2,s1];omega
  rw[hT,Nat.le_div_iff_mul_le (wM _)];have a1:v / Bp ((lim v).length-1)*Bp ((lim v).length-1)<=v:=Nat.div_mul_le_self ..;have a2:u / (v*Bp k)*(v*Bp k)<=u:=Nat.div_mul_le_self ..;have e:Bp (k+(lim v).length-1)=Bp ((lim v).length-1)*Bp k:=by rw[<- yh];congr 1;omega
  rw[e]
  calc u / (v*Bp k)*(v / Bp ((lim v).length-1))*(Bp ((lim v).length-1)*Bp k)=u / (v*Bp k)*(v / Bp ((lim v).length-1)*Bp ((lim v).length-1)*Bp k):=by simp only[Nat.mul_assoc]
   _<=u / (v*Bp k)*(v*Bp k):=Nat.mul_le_mul_left _ (Nat.mul_le_mul_right _ a1)
   _<=u:=a2
 .have:u / (v*Bp k)<4294967296:=Nat.div_lt_of_lt_mul (by rw[Nat.mul_assoc,<- kQ];exact hu)
  omega
theorem VR {u v:Nat}(hv:v≠0){m:Nat}(hm:(lim u).length+1<=m+(lim v).length):u<v*Bp m:=by
 have h1:=qZ u;have h2:=VK hv;have h3:Bp (lim u).length<=Bp ((lim v).length-1+m):=Nat.pow_le_pow_right (by decide) (by omega)
 rw[yh] at h3;have h4:Bp ((lim v).length-1)*Bp m<=v*Bp m:=Nat.mul_le_mul_right _ h2;omega
theorem Y5 {U u v k Q:Nat}(hv:v≠0)(h:U=Q*v*Bp (k+1)+u) :
  U=(Q*4294967296+u / (v*Bp k))*v*Bp k+(u-u / (v*Bp k)*(v*Bp k))/\u-u / (v*Bp k)*(v*Bp k)<v*Bp k:=by
 have hpos:0<v*Bp k:=Nat.mul_pos (by omega) (wM k)
 have h1:=Nat.div_add_mod u (v*Bp k);have h2:=Nat.mod_lt u hpos;rw[Nat.mul_comm] at h1;refine⟨?_,by omega⟩
 have e:(Q*4294967296+u / (v*Bp k))*v*Bp k=Q*v*Bp (k+1)+u / (v*Bp k)*(v*Bp k):=by
  rw[kQ,Nat.add_mul,Nat.add_mul];congr 1
  .simp only[Nat.mul_assoc,Nat.mul_left_comm,Nat.mul_comm]
  .simp only[Nat.mul_assoc]
 rw[e];omega
theorem af0 {a b s U q u:Nat}(hb:b≠0)(hU:a*2 ^ s=q*(b*2 ^ s)+u)(hu:u<b*2 ^ s):q=a / b/\u / 2 ^ s=a % b:=by
 have hp:0<2 ^ s:=Nat.pow_pos (by decide)
 have h1:=(Nat.div_mod_unique (a:=a*2 ^ s) (c:=u) (d:=q) (b:=b*2 ^ s) (Nat.mul_pos (by omega) hp)).2 ⟨by rw[Nat.mul_comm (b*2 ^ s)];omega,hu⟩
 rw[Nat.mul_div_mul_right _ _ hp,Nat.mul_mod_mul_right] at h1;refine⟨h1.1.symm,?_⟩;rw[<- h1.2,Nat.mul_div_cancel _ hp]
theorem ay4 {n:Nat}(h:(lim n).length=1):lim n=[n]:=by
 have h1:=qZ n;rw[h] at h1;exact wO h1 λe=>by rw[e,dY] at h;exact absurd h (by decide)
theorem cmp_neg {a b:Nat}(h:DU a b<0):a<b:=by
 unfold DU at h
 split at h
 .assumption
 .split at h <;> omega
theorem VS {a b:Nat}(h:b<=a):0<=DU a b:=by
 unfold DU;rw[if_neg (by omega)]
 split <;> decide
theorem G9 {a b:Nat}(h:¬ DU a b<0):b<=a:=by
 unfold DU at h
 split at h
 .omega
 .omega
theorem ay5 (a:Nat):Min.min (a:Int) 4294967295=((min a 4294967295:Nat):Int):=by omega
theorem ay6 {A:List Nat}(hA:jb A):(lim (val A)).length<=A.length:=dO (yY hA)
theorem aN9 {u v k:Nat}(h:u<v*Bp k):(lim u).length<=(lim v).length+k:=dO (by
 rw[yh];exact Nat.lt_trans h (Nat.mul_lt_mul_of_pos_right (qZ v) (wM _)))
theorem gJ (a b:Nat):(lim (a*b)).length<=(lim a).length+(lim b).length:=by
 apply dO;rw[yh];exact Nat.mul_lt_mul_of_lt_of_le (qZ a) (Nat.le_of_lt (qZ b)) (wM _)
theorem rQ {g:Nat}(h:g<4294967296):(lim g).length<=1:=dO (k:=1) (by rw[Bp,Nat.pow_one];exact h)
theorem Oy {v g:Nat}(h:g<4294967296):(lim (v*g)).length<=(lim v).length+1:=Nat.le_trans (gJ v g) (Nat.add_le_add_left (rQ h) _)
theorem VT (a k:Nat):(lim (a*Bp k)).length<=(lim a).length+k:=by
 apply dO;rw[yh];exact Nat.mul_lt_mul_of_pos_right (qZ a) (wM _)
theorem XD {a S m:Nat}(h:S<=32*m):(lim (a*2 ^ S)).length<=(lim a).length+m:=by
 apply dO;rw[yh];exact Nat.mul_lt_mul_of_lt_of_le (qZ a) (by rw[wP];exact Nat.pow_le_pow_right (by decide) h) (wM _)
theorem sZ {a b:Nat}(h:a<=b):(lim a).length<=(lim b).length:=dO (Nat.lt_of_le_of_lt h (qZ b))
theorem af2 {u v g k:Nat}(hlt:u<v*g*Bp k):u / (v*Bp k)<=g-1:=by
 have e:v*g*Bp k=v*Bp k*g:=by rw[Nat.mul_assoc,Nat.mul_comm g,<- Nat.mul_assoc]
 rw[e] at hlt;have:=Nat.div_lt_of_lt_mul hlt;omega
theorem Y6 {v g k:Nat}(hg:0<g):v*(g-1)*Bp k=v*g*Bp k-v*Bp k:=by
 obtain⟨g',rfl⟩:∃ g',g=g' + 1:=⟨g-1,by omega⟩
 rw[Nat.add_sub_cancel,Nat.mul_add,Nat.add_mul,Nat.mul_one,Nat.add_sub_cancel]
theorem val_one (g:Nat):val [g]=g:=by simp[jf,je]
theorem ay7 {g:Nat}(h:g<4294967296):(lim (val [g])).length<=4398046511104:=by
 have:=rQ h;rw[val_one];omega
end Go.AL
namespace Go.AL
structure Raw where
 neg:Bool
 num:List Nat
 den:List Nat
abbrev tN (r:Raw):V:=.ag [.d (dB r.neg),.d (aH r.num),.d (aH r.den)]
abbrev bk8 (r:Raw):D:=.ag [dB r.neg,aH r.num,aH r.den]
structure Raw.Ok (r:Raw):Prop where
 num:jb r.num
 den:jb r.den
 ln:r.num.length<=274877906944
 ld:r.den.length<=274877906944
def canon (L:List Nat):Bool:=!(L.getLast? == some 0)
def Raw.good (r:Raw):Bool :=
 canon r.num && canon r.den && bif decide (r.num=[]) then !r.neg && decide (r.den=[]) else (decide (r.den=[]) || (decide (val r.den≠1) && decide (Nat.gcd (val r.num) (val r.den)=1)))
def fr (neg:Bool)(n d:Nat):Rat:=mkRat (bif neg then -(n:Int) else (n:Int)) d
def Raw.d (r:Raw):Nat:=if r.den=[] then 1 else val r.den
def Raw.q (r:Raw):Rat:=if r.good then fr r.neg (val r.num) r.d else 0
def fZ (q:Rat):Raw:=⟨decide (q.num<0),lim q.num.natAbs,if q.den=1 then [] else lim q.den⟩
theorem OX:canon []=true:=rfl
theorem OY (n:Nat):canon (lim n)=true:=by
 have:=ae3 n;unfold canon;simp[this]
theorem Bl {L:List Nat}(hL:jb L)(h:canon L=true):lim (val L)=L:=QO hL (by unfold canon at h;simpa using h)
theorem D8 {n:Nat}:lim n=[] ↔ n=0:=by
 constructor
 .intro h;exact dK.1 (by rw[h];rfl)
 .intro h;rw[h,dY]
theorem XE (q:Rat):val (fZ q).num=q.num.natAbs:=bC _
theorem aZ7 (q:Rat):(fZ q).d=q.den:=by
 unfold Raw.d fZ;by_cases h:q.den=1
 .simp[h]
 .simp only[h,if_false,D8,q.den_nz,bC]
theorem LD (q:Rat):(fZ q).good=true:=by
 unfold Raw.good;have h1:canon (fZ q).num=true:=OY _;have h2:canon (fZ q).den=true:=by
  unfold fZ
  split
  .rfl
  .exact OY _
 rw[h1,h2];simp only[Bool.true_and];by_cases h0:q.num=0
 .have hq:q=0:=Rat.num_eq_zero.1 h0;subst hq;simp[fZ,dY]
 .have hn:(fZ q).num≠[]:=λe=>h0 (Int.natAbs_eq_zero.1 (D8.1 e));rw[decide_eq_false hn];by_cases h:q.den=1
  .simp[fZ,h]
  .have hd:(fZ q).den=lim q.den:=by simp[fZ,h]
   simp only[cond_false,hd,bC,XE];have:=q.reduced;unfold Nat.Coprime at this;simp[h,this]
theorem o5 (q:Rat):fr (decide (q.num<0)) q.num.natAbs q.den=q:=by
 unfold fr;have e:(bif decide (q.num<0) then -(q.num.natAbs:Int) else (q.num.natAbs:Int))=q.num:=by
  by_cases h:q.num<0
  .rw[decide_eq_true h];simp only[cond_true];omega
  .rw[decide_eq_false h];simp only[cond_false];omega
 rw[e,Rat.mkRat_self]
theorem qy (q:Rat):(fZ q).q=q:=by
 unfold Raw.q;rw[if_pos (LD q),XE,aZ7];exact o5 q
theorem VU {neg:Bool}{n d:Nat}(hd:d≠0):(fr neg n d).num=bif neg then -((n / Nat.gcd n d:Nat):Int) else ((n / Nat.gcd n d:Nat):Int):=by
 unfold fr;rw[Rat.num_mkRat,if_neg hd];cases neg
 .simp only[cond_false,Int.natAbs_natCast];rw[Nat.gcd_comm];exact (Int.natCast_ediv n (n.gcd d)).symm
 .simp only[cond_true,Int.natAbs_neg,Int.natAbs_natCast];rw[Nat.gcd_comm,Int.natCast_ediv,Int.neg_ediv_of_dvd];exact Int.natCast_dvd_natCast.2 (Nat.gcd_dvd_left n d)
theorem af4 {neg:Bool}{n d:Nat}(hd:d≠0):(fr neg n d).den=d / Nat.gcd n d:=by
 unfold fr;rw[Rat.den_mkRat,if_neg hd];cases neg <;> simp[Nat.gcd_comm]
theorem tV:fZ 0=⟨false,[],[]⟩:=by simp[fZ,dY]
theorem QS {neg:Bool}{d:Nat}:fr neg 0 d=0:=by unfold fr;cases neg <;> simp
theorem QT {neg:Bool}{n d:Nat}(hn:n≠0)(hd:d≠0):fZ (fr neg n d)=⟨neg,lim (n / Nat.gcd n d),if d / Nat.gcd n d=1 then [] else lim (d / Nat.gcd n d)⟩:=by
 have hg:0<Nat.gcd n d:=Nat.gcd_pos_of_pos_left d (Nat.pos_of_ne_zero hn);have hq:0<n / Nat.gcd n d:=Nat.div_pos (Nat.le_of_dvd (Nat.pos_of_ne_zero hn) (Nat.gcd_dvd_left n d)) hg;unfold fZ;rw[VU hd,af4 hd];cases neg
 .simp only[cond_false,Int.natAbs_natCast,Raw.mk.injEq,decide_eq_false_iff_not,true_and,and_true];omega
 .simp only[cond_true,Int.natAbs_neg,Int.natAbs_natCast,Raw.mk.injEq,decide_eq_true_eq,true_and,and_true];omega
theorem XF {r:Raw}(h:r.Ok)(hg:r.good=true):fZ r.q=r:=by
 obtain⟨neg,L,M⟩:=r;have hg0:=hg;unfold Raw.good at hg;simp only[Bool.and_eq_true] at hg;obtain⟨⟨h1,h2⟩,h3⟩:=hg;have hL:lim (val L)=L:=Bl h.num h1;have hM:lim (val M)=M:=Bl h.den h2;unfold Raw.q;rw[if_pos hg0];by_cases hn:L=[]
 .subst hn;rw[decide_eq_true rfl] at h3;simp only[cond_true,Bool.and_eq_true,Bool.not_eq_true',decide_eq_true_eq] at h3;obtain⟨rfl,rfl⟩:=h3;simp only[je,QS,tV]
 .rw[decide_eq_false hn] at h3;simp only[cond_false,Bool.or_eq_true,Bool.and_eq_true,decide_eq_true_eq] at h3;have hn0:val L≠0:=λe=>hn (by rw[<- hL,e,dY])
  by_cases hm:M=[]
  .subst hm;simp only[Raw.d,if_true];rw[QT hn0 (by decide)]
   simp only[Nat.gcd_one_right,Nat.div_one,if_true];rw[hL]
  .have hd0:val M≠0:=λe=>hm (by rw[<- hM,e,dY])
   simp only[Raw.d,hm,if_false];rw[QT hn0 hd0];rcases h3 with h3|⟨h3,h4⟩
   .exact absurd h3 hm
   .rw[h4,Nat.div_one,Nat.div_one,if_neg h3];rw[hL,hM]
theorem af5 {r:Raw}(hg:r.good=false):r.q=0:=by unfold Raw.q;rw[hg];rfl
theorem JA {r:Raw}(h:r.Ok)(hg:r.good=true):r.neg=decide (r.q.num<0)/\r.num=lim r.q.num.natAbs/\(r.den=[]->r.q.den=1)/\(r.den≠[]->r.den=lim r.q.den):=by
 have e:=XF h hg;refine⟨by rw[<- e,qy];rfl,?_,λhd=>?_,λhd=>?_⟩
 .have:r.num=(fZ r.q).num:=by rw[e]
  exact this
 .have:(fZ r.q).den=[]:=by rw[e];exact hd
  unfold fZ at this;simp only at this
  split at this
  .assumption
  .exact absurd (D8.1 this) r.q.den_nz
 .have h2:r.den=(fZ r.q).den:=by rw[e]
  have h3:(fZ r.q).den=if r.q.den=1 then [] else lim r.q.den:=rfl
  rw[h3] at h2
  split at h2
  .exact absurd h2 hd
  .exact h2
theorem yM {a b:Nat}:DU a b=0 ↔ a=b:=by
 unfold DU;constructor
 .intro h
  split at h
  .exact absurd h (by decide)
  .split at h
   .assumption
   .exact absurd h (by decide)
 .intro h;rw[if_neg (by omega),if_pos h]
abbrev vFr (s:Bool)(n d:Nat):V:=.ag [.d (dB s),.d (aH (lim n)),.d (aH (lim d))]
abbrev qFr (q:Rat):V:=vFr (decide (q.num<0)) q.num.natAbs q.den
theorem Tj {s:Bool}{a b d1 d2:Nat}(h1:d1≠0)(h2:d2≠0):fr s a d1+fr s b d2=fr s (a*d2+b*d1) (d1*d2):=by
 unfold fr;rw[Rat.mkRat_add_mkRat _ _ h1 h2];congr 1;cases s
 .simp only[cond_false,Int.natCast_add,Int.natCast_mul]
 .simp only[cond_true,Int.natCast_add,Int.natCast_mul,Int.neg_add,Int.neg_mul]
theorem OZ {s t:Bool}{a b d1 d2:Nat}(h1:d1≠0)(h2:d2≠0)(hst:s≠t)(h:b*d1<=a*d2):fr s a d1+fr t b d2=fr s (a*d2-b*d1) (d1*d2):=by
 unfold fr;rw[Rat.mkRat_add_mkRat _ _ h1 h2];congr 1;cases s <;> cases t
 .exact absurd rfl hst
 .simp only[cond_false,cond_true,Int.ofNat_sub h,Int.natCast_mul,Int.neg_mul];omega
 .simp only[cond_false,cond_true,Int.ofNat_sub h,Int.natCast_mul,Int.neg_mul];omega
 .exact absurd rfl hst
theorem Y7 {s t:Bool}{a b d1 d2:Nat}(h1:d1≠0)(h2:d2≠0)(hst:s≠t)(h:a*d2<=b*d1):fr s a d1+fr t b d2=fr t (b*d1-a*d2) (d1*d2):=by
 rw[Rat.add_comm,OZ h2 h1 (Ne.symm hst) h,Nat.mul_comm d2]
theorem QU {s t:Bool}{a b d1 d2:Nat}:fr s a d1*fr t b d2=fr (s != t) (a*b) (d1*d2):=by
 unfold fr;rw[Rat.mkRat_mul_mkRat];congr 1;cases s <;> cases t <;> simp[Int.neg_mul,Int.mul_neg]
theorem af6 {s:Bool}{a d:Nat}:-fr s a d=fr (!s) a d:=by
 unfold fr;rw[Rat.neg_mkRat];cases s <;> simp
theorem uH {L:List Nat}(h0:0<L.length):(!decide ((L.getD ((L.length:Int)-1).toNat 0:Int)=0))=canon L:=by
 rw[y7];unfold canon;have e:=QR h0;generalize L.getD (L.length-1) 0=x at e ⊢;rw[e];by_cases hx:x=0 <;> simp[hx]
def IW (q:Rat):Int:=if q.num<0 then -1 else if q.num=0 then 0 else 1
theorem He {q:Rat}:IW q = -1 ↔ q.num<0:=by
 unfold IW;constructor
 .intro h;by_cases h1:q.num<0
  .exact h1
  .rw[if_neg h1] at h
   split at h <;> exact absurd h (by decide)
 .intro h;rw[if_pos h]
theorem JB {q:Rat}:IW q=0 ↔ q.num=0:=by
 unfold IW;constructor
 .intro h
  split at h
  .exact absurd h (by decide)
  .split at h
   .assumption
   .exact absurd h (by decide)
 .intro h;rw[if_neg (by omega),if_pos h]
theorem lS {q:Rat}:IW q=0 ↔ q=0:=by rw[JB,Rat.num_eq_zero]
def Y8 (x y:Rat):Int:=IW (x-y)
theorem QV {x y:Rat}:Y8 x y=0 ↔ x=y:=by
 unfold Y8;rw[lS];constructor <;> intro h <;> grind
end Go.AL
namespace Go.AL
def sz (q:Rat):Nat:=max (lim q.num.natAbs).length (lim q.den).length
theorem lF (q:Rat):(lim q.num.natAbs).length<=sz q:=Nat.le_max_left ..
theorem lG (q:Rat):(lim q.den).length<=sz q:=Nat.le_max_right ..
theorem O0 {s:Bool}{n d k:Nat}(hd:d≠0)(h1:(lim n).length<=k)(h2:(lim d).length<=k):sz (fr s n d)<=k:=by
 unfold sz;rw[VU hd,af4 hd];have e:((bif s then -((n / Nat.gcd n d:Nat):Int) else ((n / Nat.gcd n d:Nat):Int)).natAbs)=n / Nat.gcd n d:=by
  generalize n / Nat.gcd n d=z;cases s <;> simp
 rw[e,Nat.max_le];exact⟨Nat.le_trans (sZ (Nat.div_le_self ..)) h1,Nat.le_trans (sZ (Nat.div_le_self ..)) h2⟩
theorem XG (a b:Nat):(lim (a+b)).length<=max (lim a).length (lim b).length+1:=by
 apply dO;rw[kQ];have h1:=Nat.lt_of_lt_of_le (qZ a) (Nat.pow_le_pow_right (n:=4294967296) (by decide) (Nat.le_max_left (lim a).length (lim b).length))
 have h2:=Nat.lt_of_lt_of_le (qZ b) (Nat.pow_le_pow_right (n:=4294967296) (by decide) (Nat.le_max_right (lim a).length (lim b).length))
 have h3:a+b<2*Bp (max (lim a).length (lim b).length):=by rw[Nat.two_mul];exact Nat.add_lt_add h1 h2
 omega
theorem KD {s t:Bool}{a b d1 d2:Nat}(h1:d1≠0)(h2:d2≠0) :
  fr (if s=t then s else if b*d1<=a*d2 then s else t) (if s=t then a*d2+b*d1 else if b*d1<=a*d2 then a*d2-b*d1 else b*d1-a*d2) (d1*d2)=fr s a d1+fr t b d2:=by
 by_cases h:s=t
 .subst h;rw[if_pos rfl,if_pos rfl,Tj h1 h2]
 .rw[if_neg h,if_neg h];by_cases h3:b*d1<=a*d2
  .rw[if_pos h3,if_pos h3,OZ h1 h2 h h3]
  .rw[if_neg h3,if_neg h3,Y7 h1 h2 h (by omega)]
theorem Hf {s t:Bool}{a b d1 d2 k l:Nat}(ha:(lim a).length<=k)(hb:(lim b).length<=l)(h1:(lim d1).length<=k)(h2:(lim d2).length<=l) :
  (lim (if s=t then a*d2+b*d1 else if b*d1<=a*d2 then a*d2-b*d1 else b*d1-a*d2)).length<=k+l+1:=by
 have e1:=gJ a d2;have e2:=gJ b d1;have e3:=XG (a*d2) (b*d1)
 split
 .omega
 .split
  .have:=sZ (Nat.sub_le (a*d2) (b*d1));omega
  .have:=sZ (Nat.sub_le (b*d1) (a*d2));omega
theorem Bd (x y:Rat):sz (x+y)<=sz x+sz y+1:=by
 have h:=KD (s:=decide (x.num<0)) (t:=decide (y.num<0)) (a:=x.num.natAbs) (b:=y.num.natAbs) x.den_nz y.den_nz;rw[o5,o5] at h;rw[<- h];refine O0 (Nat.mul_ne_zero x.den_nz y.den_nz) (Hf (lF x) (lF y) (lG x) (lG y)) ?_;have:=gJ x.den y.den;have:=lG x;have:=lG y;omega
theorem mD (x y:Rat):sz (x*y)<=sz x+sz y:=by
 have h:=QU (s:=decide (x.num<0)) (t:=decide (y.num<0)) (a:=x.num.natAbs) (b:=y.num.natAbs) (d1:=x.den) (d2:=y.den);rw[o5,o5] at h;rw[h];refine O0 (Nat.mul_ne_zero x.den_nz y.den_nz) ?_ ?_
 .have:=gJ x.num.natAbs y.num.natAbs;have:=lF x;have:=lF y;omega
 .have:=gJ x.den y.den;have:=lG x;have:=lG y;omega
theorem IX (x:Rat):sz (-x)=sz x:=by unfold sz;simp
theorem QW (x y:Rat):sz (x-y)<=sz x+sz y+1:=by
 rw[Rat.sub_eq_add_neg];have:=Bd x (-y);rw[IX] at this;exact this
theorem gm:sz 0=1:=by
 unfold sz;rw[show (0:Rat).num.natAbs=0 from rfl,show (0:Rat).den=1 from rfl,dY,wO (by decide) (by decide)]
 rfl
theorem af7 {s t:Bool}{a b d1 d2:Nat}(h1:d1≠0)(h2:d2≠0)(hb:b≠0):fr s a d1 / fr t b d2=fr (s != t) (a*d2) (d1*b):=by
 have hq:fr t b d2≠0:=λe=>by
  have:=VU (neg:=t) (n:=b) h2;rw[e] at this;have hg:0<Nat.gcd b d2:=Nat.gcd_pos_of_pos_left d2 (Nat.pos_of_ne_zero hb);have hq:0<b / Nat.gcd b d2:=Nat.div_pos (Nat.le_of_dvd (Nat.pos_of_ne_zero hb) (Nat.gcd_dvd_left b d2)) hg;cases t <;> simp at this <;> omega
 have e:fr (s != t) (a*d2) (d1*b)*fr t b d2=fr s a d1:=by
  rw[QU];have:((s != t) != t)=s:=by cases s <;> cases t <;> rfl
  rw[this];unfold fr;rw[Rat.mkRat_eq_iff (Nat.mul_ne_zero (Nat.mul_ne_zero h1 hb) h2) h1];cases s
  .simp only[cond_false,Int.natCast_mul];simp only[Int.mul_assoc,Int.mul_left_comm,Int.mul_comm]
  .simp only[cond_true,Int.natCast_mul,Int.neg_mul];simp only[Int.mul_assoc,Int.mul_left_comm,Int.mul_comm]
 rw[<- e]
 grind
structure Raw.Sm (r:Raw):Prop where
 ok:r.Ok
 ln:r.num.length<=68719476736
 ld:r.den.length<=68719476736
theorem Gh {r:Raw}{k:Nat}(h:r.Ok)(hn:r.num.length<=k)(hd:r.den.length<=k)(hk:1<=k):sz r.q<=k:=by
 cases hg:r.good with
 | false=>rw[af5 hg,gm];exact hk
 | true =>
  obtain⟨_,f2,f3,f4⟩:=JA h hg;unfold sz;rw[<- f2,Nat.max_le];refine⟨hn,?_⟩;by_cases e:r.den=[]
  .rw[f3 e,wO (by decide) (by decide)];exact hk
  .rw[<- f4 e];exact hd
theorem Raw.Sm.q {r:Raw}(h:r.Sm):sz r.q<=68719476736:=Gh h.ok h.ln h.ld (by decide)
theorem JC (q:Rat):(fZ q).den.length<=sz q:=by
 unfold fZ;simp only
 split
 .simp
 .exact lG q
theorem XH (q:Rat):jb (fZ q).num/\jb (fZ q).den:=by
 refine⟨bn _,?_⟩;unfold fZ;simp only
 split
 .exact jb.nil
 .exact bn _
theorem nT {q:Rat}(h:sz q<=274877906944):(fZ q).Ok :=
 ⟨(XH q).1,(XH q).2,Nat.le_trans (lF q) h,Nat.le_trans (JC q) h⟩
theorem D9 {q:Rat}(h:sz q<=68719476736):(fZ q).Sm:=⟨nT (by omega),Nat.le_trans (lF q) h,Nat.le_trans (JC q) h⟩
theorem LG (n d:Int):fr (decide (n<0) != decide (d<0)) n.natAbs d.natAbs=(n:Rat) / (d:Rat):=by
 unfold fr;rw[Rat.mkRat_eq_div];have en:∀ z:Int,((z.natAbs:Nat):Int)=if z<0 then -z else z:=λz=>by split <;> omega
 have hc:(((d.natAbs:Nat):Rat))=(((d.natAbs:Nat):Int):Rat):=rfl;rw[hc,en,en];by_cases h1:n<0 <;> by_cases h2:d<0 <;> simp only[h1,h2,decide_true,decide_false,bne_self_eq_false,cond_false,cond_true,if_true,if_false,Bool.true_bne,Bool.false_bne,Bool.not_false,Int.neg_neg,Rat.intCast_neg] <;> grind
