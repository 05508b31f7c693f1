/-
  N, part 1: natural numbers as lists of limbs of 32 bits, the least significant one first.
-/
import Derived.Test.YteiohkpjgcioaaaGreatDoorKAlgc
set_option linter.unusedVariables false
set_option linter.unusedSimpArgs false
namespace Go.AL
def val:List Nat->Nat
 | []=>0
 | x::L=>x+4294967296*val L
def jg (L:List Nat):Prop:=∀ x,x ∈ L->x<4294967296
def lim (n:Nat):List Nat:=if n=0 then [] else n % 4294967296::lim (n / 4294967296)
termination_by n
decreasing_by omega
abbrev Bp (i:Nat):Nat:=4294967296 ^ i
theorem wU (i:Nat):0<Bp i:=Nat.pow_pos (by decide)
theorem kZ (i:Nat):Bp (i+1)=Bp i*4294967296:=Nat.pow_succ ..
theorem rM:Bp 0=1:=rfl
theorem dY:lim 0=[]:=by rw[lim];simp
theorem Dl {n:Nat}(h:n≠0):lim n=n % 4294967296::lim (n / 4294967296):=by rw[lim,if_neg h]
theorem jq:val []=0:=rfl
theorem jr (x:Nat)(L:List Nat):val (x::L)=x+4294967296*val L:=rfl
theorem jg.nil:jg []:=λx h=>by simp at h
theorem jg.cons {x:Nat}{L:List Nat}(hx:x<4294967296)(h:jg L):jg (x::L):=λy hy=>by
 rcases List.mem_cons.1 hy with rfl|hy
 .exact hx
 .exact h y hy
theorem jg.tail {x:Nat}{L:List Nat}(h:jg (x::L)):jg L:=λy hy=>h y (List.mem_cons_of_mem _ hy)
theorem jg.head {x:Nat}{L:List Nat}(h:jg (x::L)):x<4294967296:=h x yD
theorem jg.append {L M:List Nat}(h:jg L)(k:jg M):jg (L++M):=λx hx=>(BO hx).elim (h x) (k x)
theorem jg.take {L:List Nat}(h:jg L)(i:Nat):jg (L.take i):=λx hx=>h x (List.mem_of_mem_take hx)
theorem jg.drop {L:List Nat}(h:jg L)(i:Nat):jg (L.drop i):=λx hx=>h x (List.mem_of_mem_drop hx)
theorem jg.set {L:List Nat}(h:jg L)(i:Nat){y:Nat}(hy:y<4294967296):jg (L.set i y):=λx hx=>by
 rcases List.mem_or_eq_of_mem_set hx with hx|rfl
 .exact h x hx
 .exact hy
theorem jg.zeros (n:Nat):jg (List.replicate n 0):=λx hx=>by rw[(List.mem_replicate.1 hx).2];decide
theorem jg.getD {L:List Nat}(h:jg L)(i:Nat):L.getD i 0<4294967296:=by
 rw[iZ];cases hg:L[i]? with
 | none=>decide
 | some x=>exact h x (List.mem_of_getElem? hg)
theorem bG (n:Nat):jg (lim n):=by
 induction n using Nat.strongRecOn with
 | _ n ih =>
  by_cases h:n=0
  .rw[h,dY];exact jg.nil
  .rw[Dl h];exact .cons (Nat.mod_lt _ (by decide)) (ih _ (by omega))
theorem bF (n:Nat):val (lim n)=n:=by
 induction n using Nat.strongRecOn with
 | _ n ih =>
  by_cases h:n=0
  .rw[h,dY];rfl
  .rw[Dl h,jr,ih _ (by omega)];omega
theorem val_append (L M:List Nat):val (L++M)=val L+Bp L.length*val M:=by
 induction L with
 | nil=>simp[jq,rM]
 | cons x L ih =>
  have e:∀ z,Bp L.length*4294967296*z=4294967296*(Bp L.length*z):=λz=>by rw[Nat.mul_comm (Bp L.length),Nat.mul_assoc]
  rw[List.cons_append,jr,jr,ih,List.length_cons,kZ,e];omega
theorem zK (L:List Nat)(x:Nat):val (L++[x])=val L+Bp L.length*x:=by rw[val_append];simp[jr,jq]
theorem zL {L:List Nat}(h:jg L):val L<Bp L.length:=by
 induction L with
 | nil=>simp[jq,rM]
 | cons x L ih =>
  have h1:=ih h.tail;have h2:=h.head;rw[jr,List.length_cons,kZ];have:4294967296*(val L+1)<=4294967296*Bp L.length:=Nat.mul_le_mul_left _ h1;omega
theorem FZ (n:Nat):val (List.replicate n 0)=0:=by
 induction n with
 | zero=>rfl
 | succ n ih=>rw[List.replicate_succ,jr,ih]
theorem getD_eq {L:List Nat}(h:jg L)(i:Nat):L.getD i 0=val L / Bp i % 4294967296:=by
 induction L generalizing i with
 | nil=>simp[jq]
 | cons x L ih =>
  have h2:=h.head;cases i with
  | zero=>simp only[List.getD_cons_zero,jr,rM];omega
  | succ i =>
   rw[List.getD_cons_succ,ih h.tail,jr,kZ,Nat.mul_comm (Bp i),<- Nat.div_div_eq_div_mul];congr 2;omega
theorem IY {L:List Nat}(h:jg L)(i:Nat):val (L.take i)=val L % Bp i:=by
 have h1:=val_append (L.take i) (L.drop i);rw[List.take_append_drop] at h1;have h2:=zL (h.take i);by_cases hi:i<=L.length
 .rw[List.length_take,Nat.min_eq_left hi] at h1 h2;rw[h1,Nat.add_mul_mod_self_left,Nat.mod_eq_of_lt h2]
 .rw[List.take_of_length_le (by omega)]
  have h3:=zL h;rw[Nat.mod_eq_of_lt];exact Nat.lt_of_lt_of_le h3 (Nat.pow_le_pow_right (by decide) (by omega))
theorem RG {L:List Nat}{i:Nat}(hi:i<L.length)(y:Nat):val (L.set i y)+L.getD i 0*Bp i=val L+y*Bp i:=by
 induction L generalizing i with
 | nil=>simp at hi
 | cons x L ih =>
  cases i with
  | zero=>simp only[List.set_cons_zero,List.getD_cons_zero,jr,rM];omega
  | succ i =>
   have:=ih (i:=i) (by simpa using hi)
   simp only[List.set_cons_succ,List.getD_cons_succ,jr,kZ];have e:∀ z,z*(Bp i*4294967296)=4294967296*(z*Bp i):=λz=>by rw[<- Nat.mul_assoc,Nat.mul_comm]
   rw[e,e];omega
theorem RH {L:List Nat}(h:jg L)(hl:L.getLast? ≠ some 0):lim (val L)=L:=by
 induction L with
 | nil=>rw[jq,dY]
 | cons x L ih =>
  have hx:=h.head;have hne:val (x::L)≠0:=by
   intro h0;rw[jr] at h0;have hx0:x=0:=by omega
   have hL0:val L=0:=by omega
   cases L with
   | nil=>subst hx0;exact hl rfl
   | cons y L =>
    have:=ih h.tail (by simpa using hl)
    rw[hL0,dY] at this;cases this
  have hl':L.getLast? ≠ some 0:=by
   cases L with
   | nil=>simp
   | cons y L=>simpa using hl
  rw[Dl hne];have e1:val (x::L) % 4294967296=x:=by rw[jr];omega
  have e2:val (x::L) / 4294967296=val L:=by rw[jr];omega
  rw[e1,e2,ih h.tail hl']
theorem al3 (n:Nat):(lim n).getLast? ≠ some 0:=by
 induction n using Nat.strongRecOn with
 | _ n ih =>
  by_cases h:n=0
  .rw[h,dY];simp
  .rw[Dl h];have:=ih (n / 4294967296) (by omega)
   by_cases h2:n / 4294967296=0
   .rw[h2,dY];simp only[List.getLast?_singleton,ne_eq,Option.some.injEq];omega
   .have hc:lim (n / 4294967296)≠[]:=by rw[Dl h2];simp
    obtain⟨y,L,hL⟩:=List.exists_cons_of_ne_nil hc;rw[hL] at this ⊢;simpa using this
theorem fK {n k:Nat}(h:n<Bp k):(lim n).length<=k:=by
  induction k generalizing n with
  | zero => have : n = 0 := by rw[rM] at h; omega
            rw[this,dY];simp
  | succ k ih =>
    by_cases hn:n=0
    · rw[hn,dY];simp
    · rw[Dl hn, List.length_cons]
      have:=ih (n:=n / 4294967296) (by rw[kZ] at h;exact Nat.div_lt_of_lt_mul (by rwa [Nat.mul_comm]))
      omega
theorem qO (n:Nat):n<Bp (lim n).length:=by
 have:=zL (bG n)
 rwa [bF] at this
theorem dJ {n:Nat}:(lim n).length=0 ↔ n=0:=by
 constructor
 .intro h;have:=qO n;rw[h,rM] at this;omega
 .intro h;rw[h,dY];rfl
theorem Xe {n:Nat}(h:n≠0):Bp ((lim n).length-1)<=n:=by
 rcases Nat.lt_or_ge n (Bp ((lim n).length-1)) with h'|h'
 .have h1:=fK h';have h2:(lim n).length≠0:=λe=>h (dJ.1 e);omega
 .exact h'
theorem wV {n:Nat}(h:n<4294967296)(h0:n≠0):lim n=[n]:=by
 rw[Dl h0,Nat.mod_eq_of_lt h,Nat.div_eq_of_lt h,dY]
theorem jg.dropLast {L:List Nat}(h:jg L):jg L.dropLast:=λx hx=>h x (List.dropLast_subset _ hx)
theorem RI {L:List Nat}(h:0<L.length):L=L.dropLast++[L.getD (L.length-1) 0]:=by
 have hne:L≠[]:=λe=>by rw[e] at h;simp at h
 have h1:=List.dropLast_concat_getLast hne;have h2:L.getLast hne=L.getD (L.length-1) 0:=by
  rw[iZ,sU (by omega),Option.getD_some,List.getLast_eq_getElem]
 rw[<- h2];exact h1.symm
theorem IZ {L:List Nat}(h0:0<L.length)(h:L.getD (L.length-1) 0=0):val L.dropLast=val L:=by
 have h1:=RI h0;rw[h] at h1;have h2:val L=val (L.dropLast++[0]):=by rw[<- h1]
 rw[h2,zK];simp
theorem YC {L:List Nat}(h0:0<L.length)(h:L.getD (L.length-1) 0≠0):L.getLast? ≠ some 0:=by
 rw[RI h0];simpa using h
theorem al4 {L:List Nat}(h:¬ 0<L.length):L=[]:=KZ (by omega)
def EG (a b:Nat):Int:=if a<b then -1 else if a=b then 0 else 1
theorem Xf:∀ {a b:Nat},(∀ j,a / Bp j % 4294967296=b / Bp j % 4294967296)->a=b:=by
 intro a
 induction a using Nat.strongRecOn with
 | _ a ih =>
  intro b h;have h0:=h 0;simp only[rM,Nat.div_one] at h0;have hs:∀ j,a / 4294967296 / Bp j % 4294967296=b / 4294967296 / Bp j % 4294967296:=λj=>by
   have:=h (j+1);rw[kZ,Nat.mul_comm] at this
   rwa [Nat.div_div_eq_div_mul,Nat.div_div_eq_div_mul]
  by_cases ha:a=0
  .subst ha;have hz:∀ b:Nat,(∀ j,b / Bp j % 4294967296=0)->b=0:=by
    intro b
    induction b using Nat.strongRecOn with
    | _ b ihb =>
     intro hb;have h0:=hb 0;simp only[rM,Nat.div_one] at h0;by_cases hb0:b=0
     .exact hb0
     .have:=ihb (b / 4294967296) (by omega) λj=>by
       have:=hb (j+1);rw[kZ,Nat.mul_comm] at this
       rwa [Nat.div_div_eq_div_mul]
      omega
   exact (hz b λj=>by have:=h j;rw[<- this,Nat.zero_div]).symm
  .have:=ih (a / 4294967296) (by omega) hs
   omega
theorem YD {A C:List Nat}(hA:jg A)(hC:jg C){n:Nat}(h:∀ j,n<=j->A.getD j 0=C.getD j 0):val A / Bp n=val C / Bp n:=by
 apply Xf;intro j;have:=h (n+j) (by omega)
 rw[getD_eq hA,getD_eq hC] at this;rw[Nat.div_div_eq_div_mul,Nat.div_div_eq_div_mul,<- Nat.pow_add];exact this
theorem zN {A:List Nat}(hA:jg A)(i:Nat):val A / Bp i=val A / Bp (i+1)*4294967296+A.getD i 0:=by
 rw[getD_eq hA,kZ,<- Nat.div_div_eq_div_mul];omega
theorem Qc {A C:List Nat}(hA:jg A)(hC:jg C){i:Nat}(h:∀ j,i+1<=j->A.getD j 0=C.getD j 0)(hl:A.getD i 0<C.getD i 0):val A<val C:=by
 have h1:=YD hA hC h;have h2:=zN hA i;have h3:=zN hC i;have h4:val A / Bp i<val C / Bp i:=by omega
 exact Nat.lt_of_not_le λhle=>absurd (Nat.div_le_div_right (c:=Bp i) hle) (by omega)
theorem Qd {A C:List Nat}(hA:jg A)(hC:jg C)(h:∀ j,A.getD j 0=C.getD j 0):val A=val C:=by
 have:=YD hA hC (n:=0) λj _=>h j;simpa [rM] using this
theorem al5 {A C:List Nat}(hA:jg A)(hC:jg C){i:Nat}(h:∀ j,i+1<=j->A.getD j 0=C.getD j 0)(hne:A.getD i 0≠C.getD i 0):EG (val A) (val C)=if A.getD i 0<C.getD i 0 then -1 else 1:=by
 unfold EG;rcases Nat.lt_or_gt_of_ne hne with hl|hl
 .rw[if_pos (Qc hA hC h hl),if_pos hl]
 .have:=Qc hC hA (λj hj=>(h j hj).symm) hl;rw[if_neg (by omega),if_neg (by omega),if_neg (by omega)]
theorem fA {A:List Nat}(hA:jg A)(i:Nat):val (A.take (i+1))=val (A.take i)+Bp i*A.getD i 0:=by
 rw[IY hA,IY hA,getD_eq hA,kZ,Nat.mod_mul]
theorem tJ {A:List Nat}{i:Nat}(h:A.length<=i):A.take i=A:=List.take_of_length_le h
theorem zO {A:List Nat}{i:Nat}(h:A.length<=i):A.getD i 0=0:=by rw[iZ,List.getElem?_eq_none h];rfl
theorem Qe {o s a c x y i:Nat}(h:o+Bp i*s=a+c):o+Bp i*((s+(x+y)) % 4294967296)+Bp (i+1)*((s+(x+y)) / 4294967296)=(a+Bp i*x)+(c+Bp i*y):=by
 rw[kZ];generalize Bp i=k at h ⊢;have e:s+(x+y)=(s+(x+y)) % 4294967296+4294967296*((s+(x+y)) / 4294967296):=by omega
 have e2:k*(s+(x+y))=k*((s+(x+y)) % 4294967296)+k*4294967296*((s+(x+y)) / 4294967296):=by
  rw[Nat.mul_assoc,<- Nat.mul_add,<- e]
 rw[Nat.mul_add,Nat.mul_add] at e2;omega
theorem Ho {L:List Nat}{i y:Nat}(h:i<L.length):(L.set i y).getD i 0=y:=by
 rw[iZ,List.getElem?_set_self h];rfl
theorem getD_set_ne {L:List Nat}{i j y:Nat}(h:i≠j):(L.set i y).getD j 0=L.getD j 0:=by
 rw[iZ,List.getElem?_set_ne h,iZ]
theorem Nz {o l a c x y i:Nat}(h:a+l*Bp i=o+c)(hx:x<4294967296)(hy:y<4294967296)(hl:l<=1) :
  (a+Bp i*x)+(if x<y+l then 1 else 0)*Bp (i+1)=(o+Bp i*((x+4294967296-y-l) % 4294967296))+(c+Bp i*y):=by
 rw[kZ];generalize Bp i=k at h ⊢;have e:x+(if x<y+l then 1 else 0)*4294967296=(x+4294967296-y-l) % 4294967296+y+l:=by split <;> omega
 have e2:k*(x+(if x<y+l then 1 else 0)*4294967296)=k*((x+4294967296-y-l) % 4294967296+y+l):=by rw[e]
 have e3:(if x<y+l then 1 else 0)*(k*4294967296)=k*((if x<y+l then 1 else 0)*4294967296):=by
  rw[<- Nat.mul_assoc,Nat.mul_comm (if x<y+l then 1 else 0) k,Nat.mul_assoc]
 rw[e3];rw[Nat.mul_add,Nat.mul_add,Nat.mul_add,Nat.mul_comm k l] at e2;omega
theorem Qg {A C O:List Nat}{l:Nat}(hA:jg A)(hO:jg O)(h1:O.length=A.length)(hle:val C<=val A)(h:val (A.take A.length)+l*Bp A.length=val (O.take A.length)+val (C.take A.length))(hl:l<=1)(hC:jg C) :
  val O=val A-val C:=by
 have a1:=zL hA;have a2:=zL hO;rw[h1] at a2;rw[List.take_length,tJ (A:=O) (by omega),IY hC,Nat.mod_eq_of_lt (by omega)] at h
 have:l=0 \/ l=1:=by omega
 rcases this with rfl|rfl <;> omega
theorem Hq {L:List Nat}{n y:Nat}(hn:0<n)(h:n<=L.length):val ((L.set (n-1) y).drop (n-1))=val (L.drop n)*4294967296+y:=by
 have e:(L.set (n-1) y).drop (n-1)=y::L.drop n:=by
  rw[List.drop_eq_getElem_cons (by simp;omega),List.getElem_set_self,List.drop_set_of_lt (by omega),show n-1+1=n by omega]
 rw[e,jr];omega
theorem zQ (n:Nat):((n:Int)-1).toNat=n-1:=by omega
end Go.AL
namespace Go.AL
theorem yH (i j:Nat):Bp (i+j)=Bp i*Bp j:=Nat.pow_add ..
theorem NC {out:List Nat}{i j s V a t c T:Nat}(hl:i+j<out.length)(h:val out+s*Bp (i+j)=V+a*Bp i*t)(hT:T=s+(out.getD (i+j) 0+a*c)) :
  val (out.set (i+j) (T % 4294967296))+T / 4294967296*Bp (i+(j+1))=V+a*Bp i*(t+Bp j*c):=by
 have h1:=RG hl (T % 4294967296);rw[show i+(j+1)=(i+j)+1 by omega,kZ,Nat.mul_add]
 have e1:a*Bp i*(Bp j*c)=a*c*Bp (i+j):=by rw[yH];simp only[Nat.mul_assoc,Nat.mul_left_comm,Nat.mul_comm]
 rw[e1];generalize Bp (i+j)=k at *;have e2:T*k=T % 4294967296*k+T / 4294967296*(k*4294967296):=by
  have:T=T % 4294967296+4294967296*(T / 4294967296):=by omega
  calc T*k=(T % 4294967296+4294967296*(T / 4294967296))*k:=by rw[<- this]
   _=_:=by rw[Nat.add_mul];congr 1;rw[Nat.mul_comm k,Nat.mul_comm 4294967296,Nat.mul_assoc]
 have e3:T*k=s*k+(out.getD (i+j) 0*k+a*c*k):=by rw[hT,Nat.add_mul,Nat.add_mul]
 omega
theorem Z4 {A C out:List Nat}{i j s:Nat}(hA:jg A)(hC:jg C)(hj:C.length<=j)(h:val out+s*Bp (i+j)=val (A.take i)*val C+A.getD i 0*Bp i*val (C.take j))(hj2:C.length+1=j):s=0:=by
 rw[tJ (A:=C) hj] at h;have h1:val (A.take (i+1))<Bp (i+1):=by rw[IY hA];exact Nat.mod_lt _ (wU _)
 have h2:=zL hC;rw[fA hA] at h1;have e:val (A.take i)*val C+A.getD i 0*Bp i*val C=(val (A.take i)+Bp i*A.getD i 0)*val C:=by rw[Nat.add_mul,Nat.mul_comm (Bp i)]
 rw[e] at h;have h3:(val (A.take i)+Bp i*A.getD i 0)*val C<Bp (i+1)*Bp C.length:=by
  rcases Nat.eq_zero_or_pos (val C) with h0|h0
  .rw[h0,Nat.mul_zero];exact Nat.mul_pos (wU _) (wU _)
  .exact Nat.lt_of_lt_of_le (Nat.mul_lt_mul_of_pos_right h1 h0) (Nat.mul_le_mul_left _ (Nat.le_of_lt h2))
 rw[<- yH,show i+1+C.length=i+j by omega] at h3
 rcases Nat.eq_zero_or_pos s with h0|h0
 .exact h0
 .have:=Nat.le_mul_of_pos_left (Bp (i+j)) h0;omega
theorem Xg {A C out:List Nat}{i j:Nat}(hA:jg A)(hj:C.length<=j)(h:val out+0*Bp (i+j)=val (A.take i)*val C+A.getD i 0*Bp i*val (C.take j)):val out=val (A.take (i+1))*val C:=by
 rw[tJ (A:=C) hj] at h;rw[fA hA,Nat.add_mul,Nat.mul_comm (Bp i)];omega
theorem Xh {A:List Nat}{n d r q:Nat}(hd:0<d)(hA:jg A)(h0:0<n)(h:val A / Bp n=q*d+r) :
  val A / Bp (n-1)=(q*4294967296+(r*4294967296+A.getD (n-1) 0) / d)*d+(r*4294967296+A.getD (n-1) 0) % d:=by
 have h1:=zN hA (n-1);rw[show n-1+1=n by omega,h] at h1
 rw[h1,Nat.add_mul,Nat.add_mul];have h2:=Nat.div_add_mod (r*4294967296+A.getD (n-1) 0) d;rw[Nat.mul_comm d] at h2;have e:q*4294967296*d=q*d*4294967296:=by rw[Nat.mul_assoc,Nat.mul_comm 4294967296,<- Nat.mul_assoc]
 rw[e];omega
def o8 (x:Nat):Nat:=if x=0 then 0 else Nat.log2 x+1
theorem Z5:o8 0=0:=rfl
theorem aB5 (x:Nat):x<2 ^ o8 x:=by
 unfold o8
 split
 .rename_i h;subst h;decide
 .exact Nat.lt_log2_self
theorem YE {x:Nat}(h:x≠0):2 ^ (o8 x-1)<=x:=by
 unfold o8;rw[if_neg h];exact Nat.log2_self_le h
theorem al6 {x:Nat}(h:x≠0):0<o8 x:=by unfold o8;rw[if_neg h];omega
theorem Z7 {x m:Nat}(h1:2 ^ m<=x)(h2:x<2 ^ (m+1)):o8 x=m+1:=by
 have h0:x≠0:=by have:=Nat.pow_pos (n:=m) (a:=2) (by decide);omega
 unfold o8;rw[if_neg h0];have a:=Nat.log2_self_le h0;have b:=Nat.lt_log2_self (n:=x);have c1:m<Nat.log2 x+1:=(Nat.pow_lt_pow_iff_right (by decide)).1 (Nat.lt_of_le_of_lt h1 b)
 have c2:Nat.log2 x<m+1:=(Nat.pow_lt_pow_iff_right (by decide)).1 (Nat.lt_of_le_of_lt a h2)
 omega
theorem Ic {x k:Nat}(h:2 ^ k<=x):o8 (x / 2 ^ k)+k=o8 x:=by
 have h0:x≠0:=by have:=Nat.pow_pos (n:=k) (a:=2) (by decide);omega
 have a:=YE h0;have b:=aB5 x;have c:=al6 h0;have hk:k<o8 x:=(Nat.pow_lt_pow_iff_right (by decide)).1 (Nat.lt_of_le_of_lt h b)
 have e:o8 (x / 2 ^ k)=o8 x-k-1+1:=Z7
  (by rw[Nat.le_div_iff_mul_le (Nat.pow_pos (by decide)),<- Nat.pow_add,show o8 x-k-1+k=o8 x-1 by omega];exact a)
  (Nat.div_lt_of_lt_mul (by rw[<- Nat.pow_add,show k+(o8 x-k-1+1)=o8 x by omega];exact b))
 omega
theorem BQ {x k:Nat}(h:x<2 ^ k):o8 x<=k:=by
 rcases Nat.eq_zero_or_pos x with h0|h0
 .rw[h0,Z5];omega
 .have a:=YE (x:=x) (by omega)
  have:=(Nat.pow_lt_pow_iff_right (a:=2) (by decide)).1 (Nat.lt_of_le_of_lt a h)
  omega
theorem tbl {bs:ByteArray}(h:((List.range 256).all λn=>decide ((bs[n]?).map (·.toNat)=some (o8 n)))=true){z:Nat}(hz:z<256):(bs[z]?).map (·.toNat)=some (o8 z):=by
 have:=List.all_eq_true.1 h z (List.mem_range.2 hz);exact jC this
end Go.AL
namespace Go.AL
theorem wW (i:Nat):Bp i=2 ^ (32*i):=by rw[Nat.pow_mul]
theorem Xi {n:Nat}:(lim n).getD ((lim n).length-1) 0=n / Bp ((lim n).length-1):=by
 rw[getD_eq (bG n),bF,Nat.mod_eq_of_lt];by_cases h:n=0
 .subst h;simp
 .have h1:=qO n;have h2:(lim n).length≠0:=λe=>h (dJ.1 e);rw[show (lim n).length=(lim n).length-1+1 by omega,kZ] at h1
  exact Nat.div_lt_of_lt_mul h1
theorem YF {n:Nat}(h:n≠0):0<(lim n).getD ((lim n).length-1) 0:=by
 rw[Xi];exact Nat.div_pos (Xe h) (wU _)
theorem al7 {n:Nat}(h:n≠0):o8 n=32*((lim n).length-1)+o8 ((lim n).getD ((lim n).length-1) 0):=by
 have h1:=Ic (x:=n) (k:=32*((lim n).length-1)) (by rw[<- wW];exact Xe h)
 rw[Xi,wW];omega
theorem UF (n:Nat):o8 n<=32*(lim n).length:=BQ (by rw[<- wW];exact qO n)
theorem left_step {o r a x s Q:Nat}{i:Nat}(hl:o+r*Bp (Q+i)=a*2 ^ s*Bp Q) :
  o+Bp (Q+i)*((x*2 ^ s+r) % 4294967296)+(x*2 ^ s+r) / 4294967296*Bp (Q+(i+1))=(a+Bp i*x)*2 ^ s*Bp Q:=by
 rw[show Q+(i+1)=(Q+i)+1 by omega,kZ]
 have e1:(a+Bp i*x)*2 ^ s*Bp Q=a*2 ^ s*Bp Q+x*2 ^ s*Bp (Q+i):=by
  rw[Nat.add_mul,Nat.add_mul,yH];congr 1;simp only[Nat.mul_assoc,Nat.mul_left_comm,Nat.mul_comm]
 rw[e1,<- hl];generalize Bp (Q+i)=k;generalize hT:x*2 ^ s=y;have e2:(y+r)*k=k*((y+r) % 4294967296)+(y+r) / 4294967296*(k*4294967296):=by
  have:y+r=(y+r) % 4294967296+4294967296*((y+r) / 4294967296):=by omega
  calc (y+r)*k=((y+r) % 4294967296+4294967296*((y+r) / 4294967296))*k:=by rw[<- this]
   _=_:=by rw[Nat.add_mul,Nat.mul_comm k];congr 1;rw[Nat.mul_comm 4294967296,Nat.mul_assoc,Nat.mul_comm 4294967296]
 have e3:(y+r)*k=y*k+r*k:=Nat.add_mul ..;omega
theorem al8 {o r a s Q k i:Nat}(hk:k=32*Q+s)(hl:o+r*Bp (Q+i)=a*2 ^ s*Bp Q):o+Bp (Q+i)*r=a*2 ^ k:=by
 rw[hk,Nat.pow_add,<- wW,Nat.mul_comm (Bp Q),<- Nat.mul_assoc,<- hl,Nat.mul_comm r]
theorem Xj {A:List Nat}(hA:jg A){k Q s i:Nat}(hk:k=32*Q+s)(hs:s<32) :
  (A.getD (Q+i+1) 0*4294967296+A.getD (Q+i) 0) / 2 ^ s % 4294967296=val A / 2 ^ k / Bp i % 4294967296:=by
 have h1:=zN hA (Q+i);have h2:=zN hA (Q+i+1);have e:val A / 2 ^ k / Bp i=val A / Bp (Q+i) / 2 ^ s:=by
  rw[Nat.div_div_eq_div_mul,Nat.div_div_eq_div_mul,hk,Nat.pow_add,<- wW,yH];congr 1;simp only[Nat.mul_assoc,Nat.mul_left_comm,Nat.mul_comm]
 rw[e,h1,h2];generalize val A / Bp (Q+i+1+1)=z;generalize A.getD (Q+i+1) 0=x;generalize A.getD (Q+i) 0=y;have hp:2 ^ s*2 ^ (32-s)=4294967296:=by rw[<- Nat.pow_add,show s+(32-s)=32 by omega]
 have hpos:0<2 ^ s:=Nat.pow_pos (by decide)
 have e2:(z*4294967296+x)*4294967296+y=(x*4294967296+y)+2 ^ s*(2 ^ (32-s)*z*4294967296):=by
  have:2 ^ s*(2 ^ (32-s)*z*4294967296)=4294967296*z*4294967296:=by rw[<- hp];simp only[Nat.mul_assoc]
  rw[this];omega
 rw[e2,Nat.add_mul_div_left _ _ hpos,Nat.add_mul_mod_self_right]
theorem right_step {A out:List Nat}(hA:jg A){k Q s:Nat}(hk:k=32*Q+s)(hs:s<32)(h:val out=val A / 2 ^ k % Bp out.length) :
  val (out++[(A.getD (Q+out.length+1) 0*4294967296+A.getD (Q+out.length) 0) / 2 ^ s % 4294967296])=val A / 2 ^ k % Bp (out.length+1):=by
 rw[zK,Xj hA hk hs,h,kZ,Nat.mod_mul]
theorem Z8 {A out:List Nat}(hA:jg A){k Q s:Nat}(hk:k=32*Q+s)(h:val out=val A / 2 ^ k % Bp out.length)(hl:A.length<=Q+out.length):val out=val A / 2 ^ k:=by
 rw[h,Nat.mod_eq_of_lt];have h1:=zL hA;have h2:Bp A.length<=Bp (Q+out.length):=Nat.pow_le_pow_right (by decide) hl
 have h3:val A / 2 ^ k<=val A / Bp Q:=by
  rw[hk,Nat.pow_add,<- wW,<- Nat.div_div_eq_div_mul];exact Nat.div_le_self ..
 have h4:val A / Bp Q<Bp out.length:=Nat.div_lt_of_lt_mul (by rw[<- yH];omega)
 omega
theorem al9 {u v k:Nat}(hv:v≠0)(hu:u<v*Bp (k+1)) :
  u / (v*Bp k)<=min (((lim u).getD (k+(lim v).length) 0*4294967296+(lim u).getD (k+(lim v).length-1) 0) / (lim v).getD ((lim v).length-1) 0) 4294967295:=by
 have hl:(lim v).length≠0:=λe=>hv (dJ.1 e);have hpos:0<v*Bp k:=Nat.mul_pos (by omega) (wU k)
 have hvp:=YF hv;rw[Nat.le_min];constructor
 .rw[Nat.le_div_iff_mul_le hvp,Xi];have s1:=zN (bG u) (k+(lim v).length);have s2:=zN (bG u) (k+(lim v).length-1);rw[bF] at s1 s2;rw[show k+(lim v).length-1+1=k+(lim v).length by omega] at s2
  have z:u / Bp (k+(lim v).length+1)=0:=by
   apply Nat.div_eq_of_lt;have h1:=qO v;have h2:v*Bp (k+1)<=Bp (lim v).length*Bp (k+1):=Nat.mul_le_mul_right _ (Nat.le_of_lt h1);rw[<- yH,show (lim v).length+(k+1)=k+(lim v).length+1 by omega] at h2
   omega
  rw[z] at s1;have hT:(lim u).getD (k+(lim v).length) 0*4294967296+(lim u).getD (k+(lim v).length-1) 0=u / Bp (k+(lim v).length-1):=by
   rw[s2,s1];omega
  rw[hT,Nat.le_div_iff_mul_le (wU _)];have a1:v / Bp ((lim v).length-1)*Bp ((lim v).length-1)<=v:=Nat.div_mul_le_self ..;have a2:u / (v*Bp k)*(v*Bp k)<=u:=Nat.div_mul_le_self ..;have e:Bp (k+(lim v).length-1)=Bp ((lim v).length-1)*Bp k:=by rw[<- yH];congr 1;omega
  rw[e]
  calc u / (v*Bp k)*(v / Bp ((lim v).length-1))*(Bp ((lim v).length-1)*Bp k)=u / (v*Bp k)*(v / Bp ((lim v).length-1)*Bp ((lim v).length-1)*Bp k):=by simp only[Nat.mul_assoc]
   _<=u / (v*Bp k)*(v*Bp k):=Nat.mul_le_mul_left _ (Nat.mul_le_mul_right _ a1)
   _<=u:=a2
 .have:u / (v*Bp k)<4294967296:=Nat.div_lt_of_lt_mul (by rw[Nat.mul_assoc,<- kZ];exact hu)
  omega
theorem Xk {u v:Nat}(hv:v≠0){m:Nat}(hm:(lim u).length+1<=m+(lim v).length):u<v*Bp m:=by
 have h1:=qO u;have h2:=Xe hv;have h3:Bp (lim u).length<=Bp ((lim v).length-1+m):=Nat.pow_le_pow_right (by decide) (by omega)
 rw[yH] at h3;have h4:Bp ((lim v).length-1)*Bp m<=v*Bp m:=Nat.mul_le_mul_right _ h2;omega
theorem Z9 {U u v k Q:Nat}(hv:v≠0)(h:U=Q*v*Bp (k+1)+u) :
  U=(Q*4294967296+u / (v*Bp k))*v*Bp k+(u-u / (v*Bp k)*(v*Bp k))/\u-u / (v*Bp k)*(v*Bp k)<v*Bp k:=by
 have hpos:0<v*Bp k:=Nat.mul_pos (by omega) (wU k)
 have h1:=Nat.div_add_mod u (v*Bp k);have h2:=Nat.mod_lt u hpos;rw[Nat.mul_comm] at h1;refine⟨?_,by omega⟩
 have e:(Q*4294967296+u / (v*Bp k))*v*Bp k=Q*v*Bp (k+1)+u / (v*Bp k)*(v*Bp k):=by
  rw[kZ,Nat.add_mul,Nat.add_mul];congr 1
  .simp only[Nat.mul_assoc,Nat.mul_left_comm,Nat.mul_comm]
  .simp only[Nat.mul_assoc]
 rw[e];omega
theorem am0 {a b s U q u:Nat}(hb:b≠0)(hU:a*2 ^ s=q*(b*2 ^ s)+u)(hu:u<b*2 ^ s):q=a / b/\u / 2 ^ s=a % b:=by
 have hp:0<2 ^ s:=Nat.pow_pos (by decide)
 have h1:=(Nat.div_mod_unique (a:=a*2 ^ s) (c:=u) (d:=q) (b:=b*2 ^ s) (Nat.mul_pos (by omega) hp)).2 ⟨by rw[Nat.mul_comm (b*2 ^ s)];omega,hu⟩
 rw[Nat.mul_div_mul_right _ _ hp,Nat.mul_mod_mul_right] at h1;refine⟨h1.1.symm,?_⟩;rw[<- h1.2,Nat.mul_div_cancel _ hp]
theorem aB6 {n:Nat}(h:(lim n).length=1):lim n=[n]:=by
 have h1:=qO n;rw[h] at h1;exact wV h1 λe=>by rw[e,dY] at h;exact absurd h (by decide)
theorem cmp_neg {a b:Nat}(h:EG a b<0):a<b:=by
 unfold EG at h
 split at h
 .assumption
 .split at h <;> omega
theorem Xl {a b:Nat}(h:b<=a):0<=EG a b:=by
 unfold EG;rw[if_neg (by omega)]
 split <;> decide
theorem I4 {a b:Nat}(h:¬ EG a b<0):b<=a:=by
 unfold EG at h
 split at h
 .omega
 .omega
theorem aB7 (a:Nat):Min.min (a:Int) 4294967295=((min a 4294967295:Nat):Int):=by omega
theorem aB8 {A:List Nat}(hA:jg A):(lim (val A)).length<=A.length:=fK (zL hA)
theorem aO2 {u v k:Nat}(h:u<v*Bp k):(lim u).length<=(lim v).length+k:=fK (by
 rw[yH];exact Nat.lt_trans h (Nat.mul_lt_mul_of_pos_right (qO v) (wU _)))
theorem ja (a b:Nat):(lim (a*b)).length<=(lim a).length+(lim b).length:=by
 apply fK;rw[yH];exact Nat.mul_lt_mul_of_lt_of_le (qO a) (Nat.le_of_lt (qO b)) (wU _)
theorem rO {g:Nat}(h:g<4294967296):(lim g).length<=1:=fK (k:=1) (by rw[Bp,Nat.pow_one];exact h)
theorem PE {v g:Nat}(h:g<4294967296):(lim (v*g)).length<=(lim v).length+1:=Nat.le_trans (ja v g) (Nat.add_le_add_left (rO h) _)
theorem Xm (a k:Nat):(lim (a*Bp k)).length<=(lim a).length+k:=by
 apply fK;rw[yH];exact Nat.mul_lt_mul_of_pos_right (qO a) (wU _)
theorem YG {a S m:Nat}(h:S<=32*m):(lim (a*2 ^ S)).length<=(lim a).length+m:=by
 apply fK;rw[yH];exact Nat.mul_lt_mul_of_lt_of_le (qO a) (by rw[wW];exact Nat.pow_le_pow_right (by decide) h) (wU _)
theorem sW {a b:Nat}(h:a<=b):(lim a).length<=(lim b).length:=fK (Nat.lt_of_le_of_lt h (qO b))
theorem am1 {u v g k:Nat}(hlt:u<v*g*Bp k):u / (v*Bp k)<=g-1:=by
 have e:v*g*Bp k=v*Bp k*g:=by rw[Nat.mul_assoc,Nat.mul_comm g,<- Nat.mul_assoc]
 rw[e] at hlt;have:=Nat.div_lt_of_lt_mul hlt;omega
theorem aa0 {v g k:Nat}(hg:0<g):v*(g-1)*Bp k=v*g*Bp k-v*Bp k:=by
 obtain⟨g',rfl⟩:∃ g',g=g' + 1:=⟨g-1,by omega⟩
 rw[Nat.add_sub_cancel,Nat.mul_add,Nat.add_mul,Nat.mul_one,Nat.add_sub_cancel]
theorem val_one (g:Nat):val [g]=g:=by simp[jr,jq]
theorem aB9 {g:Nat}(h:g<4294967296):(lim (val [g])).length<=4398046511104:=by
 have:=rO h;rw[val_one];omega
end Go.AL
namespace Go.AL
structure Raw where
 neg:Bool
 num:List Nat
 den:List Nat
abbrev vw (r:Raw):V:=.ag [.d (dB r.neg),.d (aC r.num),.d (aC r.den)]
abbrev aC0 (r:Raw):D:=.ag [dB r.neg,aC r.num,aC r.den]
structure Raw.Ok (r:Raw):Prop where
 num:jg r.num
 den:jg r.den
 ln:r.num.length<=274877906944
 ld:r.den.length<=274877906944
def canon (L:List Nat):Bool:=!(L.getLast? == some 0)
def Raw.good (r:Raw):Bool :=
 canon r.num && canon r.den && bif decide (r.num=[]) then !r.neg && decide (r.den=[]) else (decide (r.den=[]) || (decide (val r.den≠1) && decide (Nat.gcd (val r.num) (val r.den)=1)))
def fr (neg:Bool)(n d:Nat):Rat:=mkRat (bif neg then -(n:Int) else (n:Int)) d
def Raw.d (r:Raw):Nat:=if r.den=[] then 1 else val r.den
def Raw.q (r:Raw):Rat:=if r.good then fr r.neg (val r.num) r.d else 0
def eU (q:Rat):Raw:=⟨decide (q.num<0),lim q.num.natAbs,if q.den=1 then [] else lim q.den⟩
theorem Qh:canon []=true:=rfl
theorem Qi (n:Nat):canon (lim n)=true:=by
 have:=al3 n;unfold canon;simp[this]
theorem BR {L:List Nat}(hL:jg L)(h:canon L=true):lim (val L)=L:=RH hL (by unfold canon at h;simpa using h)
theorem ET {n:Nat}:lim n=[] ↔ n=0:=by
 constructor
 .intro h;exact dJ.1 (by rw[h];rfl)
 .intro h;rw[h,dY]
theorem YH (q:Rat):val (eU q).num=q.num.natAbs:=bF _
theorem aY8 (q:Rat):(eU q).d=q.den:=by
 unfold Raw.d eU;by_cases h:q.den=1
 .simp[h]
 .simp only[h,if_false,ET,q.den_nz,bF]
theorem I5 (q:Rat):(eU q).good=true:=by
 unfold Raw.good;have h1:canon (eU q).num=true:=Qi _;have h2:canon (eU q).den=true:=by
  unfold eU
  split
  .rfl
  .exact Qi _
 rw[h1,h2];simp only[Bool.true_and];by_cases h0:q.num=0
 .have hq:q=0:=Rat.num_eq_zero.1 h0;subst hq;simp[eU,dY]
 .have hn:(eU q).num≠[]:=λe=>h0 (Int.natAbs_eq_zero.1 (ET.1 e));rw[decide_eq_false hn];by_cases h:q.den=1
  .simp[eU,h]
  .have hd:(eU q).den=lim q.den:=by simp[eU,h]
   simp only[cond_false,hd,bF,YH];have:=q.reduced;unfold Nat.Coprime at this;simp[h,this]
theorem qP (q:Rat):fr (decide (q.num<0)) q.num.natAbs q.den=q:=by
 unfold fr;have e:(bif decide (q.num<0) then -(q.num.natAbs:Int) else (q.num.natAbs:Int))=q.num:=by
  by_cases h:q.num<0
  .rw[decide_eq_true h];simp only[cond_true];omega
  .rw[decide_eq_false h];simp only[cond_false];omega
 rw[e,Rat.mkRat_self]
theorem uM (q:Rat):(eU q).q=q:=by
 unfold Raw.q;rw[if_pos (I5 q),YH,aY8];exact qP q
theorem Xn {neg:Bool}{n d:Nat}(hd:d≠0):(fr neg n d).num=bif neg then -((n / Nat.gcd n d:Nat):Int) else ((n / Nat.gcd n d:Nat):Int):=by
 unfold fr;rw[Rat.num_mkRat,if_neg hd];cases neg
 .simp only[cond_false,Int.natAbs_natCast];rw[Nat.gcd_comm];exact (Int.natCast_ediv n (n.gcd d)).symm
 .simp only[cond_true,Int.natAbs_neg,Int.natAbs_natCast];rw[Nat.gcd_comm,Int.natCast_ediv,Int.neg_ediv_of_dvd];exact Int.natCast_dvd_natCast.2 (Nat.gcd_dvd_left n d)
theorem am2 {neg:Bool}{n d:Nat}(hd:d≠0):(fr neg n d).den=d / Nat.gcd n d:=by
 unfold fr;rw[Rat.den_mkRat,if_neg hd];cases neg <;> simp[Nat.gcd_comm]
theorem qp:eU 0=⟨false,[],[]⟩:=by simp[eU,dY]
theorem RJ {neg:Bool}{d:Nat}:fr neg 0 d=0:=by unfold fr;cases neg <;> simp
theorem RN {neg:Bool}{n d:Nat}(hn:n≠0)(hd:d≠0):eU (fr neg n d)=⟨neg,lim (n / Nat.gcd n d),if d / Nat.gcd n d=1 then [] else lim (d / Nat.gcd n d)⟩:=by
 have hg:0<Nat.gcd n d:=Nat.gcd_pos_of_pos_left d (Nat.pos_of_ne_zero hn);have hq:0<n / Nat.gcd n d:=Nat.div_pos (Nat.le_of_dvd (Nat.pos_of_ne_zero hn) (Nat.gcd_dvd_left n d)) hg;unfold eU;rw[Xn hd,am2 hd];cases neg
 .simp only[cond_false,Int.natAbs_natCast,Raw.mk.injEq,decide_eq_false_iff_not,true_and,and_true];omega
 .simp only[cond_true,Int.natAbs_neg,Int.natAbs_natCast,Raw.mk.injEq,decide_eq_true_eq,true_and,and_true];omega
theorem YI {r:Raw}(h:r.Ok)(hg:r.good=true):eU r.q=r:=by
 obtain⟨neg,L,M⟩:=r;have hg0:=hg;unfold Raw.good at hg;simp only[Bool.and_eq_true] at hg;obtain⟨⟨h1,h2⟩,h3⟩:=hg;have hL:lim (val L)=L:=BR h.num h1;have hM:lim (val M)=M:=BR h.den h2;unfold Raw.q;rw[if_pos hg0];by_cases hn:L=[]
 .subst hn;rw[decide_eq_true rfl] at h3;simp only[cond_true,Bool.and_eq_true,Bool.not_eq_true',decide_eq_true_eq] at h3;obtain⟨rfl,rfl⟩:=h3;simp only[jq,RJ,qp]
 .rw[decide_eq_false hn] at h3;simp only[cond_false,Bool.or_eq_true,Bool.and_eq_true,decide_eq_true_eq] at h3;have hn0:val L≠0:=λe=>hn (by rw[<- hL,e,dY])
  by_cases hm:M=[]
  .subst hm;simp only[Raw.d,if_true];rw[RN hn0 (by decide)]
   simp only[Nat.gcd_one_right,Nat.div_one,if_true];rw[hL]
  .have hd0:val M≠0:=λe=>hm (by rw[<- hM,e,dY])
   simp only[Raw.d,hm,if_false];rw[RN hn0 hd0];rcases h3 with h3|⟨h3,h4⟩
   .exact absurd h3 hm
   .rw[h4,Nat.div_one,Nat.div_one,if_neg h3];rw[hL,hM]
theorem am3 {r:Raw}(hg:r.good=false):r.q=0:=by unfold Raw.q;rw[hg];rfl
theorem EU {r:Raw}(h:r.Ok)(hg:r.good=true):r.neg=decide (r.q.num<0)/\r.num=lim r.q.num.natAbs/\(r.den=[]->r.q.den=1)/\(r.den≠[]->r.den=lim r.q.den):=by
 have e:=YI h hg;refine⟨by rw[<- e,uM];rfl,?_,λhd=>?_,λhd=>?_⟩
 .have:r.num=(eU r.q).num:=by rw[e]
  exact this
 .have:(eU r.q).den=[]:=by rw[e];exact hd
  unfold eU at this;simp only at this
  split at this
  .assumption
  .exact absurd (ET.1 this) r.q.den_nz
 .have h2:r.den=(eU r.q).den:=by rw[e]
  have h3:(eU r.q).den=if r.q.den=1 then [] else lim r.q.den:=rfl
  rw[h3] at h2
  split at h2
  .exact absurd h2 hd
  .exact h2
theorem zh {a b:Nat}:EG a b=0 ↔ a=b:=by
 unfold EG;constructor
 .intro h
  split at h
  .exact absurd h (by decide)
  .split at h
   .assumption
   .exact absurd h (by decide)
 .intro h;rw[if_neg (by omega),if_pos h]
abbrev vFr (s:Bool)(n d:Nat):V:=.ag [.d (dB s),.d (aC (lim n)),.d (aC (lim d))]
abbrev qFr (q:Rat):V:=vFr (decide (q.num<0)) q.num.natAbs q.den
theorem UG {s:Bool}{a b d1 d2:Nat}(h1:d1≠0)(h2:d2≠0):fr s a d1+fr s b d2=fr s (a*d2+b*d1) (d1*d2):=by
 unfold fr;rw[Rat.mkRat_add_mkRat _ _ h1 h2];congr 1;cases s
 .simp only[cond_false,Int.natCast_add,Int.natCast_mul]
 .simp only[cond_true,Int.natCast_add,Int.natCast_mul,Int.neg_add,Int.neg_mul]
theorem Qj {s t:Bool}{a b d1 d2:Nat}(h1:d1≠0)(h2:d2≠0)(hst:s≠t)(h:b*d1<=a*d2):fr s a d1+fr t b d2=fr s (a*d2-b*d1) (d1*d2):=by
 unfold fr;rw[Rat.mkRat_add_mkRat _ _ h1 h2];congr 1;cases s <;> cases t
 .exact absurd rfl hst
 .simp only[cond_false,cond_true,Int.ofNat_sub h,Int.natCast_mul,Int.neg_mul];omega
 .simp only[cond_false,cond_true,Int.ofNat_sub h,Int.natCast_mul,Int.neg_mul];omega
 .exact absurd rfl hst
theorem aa1 {s t:Bool}{a b d1 d2:Nat}(h1:d1≠0)(h2:d2≠0)(hst:s≠t)(h:a*d2<=b*d1):fr s a d1+fr t b d2=fr t (b*d1-a*d2) (d1*d2):=by
 rw[Rat.add_comm,Qj h2 h1 (Ne.symm hst) h,Nat.mul_comm d2]
theorem RP {s t:Bool}{a b d1 d2:Nat}:fr s a d1*fr t b d2=fr (s != t) (a*b) (d1*d2):=by
 unfold fr;rw[Rat.mkRat_mul_mkRat];congr 1;cases s <;> cases t <;> simp[Int.neg_mul,Int.mul_neg]
theorem aO4 {s:Bool}{a d:Nat}:-fr s a d=fr (!s) a d:=by
 unfold fr;rw[Rat.neg_mkRat];cases s <;> simp
theorem uG {L:List Nat}(h0:0<L.length):(!decide ((L.getD ((L.length:Int)-1).toNat 0:Int)=0))=canon L:=by
 rw[zQ];unfold canon;have e:=RI h0;generalize L.getD (L.length-1) 0=x at e ⊢;rw[e];by_cases hx:x=0 <;> simp[hx]
def yN (q:Rat):Int:=if q.num<0 then -1 else if q.num=0 then 0 else 1
theorem Dn {q:Rat}:yN q = -1 ↔ q.num<0:=by
 unfold yN;constructor
 .intro h;by_cases h1:q.num<0
  .exact h1
  .rw[if_neg h1] at h
   split at h <;> exact absurd h (by decide)
 .intro h;rw[if_pos h]
theorem Ll {q:Rat}:yN q=0 ↔ q.num=0:=by
 unfold yN;constructor
 .intro h
  split at h
  .exact absurd h (by decide)
  .split at h
   .assumption
   .exact absurd h (by decide)
 .intro h;rw[if_neg (by omega),if_pos h]
theorem zU (q:Rat):yN q = -1 \/ yN q=0 \/ yN q=1:=by
 unfold yN
 split
 .exact .inl rfl
 .split
  .exact .inr (.inl rfl)
  .exact .inr (.inr rfl)
theorem UH {q:Rat}:yN q = -1 ↔ q<0:=by
 rw[Dn,<- Rat.not_le,<- Rat.num_nonneg];omega
theorem I7 {q:Rat}:yN q=0 ↔ q=0:=by rw[Ll,Rat.num_eq_zero]
theorem ND {q:Rat}:yN q=1 ↔ 0<q:=by
 have h3:=zU q;have h1:=UH (q:=q);have h2:=I7 (q:=q);constructor
 .intro h;have a:¬ q<0:=λe=>by rw[h1.2 e] at h;exact absurd h (by decide)
  have b:q≠0:=λe=>by rw[h2.2 e] at h;exact absurd h (by decide)
  grind
 .intro h;rcases h3 with h3|h3|h3
  .have:=h1.1 h3;grind
  .have:=h2.1 h3;grind
  .exact h3
theorem EW {q:Rat}:0<=yN q ↔ 0<=q:=by
 have h1:=UH (q:=q);have h3:=zU q;constructor
 .intro h;have:¬ q<0:=λe=>by rw[h1.2 e] at h;exact absurd h (by decide)
  grind
 .intro h;rcases h3 with h3|h3|h3
  .have:=h1.1 h3;grind
  .omega
  .omega
def NE (x y:Rat):Int:=yN (x-y)
theorem RQ {x y:Rat}:NE x y<=0 ↔ x<=y:=by
 have h1:=ND (q:=x-y);have h3:=zU (x-y);unfold NE;constructor
 .intro h;have:¬ 0<x-y:=λe=>by rw[h1.2 e] at h;exact absurd h (by decide)
  grind
 .intro h;have:¬ yN (x-y)=1:=λe=>by have:=h1.1 e;grind
  omega
theorem yO {x y:Rat}:NE x y=0 ↔ x=y:=by
 unfold NE;rw[I7];constructor <;> intro h <;> grind
end Go.AL
namespace Go.AL
def sz (q:Rat):Nat:=max (lim q.num.natAbs).length (lim q.den).length
theorem oK (q:Rat):(lim q.num.natAbs).length<=sz q:=Nat.le_max_left ..
theorem oL (q:Rat):(lim q.den).length<=sz q:=Nat.le_max_right ..
theorem YJ {s:Bool}{n d k:Nat}(hd:d≠0)(h1:(lim n).length<=k)(h2:(lim d).length<=k):sz (fr s n d)<=k:=by
 unfold sz;rw[Xn hd,am2 hd];have e:((bif s then -((n / Nat.gcd n d:Nat):Int) else ((n / Nat.gcd n d:Nat):Int)).natAbs)=n / Nat.gcd n d:=by
  generalize n / Nat.gcd n d=z;cases s <;> simp
 rw[e,Nat.max_le];exact⟨Nat.le_trans (sW (Nat.div_le_self ..)) h1,Nat.le_trans (sW (Nat.div_le_self ..)) h2⟩
theorem YK (a b:Nat):(lim (a+b)).length<=max (lim a).length (lim b).length+1:=by
 apply fK;rw[kZ];have h1:=Nat.lt_of_lt_of_le (qO a) (Nat.pow_le_pow_right (n:=4294967296) (by decide) (Nat.le_max_left (lim a).length (lim b).length))
 have h2:=Nat.lt_of_lt_of_le (qO b) (Nat.pow_le_pow_right (n:=4294967296) (by decide) (Nat.le_max_right (lim a).length (lim b).length))
 have h3:a+b<2*Bp (max (lim a).length (lim b).length):=by rw[Nat.two_mul];exact Nat.add_lt_add h1 h2
 omega
theorem MG {s t:Bool}{a b d1 d2:Nat}(h1:d1≠0)(h2:d2≠0) :
  fr (if s=t then s else if b*d1<=a*d2 then s else t) (if s=t then a*d2+b*d1 else if b*d1<=a*d2 then a*d2-b*d1 else b*d1-a*d2) (d1*d2)=fr s a d1+fr t b d2:=by
 by_cases h:s=t
 .subst h;rw[if_pos rfl,if_pos rfl,UG h1 h2]
 .rw[if_neg h,if_neg h];by_cases h3:b*d1<=a*d2
  .rw[if_pos h3,if_pos h3,Qj h1 h2 h h3]
  .rw[if_neg h3,if_neg h3,aa1 h1 h2 h (by omega)]
theorem I8 {s t:Bool}{a b d1 d2 k l:Nat}(ha:(lim a).length<=k)(hb:(lim b).length<=l)(h1:(lim d1).length<=k)(h2:(lim d2).length<=l) :
  (lim (if s=t then a*d2+b*d1 else if b*d1<=a*d2 then a*d2-b*d1 else b*d1-a*d2)).length<=k+l+1:=by
 have e1:=ja a d2;have e2:=ja b d1;have e3:=YK (a*d2) (b*d1)
 split
 .omega
 .split
  .have:=sW (Nat.sub_le (a*d2) (b*d1));omega
  .have:=sW (Nat.sub_le (b*d1) (a*d2));omega
theorem vz (x y:Rat):sz (x+y)<=sz x+sz y+1:=by
 have h:=MG (s:=decide (x.num<0)) (t:=decide (y.num<0)) (a:=x.num.natAbs) (b:=y.num.natAbs) x.den_nz y.den_nz;rw[qP,qP] at h;rw[<- h];refine YJ (Nat.mul_ne_zero x.den_nz y.den_nz) (I8 (oK x) (oK y) (oL x) (oL y)) ?_;have:=ja x.den y.den;have:=oL x;have:=oL y;omega
theorem jZ (x y:Rat):sz (x*y)<=sz x+sz y:=by
 have h:=RP (s:=decide (x.num<0)) (t:=decide (y.num<0)) (a:=x.num.natAbs) (b:=y.num.natAbs) (d1:=x.den) (d2:=y.den);rw[qP,qP] at h;rw[h];refine YJ (Nat.mul_ne_zero x.den_nz y.den_nz) ?_ ?_
 .have:=ja x.num.natAbs y.num.natAbs;have:=oK x;have:=oK y;omega
 .have:=ja x.den y.den;have:=oL x;have:=oL y;omega
theorem Xo (x:Rat):sz (-x)=sz x:=by unfold sz;simp
theorem Xp (x y:Rat):sz (x-y)<=sz x+sz y+1:=by
 rw[Rat.sub_eq_add_neg];have:=vz x (-y);rw[Xo] at this;exact this
theorem gJ:sz 0=1:=by
 unfold sz;rw[show (0:Rat).num.natAbs=0 from rfl,show (0:Rat).den=1 from rfl,dY,wV (by decide) (by decide)]
 rfl
theorem aO5 {s t:Bool}{a b d1 d2:Nat}(h1:d1≠0)(h2:d2≠0)(hb:b≠0):fr s a d1 / fr t b d2=fr (s != t) (a*d2) (d1*b):=by
 have hq:fr t b d2≠0:=λe=>by
  have:=Xn (neg:=t) (n:=b) h2;rw[e] at this;have hg:0<Nat.gcd b d2:=Nat.gcd_pos_of_pos_left d2 (Nat.pos_of_ne_zero hb);have hq:0<b / Nat.gcd b d2:=Nat.div_pos (Nat.le_of_dvd (Nat.pos_of_ne_zero hb) (Nat.gcd_dvd_left b d2)) hg;cases t <;> simp at this <;> omega
 have e:fr (s != t) (a*d2) (d1*b)*fr t b d2=fr s a d1:=by
  rw[RP];have:((s != t) != t)=s:=by cases s <;> cases t <;> rfl
  rw[this];unfold fr;rw[Rat.mkRat_eq_iff (Nat.mul_ne_zero (Nat.mul_ne_zero h1 hb) h2) h1];cases s
  .simp only[cond_false,Int.natCast_mul];simp only[Int.mul_assoc,Int.mul_left_comm,Int.mul_comm]
  .simp only[cond_true,Int.natCast_mul,Int.neg_mul];simp only[Int.mul_assoc,Int.mul_left_comm,Int.mul_comm]
 rw[<- e]
 grind
structure Raw.Sm (r:Raw):Prop where
 ok:r.Ok
 ln:r.num.length<=68719476736
 ld:r.den.length<=68719476736
theorem I9 {r:Raw}{k:Nat}(h:r.Ok)(hn:r.num.length<=k)(hd:r.den.length<=k)(hk:1<=k):sz r.q<=k:=by
 cases hg:r.good with
 | false=>rw[am3 hg,gJ];exact hk
 | true =>
  obtain⟨_,f2,f3,f4⟩:=EU h hg;unfold sz;rw[<- f2,Nat.max_le];refine⟨hn,?_⟩;by_cases e:r.den=[]
  .rw[f3 e,wV (by decide) (by decide)];exact hk
  .rw[<- f4 e];exact hd
theorem Raw.Sm.q {r:Raw}(h:r.Sm):sz r.q<=68719476736:=I9 h.ok h.ln h.ld (by decide)
theorem Lm (q:Rat):(eU q).den.length<=sz q:=by
 unfold eU;simp only
 split
 .simp
 .exact oL q
theorem YL (q:Rat):jg (eU q).num/\jg (eU q).den:=by
 refine⟨bG _,?_⟩;unfold eU;simp only
 split
 .exact jg.nil
 .exact bG _
theorem qQ {q:Rat}(h:sz q<=274877906944):(eU q).Ok :=
 ⟨(YL q).1,(YL q).2,Nat.le_trans (oK q) h,Nat.le_trans (Lm q) h⟩
theorem EX {q:Rat}(h:sz q<=68719476736):(eU q).Sm:=⟨qQ (by omega),Nat.le_trans (oK q) h,Nat.le_trans (Lm q) h⟩
theorem Xq (n d:Int):fr (decide (n<0) != decide (d<0)) n.natAbs d.natAbs=(n:Rat) / (d:Rat):=by
 unfold fr;rw[Rat.mkRat_eq_div];have en:∀ z:Int,((z.natAbs:Nat):Int)=if z<0 then -z else z:=λz=>by split <;> omega
 have hc:(((d.natAbs:Nat):Rat))=(((d.natAbs:Nat):Int):Rat):=rfl;rw[hc,en,en];by_cases h1:n<0 <;> by_cases h2:d<0 <;> simp only[h1,h2,decide_true,decide_false,bne_self_eq_false,cond_false,cond_true,if_true,if_false,Bool.true_bne,Bool.false_bne,Bool.not_false,Int.neg_neg,Rat.intCast_neg] <;> grind
