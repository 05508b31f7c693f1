/-
  M: exchanges, rotations, binary search, merging in place; the stable sort of the library of Go sorts.
-/
import Derived.Test.YteiohkpjgcioaaaGreatDoorKMod78
set_option linter.unusedVariables false
set_option linter.unusedSimpArgs false
namespace Go.AL
open Go Go.BigFrame
section
variable {α:Type}[Inhabited α]
def G9 (u:List α)(i j:Nat):List α:=(u.set i (u.getD j default)).set j (u.getD i default)
def Jp (u:List α)(p q:Nat):Nat->List α
 | 0=>u
 | n+1=>G9 (Jp u p q n) (p+n) (q+n)
def rotL (m:Nat):Nat->Nat->Nat->List α->List α
 | 0,_,_,u=>u
 | k+1,i,j,u=>if i=j then Jp u (m-i) m i else if j<i then rotL m k (i-j) j (Jp u (m-i) m j) else rotL m k i (j-i) (Jp u (m-i) (m+j-i) i)
def Jq (f:Nat->Bool):Nat->Nat->Nat->Nat
 | 0,lo,_=>lo
 | k+1,lo,hi=>if lo<hi then (if f ((lo+hi) / 2) then Jq f k ((lo+hi) / 2+1) hi else Jq f k lo ((lo+hi) / 2)) else lo
def upG (u:List α)(a:Nat):Nat->List α
 | 0=>u
 | n+1=>G9 (upG u a n) (a+n) (a+n+1)
def dnG (u:List α)(m:Nat):Nat->List α
 | 0=>u
 | n+1=>G9 (dnG u m n) (m-n) (m-n-1)
def wM (c:α->α->Bool):Nat->List α->Nat->Nat->Nat->List α
 | 0,u,_,_,_=>u
 | k + 1, u, a, m, b =>
  if m-a=1 then upG u a (Jq (λh=>c (u.getD h default) (u.getD a default)) (b-m) m b-1-a)
  else if b-m=1 then dnG u m (m-Jq (λh=>!c (u.getD m default) (u.getD h default)) (m-a) a m)
  else
   let mid:=(a+b) / 2
   let n:=mid+m
   let lo:=if mid<m then n-b else a
   let hi:=if mid<m then mid else m
   let s:=Jq (λh=>!c (u.getD (n-1-h) default) (u.getD h default)) (hi-lo) lo hi
   let e:=n-s
   let u1:=if s<m/\m<e then rotL m (e-s) (m-s) (e-m) u else u
   let u2:=if a<s/\s<mid then wM c k u1 a s mid else u1
   if mid<e/\e<b then wM c k u2 mid e b else u2
def qh (c:α->α->Bool)(bs n:Nat):Nat->List α->List α
 | 0,u=>u
 | k+1,u=>let v:=qh c bs n k u;wM c (2*bs) v (2*bs*k) (2*bs*k+bs) (2*bs*k+2*bs)
theorem FB (u:List α)(i j:Nat):(G9 u i j).length=u.length:=by simp[G9]
theorem Ar (u:List α)(p q:Nat):∀ n,(Jp u p q n).length=u.length
 | 0=>rfl
 | n+1=>by rw[Jp,FB,Ar u p q n]
theorem Ox {A M B:List α}{x y:α}:G9 (A++x::M++y::B) A.length (A.length+1+M.length)=A++y::M++x::B:=by
 unfold G9;have e1:(A++x::M++y::B).getD A.length default=x:=by
  rw[iZ,List.append_assoc,List.getElem?_append_right (Nat.le_refl _),Nat.sub_self];rfl
 have e2:(A++x::M++y::B).getD (A.length+1+M.length) default=y:=by
  rw[iZ,List.getElem?_append_right (by simp;omega)]
  have:A.length+1+M.length-(A++x::M).length=0:=by simp;omega
  rw[this];rfl
 rw[e1,e2];have e3:(A++x::M++y::B).set A.length y=A++y::M++y::B:=by
  rw[List.append_assoc,List.set_append_right _ _ (Nat.le_refl _),Nat.sub_self,List.append_assoc];rfl
 rw[e3,List.set_append_right _ _ (by simp;omega)]
 have:A.length+1+M.length-(A++y::M).length=0:=by simp;omega
 rw[this];rfl
omit [Inhabited α] in
theorem XO {X:List α}{n:Nat}(h:X.length=n+1):∃ X' x,X=X' ++ [x]/\X'.length=n:=by
 rcases List.eq_nil_or_concat X with rfl|⟨L,b,rfl⟩
 .simp at h
 .refine⟨L,b,List.concat_eq_append ..,?_⟩;rw[List.concat_eq_append,jT] at h;simpa using h
theorem Jr:∀ {n:Nat} {A X M Y B:List α},X.length=n->Y.length=n->Jp (A++X++M++Y++B) A.length (A.length+n+M.length) n=A++Y++M++X++B
 | 0,A,X,M,Y,B,hx,hy=>by
  obtain rfl:=KZ hx;obtain rfl:=KZ hy;rfl
 | n+1,A,X,M,Y,B,hx,hy=>by
  obtain⟨X,x,rfl,hx'⟩:=XO hx;obtain⟨Y,y,rfl,hy'⟩:=XO hy;rw[Jp];have h:=Jr (n:=n) (A:=A) (X:=X) (M:=x::M) (Y:=Y) (B:=y::B) hx' hy';have e1:A++(X++[x])++M++(Y++[y])++B=A++X++x::M++Y++y::B:=by simp
  have e2:A.length+(n+1)+M.length=A.length+n+(x::M).length:=by simp;omega
  rw[e1,e2,h];have h2:=Ox (A:=A++Y) (M:=M++X) (B:=B) (x:=x) (y:=y);have e3:A++Y++x::M++X++y::B=A++Y++x::(M++X)++y::B:=by simp
  have e4:A.length+n=(A++Y).length:=by simp;omega
  have e5:A.length+n+(x::M).length+n=(A++Y).length+1+(M++X).length:=by simp;omega
  rw[e3,e5,e4,h2];simp
omit [Inhabited α] in
theorem cutAt {X:List α}{j:Nat}(h:j<=X.length):∃ P Q,X=P++Q/\P.length=j/\Q.length=X.length-j:=⟨X.take j,X.drop j,(List.take_append_drop j X).symm,by rw[List.length_take];omega,by rw[List.length_drop]⟩
theorem Oy:∀ {k:Nat} {A X Y B:List α},X.length+Y.length<=k->0<X.length->0<Y.length->rotL (A.length+X.length) k X.length Y.length (A++X++Y++B)=A++Y++X++B
 | 0,A,X,Y,B,hk,hx,hy=>by omega
 | k + 1, A, X, Y, B, hk, hx, hy => by
  rw[rotL];by_cases e:X.length=Y.length
  .rw[if_pos e];have h:=Jr (A:=A) (X:=X) (M:=[]) (Y:=Y) (B:=B) rfl e.symm;simp only[List.append_nil,List.length_nil,Nat.add_zero] at h;rw[Nat.add_sub_cancel];exact h
  .rw[if_neg e];by_cases e2:Y.length<X.length
   .rw[if_pos e2];obtain⟨P,Q,rfl,hp,hq⟩:=cutAt (X:=X) (j:=Y.length) (by omega)
    rw[jT] at hq hk e2 hx;have h:=Jr (n:=Y.length) (A:=A) (X:=P) (M:=Q) (Y:=Y) (B:=B) hp rfl;have e3:A++(P++Q)++Y++B=A++P++Q++Y++B:=by simp
    have e4:A.length+(P++Q).length-(P++Q).length=A.length:=by omega
    have e5:A.length+(P++Q).length=A.length+Y.length+Q.length:=by simp;omega
    rw[e3,e4,e5,h];have h2:=Oy (k:=k) (A:=A++Y) (X:=Q) (Y:=P) (B:=B) (by omega) (by omega) (by omega)
    have e6:(P++Q).length-Y.length=Q.length:=by simp;omega
    rw[e6];have e7:A.length+Y.length+Q.length=(A++Y).length+Q.length:=by simp
    rw[e7,<- hp,h2];simp
   .rw[if_neg e2];obtain⟨P,Q,rfl,hp,hq⟩:=cutAt (X:=Y) (j:=Y.length-X.length) (by omega)
    rw[jT] at hp hq hk e2 hy e;have h:=Jr (n:=X.length) (A:=A) (X:=X) (M:=P) (Y:=Q) (B:=B) rfl (by omega)
    have e3:A++X++(P++Q)++B=A++X++P++Q++B:=by simp
    have e4:A.length+X.length+(P++Q).length-X.length=A.length+X.length+P.length:=by simp;omega
    rw[e3,Nat.add_sub_cancel,e4,h];have h2:=Oy (k:=k) (A:=A) (X:=Q) (Y:=P) (B:=X++B) (by omega) (by omega) (by omega)
    have e6:(P++Q).length-X.length=P.length:=by simp;omega
    have e7:X.length=Q.length:=by omega
    rw[e6,e7];have e8:A++Q++P++X++B=A++Q++P++(X++B):=by simp
    rw[e8,h2];simp
theorem Oz {f:Nat->Bool}{L H:Nat}(hm:∀ c c',L<=c->c<=c' -> c' < H->f c' = true->f c=true):∀ {k lo hi:Nat},hi-lo<=k->L<=lo->lo<=hi->hi<=H->(∀ c,L<=c->c<lo->f c=true)->(∀ c,hi<=c->c<H->f c=false)->lo<=Jq f k lo hi/\Jq f k lo hi<=hi/\(∀ c,L<=c->c<Jq f k lo hi->f c=true)/\(∀ c,Jq f k lo hi<=c->c<H->f c=false)
 | 0,lo,hi,hk,h1,h2,h3,ht,hf=>by
  obtain rfl:lo=hi:=by omega
  exact⟨Nat.le_refl _,Nat.le_refl _,ht,hf⟩
 | k + 1, lo, hi, hk, h1, h2, h3, ht, hf => by
  rw[Jq];by_cases e:lo<hi
  .rw[if_pos e];by_cases hc:f ((lo+hi) / 2)=true
   .rw[if_pos hc];have h:=Oz hm (k:=k) (lo:=(lo+hi) / 2+1) (hi:=hi) (by omega) (by omega) (by omega) h3 (λc hl hh=>hm c _ hl (Nat.le_of_lt_succ hh) (by omega) hc) hf
    exact⟨by omega,h.2.1,h.2.2⟩
   .rw[if_neg hc];have h:=Oz hm (k:=k) (lo:=lo) (hi:=(lo+hi) / 2) (by omega) h1 (by omega) (by omega) ht (λc hl hh=>by
     rw[<- Bool.not_eq_true];intro hx;exact hc (hm _ c (by omega) hl hh hx))
    exact⟨h.1,by omega,h.2.2⟩
  .rw[if_neg e];obtain rfl:lo=hi:=by omega
   exact⟨Nat.le_refl _,Nat.le_refl _,ht,hf⟩
theorem Zc {A B:List α}{x:α}:∀ {n:Nat} {Y:List α},Y.length=n->upG (A++x::Y++B) A.length n=A++Y++x::B
 | 0,Y,h=>by obtain rfl:=KZ h;simp[upG]
 | n+1,Y,h=>by
  obtain⟨Y,y,rfl,hy⟩:=XO h;have e1:A++x::(Y++[y])++B=A++x::Y++y::B:=by simp
  rw[upG,e1];have h0:=Zc (A:=A) (B:=y::B) (x:=x) (n:=n) (Y:=Y) hy;rw[h0];have h1:=Ox (A:=A++Y) (M:=[]) (B:=B) (x:=x) (y:=y);have e2:(A++Y).length=A.length+n:=by simp;omega
  rw[e2] at h1;simp only[List.length_nil,Nat.add_zero] at h1;have e3:A++Y++x::y::B=A++Y++[x]++y::B:=by simp
  rw[e3,h1];simp
theorem Zd {A B:List α}{y:α}:∀ {n:Nat} {X:List α},X.length=n->dnG (A++X++y::B) (A.length+n) n=A++y::X++B
 | 0,X,h=>by obtain rfl:=KZ h;simp[dnG]
 | n + 1, X, h => by
  obtain⟨X',hX⟩:∃ X',X' = X:=⟨X,rfl⟩
  match X,h with
  | x :: X, h =>
   rw[dnG];have hx:X.length=n:=by simpa using h
   have h0:=Zd (A:=A++[x]) (B:=B) (y:=y) (n:=n) (X:=X) hx;have e1:A++x::X++y::B=A++[x]++X++y::B:=by simp
   have e2:A.length+(n+1)=(A++[x]).length+n:=by simp;omega
   rw[e1,e2,h0];have h1:=Ox (A:=A) (M:=[]) (B:=X++B) (x:=x) (y:=y);simp only[List.length_nil,Nat.add_zero] at h1;have e3:A++[x]++y::X++B=A++[x]++y::(X++B):=by simp
   have e4:(A++[x]).length+n-n=A.length+1:=by simp
   rw[e3,e4,Nat.add_sub_cancel];have h2:G9 (A++[x]++y::(X++B)) (A.length+1) A.length=G9 (A++[x]++y::(X++B)) A.length (A.length+1):=by
    unfold G9;rw[List.set_comm _ _ (by omega)]
   rw[h2,h1];simp
variable {c:α->α->Bool}
abbrev yB (c:α->α->Bool)(l:List α):Prop:=l.Pairwise λx y=>c y x=false
theorem tZ {A X B:List α}{i:Nat}(h1:A.length<=i)(h2:i<A.length+X.length):(A++X++B).getD i default=X.getD (i-A.length) default:=by
 rw[List.append_assoc,iZ,List.getElem?_append_right h1,List.getElem?_append_left (by omega),iZ]
theorem aF1 {X:List α}(h:yB c X){i j:Nat}(hij:i<j)(hj:j<X.length):c (X.getD j default) (X.getD i default)=false:=by
 have:=List.pairwise_iff_getElem.1 h i j (by omega) hj hij
 rw[iZ,iZ,sU hj,sU (by omega:i<X.length)]
 exact this
theorem BA {X:List α}{x:α}(h:x ∈ X):∃ i,i<X.length/\x=X.getD i default:=by
 obtain⟨i,hi,rfl⟩:=List.mem_iff_getElem.1 h;exact⟨i,hi,by rw[iZ,sU hi];rfl⟩
omit [Inhabited α] in
theorem SY {X Y:List α}(hx:yB c X)(hy:yB c Y)(h:∀ x,x ∈ X->∀ y,y ∈ Y->c y x=false):yB c (X++Y):=List.pairwise_append.2 ⟨hx,hy,h⟩
theorem FD (hr:∀ x,c x x=false){X:List α}(h:yB c X){i j:Nat}(hij:i<=j)(hj:j<X.length):c (X.getD j default) (X.getD i default)=false:=by
 rcases Nat.lt_or_ge i j with e|e
 .exact aF1 h e hj
 .obtain rfl:i=j:=by omega
  exact hr _
theorem aR3 (hr:∀ x,c x x=false)(ht:∀ x y z,c y x=false->c z y=false->c z x=false)(ha:∀ x y,c x y=true->c y x=false){A Y B:List α}{x:α}(hY:yB c Y)(hn:0<Y.length) :
  ∃ Z,Z.Perm (x::Y)/\yB c Z/\upG (A++x::Y++B) A.length (Jq (λh=>c ((A++x::Y++B).getD h default) ((A++x::Y++B).getD A.length default)) Y.length (A.length+1) (A.length+1+Y.length)-1-A.length)=A++Z++B:=by
 have ex:(A++x::Y++B).getD A.length default=x:=by rw[tZ (Nat.le_refl _) (by simp),Nat.sub_self];rfl
 have ey:∀ i,A.length+1<=i->i<A.length+1+Y.length->(A++x::Y++B).getD i default=Y.getD (i-(A.length+1)) default:=λi h1 h2=>by
  have e:A++x::Y++B=(A++[x])++Y++B:=by simp
  rw[e,tZ (by simp;omega) (by simp;omega)];simp
 have h:=Oz (f:=λh=>c ((A++x::Y++B).getD h default) ((A++x::Y++B).getD A.length default)) (L:=A.length+1) (H:=A.length+1+Y.length) (λp q h1 h2 h3 hf=>by
  simp only[ex] at hf ⊢;rw[ey q (by omega) h3] at hf
  rw[ey p h1 (by omega)]
  by_cases e:c (Y.getD (p-(A.length+1)) default) x=true
  .exact e
  .have e:=Bool.not_eq_true _ ▸ e;have:=ht _ _ _ e (FD hr hY (i:=p-(A.length+1)) (j:=q-(A.length+1)) (by omega) (by omega))
   rw[this] at hf;cases hf) (k:=Y.length) (lo:=A.length+1) (hi:=A.length+1+Y.length) (by omega) (Nat.le_refl _) (by omega) (Nat.le_refl _) (λc h1 h2=>by omega) (λc h1 h2=>by omega)
 generalize Jq (λh=>c ((A++x::Y++B).getD h default) ((A++x::Y++B).getD A.length default)) Y.length (A.length+1) (A.length+1+Y.length)=s at h ⊢;obtain⟨h1,h2,h3,h4⟩:=h;simp only[ex] at h3 h4;obtain⟨P,Q,rfl,hp,hq⟩:=cutAt (X:=Y) (j:=s-1-A.length) (by omega)
 have e:A++x::(P++Q)++B=A++x::P++(Q++B):=by simp
 have hY':=List.pairwise_append.1 hY;rw[jT] at h2 h4 ey hq;refine⟨P++x::Q,List.perm_middle,SY hY'.1 (List.pairwise_cons.2 ⟨λq hQ=>?_,hY'.2.1⟩) (λp hP q hQ=>?_),?_⟩
 .obtain⟨i,hi,rfl⟩:=BA hQ;have:=h4 (s+i) (by omega) (by omega)
  rw[ey _ (by omega) (by omega)] at this
  rw[iZ,List.getElem?_append_right (by omega)] at this
  have e3:s+i-(A.length+1)-P.length=i:=by omega
  rw[e3] at this;rw[iZ];exact this
 .obtain⟨i,hi,rfl⟩:=BA hP;have h5:c (P.getD i default) x=true:=by
   have:=h3 (A.length+1+i) (by omega) (by omega)
   rw[ey _ (by omega) (by omega)] at this
   rw[iZ,List.getElem?_append_left (by omega)] at this
   have e3:A.length+1+i-(A.length+1)=i:=by omega
   rw[e3] at this;rw[iZ];exact this
  rcases List.mem_cons.1 hQ with rfl|hQ
  .exact ha _ _ h5
  .exact hY'.2.2 _ hP _ hQ
 .rw[e,Zc hp];simp
theorem aR4 (hr:∀ x,c x x=false)(ht:∀ x y z,c y x=false->c z y=false->c z x=false)(ha:∀ x y,c x y=true->c y x=false){A X B:List α}{y:α}(hX:yB c X)(hn:0<X.length) :
  ∃ Z,Z.Perm (X++[y])/\yB c Z/\dnG (A++X++y::B) (A.length+X.length) (A.length+X.length-Jq (λh=>!c ((A++X++y::B).getD (A.length+X.length) default) ((A++X++y::B).getD h default)) X.length A.length (A.length+X.length))=A++Z++B:=by
 have ey:(A++X++y::B).getD (A.length+X.length) default=y:=by
  have e:A++X++y::B=(A++X)++[y]++B:=by simp
  rw[e,tZ (by simp) (by simp)];simp
 have ex:∀ i,A.length<=i->i<A.length+X.length->(A++X++y::B).getD i default=X.getD (i-A.length) default:=λi h1 h2=>tZ h1 h2;have h:=Oz (f:=λh=>!c ((A++X++y::B).getD (A.length+X.length) default) ((A++X++y::B).getD h default)) (L:=A.length) (H:=A.length+X.length) (λp q h1 h2 h3 hf=>by
  simp only[ey] at hf ⊢;rw[ex q (by omega) h3,Bool.not_eq_true'] at hf
  rw[ex p h1 (by omega),Bool.not_eq_true']
  exact ht _ _ _ (FD hr hX (i:=p-A.length) (j:=q-A.length) (by omega) (by omega)) hf) (k:=X.length) (lo:=A.length) (hi:=A.length+X.length) (by omega) (Nat.le_refl _) (by omega) (Nat.le_refl _) (λc h1 h2=>by omega) (λc h1 h2=>by omega)
 generalize Jq (λh=>!c ((A++X++y::B).getD (A.length+X.length) default) ((A++X++y::B).getD h default)) X.length A.length (A.length+X.length)=s at h ⊢;obtain⟨h1,h2,h3,h4⟩:=h;simp only[ey] at h3 h4;obtain⟨P,Q,rfl,hp,hq⟩:=cutAt (X:=X) (j:=s-A.length) (by omega)
 have e:A++(P++Q)++y::B=(A++P)++Q++y::B:=by simp
 have hX':=List.pairwise_append.1 hX;rw[jT] at h2 h4 ex hq;refine⟨P++y::Q,(List.perm_middle.trans (List.Perm.symm (List.perm_append_comm.trans (by simp)))),SY hX'.1 (List.pairwise_cons.2 ⟨λq hQ=>?_,hX'.2.1⟩) (λp hP q hQ=>?_),?_⟩
 .obtain⟨i,hi,rfl⟩:=BA hQ;have:=h4 (s+i) (by omega) (by omega)
  rw[ex _ (by omega) (by omega),Bool.not_eq_false'] at this
  rw[iZ,List.getElem?_append_right (by omega)] at this
  have e3:s+i-A.length-P.length=i:=by omega
  rw[e3] at this;rw[iZ];exact ha _ _ this
 .rcases List.mem_cons.1 hQ with rfl|hQ
  .obtain⟨i,hi,rfl⟩:=BA hP;have:=h3 (A.length+i) (by omega) (by omega)
   rw[ex _ (by omega) (by omega),Bool.not_eq_true'] at this
   rw[iZ,List.getElem?_append_left (by omega)] at this
   have e3:A.length+i-A.length=i:=by omega
   rw[e3] at this;rw[iZ];exact this
  .exact hX'.2.2 _ hP _ hQ
 .have e4:A.length+(P++Q).length=(A++P).length+Q.length:=by simp;omega
  rw[e,e4];have e5:(A++P).length+Q.length-s=Q.length:=by simp;omega
  rw[e5,Zd rfl];simp
theorem S9 (hr:∀ x,c x x=false)(ht:∀ x y z,c y x=false->c z y=false->c z x=false)(ha:∀ x y,c x y=true->c y x=false) :
  ∀ {k:Nat} {A X Y B:List α} {a m b:Nat},a=A.length->m=A.length+X.length->b=A.length+X.length+Y.length->X.length+Y.length<=k->0<X.length->0<Y.length->yB c X->yB c Y->∃ Z,Z.Perm (X++Y)/\yB c Z/\wM c k (A++X++Y++B) a m b=A++Z++B
 | 0,A,X,Y,B,a,m,b,hA,hm,hb,hk,hx,hy,_,_=>by omega
 | k + 1, A, X, Y, B, a, m, b, hA, hm, hb, hk, hx, hy, hX, hY => by
  rw[wM];by_cases e1:X.length=1
  .rw[if_pos (by omega)]
   obtain⟨x,rfl⟩:=List.length_eq_one_iff.1 e1;obtain⟨Z,h1,h2,h3⟩:=aR3 hr ht ha (A:=A) (B:=B) (x:=x) hY hy;refine⟨Z,h1,h2,?_⟩;have e3:A++[x]++Y++B=A++x::Y++B:=by simp
   have e4:b-m=Y.length:=by omega
   rw[e3,e4,hb,hm,hA];exact h3
  .rw[if_neg (by omega)]
   by_cases e2:Y.length=1
   .rw[if_pos (by omega)]
    obtain⟨y,rfl⟩:=List.length_eq_one_iff.1 e2;obtain⟨Z,h1,h2,h3⟩:=aR4 hr ht ha (A:=A) (B:=B) (y:=y) hX hx;refine⟨Z,h1,h2,?_⟩;have e3:A++X++[y]++B=A++X++y::B:=by simp
    have e4:m-a=X.length:=by omega
    rw[e3,e4,hm,hA];exact h3
   .rw[if_neg (by omega)]
    simp only[];have gX:∀ i,a<=i->i<m->(A++X++Y++B).getD i default=X.getD (i-a) default:=λi h1 h2=>by
     have e:A++X++Y++B=A++X++(Y++B):=by simp
     rw[e,tZ (by omega) (by omega),hA]
    have gY:∀ i,m<=i->i<b->(A++X++Y++B).getD i default=Y.getD (i-a-X.length) default:=λi h1 h2=>by
     rw[tZ (A:=A++X) (by simp;omega) (by simp;omega)];simp[Nat.sub_sub,hA]
    obtain⟨mid,hmid⟩:∃ q,q=(a+b) / 2:=⟨_,rfl⟩;rw[<- hmid];obtain⟨lo,hlo⟩:∃ q,q=if mid<m then mid+m-b else a:=⟨_,rfl⟩
    obtain⟨hi,hhi⟩:∃ q,q=if mid<m then mid else m:=⟨_,rfl⟩
    rw[<- hlo,<- hhi];have hlo2:(mid<m/\lo=mid+m-b/\hi=mid) \/ (m<=mid/\lo=a/\hi=m):=by
     by_cases e:mid<m
     .rw[if_pos e] at hlo hhi;exact .inl ⟨e,hlo,hhi⟩
     .rw[if_neg e] at hlo hhi;exact .inr ⟨by omega,hlo,hhi⟩
    have bq9:2*mid<=a+b/\a+b<=2*mid+1:=by omega
    have hlh:a<=lo/\lo<=hi/\hi<=m/\hi<=mid/\mid+m<=b+lo:=by omega
    have h:=Oz (f:=λh=>!c ((A++X++Y++B).getD (mid+m-1-h) default) ((A++X++Y++B).getD h default)) (L:=lo) (H:=hi) (λp q h1 h2 h3 hf=>by
     simp only[Bool.not_eq_true'] at hf ⊢;rw[gX q (by omega) (by omega),gY _ (by omega) (by omega)] at hf
     rw[gX p (by omega) (by omega),gY _ (by omega) (by omega)]
     have q1:=FD hr hX (i:=p-a) (j:=q-a) (by omega) (by omega)
     have q2:=FD hr hY (i:=mid+m-1-q-a-X.length) (j:=mid+m-1-p-a-X.length) (by omega) (by omega)
     exact ht _ _ _ (ht _ _ _ q1 hf) q2) (k:=hi-lo) (lo:=lo) (hi:=hi) (by omega) (Nat.le_refl _) (by omega) (Nat.le_refl _) (λc h1 h2=>by omega) (λc h1 h2=>by omega)
    generalize Jq (λh=>!c ((A++X++Y++B).getD (mid+m-1-h) default) ((A++X++Y++B).getD h default)) (hi-lo) lo hi=s at h ⊢;obtain⟨h1,h2,h3,h4⟩:=h;obtain⟨X1,X2,rfl,p1,p2⟩:=cutAt (X:=X) (j:=s-a) (by omega)
    obtain⟨Y1,Y2,rfl,r1,r2⟩:=cutAt (X:=Y) (j:=mid-s) (by omega)
    have u1:(X1++X2).length=X1.length+X2.length:=jT;have u2:(Y1++Y2).length=Y1.length+Y2.length:=jT;have hX':=List.pairwise_append.1 hX;have hY':=List.pairwise_append.1 hY;have bj3:∀ x,x ∈ X1->∀ y,y ∈ Y2->c y x=false:=λx hxx y hyy=>by
     obtain⟨i,hi1,rfl⟩:=BA hxx;obtain⟨j,hj1,rfl⟩:=BA hyy;have q0:lo<s:=by omega
     have q1:=h3 (s-1) (by omega) (by omega)
     simp only[Bool.not_eq_true'] at q1;rw[gX (s-1) (by omega) (by omega),gY (mid+m-1-(s-1)) (by omega) (by omega)] at q1
     have t1:=FD hr hX (i:=i) (j:=s-1-a) (by omega) (by rw[jT];omega)
     have t2:=FD hr hY (i:=mid+m-1-(s-1)-a-(X1++X2).length) (j:=Y1.length+j) (by rw[jT];omega) (by rw[jT];omega)
     have t3:=ht _ _ _ (ht _ _ _ t1 q1) t2;rw[iZ,iZ,List.getElem?_append_left hi1,List.getElem?_append_right (by omega),Nat.add_sub_cancel_left] at t3
     rw[iZ,iZ];exact t3
    have bj4:∀ y,y ∈ Y1->∀ x,x ∈ X2->c x y=false:=λy hyy x hxx=>by
     obtain⟨i,hi1,rfl⟩:=BA hxx;obtain⟨j,hj1,rfl⟩:=BA hyy;have q0:s<hi:=by omega
     have q1:=h4 s (by omega) (by omega)
     simp only[Bool.not_eq_false'] at q1;rw[gX s (by omega) (by omega),gY (mid+m-1-s) (by omega) (by omega)] at q1
     have t1:=FD hr hX (i:=s-a) (j:=X1.length+i) (by omega) (by rw[jT];omega)
     have t2:=FD hr hY (i:=j) (j:=mid+m-1-s-a-(X1++X2).length) (by rw[jT];omega) (by rw[jT];omega)
     have t3:=ht _ _ _ (ht _ _ _ t2 (ha _ _ q1)) t1;rw[iZ,iZ,List.getElem?_append_left hj1,List.getElem?_append_right (by omega),Nat.add_sub_cancel_left] at t3
     rw[iZ,iZ];exact t3
    have rot:(if s<m/\m<mid+m-s then rotL m (mid+m-s-s) (m-s) (mid+m-s-m) (A++(X1++X2)++(Y1++Y2)++B) else A++(X1++X2)++(Y1++Y2)++B)=A++X1++Y1++(X2++Y2++B):=by
     by_cases e:s<m/\m<mid+m-s
     .rw[if_pos e];have q:=Oy (k:=mid+m-s-s) (A:=A++X1) (X:=X2) (Y:=Y1) (B:=Y2++B) (by omega) (by omega) (by omega)
      have f1:A++(X1++X2)++(Y1++Y2)++B=A++X1++X2++Y1++(Y2++B):=by simp
      have f2:m=(A++X1).length+X2.length:=by rw[jT];omega
      have f3:m-s=X2.length:=by omega
      have f4:mid+m-s-m=Y1.length:=by omega
      rw[f1,f3,f4];rw[<- f2] at q;rw[q];simp
     .rw[if_neg e];by_cases e3:s<m
      .have f:Y1.length=0:=by omega
       obtain rfl:=KZ f;simp
      .have f:X2.length=0:=by omega
       obtain rfl:=KZ f;simp
    rw[rot];obtain⟨Z1,z1,z2,z3⟩:∃ Z1,Z1.Perm (X1++Y1)/\yB c Z1/\(if a<s/\s<mid then wM c k (A++X1++Y1++(X2++Y2++B)) a s mid else A++X1++Y1++(X2++Y2++B))=A++Z1++X2++Y2++B:=by
     by_cases e:a<s/\s<mid
     .rw[if_pos e];have f1:s=A.length+X1.length:=by omega
      have f2:mid=A.length+X1.length+Y1.length:=by omega
      obtain⟨Z,w1,w2,w3⟩:=S9 hr ht ha (k:=k) (A:=A) (X:=X1) (Y:=Y1) (B:=X2++Y2++B) hA f1 f2 (by omega) (by omega) (by omega) hX'.1 hY'.1
      exact⟨Z,w1,w2,by rw[w3];simp⟩
     .rw[if_neg e];refine⟨X1++Y1,.refl _,?_,by simp⟩
      by_cases e3:a<s
      .have f:Y1.length=0:=by omega
       obtain rfl:=KZ f;rw[List.append_nil];exact hX'.1
      .have f:X1.length=0:=by omega
       obtain rfl:=KZ f;exact hY'.1
    rw[z3];have lz:Z1.length=X1.length+Y1.length:=by rw[z1.length_eq,jT]
    obtain⟨Z2,y1,y2,y3⟩:∃ Z2,Z2.Perm (X2++Y2)/\yB c Z2/\(if mid<mid+m-s/\mid+m-s<b then wM c k (A++Z1++X2++Y2++B) mid (mid+m-s) b else A++Z1++X2++Y2++B)=A++Z1++Z2++B:=by
     by_cases e:mid<mid+m-s/\mid+m-s<b
     .rw[if_pos e];have f0:mid=(A++Z1).length:=by rw[jT];omega
      have f1:mid+m-s=(A++Z1).length+X2.length:=by rw[<- f0];omega
      have f2:b=(A++Z1).length+X2.length+Y2.length:=by rw[<- f0];omega
      exact S9 hr ht ha (k:=k) (A:=A++Z1) (X:=X2) (Y:=Y2) (B:=B) f0 f1 f2 (by omega) (by omega) (by omega) hX'.2.1 hY'.2.1
     .rw[if_neg e];refine⟨X2++Y2,.refl _,?_,by simp⟩
      by_cases e3:mid<mid+m-s
      .have f:Y2.length=0:=by omega
       obtain rfl:=KZ f;rw[List.append_nil];exact hX'.2.1
      .have f:X2.length=0:=by omega
       obtain rfl:=KZ f;exact hY'.2.1
    rw[y3];refine⟨Z1++Z2,?_,SY z2 y2 (λx hxx y hyy=>?_),by simp⟩
    .refine (z1.append y1).trans ?_;have:(X1++Y1++(X2++Y2)).Perm (X1++(X2++Y1)++Y2):=by
      have q:(Y1++X2++Y2).Perm (X2++Y1++Y2):=(List.perm_append_comm).append (.refl _);have q2:=q.append_left X1;simpa [List.append_assoc] using q2
     simpa [List.append_assoc] using this
    .have ux:=z1.mem_iff.1 hxx;have uy:=y1.mem_iff.1 hyy;rcases BO ux with u|u <;> rcases BO uy with v|v
     .exact hX'.2.2 _ u _ v
     .exact bj3 _ u _ v
     .exact bj4 _ u _ v
     .exact hY'.2.2 _ u _ v
def Js (c:α->α->Bool)(a:Nat):Nat->List α->List α
 | 0,o=>o
 | j+1,o=>if c (o.getD (a+j+1) default) (o.getD (a+j) default) then Js c a j (G9 o (a+j+1) (a+j)) else o
def Jt (c:α->α->Bool)(a:Nat):Nat->List α->List α
 | 0,o=>o
 | k+1,o=>Js c a (k+1) (Jt c a k o)
omit [Inhabited α] in
theorem set_mid {A X B:List α}{j:Nat}{v:α}(h:j<X.length):(A++X++B).set (A.length+j) v=A++X.set j v++B:=by
 rw[List.append_assoc,List.set_append_right _ _ (by omega),Nat.add_sub_cancel_left,List.set_append_left _ _ h,List.append_assoc]
theorem XP {A X B:List α}{j:Nat}(h:j+1<X.length):G9 (A++X++B) (A.length+j+1) (A.length+j)=A++EC X j++B:=by
 unfold G9 EC;rw[tZ (by omega) (by omega),tZ (by omega) (by omega)]
 have e1:A.length+j+1-A.length=j+1:=by omega
 have e2:A.length+j-A.length=j:=by omega
 rw[e1,e2,Nat.add_assoc,set_mid h,set_mid (by rw[List.length_set];omega)]
theorem QJ {A B:List α}:∀ {j:Nat} {X:List α},j<X.length->Js c A.length j (A++X++B)=A++HY c j X++B
 | 0,X,h=>rfl
 | j+1,X,h=>by
  rw[Js,HY,tZ (by omega) (by omega),tZ (by omega) (by omega)]
  have e1:A.length+j+1-A.length=j+1:=by omega
  have e2:A.length+j-A.length=j:=by omega
  rw[e1,e2,XP h]
  split
  .exact QJ (X:=EC X j) (by rw[Gu];omega)
  .rfl
theorem Vs {A B:List α}:∀ {k:Nat} {X:List α},k<X.length->Jt c A.length k (A++X++B)=A++Fq c k X++B
 | 0,X,h=>rfl
 | k+1,X,h=>by
  rw[Jt,Vs (by omega),QJ (by rw[xh];exact h)];rfl
theorem aF3 (ht:∀ x y z,c y x=false->c z y=false->c z x=false){l:List α}(h:∀ i,i+1<l.length->c (l.getD (i+1) default) (l.getD i default)=false):yB c l :=
 Ee (R:=λx y=>c y x=false) (λ_ _ _ h1 h2=>ht _ _ _ h1 h2) h
theorem XQ (ht:∀ x y z,c y x=false->c z y=false->c z x=false)(ha:∀ x y,c x y=true->c y x=false){X:List α}:yB c (Fq c (X.length-1) X):=by
 refine aF3 ht λi hi=>?_;rw[xh] at hi;exact KF ha (by omega) i (by omega)
def prt (u:List α)(i j:Nat):List α:=(u.drop i).take (j-i)
omit [Inhabited α] in
theorem yZ {u:List α}{i j:Nat}(h:j<=u.length):(prt u i j).length=j-i:=by unfold prt;rw[List.length_take,List.length_drop];omega
omit [Inhabited α] in
theorem Ju {u:List α}{a b:Nat}(h:a<=b)(hb:b<=u.length):u=u.take a++prt u a b++u.drop b:=by
 unfold prt;have e:u.drop b=(u.drop a).drop (b-a):=by rw[List.drop_drop];congr 1;omega
 rw[e,List.append_assoc,List.take_append_drop,List.take_append_drop]
omit [Inhabited α] in
theorem Ze {u:List α}{a m b:Nat}(h:a<=m)(h2:m<=b):prt u a b=prt u a m++prt u m b:=by
 unfold prt;have e:(u.drop m).take (b-m)=((u.drop a).drop (m-a)).take (b-m):=by rw[List.drop_drop];congr 2;omega
 rw[e];have e2:b-a=(m-a)+(b-m):=by omega
 rw[e2,List.take_add]
omit [Inhabited α] in
theorem ar1 {A Z B:List α}{i j:Nat}(h:j<=A.length):prt (A++Z++B) i j=prt A i j:=by
 unfold prt;rw[List.append_assoc,List.take_drop,List.take_drop];by_cases e:i<=j
 .rw[show i+(j-i)=j by omega,List.take_append_of_le_length h]
 .have:j-i=0:=by omega
  rw[this,Nat.add_zero,List.drop_eq_nil_of_le (by rw[List.length_take];omega),List.drop_eq_nil_of_le (by rw[List.length_take];omega)]
omit [Inhabited α] in
theorem ar2 {A Z B:List α}{i j:Nat}(h:A.length+Z.length<=i):prt (A++Z++B) i j=prt B (i-(A.length+Z.length)) (j-(A.length+Z.length)):=by
 unfold prt;rw[List.drop_append,List.drop_eq_nil_of_le (by rw[jT];omega),List.nil_append,jT]
 congr 1;omega
omit [Inhabited α] in
theorem Zf {A Z B:List α}{i j:Nat}(h:i=A.length)(h2:j=A.length+Z.length):prt (A++Z++B) i j=Z:=by
 subst h;subst h2;unfold prt;rw[List.append_assoc,List.drop_left,Nat.add_sub_cancel_left,List.take_left]
omit [Inhabited α] in
theorem FH {u Z:List α}{a b:Nat}(h:a<=b)(hb:b<=u.length)(hz:Z.length=b-a){i j:Nat}(hij:j<=a \/ b<=i):prt (u.take a++Z++u.drop b) i j=prt u i j:=by
 rcases hij with e|e
 .rw[ar1 (by rw[List.length_take];omega)]
  conv=>rhs;rw[Ju h hb,ar1 (by rw[List.length_take];omega)]
 .rw[ar2 (by rw[List.length_take];omega)]
  conv=>rhs;rw[Ju h hb,ar2 (by rw[List.length_take,yZ hb];omega)]
  rw[hz,yZ hb]
theorem Zg (ht:∀ x y z,c y x=false->c z y=false->c z x=false)(ha:∀ x y,c x y=true->c y x=false){u:List α}{a b:Nat}(h:a<=b)(hb:b<=u.length):∃ Z,Z.Perm (prt u a b)/\yB c Z/\Jt c a (b-a-1) u=u.take a++Z++u.drop b:=by
 rcases Nat.lt_or_ge a b with e|e
 .have l:(prt u a b).length=b-a:=yZ hb;refine⟨Fq c ((prt u a b).length-1) (prt u a b),Io c (by omega),XQ ht ha,?_⟩
  have hA:(u.take a).length=a:=by rw[List.length_take];omega
  conv=>lhs;rw[Ju h hb]
  have q:=Vs (c:=c) (A:=u.take a) (B:=u.drop b) (k:=b-a-1) (X:=prt u a b) (by omega)
  rw[hA] at q;rw[q,l]
 .obtain rfl:a=b:=by omega
  refine⟨[],?_,.nil,?_⟩
  .unfold prt;rw[Nat.sub_self,List.take_zero]
  .rw[Nat.sub_self];show u=_;rw[List.append_nil,List.take_append_drop]
def ar4 (c:α->α->Bool)(s:Nat)(u:List α):Prop:=∀ q,yB c (prt u (q*s) (q*s+s))
def nM (c:α->α->Bool):Nat->List α->List α
 | 0,u=>u
 | k+1,u=>Jt c (20*k) 19 (nM c k u)
def KL (c:α->α->Bool)(u:List α):List α:=Jt c (20*(u.length / 20)) (u.length-20*(u.length / 20)-1) (nM c (u.length / 20) u)
def FI (c:α->α->Bool)(n s:Nat)(u:List α):List α :=
 let v:=qh c s n (n / (2*s)) u
 if 2*s*(n / (2*s))+s<n then wM c (2*s) v (2*s*(n / (2*s))) (2*s*(n / (2*s))+s) n else v
def Vt (c:α->α->Bool)(n:Nat):Nat->Nat->List α->List α
 | 0,_,u=>u
 | k+1,s,u=>if s<n then Vt c n k (2*s) (FI c n s u) else u
def Vu (c:α->α->Bool)(u:List α):List α:=Vt c u.length u.length 20 (KL c u)
omit [Inhabited α] in
theorem BB {u:List α}{i j:Nat}(h:u.length<=j):prt u i j=u.drop i:=by
 unfold prt;rw[List.take_of_length_le (by rw[List.length_drop];omega)]
omit [Inhabited α] in
theorem Jv {u Z:List α}{a b:Nat}(h:a<=b)(hb:b<=u.length)(hz:Z.Perm (prt u a b)):(u.take a++Z++u.drop b).Perm u:=by
 have e:=Ju h hb;exact (((List.Perm.refl _).append hz).append (.refl _)).trans (.of_eq e.symm)
theorem Vw (hr:∀ x,c x x=false)(ht:∀ x y z,c y x=false->c z y=false->c z x=false)(ha:∀ x y,c x y=true->c y x=false){u:List α}{k a m b:Nat}(h1:a<m)(h2:m<b)(h3:b<=u.length)(hk:b-a<=k)(hX:yB c (prt u a m))(hY:yB c (prt u m b)) :
  ∃ Z,Z.Perm (prt u a b)/\yB c Z/\wM c k u a m b=u.take a++Z++u.drop b:=by
 have l1:(prt u a m).length=m-a:=yZ (by omega)
 have l2:(prt u m b).length=b-m:=yZ (by omega)
 have l0:(u.take a).length=a:=by rw[List.length_take];omega
 obtain⟨Z,z1,z2,z3⟩:=S9 hr ht ha (k:=k) (A:=u.take a) (X:=prt u a m) (Y:=prt u m b) (B:=u.drop b) (a:=a) (m:=m) (b:=b) (by omega) (by omega) (by omega) (by omega) (by omega) (by omega) hX hY
 have e:u=u.take a++prt u a m++prt u m b++u.drop b:=by
  have q:=Ju (u:=u) (a:=a) (b:=b) (by omega) h3
  rw[Ze (m:=m) (by omega) (by omega)] at q
  simpa [List.append_assoc] using q
 rw[<- e] at z3;exact⟨Z,by rw[Ze (m:=m) (by omega) (by omega)];exact z1,z2,z3⟩
section
variable (hr:∀ x,c x x=false)(ht:∀ x y z,c y x=false->c z y=false->c z x=false)(ha:∀ x y,c x y=true->c y x=false)
include hr ht ha
theorem QK {s n:Nat}(hs:0<s){u:List α}(hn:u.length=n)(hB:ar4 c s u):∀ {k:Nat},2*s*k<=n->(qh c s n k u).Perm u/\(∀ q,q<k->yB c (prt (qh c s n k u) (q*(2*s)) (q*(2*s)+2*s)))/\∀ i j,2*s*k<=i->prt (qh c s n k u) i j=prt u i j
 | 0,_=>⟨.refl _,λq h=>by omega,λi j _=>rfl⟩
 | k + 1, hk => by
  have e0:2*s*(k+1)=2*s*k+2*s:=Nat.mul_succ ..;obtain⟨h1,h2,h3⟩:=QK hs hn hB (k:=k) (by omega)
  rw[qh];generalize qh c s n k u=v at h1 h2 h3;have lv:v.length=n:=by rw[h1.length_eq,hn]
  have e1:2*s*k=(2*k)*s:=by rw[Nat.mul_comm 2 s,Nat.mul_assoc,Nat.mul_comm]
  obtain⟨Z,z1,z2,z3⟩:=Vw hr ht ha (u:=v) (k:=2*s) (a:=2*s*k) (m:=2*s*k+s) (b:=2*s*k+2*s) (by omega) (by omega) (by omega) (by omega)
   (by rw[h3 _ _ (Nat.le_refl _),e1];exact hB (2*k))
   (by rw[h3 _ _ (by omega)];have q:=hB (2*k+1);rw[Nat.add_mul,Nat.one_mul,<- e1] at q;rw[show 2*s*k+2*s=2*s*k+s+s by omega];exact q)
  have lz:Z.length=2*s*k+2*s-2*s*k:=by rw[z1.length_eq,yZ (by omega)]
  rw[z3];refine⟨(Jv (by omega) (by omega) z1).trans h1,λq hq=>?_,λi j hi=>?_⟩
  .rcases Nat.lt_or_ge q k with e|e
   .have e2:q*(2*s)+2*s<=2*s*k:=by
     have:=Nat.mul_le_mul_right (2*s) (show q+1<=k by omega)
     rw[Nat.add_mul,Nat.one_mul] at this;rw[Nat.mul_comm (2*s) k];exact this
    rw[FH (by omega) (by omega) lz (.inl e2)]
    exact h2 q e
   .obtain rfl:q=k:=by omega
    rw[Zf (by rw[List.length_take,Nat.mul_comm q];omega) (by rw[List.length_take,Nat.mul_comm q];omega)]
    exact z2
  .rw[FH (by omega) (by omega) lz (.inr (by omega))]
   exact h3 i j (by omega)
theorem ar5 {s n:Nat}(hs:0<s){u:List α}(hn:u.length=n)(hB:ar4 c s u):(FI c n s u).Perm u/\ar4 c (2*s) (FI c n s u):=by
 have hK:2*s*(n / (2*s))<=n:=Nat.mul_div_le n (2*s);have hK2:n<2*s*(n / (2*s))+2*s:=by
  have h1:=Nat.div_add_mod n (2*s);have h2:=Nat.mod_lt n (show 0<2*s by omega)
  omega
 obtain⟨h1,h2,h3⟩:=QK hr ht ha hs hn hB (k:=n / (2*s)) hK;unfold FI;simp only[];generalize n / (2*s)=K at *;generalize qh c s n K u=v at h1 h2 h3 ⊢;have lv:v.length=n:=by rw[h1.length_eq,hn]
 have e1:2*s*K=(2*K)*s:=by rw[Nat.mul_comm 2 s,Nat.mul_assoc,Nat.mul_comm]
 have far:∀ w:List α,w.length=n->∀ q,K<q->yB c (prt w (q*(2*s)) (q*(2*s)+2*s)):=λw hw q hq=>by
  have:=Nat.mul_le_mul_right (2*s) (show K+1<=q by omega)
  rw[Nat.add_mul,Nat.one_mul,Nat.mul_comm K] at this;unfold prt;rw[List.drop_eq_nil_of_le (by omega),List.take_nil]
  exact .nil
 have low:∀ q,q<K->q*(2*s)+2*s<=2*s*K:=λq hq=>by
  have:=Nat.mul_le_mul_right (2*s) (show q+1<=K by omega)
  rw[Nat.add_mul,Nat.one_mul] at this;rw[Nat.mul_comm (2*s) K];exact this
 by_cases e:2*s*K+s<n
 .rw[if_pos e];have hY:prt v (2*s*K+s) n=prt v (2*s*K+s) (2*s*K+s+s):=by rw[BB (by omega),BB (by omega)]
  obtain⟨Z,z1,z2,z3⟩:=Vw hr ht ha (u:=v) (k:=2*s) (a:=2*s*K) (m:=2*s*K+s) (b:=n) (by omega) (by omega) (by omega) (by omega)
   (by rw[h3 _ _ (Nat.le_refl _),e1];exact hB (2*K))
   (by rw[hY,h3 _ _ (by omega)];have q:=hB (2*K+1);rw[Nat.add_mul,Nat.one_mul,<- e1] at q;exact q)
  have lz:Z.length=n-2*s*K:=by rw[z1.length_eq,yZ (by omega)]
  rw[z3];refine⟨(Jv (by omega) (by omega) z1).trans h1,λq=>?_⟩
  rcases Nat.lt_trichotomy q K with e2|rfl|e2
  .rw[FH (by omega) (by omega) lz (.inl (low q e2))]
   exact h2 q e2
  .rw[List.drop_eq_nil_of_le (by omega),List.append_nil]
   rw[BB (by rw[jT,List.length_take,lz,Nat.mul_comm q];omega),Nat.mul_comm q,List.drop_append,List.drop_eq_nil_of_le (by rw[List.length_take];omega),List.length_take,lv,show 2*s*q-min (2*s*q) n=0 by omega]
   exact z2
  .exact far _ (by rw[jT,jT,List.length_take,List.length_drop];omega) q e2
 .rw[if_neg e];refine⟨h1,λq=>?_⟩;rcases Nat.lt_trichotomy q K with e2|rfl|e2
  .exact h2 q e2
  .rw[Nat.mul_comm q,h3 _ _ (Nat.le_refl _),BB (by omega)]
   have q1:=hB (2*q);rw[<- e1,BB (by omega)] at q1
   exact q1
  .exact far _ lv q e2
theorem Zh {n:Nat}:∀ {k s:Nat} {u:List α},0<s->u.length=n->n<=s+k->ar4 c s u->(Vt c n k s u).Perm u/\yB c (Vt c n k s u)
 | 0, s, u, hs, hn, hk, hB => ⟨.refl _, by
   have q:=hB 0;rw[Nat.zero_mul,BB (by omega)] at q
   exact q⟩
 | k + 1, s, u, hs, hn, hk, hB => by
  rw[Vt];by_cases e:s<n
  .rw[if_pos e];obtain⟨h1,h2⟩:=ar5 hr ht ha hs hn hB;obtain⟨h3,h4⟩:=Zh (n:=n) (k:=k) (s:=2*s) (u:=FI c n s u) (by omega) (h1.length_eq.trans hn) (by omega) h2
   exact⟨h3.trans h1,h4⟩
  .rw[if_neg e];refine⟨.refl _,?_⟩;have q:=hB 0;rw[Nat.zero_mul,BB (by omega)] at q
   exact q
omit hr in
theorem OA {u:List α}:∀ {k:Nat},20*k<=u.length->(nM c k u).Perm u/\(∀ q,q<k->yB c (prt (nM c k u) (q*20) (q*20+20)))
 | 0,_=>⟨.refl _,λq h=>by omega⟩
 | k + 1, hk => by
  obtain⟨h1,h2⟩:=OA (u:=u) (k:=k) (by omega)
  rw[nM];generalize nM c k u=v at h1 h2;have lv:v.length=u.length:=h1.length_eq;obtain⟨Z,z1,z2,z3⟩:=Zg ht ha (u:=v) (a:=20*k) (b:=20*k+20) (by omega) (by omega)
  have e:20*k+20-20*k-1=19:=by omega
  rw[e] at z3;have lz:Z.length=20*k+20-20*k:=by rw[z1.length_eq,yZ (by omega)]
  rw[z3];refine⟨(Jv (by omega) (by omega) z1).trans h1,λq hq=>?_⟩
  rcases Nat.lt_or_ge q k with e2|e2
  .rw[FH (by omega) (by omega) lz (.inl (by omega))]
   exact h2 q e2
  .obtain rfl:q=k:=by omega
   rw[Zf (by rw[List.length_take];omega) (by rw[List.length_take];omega)]
   exact z2
omit hr in
theorem ac9 {u:List α}:(KL c u).Perm u/\ar4 c 20 (KL c u):=by
 unfold KL;obtain⟨h1,h2⟩:=OA ht ha (u:=u) (k:=u.length / 20) (by omega)
 obtain⟨K,hK⟩:∃ q,q=u.length / 20:=⟨_,rfl⟩;rw[<- hK] at h1 h2 ⊢;generalize nM c K u=v at h1 h2;have lv:v.length=u.length:=h1.length_eq;obtain⟨Z,z1,z2,z3⟩:=Zg ht ha (u:=v) (a:=20*K) (b:=u.length) (by omega) (by omega)
 have lz:Z.length=u.length-20*K:=by rw[z1.length_eq,yZ (by omega)]
 rw[z3];refine⟨(Jv (by omega) (by omega) z1).trans h1,λq=>?_⟩
 rcases Nat.lt_trichotomy q K with e2|rfl|e2
 .rw[FH (by omega) (by omega) lz (.inl (by omega))]
  exact h2 q e2
 .rw[List.drop_eq_nil_of_le (by omega),List.append_nil,BB (by rw[jT,List.length_take,lz];omega),List.drop_append,List.drop_eq_nil_of_le (by rw[List.length_take];omega),List.length_take,lv,show q*20-min (20*q) u.length=0 by omega]
  exact z2
 .unfold prt;rw[List.drop_eq_nil_of_le (by rw[jT,jT,List.length_take,List.length_drop];omega),List.take_nil]
  exact .nil
theorem Vx (u:List α):(Vu c u).Perm u/\yB c (Vu c u):=by
 unfold Vu;obtain⟨h1,h2⟩:=ac9 ht ha (u:=u);obtain⟨h3,h4⟩:=Zh hr ht ha (n:=u.length) (k:=u.length) (s:=20) (u:=KL c u) (by omega) h1.length_eq (by omega) h2
 exact⟨h3.trans h1,h4⟩
