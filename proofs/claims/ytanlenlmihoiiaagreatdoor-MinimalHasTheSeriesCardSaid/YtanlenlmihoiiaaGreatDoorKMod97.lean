/-
  M, chapter 24: the machine of the views: its vectors are the rows of the table of the series.
-/
import Derived.Test.YtanlenlmihoiiaaGreatDoorKMod92
set_option linter.unusedVariables false
set_option linter.unusedSimpArgs false
namespace Go.AL
open Go Go.BigFrame
section
variable {a b:Au}
theorem WA {s i j:Nat}(hi:i<a.st)(hj:j<a.st):mW [a] s i j=iH a.aB s i j:=by
 show (if i<a.st then (if j<a.st then iH a.aB s i j else 0) else _)=_
 rw[if_pos hi,if_pos hj]
theorem RF:ah [wS a]=aU (ah [a]):=by
 have em:(ah [wS a]).gV=(aU (ah [a])).gV:=by
  show (List.range a.sym).map _=((List.range a.sym).map _).map _
  rw[List.map_map];refine List.map_congr_left λs _=>?_;show EH (aK [wS a]) (mW [wS a] s)=EH (aK [a]) λi j=>((EH (aK [a]) (mW [a] s)).getD j []).getD i 0
  rw[show aK [wS a]=a.st from dN,show aK [a]=a.st from dN]
  refine KD λi j hi hj=>?_;rw[Nj hj hi,WA (a:=wS a) hi hj,WA hj hi];show iH (bU _) s i j=_
  rw[qQ,Rz]
 have e:∀ m m2:bQ,m.n=m2.n->m.ini=m2.ini->m.fin=m2.fin->m.gV=m2.gV->m=m2:=λm m2 h1 h2 h3 h4=>by
  cases m;cases m2;simp only at h1 h2 h3 h4;subst h1 h2 h3 h4;rfl
 exact e _ _ rfl rfl rfl em
def BB (a b:Au):Au:=⟨a.sym,a.st+b.st,a.ini++b.ini.map (λx=>x * -1),a.fin++b.fin,bU a.aB++moved (bU (bU b.aB)) a.st⟩
theorem RG:Hr (BB a b) (kV a (oq b (-1))):=by
 refine⟨rfl,rfl,rfl,rfl,λs i j=>?_⟩;show iH (bU a.aB++moved (bU (bU b.aB)) a.st) s i j=iH (bU (moved a.aB 0++moved (bU b.aB) a.st)) s i j
 rw[qH,qQ,qQ,qH,uX (l:=a.aB) (n:=0),if_pos (show 0<=i/\0<=j from ⟨Nat.zero_le _,Nat.zero_le _⟩),Nat.sub_zero,Nat.sub_zero,uX,uX]
 by_cases hc:a.st<=i/\a.st<=j
 .rw[if_pos hc,if_pos hc,qQ]
 .rw[if_neg hc,if_neg hc]
theorem aS5 (ha:a.Ok)(hb:b.Ok)(hs:a.sym=b.sym):(BB a b).Ok:=by
 refine⟨ha.H8,by show (a.ini++b.ini.map _).length=_;rw[jd,dL,ha.ini,hb.ini];rfl,by show (a.fin++b.fin).length=_;rw[jd,ha.fin,hb.fin];rfl,λx hx=>?_⟩
 rcases ru hx with hx|hx
 .have:=ha.form.arc x hx;have h2:x.f<a.st/\x.t<a.st/\1<=x.l/\x.l<=a.sym:=this;exact⟨by show x.f<a.st+b.st;omega,by show x.t<a.st+b.st;omega,h2.2.2.1,h2.2.2.2⟩
 .obtain⟨y,hy,rfl⟩:=jH hx;have h2:y.f<b.st/\y.t<b.st/\1<=y.l/\y.l<=b.sym:=hb.form.form.arc y hy;exact⟨by show y.f+a.st<a.st+b.st;omega,by show y.t+a.st<a.st+b.st;omega,h2.2.2.1,by show y.l<=a.sym;omega⟩
theorem Yy (ha:a.Ok)(hb:b.Ok)(hs:a.sym=b.sym):zeA (BB a b)=eqA a b:=by
 have hu:=ha.union (hb.scale (-1)) hs;have e:ah [BB a b]=ah [kV a (oq b (-1))]:=(RG (a:=a) (b:=b)).EK;unfold zeA eqA;rw[e];have k1:(ah [kV a (oq b (-1))]).k=a.sym:=wL;have k2:(ah [a,b]).k=a.sym:=wL;refine Qd (VA ha hb) (k1.trans k2.symm) λw hw=>?_;rw[k2] at hw;have h1:kU (ah [kV a (oq b (-1))]) w=kQ a w-kQ b w:=by
  show kQ (kV a (oq b (-1))) w=_
  rw[ah7 ha (hb.scale (-1)) hs hw,ah6 hb];rw[Rat.sub_eq_add_neg];congr 1;rw[Rat.mul_neg,Rat.mul_one]
 rw[h1,TQ ha hb hs hw]
end
section
variable {a:Au}{n s j k B C N:Nat}{v:List Rat}{l:List bM}
theorem ak1 (hv:∀ i,sz (v.getD i 0)<=B)(hl:∀ x,x ∈ l->x.t<n/\sz x.q<=C)(hN:l.length<=N)(h1:1<=B+C):sz ((kL n v s l).getD j 0)<=N*(B+C+1)+1:=by
 rw[KN λx hx=>(hl x hx).1];have h2:=JB (f:=inF v s j) (C:=B+C) (l:=l) λx hx=>by
  unfold inF
  split
  .have:=jS (v.getD x.f 0) x.q;have:=hv x.f;have:=(hl x hx).2;omega
  .rw[fH];exact h1
 have h3:=Nat.mul_le_mul_right (B+C+1) hN;omega
structure Au.Fw (a:Au):Prop where
 ok:a.Ok
 few:a.QR
 s4:a.sym<=4
 st1:1<=a.st
 arc:∀ x,x ∈ a.aB->sz x.q<=5000
 num:a.aB.length<=40
theorem Au.Fw.Uf (f:a.Fw):(ah [a]).Ok/\(ah [a]).Full/\(ah [a]).Sz 24/\(ah [a]).n=a.st :=
 ⟨Vz f.ok,Il _,V4 (λx hx=>by rw[lV hx];exact f.few) (by rw[dN];exact f.few.st) f.s4,dN⟩
theorem Ug (f:a.Fw){u:List Int}(hu:iy a.sym u)(hl:u.length<=6)(k j:Nat):sz ((ve a (u.take k)).getD j 0)<=16777215:=by
 have hk:(u.take k).length<=6:=by rw[List.length_take];omega
 rw[Ey f.ok λx hx=>hu x (List.mem_of_mem_take hx)];exact Nat.le_trans (mV f.Uf.2.2.1 hk j) (by decide)
theorem aS6 (f:a.Fw){u:List Int}(hu:iy a.sym u)(hl:u.length<=6)(k i j:Nat):sz ((kL a.st (ve a (u.take k)) s (a.aB.take i)).getD j 0)<=671288641:=by
 have h:=ak1 (v:=ve a (u.take k)) (n:=a.st) (s:=s) (j:=j) (l:=a.aB.take i) (B:=16777215) (C:=5000) (N:=40) (λj=>Ug f hu hl k j)
  (λx hx=>⟨(f.ok.arc x (List.mem_of_mem_take hx)).2.1,f.arc x (List.mem_of_mem_take hx)⟩) (by rw[List.length_take];have:=f.num;omega) (by decide)
 omega
theorem aS7 (h:a.Ok)(z:a.Sz 1 10)(s4:a.sym<=4)(s1:1<=a.st)(s6:a.st<=6):(qR a).Fw :=
 ⟨h.form,(z.few s6).form,s4,s1,λx hx=>by
  have h1:=uF z.arc x hx;have h2:=Nat.mul_le_mul_right (1+2) (show a.aB.length+1<=11 by have:=z.num;omega)
  omega,Nat.le_trans (jJ a.aB) (Nat.le_trans z.num (by decide))⟩
theorem be7 (h:a.Ok)(z:a.Sz 1 10)(s4:a.sym<=4)(s1:1<=a.st)(s6:a.st<=6):(qR (wS a)).Fw :=
 ⟨h.rev.form,(z.few s6).rev.form,s4,s1,λx hx=>by
  have h1:=uF z.rev.arc x hx;have h2:=Nat.mul_le_mul_right (40+2) (show (wS a).aB.length+1<=11 by have:=z.rev.num;omega)
  omega,Nat.le_trans (jJ _) (Nat.le_trans z.rev.num (by decide))⟩
theorem aC0 {b:Au}(ha:a.Ok)(hb:b.Ok)(za:a.Sz 1 10)(zb:b.Sz 6 18)(fb:b.QR)(zi:∀ q,q ∈ b.ini->sz q<=1)(hs:a.sym=b.sym)(s4:a.sym<=4)(s1:1<=a.st)(s6:a.st+b.st<=6):(BB a b).Fw:=by
 have h1:sz (-1)<=1:=by rw[EY,yG];exact Nat.le_refl _
 have fu:=(za.few (by omega)).union (fb.scale (λq hq=>Nat.le_trans (zi q hq) (by decide)) h1) ha (show a.st+b.st<=6 from s6)
 refine⟨aS5 ha hb hs,⟨s6,fu.ini,fu.fin,λs i j=>?_⟩,s4,(show 1<=a.st+b.st by omega),λx hx=>?_,?_⟩
 .rw[(RG (a:=a) (b:=b)).ent];exact fu.ent s i j
 .have k1:∀ y,y ∈ bU b.aB->sz y.q<=152:=λy hy=>by
   have h1:=uF zb.arc y hy;have h2:=Nat.mul_le_mul_right (6+2) (show b.aB.length+1<=19 by have:=zb.num;omega)
   omega
  rcases ru hx with hx|hx
  .have h1:=uF za.arc x hx;have h2:=Nat.mul_le_mul_right (1+2) (show a.aB.length+1<=11 by have:=za.num;omega)
   omega
  .obtain⟨y,hy,rfl⟩:=jH hx;have h1:=uF k1 y hy;have h2:=Nat.mul_le_mul_right (152+2) (show (bU b.aB).length+1<=19 by have:=zb.num;have:=jJ b.aB;omega)
   show sz y.q<=5000
   omega
 .show (bU a.aB++moved (bU (bU b.aB)) a.st).length<=40
  rw[jd,CY];have:=jJ a.aB;have:=jJ b.aB;have:=jJ (bU b.aB);have:=za.num;have:=zb.num;omega
theorem aC1 (h:a.Ok){u:List Int}(hu:iy a.sym u):ve (qR a) u=ve a u:=by
 rw[Ey h.form hu,Ey h hu,(Gz a).EK]
end
section
variable {m:bQ}{rs:List dh}{r:dh}{v w:List Rat}{L K:List (List Int)}{a:Au}
def C9 (v w:List Rat)(c:Rat):List Rat:=(List.range v.length).map λi=>v.getD i 0-w.getD i 0*c
theorem KP {c:Rat}:(C9 v w c).length=v.length:=by simp[C9]
theorem Yz:C9 v r.v (kz v r)=jr v r:=by
 unfold C9 jr;exact List.map_congr_left λi _=>by rw[Rat.mul_comm]
theorem WB (h:∀ r,r ∈ rs->r.p=eU r.v):∀ r,r ∈ tq rs w->r.p=eU r.v:=λr hr=>by
 unfold tq at hr
 split at hr
 .rcases ru hr with hr|hr
  .exact h r hr
  .rw[lV hr];rfl
 .exact h r hr
theorem aS8 (m:bQ)(K:List (List Int)):spR m [] K=[]:=by
 have h:∀ rs:List dh,rs=[]->∀ u,tq rs (bG m [] u)=[]:=λrs e u=>by
  subst e;unfold tq;rw[if_neg];unfold bW;rw[decide_eq_true_eq];exact Nat.not_lt_zero _
 unfold spR
 induction K with
 | nil=>rfl
 | cons u K ih=>rw[List.foldl_cons,h [] rfl];exact ih
theorem aC2 {u:List Int}{j:Nat}(hj:j<L.length):(bG m L u).getD j 0=He (aZ m u) (aZ (aU m) (L.getD j [])) m.n:=aO _ _ hj
theorem ak2 (h:a.Fw){B:Nat}(h1:1<=B){y z:BK}(hz:∀ u,u ∈ y.ks->∀ i,sz ((bG (ah [a]) z.ks u).getD i 0)<=B)(hy:iw (ah [a]) B [] y)(hl:iw (aU (ah [a])) B [] z):(spR (ah [a]) z.ks y.ks).length=VL a:=by
 obtain⟨V,j,_⟩:=hy.join;obtain⟨V2,j2,_⟩:=hl.join;have hr:=az2 h.Uf.1 h1 hz j j2;rw[hr];unfold VL;rw[show (ah [a]).k=a.sym from wL]
 rfl
end
section
variable {n:Nat}{rs:List dh}{r:dh}{v w:List Rat}
def Dc (v:List Rat):Int:=if eU v<v.length then (eU v:Int) else -1
theorem Ez (h:eU v<v.length):Dc v=(eU v:Int):=if_pos h
theorem Pg (h:¬ eU v<v.length):Dc v = -1:=if_neg h
theorem WC {i:Nat}(hi:i<v.length)(h0:v.getD i 0≠0)(hb:∀ j,j<i->v.getD j 0=0):Dc v=(i:Int):=by
 rw[Ez (by rw[KO hi h0 hb];exact hi),KO hi h0 hb]
theorem RH (h:∀ i,i<v.length->v.getD i 0=0):Dc v = -1:=Pg λhlt=>vH hlt (h _ hlt)
theorem Ph (hl:r.p=eU r.v)(hp:r.p<r.v.length)(h0:r.v.getD r.p 0≠0):Dc (iM r)=(r.p:Int):=by
 rw[Ez (by rw[LZ hl hp h0,zA];exact hp),LZ hl hp h0]
theorem ak3:(EL rs v).length=v.length:=by
 unfold EL
 split
 .rw[zA];exact mD rs v
 .exact mD rs v
theorem Pj:Dc (EL rs v)<0 ↔ bW rs v=false:=by
 unfold EL;by_cases hg:bW rs v=true
 .have hp:eU (bC rs v)<(bC rs v).length:=BA.1 hg;rw[if_pos hg,Ph (r:=newR rs v) rfl hp (vH hp),hg];constructor
  .intro h;omega
  .intro h;cases h
 .rw[if_neg hg,Pg (λh=>hg (BA.2 h))];exact⟨λ_=>by simpa using hg,λ_=>by decide⟩
theorem RI (hg:bW rs v=true):EL rs v=iM (newR rs v):=if_pos hg
theorem YA:(rs++[newR rs v]).map iM=rs.map iM++[iM (newR rs v)]:=by rw[List.map_append];rfl
theorem WE {B:Nat}(h:∀ i,sz (r.v.getD i 0)<=B)(i:Nat):sz ((iM r).getD i 0)<=B+B:=by
 rw[CZ];have:=TL (r.v.getD i 0) (r.v.getD r.p 0);have:=h i;have:=h r.p;omega
end
section
variable {m:bQ}{L V:List (List Int)}{rs:List dh}{w u:List Int}
theorem KQ (ok:m.Ok)(j:Join (aU m) V L [] rs)(hw:iy m.k w):∃ c:Nat->Rat,∀ i,i<m.n->(aZ (aU m) w).getD i 0=aW (λl=>c l*(aZ (aU m) (L.getD l [])).getD i 0) L.length:=by
 have h:=j.EO.reach w (by rw[lg];exact hw) λq hq=>by cases hq
 have h2:cZ (aU m).n (xk (aU m) L) (vf (aZ (aU m) w)):=h.mono λb hb=>by
  obtain⟨u,hu,rfl⟩:=jH hb;exact List.mem_map.2 ⟨u,(eY.1 hu).1,rfl⟩
 obtain⟨c,hc⟩:=h2.bc6;refine⟨c,λi hi=>?_⟩;have hv:(xk (aU m) L).length=L.length:=dL ..;have e:=hc i hi;rw[hv] at e;refine e.trans (aF λl hl=>?_);have ev:(xk (aU m) L).getD l []=aZ (aU m) (L.getD l []):=by
  unfold xk;simp[iO,lF hl]
 rw[ev]
theorem Uh {n N:Nat}{x:Nat->Rat}{y:Nat->Rat}{c:Nat->Rat}{b:Nat->Nat->Rat}(h:∀ i,i<n->y i=aW (λl=>c l*b l i) N):mZ n x y=aW (λl=>mZ n x (b l)*c l) N:=by
 unfold mZ;have e1:aW (λi=>x i*y i) n=aW (λi=>aW (λl=>x i*(c l*b l i)) N) n:=aF λi hi=>by rw[h i hi,<- ig]
 have e2:aW (λl=>aW (λi=>x i*b l i) n*c l) N=aW (λl=>aW (λi=>x i*(c l*b l i)) n) N:=aF λl _=>by
  rw[<- nG];exact aF λi _=>by rw[Rat.mul_comm (c l),Rat.mul_assoc]
 rw[e1,e2,pJ]
theorem ak4 (ok:m.Ok)(j:Join (aU m) V L [] rs)(hL:∀ l,l ∈ L->iy m.k l):∃ mv:bQ,mv.n=L.length/\mv.k=m.k/\mv.Ok/\(∀ w,iy m.k w->aZ mv w=bG m L w)/\∀ w,iy m.k w->kU mv w=kU m w:=by
 have inL:∀ l,l<L.length->∀ s,s<m.k->iy m.k (L.getD l [])->iy m.k (L.getD l []++[((s+1:Nat):Int)]):=λl _ s hs h x hx=>by
  rcases ru hx with hx|hx
  .exact h x hx
  .rw[lV hx];omega
 have ex:∀ (s l:Nat),∃ c:Nat->Rat,iy m.k (L.getD l []++[((s+1:Nat):Int)])->∀ i,i<m.n->(aZ (aU m) (L.getD l []++[((s+1:Nat):Int)])).getD i 0=aW (λq=>c q*(aZ (aU m) (L.getD q [])).getD i 0) L.length:=λs l=>by
  by_cases hw:iy m.k (L.getD l []++[((s+1:Nat):Int)])
  .obtain⟨c,hc⟩:=KQ ok j hw;exact⟨c,λ_=>hc⟩
  .exact⟨λ_=>0,λh=>absurd h hw⟩
 obtain⟨d,hd⟩:=KQ (w:=[]) ok j λx hx=>by cases hx
 have hC:∃ C:Nat->Nat->Nat->Rat,∀ s l,iy m.k (L.getD l []++[((s+1:Nat):Int)])->∀ i,i<m.n->(aZ (aU m) (L.getD l []++[((s+1:Nat):Int)])).getD i 0=aW (λq=>C s l q*(aZ (aU m) (L.getD q [])).getD i 0) L.length :=
  ⟨λs l=>(ex s l).choose,λs l=>(ex s l).choose_spec⟩
 obtain⟨C,hC⟩:=hC;have hin:∀ l,l<L.length->iy m.k (L.getD l []):=λl hl=>by
  have hmem:L.getD l [] ∈ L:=getD_mem hl [];exact hL _ hmem
 let mv:bQ:=⟨L.length,bG m L [],(List.range L.length).map d,(List.range m.k).map λs=>EH L.length λi q=>C s q i⟩
 have hk:mv.k=m.k:=by show ((List.range m.k).map _).length=m.k;simp
 have hent:∀ s i q,s<m.k->i<L.length->q<L.length->iU mv s i q=C s q i:=λs i q hs hi hq=>by
  show ((((List.range m.k).map λs=>EH L.length λi q=>C s q i).getD s []).getD i []).getD q 0=_
  rw[aO _ _ hs,Nj hi hq]
 have br1:∀ (n:Nat) (w:List Int),w.length=n->iy m.k w->aZ mv w=bG m L w:=by
  intro n
  induction n with
  | zero=>intro w hn _;rw[EQ hn];rfl
  | succ n ih =>
   intro w hn hw;have hne:w≠[]:=λe=>by rw[e] at hn;cases hn
   obtain⟨z,x,rfl⟩:∃ z x,w=z++[x]:=⟨w.dropLast,w.getLast hne,(List.dropLast_concat_getLast hne).symm⟩;have hx:=hw x (by simp)
   obtain⟨s,hs,rfl⟩:∃ s:Nat,s<m.k/\x=((s+1:Nat):Int):=⟨x.toNat-1,by omega,by omega⟩
   have hz:iy m.k z:=λq hq=>hw q (List.mem_append.2 (.inl hq));rw[iq,ih z (by rw[jd,kC] at hn;omega) hz]
   refine List.ext_getElem (by rw[CJ,jQ]) λq h1 h2=>?_
   rw[jQ] at h2;have g1:∀ (l:List Rat) (h:q<l.length),l[q]=l.getD q 0:=λl h=>by rw[iO,lF h];rfl
   rw[g1,g1];have e1:(bG m L (z++[((s+1:Nat):Int)])).getD q 0=jW m (z++[((s+1:Nat):Int)]) (L.getD q []):=aO _ _ h2;have es:(((s+1:Nat):Int)).toNat-1=s:=by omega
   rw[e1,es];unfold stepM;rw[show mv.n=L.length from rfl,aO _ _ h2]
   unfold jW;rw[iq,es,VF hs];have e2:stepM (aU m) (aZ (aU m) (L.getD q [])) s=aZ (aU m) (L.getD q []++[((s+1:Nat):Int)]):=by rw[iq,es]
   rw[e2,Uh (y:=vf (aZ (aU m) (L.getD q []++[((s+1:Nat):Int)]))) (b:=λl=>vf (aZ (aU m) (L.getD l []))) (λi hi=>hC s q (inL q h2 s hs (hin q h2)) i hi)];refine aF λl hl=>?_;rw[hent s l q hs hl h2,show (bG m L z).getD l 0=jW m z (L.getD l []) from aO _ _ hl]
   rfl
 refine⟨mv,rfl,hk,⟨jQ,by show ((List.range L.length).map d).length=L.length;simp⟩,λw hw=>br1 w.length w rfl hw,λw hw=>?_⟩
 unfold kU;rw[br1 w.length w rfl hw,Uh (n:=m.n) (y:=vf m.fin) (b:=λl=>vf (aZ (aU m) (L.getD l []))) hd];unfold mZ;rw[show mv.n=L.length from rfl]
 refine aF λl hl=>?_;rw[show vf (bG m L w) l=jW m w (L.getD l []) from aO _ _ hl,show vf mv.fin l=d l from aO _ _ hl]
 rfl
