/-
  N, part 12: any model, as it comes: its numbers as limbs, its lists of any length; what the checks of models say of it.
-/
import Derived.Test.YteiohkpjgcioaaaGreatDoorKHxM
import Derived.Test.YteiohkpjgcioaaaGreatDoorKWkYS
set_option linter.unusedVariables false
namespace Go.AL
open Go Go.BigFrame
section
variable {g:HM}{i s k:Nat}
def BL (g:HM)(i s k:Nat):List aT:=(List.range k).map λf=>⟨f,s+1,i+1,(eY g f).getD i 0*EN g i s⟩
def yC (g:HM)(i k:Nat):List aT:=(List.range k).flatMap λs=>BL g i s (g.st+1)
def jR (g:HM)(k:Nat):List aT:=(List.range k).flatMap λi=>yC g i g.sym
def JU (l:List aT):List aT:=l.filter λx=>decide (x.q≠0)
def kJ (g:HM):Au:=⟨g.sym,g.st+1,1::List.replicate g.st 0,g.empty::g.stop,JU (jR g g.st)⟩
theorem CW:BL g i s (k+1)=BL g i s k++[⟨k,s+1,i+1,(eY g k).getD i 0*EN g i s⟩]:=by
 unfold BL;rw[List.range_succ,List.map_append];rfl
theorem GL:yC g i (k+1)=yC g i k++BL g i k (g.st+1):=by
 unfold yC;rw[List.range_succ,List.flatMap_append];simp
theorem GN:jR g (k+1)=jR g k++yC g k g.sym:=by
 unfold jR;rw[List.range_succ,List.flatMap_append];simp
theorem VT:(BL g i s k).length=k:=by unfold BL;rw[dF,List.length_range]
theorem VU:(yC g i k).length=k*(g.st+1):=by
 induction k with
 | zero=>simp[yC]
 | succ k ih=>rw[GL,jT,ih,VT,Nat.succ_mul]
theorem VW:(jR g k).length=k*(g.sym*(g.st+1)):=by
 induction k with
 | zero=>simp[jR]
 | succ k ih=>rw[GN,jT,ih,VU,Nat.succ_mul]
theorem O0 {x:aT}(h:x ∈ jR g k):∃ i,i<k/\∃ s,s<g.sym/\∃ f,f<g.st+1/\x=⟨f,s+1,i+1,(eY g f).getD i 0*EN g i s⟩:=by
 obtain⟨i,hi,h⟩:=List.mem_flatMap.1 h;obtain⟨s,hs,h⟩:=List.mem_flatMap.1 h;obtain⟨f,hf,e⟩:=Az h;exact⟨i,List.mem_range.1 hi,s,List.mem_range.1 hs,f,List.mem_range.1 hf,e.symm⟩
theorem X5 {l:List aT}{x:aT}(h:x.q≠0):JU (l++[x])=JU l++[x]:=by
 unfold JU;rw[List.filter_append,List.filter_cons,if_pos (decide_eq_true h)];rfl
theorem X6 {l:List aT}{x:aT}(h:x.q=0):JU (l++[x])=JU l:=by
 unfold JU;rw[List.filter_append,List.filter_cons,if_neg (by simp[h])];exact List.append_nil _
theorem Zx {l:List aT}:(JU l).length<=l.length:=List.length_filter_le ..
theorem Zy {l:List aT}{x:aT}(h:x ∈ JU l):x ∈ l:=(List.mem_filter.1 h).1
theorem Tv {S F C:Nat}:∀ {l:List aT},gV (JU l) S F C=gV l S F C
 | []=>rfl
 | x :: l => by
  have e:∀ m:List aT,gV (x::m) S F C=gV [x] S F C+gV m S F C:=λm=>qx [x] m;by_cases h:x.q=0
  .have h1:JU (x::l)=JU l:=by unfold JU;rw[List.filter_cons,if_neg (by simp[h])]
   have h2:gV [x] S F C=0:=by
    show (if x.f=F/\x.l=S+1/\x.t=C then x.q else 0)+0=0
    rw[h,Rat.add_zero];split <;> rfl
   rw[h1,Tv,e l,h2,Rat.zero_add]
  .have h1:JU (x::l)=x::JU l:=by unfold JU;rw[List.filter_cons,if_pos (decide_eq_true h)]
   rw[h1,e (JU l),e l,Tv]
theorem aT5 {S F C:Nat}:gV (BL g i s k) S F C=if F<k/\s=S/\i+1=C then (eY g F).getD i 0*EN g i s else 0:=by
 induction k with
 | zero=>rw[if_neg (by omega)];rfl
 | succ k ih =>
  rw[CW,qx,ih];have h1:gV [(⟨k,s+1,i+1,(eY g k).getD i 0*EN g i s⟩:aT)] S F C=if k=F/\s+1=S+1/\i+1=C then (eY g k).getD i 0*EN g i s else 0:=by
   show (if k=F/\s+1=S+1/\i+1=C then (eY g k).getD i 0*EN g i s else 0)+0=_
   rw[Rat.add_zero]
  rw[h1];by_cases h2:s=S/\i+1=C
  .by_cases h3:k=F
   .subst h3;rw[if_neg (by omega),if_pos ⟨rfl,by omega,h2.2⟩,if_pos ⟨by omega,h2⟩,Rat.zero_add]
   .by_cases h4:F<k
    .rw[if_pos ⟨h4,h2⟩,if_neg (by omega),if_pos ⟨by omega,h2⟩,Rat.add_zero]
    .rw[if_neg (by omega),if_neg (by omega),if_neg (by omega),Rat.add_zero]
  .rw[if_neg (λq=>h2 q.2),if_neg (λq=>h2 ⟨by omega,q.2.2⟩),if_neg (λq=>h2 q.2),Rat.add_zero]
theorem aT6 {S F C:Nat}:gV (yC g i k) S F C=if F<g.st+1/\S<k/\i+1=C then (eY g F).getD i 0*EN g i S else 0:=by
 induction k with
 | zero=>rw[if_neg (by omega)];rfl
 | succ k ih =>
  rw[GL,qx,ih,aT5];by_cases h2:F<g.st+1/\i+1=C
  .by_cases h3:k=S
   .subst h3;rw[if_neg (by omega),if_pos ⟨h2.1,rfl,h2.2⟩,if_pos ⟨h2.1,by omega,h2.2⟩,Rat.zero_add]
   .by_cases h4:S<k
    .rw[if_pos ⟨h2.1,h4,h2.2⟩,if_neg (by omega),if_pos ⟨h2.1,by omega,h2.2⟩,Rat.add_zero]
    .rw[if_neg (by omega),if_neg (by omega),if_neg (by omega),Rat.add_zero]
  .rw[if_neg (λq=>h2 ⟨q.1,q.2.2⟩),if_neg (λq=>h2 ⟨q.1,q.2.2⟩),if_neg (λq=>h2 ⟨q.1,q.2.2⟩),Rat.add_zero]
theorem aT7 {S F C:Nat}:gV (jR g k) S F C=if F<g.st+1/\1<=C/\C<=k/\S<g.sym then (eY g F).getD (C-1) 0*EN g (C-1) S else 0:=by
 induction k with
 | zero=>rw[if_neg (by omega)];rfl
 | succ k ih =>
  rw[GN,qx,ih,aT6];by_cases h2:F<g.st+1/\S<g.sym
  .by_cases h3:k+1=C
   .subst h3;rw[if_neg (by omega),if_pos ⟨h2.1,h2.2,rfl⟩,if_pos ⟨h2.1,by omega,by omega,h2.2⟩,Rat.zero_add,Nat.add_sub_cancel]
   .by_cases h4:1<=C/\C<=k
    .rw[if_pos ⟨h2.1,h4.1,h4.2,h2.2⟩,if_neg (by omega),if_pos ⟨h2.1,h4.1,by omega,h2.2⟩,Rat.add_zero]
    .rw[if_neg (by omega),if_neg (by omega),if_neg (by omega),Rat.add_zero]
  .rw[if_neg (λq=>h2 ⟨q.1,q.2.2.2⟩),if_neg (λq=>h2 ⟨q.1,q.2.1⟩),if_neg (λq=>h2 ⟨q.1,q.2.2.2⟩),Rat.add_zero]
theorem Iw {b B:Nat}(h:HM.jK b B g):Fv (kJ g) (bT g):=⟨rfl,rfl,rfl,rfl,λS F C=>by
 show gV (JU (jR g g.st)) S F C=gV (Md g (g.st+1)) S F C
 rw[Tv,aT7,aS6 h (Nat.le_refl _)]⟩
theorem VX {b B:Nat}(h:HM.jK b B g):(kJ g).Ok:=⟨h.form.qR,by simp[kJ],by simp[kJ,h.form.stop],λx hx=>by
 obtain⟨i,hi,s,hs,f,hf,rfl⟩:=O0 (Zy hx);exact⟨hf,by show i+1<g.st+1;omega,by show 1<=s+1;omega,hs⟩⟩
theorem ae9:(kJ g).aX.length<=g.st*(g.sym*(g.st+1)):=Nat.le_trans Zx (Nat.le_of_eq VW)
theorem af0 {b B:Nat}(h:HM.jK b B g){u:List Int}(hw:G6 g.sym u):G7 (kJ g) u=BJ g u:=(congrFun (Iw h).ser u).trans (JH h hw)
end
end Go.AL
set_option linter.unusedSimpArgs false
namespace Go.Proofs.YteiohkpjgcioaaaGreatDoor
open Go Go.AL
theorem af2 {a:Au}(h:a.Ok)(hn:a.aX.length<=64){w:List Int}(hw:G6 a.sym w){C:Nat}(hC:1<=C/\C<=100000000)(hv:∀ k,k<=w.length->∀ j,sz ((iq (iR [a]) (w.take k)).getD j 0)<=C)(he:∀ s i j,sz (gV a.aX s i j)<=C)(hf:Small C a.fin)(s2:a.st<=64):VI (kH a) w:=by
 have hv2:∀ k,k<=w.length->∀ j,sz ((JE (kH a) (w.take k)).getD j 0)<=C:=λk hk j=>by
  rw[Tj (h.form) (λx hx=>hw x (List.mem_of_mem_take hx)),(QD a).Vl];exact hv k hk j
 have hq:∀ x,x ∈ (kH a).aX->sz x.q<=C:=λx hx=>by
  rw[<- Aq (Vr a.aX) hx ((h.form.arc x hx).2.2.1),Gw];exact he ..
 have hl:(kH a).aX.length<=64:=Nat.le_trans (Gy a.aX) hn;have hvw:∀ j,sz ((JE (kH a) w).getD j 0)<=C:=λj=>by
  have:=hv2 w.length (Nat.le_refl _) j;rwa [List.take_length] at this
 refine⟨λk hk=>⟨λj=>Nat.le_trans (hv2 k (by omega) j) (by omega),λx hx=>Nat.le_trans (hq x hx) (by omega),λi j=>?_⟩,λj=>Nat.le_trans (hvw j) (by omega),λj=>Nat.le_trans (hf.get hC.1 j) (by omega),λi hi=>?_⟩
 .have h1:=QT (v:=JE (kH a) (w.take k)) (n:=a.st) (s:=(w.getD k 0).toNat) (j:=j) (l:=(kH a).aX.take i) (B:=C) (C:=C) (N:=64) (hv2 k (by omega)) (λx hx=>⟨((h.form).arc x (List.mem_of_mem_take hx)).2.1,hq x (List.mem_of_mem_take hx)⟩) (by rw[List.length_take];omega) (by omega)
  exact Nat.le_trans h1 (by omega)
 .unfold EH;have h1:=OC (f:=λi=>(JE (kH a) w).getD i 0*(kH a).fin.getD i 0) (C:=C+C) (n:=i) λj _=>by
   have h2:=jZ ((JE (kH a) w).getD j 0) ((kH a).fin.getD j 0);have h3:=hvw j;have h4:sz ((kH a).fin.getD j 0)<=C:=hf.get hC.1 j;omega
  have h2:=Nat.mul_le_mul_right (C+C+1) (show i<=64 from Nat.le_trans hi s2)
  omega
theorem X7 {a:Au}(h:a.Ok){C:Nat}(he:∀ s i j,sz (gV a.aX s i j)<=C){x:aT}(hx:x ∈ (kH a).aX):sz x.q<=C:=by
 rw[<- Aq (Vr a.aX) hx ((h.form.arc x hx).2.2.1),Gw];exact he ..
theorem VY {h:HM}{B:Nat}(g:HM.jK 1048576 B h)(na:(bT h).aX.length<=64)(nr:(kJ h).aX.length<=64):(kJ h).Sz 134217728 64:=by
 have z:=Em g na;have f:=g.form;have hb:=f.bB;refine⟨z.ini,z.fin,λx hx=>?_,nr⟩;obtain⟨i,hi,s,hs,k,hk,rfl⟩:=O0 (Zy hx);have h1:=(FO f k).get f.b1 i;have h2:=(f.zM i).get f.b1 s;have h3:=jZ ((eY h k).getD i 0) (EN h i s);show sz ((eY h k).getD i 0*EN h i s)<=134217728
 unfold EN at h3 ⊢;omega
theorem af4 {h:HM}{B C:Nat}(g:HM.jK 1048576 B h)(na:(bT h).aX.length<=64)(nr:(kJ h).aX.length<=64){w:List Int}(hw:G6 h.sym w)(hl:w.length<=256)(hC:1<=C/\C<=100000000)(hB:B+B<=C)
  (hf:∀ k,k<=w.length->∀ t j,t<(w.take k).length->sz ((yw h (w.take k) t).getD j 0)<=C):ai P F.lu [Gx (kH (kJ h)),.d (ints w)] (.jM [vW (BJ h w),.d (dI 0)]):=by
 have ok:=VX g;have he:∀ s i j,sz (gV (kJ h).aX s i j)<=C:=λs i j=>by rw[(Iw g).ent];exact Nat.le_trans (Ir g s i j) hB
 have z:=VY g na nr;have st:(kJ h).st<=64:=by have:=g.form.st1;show h.st+1<=64;omega
 have zn:(kH (kJ h)).Sz 134217728 64:=⟨z.ini,z.fin,λx hx=>Nat.le_trans (X7 ok he hx) (by omega),Nat.le_trans (Gy _) nr⟩
 have zz:VI (kH (kJ h)) w:=af2 ok nr hw hC (λk hk j=>by rw[(Iw g).Vl];exact Tn g hC.1 (λx hx=>hw x (List.mem_of_mem_take hx)) (hf k hk) j) he ((Ej g).mono (by omega)) st
 have e:G7 (kH (kJ h)) w=BJ h w:=by rw[(QD _).ser];exact af0 g hw
 have r:=KR (a:=kH (kJ h)) (w:=w) ⟨ok.form,zn,g.form.sZ,st,zz⟩ hw hl;rw[e] at r;exact r
end Go.Proofs.YteiohkpjgcioaaaGreatDoor
namespace Go.AL
open Go Go.BigFrame
def cnt (p:Nat->Bool):Nat->Nat
 | 0=>0
 | n+1=>cnt p n+(if p n then 1 else 0)
theorem cnt_le {p q:Nat->Bool}:∀ {n:Nat},(∀ k,k<n->p k=true->q k=true)->cnt p n<=cnt q n
 | 0,_=>Nat.le_refl _
 | n+1,h=>by
  have h1:=cnt_le (n:=n) (λk hk=>h k (by omega))
  have h2:=h n (by omega)
  unfold cnt;cases hp:p n with
  | false=>simp only[Bool.false_eq_true,if_false];omega
  | true=>rw[h2 hp];simp only[if_true];omega
theorem cnt_lt {p q:Nat->Bool}:∀ {n:Nat},(∀ k,k<n->p k=true->q k=true)->(∃ k,k<n/\p k=false/\q k=true)->cnt p n<cnt q n
 | 0,_,⟨k,hk,_⟩=>by omega
 | n + 1, h, ⟨k, hk, h0, h1⟩ => by
  unfold cnt;by_cases e:k=n
  .subst e;have h2:=cnt_le (n:=k) (λj hj=>h j (by omega))
   rw[h0,h1];simp only[Bool.false_eq_true,if_false,if_true];omega
  .have h2:=cnt_lt (n:=n) (λj hj=>h j (by omega)) ⟨k,by omega,h0,h1⟩
   have h3:=h n (by omega)
   cases hp:p n with
   | false=>simp only[Bool.false_eq_true,if_false];omega
   | true=>rw[h3 hp];simp only[if_true];omega
theorem GR {p:Nat->Bool}:∀ n:Nat,cnt p n<=n
 | 0=>Nat.le_refl _
 | n+1=>by have:=GR (p:=p) n;unfold cnt;split <;> omega
theorem VZ {p:Nat->Bool}:∀ {n:Nat},(∀ k,k<n->p k=true)->cnt p n=n
 | 0,_=>rfl
 | n+1,h=>by
  have:=VZ (n:=n) (λk hk=>h k (by omega))
  unfold cnt;rw[h n (by omega)];simp only[if_true];omega
theorem Zz {p:Nat->Bool}:∀ {n:Nat},n<=cnt p n->∀ k,k<n->p k=true
 | 0,_,k,hk=>by omega
 | n + 1, h, k, hk => by
  have h1:=GR (p:=p) n;unfold cnt at h;cases hp:p n with
  | false=>rw[hp] at h;simp only[Bool.false_eq_true,if_false] at h;omega
  | true =>
   rw[hp] at h;simp only[if_true] at h;rcases Nat.lt_or_ge k n with hk2|hk2
   .exact Zz (n:=n) (by omega) k hk2
   .obtain rfl:k=n:=by omega
    exact hp
abbrev dRs (l:List Raw):D:=.sl (l.map aC0)
abbrev af5 (l:List (List Raw)):D:=.sl (l.map dRs)
structure Raw.Med (r:Raw):Prop where
 num:jg r.num
 den:jg r.den
 ln:r.num.length<=1048576
 ld:r.den.length<=1048576
theorem Raw.Med.ok {r:Raw}(h:r.Med):r.Ok:=⟨h.num,h.den,Nat.le_trans h.ln (by decide),Nat.le_trans h.ld (by decide)⟩
theorem Raw.Med.sm {r:Raw}(h:r.Med):r.Sm:=⟨h.ok,Nat.le_trans h.ln (by decide),Nat.le_trans h.ld (by decide)⟩
theorem Raw.Med.sz {r:Raw}(h:r.Med):Go.AL.sz r.q<=1048576:=I9 h.ok h.ln h.ld (by decide)
theorem aM7 {r:Raw}(h:r.Ok)(g:r.good=true):eU r.q=r:=by
 obtain⟨f1,f2,f3,f4⟩:=EU h g;obtain⟨s,n,d⟩:=r;simp only at f1 f2 f3 f4;unfold eU;rw[<- f1,<- f2];by_cases e:d=[]
 .rw[if_pos (f3 e),e]
 .rw[<- f4 e];by_cases e2:((⟨s,n,d⟩:Raw).q).den=1
  .exfalso
   have hv:val d=1:=by rw[f4 e,e2,bF]
   have hn:n≠[]:=λe3=>by
    unfold Raw.good at g;simp only[e3] at g;simp[e] at g
   unfold Raw.good at g;simp[hn,e,hv] at g
  .rw[if_neg e2]
def KT (r:Raw):Bool:=r.good && decide (sN r.q)
def oH (l:List Raw):Prop:=∀ r,r ∈ l->KT r=true
def PY (l:List Raw):Prop:=∀ r,r ∈ l->r.Med
theorem oH.good {l:List Raw}(h:oH l):∀ r,r ∈ l->r.good=true:=λr hr=>by have:=h r hr;unfold KT at this;rw[Bool.and_eq_true] at this;exact this.1
theorem oH.shares {l:List Raw}(h:oH l):iY (l.map Raw.q):=λq hq=>by
 obtain⟨r,hr,rfl⟩:=Az hq;have:=h r hr;unfold KT at this;rw[Bool.and_eq_true] at this;exact jC this.2
theorem PY.small {l:List Raw}(h:PY l):Small 1048576 (l.map Raw.q):=λq hq=>by
 obtain⟨r,hr,rfl⟩:=Az hq;exact (h r hr).sz
theorem X8 {l:List Raw}(h:oH l)(m:PY l):dRs l=o9 (l.map Raw.q):=by
 unfold dRs o9;rw[List.map_map];congr 1;refine List.map_congr_left λr hr=>?_;show aC0 r=aC0 (eU r.q)
 rw[aM7 (m r hr).ok (h.good r hr)]
theorem ZA {l:List (List Raw)}(h:∀ x,x ∈ l->oH x)(m:∀ x,x ∈ l->PY x):af5 l=J4 (l.map (List.map Raw.q)):=by
 unfold af5 J4;rw[List.map_map];congr 1;exact List.map_congr_left λx hx=>X8 (h x hx) (m x hx)
structure RM where
 sym:Int
 st:Int
 empty:Raw
 ini:List Raw
 trans:List (List Raw)
 stop:List Raw
 emit:List (List Raw)
 silent:List Bool
 ties:List Int
abbrev vRM (h:RM):V:=.ag [.d (dI h.sym),.d (dI h.st),.d (dB h.empty.neg),.d (aC h.empty.num),.d (aC h.empty.den),.d (dRs h.ini),.d (af5 h.trans),.d (dRs h.stop),.d (af5 h.emit),.d (bools h.silent),.d (ints h.ties)]
structure RM.Sz (h:RM):Prop where
 e:h.empty.Med
 i:PY h.ini
 s:PY h.stop
 t:∀ x,x ∈ h.trans->PY x
 m:∀ x,x ∈ h.emit->PY x
 li:h.ini.length<=1048576
 ls:h.stop.length<=1048576
 lt:h.trans.length<=1048576
 lm:h.emit.length<=1048576
 ltr:∀ x,x ∈ h.trans->x.length<=1048576
 lmr:∀ x,x ∈ h.emit->x.length<=1048576
 ll:h.silent.length<=1048576
 lk:h.ties.length<=1048576
def RM.Rng (h:RM):Prop:=(1<=h.sym/\h.sym<=32)/\1<=h.st/\h.st<=12
instance (h:RM):Decidable h.Rng:=inferInstanceAs (Decidable (_/\_))
structure RM.Fm (h:RM):Prop where
 li:(h.ini.length:Int)=h.st
 ls:(h.stop.length:Int)=h.st
 ll:(h.silent.length:Int)=h.st
 lk:(h.ties.length:Int)=h.st
 lt:(h.trans.length:Int)=h.st
 lm:(h.emit.length:Int)=h.st
 e:KT h.empty=true
 i:oH h.ini
 s:oH h.stop
 row:∀ i:Nat,(i:Int)<h.st->((h.trans.getD i []).length:Int)=h.st/\((h.emit.getD i []).length:Int)=(if h.silent.getD i false then 0 else h.sym)/\oH (h.trans.getD i [])/\oH (h.emit.getD i [])/\0<=h.ties.getD i 0/\h.ties.getD i 0<h.st
abbrev RM.nY (h:RM)(i:Nat):Prop:=((h.trans.getD i []).length:Int)=h.st/\((h.emit.getD i []).length:Int)=(if h.silent.getD i false then 0 else h.sym)/\oH (h.trans.getD i [])/\oH (h.emit.getD i [])/\0<=h.ties.getD i 0/\h.ties.getD i 0<h.st
def hm (h:RM):HM:=⟨h.sym.toNat,h.st.toNat,h.empty.q,h.ini.map Raw.q,h.trans.map (List.map Raw.q),h.stop.map Raw.q,h.emit.map (List.map Raw.q),h.silent,h.ties⟩
structure HM.oh (h:HM):Prop where
 qR:1<=h.sym
 sZ:h.sym<=32
 st0:1<=h.st
 st1:h.st<=12
 ini:h.ini.length=h.st
 trans:h.trans.length=h.st
 x9:∀ i,i<h.st->(h.trans.getD i []).length=h.st
 stop:h.stop.length=h.st
 emit:h.emit.length=h.st
 AQ:∀ i,i<h.st->(h.emit.getD i []).length=if h.silent.getD i false then 0 else h.sym
 yJ:h.silent.length=h.st
 ties:h.ties.length=h.st
 tie:∀ i,i<h.st->0<=h.ties.getD i 0/\h.ties.getD i 0<h.st
 zE:sz h.empty<=1048576
 zI:Small 1048576 h.ini
 zS:Small 1048576 h.stop
 zT:∀ i,Small 1048576 (h.trans.getD i [])
 zM:∀ i,Small 1048576 (h.emit.getD i [])
 pE:sN h.empty
 pI:iY h.ini
 pS:iY h.stop
 pT:∀ i,iY (h.trans.getD i [])
 pM:∀ i,iY (h.emit.getD i [])
structure HM.Me (h:HM):Prop where
 i:iG (h.ini++[h.empty])=1
 t:∀ i,i<h.st->iG (h.trans.getD i []++[h.stop.getD i 0])=1
 m:∀ i,i<h.st->h.silent.getD i false=false->iG (h.emit.getD i [])=1
abbrev HM.aT9 (h:HM)(i:Nat):Prop:=iG (h.trans.getD i []++[h.stop.getD i 0])=1/\(h.silent.getD i false=false->iG (h.emit.getD i [])=1)
abbrev HM.au9 (h:HM)(i j:Nat):Prop:=h.silent.getD i false=false->h.silent.getD j false=false->h.ties.getD i 0=h.ties.getD j 0->h.emit.getD i []=h.emit.getD j []
theorem uf {p:Nat->Prop}{i:Nat}(h:∀ j,j<i->p j)(k:p i):∀ j,j<i+1->p j:=λj hj=>by
 rcases Nat.lt_or_ge j i with x|x
 .exact h j x
 .obtain rfl:j=i:=by omega
  exact k
theorem HM.oh.wH {h:HM}(f:h.oh)(i:Nat)(hi:i<h.st):(h.emit.getD i []).length<=32:=by
 have h1:=f.AQ i hi;have h2:=f.sZ
 split at h1 <;> omega
def HM.X9 (h:HM)(r:Nat->Nat):Prop:=∀ i j,i<h.st->j<h.st->h.silent.getD i false=true->h.silent.getD j false=true->0<(h.trans.getD i []).getD j 0->r j<r i
def HM.ql (h:HM):Prop:=∃ r,h.X9 r
def HM.PZ (h:HM):Prop:=∀ i j,i<h.st->j<i->h.silent.getD i false=false->h.silent.getD j false=false->h.ties.getD i 0=h.ties.getD j 0->h.emit.getD i []=h.emit.getD j []
theorem QX {α β:Type}(f:α->β)(l:List α)(i:Nat)(d:α):(l.map f).getD i (f d)=f (l.getD i d):=by
 rw[iZ,iZ,List.getElem?_map];cases l[i]? <;> rfl
theorem RM.Fm.form {h:RM}(f:h.Fm)(g:h.Rng)(z:h.Sz):(hm h).oh:=by
 obtain⟨⟨g1,g2⟩,g3,g4⟩:=g;have hst:((hm h).st:Int)=h.st:=by show ((h.st.toNat:Nat):Int)=_;omega
 have hsy:((hm h).sym:Int)=h.sym:=by show ((h.sym.toNat:Nat):Int)=_;omega
 have f1:=f.li;have f2:=f.ls;have f3:=f.ll;have f4:=f.lk;have f5:=f.lt;have f6:=f.lm;have hT:∀ i,(hm h).trans.getD i []=(h.trans.getD i []).map Raw.q:=λi=>QX (List.map Raw.q) h.trans i [];have hE:∀ i,(hm h).emit.getD i []=(h.emit.getD i []).map Raw.q:=λi=>QX (List.map Raw.q) h.emit i [];have mT:∀ i,PY (h.trans.getD i []):=λi=>by
  rcases Nat.lt_or_ge i h.trans.length with hi|hi
  .exact z.t _ (getD_mem hi _)
  .rw[iZ,List.getElem?_eq_none hi];exact λr hr=>by cases hr
 have mE:∀ i,PY (h.emit.getD i []):=λi=>by
  rcases Nat.lt_or_ge i h.emit.length with hi|hi
  .exact z.m _ (getD_mem hi _)
  .rw[iZ,List.getElem?_eq_none hi];exact λr hr=>by cases hr
 have sT:∀ i,oH (h.trans.getD i []):=λi=>by
  rcases Nat.lt_or_ge i h.trans.length with hi|hi
  .exact (f.row i (by omega)).2.2.1
  .rw[iZ,List.getElem?_eq_none hi];exact λr hr=>by cases hr
 have sE:∀ i,oH (h.emit.getD i []):=λi=>by
  rcases Nat.lt_or_ge i h.emit.length with hi|hi
  .exact (f.row i (by omega)).2.2.2.1
  .rw[iZ,List.getElem?_eq_none hi];exact λr hr=>by cases hr
 have se:=f.e;unfold KT at se;rw[Bool.and_eq_true] at se;exact {
  qR:=by omega,sZ:=by omega,st0:=by omega,st1:=by omega
  ini:=by show (h.ini.map _).length=_;rw[dF];omega
  trans:=by show (h.trans.map _).length=_;rw[dF];omega
  x9:=λi hi=>by rw[hT,dF];have:=(f.row i (by omega)).1;omega
  stop:=by show (h.stop.map _).length=_;rw[dF];omega
  emit:=by show (h.emit.map _).length=_;rw[dF];omega
  AQ:=λi hi=>by
   rw[hE,dF];have:=(f.row i (by omega)).2.1
   show _=if h.silent.getD i false then 0 else _
   split at this
   .rename_i e;rw[if_pos e];omega
   .rename_i e;rw[if_neg e];omega
  yJ:=by show h.silent.length=_;omega
  ties:=by show h.ties.length=_;omega
  tie:=λi hi=>by have:=(f.row i (by omega)).2.2.2.2;show 0<=h.ties.getD i 0/\h.ties.getD i 0<_;omega
  zE:=z.e.sz,zI:=z.i.small,zS:=z.s.small
  zT:=λi=>by rw[hT];exact (mT i).small
  zM:=λi=>by rw[hE];exact (mE i).small
  pE:=jC se.2,pI:=f.i.shares,pS:=f.s.shares
  pT:=λi=>by rw[hT];exact (sT i).shares
  pM:=λi=>by rw[hE];exact (sE i).shares }
theorem av1 {α:Type}{l:List α}{x:α}(d:α)(h:x ∈ l):∃ i,i<l.length/\x=l.getD i d:=by
 obtain⟨i,hi,e⟩:=List.getElem_of_mem h;exact⟨i,hi,by rw[getD_lt hi];exact e.symm⟩
theorem RM.Fm.uY {h:RM}(f:h.Fm)(g:h.Rng)(z:h.Sz):vRM h=Go.AL.uY (hm h):=by
 obtain⟨⟨g1,g2⟩,g3,g4⟩:=g;have f5:=f.lt;have f6:=f.lm;have e1:dRs h.ini=o9 (hm h).ini:=X8 f.i z.i;have e2:dRs h.stop=o9 (hm h).stop:=X8 f.s z.s;have e3:af5 h.trans=J4 (hm h).trans:=ZA (λx hx=>by obtain⟨i,hi,rfl⟩:=av1 [] hx;exact (f.row i (by omega)).2.2.1) z.t
 have e4:af5 h.emit=J4 (hm h).emit:=ZA (λx hx=>by obtain⟨i,hi,rfl⟩:=av1 [] hx;exact (f.row i (by omega)).2.2.2.1) z.m
 have se:=f.e;unfold KT at se;rw[Bool.and_eq_true] at se;have e5:eU (hm h).empty=h.empty:=aM7 z.e.ok se.1;have e6:((hm h).sym:Int)=h.sym:=by show ((h.sym.toNat:Nat):Int)=_;omega
 have e7:((hm h).st:Int)=h.st:=by show ((h.st.toNat:Nat):Int)=_;omega
 unfold vRM Go.AL.uY;rw[e1,e2,e3,e4,e5,e6,e7];rfl
structure WQ (h:HM) (s:List Int):Prop where
 len:s.length=h.st
 rng:∀ k,s.getD k 0=0 \/ s.getD k 0=1 \/ s.getD k 0=2
 two:∃ (r:Nat->Nat) (T:Nat),∀ k,k<h.st->s.getD k 0=2->r k<T/\∀ j,j<h.st->h.silent.getD j false=true->0<(h.trans.getD k []).getD j 0->s.getD j 0=2/\r j<r k
def Abv (h:HM)(s:List Int)(i:Nat):Prop:=∀ r,h.X9 r->∀ k,k<h.st->s.getD k 0=1->r i<r k
structure Tz (h:HM) (s:List Int) (i:Nat) (s2:List Int) (ok:Bool):Prop where
 len:s2.length=h.st
 non:∀ k,s.getD k 0≠0->s2.getD k 0≠0
 good:ok=true->WQ h s2/\(∀ k,s2.getD k 0=1 ↔ s.getD k 0=1)/\(∀ k,s.getD k 0=2->s2.getD k 0=2)/\(h.silent.getD i false=true->s2.getD i 0=2)
 bad:ok=false->¬ h.ql
structure Mid (h:HM) (s:List Int) (i:Nat) (s2:List Int) (j:Nat):Prop where
 dfs:WQ h s2
 non:∀ k,s.getD k 0≠0->s2.getD k 0≠0
 one:∀ k,s2.getD k 0=1 ↔ k=i \/ s.getD k 0=1
 two:∀ k,s.getD k 0=2->s2.getD k 0=2
 done:∀ q,q<j->q<h.st->h.silent.getD q false=true->0<(h.trans.getD i []).getD q 0->s2.getD q 0=2
def oZ (h:HM)(s:List Int):Nat:=cnt (λk=>s.getD k 0 == 0) h.st
theorem o5 {α:Type}{l:List α}{i:Nat}{x d:α}(hi:i<l.length)(k:Nat):(l.set i x).getD k d=if k=i then x else l.getD k d:=by
 rw[iZ,List.getElem?_set];by_cases e:i=k
 .subst e;rw[if_pos rfl,if_pos hi,if_pos rfl];rfl
 .rw[if_neg e,if_neg (λx=>e x.symm),iZ]
theorem aI0 {h:HM}{s s2:List Int}(hn:∀ k,s.getD k 0≠0->s2.getD k 0≠0):oZ h s2<=oZ h s :=
 cnt_le λk _ hk=>by
  rw[beq_iff_eq] at hk ⊢;exact Classical.byContradiction λe=>hn k e hk
theorem V3 {h:HM}{s:List Int}{i:Nat}(hl:s.length=h.st)(hi:i<h.st)(h0:s.getD i 0=0):oZ h (s.set i 1)<oZ h s:=by
 refine cnt_lt (λk hk e=>?_) ⟨i,hi,?_,?_⟩
 .rw[o5 (by omega)] at e
  split at e
  .cases e
  .exact e
 .rw[o5 (by omega),if_pos rfl];rfl
 .rw[h0];rfl
theorem Mid.oZ {h:HM}{s s2:List Int}{i j:Nat}(m:Mid h s i s2 j)(h0:s.getD i 0=0)(hi:i<h.st):Go.AL.oZ h s2<Go.AL.oZ h s:=by
 refine cnt_lt (λk _ hk=>?_) ⟨i,hi,?_,by rw[h0];rfl⟩
 .rw[beq_iff_eq] at hk ⊢;exact Classical.byContradiction λe=>m.non k e hk
 .rw[(m.one i).2 (.inl rfl)];rfl
theorem Mid.start {h:HM}{s:List Int}{i:Nat}(d:WQ h s)(hi:i<h.st)(h0:s.getD i 0=0):Mid h s i (s.set i 1) 0:=by
 have hl:=d.len;have e:∀ k,(s.set i 1).getD k 0=if k=i then 1 else s.getD k 0:=o5 (by omega)
 refine⟨⟨by rw[List.length_set];exact hl,λk=>?_,?_⟩,λk hk=>?_,λk=>?_,λk hk=>?_,λq hq=>by omega⟩
 .rw[e k];split
  .exact .inr (.inl rfl)
  .exact d.rng k
 .obtain⟨r,T,hr⟩:=d.two;refine⟨r,T,λk hk h2=>?_⟩;rw[e k] at h2
  split at h2
  .cases h2
  .obtain⟨a,b⟩:=hr k hk h2;refine⟨a,λj hj sj pj=>?_⟩;obtain⟨c1,c2⟩:=b j hj sj pj;refine⟨?_,c2⟩;rw[e j,if_neg (λx=>by rw[x,h0] at c1;cases c1)]
   exact c1
 .rw[e k];split
  .decide
  .exact hk
 .rw[e k];split
  .rename_i x;simp[x]
  .rename_i x;simp[x]
 .rw[e k,if_neg (λx=>by rw[x,h0] at hk;cases hk)];exact hk
theorem Mid.abv {h:HM}{s s2:List Int}{i j q:Nat}(m:Mid h s i s2 q)(ha:Abv h s i)(hi:i<h.st)(si:h.silent.getD i false=true)(hj:j<h.st)(sj:h.silent.getD j false=true)(hp:0<(h.trans.getD i []).getD j 0):Abv h s2 j:=λr hr k hk h1=>by
 have h2:=hr i j hi hj si sj hp;rcases (m.one k).1 h1 with rfl|h3
 .exact h2
 .exact Nat.lt_trans h2 (ha r hr k hk h3)
theorem Mid.step {h:HM}{s s2 s3:List Int}{i j:Nat}(m:Mid h s i s2 j)(v:Tz h s2 j s3 true):Mid h s i s3 (j+1):=by
 obtain⟨d,o,t,w⟩:=v.good rfl;refine⟨d,λk hk=>v.non k (m.non k hk),λk=>(o k).trans (m.one k),λk hk=>t k (m.two k hk),λq hq hqs sq pq=>?_⟩;rcases Nat.lt_or_ge q j with x|x
 .exact t q (m.done q x hqs sq pq)
 .obtain rfl:q=j:=by omega
  exact w sq
theorem Mid.skip {h:HM}{s s2:List Int}{i j:Nat}(m:Mid h s i s2 j)(hp:¬ 0<(h.trans.getD i []).getD j 0):Mid h s i s2 (j+1) :=
 ⟨m.dfs,m.non,m.one,m.two,λq hq hqs sq pq=>by
  rcases Nat.lt_or_ge q j with x|x
  .exact m.done q x hqs sq pq
  .obtain rfl:q=j:=by omega
   exact absurd pq hp⟩
theorem Mid.fin {h:HM}{s s2:List Int}{i:Nat}(m:Mid h s i s2 h.st)(hi:i<h.st)(h0:s.getD i 0=0):Tz h s i (s2.set i 2) true:=by
 have hl:=m.dfs.len;have e:∀ k,(s2.set i 2).getD k 0=if k=i then 2 else s2.getD k 0:=o5 (by omega)
 refine⟨by rw[List.length_set];exact hl,λk hk=>?_,λ_=>⟨⟨by rw[List.length_set];exact hl,λk=>?_,?_⟩,λk=>?_,λk hk=>?_,λ_=>?_⟩,λx=>by cases x⟩
 .rw[e k];split
  .decide
  .exact m.non k hk
 .rw[e k];split
  .exact .inr (.inr rfl)
  .exact m.dfs.rng k
 .obtain⟨r,T,hr⟩:=m.dfs.two;have i1:s2.getD i 0=1:=(m.one i).2 (.inl rfl);refine⟨λk=>if k=i then T else r k,T+1,λk hk h2=>?_⟩
  rw[e k] at h2;by_cases x:k=i
  .subst x;refine⟨by simp,λj hj sj pj=>?_⟩
   have hj2:=m.done j hj hj sj pj;have hne:j≠k:=λy=>by rw[y,i1] at hj2;cases hj2
   refine⟨by rw[e j,if_neg hne];exact hj2,?_⟩
   simp only[if_neg hne,if_pos];exact (hr j hj hj2).1
  .rw[if_neg x] at h2;obtain⟨a,b⟩:=hr k hk h2;refine⟨by simp only[if_neg x];omega,λj hj sj pj=>?_⟩
   obtain⟨c1,c2⟩:=b j hj sj pj;have hne:j≠i:=λy=>by rw[y,i1] at c1;cases c1
   exact⟨by rw[e j,if_neg hne];exact c1,by simp only[if_neg hne,if_neg x];exact c2⟩
 .rw[e k];by_cases x:k=i
  .subst x;rw[if_pos rfl,h0];exact⟨λy=>absurd y (by decide),λy=>absurd y (by decide)⟩
  .rw[if_neg x,m.one k];exact⟨λy=>y.resolve_left x,.inr⟩
 .rw[e k];split
  .rfl
  .exact m.two k hk
 .rw[e i,if_pos rfl]
theorem Tz.same {h:HM}{s:List Int}{i:Nat}{ok:Bool}(d:WQ h s)(hg:ok=true->h.silent.getD i false=true->s.getD i 0=2)(hb:ok=false->¬ h.ql):Tz h s i s ok :=
 ⟨d.len,λ_ hk=>hk,λe=>⟨d,λ_=>Iff.rfl,λ_ hk=>hk,hg e⟩,hb⟩
theorem Tz.fail {h:HM}{s s2 s3:List Int}{i j q:Nat}{ok ok2:Bool}(m:Mid h s i s2 q)(v:Tz h s2 j s3 ok)(e:ok=false)(e2:ok2=false):Tz h s i s3 ok2 :=
 ⟨v.len,λk hk=>v.non k (m.non k hk),λx=>(by rw[e2] at x;cases x),λ_=>v.bad e⟩
theorem V4 {h:HM}{s:List Int}{i:Nat}(hl:s.length=h.st)(hi:i<h.st):oZ h (s.set i 2)<=oZ h s:=aI0 λk hk=>by
 rw[o5 (by omega)];split
 .decide
 .exact hk
theorem Abv.bad {h:HM}{s:List Int}{i:Nat}(ha:Abv h s i)(hi:i<h.st)(h1:s.getD i 0=1):¬ h.ql:=λ⟨r,hr⟩=>Nat.lt_irrefl _ (ha r hr i hi h1)
theorem WQ.zero (h:HM):WQ h (List.replicate h.st 0):=⟨List.length_replicate,λk=>.inl (by rw[iZ,List.getElem?_replicate];split <;> rfl),⟨λ_=>0,0,λk _ h2=>by
 rw[iZ,List.getElem?_replicate] at h2
 split at h2 <;> cases h2⟩⟩
theorem WQ.Ya {h:HM}{s:List Int}(d:WQ h s)(ha:∀ k,k<h.st->h.silent.getD k false=true->s.getD k 0=2):h.ql:=by
 obtain⟨r,T,hr⟩:=d.two;exact⟨r,λi j hi hj si sj pj=>((hr i hi (ha i hi si)).2 j hj sj pj).2⟩
