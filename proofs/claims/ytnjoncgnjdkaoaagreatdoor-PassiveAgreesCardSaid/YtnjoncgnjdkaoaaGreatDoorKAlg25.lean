/-
  AL, part 25: a region whose order is open, by all of its orders.
-/
import Derived.Test.YtnjoncgnjdkaoaaGreatDoorKNuma
import Derived.Test.YtnjoncgnjdkaoaaGreatDoorKAlgd
set_option linter.unusedVariables false
set_option linter.unusedSimpArgs false
namespace Go.AL
open Go Go.BigFrame
abbrev vQ (q:Rat):V:=tN (fZ q)
abbrev dQ (q:Rat):D:=bk8 (fZ q)
abbrev iQ (l:List Rat):D:=.sl (l.map dQ)
abbrev vz (l:List (List Rat)):D:=.sl (l.map iQ)
theorem XI:vQ 0=.ag [.d (dB false),.d (aH []),.d (aH [])]:=by unfold vQ;rw[tV]
theorem a00 {neg:Bool}{n d:Nat}(hn:n≠0)(hd:d≠0):vQ (fr neg n d)=.ag [.d (dB neg),.d (aH (lim (n / Nat.gcd n d))),.d (aH (if d / Nat.gcd n d=1 then [] else lim (d / Nat.gcd n d)))]:=by unfold vQ;rw[QT hn hd]
theorem aO3 {r:Raw}(h:fZ r.q=r):vQ r.q=.ag [.d (dB r.neg),.d (aH r.num),.d (aH r.den)]:=by unfold vQ;rw[h]
theorem ag0:bG (.ag [.d (dB false),.mt,.mt]) (vQ 0):=by
 unfold vQ;rw[tV];exact bG.ag (.cons vR (.cons bG.mt (.cons bG.mt .nil)))
theorem Be:VCs [.d (dB false),.mt,.mt] (dQ 0).cells:=by
 unfold dQ;rw[tV];exact .cons (VC.d _) (.cons VC.mt (.cons VC.mt .nil))
def Small (B:Nat)(l:List Rat):Prop:=∀ q,q ∈ l->sz q<=B
theorem Small.get {B:Nat}{l:List Rat}(h:Small B l)(hB:1<=B)(i:Nat):sz (l.getD i 0)<=B:=by
 rw[ig];cases hg:l[i]? with
 | none=>rw[Option.getD_none,gm];exact hB
 | some q=>exact h q (List.mem_of_getElem? hg)
theorem Small.nil {B:Nat}:Small B []:=λ_ h=>by simp at h
theorem Small.app {B:Nat}{l m:List Rat}(h:Small B l)(k:Small B m):Small B (l++m):=λq hq=>(ul hq).elim (h q) (k q)
theorem Small.one {B:Nat}{q:Rat}(h:sz q<=B):Small B [q]:=λx hx=>by rw[lW hx];exact h
theorem Small.cons {B:Nat}{q:Rat}{l:List Rat}(h:sz q<=B)(k:Small B l):Small B (q::l):=λx hx=>by
 rcases List.mem_cons.1 hx with rfl|hx
 .exact h
 .exact k x hx
theorem Small.take {B:Nat}{l:List Rat}(h:Small B l)(i:Nat):Small B (l.take i):=λq hq=>h q (List.mem_of_mem_take hq)
theorem Small.mono {B C:Nat}{l:List Rat}(h:Small B l)(hB:B<=C):Small C l:=λq hq=>Nat.le_trans (h q hq) hB
section
variable {P:Program}{m:Nat}{ops:Array Oper}{K:S->Prop}{r:List Oper}{s:S}{dst:Option Nat}{ty:TypeId}{pos:String}{after:Array Edge}{op:Op}
theorem bJ {f:Operand}{args:Array Operand}{ats:Array TypeId}{nR:Nat}{caps pR:List V}{res:V}(hf:s.ev f=.fn nR caps)(ha:fH (args.toList.map s.ev++caps) pR)(hs:aj P nR pR res)(h:OL P m ops K r (s.put dst res)) :
  OL P m ops K (⟨dst,.call { callee:=.value f,args:=args,argTypes:=ats },ty,pos,after,none⟩:: r) s:=cl hs hf ha h
end
structure HM where
 sym:Nat
 st:Nat
 empty:Rat
 ini:List Rat
 trans:List (List Rat)
 stop:List Rat
 emit:List (List Rat)
 silent:List Bool
 ties:List Int
abbrev HM.cells (h:HM):List D:=[dI h.sym,dI h.st,dB (fZ h.empty).neg,aH (fZ h.empty).num,aH (fZ h.empty).den,iQ h.ini,vz h.trans,iQ h.stop,vz h.emit,bools h.silent,ints h.ties]
structure HM.XJ (b B:Nat) (h:HM):Prop where
 Gi:1<=h.sym
 bk9:h.sym<=32
 st0:1<=h.st
 st1:h.st<=12
 ini:h.ini.length=h.st
 trans:h.trans.length=h.st
 bl0:∀ i,i<h.st->(h.trans.getD i []).length=h.st
 stop:h.stop.length=h.st
 emit:h.emit.length=h.st
 bl1:∀ i,i<h.st->(h.emit.getD i []).length=h.sym
 silent:h.silent=List.replicate h.st false
 ties:h.ties.length=h.st
 tie:∀ i,i<h.st->0<=h.ties.getD i 0/\h.ties.getD i 0<h.st
 b1:1<=B
 bB:B<=b
 zE:sz h.empty<=B
 zI:Small B h.ini
 zS:Small B h.stop
 zT:∀ i,Small B (h.trans.getD i [])
 zM:∀ i,Small B (h.emit.getD i [])
def ag1 (l:List Rat):Rat:=l.foldl (· + ·) 0
def Tn (q:Rat):Prop:=0<=q/\q<=1
instance (q:Rat):Decidable (Tn q):=inferInstanceAs (Decidable (_/\_))
def Eb (l:List Rat):Prop:=∀ q,q ∈ l->Tn q
structure HM.O4 (b B:Nat) (h:HM):Prop where
 form:HM.XJ b B h
 pE:Tn h.empty
 pI:Eb h.ini
 pS:Eb h.stop
 pT:∀ i,Eb (h.trans.getD i [])
 pM:∀ i,Eb (h.emit.getD i [])
 sI:ag1 (h.ini++[h.empty])=1
 sT:∀ i,i<h.st->ag1 (h.trans.getD i []++[h.stop.getD i 0])=1
 sM:∀ i,i<h.st->ag1 (h.emit.getD i [])=1
 tied:∀ i j,i<h.st->j<i->h.ties.getD i 0=h.ties.getD j 0->h.emit.getD i []=h.emit.getD j []
abbrev HM.Good (B:Nat)(h:HM):Prop:=HM.O4 1024 B h
abbrev HM.a01 (B:Nat)(h:HM):Prop:=HM.O4 1048576 B h
theorem HM.XJ.up {b c B:Nat}{h:HM}(f:HM.XJ b B h)(k:b<=c):HM.XJ c B h:=⟨f.Gi,f.bk9,f.st0,f.st1,f.ini,f.trans,f.bl0,f.stop,f.emit,f.bl1,f.silent,f.ties,f.tie,f.b1,Nat.le_trans f.bB k,f.zE,f.zI,f.zS,f.zT,f.zM⟩
theorem HM.O4.up {b c B:Nat}{h:HM}(g:HM.O4 b B h)(k:b<=c):HM.O4 c B h:=⟨g.form.up k,g.pE,g.pI,g.pS,g.pT,g.pM,g.sI,g.sT,g.sM,g.tied⟩
theorem HM.O4.w {B:Nat}{h:HM}(g:h.Good B):h.a01 B:=g.up (by decide)
theorem Eb.get {l:List Rat}(h:Eb l)(i:Nat):Tn (l.getD i 0):=by
 rw[ig];cases hg:l[i]? with
 | none=>rw[Option.getD_none];exact⟨by decide,by decide⟩
 | some q=>exact h q (List.mem_of_getElem? hg)
def Tq (v:Int):Int:=if v<0 then -1 else if 0<v then 1 else 0
theorem ay9 {a b:Nat}(h:(lim a).length≠(lim b).length):Tq (((lim a).length:Int)-((lim b).length:Int))=DU a b:=by
 unfold Tq DU;rcases Nat.lt_or_ge (lim a).length (lim b).length with hl|hl
 .have:a<b:=by
   rcases Nat.lt_or_ge a b with h1|h1
   .exact h1
   .have:=sZ h1;omega
  rw[if_pos (by omega),if_pos this]
 .have:¬ a<b:=λe=>by have:=sZ (Nat.le_of_lt e);omega
  have h2:a≠b:=λe=>h (by rw[e])
  rw[if_neg (by omega),if_pos (by omega),if_neg this,if_neg h2]
theorem az0 {a b:Nat}{x y:Nat}(h:DU a b=if x<y then -1 else 1)(hne:x≠y):Tq ((x:Int)-(y:Int))=DU a b:=by
 rw[h];unfold Tq
 split <;> split <;> (try split) <;> omega
theorem Zb {o k s x y:Nat}(hk:0<k)(hx:x<k)(hy:y<k)(h:o+k*4294967296*s=x+y):o=x+y:=by
 rcases Nat.eq_zero_or_pos s with hs|hs
 .subst hs;rw[Nat.mul_zero] at h;exact h
 .have:=Nat.le_mul_of_pos_right (k*4294967296) hs;generalize k*4294967296*s=m at h this;omega
theorem ag2 {A C out:List Nat}{s i:Nat}(hA:jb A)(hC:jb C)(hi:i=max A.length C.length+1)(hl:out.length=i)(h:val out+Bp i*s=val (A.take i)+val (C.take i)):val out=val A+val C:=by
 rw[tK (A:=A) (by omega),tK (A:=C) (by omega)] at h
 have h1:=yY hA;have h2:=yY hC;have h3:Bp A.length<=Bp (max A.length C.length):=Nat.pow_le_pow_right (by decide) (by omega)
 have h4:Bp C.length<=Bp (max A.length C.length):=Nat.pow_le_pow_right (by decide) (by omega)
 rw[hi,kQ] at h;exact Zb (wM _) (Nat.lt_of_lt_of_le h1 h3) (Nat.lt_of_lt_of_le h2 h4) h
theorem az1 {A C out:List Nat}{i s:Nat}(hA:jb A)(hi:i+C.length<out.length)(h0:out.getD (i+C.length) 0=0)
  (h:val out+s*Bp (i+C.length)=val (A.take i)*val C+A.getD i 0*Bp i*val (C.take C.length)):val (out.set (i+C.length) s)=val (A.take (i+1))*val C:=by
 have h1:=QN hi s;rw[h0,Nat.zero_mul,Nat.add_zero] at h1;rw[h1];rw[h,List.take_length,fF hA,Nat.add_mul,Nat.mul_comm (Bp i)]
theorem ag3 {out:List Nat}{i k y:Nat}(h:∀ j,k<=j->out.getD j 0=0)(hi:i<k):∀ j,k<=j->(out.set i y).getD j 0=0:=λj hj=>by
 rw[getD_set_ne (by omega)];exact h j hj
theorem V4 (n j:Nat):(List.replicate n 0).getD j 0=0:=by
 rw[ig,List.getElem?_replicate]
 split <;> rfl
theorem aO4 {A:List Nat}(hA:jb A)(i:Nat):A.getD (i / 32) 0 / 2 ^ (i % 32) % 2=val A / 2 ^ i % 2:=by
 rw[getD_eq hA,wP];have e:2 ^ i=2 ^ (32*(i / 32))*2 ^ (i % 32):=by rw[<- Nat.pow_add];congr 1;omega
 rw[e,<- Nat.div_div_eq_div_mul];generalize val A / 2 ^ (32*(i / 32))=z;have hs:i % 32<32:=Nat.mod_lt _ (by decide)
 generalize i % 32=s at hs;have hp:(4294967296:Nat)=2 ^ s*(2*2 ^ (31-s)):=by rw[<- Nat.pow_succ',<- Nat.pow_add,show s+(31-s).succ=32 by omega]
 have key:z % 4294967296 / 2 ^ s=z / 2 ^ s % (2*2 ^ (31-s)):=by rw[hp,Nat.mod_mul_right_div_self]
 rw[key,Nat.mod_mul_right_mod]
theorem Zc (a i:Nat):a / 2 ^ i=2*(a / 2 ^ (i+1))+a / 2 ^ i % 2:=by
 rw[Nat.pow_succ,<- Nat.div_div_eq_div_mul];omega
theorem ag4 {a b Q r i:Nat}(hb:0<b)(h:a / 2 ^ (i+1)=Q*b+r)(hr:r<b) :
  (r+r+a / 2 ^ i % 2<b->a / 2 ^ i=(2*Q)*b+(r+r+a / 2 ^ i % 2))/\(b<=r+r+a / 2 ^ i % 2->a / 2 ^ i=(2*Q+1)*b+(r+r+a / 2 ^ i % 2-b)/\r+r+a / 2 ^ i % 2-b<b):=by
 have h1:=Zc a i;have h2:a / 2 ^ i % 2<2:=Nat.mod_lt _ (by decide)
 generalize a / 2 ^ i % 2=t at *;have e1:2*Q*b=2*(Q*b):=Nat.mul_assoc ..;have e2:(2*Q+1)*b=2*(Q*b)+b:=by rw[Nat.add_mul,e1,Nat.one_mul]
 rw[e1,e2];constructor
 .intro h3;omega
 .intro h3;omega
theorem ag5 {q:List Nat}{Q i:Nat}(hq:jb q)(h:val q=Q*2 ^ (i+1)):∃ z,q.getD (i / 32) 0=z*2 ^ (i % 32+1):=by
 rw[getD_eq hq,wP,h];have hs:i % 32<32:=Nat.mod_lt _ (by decide)
 have e:2 ^ (i+1)=2 ^ (i % 32+1)*2 ^ (32*(i / 32)):=by rw[<- Nat.pow_add];congr 1;omega
 rw[e,<- Nat.mul_assoc,Nat.mul_div_cancel _ (Nat.pow_pos (by decide))]
 generalize i % 32=s at hs;have hp:(4294967296:Nat)=2 ^ (s+1)*2 ^ (31-s):=by rw[<- Nat.pow_add,show s+1+(31-s)=32 by omega]
 rw[hp,Nat.mul_comm Q,Nat.mul_mod_mul_left,Nat.mul_comm];exact⟨_,rfl⟩
theorem or_bit {z s:Nat}:z*2 ^ (s+1) ||| 2 ^ s=z*2 ^ (s+1)+2 ^ s:=by
 rw[Nat.mul_comm,<- Nat.two_pow_add_eq_or_of_lt (Nat.pow_lt_pow_right (by decide) (by omega))]
theorem az2 {q:List Nat}{Q i:Nat}(hl:i / 32<q.length)(hq:jb q)(h:val q=Q*2 ^ (i+1)) :
  val (q.set (i / 32) (q.getD (i / 32) 0 ||| 2 ^ (i % 32)))=(2*Q+1)*2 ^ i/\jb (q.set (i / 32) (q.getD (i / 32) 0 ||| 2 ^ (i % 32))):=by
 obtain⟨z,hz⟩:=ag5 hq h;have hs:i % 32<32:=Nat.mod_lt _ (by decide)
 have hb:2 ^ (i % 32)<2 ^ 32:=Nat.pow_lt_pow_right (by decide) hs
 have hlt:q.getD (i / 32) 0 ||| 2 ^ (i % 32)<4294967296:=Nat.or_lt_two_pow (n:=32) (hq.getD _) hb
 refine⟨?_,hq.set _ hlt⟩;have h1:=QN hl (q.getD (i / 32) 0 ||| 2 ^ (i % 32))
 have e:q.getD (i / 32) 0 ||| 2 ^ (i % 32)=q.getD (i / 32) 0+2 ^ (i % 32):=by rw[hz,or_bit]
 rw[e] at h1 ⊢;rw[Nat.add_mul,h] at h1;have e2:2 ^ (i % 32)*Bp (i / 32)=2 ^ i:=by rw[wP,<- Nat.pow_add];congr 1;omega
 rw[e2] at h1;have e3:(2*Q+1)*2 ^ i=Q*2 ^ (i+1)+2 ^ i:=by rw[Nat.add_mul,Nat.one_mul,Nat.pow_succ,Nat.mul_comm 2 Q,Nat.mul_assoc,Nat.mul_comm 2 (2 ^ i)]
 rw[e3];omega
theorem Zd (a:Nat):a / 2 ^ (32*(lim a).length)=0:=Nat.div_eq_of_lt (by rw[<- wP];exact qZ a)
theorem az3 {a b Q r:Nat}(h:a / 2 ^ 0=Q*b+r)(hr:r<b):Q=a / b/\r=a % b:=by
 have h1:=(Nat.div_mod_unique (a:=a) (c:=r) (d:=Q) (b:=b) (by omega)).2 ⟨by rw[Nat.mul_comm b];simp at h;omega,hr⟩
 exact⟨h1.1.symm,h1.2.symm⟩
theorem XK {A:List Nat}(hA:jb A):(A=[1]) ↔ (A.length=1/\A.getD 0 0=1):=by
 constructor
 .intro h;subst h;exact⟨rfl,rfl⟩
 .intro ⟨h1,h2⟩
  match A,h1,h2 with
  | [x],_,h2=>simp at h2;rw[h2]
theorem Gj {n:Nat}:(lim n=[1]) ↔ n=1:=by
 constructor
 .intro h;have:=bC n;rw[h] at this;simp[jf,je] at this;omega
 .intro h;subst h;exact wO (by decide) (by decide)
section
variable {α:Type}
def Hl (p:α->Bool)(l:List α):Int:=if l.any p then (l.findIdx p:Int) else -1
theorem getD_lt {l:List α}{i:Nat}(h:i<l.length)(d:α):l.getD i d=l[i]:=by rw[ig,lu h];rfl
theorem getD_mem {l:List α}{i:Nat}(h:i<l.length)(d:α):l.getD i d ∈ l:=by rw[getD_lt h];exact List.getElem_mem h
theorem ag6 {l:List α}{x:α}(h:x ∈ l)(d:α):∃ i,i<l.length/\l.getD i d=x:=by
 obtain⟨i,hi,e⟩:=List.mem_iff_getElem.1 h;exact⟨i,hi,by rw[getD_lt hi];exact e⟩
theorem CO {p:α->Bool}{l:List α}{i:Nat}(hi:i<l.length)(d:α)(hp:p (l.getD i d)=true)(hb:∀ j,j<i->p (l.getD j d)=false):Hl p l=i:=by
 unfold Hl;rw[if_pos (List.any_eq_true.2 ⟨_,getD_mem hi d,hp⟩)];have:l.findIdx p=i:=(List.findIdx_eq hi).2 ⟨by rw[getD_lt hi] at hp;exact hp,λj hj=>by have:=hb j hj;rw[getD_lt (by omega)] at this;exact this⟩
 rw[this]
theorem ER {p:α->Bool}{l:List α}(d:α)(hb:∀ j,j<l.length->p (l.getD j d)=false):Hl p l = -1:=by
 unfold Hl;rw[if_neg];intro h;obtain⟨x,hx,hp⟩:=List.any_eq_true.1 h;obtain⟨i,hi,rfl⟩:=ag6 hx d;rw[hb i hi] at hp;cases hp
theorem Tt (p:α->Bool)(l:List α):decide (0<=Hl p l)=l.any p:=by
 unfold Hl
 split
 .rename_i h;rw[h];simp
 .rename_i h;rw[Bool.not_eq_true] at h;rw[h];rfl
theorem any_false {p:α->Bool}{l:List α}(h:∀ x,x ∈ l->p x=false):l.any p=false:=by
 rw[List.any_eq_false];intro x hx;rw[h x hx];decide
end
theorem LM:sz 1=1:=by
 unfold sz;rw[show (1:Rat).num.natAbs=1 from rfl,show (1:Rat).den=1 from rfl,wO (by decide) (by decide)]
 rfl
abbrev LP (q:Rat):List V:=[.d (dB (fZ q).neg),.d (aH (fZ q).num),.d (aH (fZ q).den)]
theorem aO5:fH [.d (dB false),.mt,.mt] (LP 0):=by
 unfold LP;rw[tV];exact .cons vR (.cons bG.mt (.cons bG.mt .nil))
theorem QX {l:List Rat}:∀ y,y ∈ l.map dQ->y.cells.length=3:=λy hy=>by obtain⟨a,_,rfl⟩:=mM hy;rfl
theorem xP {q:Rat}:VD (vQ q) (dQ q):=VD.ag (.cons (VC.d _) (.cons (VC.d _) (.cons (VC.d _) .nil)))
theorem yA {α:Type}{l m:List α}(hl:l.length=m.length)(d:α)(h:∀ j,j<l.length->l.getD j d=m.getD j d):l=m:=by
 refine List.ext_getElem hl λi h1 h2=>?_;have:=h i h1
 rwa [getD_lt h1,getD_lt h2] at this
def within (v m:Int):Int:=if m<1 then 0 else v % m
theorem kR {v m:Int}(h:1<=m):0<=within v m/\within v m<m:=by
 unfold within;rw[if_neg (by omega)]
 exact⟨Int.emod_nonneg _ (by omega),Int.emod_lt_of_pos _ (by omega)⟩
theorem V5 {v m:Int}(h:1<=m)(h0:¬ v.tmod m<0):v.tmod m=within v m:=by
 unfold within;rw[if_neg (by omega)]
 have h1:=Int.tmod_eq_emod (a:=v) (b:=m);have h2:=Int.emod_nonneg v (show m≠0 by omega)
 have h3:=Int.emod_lt_of_pos v (show 0<m by omega)
 split at h1 <;> omega
theorem V6 {v m:Int}(h:1<=m)(h0:v.tmod m<0):v.tmod m+m=within v m:=by
 unfold within;rw[if_neg (by omega)]
 have h1:=Int.tmod_eq_emod (a:=v) (b:=m);have h2:=Int.emod_nonneg v (show m≠0 by omega)
 have h3:=Int.emod_lt_of_pos v (show 0<m by omega)
 split at h1 <;> omega
theorem tmod_lt {v m:Int}(h:1<=m):-m<v.tmod m/\v.tmod m<m:=by
 have h1:=Int.tmod_eq_emod (a:=v) (b:=m);have h2:=Int.emod_nonneg v (show m≠0 by omega)
 have h3:=Int.emod_lt_of_pos v (show 0<m by omega)
 split at h1
 .omega
 .rename_i hc;have:v % m≠0:=λe=>hc (.inr (Int.dvd_of_emod_eq_zero e));omega
def wF (L:List Int)(a:Nat)(m:Int):Int:=if L.length<=a then 0 else within (L.getD a 0) m
def jF (L:List Int)(a:Nat):Nat:=if L.length<=a then a else a+1
theorem kV {L:List Int}{a:Nat}{m:Int}(h:1<=m):0<=wF L a m/\wF L a m<m:=by
 unfold wF
 split
 .omega
 .exact kR h
theorem aO6 {x s:Int}(h0:x.natAbs<4294967296)(h1:s.natAbs<4294967296)(hs:s≠0):sz ((x:Rat) / (s:Rat))<=1:=by
 rw[<- LG];exact O0 (by omega) (rQ h0) (rQ h1)
structure MS where
 trans:List (List Rat)
 stop:List Rat
 emit:List (List Rat)
 ties:List Int
 a:Nat
theorem Ai {α:Type}{l:List α}{d:α}{i:Nat}(h:l.length<=i):l.getD i d=d:=by
 rw[ig,List.getElem?_eq_none h];rfl
structure MS.OK (L:List Int) (st sym i:Nat) (m:MS):Prop where
 lt:m.trans.length=i
 ls:m.stop.length=i
 le:m.emit.length=i
 ll:m.ties.length=i
 rowT:∀ j,j<i->(m.trans.getD j []).length=st/\Eb (m.trans.getD j [])/\Small 1 (m.trans.getD j [])/\Tn (m.stop.getD j 0)/\sz (m.stop.getD j 0)<=1/\ag1 (m.trans.getD j []++[m.stop.getD j 0])=1
 by6:∀ j,j<i->(m.emit.getD j []).length=sym/\Eb (m.emit.getD j [])/\Small 1 (m.emit.getD j [])/\ag1 (m.emit.getD j [])=1
 tie:∀ j,j<i->0<=m.ties.getD j 0/\m.ties.getD j 0<=j/\m.emit.getD j []=m.emit.getD (m.ties.getD j 0).toNat []
 a:m.a<=L.length
theorem ru {i:Nat}{blk b:iE}{id:Nat}(h:mem1 i blk id=some b):id=i/\b=blk:=by
 unfold mem1 at h
 split at h
 .rename_i e;exact⟨e,by cases h;rfl⟩
 .cases h
theorem Bo (i:Nat)(blk:iE):mem1 i blk i=some blk:=by unfold mem1;rw[if_pos rfl]
theorem wI.FM {F:Hp}{i j:Nat}{blk:iE}{w:World}(h:wI F (mem1 j blk) w):wI F (mem1 i blk) w :=
 ⟨h.rM,λid b hb=>by obtain⟨_,rfl⟩:=ru hb;exact h.own j _ (Bo _ _),λid b k hb hk=>by obtain⟨_,rfl⟩:=ru hb;exact h.apart j _ k (Bo _ _) hk,
  λa b ba bb k ha hb _ _=>by rw[(ru ha).1,(ru hb).1]⟩
theorem jM.FM {i j:Nat}{blk:iE}{k:Nat}(h:jM (mem1 j blk) k):jM (mem1 i blk) k:=by
 obtain⟨id,b,hb,hk⟩:=h;obtain⟨_,rfl⟩:=ru hb;exact⟨i,_,Bo _ _,hk⟩
theorem eX.FM {P:Program}{f i j:Nat}{args pR:List V}{blk jE:iE}{res:V}(h:eX P f args (mem1 i blk) res (mem1 i jE))(ha:fH pR args):eX P f pR (mem1 j blk) res (mem1 j jE) :=
 ⟨h.1,λF w vals hS hv=>(h.2 F w vals hS.FM (qw hv ha)).mono λe w' ⟨v,F',he,hA,hs⟩ =>
  ⟨v,F',he,⟨hA.grow.mono λk hk=>hk.FM,hA.le,hA.gU.FM,λk a b=>(hA.new k a b).imp (λx=>x) jM.FM,λk hk=>(hA.kM k hk.FM).imp (λx=>x) jM.FM⟩,hs⟩⟩
def V.Vq (id b:Nat)(ds:List D):V->V
 | .ptr i b2 off=>if i=id then (if b2=b then .ref (ds.drop off) else .ptr i b2 off) else .ptr i b2 off
 | v=>v
def iE.Vq (id b:Nat)(ds:List D):iE->iE
 | .box x t cells=>.box x t (cells.map (V.Vq id b ds))
 | k=>k
theorem V.XL {F F':Hp}{id b:Nat}{ds:List D}(hle:Hp.le F F')(h:∀ off,dm F' (.pointer (some ⟨b,off,none⟩)) (.ref (ds.drop off))){u:Value}{v:V}(hv:dm F u v):dm F' u (v.Vq id b ds):=by
 cases v with
 | ptr i b2 off =>
  simp only[V.Vq]
  split
  .split
   .rename_i e;subst e;cases hv
    exact h off
   .exact hv.mono hle
  .exact hv.mono hle
 | _=>exact hv.mono hle
theorem V7 {F:Hp}{M:Mem}{w:World}(h:wI F M w){id b t:Nat}{cells:List V}{ds:List D}(hM:M id=some (.box b t cells))(hd:VCs cells ds) :
  ∃ F',Hp.le F F' /\ wI F' (upd M id none) w/\(∀ k,F k=none->F' k≠none->jM M k)/\∀ off,dm F' (.pointer (some ⟨b,off,none⟩)) (.ref (ds.drop off)):=by
 have hin:∀ id' jE k,(upd M id none) id' = some jE -> jE.owns k->id' ≠ id/\M id' = some jE:=λid' jE k hm hk=>by
  unfold upd at hm
  split at hm
  .cases hm
  .rename_i hne;exact⟨hne,hm⟩
 obtain⟨cs,hh,hl,h1,hr⟩:=h.own id _ hM;have hFb:F b=none:=h.apart id _ b hM rfl;have hle:Hp.le F (F.add b (.cells cs.toArray t (0,0))):=λk o hk=>by
  unfold Hp.add
  split
  .rename_i e';subst e';rw[hFb] at hk;cases hk
  .exact hk
 refine⟨F.add b (.cells cs.toArray t (0,0)),hle,⟨λk o hk=>?_,λid' jE hm=>?_,λid' jE k hm hk=>?_,λi j bi bj k hi hj ki kj=>?_⟩,λk hk hn=>?_,λoff=>.ref (us:=λk=>cs.getD (off+k) undef) λk d hd'=>?_⟩
 .unfold Hp.add at hk
  split at hk
  .rename_i e';subst e';cases hk;exact hh
  .exact h.rM k o hk
 .have hm':M id' = some jE:=by unfold upd at hm;split at hm;cases hm;exact hm
  exact (h.own id' jE hm').keep hle λk _=>rfl
 .obtain⟨hne,hm'⟩:=hin id' jE k hm hk;unfold Hp.add
  split
  .rename_i e';subst e';exact absurd (h.inj id' id _ _ _ hm' hM hk rfl) hne
  .exact h.apart id' jE k hm' hk
 .exact h.inj i j bi bj k (hin i bi k hi ki).2 (hin j bj k hj kj).2 ki kj
 .unfold Hp.add at hn
  split at hn
  .rename_i e';subst e';exact⟨id,_,hM,rfl⟩
  .exact absurd hk hn
 .rw[List.getElem?_drop] at hd';obtain⟨c,hc,hcd⟩:=hd.get (off+k) d hd';have hlt:off+k<cs.length:=by rw[hl];exact (List.getElem?_eq_some_iff.1 hc).1
  have hu:cs[off+k]? = some (cs.getD (off+k) undef):=by rw[ig,lu hlt];rfl
  refine⟨?_,h1 _ (List.mem_of_getElem? hu),((hcd F _ (hr (off+k) c _ hc hu)).1).mono hle⟩;rw[addr_add];simp only[DY,Hp.add,if_true,List.getElem?_toArray,hu];rfl
theorem AW.Bq {P:Program}{E:Env}{k:Code}{Q:Exit->S->Prop}{s:S}(id:Nat){b t:Nat}{cells:List V}(ds:List D)(hM:s.M id=some (.box b t cells))(hd:VCs cells ds)
  (h:AW P E k Q ⟨λt=>(s.ρ t).Vq id b ds,λj=>if j=id then none else (s.M j).map (iE.Vq id b ds)⟩):AW P E k Q s:=λF a w hr=>by
 obtain⟨F',h1,h2,h3,h4⟩:=V7 hr.gU hM hd;refine h F' a w ?_;have part:∀ j blk,(λj=>if j=id then none else (s.M j).map (iE.Vq id b ds)) j=some blk->∃ bl,(upd s.M id none) j=some bl/\s.M j=some bl/\blk=bl.Vq id b ds:=λj blk hj=>by
  simp only at hj
  split at hj
  .cases hj
  .rename_i hne;cases hq:s.M j with
   | none=>rw[hq] at hj;cases hj
   | some bl=>rw[hq] at hj;cases hj;exact⟨bl,by rw[upd_ne _ _ hne];exact hq,rfl,rfl⟩
 have ow:∀ (bl:iE) (k:Nat),(bl.Vq id b ds).owns k->bl.owns k:=λbl k hk=>by cases bl <;> exact hk
 refine⟨⟨h2.rM,λj blk hj=>?_,λj blk k hj ho=>?_,λi j bi bj k hi hj hoi hoj=>?_⟩,hr.grow,hr.f0.trans h1,λk p q=>?_,λj blk k hj ho=>?_,hr.size,hr.defers,λt=>V.XL h1 h4 (hr.slots t)⟩
 .obtain⟨bl,hb,hb0,rfl⟩:=part j blk hj;have ok:=h2.own j bl hb;cases bl with
  | row=>exact ok
  | pool=>exact ok
  | YK=>exact ok
  | box x t cells =>
   obtain⟨cs,g1,g2,g3,g4⟩:=hr.gU.own j _ hb0;refine⟨cs,g1,by simpa using g2,g3,λi v u hv hu=>?_⟩
   rw[List.getElem?_map] at hv;cases hq:cells[i]? with
   | none=>rw[hq] at hv;cases hv
   | some v0=>rw[hq] at hv;cases hv;exact V.XL h1 h4 (g4 i v0 u hq hu)
 .obtain⟨bl,hb,_,rfl⟩:=part j blk hj;exact h2.apart j bl k hb (ow bl k ho)
 .obtain⟨b1,hb1,_,rfl⟩:=part i bi hi;obtain⟨b2,hb2,_,rfl⟩:=part j bj hj;exact h2.inj i j b1 b2 k hb1 hb2 (ow _ _ hoi) (ow _ _ hoj)
 .cases hf:F k with
  | none =>
   obtain⟨i,bl,hi,ho⟩:=h3 k hf q;exact hr.kM i bl k hi ho
  | some o=>exact hr.yc k p (by rw[hf];simp)
 .obtain⟨bl,_,hb,rfl⟩:=part j blk hj;exact hr.kM j bl k hb (ow _ _ ho)
theorem Ec {id b off:Nat}{ds:List D}:V.Vq id b ds (.ptr id b off)=.ref (ds.drop off):=by simp[V.Vq]
section
variable {P:Program}
def OT (P:Program)(ops:Array Oper)(K:S->Prop):Nat->Array Bool->S->Prop
 | 0,listed,s=>Region.ready .any ops listed=[]/\K s
 | n+1,listed,s=>Region.ready .any ops listed≠[]/\∀ i,i ∈ Region.ready .any ops listed->∃ o,ops[i]? = some o/\OG P 0 ops o (OT P ops K n (listed.setIfInBounds i true)) s
theorem V8 {E:Env}{Q:Exit->S->Prop}{ops:Array Oper}(hd:∀ o,o ∈ ops.toList->oV E.n o.dst) :
  ∀ (fuel:Nat) (listed:Array Bool) (s:S) (F:Hp) (a:Act) (w:World),Run E F s a w->OT P ops (Q .normal) fuel listed s->wpAny P .any ops (Jv E Q) fuel listed a w:=by
 intro fuel
 induction fuel with
 | zero=>exact λlisted s F a w hr h=>⟨h.1,⟨F,s,hr,h.2⟩⟩
 | succ fuel ih =>
  intro listed s F a w hr h;refine⟨λe=>absurd e h.1,λi hi=>?_⟩;obtain⟨o,ho,hog⟩:=h.2 i hi;exact OG.sound ho hog hr (hd o (by
   obtain⟨h1,h2⟩:=Array.getElem?_eq_some_iff.1 ho;rw[<- h2];exact Array.getElem_mem_toList h1)) λF' s' a' w' hr' hk=>ih _ s' F' a' w' hr' hk
theorem AW.Tv {E:Env}{id:Nat}{ops:Array Oper}{Q:Exit->S->Prop}{s:S}(hf:P.follows .mixedOrders=true)(hd:xM E.n ops=true)
  (h:OT P ops (Q .normal) ops.size (Array.replicate ops.size false) s):AW P E (.region id ops true) Q s:=λF a w hr=>by
 have hrun:Run E F s a { w with drawn:=w.drawn+1 }:=⟨⟨hr.gU.rM,λid blk hm=>(hr.gU.own id blk hm).keep (Hp.le.refl F) λ_ _=>rfl,hr.gU.apart,hr.gU.inj⟩,⟨hr.grow.os,hr.grow.tape,hr.grow.output,hr.grow.size,hr.grow.block⟩,hr.f0,hr.yc,hr.kM,hr.size,hr.defers,hr.slots⟩
 exact wp_region_any hf (V8 (xM.spec hd) ops.size _ s F a _ hrun h)
def OTs (P:Program)(ops:Array Oper)(K:S->Prop)(n:Nat)(listed:Array Bool)(s:S):List Nat->List Oper->Prop
 | [],[]=>True
 | i::l,o::os=>OL P 0 ops (OT P ops K n (listed.setIfInBounds i true)) [o] s/\OTs P ops K n listed s l os
 | _,_=>False
theorem OTs.get {ops:Array Oper}{K:S->Prop}{n:Nat}{listed:Array Bool}{s:S}:∀ (l:List Nat) (os:List Oper),l.map (λi=>ops[i]?)=os.map some->OTs P ops K n listed s l os->∀ i,i ∈ l->∃ o,ops[i]? = some o/\OG P 0 ops o (OT P ops K n (listed.setIfInBounds i true)) s
 | [],_,_,_,i,hi=>by simp at hi
 | j::l,[],h,_,_,_=>by simp at h
 | j::l,o::os,h,ht,i,hi=>by
  simp only[List.map_cons,List.cons.injEq] at h;rcases List.mem_cons.1 hi with rfl|hi
  .exact⟨o,h.1,ht.1⟩
  .exact OTs.get l os h.2 ht.2 i hi
theorem OT.node {ops:Array Oper}{K:S->Prop}{n:Nat}{listed:Array Bool}{s:S}(l:List Nat){os:List Oper}(h:Region.ready .any ops listed=l)(hne:l≠[])(ho:l.map (λi=>ops[i]?)=os.map some)(ht:OTs P ops K n listed s l os):OT P ops K (n+1) listed s :=
 ⟨by rw[h];exact hne,λi hi=>OTs.get l os ho ht i (by rw[<- h];exact hi)⟩
theorem OT.leaf {ops:Array Oper}{K:S->Prop}{listed:Array Bool}{s:S}(h:Region.ready .any ops listed=[])(hk:K s):OT P ops K 0 listed s:=⟨h,hk⟩
