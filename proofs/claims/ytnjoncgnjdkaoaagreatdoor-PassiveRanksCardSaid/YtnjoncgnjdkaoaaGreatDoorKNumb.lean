/-
  N, part 6: numbers, lists and models as data of the program.
-/
import Derived.Test.YtnjoncgnjdkaoaaGreatDoorKNuma
import Derived.Test.YtnjoncgnjdkaoaaGreatDoorKAlgd
set_option linter.unusedVariables false
set_option linter.unusedSimpArgs false
namespace Go.AL
open Go Go.BigFrame
abbrev vQ (q:Rat):V:=qc (fP q)
abbrev dQ (q:Rat):D:=be0 (fP q)
abbrev iG (l:List Rat):D:=.sl (l.map dQ)
abbrev aU9 (l:List (List Rat)):D:=.sl (l.map iG)
theorem Xy:vQ 0=.ag [.d (dB false),.d (aF []),.d (aF [])]:=by unfold vQ;rw[rX]
theorem aV1 {neg:Bool}{n d:Nat}(hn:n≠0)(hd:d≠0):vQ (fr neg n d)=.ag [.d (dB neg),.d (aF (lim (n / Nat.gcd n d))),.d (aF (if d / Nat.gcd n d=1 then [] else lim (d / Nat.gcd n d)))]:=by unfold vQ;rw[QM hn hd]
theorem aK6 {r:Raw}(h:fP r.q=r):vQ r.q=.ag [.d (dB r.neg),.d (aF r.num),.d (aF r.den)]:=by unfold vQ;rw[h]
theorem aK7:bG (.ag [.d (dB false),.mt,.mt]) (vQ 0):=by
 unfold vQ;rw[rX];exact bG.ag (.cons vR (.cons bG.mt (.cons bG.mt .nil)))
theorem IC:VCs [.d (dB false),.mt,.mt] (dQ 0).cells:=by
 unfold dQ;rw[rX];exact .cons (VC.d _) (.cons VC.mt (.cons VC.mt .nil))
def Small (B:Nat)(l:List Rat):Prop:=∀ q,q ∈ l->sz q<=B
theorem Small.get {B:Nat}{l:List Rat}(h:Small B l)(hB:1<=B)(i:Nat):sz (l.getD i 0)<=B:=by
 rw[gI];cases hg:l[i]? with
 | none=>rw[Option.getD_none,fK];exact hB
 | some q=>exact h q (List.mem_of_getElem? hg)
theorem Small.nil {B:Nat}:Small B []:=λ_ h=>by simp at h
theorem Small.app {B:Nat}{l m:List Rat}(h:Small B l)(k:Small B m):Small B (l++m):=λq hq=>(rD hq).elim (h q) (k q)
theorem Small.one {B:Nat}{q:Rat}(h:sz q<=B):Small B [q]:=λx hx=>by rw[kJ hx];exact h
theorem Small.cons {B:Nat}{q:Rat}{l:List Rat}(h:sz q<=B)(k:Small B l):Small B (q::l):=λx hx=>by
 rcases List.mem_cons.1 hx with rfl|hx
 .exact h
 .exact k x hx
theorem Small.take {B:Nat}{l:List Rat}(h:Small B l)(i:Nat):Small B (l.take i):=λq hq=>h q (List.mem_of_mem_take hq)
theorem Small.mono {B C:Nat}{l:List Rat}(h:Small B l)(hB:B<=C):Small C l:=λq hq=>Nat.le_trans (h q hq) hB
section
variable {P:Program}{m:Nat}{ops:Array Oper}{K:S->Prop}{r:List Oper}{s:S}{dst:Option Nat}{ty:TypeId}{pos:String}{after:Array Edge}{op:Op}
theorem bF {f:Operand}{args:Array Operand}{ats:Array TypeId}{mZ:Nat}{caps qm:List V}{res:V}(hf:s.ev f=.fn mZ caps)(ha:fH (args.toList.map s.ev++caps) qm)(hs:aj P mZ qm res)(h:OL P m ops K r (s.put dst res)) :
  OL P m ops K (⟨dst,.call { callee:=.value f,args:=args,argTypes:=ats },ty,pos,after,none⟩:: r) s:=cl hs hf ha h
end
structure HM where
 sym:Nat
 st:Nat
 empty:Rat
 ini:List Rat
 trans:List (List Rat)
 stop:List Rat
 emit:List (List Rat)
 silent:List Bool
 ties:List Int
abbrev HM.cells (h:HM):List D:=[dI h.sym,dI h.st,dB (fP h.empty).neg,aF (fP h.empty).num,aF (fP h.empty).den,iG h.ini,aU9 h.trans,iG h.stop,aU9 h.emit,bools h.silent,ints h.ties]
structure HM.Xz (b B:Nat) (h:HM):Prop where
 GY:1<=h.sym
 be1:h.sym<=32
 st0:1<=h.st
 st1:h.st<=12
 ini:h.ini.length=h.st
 trans:h.trans.length=h.st
 be3:∀ i,i<h.st->(h.trans.getD i []).length=h.st
 stop:h.stop.length=h.st
 emit:h.emit.length=h.st
 be5:∀ i,i<h.st->(h.emit.getD i []).length=h.sym
 silent:h.silent=List.replicate h.st false
 ties:h.ties.length=h.st
 tie:∀ i,i<h.st->0<=h.ties.getD i 0/\h.ties.getD i 0<h.st
 b1:1<=B
 bB:B<=b
 zE:sz h.empty<=B
 zI:Small B h.ini
 zS:Small B h.stop
 zT:∀ i,Small B (h.trans.getD i [])
 zM:∀ i,Small B (h.emit.getD i [])
def af4 (l:List Rat):Rat:=l.foldl (· + ·) 0
def SV (q:Rat):Prop:=0<=q/\q<=1
instance (q:Rat):Decidable (SV q):=inferInstanceAs (Decidable (_/\_))
def DY (l:List Rat):Prop:=∀ q,q ∈ l->SV q
structure HM.OV (b B:Nat) (h:HM):Prop where
 form:HM.Xz b B h
 pE:SV h.empty
 pI:DY h.ini
 pS:DY h.stop
 pT:∀ i,DY (h.trans.getD i [])
 pM:∀ i,DY (h.emit.getD i [])
 sI:af4 (h.ini++[h.empty])=1
 sT:∀ i,i<h.st->af4 (h.trans.getD i []++[h.stop.getD i 0])=1
 sM:∀ i,i<h.st->af4 (h.emit.getD i [])=1
 tied:∀ i j,i<h.st->j<i->h.ties.getD i 0=h.ties.getD j 0->h.emit.getD i []=h.emit.getD j []
abbrev HM.Good (B:Nat)(h:HM):Prop:=HM.OV 1024 B h
abbrev HM.aV2 (B:Nat)(h:HM):Prop:=HM.OV 1048576 B h
theorem HM.Xz.up {b c B:Nat}{h:HM}(f:HM.Xz b B h)(k:b<=c):HM.Xz c B h:=⟨f.GY,f.be1,f.st0,f.st1,f.ini,f.trans,f.be3,f.stop,f.emit,f.be5,f.silent,f.ties,f.tie,f.b1,Nat.le_trans f.bB k,f.zE,f.zI,f.zS,f.zT,f.zM⟩
theorem HM.OV.up {b c B:Nat}{h:HM}(g:HM.OV b B h)(k:b<=c):HM.OV c B h:=⟨g.form.up k,g.pE,g.pI,g.pS,g.pT,g.pM,g.sI,g.sT,g.sM,g.tied⟩
theorem HM.OV.w {B:Nat}{h:HM}(g:h.Good B):h.aV2 B:=g.up (by decide)
theorem DY.get {l:List Rat}(h:DY l)(i:Nat):SV (l.getD i 0):=by
 rw[gI];cases hg:l[i]? with
 | none=>rw[Option.getD_none];exact⟨by decide,by decide⟩
 | some q=>exact h q (List.mem_of_getElem? hg)
def SX (v:Int):Int:=if v<0 then -1 else if 0<v then 1 else 0
theorem aw8 {a b:Nat}(h:(lim a).length≠(lim b).length):SX (((lim a).length:Int)-((lim b).length:Int))=DF a b:=by
 unfold SX DF;rcases Nat.lt_or_ge (lim a).length (lim b).length with hl|hl
 .have:a<b:=by
   rcases Nat.lt_or_ge a b with h1|h1
   .exact h1
   .have:=rF h1;omega
  rw[if_pos (by omega),if_pos this]
 .have:¬ a<b:=λe=>by have:=rF (Nat.le_of_lt e);omega
  have h2:a≠b:=λe=>h (by rw[e])
  rw[if_neg (by omega),if_pos (by omega),if_neg this,if_neg h2]
theorem aw9 {a b:Nat}{x y:Nat}(h:DF a b=if x<y then -1 else 1)(hne:x≠y):SX ((x:Int)-(y:Int))=DF a b:=by
 rw[h];unfold SX
 split <;> split <;> (try split) <;> omega
theorem YX {o k s x y:Nat}(hk:0<k)(hx:x<k)(hy:y<k)(h:o+k*4294967296*s=x+y):o=x+y:=by
 rcases Nat.eq_zero_or_pos s with hs|hs
 .subst hs;rw[Nat.mul_zero] at h;exact h
 .have:=Nat.le_mul_of_pos_right (k*4294967296) hs;generalize k*4294967296*s=m at h this;omega
theorem af5 {A C out:List Nat}{s i:Nat}(hA:iT A)(hC:iT C)(hi:i=max A.length C.length+1)(hl:out.length=i)(h:val out+Bp i*s=val (A.take i)+val (C.take i)):val out=val A+val C:=by
 rw[rW (A:=A) (by omega),rW (A:=C) (by omega)] at h
 have h1:=yK hA;have h2:=yK hC;have h3:Bp A.length<=Bp (max A.length C.length):=Nat.pow_le_pow_right (by decide) (by omega)
 have h4:Bp C.length<=Bp (max A.length C.length):=Nat.pow_le_pow_right (by decide) (by omega)
 rw[hi,kN] at h;exact YX (vN _) (Nat.lt_of_lt_of_le h1 h3) (Nat.lt_of_lt_of_le h2 h4) h
theorem ax0 {A C out:List Nat}{i s:Nat}(hA:iT A)(hi:i+C.length<out.length)(h0:out.getD (i+C.length) 0=0)
  (h:val out+s*Bp (i+C.length)=val (A.take i)*val C+A.getD i 0*Bp i*val (C.take C.length)):val (out.set (i+C.length) s)=val (A.take (i+1))*val C:=by
 have h1:=QI hi s;rw[h0,Nat.zero_mul,Nat.add_zero] at h1;rw[h1];rw[h,List.take_length,fD hA,Nat.add_mul,Nat.mul_comm (Bp i)]
theorem af6 {out:List Nat}{i k y:Nat}(h:∀ j,k<=j->out.getD j 0=0)(hi:i<k):∀ j,k<=j->(out.set i y).getD j 0=0:=λj hj=>by
 rw[getD_set_ne (by omega)];exact h j hj
theorem VQ (n j:Nat):(List.replicate n 0).getD j 0=0:=by
 rw[gI,List.getElem?_replicate]
 split <;> rfl
theorem aK8 {A:List Nat}(hA:iT A)(i:Nat):A.getD (i / 32) 0 / 2 ^ (i % 32) % 2=val A / 2 ^ i % 2:=by
 rw[getD_eq hA,vP];have e:2 ^ i=2 ^ (32*(i / 32))*2 ^ (i % 32):=by rw[<- Nat.pow_add];congr 1;omega
 rw[e,<- Nat.div_div_eq_div_mul];generalize val A / 2 ^ (32*(i / 32))=z;have hs:i % 32<32:=Nat.mod_lt _ (by decide)
 generalize i % 32=s at hs;have hp:(4294967296:Nat)=2 ^ s*(2*2 ^ (31-s)):=by rw[<- Nat.pow_succ',<- Nat.pow_add,show s+(31-s).succ=32 by omega]
 have key:z % 4294967296 / 2 ^ s=z / 2 ^ s % (2*2 ^ (31-s)):=by rw[hp,Nat.mod_mul_right_div_self]
 rw[key,Nat.mod_mul_right_mod]
theorem YZ (a i:Nat):a / 2 ^ i=2*(a / 2 ^ (i+1))+a / 2 ^ i % 2:=by
 rw[Nat.pow_succ,<- Nat.div_div_eq_div_mul];omega
theorem af7 {a b Q r i:Nat}(hb:0<b)(h:a / 2 ^ (i+1)=Q*b+r)(hr:r<b) :
  (r+r+a / 2 ^ i % 2<b->a / 2 ^ i=(2*Q)*b+(r+r+a / 2 ^ i % 2))/\(b<=r+r+a / 2 ^ i % 2->a / 2 ^ i=(2*Q+1)*b+(r+r+a / 2 ^ i % 2-b)/\r+r+a / 2 ^ i % 2-b<b):=by
 have h1:=YZ a i;have h2:a / 2 ^ i % 2<2:=Nat.mod_lt _ (by decide)
 generalize a / 2 ^ i % 2=t at *;have e1:2*Q*b=2*(Q*b):=Nat.mul_assoc ..;have e2:(2*Q+1)*b=2*(Q*b)+b:=by rw[Nat.add_mul,e1,Nat.one_mul]
 rw[e1,e2];constructor
 .intro h3;omega
 .intro h3;omega
theorem af8 {q:List Nat}{Q i:Nat}(hq:iT q)(h:val q=Q*2 ^ (i+1)):∃ z,q.getD (i / 32) 0=z*2 ^ (i % 32+1):=by
 rw[getD_eq hq,vP,h];have hs:i % 32<32:=Nat.mod_lt _ (by decide)
 have e:2 ^ (i+1)=2 ^ (i % 32+1)*2 ^ (32*(i / 32)):=by rw[<- Nat.pow_add];congr 1;omega
 rw[e,<- Nat.mul_assoc,Nat.mul_div_cancel _ (Nat.pow_pos (by decide))]
 generalize i % 32=s at hs;have hp:(4294967296:Nat)=2 ^ (s+1)*2 ^ (31-s):=by rw[<- Nat.pow_add,show s+1+(31-s)=32 by omega]
 rw[hp,Nat.mul_comm Q,Nat.mul_mod_mul_left,Nat.mul_comm];exact⟨_,rfl⟩
theorem or_bit {z s:Nat}:z*2 ^ (s+1) ||| 2 ^ s=z*2 ^ (s+1)+2 ^ s:=by
 rw[Nat.mul_comm,<- Nat.two_pow_add_eq_or_of_lt (Nat.pow_lt_pow_right (by decide) (by omega))]
theorem ax1 {q:List Nat}{Q i:Nat}(hl:i / 32<q.length)(hq:iT q)(h:val q=Q*2 ^ (i+1)) :
  val (q.set (i / 32) (q.getD (i / 32) 0 ||| 2 ^ (i % 32)))=(2*Q+1)*2 ^ i/\iT (q.set (i / 32) (q.getD (i / 32) 0 ||| 2 ^ (i % 32))):=by
 obtain⟨z,hz⟩:=af8 hq h;have hs:i % 32<32:=Nat.mod_lt _ (by decide)
 have hb:2 ^ (i % 32)<2 ^ 32:=Nat.pow_lt_pow_right (by decide) hs
 have hlt:q.getD (i / 32) 0 ||| 2 ^ (i % 32)<4294967296:=Nat.or_lt_two_pow (n:=32) (hq.getD _) hb
 refine⟨?_,hq.set _ hlt⟩;have h1:=QI hl (q.getD (i / 32) 0 ||| 2 ^ (i % 32))
 have e:q.getD (i / 32) 0 ||| 2 ^ (i % 32)=q.getD (i / 32) 0+2 ^ (i % 32):=by rw[hz,or_bit]
 rw[e] at h1 ⊢;rw[Nat.add_mul,h] at h1;have e2:2 ^ (i % 32)*Bp (i / 32)=2 ^ i:=by rw[vP,<- Nat.pow_add];congr 1;omega
 rw[e2] at h1;have e3:(2*Q+1)*2 ^ i=Q*2 ^ (i+1)+2 ^ i:=by rw[Nat.add_mul,Nat.one_mul,Nat.pow_succ,Nat.mul_comm 2 Q,Nat.mul_assoc,Nat.mul_comm 2 (2 ^ i)]
 rw[e3];omega
theorem Y0 (a:Nat):a / 2 ^ (32*(lim a).length)=0:=Nat.div_eq_of_lt (by rw[<- vP];exact qo a)
theorem ax2 {a b Q r:Nat}(h:a / 2 ^ 0=Q*b+r)(hr:r<b):Q=a / b/\r=a % b:=by
 have h1:=(Nat.div_mod_unique (a:=a) (c:=r) (d:=Q) (b:=b) (by omega)).2 ⟨by rw[Nat.mul_comm b];simp at h;omega,hr⟩
 exact⟨h1.1.symm,h1.2.symm⟩
theorem XA {A:List Nat}(hA:iT A):(A=[1]) ↔ (A.length=1/\A.getD 0 0=1):=by
 constructor
 .intro h;subst h;exact⟨rfl,rfl⟩
 .intro ⟨h1,h2⟩
  match A,h1,h2 with
  | [x],_,h2=>simp at h2;rw[h2]
theorem FY {n:Nat}:(lim n=[1]) ↔ n=1:=by
 constructor
 .intro h;have:=bf n;rw[h] at this;simp[iY,iW] at this;omega
 .intro h;subst h;exact vO (by decide) (by decide)
section
variable {α:Type}
def GZ (p:α->Bool)(l:List α):Int:=if l.any p then (l.findIdx p:Int) else -1
theorem getD_lt {l:List α}{i:Nat}(h:i<l.length)(d:α):l.getD i d=l[i]:=by rw[gI,kL h];rfl
theorem getD_mem {l:List α}{i:Nat}(h:i<l.length)(d:α):l.getD i d ∈ l:=by rw[getD_lt h];exact List.getElem_mem h
theorem af9 {l:List α}{x:α}(h:x ∈ l)(d:α):∃ i,i<l.length/\l.getD i d=x:=by
 obtain⟨i,hi,e⟩:=List.mem_iff_getElem.1 h;exact⟨i,hi,by rw[getD_lt hi];exact e⟩
theorem BZ {p:α->Bool}{l:List α}{i:Nat}(hi:i<l.length)(d:α)(hp:p (l.getD i d)=true)(hb:∀ j,j<i->p (l.getD j d)=false):GZ p l=i:=by
 unfold GZ;rw[if_pos (List.any_eq_true.2 ⟨_,getD_mem hi d,hp⟩)];have:l.findIdx p=i:=(List.findIdx_eq hi).2 ⟨by rw[getD_lt hi] at hp;exact hp,λj hj=>by have:=hb j hj;rw[getD_lt (by omega)] at this;exact this⟩
 rw[this]
theorem EG {p:α->Bool}{l:List α}(d:α)(hb:∀ j,j<l.length->p (l.getD j d)=false):GZ p l = -1:=by
 unfold GZ;rw[if_neg];intro h;obtain⟨x,hx,hp⟩:=List.any_eq_true.1 h;obtain⟨i,hi,rfl⟩:=af9 hx d;rw[hb i hi] at hp;cases hp
theorem SY (p:α->Bool)(l:List α):decide (0<=GZ p l)=l.any p:=by
 unfold GZ
 split
 .rename_i h;rw[h];simp
 .rename_i h;rw[Bool.not_eq_true] at h;rw[h];rfl
theorem any_false {p:α->Bool}{l:List α}(h:∀ x,x ∈ l->p x=false):l.any p=false:=by
 rw[List.any_eq_false];intro x hx;rw[h x hx];decide
end
theorem Ld:sz 1=1:=by
 unfold sz;rw[show (1:Rat).num.natAbs=1 from rfl,show (1:Rat).den=1 from rfl,vO (by decide) (by decide)]
 rfl
abbrev Le (q:Rat):List V:=[.d (dB (fP q).neg),.d (aF (fP q).num),.d (aF (fP q).den)]
theorem aK9:fH [.d (dB false),.mt,.mt] (Le 0):=by
 unfold Le;rw[rX];exact .cons vR (.cons bG.mt (.cons bG.mt .nil))
theorem yP {q:Rat}:VD (vQ q) (dQ q):=VD.ag (.cons (VC.d _) (.cons (VC.d _) (.cons (VC.d _) .nil)))
theorem xP {α:Type}{l m:List α}(hl:l.length=m.length)(d:α)(h:∀ j,j<l.length->l.getD j d=m.getD j d):l=m:=by
 refine List.ext_getElem hl λi h1 h2=>?_;have:=h i h1
 rwa [getD_lt h1,getD_lt h2] at this
def within (v m:Int):Int:=if m<1 then 0 else v % m
theorem lZ {v m:Int}(h:1<=m):0<=within v m/\within v m<m:=by
 unfold within;rw[if_neg (by omega)]
 exact⟨Int.emod_nonneg _ (by omega),Int.emod_lt_of_pos _ (by omega)⟩
theorem VR {v m:Int}(h:1<=m)(h0:¬ v.tmod m<0):v.tmod m=within v m:=by
 unfold within;rw[if_neg (by omega)]
 have h1:=Int.tmod_eq_emod (a:=v) (b:=m);have h2:=Int.emod_nonneg v (show m≠0 by omega)
 have h3:=Int.emod_lt_of_pos v (show 0<m by omega)
 split at h1 <;> omega
theorem VS {v m:Int}(h:1<=m)(h0:v.tmod m<0):v.tmod m+m=within v m:=by
 unfold within;rw[if_neg (by omega)]
 have h1:=Int.tmod_eq_emod (a:=v) (b:=m);have h2:=Int.emod_nonneg v (show m≠0 by omega)
 have h3:=Int.emod_lt_of_pos v (show 0<m by omega)
 split at h1 <;> omega
theorem tmod_lt {v m:Int}(h:1<=m):-m<v.tmod m/\v.tmod m<m:=by
 have h1:=Int.tmod_eq_emod (a:=v) (b:=m);have h2:=Int.emod_nonneg v (show m≠0 by omega)
 have h3:=Int.emod_lt_of_pos v (show 0<m by omega)
 split at h1
 .omega
 .rename_i hc;have:v % m≠0:=λe=>hc (.inr (Int.dvd_of_emod_eq_zero e));omega
def vG (L:List Int)(a:Nat)(m:Int):Int:=if L.length<=a then 0 else within (L.getD a 0) m
def jl (L:List Int)(a:Nat):Nat:=if L.length<=a then a else a+1
theorem kT {L:List Int}{a:Nat}{m:Int}(h:1<=m):0<=vG L a m/\vG L a m<m:=by
 unfold vG
 split
 .omega
 .exact lZ h
theorem aL0 {x s:Int}(h0:x.natAbs<4294967296)(h1:s.natAbs<4294967296)(hs:s≠0):sz ((x:Rat) / (s:Rat))<=1:=by
 rw[<- KZ];exact OM (by omega) (qM h0) (qM h1)
structure MS where
 trans:List (List Rat)
 stop:List Rat
 emit:List (List Rat)
 ties:List Int
 a:Nat
theorem EH {α:Type}{l:List α}{d:α}{i:Nat}(h:l.length<=i):l.getD i d=d:=by
 rw[gI,List.getElem?_eq_none h];rfl
structure MS.OK (L:List Int) (st sym i:Nat) (m:MS):Prop where
 lt:m.trans.length=i
 ls:m.stop.length=i
 le:m.emit.length=i
 ll:m.ties.length=i
 rowT:∀ j,j<i->(m.trans.getD j []).length=st/\DY (m.trans.getD j [])/\Small 1 (m.trans.getD j [])/\SV (m.stop.getD j 0)/\sz (m.stop.getD j 0)<=1/\af4 (m.trans.getD j []++[m.stop.getD j 0])=1
 bp7:∀ j,j<i->(m.emit.getD j []).length=sym/\DY (m.emit.getD j [])/\Small 1 (m.emit.getD j [])/\af4 (m.emit.getD j [])=1
 tie:∀ j,j<i->0<=m.ties.getD j 0/\m.ties.getD j 0<=j/\m.emit.getD j []=m.emit.getD (m.ties.getD j 0).toNat []
 a:m.a<=L.length
