/-
  N, part 6: numbers, lists and models as data of the program.
-/
import Derived.Test.YteiohkpjgcioaaaGreatDoorKNuma
import Derived.Test.YteiohkpjgcioaaaGreatDoorKAlgd
set_option linter.unusedVariables false
set_option linter.unusedSimpArgs false
namespace Go.AL
open Go Go.BigFrame
abbrev vQ (q:Rat):V:=vw (eU q)
abbrev dQ (q:Rat):D:=aC0 (eU q)
abbrev o9 (l:List Rat):D:=.sl (l.map dQ)
abbrev J4 (l:List (List Rat)):D:=.sl (l.map o9)
theorem YM:vQ 0=.ag [.d (dB false),.d (aC []),.d (aC [])]:=by unfold vQ;rw[qp]
theorem aZ6 {neg:Bool}{n d:Nat}(hn:n≠0)(hd:d≠0):vQ (fr neg n d)=.ag [.d (dB neg),.d (aC (lim (n / Nat.gcd n d))),.d (aC (if d / Nat.gcd n d=1 then [] else lim (d / Nat.gcd n d)))]:=by unfold vQ;rw[RN hn hd]
theorem aO9 {r:Raw}(h:eU r.q=r):vQ r.q=.ag [.d (dB r.neg),.d (aC r.num),.d (aC r.den)]:=by unfold vQ;rw[h]
theorem RS:aZ (.ag [.d (dB false),.mt,.mt]) (vQ 0):=by
 unfold vQ;rw[qp];exact aZ.ag (.cons vR (.cons aZ.mt (.cons aZ.mt .nil)))
theorem NG:VCs [.d (dB false),.mt,.mt] (dQ 0).cells:=by
 unfold dQ;rw[qp];exact .cons (VC.d _) (.cons VC.mt (.cons VC.mt .nil))
def Small (B:Nat)(l:List Rat):Prop:=∀ q,q ∈ l->sz q<=B
theorem Small.get {B:Nat}{l:List Rat}(h:Small B l)(hB:1<=B)(i:Nat):sz (l.getD i 0)<=B:=by
 rw[iZ];cases hg:l[i]? with
 | none=>rw[Option.getD_none,gJ];exact hB
 | some q=>exact h q (List.mem_of_getElem? hg)
theorem Small.nil {B:Nat}:Small B []:=λ_ h=>by simp at h
theorem Small.app {B:Nat}{l m:List Rat}(h:Small B l)(k:Small B m):Small B (l++m):=λq hq=>(BO hq).elim (h q) (k q)
theorem Small.one {B:Nat}{q:Rat}(h:sz q<=B):Small B [q]:=λx hx=>by rw[qm hx];exact h
theorem Small.cons {B:Nat}{q:Rat}{l:List Rat}(h:sz q<=B)(k:Small B l):Small B (q::l):=λx hx=>by
 rcases List.mem_cons.1 hx with rfl|hx
 .exact h
 .exact k x hx
theorem Small.take {B:Nat}{l:List Rat}(h:Small B l)(i:Nat):Small B (l.take i):=λq hq=>h q (List.mem_of_mem_take hq)
theorem Small.mono {B C:Nat}{l:List Rat}(h:Small B l)(hB:B<=C):Small C l:=λq hq=>Nat.le_trans (h q hq) hB
section
variable {P:Program}{m:Nat}{ops:Array Oper}{K:S->Prop}{r:List Oper}{s:S}{dst:Option Nat}{ty:TypeId}{pos:String}{after:Array Edge}{op:Op}
theorem aY {f:Operand}{args:Array Operand}{ats:Array TypeId}{nR:Nat}{caps wO:List V}{res:V}(hf:s.ev f=.fn nR caps)(ha:iy (args.toList.map s.ev++caps) wO)(hs:ai P nR wO res)(h:OL P m ops K r (s.put dst res)) :
  OL P m ops K (⟨dst,.call { callee:=.value f,args:=args,argTypes:=ats },ty,pos,after,none⟩:: r) s:=cl hs hf ha h
end
structure HM where
 sym:Nat
 st:Nat
 empty:Rat
 ini:List Rat
 trans:List (List Rat)
 stop:List Rat
 emit:List (List Rat)
 silent:List Bool
 ties:List Int
abbrev HM.cells (h:HM):List D:=[dI h.sym,dI h.st,dB (eU h.empty).neg,aC (eU h.empty).num,aC (eU h.empty).den,o9 h.ini,J4 h.trans,o9 h.stop,J4 h.emit,bools h.silent,ints h.ties]
abbrev uY (h:HM):V:=.ag [.d (dI h.sym),.d (dI h.st),.d (dB (eU h.empty).neg),.d (aC (eU h.empty).num),.d (aC (eU h.empty).den),.d (o9 h.ini),.d (J4 h.trans),.d (o9 h.stop),.d (J4 h.emit),.d (bools h.silent),.d (ints h.ties)]
structure HM.yK (b B:Nat) (h:HM):Prop where
 qR:1<=h.sym
 sZ:h.sym<=32
 st0:1<=h.st
 st1:h.st<=12
 ini:h.ini.length=h.st
 trans:h.trans.length=h.st
 x9:∀ i,i<h.st->(h.trans.getD i []).length=h.st
 stop:h.stop.length=h.st
 emit:h.emit.length=h.st
 AQ:∀ i,i<h.st->(h.emit.getD i []).length=h.sym
 silent:h.silent=List.replicate h.st false
 ties:h.ties.length=h.st
 tie:∀ i,i<h.st->0<=h.ties.getD i 0/\h.ties.getD i 0<h.st
 b1:1<=B
 bB:B<=b
 zE:sz h.empty<=B
 zI:Small B h.ini
 zS:Small B h.stop
 zT:∀ i,Small B (h.trans.getD i [])
 zM:∀ i,Small B (h.emit.getD i [])
abbrev HM.Form (B:Nat)(h:HM):Prop:=HM.yK 1024 B h
def iG (l:List Rat):Rat:=l.foldl (· + ·) 0
def sN (q:Rat):Prop:=0<=q/\q<=1
instance (q:Rat):Decidable (sN q):=inferInstanceAs (Decidable (_/\_))
def iY (l:List Rat):Prop:=∀ q,q ∈ l->sN q
structure HM.jK (b B:Nat) (h:HM):Prop where
 form:HM.yK b B h
 pE:sN h.empty
 pI:iY h.ini
 pS:iY h.stop
 pT:∀ i,iY (h.trans.getD i [])
 pM:∀ i,iY (h.emit.getD i [])
 sI:iG (h.ini++[h.empty])=1
 sT:∀ i,i<h.st->iG (h.trans.getD i []++[h.stop.getD i 0])=1
 sM:∀ i,i<h.st->iG (h.emit.getD i [])=1
 tied:∀ i j,i<h.st->j<i->h.ties.getD i 0=h.ties.getD j 0->h.emit.getD i []=h.emit.getD j []
abbrev HM.Good (B:Nat)(h:HM):Prop:=HM.jK 1024 B h
abbrev HM.am6 (B:Nat)(h:HM):Prop:=HM.jK 1048576 B h
theorem HM.yK.up {b c B:Nat}{h:HM}(f:HM.yK b B h)(k:b<=c):HM.yK c B h:=⟨f.qR,f.sZ,f.st0,f.st1,f.ini,f.trans,f.x9,f.stop,f.emit,f.AQ,f.silent,f.ties,f.tie,f.b1,Nat.le_trans f.bB k,f.zE,f.zI,f.zS,f.zT,f.zM⟩
theorem HM.jK.up {b c B:Nat}{h:HM}(g:HM.jK b B h)(k:b<=c):HM.jK c B h:=⟨g.form.up k,g.pE,g.pI,g.pS,g.pT,g.pM,g.sI,g.sT,g.sM,g.tied⟩
theorem HM.jK.w {B:Nat}{h:HM}(g:h.Good B):h.am6 B:=g.up (by decide)
theorem iY.get {l:List Rat}(h:iY l)(i:Nat):sN (l.getD i 0):=by
 rw[iZ];cases hg:l[i]? with
 | none=>rw[Option.getD_none];exact⟨by decide,by decide⟩
 | some q=>exact h q (List.mem_of_getElem? hg)
def UK (v:Int):Int:=if v<0 then -1 else if 0<v then 1 else 0
theorem aC2 {a b:Nat}(h:(lim a).length≠(lim b).length):UK (((lim a).length:Int)-((lim b).length:Int))=EG a b:=by
 unfold UK EG;rcases Nat.lt_or_ge (lim a).length (lim b).length with hl|hl
 .have:a<b:=by
   rcases Nat.lt_or_ge a b with h1|h1
   .exact h1
   .have:=sW h1;omega
  rw[if_pos (by omega),if_pos this]
 .have:¬ a<b:=λe=>by have:=sW (Nat.le_of_lt e);omega
  have h2:a≠b:=λe=>h (by rw[e])
  rw[if_neg (by omega),if_pos (by omega),if_neg this,if_neg h2]
theorem aC3 {a b:Nat}{x y:Nat}(h:EG a b=if x<y then -1 else 1)(hne:x≠y):UK ((x:Int)-(y:Int))=EG a b:=by
 rw[h];unfold UK
 split <;> split <;> (try split) <;> omega
theorem aa4 {o k s x y:Nat}(hk:0<k)(hx:x<k)(hy:y<k)(h:o+k*4294967296*s=x+y):o=x+y:=by
 rcases Nat.eq_zero_or_pos s with hs|hs
 .subst hs;rw[Nat.mul_zero] at h;exact h
 .have:=Nat.le_mul_of_pos_right (k*4294967296) hs;generalize k*4294967296*s=m at h this;omega
theorem am7 {A C out:List Nat}{s i:Nat}(hA:jg A)(hC:jg C)(hi:i=max A.length C.length+1)(hl:out.length=i)(h:val out+Bp i*s=val (A.take i)+val (C.take i)):val out=val A+val C:=by
 rw[tJ (A:=A) (by omega),tJ (A:=C) (by omega)] at h
 have h1:=zL hA;have h2:=zL hC;have h3:Bp A.length<=Bp (max A.length C.length):=Nat.pow_le_pow_right (by decide) (by omega)
 have h4:Bp C.length<=Bp (max A.length C.length):=Nat.pow_le_pow_right (by decide) (by omega)
 rw[hi,kZ] at h;exact aa4 (wU _) (Nat.lt_of_lt_of_le h1 h3) (Nat.lt_of_lt_of_le h2 h4) h
theorem aC4 {A C out:List Nat}{i s:Nat}(hA:jg A)(hi:i+C.length<out.length)(h0:out.getD (i+C.length) 0=0)
  (h:val out+s*Bp (i+C.length)=val (A.take i)*val C+A.getD i 0*Bp i*val (C.take C.length)):val (out.set (i+C.length) s)=val (A.take (i+1))*val C:=by
 have h1:=RG hi s;rw[h0,Nat.zero_mul,Nat.add_zero] at h1;rw[h1];rw[h,List.take_length,fA hA,Nat.add_mul,Nat.mul_comm (Bp i)]
theorem am8 {out:List Nat}{i k y:Nat}(h:∀ j,k<=j->out.getD j 0=0)(hi:i<k):∀ j,k<=j->(out.set i y).getD j 0=0:=λj hj=>by
 rw[getD_set_ne (by omega)];exact h j hj
theorem Xu (n j:Nat):(List.replicate n 0).getD j 0=0:=by
 rw[iZ,List.getElem?_replicate]
 split <;> rfl
theorem aP0 {A:List Nat}(hA:jg A)(i:Nat):A.getD (i / 32) 0 / 2 ^ (i % 32) % 2=val A / 2 ^ i % 2:=by
 rw[getD_eq hA,wW];have e:2 ^ i=2 ^ (32*(i / 32))*2 ^ (i % 32):=by rw[<- Nat.pow_add];congr 1;omega
 rw[e,<- Nat.div_div_eq_div_mul];generalize val A / 2 ^ (32*(i / 32))=z;have hs:i % 32<32:=Nat.mod_lt _ (by decide)
 generalize i % 32=s at hs;have hp:(4294967296:Nat)=2 ^ s*(2*2 ^ (31-s)):=by rw[<- Nat.pow_succ',<- Nat.pow_add,show s+(31-s).succ=32 by omega]
 have key:z % 4294967296 / 2 ^ s=z / 2 ^ s % (2*2 ^ (31-s)):=by rw[hp,Nat.mod_mul_right_div_self]
 rw[key,Nat.mod_mul_right_mod]
theorem aa5 (a i:Nat):a / 2 ^ i=2*(a / 2 ^ (i+1))+a / 2 ^ i % 2:=by
 rw[Nat.pow_succ,<- Nat.div_div_eq_div_mul];omega
theorem am9 {a b Q r i:Nat}(hb:0<b)(h:a / 2 ^ (i+1)=Q*b+r)(hr:r<b) :
  (r+r+a / 2 ^ i % 2<b->a / 2 ^ i=(2*Q)*b+(r+r+a / 2 ^ i % 2))/\(b<=r+r+a / 2 ^ i % 2->a / 2 ^ i=(2*Q+1)*b+(r+r+a / 2 ^ i % 2-b)/\r+r+a / 2 ^ i % 2-b<b):=by
 have h1:=aa5 a i;have h2:a / 2 ^ i % 2<2:=Nat.mod_lt _ (by decide)
 generalize a / 2 ^ i % 2=t at *;have e1:2*Q*b=2*(Q*b):=Nat.mul_assoc ..;have e2:(2*Q+1)*b=2*(Q*b)+b:=by rw[Nat.add_mul,e1,Nat.one_mul]
 rw[e1,e2];constructor
 .intro h3;omega
 .intro h3;omega
theorem an0 {q:List Nat}{Q i:Nat}(hq:jg q)(h:val q=Q*2 ^ (i+1)):∃ z,q.getD (i / 32) 0=z*2 ^ (i % 32+1):=by
 rw[getD_eq hq,wW,h];have hs:i % 32<32:=Nat.mod_lt _ (by decide)
 have e:2 ^ (i+1)=2 ^ (i % 32+1)*2 ^ (32*(i / 32)):=by rw[<- Nat.pow_add];congr 1;omega
 rw[e,<- Nat.mul_assoc,Nat.mul_div_cancel _ (Nat.pow_pos (by decide))]
 generalize i % 32=s at hs;have hp:(4294967296:Nat)=2 ^ (s+1)*2 ^ (31-s):=by rw[<- Nat.pow_add,show s+1+(31-s)=32 by omega]
 rw[hp,Nat.mul_comm Q,Nat.mul_mod_mul_left,Nat.mul_comm];exact⟨_,rfl⟩
theorem or_bit {z s:Nat}:z*2 ^ (s+1) ||| 2 ^ s=z*2 ^ (s+1)+2 ^ s:=by
 rw[Nat.mul_comm,<- Nat.two_pow_add_eq_or_of_lt (Nat.pow_lt_pow_right (by decide) (by omega))]
theorem aC5 {q:List Nat}{Q i:Nat}(hl:i / 32<q.length)(hq:jg q)(h:val q=Q*2 ^ (i+1)) :
  val (q.set (i / 32) (q.getD (i / 32) 0 ||| 2 ^ (i % 32)))=(2*Q+1)*2 ^ i/\jg (q.set (i / 32) (q.getD (i / 32) 0 ||| 2 ^ (i % 32))):=by
 obtain⟨z,hz⟩:=an0 hq h;have hs:i % 32<32:=Nat.mod_lt _ (by decide)
 have hb:2 ^ (i % 32)<2 ^ 32:=Nat.pow_lt_pow_right (by decide) hs
 have hlt:q.getD (i / 32) 0 ||| 2 ^ (i % 32)<4294967296:=Nat.or_lt_two_pow (n:=32) (hq.getD _) hb
 refine⟨?_,hq.set _ hlt⟩;have h1:=RG hl (q.getD (i / 32) 0 ||| 2 ^ (i % 32))
 have e:q.getD (i / 32) 0 ||| 2 ^ (i % 32)=q.getD (i / 32) 0+2 ^ (i % 32):=by rw[hz,or_bit]
 rw[e] at h1 ⊢;rw[Nat.add_mul,h] at h1;have e2:2 ^ (i % 32)*Bp (i / 32)=2 ^ i:=by rw[wW,<- Nat.pow_add];congr 1;omega
 rw[e2] at h1;have e3:(2*Q+1)*2 ^ i=Q*2 ^ (i+1)+2 ^ i:=by rw[Nat.add_mul,Nat.one_mul,Nat.pow_succ,Nat.mul_comm 2 Q,Nat.mul_assoc,Nat.mul_comm 2 (2 ^ i)]
 rw[e3];omega
theorem aa6 (a:Nat):a / 2 ^ (32*(lim a).length)=0:=Nat.div_eq_of_lt (by rw[<- wW];exact qO a)
theorem aC6 {a b Q r:Nat}(h:a / 2 ^ 0=Q*b+r)(hr:r<b):Q=a / b/\r=a % b:=by
 have h1:=(Nat.div_mod_unique (a:=a) (c:=r) (d:=Q) (b:=b) (by omega)).2 ⟨by rw[Nat.mul_comm b];simp at h;omega,hr⟩
 exact⟨h1.1.symm,h1.2.symm⟩
theorem YN {A:List Nat}(hA:jg A):(A=[1]) ↔ (A.length=1/\A.getD 0 0=1):=by
 constructor
 .intro h;subst h;exact⟨rfl,rfl⟩
 .intro ⟨h1,h2⟩
  match A,h1,h2 with
  | [x],_,h2=>simp at h2;rw[h2]
theorem Ie {n:Nat}:(lim n=[1]) ↔ n=1:=by
 constructor
 .intro h;have:=bF n;rw[h] at this;simp[jr,jq] at this;omega
 .intro h;subst h;exact wV (by decide) (by decide)
section
variable {α:Type}
def GZ (p:α->Bool)(l:List α):Int:=if l.any p then (l.findIdx p:Int) else -1
theorem getD_lt {l:List α}{i:Nat}(h:i<l.length)(d:α):l.getD i d=l[i]:=by rw[iZ,sU h];rfl
theorem getD_mem {l:List α}{i:Nat}(h:i<l.length)(d:α):l.getD i d ∈ l:=by rw[getD_lt h];exact List.getElem_mem h
theorem BU {l:List α}{x:α}(h:x ∈ l)(d:α):∃ i,i<l.length/\l.getD i d=x:=by
 obtain⟨i,hi,e⟩:=List.mem_iff_getElem.1 h;exact⟨i,hi,by rw[getD_lt hi];exact e⟩
theorem wX {p:α->Bool}{l:List α}{i:Nat}(hi:i<l.length)(d:α)(hp:p (l.getD i d)=true)(hb:∀ j,j<i->p (l.getD j d)=false):GZ p l=i:=by
 unfold GZ;rw[if_pos (List.any_eq_true.2 ⟨_,getD_mem hi d,hp⟩)];have:l.findIdx p=i:=(List.findIdx_eq hi).2 ⟨by rw[getD_lt hi] at hp;exact hp,λj hj=>by have:=hb j hj;rw[getD_lt (by omega)] at this;exact this⟩
 rw[this]
theorem zk {p:α->Bool}{l:List α}(d:α)(hb:∀ j,j<l.length->p (l.getD j d)=false):GZ p l = -1:=by
 unfold GZ;rw[if_neg];intro h;obtain⟨x,hx,hp⟩:=List.any_eq_true.1 h;obtain⟨i,hi,rfl⟩:=BU hx d;rw[hb i hi] at hp;cases hp
theorem Ja (p:α->Bool)(l:List α):decide (0<=GZ p l)=l.any p:=by
 unfold GZ
 split
 .rename_i h;rw[h];simp
 .rename_i h;rw[Bool.not_eq_true] at h;rw[h];rfl
theorem cu {l:List α}{i:Nat}(hi:i<l.length)(d:α):l.take (i+1)=l.take i++[l.getD i d]:=by
 rw[getD_lt hi];exact List.take_succ_eq_append_getElem hi
theorem any_false {p:α->Bool}{l:List α}(h:∀ x,x ∈ l->p x=false):l.any p=false:=by
 rw[List.any_eq_false];intro x hx;rw[h x hx];decide
theorem mG {L:List (List α)}{i:Nat}(hi:i<L.length):(L.take (i+1)).flatten=(L.take i).flatten++L.getD i []:=by
 rw[cu hi [],List.flatten_append];simp
theorem Ew {L:List (List α)}(i:Nat):(L.take i).flatten.length<=L.flatten.length:=by
 conv=>rhs;rw[<- List.take_append_drop i L,List.flatten_append,jT]
 omega
theorem aa7 {l:List α}{i:Nat}(h:l.length<=i):l.take i=l:=List.take_of_length_le h
theorem take_len {l:List α}{i:Nat}(h:i<=l.length):(l.take i).length=i:=by rw[List.length_take];omega
end
theorem yc:iG []=0:=rfl
theorem aa8 (l:List Rat)(x:Rat):iG (l++[x])=iG l+x:=by unfold iG;rw[List.foldl_append];rfl
theorem zW {l:List Rat}{i:Nat}(hi:i<l.length):iG (l.take (i+1))=iG (l.take i)+l.getD i 0:=by rw[cu hi 0,aa8]
theorem NH (l:List Rat):∀ a:Rat,l.foldl (· + ·) a=a+iG l:=by
 induction l with
 | nil=>intro a;show a=a+0;rw[Rat.add_zero]
 | cons x r ih =>
  intro a;unfold iG;rw[List.foldl_cons,List.foldl_cons,ih,ih (0+x),Rat.zero_add,Rat.add_assoc]
theorem rP (x:Rat)(l:List Rat):iG (x::l)=x+iG l:=by unfold iG;rw[List.foldl_cons,NH,Rat.zero_add];rfl
theorem Jb (l m:List Rat):iG (l++m)=iG l+iG m:=by unfold iG;rw[List.foldl_append,NH m];rfl
theorem YO {B:Nat}:∀ {l:List Rat},Small B l->sz (iG l)<=l.length*(B+1)+1
 | [],_=>by rw[yc,gJ];omega
 | x::l,h=>by
  rw[rP];have h1:=vz x (iG l);have h2:=YO (l:=l) λq hq=>h q (List.mem_cons_of_mem _ hq);have h3:=h x yD;rw[List.length_cons,Nat.add_mul];omega
theorem Jc {B:Nat}{l:List Rat}(h:Small B l)(hl:l.length<=1024)(hB:B<=1048576):sz (iG l)<=1073742849:=by
 have h1:=YO h;have h2:l.length*(B+1)<=1024*1048577:=Nat.mul_le_mul hl (by omega)
 omega
theorem Ig:sz 1=1:=by
 unfold sz;rw[show (1:Rat).num.natAbs=1 from rfl,show (1:Rat).den=1 from rfl,wV (by decide) (by decide)]
 rfl
abbrev yI (q:Rat):List V:=[.d (dB (eU q).neg),.d (aC (eU q).num),.d (aC (eU q).den)]
theorem Xv:iy [.d (dB false),.mt,.mt] (yI 0):=by
 unfold yI;rw[qp];exact .cons vR (.cons aZ.mt (.cons aZ.mt .nil))
theorem aP1 {l:List Rat}:∀ y,y ∈ l.map dQ->y.cells.length=3:=λy hy=>by obtain⟨a,_,rfl⟩:=Az hy;rfl
theorem Dp {q:Rat}:VD (vQ q) (dQ q):=VD.ag (.cons (VC.d _) (.cons (VC.d _) (.cons (VC.d _) .nil)))
abbrev yQ (h:HM):List V:=[.d (dI h.sym),.d (dI h.st),.d (dB (eU h.empty).neg),.d (aC (eU h.empty).num),.d (aC (eU h.empty).den),.d (o9 h.ini),.d (J4 h.trans),.d (o9 h.stop),.d (J4 h.emit),.d (bools h.silent),.d (ints h.ties)]
theorem HM.yK.sil {b B:Nat}{h:HM}(f:HM.yK b B h)(i:Nat):h.silent.getD i false=false:=by
 rw[f.silent,iZ,List.getElem?_replicate];split <;> rfl
theorem HM.yK.yJ {b B:Nat}{h:HM}(f:HM.yK b B h):h.silent.length=h.st:=by rw[f.silent,List.length_replicate]
theorem iK {α:Type}{l m:List α}(hl:l.length=m.length)(d:α)(h:∀ j,j<l.length->l.getD j d=m.getD j d):l=m:=by
 refine List.ext_getElem hl λi h1 h2=>?_;have:=h i h1
 rwa [getD_lt h1,getD_lt h2] at this
theorem EY {α:Type}(n:Nat)(x:α)(i:Nat):(List.replicate n x).getD i x=x:=by
 rw[iZ,List.getElem?_replicate];split <;> rfl
def within (v m:Int):Int:=if m<1 then 0 else v % m
theorem mJ {v m:Int}(h:1<=m):0<=within v m/\within v m<m:=by
 unfold within;rw[if_neg (by omega)]
 exact⟨Int.emod_nonneg _ (by omega),Int.emod_lt_of_pos _ (by omega)⟩
theorem Xw {v m:Int}(h:1<=m)(h0:¬ v.tmod m<0):v.tmod m=within v m:=by
 unfold within;rw[if_neg (by omega)]
 have h1:=Int.tmod_eq_emod (a:=v) (b:=m);have h2:=Int.emod_nonneg v (show m≠0 by omega)
 have h3:=Int.emod_lt_of_pos v (show 0<m by omega)
 split at h1 <;> omega
theorem Xx {v m:Int}(h:1<=m)(h0:v.tmod m<0):v.tmod m+m=within v m:=by
 unfold within;rw[if_neg (by omega)]
 have h1:=Int.tmod_eq_emod (a:=v) (b:=m);have h2:=Int.emod_nonneg v (show m≠0 by omega)
 have h3:=Int.emod_lt_of_pos v (show 0<m by omega)
 split at h1 <;> omega
theorem tmod_lt {v m:Int}(h:1<=m):-m<v.tmod m/\v.tmod m<m:=by
 have h1:=Int.tmod_eq_emod (a:=v) (b:=m);have h2:=Int.emod_nonneg v (show m≠0 by omega)
 have h3:=Int.emod_lt_of_pos v (show 0<m by omega)
 split at h1
 .omega
 .rename_i hc;have:v % m≠0:=λe=>hc (.inr (Int.dvd_of_emod_eq_zero e));omega
def jE (L:List Int)(a:Nat)(m:Int):Int:=if L.length<=a then 0 else within (L.getD a 0) m
def MH (L:List Int)(a:Nat):Nat:=if L.length<=a then a else a+1
theorem EZ {L:List Int}{a:Nat}{m:Int}(h:1<=m):0<=jE L a m/\jE L a m<m:=by
 unfold jE
 split
 .omega
 .exact mJ h
theorem NI {L:List Int}{a:Nat}(h:a<=L.length):MH L a<=L.length:=by unfold MH;split <;> omega
def bV (L:List Int):Nat->Nat->List Int × Nat
 | 0,a=>([],a)
 | n+1,a=>((bV L n a).1++[if jE L (bV L n a).2 4=3 then 0 else jE L (bV L n a).2 4],MH L (bV L n a).2)
theorem wY (L:List Int)(n a:Nat):(bV L n a).1.length=n:=by
 induction n with
 | zero=>rfl
 | succ n ih=>simp[bV,ih]
theorem Qm {L:List Int}(n:Nat){a:Nat}(h:a<=L.length):(bV L n a).2<=L.length:=by
 induction n with
 | zero=>exact h
 | succ n ih=>exact NI ih
theorem Jd (L:List Int)(n a:Nat):∀ x,x ∈ (bV L n a).1->0<=x/\x<=2:=by
 induction n with
 | zero=>intro x hx;simp[bV] at hx
 | succ n ih =>
  intro x hx;rw[bV,List.mem_append,List.mem_singleton] at hx;rcases hx with hx|hx
  .exact ih x hx
  .have h:=EZ (L:=L) (a:=(bV L n a).2) (m:=4) (by decide)
   subst hx
   split <;> omega
def WM (L:List Int)(n a:Nat):List Int :=
 if (bV L n a).1.sum=0 then (bV L n a).1.set (within (jE L (bV L n a).2 100) n).toNat 1 else (bV L n a).1
def shS (L:List Int)(n a:Nat):Int:=if (bV L n a).1.sum=0 then 1 else (bV L n a).1.sum
def WN (L:List Int)(n a:Nat):Nat:=if (bV L n a).1.sum=0 then MH L (bV L n a).2 else (bV L n a).2
def shares (L:List Int)(n a:Nat):List Rat:=(WM L n a).map λx:Int=>(x:Rat) / (shS L n a:Rat)
theorem Dq {l:List Int}(h:∀ x,x ∈ l->0<=x):0<=l.sum:=by
 induction l with
 | nil=>exact Int.le_refl _
 | cons x l ih =>
  have h1:=h x yD;have h2:=ih λy hy=>h y (List.mem_cons_of_mem _ hy);rw[List.sum_cons];omega
theorem an1 {l:List Int}(h:∀ x,x ∈ l->0<=x)(h0:l.sum=0):∀ x,x ∈ l->x=0:=by
 induction l with
 | nil=>intro x hx;simp at hx
 | cons y l ih =>
  have h1:=h y yD;have h2:=Dq (l:=l) λz hz=>h z (List.mem_cons_of_mem _ hz);rw[List.sum_cons] at h0;intro x hx;rcases List.mem_cons.1 hx with rfl|hx
  .omega
  .exact ih (λz hz=>h z (List.mem_cons_of_mem _ hz)) (by omega) x hx
theorem RU {l:List Int}(h:∀ x,x ∈ l->x=0){i:Nat}(hi:i<l.length):(l.set i 1).sum=1:=by
 induction l generalizing i with
 | nil=>simp at hi
 | cons y l ih =>
  have hy:=h y yD;have hz:∀ x,x ∈ l->x=0:=λz hz=>h z (List.mem_cons_of_mem _ hz);cases i with
  | zero =>
   rw[List.set_cons_zero,List.sum_cons];have:l.sum=0:=by
    clear ih hi h
    induction l with
    | nil=>rfl
    | cons z l ih2=>rw[List.sum_cons,hz z yD,ih2 λw hw=>hz w (List.mem_cons_of_mem _ hw)];rfl
   omega
  | succ i =>
   rw[List.set_cons_succ,List.sum_cons,hy,ih hz (by simpa using hi)];rfl
theorem aP2 {l:List Int}(h:∀ x,x ∈ l->0<=x){x:Int}(hx:x ∈ l):x<=l.sum:=by
 induction l with
 | nil=>simp at hx
 | cons y l ih =>
  have h1:=h y yD;have h2:=Dq (l:=l) λz hz=>h z (List.mem_cons_of_mem _ hz);rw[List.sum_cons];rcases List.mem_cons.1 hx with rfl|hx
  .omega
  .have:=ih (λz hz=>h z (List.mem_cons_of_mem _ hz)) hx;omega
theorem an2 {l:List Int}{c:Int}(h:∀ x,x ∈ l->x<=c):l.sum<=c*l.length:=by
 induction l with
 | nil=>simp
 | cons y l ih =>
  have h1:=h y yD;have h2:=ih λz hz=>h z (List.mem_cons_of_mem _ hz);rw[List.sum_cons,List.length_cons,Int.natCast_add,Int.mul_add];omega
theorem Je (L:List Int)(n a:Nat):(WM L n a).length=n:=by
 unfold WM;split <;> simp[wY]
theorem aC7 (L:List Int)(n a:Nat)(hn:1<=n):(within (jE L (bV L n a).2 100) n).toNat<n:=by
 have:=mJ (v:=jE L (bV L n a).2 100) (m:=n) (by omega)
 omega
theorem F5 (L:List Int)(n a:Nat)(hn:1<=n):(WM L n a).sum=shS L n a/\1<=shS L n a/\shS L n a<=2*n/\∀ x,x ∈ WM L n a->0<=x/\x<=2:=by
 have hr:=Jd L n a;have h0:=Dq λx hx=>(hr x hx).1;have h1:=an2 λx hx=>(hr x hx).2;rw[wY] at h1;unfold WM shS
 split
 .rename_i hz;refine⟨RU (an1 (λx hx=>(hr x hx).1) hz) (by rw[wY];exact aC7 L n a hn),by omega,by omega,λx hx=>?_⟩
  rcases List.mem_or_eq_of_mem_set hx with hx|rfl
  .exact hr x hx
  .omega
 .exact⟨rfl,by omega,h1,hr⟩
theorem RV {L:List Int}(n:Nat){a:Nat}(h:a<=L.length):WN L n a<=L.length:=by
 unfold WN;split
 .exact NI (Qm n h)
 .exact Qm n h
theorem jd (L:List Int)(n a:Nat):(shares L n a).length=n:=by simp[shares,Je]
theorem an3 (l:List Int)(s:Int):iG (l.map λx:Int=>(x:Rat) / (s:Rat))=((l.sum:Int):Rat) / (s:Rat):=by
 induction l with
 | nil=>rw[List.map_nil,yc,List.sum_nil];show (0:Rat)=0 / _;rw[Rat.div_def,Rat.zero_mul]
 | cons x l ih=>rw[List.map_cons,rP,ih,List.sum_cons,Rat.intCast_add,Rat.div_def,Rat.div_def,Rat.div_def,Rat.add_mul]
theorem RX {s:Int}(h:1<=s):(s:Rat) / (s:Rat)=1:=by
 rw[Rat.div_def,Rat.mul_inv_cancel];intro e;have:=congrArg Rat.num e;rw[Rat.num_intCast] at this;have:s=0:=this;omega
theorem Ih (L:List Int)(n a:Nat)(hn:1<=n):iG (shares L n a)=1:=by
 have h:=F5 L n a hn;unfold shares;rw[an3,h.1,RX h.2.1]
theorem aa9 {x s:Int}(h0:0<=x)(h1:x<=s)(hs:1<=s):sN ((x:Rat) / (s:Rat)):=by
 have hp:(0:Rat)<(s:Rat):=Rat.intCast_pos.2 (by omega)
 have hx:(0:Rat)<=(x:Rat):=Rat.intCast_nonneg.2 h0;have hi:(0:Rat)<(s:Rat)⁻¹:=Rat.inv_pos.2 hp;have hle:(x:Rat)<=(s:Rat):=Rat.intCast_le_intCast.2 h1;rw[Rat.div_def];refine⟨Rat.mul_nonneg hx (Rat.le_of_lt hi),?_⟩;have:=Rat.mul_le_mul_of_nonneg_right hle (Rat.le_of_lt hi)
 rwa [Rat.mul_inv_cancel _ (Rat.ne_of_gt hp)] at this
theorem Dt (L:List Int)(n a:Nat)(hn:1<=n):iY (shares L n a):=by
 have h:=F5 L n a hn;intro q hq;obtain⟨x,hx,rfl⟩:=Az hq;exact aa9 (h.2.2.2 x hx).1 (by rw[<- h.1];exact aP2 (λy hy=>(h.2.2.2 y hy).1) hx) h.2.1
theorem an4 {x s:Int}(h0:x.natAbs<4294967296)(h1:s.natAbs<4294967296)(hs:s≠0):sz ((x:Rat) / (s:Rat))<=1:=by
 rw[<- Xq];exact YJ (by omega) (rO h0) (rO h1)
theorem rQ (L:List Int)(n a:Nat)(hn:1<=n)(hn2:n<=1000000):Small 1 (shares L n a):=by
 have h:=F5 L n a hn;intro q hq;obtain⟨x,hx,rfl⟩:=Az hq;have:=h.2.2.2 x hx;exact an4 (by omega) (by omega) (by omega)
theorem NJ {L:List Int}{n a i:Nat}(hi:i<n):(shares L n a).getD i 0=((WM L n a).getD i 0:Rat) / (shS L n a:Rat):=by
 have h:i<(WM L n a).length:=by rw[Je];exact hi
 unfold shares;rw[getD_lt (by rw[dF];exact h),List.getElem_map,getD_lt h]
theorem YP {L:List Int}{n a i:Nat}(hn:1<=n)(hi:i<n):0<=(WM L n a).getD i 0/\(WM L n a).getD i 0<=2:=by
 exact (F5 L n a hn).2.2.2 _ (getD_mem (by rw[Je];exact hi) _)
theorem NK (L:List Int)(n a:Nat):0<=(bV L n a).1.sum/\(bV L n a).1.sum<=2*n:=by
 have hr:=Jd L n a;have h1:=an2 λx hx=>(hr x hx).2;rw[wY] at h1;exact⟨Dq λx hx=>(hr x hx).1,h1⟩
structure MS where
 trans:List (List Rat)
 stop:List Rat
 emit:List (List Rat)
 ties:List Int
 a:Nat
def aJ (cs most:Int):Nat:=(1+within cs most).toNat
def aO (cy:Int):Nat:=(1+within cy 3).toNat
def ou (L:List Int)(st:Nat):List Rat:=shares L (st+1) 0
theorem mM {α:Type}{l:List α}{x d:α}{i:Nat}(h:i<l.length):(l++[x]).getD i d=l.getD i d:=by
 rw[iZ,List.getElem?_append_left h,iZ]
theorem mO {α:Type}{l:List α}{x d:α}{i:Nat}(h:i=l.length):(l++[x]).getD i d=x:=by
 rw[iZ,h,List.getElem?_append_right (Nat.le_refl _),Nat.sub_self];rfl
theorem vF {α:Type}{l:List α}{d:α}{i:Nat}(h:l.length<=i):l.getD i d=d:=by
 rw[iZ,List.getElem?_eq_none h];rfl
structure MS.OK (L:List Int) (st sym i:Nat) (m:MS):Prop where
 lt:m.trans.length=i
 ls:m.stop.length=i
 le:m.emit.length=i
 ll:m.ties.length=i
 rowT:∀ j,j<i->(m.trans.getD j []).length=st/\iY (m.trans.getD j [])/\Small 1 (m.trans.getD j [])/\sN (m.stop.getD j 0)/\sz (m.stop.getD j 0)<=1/\iG (m.trans.getD j []++[m.stop.getD j 0])=1
 UL:∀ j,j<i->(m.emit.getD j []).length=sym/\iY (m.emit.getD j [])/\Small 1 (m.emit.getD j [])/\iG (m.emit.getD j [])=1
 tie:∀ j,j<i->0<=m.ties.getD j 0/\m.ties.getD j 0<=j/\m.emit.getD j []=m.emit.getD (m.ties.getD j 0).toNat []
 a:m.a<=L.length
theorem NM {l:List Rat}{n:Nat}(h:l.length=n+1):l.take n++[l.getD n 0]=l:=by
 rw[<- cu (by omega),List.take_of_length_le (by omega)]
theorem zX {cs most:Int}(h:1<=most/\most<=12):1<=aJ cs most/\aJ cs most<=most/\(aJ cs most:Int)=1+within cs most:=by
 have:=mJ (v:=cs) h.1;unfold aJ;omega
theorem yg (cy:Int):1<=aO cy/\aO cy<=3/\(aO cy:Int)=1+within cy 3:=by
 have:=mJ (v:=cy) (m:=3) (by decide)
 unfold aO;omega
