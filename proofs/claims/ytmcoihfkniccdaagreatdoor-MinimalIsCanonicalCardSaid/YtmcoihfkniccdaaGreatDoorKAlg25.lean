/-
  AL, part 25: a region whose order is open, by all of its orders.
-/
import Derived.Test.YtmcoihfkniccdaaGreatDoorKNuma
import Derived.Test.YtmcoihfkniccdaaGreatDoorKAlgd
set_option linter.unusedVariables false
set_option linter.unusedSimpArgs false
namespace Go.AL
open Go Go.BigFrame
abbrev vQ (q:Rat):V:=vRaw (ofQ q)
abbrev dQ (q:Rat):D:=dRaw (ofQ q)
abbrev dQs (l:List Rat):D:=.sl (l.map dQ)
abbrev dQss (l:List (List Rat)):D:=.sl (l.map dQs)
theorem vQ_zero:vQ 0=.ag [.d (dB false),.d (u32s []),.d (u32s [])]:=by unfold vQ;rw [ofQ_zero]
theorem vQ_fr {neg:Bool}{n d:Nat}(hn:n≠0)(hd:d≠0):vQ (fr neg n d)=.ag [.d (dB neg),.d (u32s (lim (n / Nat.gcd n d))),.d (u32s (if d / Nat.gcd n d=1 then [] else lim (d / Nat.gcd n d)))]:=by unfold vQ;rw [ofQ_fr hn hd]
theorem vQ_raw {r:Raw}(h:ofQ r.q=r):vQ r.q=.ag [.d (dB r.neg),.d (u32s r.num),.d (u32s r.den)]:=by unfold vQ;rw [h]
theorem vle_q0:VLe (.ag [.d (dB false),.mt,.mt]) (vQ 0):=by
 unfold vQ;rw [ofQ_zero]
 exact VLe.ag (.cons vR (.cons VLe.mt (.cons VLe.mt .nil)))
theorem vcs_q0:VCs [.d (dB false),.mt,.mt] (dQ 0).cells:=by
 unfold dQ;rw [ofQ_zero]
 exact .cons (VC.d _) (.cons VC.mt (.cons VC.mt .nil))
def Small (B:Nat)(l:List Rat):Prop:=∀ q,q ∈ l→sz q≤B
theorem Small.get {B:Nat}{l:List Rat}(h:Small B l)(hB:1≤B)(i:Nat):sz (l.getD i 0)≤B:=by
 rw [gd9]
 cases hg:l[i]? with
 | none=>rw [Option.getD_none,sz_zero];exact hB
 | some q=>exact h q (List.mem_of_getElem? hg)
theorem Small.nil {B:Nat}:Small B []:=fun _ h=>by simp at h
theorem Small.app {B:Nat}{l m:List Rat}(h:Small B l)(k:Small B m):Small B (l++m):=fun q hq=>(mp9 hq).elim (h q) (k q)
theorem Small.one {B:Nat}{q:Rat}(h:sz q≤B):Small B [q]:=fun x hx=>by rw [ms9 hx];exact h
theorem Small.cons {B:Nat}{q:Rat}{l:List Rat}(h:sz q≤B)(k:Small B l):Small B (q::l):=fun x hx=>by
 rcases List.mem_cons.1 hx with rfl|hx
 ·exact h
 ·exact k x hx
theorem Small.take {B:Nat}{l:List Rat}(h:Small B l)(i:Nat):Small B (l.take i):=fun q hq=>h q (List.mem_of_mem_take hq)
theorem Small.mono {B C:Nat}{l:List Rat}(h:Small B l)(hB:B≤C):Small C l:=fun q hq=>Nat.le_trans (h q hq) hB
section
variable {P:Program}{m:Nat}{ops:Array Oper}{K:S→Prop}{r:List Oper}{s:S}{dst:Option Nat}{ty:TypeId}{pos:String}{after:Array Edge}{op:Op}
theorem clv {f:Operand}{args:Array Operand}{ats:Array TypeId}{fid:Nat}{caps args2:List V}{res:V}(hf:s.ev f=.fn fid caps)(ha:VLes (args.toList.map s.ev++caps) args2)(hs:FSpec P fid args2 res)(h:OL P m ops K r (s.put dst res)) :
  OL P m ops K (⟨dst,.call { callee:=.value f,args:=args,argTypes:=ats },ty,pos,after,none⟩ :: r) s:=cl hs hf ha h
end
structure HM where
 sym:Nat
 st:Nat
 empty:Rat
 ini:List Rat
 trans:List (List Rat)
 stop:List Rat
 emit:List (List Rat)
 silent:List Bool
 ties:List Int
abbrev HM.cells (h:HM):List D:=[dI h.sym,dI h.st,dB (ofQ h.empty).neg,u32s (ofQ h.empty).num,u32s (ofQ h.empty).den,dQs h.ini,dQss h.trans,dQs h.stop,dQss h.emit,bools h.silent,ints h.ties]
structure HM.FormX (b B:Nat) (h:HM):Prop where
 sym0:1≤h.sym
 sym1:h.sym≤32
 st0:1≤h.st
 st1:h.st≤12
 ini:h.ini.length=h.st
 trans:h.trans.length=h.st
 trow:∀ i,i<h.st→(h.trans.getD i []).length=h.st
 stop:h.stop.length=h.st
 emit:h.emit.length=h.st
 erow:∀ i,i<h.st→(h.emit.getD i []).length=h.sym
 silent:h.silent=List.replicate h.st false
 ties:h.ties.length=h.st
 tie:∀ i,i<h.st→0≤h.ties.getD i 0∧h.ties.getD i 0<h.st
 b1:1≤B
 bB:B≤b
 zE:sz h.empty≤B
 zI:Small B h.ini
 zS:Small B h.stop
 zT:∀ i,Small B (h.trans.getD i [])
 zM:∀ i,Small B (h.emit.getD i [])
def sumQ (l:List Rat):Rat:=l.foldl (· + ·) 0
def Share (q:Rat):Prop:=0≤q∧q≤1
instance (q:Rat):Decidable (Share q):=inferInstanceAs (Decidable (_∧_))
def Shares (l:List Rat):Prop:=∀ q,q ∈ l→Share q
structure HM.GoodX (b B:Nat) (h:HM):Prop where
 form:HM.FormX b B h
 pE:Share h.empty
 pI:Shares h.ini
 pS:Shares h.stop
 pT:∀ i,Shares (h.trans.getD i [])
 pM:∀ i,Shares (h.emit.getD i [])
 sI:sumQ (h.ini++[h.empty])=1
 sT:∀ i,i<h.st→sumQ (h.trans.getD i []++[h.stop.getD i 0])=1
 sM:∀ i,i<h.st→sumQ (h.emit.getD i [])=1
 tied:∀ i j,i<h.st→j<i→h.ties.getD i 0=h.ties.getD j 0→h.emit.getD i []=h.emit.getD j []
abbrev HM.Good (B:Nat)(h:HM):Prop:=HM.GoodX 1024 B h
abbrev HM.GoodW (B:Nat)(h:HM):Prop:=HM.GoodX 1048576 B h
theorem HM.FormX.up {b c B:Nat}{h:HM}(f:HM.FormX b B h)(k:b≤c):HM.FormX c B h:=⟨f.sym0,f.sym1,f.st0,f.st1,f.ini,f.trans,f.trow,f.stop,f.emit,f.erow,f.silent,f.ties,f.tie,f.b1,Nat.le_trans f.bB k,f.zE,f.zI,f.zS,f.zT,f.zM⟩
theorem HM.GoodX.up {b c B:Nat}{h:HM}(g:HM.GoodX b B h)(k:b≤c):HM.GoodX c B h:=⟨g.form.up k,g.pE,g.pI,g.pS,g.pT,g.pM,g.sI,g.sT,g.sM,g.tied⟩
theorem HM.GoodX.w {B:Nat}{h:HM}(g:h.Good B):h.GoodW B:=g.up (by decide)
theorem Shares.get {l:List Rat}(h:Shares l)(i:Nat):Share (l.getD i 0):=by
 rw [gd9]
 cases hg:l[i]? with
 | none=>rw [Option.getD_none];exact ⟨by decide,by decide⟩
 | some q=>exact h q (List.mem_of_getElem? hg)
def sgnI (v:Int):Int:=if v<0 then -1 else if 0<v then 1 else 0
theorem cmp_len {a b:Nat}(h:(lim a).length≠(lim b).length):sgnI (((lim a).length:Int)-((lim b).length:Int))=cmpN a b:=by
 unfold sgnI cmpN
 rcases Nat.lt_or_ge (lim a).length (lim b).length with hl|hl
 ·have:a<b:=by
   rcases Nat.lt_or_ge a b with h1|h1
   ·exact h1
   ·have:=len_le h1;omega
  rw [if_pos (by omega),if_pos this]
 ·have:¬ a<b:=fun e=>by have:=len_le (Nat.le_of_lt e);omega
  have h2:a≠b:=fun e=>h (by rw [e])
  rw [if_neg (by omega),if_pos (by omega),if_neg this,if_neg h2]
theorem cmp_sgn {a b:Nat}{x y:Nat}(h:cmpN a b=if x<y then -1 else 1)(hne:x≠y):sgnI ((x:Int)-(y:Int))=cmpN a b:=by
 rw [h]
 unfold sgnI
 split <;> split <;> (try split) <;> omega
theorem plus_fin0 {o k s x y:Nat}(hk:0<k)(hx:x<k)(hy:y<k)(h:o+k*4294967296*s=x+y):o=x+y:=by
 rcases Nat.eq_zero_or_pos s with hs|hs
 ·subst hs;rw [Nat.mul_zero] at h;exact h
 ·have:=Nat.le_mul_of_pos_right (k*4294967296) hs
  generalize k*4294967296*s=m at h this
  omega
theorem plus_fin {A C out:List Nat}{s i:Nat}(hA:Lim A)(hC:Lim C)(hi:i=max A.length C.length+1)(hl:out.length=i)(h:val out+Bp i*s=val (A.take i)+val (C.take i)):val out=val A+val C:=by
 rw [take_all (A:=A) (by omega),take_all (A:=C) (by omega)] at h
 have h1:=val_lt hA
 have h2:=val_lt hC
 have h3:Bp A.length≤Bp (max A.length C.length):=Nat.pow_le_pow_right (by decide) (by omega)
 have h4:Bp C.length≤Bp (max A.length C.length):=Nat.pow_le_pow_right (by decide) (by omega)
 rw [hi,Bp_succ] at h
 exact plus_fin0 (Bp_pos _) (Nat.lt_of_lt_of_le h1 h3) (Nat.lt_of_lt_of_le h2 h4) h
theorem row_fin {A C out:List Nat}{i s:Nat}(hA:Lim A)(hi:i+C.length<out.length)(h0:out.getD (i+C.length) 0=0)
  (h:val out+s*Bp (i+C.length)=val (A.take i)*val C+A.getD i 0*Bp i*val (C.take C.length)):val (out.set (i+C.length) s)=val (A.take (i+1))*val C:=by
 have h1:=val_set hi s
 rw [h0,Nat.zero_mul,Nat.add_zero] at h1
 rw [h1]
 rw [h,List.take_length,take_succ_val hA,Nat.add_mul,Nat.mul_comm (Bp i)]
theorem set_zero {out:List Nat}{i k y:Nat}(h:∀ j,k≤j→out.getD j 0=0)(hi:i<k):∀ j,k≤j→(out.set i y).getD j 0=0:=fun j hj=>by
 rw [getD_set_ne (by omega)];exact h j hj
theorem zeros_getD (n j:Nat):(List.replicate n 0).getD j 0=0:=by
 rw [gd9,List.getElem?_replicate]
 split <;> rfl
theorem bit_eq {A:List Nat}(hA:Lim A)(i:Nat):A.getD (i / 32) 0 / 2 ^ (i % 32) % 2=val A / 2 ^ i % 2:=by
 rw [getD_eq hA,Bp_two]
 have e:2 ^ i=2 ^ (32*(i / 32))*2 ^ (i % 32):=by rw [← Nat.pow_add];congr 1;omega
 rw [e,← Nat.div_div_eq_div_mul]
 generalize val A / 2 ^ (32*(i / 32))=z
 have hs:i % 32<32:=Nat.mod_lt _ (by decide)
 generalize i % 32=s at hs
 have hp:(4294967296:Nat)=2 ^ s*(2*2 ^ (31-s)):=by rw [← Nat.pow_succ',← Nat.pow_add,show s+(31-s).succ=32 by omega]
 have key:z % 4294967296 / 2 ^ s=z / 2 ^ s % (2*2 ^ (31-s)):=by rw [hp,Nat.mod_mul_right_div_self]
 rw [key,Nat.mod_mul_right_mod]
theorem shift_bit (a i:Nat):a / 2 ^ i=2*(a / 2 ^ (i+1))+a / 2 ^ i % 2:=by
 rw [Nat.pow_succ,← Nat.div_div_eq_div_mul];omega
theorem div_step {a b Q r i:Nat}(hb:0<b)(h:a / 2 ^ (i+1)=Q*b+r)(hr:r<b) :
  (r+r+a / 2 ^ i % 2<b→a / 2 ^ i=(2*Q)*b+(r+r+a / 2 ^ i % 2))∧(b≤r+r+a / 2 ^ i % 2→a / 2 ^ i=(2*Q+1)*b+(r+r+a / 2 ^ i % 2-b)∧r+r+a / 2 ^ i % 2-b<b):=by
 have h1:=shift_bit a i
 have h2:a / 2 ^ i % 2<2:=Nat.mod_lt _ (by decide)
 generalize a / 2 ^ i % 2=t at *
 have e1:2*Q*b=2*(Q*b):=Nat.mul_assoc ..
 have e2:(2*Q+1)*b=2*(Q*b)+b:=by rw [Nat.add_mul,e1,Nat.one_mul]
 rw [e1,e2]
 constructor
 ·intro h3;omega
 ·intro h3;omega
theorem limb_low {q:List Nat}{Q i:Nat}(hq:Lim q)(h:val q=Q*2 ^ (i+1)):∃ z,q.getD (i / 32) 0=z*2 ^ (i % 32+1):=by
 rw [getD_eq hq,Bp_two,h]
 have hs:i % 32<32:=Nat.mod_lt _ (by decide)
 have e:2 ^ (i+1)=2 ^ (i % 32+1)*2 ^ (32*(i / 32)):=by rw [← Nat.pow_add];congr 1;omega
 rw [e,← Nat.mul_assoc,Nat.mul_div_cancel _ (Nat.pow_pos (by decide))]
 generalize i % 32=s at hs
 have hp:(4294967296:Nat)=2 ^ (s+1)*2 ^ (31-s):=by rw [← Nat.pow_add,show s+1+(31-s)=32 by omega]
 rw [hp,Nat.mul_comm Q,Nat.mul_mod_mul_left,Nat.mul_comm]
 exact ⟨_,rfl⟩
theorem or_bit {z s:Nat}:z*2 ^ (s+1) ||| 2 ^ s=z*2 ^ (s+1)+2 ^ s:=by
 rw [Nat.mul_comm,← Nat.two_pow_add_eq_or_of_lt (Nat.pow_lt_pow_right (by decide) (by omega))]
theorem set_bit {q:List Nat}{Q i:Nat}(hl:i / 32<q.length)(hq:Lim q)(h:val q=Q*2 ^ (i+1)) :
  val (q.set (i / 32) (q.getD (i / 32) 0 ||| 2 ^ (i % 32)))=(2*Q+1)*2 ^ i∧Lim (q.set (i / 32) (q.getD (i / 32) 0 ||| 2 ^ (i % 32))):=by
 obtain ⟨z,hz⟩:=limb_low hq h
 have hs:i % 32<32:=Nat.mod_lt _ (by decide)
 have hb:2 ^ (i % 32)<2 ^ 32:=Nat.pow_lt_pow_right (by decide) hs
 have hlt:q.getD (i / 32) 0 ||| 2 ^ (i % 32)<4294967296:=Nat.or_lt_two_pow (n:=32) (hq.getD _) hb
 refine ⟨?_,hq.set _ hlt⟩
 have h1:=val_set hl (q.getD (i / 32) 0 ||| 2 ^ (i % 32))
 have e:q.getD (i / 32) 0 ||| 2 ^ (i % 32)=q.getD (i / 32) 0+2 ^ (i % 32):=by rw [hz,or_bit]
 rw [e] at h1 ⊢
 rw [Nat.add_mul,h] at h1
 have e2:2 ^ (i % 32)*Bp (i / 32)=2 ^ i:=by rw [Bp_two,← Nat.pow_add];congr 1;omega
 rw [e2] at h1
 have e3:(2*Q+1)*2 ^ i=Q*2 ^ (i+1)+2 ^ i:=by rw [Nat.add_mul,Nat.one_mul,Nat.pow_succ,Nat.mul_comm 2 Q,Nat.mul_assoc,Nat.mul_comm 2 (2 ^ i)]
 rw [e3];omega
theorem div_start (a:Nat):a / 2 ^ (32*(lim a).length)=0:=Nat.div_eq_of_lt (by rw [← Bp_two];exact lt_lim a)
theorem div_fin {a b Q r:Nat}(h:a / 2 ^ 0=Q*b+r)(hr:r<b):Q=a / b∧r=a % b:=by
 have h1:=(Nat.div_mod_unique (a:=a) (c:=r) (d:=Q) (b:=b) (by omega)).2 ⟨by rw [Nat.mul_comm b];simp at h;omega,hr⟩
 exact ⟨h1.1.symm,h1.2.symm⟩
theorem one_val {A:List Nat}(hA:Lim A):(A=[1]) ↔ (A.length=1∧A.getD 0 0=1):=by
 constructor
 ·intro h;subst h;exact ⟨rfl,rfl⟩
 ·intro ⟨h1,h2⟩
  match A,h1,h2 with
  | [x],_,h2=>simp at h2;rw [h2]
theorem lim_eq_one {n:Nat}:(lim n=[1]) ↔ n=1:=by
 constructor
 ·intro h
  have:=val_lim n
  rw [h] at this
  simp [val_cons,val_nil] at this
  omega
 ·intro h;subst h;exact lim_small (by decide) (by decide)
section
variable {α:Type}
def idx1 (p:α→Bool)(l:List α):Int:=if l.any p then (l.findIdx p:Int) else -1
theorem getD_lt {l:List α}{i:Nat}(h:i<l.length)(d:α):l.getD i d=l[i]:=by rw [gd9,ge9 h];rfl
theorem getD_mem {l:List α}{i:Nat}(h:i<l.length)(d:α):l.getD i d ∈ l:=by rw [getD_lt h];exact List.getElem_mem h
theorem mem_getD {l:List α}{x:α}(h:x ∈ l)(d:α):∃ i,i<l.length∧l.getD i d=x:=by
 obtain ⟨i,hi,e⟩:=List.mem_iff_getElem.1 h
 exact ⟨i,hi,by rw [getD_lt hi];exact e⟩
theorem idx1_found {p:α→Bool}{l:List α}{i:Nat}(hi:i<l.length)(d:α)(hp:p (l.getD i d)=true)(hb:∀ j,j<i→p (l.getD j d)=false):idx1 p l=i:=by
 unfold idx1
 rw [if_pos (List.any_eq_true.2 ⟨_,getD_mem hi d,hp⟩)]
 have:l.findIdx p=i:=(List.findIdx_eq hi).2 ⟨by rw [getD_lt hi] at hp;exact hp,fun j hj=>by have:=hb j hj;rw [getD_lt (by omega)] at this;exact this⟩
 rw [this]
theorem idx1_none {p:α→Bool}{l:List α}(d:α)(hb:∀ j,j<l.length→p (l.getD j d)=false):idx1 p l = -1:=by
 unfold idx1
 rw [if_neg]
 intro h
 obtain ⟨x,hx,hp⟩:=List.any_eq_true.1 h
 obtain ⟨i,hi,rfl⟩:=mem_getD hx d
 rw [hb i hi] at hp;cases hp
theorem idx1_any (p:α→Bool)(l:List α):decide (0≤idx1 p l)=l.any p:=by
 unfold idx1
 split
 ·rename_i h;rw [h];simp
 ·rename_i h;rw [Bool.not_eq_true] at h;rw [h];rfl
theorem any_false {p:α→Bool}{l:List α}(h:∀ x,x ∈ l→p x=false):l.any p=false:=by
 rw [List.any_eq_false];intro x hx;rw [h x hx];decide
end
theorem sz_one:sz 1=1:=by
 unfold sz
 rw [show (1:Rat).num.natAbs=1 from rfl,show (1:Rat).den=1 from rfl,lim_small (by decide) (by decide)]
 rfl
abbrev cellsQ (q:Rat):List V:=[.d (dB (ofQ q).neg),.d (u32s (ofQ q).num),.d (u32s (ofQ q).den)]
theorem vles_q:VLes [.d (dB false),.mt,.mt] (cellsQ 0):=by
 unfold cellsQ;rw [ofQ_zero]
 exact .cons vR (.cons VLe.mt (.cons VLe.mt .nil))
theorem dQ_len {l:List Rat}:∀ y,y ∈ l.map dQ→y.cells.length=3:=fun y hy=>by obtain ⟨a,_,rfl⟩:=mm9 hy;rfl
theorem vd_q {q:Rat}:VD (vQ q) (dQ q):=VD.ag (.cons (VC.d _) (.cons (VC.d _) (.cons (VC.d _) .nil)))
theorem list_eq_getD {α:Type}{l m:List α}(hl:l.length=m.length)(d:α)(h:∀ j,j<l.length→l.getD j d=m.getD j d):l=m:=by
 refine List.ext_getElem hl fun i h1 h2=>?_
 have:=h i h1
 rwa [getD_lt h1,getD_lt h2] at this
def within (v m:Int):Int:=if m<1 then 0 else v % m
theorem within_pos {v m:Int}(h:1≤m)(h0:¬ v.tmod m<0):v.tmod m=within v m:=by
 unfold within
 rw [if_neg (by omega)]
 have h1:=Int.tmod_eq_emod (a:=v) (b:=m)
 have h2:=Int.emod_nonneg v (show m≠0 by omega)
 have h3:=Int.emod_lt_of_pos v (show 0<m by omega)
 split at h1 <;> omega
theorem within_neg {v m:Int}(h:1≤m)(h0:v.tmod m<0):v.tmod m+m=within v m:=by
 unfold within
 rw [if_neg (by omega)]
 have h1:=Int.tmod_eq_emod (a:=v) (b:=m)
 have h2:=Int.emod_nonneg v (show m≠0 by omega)
 have h3:=Int.emod_lt_of_pos v (show 0<m by omega)
 split at h1 <;> omega
theorem tmod_lt {v m:Int}(h:1≤m):-m<v.tmod m∧v.tmod m<m:=by
 have h1:=Int.tmod_eq_emod (a:=v) (b:=m)
 have h2:=Int.emod_nonneg v (show m≠0 by omega)
 have h3:=Int.emod_lt_of_pos v (show 0<m by omega)
 split at h1
 ·omega
 ·rename_i hc
  have:v % m≠0:=fun e=>hc (.inr (Int.dvd_of_emod_eq_zero e))
  omega
theorem div_sz {x s:Int}(h0:x.natAbs<4294967296)(h1:s.natAbs<4294967296)(hs:s≠0):sz ((x:Rat) / (s:Rat))≤1:=by
 rw [← fr_int]
 exact sz_fr (by omega) (len_small h0) (len_small h1)
structure MS where
 trans:List (List Rat)
 stop:List Rat
 emit:List (List Rat)
 ties:List Int
 a:Nat
structure MS.OK (L:List Int) (st sym i:Nat) (m:MS):Prop where
 lt:m.trans.length=i
 ls:m.stop.length=i
 le:m.emit.length=i
 ll:m.ties.length=i
 rowT:∀ j,j<i→(m.trans.getD j []).length=st∧Shares (m.trans.getD j [])∧Small 1 (m.trans.getD j [])∧Share (m.stop.getD j 0)∧sz (m.stop.getD j 0)≤1∧sumQ (m.trans.getD j []++[m.stop.getD j 0])=1
 rowE:∀ j,j<i→(m.emit.getD j []).length=sym∧Shares (m.emit.getD j [])∧Small 1 (m.emit.getD j [])∧sumQ (m.emit.getD j [])=1
 tie:∀ j,j<i→0≤m.ties.getD j 0∧m.ties.getD j 0≤j∧m.emit.getD j []=m.emit.getD (m.ties.getD j 0).toNat []
 a:m.a≤L.length
theorem mem1_get {i:Nat}{blk b:Blk}{id:Nat}(h:mem1 i blk id=some b):id=i∧b=blk:=by
 unfold mem1 at h
 split at h
 ·rename_i e;exact ⟨e,by cases h;rfl⟩
 ·cases h
theorem mem1_self (i:Nat)(blk:Blk):mem1 i blk i=some blk:=by unfold mem1;rw [if_pos rfl]
theorem Sim.ren1 {F:Hp}{i j:Nat}{blk:Blk}{w:World}(h:Sim F (mem1 j blk) w):Sim F (mem1 i blk) w :=
 ⟨h.imm,fun id b hb=>by obtain ⟨_,rfl⟩:=mem1_get hb;exact h.own j _ (mem1_self _ _),fun id b k hb hk=>by obtain ⟨_,rfl⟩:=mem1_get hb;exact h.apart j _ k (mem1_self _ _) hk,
  fun a b ba bb k ha hb _ _=>by rw [(mem1_get ha).1,(mem1_get hb).1]⟩
theorem Owned.ren1 {i j:Nat}{blk:Blk}{k:Nat}(h:Owned (mem1 j blk) k):Owned (mem1 i blk) k:=by
 obtain ⟨id,b,hb,hk⟩:=h
 obtain ⟨_,rfl⟩:=mem1_get hb
 exact ⟨i,_,mem1_self _ _,hk⟩
theorem FSpecM.ren1 {P:Program}{f i j:Nat}{args args2:List V}{blk blk':Blk}{res:V}(h:FSpecM P f args (mem1 i blk) res (mem1 i blk'))(ha:VLes args2 args):FSpecM P f args2 (mem1 j blk) res (mem1 j blk') :=
 ⟨h.1,fun F w vals hS hv=>(h.2 F w vals hS.ren1 (simVs_le hv ha)).mono fun e w' ⟨v,F',he,hA,hs⟩ =>
  ⟨v,F',he,⟨hA.grow.mono fun k hk=>hk.ren1,hA.le,hA.sim.ren1,fun k a b=>(hA.new k a b).imp (fun x=>x) Owned.ren1,fun k hk=>(hA.mnew k hk.ren1).imp (fun x=>x) Owned.ren1⟩,hs⟩⟩
def V.frb (id b:Nat)(ds:List D):V→V
 | .ptr i b2 off=>if i=id then (if b2=b then .ref (ds.drop off) else .ptr i b2 off) else .ptr i b2 off
 | v=>v
def Blk.frb (id b:Nat)(ds:List D):Blk→Blk
 | .box x t cells=>.box x t (cells.map (V.frb id b ds))
 | k=>k
theorem V.frb_sim {F F':Hp}{id b:Nat}{ds:List D}(hle:Hp.le F F')(h:∀ off,SimV F' (.pointer (some ⟨b,off,none⟩)) (.ref (ds.drop off))){u:Value}{v:V}(hv:SimV F u v):SimV F' u (v.frb id b ds):=by
 cases v with
 | ptr i b2 off =>
  simp only [V.frb]
  split
  ·split
   ·rename_i e
    subst e
    cases hv
    exact h off
   ·exact hv.mono hle
  ·exact hv.mono hle
 | _=>exact hv.mono hle
theorem freeze_box {F:Hp}{M:Mem}{w:World}(h:Sim F M w){id b t:Nat}{cells:List V}{ds:List D}(hM:M id=some (.box b t cells))(hd:VCs cells ds) :
  ∃ F',Hp.le F F' ∧ Sim F' (upd M id none) w∧(∀ k,F k=none→F' k≠none→Owned M k)∧∀ off,SimV F' (.pointer (some ⟨b,off,none⟩)) (.ref (ds.drop off)):=by
 have hin:∀ id' blk' k,(upd M id none) id' = some blk' → blk'.owns k→id' ≠ id∧M id' = some blk':=fun id' blk' k hm hk=>by
  unfold upd at hm
  split at hm
  ·cases hm
  ·rename_i hne;exact ⟨hne,hm⟩
 obtain ⟨cs,hh,hl,h1,hr⟩:=h.own id _ hM
 have hFb:F b=none:=h.apart id _ b hM rfl
 have hle:Hp.le F (F.add b (.cells cs.toArray t (0,0))):=fun k o hk=>by
  unfold Hp.add
  split
  ·rename_i e';subst e';rw [hFb] at hk;cases hk
  ·exact hk
 refine ⟨F.add b (.cells cs.toArray t (0,0)),hle,⟨fun k o hk=>?_,fun id' blk' hm=>?_,fun id' blk' k hm hk=>?_,fun i j bi bj k hi hj ki kj=>?_⟩,fun k hk hn=>?_,fun off=>.ref (us:=fun k=>cs.getD (off+k) undef) fun k d hd'=>?_⟩
 ·unfold Hp.add at hk
  split at hk
  ·rename_i e';subst e';cases hk;exact hh
  ·exact h.imm k o hk
 ·have hm':M id' = some blk':=by unfold upd at hm;split at hm;cases hm;exact hm
  exact (h.own id' blk' hm').keep hle fun k _=>rfl
 ·obtain ⟨hne,hm'⟩:=hin id' blk' k hm hk
  unfold Hp.add
  split
  ·rename_i e';subst e'
   exact absurd (h.inj id' id _ _ _ hm' hM hk rfl) hne
  ·exact h.apart id' blk' k hm' hk
 ·exact h.inj i j bi bj k (hin i bi k hi ki).2 (hin j bj k hj kj).2 ki kj
 ·unfold Hp.add at hn
  split at hn
  ·rename_i e';subst e';exact ⟨id,_,hM,rfl⟩
  ·exact absurd hk hn
 ·rw [List.getElem?_drop] at hd'
  obtain ⟨c,hc,hcd⟩:=hd.get (off+k) d hd'
  have hlt:off+k<cs.length:=by rw [hl];exact (List.getElem?_eq_some_iff.1 hc).1
  have hu:cs[off+k]? = some (cs.getD (off+k) undef):=by rw [gd9,ge9 hlt];rfl
  refine ⟨?_,h1 _ (List.mem_of_getElem? hu),((hcd F _ (hr (off+k) c _ hc hu)).1).mono hle⟩
  rw [addr_add]
  simp only [cellF,Hp.add,if_true,List.getElem?_toArray,hu]
  rfl
theorem AW.freezeBox {P:Program}{E:Env}{k:Code}{Q:Exit→S→Prop}{s:S}(id:Nat){b t:Nat}{cells:List V}(ds:List D)(hM:s.M id=some (.box b t cells))(hd:VCs cells ds)
  (h:AW P E k Q ⟨fun t=>(s.ρ t).frb id b ds,fun j=>if j=id then none else (s.M j).map (Blk.frb id b ds)⟩):AW P E k Q s:=fun F a w hr=>by
 obtain ⟨F',h1,h2,h3,h4⟩:=freeze_box hr.sim hM hd
 refine h F' a w ?_
 have part:∀ j blk,(fun j=>if j=id then none else (s.M j).map (Blk.frb id b ds)) j=some blk→∃ bl,(upd s.M id none) j=some bl∧s.M j=some bl∧blk=bl.frb id b ds:=fun j blk hj=>by
  simp only at hj
  split at hj
  ·cases hj
  ·rename_i hne
   cases hq:s.M j with
   | none=>rw [hq] at hj;cases hj
   | some bl=>rw [hq] at hj;cases hj;exact ⟨bl,by rw [upd_ne _ _ hne];exact hq,rfl,rfl⟩
 have ow:∀ (bl:Blk) (k:Nat),(bl.frb id b ds).owns k→bl.owns k:=fun bl k hk=>by cases bl <;> exact hk
 refine ⟨⟨h2.imm,fun j blk hj=>?_,fun j blk k hj ho=>?_,fun i j bi bj k hi hj hoi hoj=>?_⟩,hr.grow,hr.f0.trans h1,fun k p q=>?_,fun j blk k hj ho=>?_,hr.size,hr.defers,fun t=>V.frb_sim h1 h4 (hr.slots t)⟩
 ·obtain ⟨bl,hb,hb0,rfl⟩:=part j blk hj
  have ok:=h2.own j bl hb
  cases bl with
  | row=>exact ok
  | pool=>exact ok
  | mat=>exact ok
  | box x t cells =>
   obtain ⟨cs,g1,g2,g3,g4⟩:=hr.sim.own j _ hb0
   refine ⟨cs,g1,by simpa using g2,g3,fun i v u hv hu=>?_⟩
   rw [List.getElem?_map] at hv
   cases hq:cells[i]? with
   | none=>rw [hq] at hv;cases hv
   | some v0=>rw [hq] at hv;cases hv;exact V.frb_sim h1 h4 (g4 i v0 u hq hu)
 ·obtain ⟨bl,hb,_,rfl⟩:=part j blk hj
  exact h2.apart j bl k hb (ow bl k ho)
 ·obtain ⟨b1,hb1,_,rfl⟩:=part i bi hi
  obtain ⟨b2,hb2,_,rfl⟩:=part j bj hj
  exact h2.inj i j b1 b2 k hb1 hb2 (ow _ _ hoi) (ow _ _ hoj)
 ·cases hf:F k with
  | none =>
   obtain ⟨i,bl,hi,ho⟩:=h3 k hf q
   exact hr.mnew i bl k hi ho
  | some o=>exact hr.fnew k p (by rw [hf];simp)
 ·obtain ⟨bl,_,hb,rfl⟩:=part j blk hj
  exact hr.mnew j bl k hb (ow _ _ ho)
theorem frb_self {id b off:Nat}{ds:List D}:V.frb id b ds (.ptr id b off)=.ref (ds.drop off):=by simp [V.frb]
section
variable {P:Program}
def OT (P:Program)(ops:Array Oper)(K:S→Prop):Nat→Array Bool→S→Prop
 | 0,listed,s=>Region.ready .any ops listed=[]∧K s
 | n+1,listed,s=>Region.ready .any ops listed≠[]∧∀ i,i ∈ Region.ready .any ops listed→∃ o,ops[i]? = some o∧OG P 0 ops o (OT P ops K n (listed.setIfInBounds i true)) s
def OTs (P:Program)(ops:Array Oper)(K:S→Prop)(n:Nat)(listed:Array Bool)(s:S):List Nat→List Oper→Prop
 | [],[]=>True
 | i::l,o::os=>OL P 0 ops (OT P ops K n (listed.setIfInBounds i true)) [o] s∧OTs P ops K n listed s l os
 | _,_=>False
theorem OTs.get {ops:Array Oper}{K:S→Prop}{n:Nat}{listed:Array Bool}{s:S}:∀ (l:List Nat) (os:List Oper),l.map (fun i=>ops[i]?)=os.map some→OTs P ops K n listed s l os→∀ i,i ∈ l→∃ o,ops[i]? = some o∧OG P 0 ops o (OT P ops K n (listed.setIfInBounds i true)) s
 | [],_,_,_,i,hi=>by simp at hi
 | j::l,[],h,_,_,_=>by simp at h
 | j::l,o::os,h,ht,i,hi=>by
  simp only [List.map_cons,List.cons.injEq] at h
  rcases List.mem_cons.1 hi with rfl|hi
  ·exact ⟨o,h.1,ht.1⟩
  ·exact OTs.get l os h.2 ht.2 i hi
theorem OT.node {ops:Array Oper}{K:S→Prop}{n:Nat}{listed:Array Bool}{s:S}(l:List Nat){os:List Oper}(h:Region.ready .any ops listed=l)(hne:l≠[])(ho:l.map (fun i=>ops[i]?)=os.map some)(ht:OTs P ops K n listed s l os):OT P ops K (n+1) listed s :=
 ⟨by rw [h];exact hne,fun i hi=>OTs.get l os ho ht i (by rw [← h];exact hi)⟩
theorem OT.leaf {ops:Array Oper}{K:S→Prop}{listed:Array Bool}{s:S}(h:Region.ready .any ops listed=[])(hk:K s):OT P ops K 0 listed s:=⟨h,hk⟩
end
end Go.AL
