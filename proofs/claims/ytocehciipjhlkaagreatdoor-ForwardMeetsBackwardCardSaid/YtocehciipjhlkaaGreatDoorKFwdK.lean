/-
  Walks of package forward: the sanity check (printed by mk2.py).
-/
import Derived.Test.YtocehciipjhlkaaGreatDoorKNumb
import Derived.Test.YtocehciipjhlkaaGreatDoorKMade
import Derived.Test.YtocehciipjhlkaaGreatDoorKMod34
import Derived.KernelRfl
import Derived.Test.YtocehciipjhlkaaGreatDoorKMod34b
import Derived.Test.YtocehciipjhlkaaGreatDoorKFwdC
set_option linter.unusedVariables false
set_option linter.unusedSimpArgs false
namespace Go.AL
open Go Go.BigFrame
structure Span where
 lo:Rat
 len:Rat
def Span.part (s:Span)(ch:List Rat)(k:Nat):Span:=⟨(ch.take k).foldl (fun a p=>a+s.len*p) s.lo,s.len*ch.getD k 0⟩
def Span.inside (s t:Span):Prop:=t.lo≤s.lo∧s.lo+s.len≤t.lo+t.len
instance (s t:Span):Decidable (s.inside t):=inferInstanceAs (Decidable (_∧_))
def Span.one:Span:=⟨0,1⟩
def Sure (read s:Span)(ch:List Rat)(k:Nat):Prop:=0<ch.getD k 0∧read.inside (s.part ch k)
instance (read s:Span) (ch:List Rat) (k:Nat):Decidable (Sure read s ch k):=inferInstanceAs (Decidable (_∧_))
structure Rd where
 used:Nat
 read:Span
def Rd.step (bits:List Int)(r:Rd):Rd:=⟨r.used+1,⟨if bits.getD r.used 0=1 then r.read.lo+r.read.len*(1 / 2) else r.read.lo,r.read.len*(1 / 2)⟩⟩
def HM.next (h:HM):Option Nat→List Rat
 | none=>h.ini++[h.empty]
 | some i=>h.trans.getD i []++[h.stop.getD i 0]
inductive Drawing where
 | err (e:Int)
 | run (states word:List Int) (used:Nat)
def partLo (s:Span)(l:List Rat):Rat:=l.foldl (fun a p=>a+s.len*p) s.lo
theorem foldl_sz {B c:Nat}{q:Rat}(hq:sz q≤c):∀ (l:List Rat) (a:Rat),Small B l→sz (l.foldl (fun a p=>a+q*p) a)≤sz a+l.length*(c+B+1)
 | [],a,_=>by simp
 | x::l,a,h=>by
  rw [List.foldl_cons,List.length_cons,Nat.add_mul]
  have h1:=foldl_sz hq l (a+q*x) fun y hy=>h y (List.mem_cons_of_mem _ hy)
  have h2:=sz_add a (q*x)
  have h3:=sz_mul q x
  have h4:=h x mc9
  omega
theorem partLo_sz {B c:Nat}{s:Span}{l:List Rat}(hq:sz s.len≤c)(h:Small B l):sz (partLo s l)≤sz s.lo+l.length*(c+B+1):=foldl_sz hq l s.lo h
structure SpanOK (t:Nat) (s:Span):Prop where
 lo:sz s.lo≤1+t*40000000
 len:sz s.len≤1+t*1024
theorem SpanOK.part {t:Nat}{s:Span}{l:List Rat}(h:SpanOK t s)(ht:t≤600)(hl:Small 1024 l)(hn:l.length≤40)(k:Nat)(hk:k<l.length):SpanOK (t+1) (s.part l k):=by
 have h1:=partLo_sz (B:=1024) (s:=s) (l:=l.take k) h.len (hl.take k)
 have h2:(l.take k).length≤40:=by rw [List.length_take];omega
 have h3:=sz_mul s.len (l.getD k 0)
 have h4:=hl.get (by decide) k
 have h5:=h.lo
 have h6:=h.len
 have h7:(l.take k).length*(1+t*1024+1024+1)≤40*(1+600*1024+1024+1):=Nat.mul_le_mul h2 (by omega)
 refine ⟨?_,?_⟩
 ·show sz (partLo s (l.take k))≤_
  omega
 ·show sz (s.len*l.getD k 0)≤_
  omega
structure RdOK (bits:List Int) (r:Rd):Prop where
 used:r.used≤bits.length
 bits:bits.length≤2000
 lo:sz r.read.lo≤1+3000*r.used
 len:sz r.read.len≤1+r.used
theorem half_eq:((1:Int):Rat) / ((2:Int):Rat)=1 / 2:=by rw [show ((1:Int):Rat)=1 from rfl,show ((2:Int):Rat)=2 from rfl]
theorem half_sz:sz (1 / 2)≤1:=by rw [← half_eq];exact div_sz (by decide) (by decide) (by decide)
theorem RdOK.step {bits:List Int}{r:Rd}(h:RdOK bits r)(hu:r.used<bits.length):RdOK bits (r.step bits):=by
 have h1:=h.lo
 have h2:=h.len
 have h3:=h.bits
 have h4:=sz_mul r.read.len (1 / 2)
 have h5:=half_sz
 have h6:=sz_add r.read.lo (r.read.len*(1 / 2))
 generalize sz (1 / 2)=a5 at h4 h5
 refine ⟨hu,h3,?_,?_⟩
 ·rw [show (r.step bits).used=r.used+1 from rfl,show (r.step bits).read.lo=(if bits.getD r.used 0=1 then r.read.lo+r.read.len*(1 / 2) else r.read.lo) from rfl]
  generalize r.read.lo+r.read.len*(1 / 2)=x6 at h6 ⊢
  generalize r.read.len*(1 / 2)=x4 at h4 h6
  split <;> omega
 ·rw [show (r.step bits).used=r.used+1 from rfl,show (r.step bits).read.len=r.read.len*(1 / 2) from rfl]
  omega
def lexI:List Int→List Int→Int
 | x::xs,y::ys=>if x<y then -1 else if y<x then 1 else lexI xs ys
 | _,_=>0
def cmpI (a b:List Int):Int:=if a.length≠b.length then (if a.length<b.length then -1 else 1) else lexI a b
theorem lexI_step {a b:List Int}{i:Nat}(ha:i<a.length)(hb:i<b.length):lexI (a.drop i) (b.drop i)=if a.getD i 0<b.getD i 0 then -1 else if b.getD i 0<a.getD i 0 then 1 else lexI (a.drop (i+1)) (b.drop (i+1)):=by
 rw [List.drop_eq_getElem_cons ha,List.drop_eq_getElem_cons hb,lexI,getD_lt ha,getD_lt hb]
def coinHM:HM:=⟨2,1,0,[1],[[1 / 2]],[1 / 2],[[1 / 2,1 / 2]],[false],[0]⟩
end Go.AL
namespace Go.Proofs.YtocehciipjhlkaaGreatDoor
open Go Go.AL
theorem ref05_Compare {l m:List Int}(nl:l.length≤9223372036854775807):FSpec P F.ref05_Compare [.d (ints l),.d (ints m)] (.d (dI (cmpI l m))):=by
 refine FSpec.intro fn.ref05_Compare (by rfl) (by rfl) (nb9 (by rfl)) fun E hE=>(AW.sg hE rfl (asD rfl (OL.nil (AW.seq (AW.sg hE rfl (mvD rfl (lnL sl.ints rfl rfl ?_)))))))
 refine mvD rfl (lnL sl.ints rfl rfl (c_neq rfl rfl rfl (OL.nil (AW.cond rfl (fun h10=>?_) (fun h10=>?_)))))
 ·have hl:l.length≠m.length:=by simp at h10;omega
  refine AW.seq (AW.sg hE rfl (mvD rfl (lnL sl.ints rfl rfl (mvD rfl (lnL sl.ints rfl rfl (c_lss rfl rfl rfl (OL.nil ?_)))))))
  refine AW.cond rfl (fun h15=>?_) (fun h15=>?_)
  ·try simp only [dx9] at h15
   exact AW.sg hE rfl (asD rfl (OL.nil (AW.ret (RetQ.r ⟨_,.tmp rfl .nil,.le (VLe.int (by unfold cmpI;rw [if_pos hl,if_pos (by omega)]))⟩))))
  ·try simp only [dx9] at h15
   exact AW.skip (AW.sg hE rfl (asD rfl (OL.nil (AW.ret (RetQ.r ⟨_,.tmp rfl .nil,.le (VLe.int (by unfold cmpI;rw [if_pos hl,if_neg (by omega)]))⟩)))))
 ·have hl:l.length=m.length:=by simp at h10;omega
  refine AW.skip (AW.seq (AW.sg hE rfl (asD rfl (OL.nil (AW.block ?_)))))
  refine AW.whileK (α:=Nat) [(0,_),(1,_)] [] (fun i=>[(5,.d (dI i))]) (fun i=>[]) (fun i=>i≤l.length∧lexI (l.drop i) (m.drop i)=lexI l m) (fun i=>l.length-i) 0 (.cons (knD rfl) (.cons (knD rfl) .nil)) .nil ⟨⟨Nat.zero_le _,rfl⟩,.rq1,.nil⟩ ?_
  rintro i ⟨h1,h2⟩
  refine AW.seq (AW.sg hE rfl (mvD rfl (mvD rfl (lnL sl.ints rfl rfl (c_lss rfl rfl rfl (OL.nil (AW.cond rfl (fun h19=>?_) (fun h19=>?_))))))))
  ·try simp only [dx9] at h19
   refine AW.skip (AW.seq (AW.block (AW.seq (AW.seq (AW.dg 1 [0,1,2,3,4,5,6,7,8] order_free hE rfl (by kernel_rfl) (OI.of_OL (os:=[_,_,_,_,_,_,_,_,_]) rfl ?_))))))
   refine mvD rfl (mvD rfl (ixLn sl.ints 0 rfl rfl (by omega) rfl rfl (ldRC ce.int rfl (mvD rfl (mvD rfl (ixLn sl.ints 0 rfl rfl (by omega) rfl rfl (ldRC ce.int rfl ?_)))))))
   refine c_lss rfl rfl rfl (OL.nil (AW.cond rfl (fun h30=>?_) (fun h30=>?_)))
   ·try simp only [dx9] at h30
    exact AW.sg hE rfl (asD rfl (OL.nil (AW.ret (RetQ.r ⟨_,.tmp rfl .nil,.le (VLe.int (by unfold cmpI;rw [if_neg (by omega),← h2,lexI_step (by omega) (by omega),if_pos h30]))⟩))))
   ·try simp only [dx9] at h30
    refine AW.skip (AW.seq (AW.dg 1 [0,1,2,3,4,5,6,7,8] order_free hE rfl (by kernel_rfl) (OI.of_OL (os:=[_,_,_,_,_,_,_,_,_]) rfl ?_)))
    refine mvD rfl (mvD rfl (ixLn sl.ints 0 rfl rfl (by omega) rfl rfl (ldRC ce.int rfl (mvD rfl (mvD rfl (ixLn sl.ints 0 rfl rfl (by omega) rfl rfl (ldRC ce.int rfl ?_)))))))
    refine c_gtr rfl rfl rfl (OL.nil (AW.cond rfl (fun h39=>?_) (fun h39=>?_)))
    ·try simp only [dx9] at h39
     exact AW.sg hE rfl (asD rfl (OL.nil (AW.ret (RetQ.r ⟨_,.tmp rfl .nil,.le (VLe.int (by unfold cmpI;rw [if_neg (by omega),← h2,lexI_step (by omega) (by omega),if_neg h30,if_pos h39]))⟩))))
    ·try simp only [dx9] at h39
     exact AW.skip (AW.rg hE rfl (mvD rfl (add_i64 rfl rfl (by omega) (asD rfl (OL.nil (AW.again (x:=i) (i+1) (by omega) ⟨⟨by omega,by rw [lexI_step (by omega) (by omega),if_neg h30,if_neg h39] at h2;exact h2⟩,Knows.app .rq2 .rq1,.nil⟩))))))
  ·try simp only [dx9] at h19
   exact AW.exit (AW.sg hE rfl (asD rfl (OL.nil (AW.ret (RetQ.r ⟨_,.tmp rfl .nil,.le (VLe.int (by unfold cmpI;rw [if_neg (by omega),← h2,List.drop_eq_nil_of_le (by omega)];simp [lexI]))⟩)))))
theorem ref33_Whole {n:Int}(hn:-9223372036854775808≤n∧n≤9223372036854775807):FSpec P F.ref33_Whole [.d (dI n)] (vQ (n:Rat)):=by
 refine FSpec.intro fn.ref33_Whole (by rfl) (by rfl) (nb9 (by rfl)) fun E hE=>(AW.sg hE rfl (al z.Rat rfl fun b2=>(OL.nil (AW.sg hE rfl (mvD rfl (clv rfl .rq2 (ref_Make hn (by decide) (by decide)) ?_))))))
 rw [show (n:Rat) / ((1:Int):Rat)=(n:Rat) by rw [show ((1:Int):Rat)=1 from rfl];grind]
 refine mvT rfl (ex rfl rfl (ex rfl rfl (al z.Rat rfl fun b3=>(sto sz.Rat rfl rfl rfl rfl rfl (nb9 rfl) (cells2:=[_,_,_]) rfl (asD rfl (OL.nil (AW.sg hE rfl ?_)))))))
 exact ldPA ag.Rat rfl rfl (vs:=[_,_,_]) rfl (nb9 rfl) (sto sz.Rat rfl rfl rfl rfl rfl (nb9 rfl) (cells2:=[_,_,_]) rfl (OL.nil (AW.ret (RetQ.r ⟨_,.cellA rfl rfl ag.Rat (nb9 rfl) .nil,.ag (.cons (.le vR) (.cons (.le vR) (.cons (.le vR) .nil)))⟩))))
theorem ref33_Whole1:FSpec P F.ref33_Whole [.d (dI 1)] (vQ 1):=by
 have h:=ref33_Whole (n:=1) (by decide)
 rw [show ((1:Int):Rat)=1 from rfl] at h;exact h
theorem ref_half:FSpec P F.ref01_Make [.d (dI 1),.d (dI 2)] (.tup [vQ (1 / 2),.d (dI 0)]):=by
 have h:=ref_Make (n:=1) (d:=2) (by decide) (by decide) (by decide)
 rw [half_eq] at h;exact h
def wordF (l:List Int)(sym most:Nat):List Int:=(l.take most).map fun v=>1+within v sym
theorem wordF_len (l:List Int)(sym most:Nat):(wordF l sym most).length≤most:=by simp [wordF];omega
theorem wordF_ok {h:HM}{l:List Int}{most:Nat}(hs:1≤h.sym)(hm:most≤256):WordOK h (wordF l h.sym most):=by
 refine ⟨Nat.le_trans (wordF_len ..) hm,fun x hx=>?_⟩
 obtain ⟨v,_,rfl⟩:=mm9 hx
 have:=within_range (v:=v) (m:=(h.sym:Int)) (by omega)
 omega
theorem world_Word {l:List Int}{sym most:Nat}(hs:1≤sym∧sym≤1000)(hm:most≤1000):FSpec P F.world_Word [.d (ints l),.d (dI sym),.d (dI most)] (.d (ints (wordF l sym most))):=by
 refine FSpec.intro fn.world_Word (by rfl) (by rfl) (nb9 (by rfl)) fun E hE=>(AW.sg hE rfl (asM rfl (OL.nil (AW.sg hE rfl (asM rfl (OL.nil (AW.seq ?_)))))))
 refine AW.sg hE rfl (asD rfl (OL.nil (AW.own 7 29 T.int 1 rfl rfl (AW.block ?_))))
 refine AW.whileK (α:=Nat × Nat × Nat) [(0,_),(1,_),(2,_),(6,_)] [] (fun (i,b,c)=>[(7,.osl 29 b i c),(8,.d (dI i))]) (fun (i,b,c)=>[(29,.row b c T.int 1 ((wordF l sym i).map dI))]) (fun (i,b,c)=>i≤l.length∧i≤most) (fun (i,b,c)=>most-i) (0,0,0) (.cons (knD rfl) (.cons (knD rfl) (.cons (knD rfl) (.cons (knM rfl) .nil)))) .nil ⟨⟨Nat.zero_le _,Nat.zero_le _⟩,.rq2,.cons rfl .nil⟩ ?_
 rintro ⟨i,b,c⟩ ⟨h1,h2⟩
 have h1:i≤l.length:=h1
 have h2:i≤most:=h2
 have hcl:(wordF l sym i).length=i:=by simp [wordF];omega
 refine AW.seq (AW.sg hE rfl (mvD rfl (mvD rfl (lnL sl.ints rfl rfl (c_lss rfl rfl rfl (mvD rfl (OL.split 13 rfl (fun g13=>?_) (fun g13=>?_))))))))
 ·try simp only [dx9] at g13
  refine OL.yes rfl (mvD rfl (OL.yes rfl (mvD rfl (OL.yes rfl (c_lss rfl rfl rfl (pkT rfl rfl (OL.nil ?_)))))))
  refine AW.cond rfl (fun hc=>?_) (fun hc=>?_)
  ·try simp only [dx9] at hc
   refine AW.skip (AW.seq (AW.block (AW.rg hE rfl (mvO rfl (mvD rfl (mvD rfl (ixLn sl.ints 0 rfl rfl (by omega) rfl rfl ?_)))))))
   refine ldRC ce.int rfl (mvD rfl (clv rfl vL (world_Within (by omega)) ?_))
   have hwr:=within_range (v:=l.getD i 0) (m:=(sym:Int)) (by omega)
   refine add_i64 rfl rfl (by omega) (lt1 sl.ints (VC.d _).vd rfl (by decide) ?_)
   refine apO sl.ints rfl rfl rfl (by rw [lm9,hcl]) (VC.d _) (by simp [D.cells]) (by simp;omega) (by simp;omega) (.inr rfl) (ys:=(wordF l sym (i+1)).map dI) (by unfold wordF;rw [take_succ_getD (by omega) 0,List.map_append,List.map_append];rfl) (n2:=i+1) (by simp) fun b2 c2=>?_
   exact asO rfl (OL.nil (AW.rg hE rfl (mvD rfl (add_i64 rfl rfl (by omega) (asD rfl (OL.nil (AW.again (x:=(i,b,c)) (i+1,b2,c2) (by (simp only [];omega)) ⟨⟨by omega,by omega⟩,Knows.app .rq4 .rq2,.cons rfl .nil⟩)))))))
  ·try simp only [dx9] at hc
   refine AW.exit (AW.seq ?_)
   have he:wordF l sym i=wordF l sym most:=by unfold wordF;rcases Nat.lt_or_ge i l.length with h|h;(obtain rfl:i=most:=(by omega));rfl;rw [List.take_of_length_le (by omega),List.take_of_length_le (by omega)]
   refine AW.freeze 29 rfl (AW.to [(7,.d (ints (wordF l sym most)))] [] (.cons (frz_osl (by rw [lm9,hcl]) (by rw [he])) .nil) .nil ?_)
   exact AW.rg hE rfl (mvD rfl (asD rfl (OL.nil (AW.ret (RetQ.r ⟨_,.tmp rfl .nil,.le vR⟩)))))
 ·try simp only [dx9] at g13
  refine OL.nd rfl (OL.nd rfl (OL.nd rfl (pkF rfl rfl (OL.nil (cnF rfl ?_)))))
  refine AW.exit (AW.seq ?_)
  have he:wordF l sym i=wordF l sym most:=by unfold wordF;rcases Nat.lt_or_ge i l.length with h|h;(obtain rfl:i=most:=(by omega));rfl;rw [List.take_of_length_le (by omega),List.take_of_length_le (by omega)]
  refine AW.freeze 29 rfl (AW.to [(7,.d (ints (wordF l sym most)))] [] (.cons (frz_osl (by rw [lm9,hcl]) (by rw [he])) .nil) .nil ?_)
  exact AW.rg hE rfl (mvD rfl (asD rfl (OL.nil (AW.ret (RetQ.r ⟨_,.tmp rfl .nil,.le vR⟩)))))
end Go.Proofs.YtocehciipjhlkaaGreatDoor
namespace Go.AL
open Go Go.BigFrame
deriving instance DecidableEq for Drawing
theorem sz_half:sz (1 / 2)=1:=by decide +kernel
theorem coin_good:coinHM.Good 1:=by
 have hs:Small 1 [1 / 2]:=Small.one (by rw [sz_half];decide)
 have hs2:Small 1 [1 / 2,1 / 2]:=Small.cons (by rw [sz_half];decide) hs
 have p2:Share (1 / 2):=by decide +kernel
 have sh:Shares [1 / 2]:=fun q hq=>by rw [ms9 hq];exact p2
 have sh2:Shares [1 / 2,1 / 2]:=fun q hq=>by
  rcases List.mem_cons.1 hq with rfl|hq
  ·exact p2
  ·exact sh q hq
 have i0:∀ i,i<coinHM.st→i=0:=fun i hi=>by have:i<1:=hi;omega
 have row:∀ (x:List Rat) (i:Nat),i≠0→[x].getD i []=[]:=fun x i hi=>getD_ge (by simp;omega)
 refine ⟨⟨by decide,by decide,by decide,by decide,rfl,rfl,fun i hi=>by rw [i0 i hi];rfl,rfl,rfl,fun i hi=>by rw [i0 i hi];rfl,rfl,rfl,fun i hi=>by rw [i0 i hi];decide,by decide,by decide,by rw [show coinHM.empty=0 from rfl,sz_zero];decide,Small.one (by rw [sz_one];decide),hs,fun i=>?_,fun i=>?_⟩,
  by decide +kernel,fun q hq=>by rw [ms9 hq];decide +kernel,sh,fun i=>?_,fun i=>?_,by decide +kernel,fun i hi=>by rw [i0 i hi];decide +kernel,fun i hi=>by rw [i0 i hi];decide +kernel,fun i j hi hj _=>by have:=i0 i hi;omega⟩
 ·by_cases hi:i=0
  ·subst hi;exact hs
  ·show Small 1 ([[1 / 2]].getD i []);rw [row _ i hi];exact Small.nil
 ·by_cases hi:i=0
  ·subst hi;exact hs2
  ·show Small 1 ([[1 / 2,1 / 2]].getD i []);rw [row _ i hi];exact Small.nil
 ·by_cases hi:i=0
  ·subst hi;exact sh
  ·show Shares ([[1 / 2]].getD i []);rw [row _ i hi];intro q hq;simp at hq
 ·by_cases hi:i=0
  ·subst hi;exact sh2
  ·show Shares ([[1 / 2,1 / 2]].getD i []);rw [row _ i hi];intro q hq;simp at hq
theorem sumN_congr {f g:Nat→Rat}:∀ {n:Nat},(∀ i,i<n→f i=g i)→sumN f n=sumN g n
 | 0,_=>rfl
 | n+1,h=>by rw [sumN,sumN,sumN_congr fun i hi=>h i (by omega),h n (Nat.lt_succ_self n)]
theorem sumN_zero {f:Nat→Rat}:∀ {n:Nat},(∀ i,i<n→f i=0)→sumN f n=0
 | 0,_=>rfl
 | n+1,h=>by rw [sumN,sumN_zero fun i hi=>h i (by omega),h n (Nat.lt_succ_self n)];grind
theorem sumN_add (f g:Nat→Rat):∀ n,sumN (fun i=>f i+g i) n=sumN f n+sumN g n
 | 0=>by rw [sumN,sumN,sumN];grind
 | n+1=>by rw [sumN,sumN,sumN,sumN_add f g n];grind
theorem sumN_mulR (f:Nat→Rat)(c:Rat):∀ n,sumN (fun i=>f i*c) n=sumN f n*c
 | 0=>by rw [sumN,sumN,Rat.zero_mul]
 | n+1=>by rw [sumN,sumN,sumN_mulR f c n,Rat.add_mul]
theorem sumN_mulL (f:Nat→Rat)(c:Rat)(n:Nat):sumN (fun i=>c*f i) n=c*sumN f n:=by
 rw [Rat.mul_comm,← sumN_mulR];exact sumN_congr fun i _=>Rat.mul_comm ..
theorem sumN_swap (f:Nat→Nat→Rat)(m:Nat):∀ n,sumN (fun i=>sumN (fun j=>f i j) m) n=sumN (fun j=>sumN (fun i=>f i j) n) m
 | 0=>by rw [sumN];exact (sumN_zero fun _ _=>rfl).symm
 | n+1=>by
  rw [sumN,sumN_swap f m n,← sumN_add]
  exact sumN_congr fun j _=>rfl
theorem sumN_front (f:Nat→Rat):∀ n,f 0+sumN (fun t=>f (t+1)) n=sumN f (n+1)
 | 0=>by rw [sumN,sumN,sumN];grind
 | n+1=>by rw [sumN,sumN,← sumN_front f n];grind
theorem step_sum {h:HM}{w:List Int}{t d:Nat}(ht:d+1+t+1=w.length):sumN (fun i=>(fwdF h w t).getD i 0*(bwdF h w (d+1)).getD i 0) h.st=sumN (fun j=>(fwdF h w (t+1)).getD j 0*(bwdF h w d).getD j 0) h.st:=by
 have e1:∀ i,i<h.st→(fwdF h w t).getD i 0*(bwdF h w (d+1)).getD i 0=sumN (fun j=>(fwdF h w t).getD i 0*trQ h i j*(emQ h j (symX w (t+1))*(bwdF h w d).getD j 0)) h.st:=fun i hi=>by
  rw [bwd_pos (d:=d+1) (a:=t) (by omega) (by omega) hi,sufF,← sumN_mulL]
  exact sumN_congr fun j _=>by rw [show d+1-1=d from rfl,Rat.mul_assoc]
 rw [sumN_congr e1,sumN_swap]
 refine sumN_congr fun j hj=>?_
 rw [sumN_mulR,fwd_pos (t:=t+1) (by omega) hj,show t+1-1=t from rfl,preF,Rat.mul_assoc]
theorem fb_sum {h:HM}{w:List Int}:∀ {d t:Nat},d+t+1=w.length→sumN (fun i=>(fwdF h w t).getD i 0*(bwdF h w d).getD i 0) h.st=likF h w
 | 0,t,ht=>by
  rw [show likF h w=likN h (fwdF h w (w.length-1)) h.st from if_neg (by omega),likN,show w.length-1=t by omega]
  exact sumN_congr fun i hi=>by rw [bwd_zero hi]
 | d+1,t,ht=>by
  rw [step_sum (by omega)]
  exact fb_sum (by omega)
theorem sumN_pick {v:Nat→Rat}{x n:Nat}(hx:x<n):sumN (fun y=>if x=y then v y else 0) n=v x:=by
 induction n with
 | zero=>omega
 | succ n ih =>
  rw [sumN]
  by_cases hn:x=n
  ·rw [if_pos hn,hn,sumN_zero fun i hi=>if_neg (by omega)];grind
  ·rw [if_neg hn,ih (by omega)];grind
def sumL (l:List Rat):Rat:=sumN (fun i=>l.getD i 0) l.length
structure Fit (h:HM) (w:List Int):Prop where
 row:∀ t,t<w.length→sumL (postF h w t)=1
 show_:∀ i,sumL (showRow h w w.length i)=sumN (fun t=>postQ h w t i) w.length
 out:∀ i,i<h.st→sumL (moveRow h w (w.length-1) i)+postQ h w (w.length-1) i=sumN (fun t=>postQ h w t i) w.length
 into:∀ i,i<h.st→postQ h w 0 i+sumN (fun j=>moveQ h w (w.length-1) j i) h.st=sumN (fun t=>postQ h w t i) w.length
structure Got (h:HM) (w:List Int):Prop where
 pl:(postR h w).length=w.length
 pg:∀ t,t<w.length→(postR h w).getD t []=postF h w t
 sS:exS h w=postF h w 0
 sE:exE h w=postF h w (w.length-1)
 lM:(exM h w).length=h.st
 lO:(exO h w).length=h.st
 gM:∀ i,i<h.st→(exM h w).getD i []=moveRow h w (w.length-1) i
 gO:∀ i,i<h.st→(exO h w).getD i []=showRow h w w.length i
theorem coin_word:WordOK coinHM [1,2]:=⟨by decide,by decide⟩
theorem coin_few:Few coinHM [1,2]:=⟨by decide,by decide⟩
theorem coin_lik:likF coinHM [1,2]=1 / 16:=by decide +kernel
theorem coin_exM:exM coinHM [1,2]=[[1]]:=by decide +kernel
theorem coin_post:postE coinHM [1,2]=0:=by decide +kernel
end Go.AL
namespace Go.Proofs.YtocehciipjhlkaaGreatDoor
open Go Go.AL
theorem law34_knownQ {q o p:Rat}{h:HM}(hh:h=⟨2,1,0,[o],[[q]],[q],[[q,q]],[false],[0]⟩)(g:h.Good 1)(k:WordOK h [1,2])(fw:Few h [1,2])(hp:likF h [1,2]=p)(zp:sz p≤68719476736)(zo:sz o≤68719476736)(hx:FSpec P F.ref01_Make [.d (dI 1),.d (dI 16)] (.tup [vQ p,.d (dI 0)]))(hm:exM h [1,2]=[[o]])(he:postE h [1,2]=0)(hq:FSpec P F.ref01_Make [.d (dI 1),.d (dI 2)] (.tup [vQ q,.d (dI 0)]))(ho:FSpec P F.ref33_Whole [.d (dI 1)] (vQ o)):FSpec P F.law34_known [] (.d (dB true)):=by
 refine FSpec.intro fn.law34_known (by rfl) (by rfl) (nb9 (by rfl)) fun E hE=>(AW.sg hE rfl (asD rfl (OL.nil (AW.sg hE rfl (clv rfl vL (hq) (mvT rfl (ex rfl rfl ?_)))))))
 refine ex rfl rfl (al z.Rat rfl fun b1=>(sto sz.Rat rfl rfl rfl rfl rfl (nb9 rfl) (cells2:=[_,_,_]) rfl (asD rfl (OL.nil (AW.seq (AW.dg 1 [0,1,2,3,4,5,6,7,8,9,10,11,12,13,14,15] order_free hE rfl (by kernel_rfl) (OI.of_OL (os:=[_,_,_,_,_,_,_,_,_,_,_,_,_,_,_,_]) rfl ?_)))))))
 refine clv rfl vL (ho) (lt1 (y:=dQ o) sl.Rats vd_q rfl (by decide) (ldPA ag.Rat rfl rfl (vs:=[_,_,_]) rfl (nb9 rfl) (lt1 (y:=dQ q) sl.Rats vd_q rfl (by decide) (lt1 (y:=dQs [q]) sl.Ratss (VC.d _).vd rfl (by decide) (ldPA ag.Rat rfl rfl (vs:=[_,_,_]) rfl (nb9 rfl) (lt1 (y:=dQ q) sl.Rats vd_q rfl (by decide) (ldPA ag.Rat rfl rfl (vs:=[_,_,_]) rfl (nb9 rfl) ?_)))))))
 refine ldPA ag.Rat rfl rfl (vs:=[_,_,_]) rfl (nb9 rfl) (lt2 (y:=dQ q) (y2:=dQ q) sl.Rats vd_q vd_q ⟨rfl,rfl⟩ (by decide) (lt1 (y:=dQs [q,q]) sl.Ratss (VC.d _).vd rfl (by decide) (lt1 sl.bools (VC.d _).vd rfl (by decide) (lt1 sl.ints (VC.d _).vd rfl (by decide) ?_))))
 refine bd2 (cs:=[_,_,_,_,_,_,_,_,_,_,_]) z.Hidden pl.Hidden (pvC (by exact evD rfl) (pvC (by exact evD rfl) (pvC (by exact evD rfl) (pvC (by exact evD rfl) (pvC (by exact evD rfl) (pvC (by exact evD rfl) (pvC (by exact evD rfl) (pvC (by exact evD rfl) (pvN))))))))) (by rfl) ?_
 refine al z.Hidden rfl fun b3=>(sto sz.Hidden rfl rfl rfl rfl rfl (nb9 rfl) (cells2:=[_,_,_,_,_,_,_,_,_,_,_]) rfl (OL.nil (AW.seq ?_)))
 refine AW.boxW 3 (cellsHM h) rfl (by rw [hh];exact .cons vR (.cons vR (.cons (vle_of_eq (by show _=V.d (dB (ofQ 0).neg);rw [ofQ_zero])) (.cons (by show VLe _ (.d (u32s (ofQ 0).num));rw [ofQ_zero];exact VLe.mt) (.cons (by show VLe _ (.d (u32s (ofQ 0).den));rw [ofQ_zero];exact VLe.mt) .rq6))))) ?_
 refine AW.rg hE rfl (ldPA ag.Hidden rfl rfl (vs:=[_,_,_,_,_,_,_,_,_,_,_]) rfl (nb9 rfl) (lt2 sl.ints (VC.d _).vd (VC.d _).vd ⟨rfl,rfl⟩ (by decide) (clv rfl vL (fwd_Likelihood g k fw) ?_)))
 rw [hp]
 refine mvT rfl (ex rfl rfl (ex rfl rfl (al z.Rat rfl fun b4=>(sto sz.Rat rfl rfl rfl rfl rfl (nb9 rfl) (cells2:=[_,_,_]) rfl (asD rfl (OL.nil (AW.sg hE rfl ?_)))))))
 refine clv rfl vL (hx) (mvT rfl (ex rfl rfl (ex rfl rfl (al z.Rat rfl fun b6=>(sto sz.Rat rfl rfl rfl rfl rfl (nb9 rfl) (cells2:=[_,_,_]) rfl (asD rfl (OL.nil ?_)))))))
 refine AW.sg hE rfl (ldPA ag.Hidden rfl rfl (vs:=[_,_,_,_,_,_,_,_,_,_,_]) rfl (nb9 rfl) (lt2 sl.ints (VC.d _).vd (VC.d _).vd ⟨rfl,rfl⟩ (by decide) (clv rfl vL (fwd_Expected g k fw) ?_)))
 rw [hm,he]
 refine mvT rfl (ex rfl rfl (ex rfl rfl (al z.Counts rfl fun b8=>(sto sz.Counts rfl rfl rfl rfl rfl (nb9 rfl) (cells2:=[_,_,_,_]) rfl (asD rfl (OL.nil (AW.seq ?_)))))))
 refine AW.dg 1 [0,1,2,3,4,5,6,7,8,9,10,11,12,13,14,15,16,17,18,19,20,21,22,23,24,25,26,27,28,29] order_free hE rfl (by kernel_rfl) (OI.of_OL (os:=[_,_,_,_,_,_,_,_,_,_,_,_,_,_,_,_,_,_,_,_,_,_,_,_,_,_,_,_,_,_]) rfl ?_)
 refine mvD rfl (c_eql rfl rfl (c:=true) (by exact decide_eq_true (by omega)) (mvD rfl (OL.yes rfl (mvD rfl (OL.yes rfl (c_eql rfl rfl (c:=true) (by exact decide_eq_true (by omega)) (pkT rfl rfl ?_)))))))
 refine mvD rfl (OL.yes rfl (ldPA ag.Rat rfl rfl (vs:=[_,_,_]) rfl (nb9 rfl) (OL.yes rfl (ldPA ag.Rat rfl rfl (vs:=[_,_,_]) rfl (nb9 rfl) (OL.yes rfl (clv rfl vL (ref_CompareQ (x:=p) (y:=p) (by omega) (by omega)) ?_))))))
 rw [show cmpQ (p) (p)=0 from cmpQ_eq.2 rfl]
 refine OL.yes rfl (c_eql rfl rfl (c:=true) (by exact decide_eq_true (by omega)) (pkT rfl rfl (mvD rfl (OL.yes rfl (faP fd.Counts_1 rfl rfl (OL.yes rfl (ldPC ce.Ratss rfl rfl rfl ?_)))))))
 refine OL.yes rfl (lnL sl.Ratss rfl rfl (OL.yes rfl (c_eql rfl rfl (c:=true) (by rfl) (pkT rfl rfl (mvD rfl (OL.yes rfl (faP fd.Counts_1 rfl rfl ?_)))))))
 refine OL.yes rfl (ldPC ce.Ratss rfl rfl rfl (OL.yes rfl (ixLe 0 sl.Ratss [] rfl rfl (by decide) (Nat.le_refl 1) rfl rfl (OL.yes rfl (ldRC ce.Rats rfl (OL.yes rfl (ixLe 0 sl.Rats 0 rfl rfl (by decide) (Nat.le_refl 1) rfl rfl ?_)))))))
 refine OL.yes rfl (ldRA ag.Rat rfl (vs:=[_,_,_]) rfl (nb9 rfl) (OL.yes rfl (clv rfl vL (ho) (OL.yes rfl (clv rfl vL (ref_CompareQ (x:=o) (y:=o) (by omega) (by omega)) ?_)))))
 rw [show cmpQ (o) (o)=0 from cmpQ_eq.2 rfl]
 exact OL.yes rfl (c_eql rfl rfl (c:=true) (by exact decide_eq_true (by omega)) (pkT rfl rfl (asD rfl (OL.nil (AW.ret (RetQ.r ⟨_,.tmp rfl .nil,.le vR⟩))))))
theorem q16:((1:Int):Rat) / ((16:Int):Rat)=1 / 16:=rfl
theorem law34_known:FSpec P F.law34_known [] (.d (dB true)):=by
 have h16:=ref_Make (n:=1) (d:=16) (by decide) (by decide) (by decide)
 rw [q16] at h16
 have z16:sz (1 / 16)≤1:=by rw [← q16];exact div_sz (by decide) (by decide) (by decide)
 exact law34_knownQ rfl coin_good coin_word coin_few coin_lik (Nat.le_trans z16 (by decide)) (by rw [sz_one];decide) h16 coin_exM coin_post ref_half ref33_Whole1
end Go.Proofs.YtocehciipjhlkaaGreatDoor
