/-
  M, chapters 23 and 24: spans of rational vectors, and rows reduced one after the other.
-/
import Derived.Test.YteiohkpjgcioaaaGreatDoorKNumb
import Derived.Test.YteiohkpjgcioaaaGreatDoorKHmmB
set_option linter.unusedVariables false
set_option linter.unusedSimpArgs false
namespace Go.AL
open Go Go.BigFrame
def stepQ (h:HM)(fr:Int)(i:Nat):Rat:=if 0≤fr then (h.trans.getD fr.toNat []).getD i 0 else h.ini.getD i 0
def viaQ (h:HM)(fr:Int)(x:Nat)(rest:List Rat)(i:Nat):Rat:=stepQ h fr i*(h.emit.getD i []).getD x 0*rest.getD i 0
def aheadF (h:HM)(fr:Int)(x:Nat)(rest:List Rat):Nat→Rat × Nat
 | 0=>(0,0)
 | i+1=>if (aheadF h fr x rest i).1<viaQ h fr x rest i then (viaQ h fr x rest i,i) else aheadF h fr x rest i
def symX (w:List Int)(t:Nat):Nat:=(w.getD t 0).toNat-1
def WordOK (h:HM)(w:List Int):Prop:=w.length≤256∧∀ x,x ∈ w→1≤x∧x≤h.sym
theorem WordOK.get {h:HM}{w:List Int}(k:WordOK h w){t:Nat}(ht:t<w.length):1≤w.getD t 0∧w.getD t 0≤h.sym:=k.2 _ (getD_mem ht 0)
theorem WordOK.symX {h:HM}{w:List Int}(k:WordOK h w){t:Nat}(ht:t<w.length):Go.AL.symX w t<h.sym∧w.getD t 0=((Go.AL.symX w t+1:Nat):Int):=by
 have:=k.get ht
 unfold Go.AL.symX
 omega
theorem map_getD_range {α:Type}{n k:Nat}(f:Nat→α)(d:α)(hk:k<n):((List.range n).map f).getD k d=f k:=by
 rw [gd9,List.getElem?_map,List.getElem?_range hk];rfl
def fillF {α:Type}(d:α)(g:Nat→α)(n i:Nat):List α:=(List.range n).map fun j=>if j<i then g j else d
theorem fillF_len {α:Type}(d:α)(g:Nat→α)(n i:Nat):(fillF d g n i).length=n:=by simp [fillF]
theorem fillF_zero {α:Type}(d:α)(g:Nat→α)(n:Nat):fillF d g n 0=List.replicate n d:=by
 refine List.ext_getElem (by simp [fillF]) fun k h1 h2=>?_
 simp [fillF]
theorem fillF_set {α:Type}{d:α}{g:Nat→α}{n i:Nat}(hi:i<n):(fillF d g n i).set i (g i)=fillF d g n (i+1):=by
 refine List.ext_getElem (by simp [fillF]) fun k h1 h2=>?_
 rw [List.getElem_set]
 simp only [fillF,List.getElem_map,List.getElem_range]
 by_cases he:i=k
 ·subst he;rw [if_pos rfl,if_pos (by omega)]
 ·rw [if_neg he]
  by_cases h3:k<i
  ·rw [if_pos h3,if_pos (by omega)]
  ·rw [if_neg h3,if_neg (by omega)]
theorem fillF_all {α:Type}(d:α)(g:Nat→α)(n:Nat):fillF d g n n=(List.range n).map g:=by
 refine List.map_congr_left fun j hj=>?_
 rw [if_pos (List.mem_range.1 hj)]
end Go.AL
namespace Go.Proofs.YteiohkpjgcioaaaGreatDoor
open Go Go.AL
theorem words_Valid {h:HM}{w:List Int}(k:WordOK h w)(hs:1≤h.sym∧h.sym≤32):FSpec P F.words_Valid [.d (ints w),.d (dI h.sym)] (.d (dB true)):=by
 have k1:=k.1
 refine FSpec.intro fn.words_Valid (by rfl) (by rfl) (nb9 (by rfl)) fun E hE=>(AW.sg hE rfl (asD rfl (OL.nil (AW.seq (AW.sg hE rfl (mvD rfl (lnL sl.ints rfl rfl ?_)))))))
 refine mvD rfl (OL.nil (AW.block ?_))
 refine AW.whileK (α:=Nat) [(0,_),(1,_),(7,_),(8,_)] [] (fun i=>[(9,.d (dI i))]) (fun i=>[]) (fun i=>i≤w.length) (fun i=>w.length-i) 0 (.cons (knD rfl) (.cons (knD rfl) (.cons (knD rfl) (.cons (knD rfl) .nil)))) .nil ⟨Nat.zero_le _,.rq1,.nil⟩ ?_
 intro i h1
 refine AW.sg hE rfl (c_lss rfl rfl rfl (OL.nil (AW.seq (AW.cond rfl (fun h10=>?_) (fun h10=>?_)))))
 ·try simp only [dx9] at h10
  refine AW.skip (AW.seq (AW.block (AW.sg hE rfl (ixLn sl.ints 0 rfl rfl (by omega) rfl rfl (ldRC ce.int rfl (asD rfl (OL.nil ?_)))))))
  refine AW.seq ?_
  have kg:=k.get (t:=i) (by omega)
  refine AW.rg hE rfl (mvD rfl (c_lss rfl rfl (c:=false) (by exact decide_eq_false (by omega)) (mvD rfl (OL.yes rfl (mvD rfl (OL.yes rfl (mvD rfl ?_)))))))
  refine OL.yes rfl (c_gtr rfl rfl (c:=false) (by exact decide_eq_false (by omega)) (pkF rfl rfl (OL.nil (cnF rfl ?_))))
  exact AW.skip (AW.rg hE rfl (add_i64 rfl rfl (by omega) (mvD rfl (OL.nil (AW.again (x:=i) (i+1) (by omega) ⟨by omega,Knows.app .rq4 .rq1,.nil⟩)))))
 ·try simp only [dx9] at h10
  refine AW.exit (AW.sg hE rfl (mvD rfl (c_geq rfl rfl (c:=true) (by exact decide_eq_true (by omega)) (mvD rfl (OL.yes rfl (mvD rfl (OL.yes rfl ?_)))))))
  refine c_leq rfl rfl (c:=true) (by exact decide_eq_true (by omega)) (pkT rfl rfl (mvD rfl (OL.yes rfl (mvD rfl (OL.yes rfl (lnL sl.ints rfl rfl (OL.yes rfl ?_)))))))
  exact c_leq rfl rfl (c:=true) (by exact decide_eq_true (by omega)) (pkT rfl rfl (asD rfl (OL.nil (AW.ret (RetQ.r ⟨_,.tmp rfl .nil,.le vR⟩)))))
theorem fresh_Rat {q:Rat}(hz:sz q≤68719476736):FSpec P F.fresh_Rat [vQ q] (vQ q):=by
 have s1:=sz_num q
 have s2:=sz_den q
 have l1:(ofQ q).num.length≤8796093022208:=by rw [show (ofQ q).num=lim q.num.natAbs from rfl];omega
 have l2:(ofQ q).den.length≤8796093022208:=by by_cases e:q.den=1 <;> simp [ofQ,e];omega
 refine FSpec.intro fn.fresh_Rat (by rfl) (by rfl) (nb9 (by rfl)) fun E hE=>(AW.sg hE rfl (bxA rfl rfl fun b1=>(al z.Rat rfl fun b2=>(OL.nil (AW.seq (AW.dg 1 [0,1,2,3,4,5,6,7,8,9] order_free hE rfl (by kernel_rfl) (OI.of_OL (os:=[_,_,_,_,_,_,_,_,_,_]) rfl ?_)))))))
 refine faP fd.Rat_0 rfl rfl (ldPC ce.bool rfl rfl rfl (faP fd.Rat_1 rfl rfl (ldPC ce.u32s rfl rfl rfl (clv rfl .rq1 (clone_u32s l1) (faP fd.Rat_2 rfl rfl (ldPC ce.u32s rfl rfl rfl (clv rfl .rq1 (clone_u32s l2) ?_)))))))
 exact bd2 (cs:=[_,_,_]) z.Rat pl.Rat (pvC (by exact evD rfl) (pvC (by exact evD rfl) (pvC (by exact evD rfl) (pvN)))) (by rfl) (sto sz.Rat rfl rfl rfl rfl rfl (nb9 rfl) (cells2:=[_,_,_]) rfl (OL.nil (AW.ret (RetQ.r ⟨_,.cellA rfl rfl ag.Rat (nb9 rfl) .nil,.ag (.cons (.le vR) (.cons (.le vR) (.cons (.le vR) .nil)))⟩))))
end Go.Proofs.YteiohkpjgcioaaaGreatDoor
namespace Go.AL
open Go Go.BigFrame
def sumN (f:Nat→Rat):Nat→Rat
 | 0=>0
 | n+1=>sumN f n+f n
def trQ (h:HM)(i j:Nat):Rat:=(h.trans.getD i []).getD j 0
def emQ (h:HM)(i x:Nat):Rat:=(h.emit.getD i []).getD x 0
def preF (h:HM)(w:List Int)(prev:List Rat)(t j:Nat):Nat→Rat:=sumN fun i=>prev.getD i 0*trQ h i j
def fwdF (h:HM)(w:List Int):Nat→List Rat
 | 0=>(List.range h.st).map fun j=>h.ini.getD j 0*emQ h j (symX w 0)
 | t+1=>(List.range h.st).map fun j=>preF h w (fwdF h w t) t j h.st*emQ h j (symX w (t+1))
def sufF (h:HM)(w:List Int)(next:List Rat)(t i:Nat):Nat→Rat:=sumN fun j=>trQ h i j*(emQ h j (symX w (t+1))*next.getD j 0)
def bwdF (h:HM)(w:List Int):Nat→List Rat
 | 0=>(List.range h.st).map fun i=>h.stop.getD i 0
 | d+1=>(List.range h.st).map fun i=>sufF h w (bwdF h w d) (w.length-1-(d+1)) i h.st
def likN (h:HM)(row:List Rat):Nat→Rat:=sumN fun i=>row.getD i 0*h.stop.getD i 0
def likF (h:HM)(w:List Int):Rat:=if w.length=0 then h.empty else likN h (fwdF h w (w.length-1)) h.st
def postQ (h:HM)(w:List Int)(t i:Nat):Rat:=(fwdF h w t).getD i 0*(bwdF h w (w.length-1-t)).getD i 0 / likF h w
def postF (h:HM)(w:List Int)(t:Nat):List Rat:=(List.range h.st).map fun i=>postQ h w t i
theorem fwdF_len (h:HM)(w:List Int)(t:Nat):(fwdF h w t).length=h.st:=by cases t <;> simp [fwdF]
theorem sumN_sz {C:Nat}{f:Nat→Rat}(hf:∀ i,sz (f i)≤C):∀ n,sz (sumN f n)≤1+n*(C+1)
 | 0=>by show sz 0≤_;rw [sz_zero];omega
 | n+1=>by
  rw [sumN,Nat.add_mul]
  have h1:=sumN_sz hf n
  have h2:=sz_add (sumN f n) (f n)
  have h3:=hf n
  omega
theorem sumN_sz4 {C n:Nat}{f:Nat→Rat}(hf:∀ i,sz (f i)≤C)(hn:n≤4):sz (sumN f n)≤1+4*(C+1):=by
 have h1:=sumN_sz hf n
 have h2:n*(C+1)≤4*(C+1):=Nat.mul_le_mul_right _ hn
 omega
theorem sz_div (x y:Rat):sz (x / y)≤sz x+sz y:=by
 by_cases h0:y=0
 ·rw [h0,Rat.div_def,Rat.inv_zero,Rat.mul_zero,sz_zero]
  have:=sz_zero
  omega
 ·have hy:y.num.natAbs≠0:=by
   intro e
   have:y.num=0:=by omega
   exact h0 (Rat.num_eq_zero.1 this)
  have hx:=fr_ofQ x
  have hyq:=fr_ofQ y
  have hd:=fr_div (s:=decide (x.num<0)) (t:=decide (y.num<0)) (a:=x.num.natAbs) (b:=y.num.natAbs) (d1:=x.den) (d2:=y.den) x.den_nz y.den_nz hy
  rw [hx,hyq] at hd
  rw [hd]
  have l1:=len_mul x.num.natAbs y.den
  have l2:=len_mul x.den y.num.natAbs
  have a1:=sz_num x
  have a2:=sz_den x
  have a3:=sz_num y
  have a4:=sz_den y
  exact sz_fr (Nat.mul_ne_zero x.den_nz hy) (by omega) (by omega)
structure Few (h:HM) (w:List Int):Prop where
 st:h.st≤4
 len:w.length≤6
def FC:Nat→Nat
 | 0=>2048
 | t+1=>4*(FC t+1026)+1026
theorem FC_le {t:Nat}(ht:t≤5):1≤FC t∧FC t≤4000000:=by
 have:t=0 ∨ t=1 ∨ t=2 ∨ t=3 ∨ t=4 ∨ t=5:=by omega
 rcases this with rfl|rfl|rfl|rfl|rfl|rfl <;> decide
theorem tr_sz {h:HM}{B:Nat}(f:h.Form B)(i j:Nat):sz (trQ h i j)≤1024:=Nat.le_trans ((f.zT i).get f.b1 j) f.bB
theorem em_sz {h:HM}{B:Nat}(f:h.Form B)(i x:Nat):sz (emQ h i x)≤1024:=Nat.le_trans ((f.zM i).get f.b1 x) f.bB
theorem stop_sz {h:HM}{B:Nat}(f:h.Form B)(i:Nat):sz (h.stop.getD i 0)≤1024:=Nat.le_trans (f.zS.get f.b1 i) f.bB
theorem ini_sz {h:HM}{B:Nat}(f:h.Form B)(i:Nat):sz (h.ini.getD i 0)≤1024:=Nat.le_trans (f.zI.get f.b1 i) f.bB
theorem pre_sz {h:HM}{B C n:Nat}(f:h.Form B){prev:List Rat}(hp:Small C prev)(hC:1≤C)(hn:n≤4)(w:List Int)(t j:Nat):sz (preF h w prev t j n)≤1+4*(C+1024+1):=sumN_sz4 (fun i=>by
  have h1:=sz_mul (prev.getD i 0) (trQ h i j)
  have h2:=tr_sz f i j
  have h3:=hp.get hC i
  omega) hn
theorem fwd_small {h:HM}{B:Nat}(f:h.Form B)(hs:h.st≤4)(w:List Int):∀ t,Small (FC t) (fwdF h w t)
 | 0=>fun q hq=>by
  obtain ⟨j,_,rfl⟩:=mm9 hq
  have h1:=sz_mul (h.ini.getD j 0) (emQ h j (symX w 0))
  have h2:=ini_sz f j
  have h3:=em_sz f j (symX w 0)
  show _≤2048
  omega
 | t+1=>fun q hq=>by
  obtain ⟨j,_,rfl⟩:=mm9 hq
  have hC:1≤FC t:=by cases t <;> simp only [FC] <;> omega
  have h1:=sz_mul (preF h w (fwdF h w t) t j h.st) (emQ h j (symX w (t+1)))
  have h2:=pre_sz f (fwd_small f hs w t) hC hs w t j
  have h3:=em_sz f j (symX w (t+1))
  show _≤4*(FC t+1026)+1026
  omega
theorem fwd_szB {h:HM}{B:Nat}(f:h.Form B){w:List Int}(k:Few h w){t:Nat}(ht:t<w.length):Small 4000000 (fwdF h w t):=(fwd_small f k.st w t).mono (FC_le (by have:=k.len;omega)).2
theorem likN_sz {h:HM}{B n:Nat}(f:h.Form B){row:List Rat}(hr:Small 4000000 row)(hn:n≤4):sz (likN h row n)≤16010000:=by
 have:sz (likN h row n)≤1+4*(4001024+1):=sumN_sz4 (fun i=>by
  have h1:=sz_mul (row.getD i 0) (h.stop.getD i 0)
  have h2:=stop_sz f i
  have h3:=hr.get (by decide) i
  omega) hn
 omega
theorem lik_sz {h:HM}{B:Nat}(f:h.Form B){w:List Int}(k:Few h w):sz (likF h w)≤16010000:=by
 unfold likF
 split
 ·have:=f.zE;have:=f.bB;omega
 ·exact likN_sz f (fwd_szB f k (by omega)) k.st
structure FwdSz (h:HM) (w:List Int):Prop where
 empty:sz h.empty≤68719476736
 ini:∀ i,sz (h.ini.getD i 0)≤68719476736
 em:∀ i x,sz (emQ h i x)≤68719476736
 tr:∀ i j,sz (trQ h i j)≤68719476736
 stop:∀ i,sz (h.stop.getD i 0)≤68719476736
 fwd:∀ t,t<w.length→∀ i,sz ((fwdF h w t).getD i 0)≤68719476736
 pre:∀ t j n,t<w.length→n≤h.st→sz (preF h w (fwdF h w t) t j n)≤68719476736
 preM:∀ t i j,t<w.length→sz ((fwdF h w t).getD i 0*trQ h i j)≤68719476736
 lik:∀ t n,t<w.length→n≤h.st→sz (likN h (fwdF h w t) n)≤68719476736
 likM:∀ t i,t<w.length→sz ((fwdF h w t).getD i 0*h.stop.getD i 0)≤68719476736
def postR (h:HM)(w:List Int):List (List Rat):=if likF h w=0 then [] else (List.range w.length).map (postF h w)
inductive SpanV (n:Nat) (B:List (List Rat)):(Nat→Rat)→Prop
 | zero {u:Nat→Rat} (h:∀ i,i<n→u i=0):SpanV n B u
 | add {u u':Nat→Rat} {b:List Rat} (c:Rat) (hb:b ∈ B) (hu:SpanV n B u) (h:∀ i,i<n→u' i=u i+c*b.getD i 0):SpanV n B u'
abbrev vf (l:List Rat):Nat→Rat:=fun i=>l.getD i 0
section
variable {n:Nat}{B C:List (List Rat)}{u v:Nat→Rat}
theorem SpanV.congr (h:SpanV n B u)(e:∀ i,i<n→v i=u i):SpanV n B v:=by
 cases h with
 | zero h=>exact .zero fun i hi=>(e i hi).trans (h i hi)
 | add c hb hu h=>exact .add c hb hu fun i hi=>(e i hi).trans (h i hi)
theorem SpanV.mem {b:List Rat}(hb:b ∈ B):SpanV n B (vf b):=.add 1 hb (.zero (u:=fun _=>0) fun _ _=>rfl) fun i _=>by rw [Rat.one_mul,Rat.zero_add]
theorem SpanV.mono (h:SpanV n B u)(hs:∀ b,b ∈ B→b ∈ C):SpanV n C u:=by
 induction h with
 | zero h=>exact .zero h
 | add c hb _ h ih=>exact .add c (hs _ hb) ih h
theorem SpanV.plus (h:SpanV n B u)(k:SpanV n B v):SpanV n B fun i=>u i+v i:=by
 induction k with
 | zero k=>exact h.congr fun i hi=>by rw [k i hi,Rat.add_zero]
 | add c hb _ k ih=>exact .add c hb ih fun i hi=>by rw [k i hi,Rat.add_assoc]
theorem SpanV.smul (h:SpanV n B u)(a:Rat):SpanV n B fun i=>a*u i:=by
 induction h with
 | zero h=>exact .zero fun i hi=>by rw [h i hi,Rat.mul_zero]
 | add c hb _ h ih=>exact .add (a*c) hb ih fun i hi=>by rw [h i hi,Rat.mul_add,Rat.mul_assoc]
theorem SpanV.trans (h:SpanV n B u)(k:∀ b,b ∈ B→SpanV n C (vf b)):SpanV n C u:=by
 induction h with
 | zero h=>exact .zero h
 | add c hb _ h ih=>exact (ih.plus ((k _ hb).smul c)).congr fun i hi=>h i hi
structure LinM (n m:Nat) (L:(Nat→Rat)→Nat→Rat):Prop where
 loc:∀ u v,(∀ i,i<n→u i=v i)→∀ j,j<m→L u j=L v j
 add:∀ u v c j,j<m→L (fun i=>u i+c*v i) j=L u j+c*L v j
 zero:∀ j,j<m→L (fun _=>0) j=0
theorem SpanV.map {m:Nat}{L:(Nat→Rat)→Nat→Rat}(hL:LinM n m L)(h:SpanV n B u)(k:∀ b,b ∈ B→SpanV m C (L (vf b))):SpanV m C (L u):=by
 induction h with
 | @zero u h=>exact .zero fun j hj=>(hL.loc u (fun _=>0) h j hj).trans (hL.zero j hj)
 | @add u u' b c hb _ h ih =>
  refine (ih.plus ((k _ hb).smul c)).congr fun j hj=>?_
  rw [hL.loc u' (fun i=>u i+c*vf b i) h j hj,hL.add u (vf b) c j hj]
theorem SpanV.kill {L:(Nat→Rat)→Nat→Rat}(hL:LinM n 1 L)(h:SpanV n B u)(k:∀ b,b ∈ B→L (vf b) 0=0):L u 0=0:=by
 induction h with
 | @zero u h=>exact (hL.loc u (fun _=>0) h 0 (by decide)).trans (hL.zero 0 (by decide))
 | @add u u' b c hb _ h ih=>rw [hL.loc u' (fun i=>u i+c*vf b i) h 0 (by decide),hL.add u (vf b) c 0 (by decide),ih,k _ hb,Rat.mul_zero,Rat.add_zero]
theorem SpanV.split {r:List Rat}(h:SpanV n (r::B) u):∃ (c:Rat) (w:Nat→Rat),SpanV n B w∧∀ i,i<n→u i=c*r.getD i 0+w i:=by
 induction h with
 | zero h=>exact ⟨0,fun _=>0,.zero fun _ _=>rfl,fun i hi=>by rw [h i hi,Rat.zero_mul,Rat.add_zero]⟩
 | @add u u' b a hb _ h ih =>
  obtain ⟨c,w,h1,h2⟩:=ih
  rcases List.mem_cons.1 hb with rfl|hb
  ·exact ⟨c+a,w,h1,fun i hi=>by rw [h i hi,h2 i hi,Rat.add_mul,Rat.add_assoc,Rat.add_assoc,Rat.add_comm (w i)]⟩
  ·exact ⟨c,fun i=>w i+a*b.getD i 0,.add a hb h1 fun i _=>rfl,fun i hi=>by rw [h i hi,h2 i hi,Rat.add_assoc]⟩
end
structure SRow where
 v:List Rat
 c:List Rat
 p:Nat
instance:Inhabited SRow:=⟨⟨[],[],0⟩⟩
def qotR (w:List Rat)(r:SRow):Rat:=w.getD r.p 0 / r.v.getD r.p 0
def redStep (w:List Rat)(r:SRow):List Rat:=(List.range w.length).map fun i=>w.getD i 0-qotR w r*r.v.getD i 0
def redV:List SRow→List Rat→List Rat
 | [],w=>w
 | r::rs,w=>redV rs (redStep w r)
def rowsS (rs:List SRow):List (List Rat):=rs.map (·.v)
structure Ech (n:Nat) (rs:List SRow):Prop where
 piv:∀ r,r ∈ rs→r.p<n∧r.v.getD r.p 0≠0
 zero:rs.Pairwise fun a b=>b.v.getD a.p 0=0
section
variable {n:Nat}{rs:List SRow}{r:SRow}{w:List Rat}
theorem redStep_len:(redStep w r).length=w.length:=by simp [redStep]
theorem redV_len:∀ (rs:List SRow) (w:List Rat),(redV rs w).length=w.length
 | [],_=>rfl
 | r::rs,w=>by rw [redV,redV_len rs,redStep_len]
theorem redStep_get {i:Nat}(hi:i<w.length):(redStep w r).getD i 0=w.getD i 0-qotR w r*r.v.getD i 0:=map_getD_range _ _ hi
theorem redStep_piv (hp:r.p<w.length)(h0:r.v.getD r.p 0≠0):(redStep w r).getD r.p 0=0:=by
 rw [redStep_get hp,qotR,Rat.div_mul_cancel h0,Rat.sub_self]
theorem redV_span:∀ (rs:List SRow) (w:List Rat),SpanV w.length (rowsS rs) fun i=>w.getD i 0-(redV rs w).getD i 0
 | [],w=>.zero fun i _=>by rw [redV,Rat.sub_self]
 | r::rs,w=>by
  have ih:=redV_span rs (redStep w r)
  rw [redStep_len] at ih
  refine .add (b:=r.v) (qotR w r) mc9 (ih.mono fun b hb=>List.mem_cons_of_mem _ hb) fun i hi=>?_
  rw [redStep_get hi,redV]
  rw [Rat.sub_eq_add_neg,Rat.sub_eq_add_neg,Rat.sub_eq_add_neg,Rat.add_assoc,Rat.add_assoc,Rat.add_comm (-(qotR w r*_)),Rat.add_assoc,Rat.add_neg_cancel,Rat.add_zero]
theorem redV_keep:∀ {rs:List SRow} {w:List Rat} {p:Nat},p<w.length→w.getD p 0=0→(∀ r,r ∈ rs→r.v.getD p 0=0)→(redV rs w).getD p 0=0
 | [],_,_,_,h,_=>h
 | r::rs,w,p,hp,h,hz=>by
  rw [redV]
  refine redV_keep (by rw [redStep_len];exact hp) ?_ fun q hq=>hz q (List.mem_cons_of_mem _ hq)
  rw [redStep_get hp,h,hz r mc9,Rat.mul_zero,Rat.sub_self]
theorem Ech.tail (e:Ech n (r::rs)):Ech n rs:=⟨fun q hq=>e.piv q (List.mem_cons_of_mem _ hq),(List.pairwise_cons.1 e.zero).2⟩
theorem redV_piv:∀ {rs:List SRow} {w:List Rat},Ech n rs→w.length=n→∀ r,r ∈ rs→(redV rs w).getD r.p 0=0
 | r :: rs, w, e, hw, q, hq => by
  rw [redV]
  rcases List.mem_cons.1 hq with rfl|hq
  ·obtain ⟨p1,p2⟩:=e.piv q mc9
   exact redV_keep (by rw [redStep_len,hw];exact p1) (redStep_piv (by rw [hw];exact p1) p2) (List.pairwise_cons.1 e.zero).1
  ·exact redV_piv e.tail (by rw [redStep_len];exact hw) q hq
theorem Ech.indep:∀ {rs:List SRow} {u:Nat→Rat},Ech n rs→SpanV n (rowsS rs) u→(∀ r,r ∈ rs→u r.p=0)→∀ i,i<n→u i=0
 | [],u,_,h,_,i,hi=>by
  cases h with
  | zero h=>exact h i hi
  | add _ hb=>cases hb
 | r :: rs, u, e, h, hz, i, hi => by
  obtain ⟨c,w,h1,h2⟩:=h.split
  obtain ⟨p1,p2⟩:=e.piv r mc9
  have hw0:∀ {w:Nat→Rat},SpanV n (rowsS rs) w→w r.p=0:=fun {w} h=>by
   induction h with
   | zero h=>exact h _ p1
   | add c hb _ h ih =>
    obtain ⟨q,hq,rfl⟩:=mm9 hb
    rw [h _ p1,ih,(List.pairwise_cons.1 e.zero).1 q hq,Rat.mul_zero,Rat.add_zero]
  have hc:c=0:=by
   have:=h2 _ p1
   rw [hz r mc9,hw0 h1,Rat.add_zero] at this
   rcases Rat.mul_eq_zero.1 this.symm with h|h
   ·exact h
   ·exact absurd h p2
  have h3:∀ j,j<n→u j=w j:=fun j hj=>by rw [h2 j hj,hc,Rat.zero_mul,Rat.zero_add]
  rw [h3 i hi]
  exact Ech.indep e.tail h1 (fun q hq=>by rw [← h3 _ (e.piv q (List.mem_cons_of_mem _ hq)).1];exact hz q (List.mem_cons_of_mem _ hq)) i hi
def allZ (w:List Rat):Prop:=∀ i,i<w.length→w.getD i 0=0
theorem red_iff (e:Ech n rs)(hw:w.length=n):allZ (redV rs w) ↔ SpanV n (rowsS rs) (vf w):=by
 have hs:=redV_span rs w
 rw [hw] at hs
 constructor
 ·intro h
  refine hs.congr fun i hi=>?_
  rw [h i (by rw [redV_len,hw];exact hi),Rat.sub_eq_add_neg,Rat.neg_zero,Rat.add_zero]
 ·intro h i hi
  rw [redV_len,hw] at hi
  refine Ech.indep e (u:=vf (redV rs w)) ?_ (redV_piv e hw) i hi
  refine (h.plus (hs.smul (-1))).congr fun j hj=>?_
  show (redV rs w).getD j 0=w.getD j 0 + -1*(w.getD j 0-(redV rs w).getD j 0)
  rw [Rat.neg_mul,Rat.one_mul,Rat.neg_sub,Rat.sub_eq_add_neg,Rat.add_comm (w.getD j 0),Rat.add_assoc,Rat.neg_add_cancel,Rat.add_zero]
theorem Ech.grow (e:Ech n rs)(hw:w.length=n){p:Nat}(c:List Rat)(hp:p<n)(h0:(redV rs w).getD p 0≠0):Ech n (rs++[⟨redV rs w,c,p⟩]):=by
 refine ⟨fun r hr=>?_,List.pairwise_append.2 ⟨e.zero,List.pairwise_singleton ..,fun a ha b hb=>?_⟩⟩
 ·rcases mp9 hr with hr|hr
  ·exact e.piv r hr
  ·rw [ms9 hr];exact ⟨hp,h0⟩
 ·rw [ms9 hb]
  exact redV_piv e hw a ha
theorem nodup_bound:∀ (n:Nat) (l:List Nat),l.Nodup→(∀ x,x ∈ l→x<n)→l.length≤n
 | 0,l,_,h=>by
  cases l with
  | nil=>exact Nat.le_refl _
  | cons x r=>exact absurd (h x mc9) (Nat.not_lt_zero _)
 | n + 1, l, hn, h => by
  have h1:=nodup_bound n (l.erase n) (hn.erase n) fun x hx=>by
   have a:=h x (List.mem_of_mem_erase hx)
   have b:x≠n:=fun e=>by subst e;exact (List.Nodup.not_mem_erase hn) hx
   omega
  by_cases hm:n ∈ l
  ·rw [List.length_erase_of_mem hm] at h1;omega
  ·rw [List.erase_of_not_mem hm] at h1;omega
theorem Ech.len (e:Ech n rs):rs.length≤n:=by
 rw [← lm9 (f:=SRow.p)]
 refine nodup_bound n _ (List.pairwise_map.2 ?_) fun x hx=>?_
 ·refine e.zero.imp_of_mem fun {a b} _ hb h k=>?_
  rw [k] at h
  exact (e.piv b hb).2 h
 ·obtain ⟨r,hr,rfl⟩:=mm9 hx
  exact (e.piv r hr).1
end
end Go.AL
