/-
  M, chapter 34: the probabilities of beginnings and ends; posteriors; sizes.
-/
import Derived.Test.YtocehciipjhlkaaGreatDoorKNumb
import Derived.Test.YtocehciipjhlkaaGreatDoorKHmmB
set_option linter.unusedVariables false
set_option linter.unusedSimpArgs false
namespace Go.AL
open Go Go.BigFrame
def stepQ (h:HM)(fr:Int)(i:Nat):Rat:=if 0≤fr then (h.trans.getD fr.toNat []).getD i 0 else h.ini.getD i 0
def viaQ (h:HM)(fr:Int)(x:Nat)(rest:List Rat)(i:Nat):Rat:=stepQ h fr i*(h.emit.getD i []).getD x 0*rest.getD i 0
def aheadF (h:HM)(fr:Int)(x:Nat)(rest:List Rat):Nat→Rat × Nat
 | 0=>(0,0)
 | i+1=>if (aheadF h fr x rest i).1<viaQ h fr x rest i then (viaQ h fr x rest i,i) else aheadF h fr x rest i
def symX (w:List Int)(t:Nat):Nat:=(w.getD t 0).toNat-1
def WordOK (h:HM)(w:List Int):Prop:=w.length≤256∧∀ x,x ∈ w→1≤x∧x≤h.sym
theorem WordOK.get {h:HM}{w:List Int}(k:WordOK h w){t:Nat}(ht:t<w.length):1≤w.getD t 0∧w.getD t 0≤h.sym:=k.2 _ (getD_mem ht 0)
theorem WordOK.symX {h:HM}{w:List Int}(k:WordOK h w){t:Nat}(ht:t<w.length):Go.AL.symX w t<h.sym∧w.getD t 0=((Go.AL.symX w t+1:Nat):Int):=by
 have:=k.get ht
 unfold Go.AL.symX
 omega
theorem map_getD_range {α:Type}{n k:Nat}(f:Nat→α)(d:α)(hk:k<n):((List.range n).map f).getD k d=f k:=by
 rw [gd9,List.getElem?_map,List.getElem?_range hk];rfl
def fillF {α:Type}(d:α)(g:Nat→α)(n i:Nat):List α:=(List.range n).map fun j=>if j<i then g j else d
theorem fillF_len {α:Type}(d:α)(g:Nat→α)(n i:Nat):(fillF d g n i).length=n:=by simp [fillF]
theorem fillF_zero {α:Type}(d:α)(g:Nat→α)(n:Nat):fillF d g n 0=List.replicate n d:=by
 refine List.ext_getElem (by simp [fillF]) fun k h1 h2=>?_
 simp [fillF]
theorem fillF_set {α:Type}{d:α}{g:Nat→α}{n i:Nat}(hi:i<n):(fillF d g n i).set i (g i)=fillF d g n (i+1):=by
 refine List.ext_getElem (by simp [fillF]) fun k h1 h2=>?_
 rw [List.getElem_set]
 simp only [fillF,List.getElem_map,List.getElem_range]
 by_cases he:i=k
 ·subst he;rw [if_pos rfl,if_pos (by omega)]
 ·rw [if_neg he]
  by_cases h3:k<i
  ·rw [if_pos h3,if_pos (by omega)]
  ·rw [if_neg h3,if_neg (by omega)]
theorem fillF_all {α:Type}(d:α)(g:Nat→α)(n:Nat):fillF d g n n=(List.range n).map g:=by
 refine List.map_congr_left fun j hj=>?_
 rw [if_pos (List.mem_range.1 hj)]
end Go.AL
namespace Go.Proofs.YtocehciipjhlkaaGreatDoor
open Go Go.AL
theorem words_Valid {h:HM}{w:List Int}(k:WordOK h w)(hs:1≤h.sym∧h.sym≤32):FSpec P F.words_Valid [.d (ints w),.d (dI h.sym)] (.d (dB true)):=by
 have k1:=k.1
 refine FSpec.intro fn.words_Valid (by rfl) (by rfl) (nb9 (by rfl)) fun E hE=>(AW.sg hE rfl (asD rfl (OL.nil (AW.seq (AW.sg hE rfl (mvD rfl (lnL sl.ints rfl rfl ?_)))))))
 refine mvD rfl (OL.nil (AW.block ?_))
 refine AW.whileK (α:=Nat) [(0,_),(1,_),(7,_),(8,_)] [] (fun i=>[(9,.d (dI i))]) (fun i=>[]) (fun i=>i≤w.length) (fun i=>w.length-i) 0 (.cons (knD rfl) (.cons (knD rfl) (.cons (knD rfl) (.cons (knD rfl) .nil)))) .nil ⟨Nat.zero_le _,.rq1,.nil⟩ ?_
 intro i h1
 refine AW.sg hE rfl (c_lss rfl rfl rfl (OL.nil (AW.seq (AW.cond rfl (fun h10=>?_) (fun h10=>?_)))))
 ·try simp only [dx9] at h10
  refine AW.skip (AW.seq (AW.block (AW.sg hE rfl (ixLn sl.ints 0 rfl rfl (by omega) rfl rfl (ldRC ce.int rfl (asD rfl (OL.nil ?_)))))))
  refine AW.seq ?_
  have kg:=k.get (t:=i) (by omega)
  refine AW.rg hE rfl (mvD rfl (c_lss rfl rfl (c:=false) (by exact decide_eq_false (by omega)) (mvD rfl (OL.yes rfl (mvD rfl (OL.yes rfl (mvD rfl ?_)))))))
  refine OL.yes rfl (c_gtr rfl rfl (c:=false) (by exact decide_eq_false (by omega)) (pkF rfl rfl (OL.nil (cnF rfl ?_))))
  exact AW.skip (AW.rg hE rfl (add_i64 rfl rfl (by omega) (mvD rfl (OL.nil (AW.again (x:=i) (i+1) (by omega) ⟨by omega,Knows.app .rq4 .rq1,.nil⟩)))))
 ·try simp only [dx9] at h10
  refine AW.exit (AW.sg hE rfl (mvD rfl (c_geq rfl rfl (c:=true) (by exact decide_eq_true (by omega)) (mvD rfl (OL.yes rfl (mvD rfl (OL.yes rfl ?_)))))))
  refine c_leq rfl rfl (c:=true) (by exact decide_eq_true (by omega)) (pkT rfl rfl (mvD rfl (OL.yes rfl (mvD rfl (OL.yes rfl (lnL sl.ints rfl rfl (OL.yes rfl ?_)))))))
  exact c_leq rfl rfl (c:=true) (by exact decide_eq_true (by omega)) (pkT rfl rfl (asD rfl (OL.nil (AW.ret (RetQ.r ⟨_,.tmp rfl .nil,.le vR⟩)))))
theorem fresh_Rat {q:Rat}(hz:sz q≤68719476736):FSpec P F.fresh_Rat [vQ q] (vQ q):=by
 have s1:=sz_num q
 have s2:=sz_den q
 have l1:(ofQ q).num.length≤8796093022208:=by rw [show (ofQ q).num=lim q.num.natAbs from rfl];omega
 have l2:(ofQ q).den.length≤8796093022208:=by by_cases e:q.den=1 <;> simp [ofQ,e];omega
 refine FSpec.intro fn.fresh_Rat (by rfl) (by rfl) (nb9 (by rfl)) fun E hE=>(AW.sg hE rfl (bxA rfl rfl fun b1=>(al z.Rat rfl fun b2=>(OL.nil (AW.seq (AW.dg 1 [0,1,2,3,4,5,6,7,8,9] order_free hE rfl (by kernel_rfl) (OI.of_OL (os:=[_,_,_,_,_,_,_,_,_,_]) rfl ?_)))))))
 refine faP fd.Rat_0 rfl rfl (ldPC ce.bool rfl rfl rfl (faP fd.Rat_1 rfl rfl (ldPC ce.u32s rfl rfl rfl (clv rfl .rq1 (clone_u32s l1) (faP fd.Rat_2 rfl rfl (ldPC ce.u32s rfl rfl rfl (clv rfl .rq1 (clone_u32s l2) ?_)))))))
 exact bd2 (cs:=[_,_,_]) z.Rat pl.Rat (pvC (by exact evD rfl) (pvC (by exact evD rfl) (pvC (by exact evD rfl) (pvN)))) (by rfl) (sto sz.Rat rfl rfl rfl rfl rfl (nb9 rfl) (cells2:=[_,_,_]) rfl (OL.nil (AW.ret (RetQ.r ⟨_,.cellA rfl rfl ag.Rat (nb9 rfl) .nil,.ag (.cons (.le vR) (.cons (.le vR) (.cons (.le vR) .nil)))⟩))))
end Go.Proofs.YtocehciipjhlkaaGreatDoor
namespace Go.AL
open Go Go.BigFrame
def sumN (f:Nat→Rat):Nat→Rat
 | 0=>0
 | n+1=>sumN f n+f n
def trQ (h:HM)(i j:Nat):Rat:=(h.trans.getD i []).getD j 0
def emQ (h:HM)(i x:Nat):Rat:=(h.emit.getD i []).getD x 0
def preF (h:HM)(w:List Int)(prev:List Rat)(t j:Nat):Nat→Rat:=sumN fun i=>prev.getD i 0*trQ h i j
def fwdF (h:HM)(w:List Int):Nat→List Rat
 | 0=>(List.range h.st).map fun j=>h.ini.getD j 0*emQ h j (symX w 0)
 | t+1=>(List.range h.st).map fun j=>preF h w (fwdF h w t) t j h.st*emQ h j (symX w (t+1))
def sufF (h:HM)(w:List Int)(next:List Rat)(t i:Nat):Nat→Rat:=sumN fun j=>trQ h i j*(emQ h j (symX w (t+1))*next.getD j 0)
def bwdF (h:HM)(w:List Int):Nat→List Rat
 | 0=>(List.range h.st).map fun i=>h.stop.getD i 0
 | d+1=>(List.range h.st).map fun i=>sufF h w (bwdF h w d) (w.length-1-(d+1)) i h.st
def likN (h:HM)(row:List Rat):Nat→Rat:=sumN fun i=>row.getD i 0*h.stop.getD i 0
def likF (h:HM)(w:List Int):Rat:=if w.length=0 then h.empty else likN h (fwdF h w (w.length-1)) h.st
def postQ (h:HM)(w:List Int)(t i:Nat):Rat:=(fwdF h w t).getD i 0*(bwdF h w (w.length-1-t)).getD i 0 / likF h w
def postF (h:HM)(w:List Int)(t:Nat):List Rat:=(List.range h.st).map fun i=>postQ h w t i
theorem fwdF_len (h:HM)(w:List Int)(t:Nat):(fwdF h w t).length=h.st:=by cases t <;> simp [fwdF]
theorem bwdF_len (h:HM)(w:List Int)(d:Nat):(bwdF h w d).length=h.st:=by cases d <;> simp [bwdF]
theorem postF_len (h:HM)(w:List Int)(t:Nat):(postF h w t).length=h.st:=by simp [postF]
theorem sumN_sz {C:Nat}{f:Nat→Rat}(hf:∀ i,sz (f i)≤C):∀ n,sz (sumN f n)≤1+n*(C+1)
 | 0=>by show sz 0≤_;rw [sz_zero];omega
 | n+1=>by
  rw [sumN,Nat.add_mul]
  have h1:=sumN_sz hf n
  have h2:=sz_add (sumN f n) (f n)
  have h3:=hf n
  omega
theorem sumN_sz4 {C n:Nat}{f:Nat→Rat}(hf:∀ i,sz (f i)≤C)(hn:n≤4):sz (sumN f n)≤1+4*(C+1):=by
 have h1:=sumN_sz hf n
 have h2:n*(C+1)≤4*(C+1):=Nat.mul_le_mul_right _ hn
 omega
theorem sz_div (x y:Rat):sz (x / y)≤sz x+sz y:=by
 by_cases h0:y=0
 ·rw [h0,Rat.div_def,Rat.inv_zero,Rat.mul_zero,sz_zero]
  have:=sz_zero
  omega
 ·have hy:y.num.natAbs≠0:=by
   intro e
   have:y.num=0:=by omega
   exact h0 (Rat.num_eq_zero.1 this)
  have hx:=fr_ofQ x
  have hyq:=fr_ofQ y
  have hd:=fr_div (s:=decide (x.num<0)) (t:=decide (y.num<0)) (a:=x.num.natAbs) (b:=y.num.natAbs) (d1:=x.den) (d2:=y.den) x.den_nz y.den_nz hy
  rw [hx,hyq] at hd
  rw [hd]
  have l1:=len_mul x.num.natAbs y.den
  have l2:=len_mul x.den y.num.natAbs
  have a1:=sz_num x
  have a2:=sz_den x
  have a3:=sz_num y
  have a4:=sz_den y
  exact sz_fr (Nat.mul_ne_zero x.den_nz hy) (by omega) (by omega)
structure Few (h:HM) (w:List Int):Prop where
 st:h.st≤4
 len:w.length≤6
def FC:Nat→Nat
 | 0=>2048
 | t+1=>4*(FC t+1026)+1026
theorem FC_le {t:Nat}(ht:t≤5):1≤FC t∧FC t≤4000000:=by
 have:t=0 ∨ t=1 ∨ t=2 ∨ t=3 ∨ t=4 ∨ t=5:=by omega
 rcases this with rfl|rfl|rfl|rfl|rfl|rfl <;> decide
theorem tr_sz {h:HM}{B:Nat}(f:h.Form B)(i j:Nat):sz (trQ h i j)≤1024:=Nat.le_trans ((f.zT i).get f.b1 j) f.bB
theorem em_sz {h:HM}{B:Nat}(f:h.Form B)(i x:Nat):sz (emQ h i x)≤1024:=Nat.le_trans ((f.zM i).get f.b1 x) f.bB
theorem stop_sz {h:HM}{B:Nat}(f:h.Form B)(i:Nat):sz (h.stop.getD i 0)≤1024:=Nat.le_trans (f.zS.get f.b1 i) f.bB
theorem ini_sz {h:HM}{B:Nat}(f:h.Form B)(i:Nat):sz (h.ini.getD i 0)≤1024:=Nat.le_trans (f.zI.get f.b1 i) f.bB
theorem pre_sz {h:HM}{B C n:Nat}(f:h.Form B){prev:List Rat}(hp:Small C prev)(hC:1≤C)(hn:n≤4)(w:List Int)(t j:Nat):sz (preF h w prev t j n)≤1+4*(C+1024+1):=sumN_sz4 (fun i=>by
  have h1:=sz_mul (prev.getD i 0) (trQ h i j)
  have h2:=tr_sz f i j
  have h3:=hp.get hC i
  omega) hn
theorem fwd_small {h:HM}{B:Nat}(f:h.Form B)(hs:h.st≤4)(w:List Int):∀ t,Small (FC t) (fwdF h w t)
 | 0=>fun q hq=>by
  obtain ⟨j,_,rfl⟩:=mm9 hq
  have h1:=sz_mul (h.ini.getD j 0) (emQ h j (symX w 0))
  have h2:=ini_sz f j
  have h3:=em_sz f j (symX w 0)
  show _≤2048
  omega
 | t+1=>fun q hq=>by
  obtain ⟨j,_,rfl⟩:=mm9 hq
  have hC:1≤FC t:=by cases t <;> simp only [FC] <;> omega
  have h1:=sz_mul (preF h w (fwdF h w t) t j h.st) (emQ h j (symX w (t+1)))
  have h2:=pre_sz f (fwd_small f hs w t) hC hs w t j
  have h3:=em_sz f j (symX w (t+1))
  show _≤4*(FC t+1026)+1026
  omega
def BC:Nat→Nat
 | 0=>1024
 | d+1=>1+4*(BC d+2049)
theorem BC_le {t:Nat}(ht:t≤5):1≤BC t∧BC t≤4000000:=by
 have:t=0 ∨ t=1 ∨ t=2 ∨ t=3 ∨ t=4 ∨ t=5:=by omega
 rcases this with rfl|rfl|rfl|rfl|rfl|rfl <;> decide
theorem suf_sz {h:HM}{B C n:Nat}(f:h.Form B){next:List Rat}(hp:Small C next)(hC:1≤C)(hn:n≤4)(w:List Int)(t i:Nat):sz (sufF h w next t i n)≤1+4*(C+2048+1):=sumN_sz4 (fun j=>by
  have h1:=sz_mul (trQ h i j) (emQ h j (symX w (t+1))*next.getD j 0)
  have h2:=sz_mul (emQ h j (symX w (t+1))) (next.getD j 0)
  have h3:=tr_sz f i j
  have h4:=em_sz f j (symX w (t+1))
  have h5:=hp.get hC j
  omega) hn
theorem bwd_small {h:HM}{B:Nat}(f:h.Form B)(hs:h.st≤4)(w:List Int):∀ d,Small (BC d) (bwdF h w d)
 | 0=>fun q hq=>by
  obtain ⟨j,_,rfl⟩:=mm9 hq
  exact stop_sz f j
 | d+1=>fun q hq=>by
  obtain ⟨j,_,rfl⟩:=mm9 hq
  have hC:1≤BC d:=by cases d <;> simp only [BC] <;> omega
  have h2:=suf_sz f (bwd_small f hs w d) hC hs w (w.length-1-(d+1)) j
  show _≤1+4*(BC d+2049)
  omega
theorem fwd_szB {h:HM}{B:Nat}(f:h.Form B){w:List Int}(k:Few h w){t:Nat}(ht:t<w.length):Small 4000000 (fwdF h w t):=(fwd_small f k.st w t).mono (FC_le (by have:=k.len;omega)).2
theorem bwd_szB {h:HM}{B:Nat}(f:h.Form B){w:List Int}(k:Few h w){d:Nat}(hd:d<w.length):Small 4000000 (bwdF h w d):=(bwd_small f k.st w d).mono (BC_le (by have:=k.len;omega)).2
theorem likN_sz {h:HM}{B n:Nat}(f:h.Form B){row:List Rat}(hr:Small 4000000 row)(hn:n≤4):sz (likN h row n)≤16010000:=by
 have:sz (likN h row n)≤1+4*(4001024+1):=sumN_sz4 (fun i=>by
  have h1:=sz_mul (row.getD i 0) (h.stop.getD i 0)
  have h2:=stop_sz f i
  have h3:=hr.get (by decide) i
  omega) hn
 omega
theorem lik_sz {h:HM}{B:Nat}(f:h.Form B){w:List Int}(k:Few h w):sz (likF h w)≤16010000:=by
 unfold likF
 split
 ·have:=f.zE;have:=f.bB;omega
 ·exact likN_sz f (fwd_szB f k (by omega)) k.st
structure FwdSz (h:HM) (w:List Int):Prop where
 empty:sz h.empty≤68719476736
 ini:∀ i,sz (h.ini.getD i 0)≤68719476736
 em:∀ i x,sz (emQ h i x)≤68719476736
 tr:∀ i j,sz (trQ h i j)≤68719476736
 stop:∀ i,sz (h.stop.getD i 0)≤68719476736
 fwd:∀ t,t<w.length→∀ i,sz ((fwdF h w t).getD i 0)≤68719476736
 pre:∀ t j n,t<w.length→n≤h.st→sz (preF h w (fwdF h w t) t j n)≤68719476736
 preM:∀ t i j,t<w.length→sz ((fwdF h w t).getD i 0*trQ h i j)≤68719476736
 lik:∀ t n,t<w.length→n≤h.st→sz (likN h (fwdF h w t) n)≤68719476736
 likM:∀ t i,t<w.length→sz ((fwdF h w t).getD i 0*h.stop.getD i 0)≤68719476736
theorem fwdSz {h:HM}{B:Nat}(f:h.Form B){w:List Int}(k:Few h w):FwdSz h w:=by
 have ks:=k.st
 refine ⟨by have:=f.zE;have:=f.bB;omega,fun i=>by have:=ini_sz f i;omega,fun i x=>by have:=em_sz f i x;omega,fun i j=>by have:=tr_sz f i j;omega,fun i=>by have:=stop_sz f i;omega,
  fun t ht i=>Nat.le_trans ((fwd_szB f k ht).get (by decide) i) (by decide),fun t j n ht hn=>Nat.le_trans (pre_sz f (fwd_szB f k ht) (by decide) (by omega) w t j) (by decide),fun t i j ht=>?_,fun t n ht hn=>Nat.le_trans (likN_sz f (fwd_szB f k ht) (by omega)) (by decide),fun t i ht=>?_⟩
 ·have h1:=(fwd_szB f k ht).get (by decide) i
  have h2:=tr_sz f i j
  have:=sz_mul ((fwdF h w t).getD i 0) (trQ h i j)
  omega
 ·have h1:=(fwd_szB f k ht).get (by decide) i
  have h2:=stop_sz f i
  have:=sz_mul ((fwdF h w t).getD i 0) (h.stop.getD i 0)
  omega
theorem post_sz {h:HM}{B:Nat}(f:h.Form B){w:List Int}(k:Few h w){t:Nat}(ht:t<w.length)(i:Nat):sz (postQ h w t i)≤25000000:=by
 have h1:=(fwd_szB f k ht).get (by decide) i
 have h2:=(bwd_szB f k (d:=w.length-1-t) (by omega)).get (by decide) i
 have h3:=lik_sz f k
 have h4:=sz_mul ((fwdF h w t).getD i 0) ((bwdF h w (w.length-1-t)).getD i 0)
 have h5:=sz_div ((fwdF h w t).getD i 0*(bwdF h w (w.length-1-t)).getD i 0) (likF h w)
 unfold postQ
 omega
theorem postF_get {h:HM}{w:List Int}{t i:Nat}(hi:i<h.st):(postF h w t).getD i 0=postQ h w t i:=map_getD_range _ _ hi
theorem fill_row {l:List Rat}{n:Nat}(h:l.length=n):fillF 0 (fun j=>l.getD j 0) n n=l:=by
 rw [fillF_all]
 refine list_eq_getD (by rw [h];simp) 0 fun i hi=>?_
 rw [lm9,List.length_range] at hi
 exact map_getD_range _ _ hi
def rowsD (h:HM)(w:List Int)(n:Nat):List (List D):=(List.range n).map fun i=>(fwdF h w i).map dQ
theorem rowsD_succ (h:HM)(w:List Int)(n:Nat):rowsD h w (n+1)=rowsD h w n++[(fwdF h w n).map dQ]:=by unfold rowsD;rw [List.range_succ,List.map_append];rfl
theorem rowsD_len (h:HM)(w:List Int)(n:Nat):(rowsD h w n).length=n:=by simp [rowsD]
theorem rowsD_get {h:HM}{w:List Int}{n i:Nat}(hi:i<n):(rowsD h w n)[i]? = some ((fwdF h w i).map dQ):=by
 unfold rowsD
 rw [List.getElem?_map,List.getElem?_range hi];rfl
theorem snd_get {α β:Type}{rs:List (α × β)}{l:List β}(h:rs.map Prod.snd=l){i:Nat}{x:β}(hx:l[i]? = some x):∃ b,rs[i]? = some (b,x):=by
 rw [← h,List.getElem?_map] at hx
 cases hq:rs[i]? with
 | none=>rw [hq] at hx;cases hx
 | some q=>rw [hq] at hx;cases hx;exact ⟨q.1,rfl⟩
theorem snd_len {α β:Type}{rs:List (α × β)}{l:List β}(h:rs.map Prod.snd=l):rs.length=l.length:=by rw [← h];simp
theorem set_same {α:Type}{l:List α}{i:Nat}{x:α}(h:l[i]? = some x):l.set i x=l:=by
 have hi:i<l.length:=(List.getElem?_eq_some_iff.1 h).1
 refine List.ext_getElem? fun k=>?_
 by_cases e:i=k
 ·subst e;rw [List.getElem?_set_self hi,h]
 ·rw [List.getElem?_set_ne e]
def colsB (h:HM)(w:List Int)(d:Nat):List (List Rat):=(List.range w.length).map fun j=>if w.length≤j+d then bwdF h w (w.length-1-j) else []
theorem colsB_len (h:HM)(w:List Int)(d:Nat):(colsB h w d).length=w.length:=by simp [colsB]
theorem colsB_zero (h:HM)(w:List Int):colsB h w 0=List.replicate w.length []:=by
 refine List.ext_getElem (by simp [colsB]) fun k h1 h2=>?_
 have hk:k<w.length:=by simpa [colsB] using h1
 simp only [colsB,List.getElem_map,List.getElem_range,List.getElem_replicate]
 rw [if_neg (by omega)]
theorem colsB_set {h:HM}{w:List Int}{d a:Nat}(hd:d<w.length)(ha:a=w.length-1-d):(colsB h w d).set a (bwdF h w d)=colsB h w (d+1):=by
 refine List.ext_getElem (by simp [colsB]) fun k h1 h2=>?_
 have hk:k<w.length:=by simpa [colsB] using h2
 rw [List.getElem_set]
 simp only [colsB,List.getElem_map,List.getElem_range]
 by_cases hq:a=k
 ·rw [if_pos hq,if_pos (by omega),show w.length-1-k=d by omega]
 ·rw [if_neg hq]
  by_cases h3:w.length≤k+d
  ·rw [if_pos h3,if_pos (by omega)]
  ·rw [if_neg h3,if_neg (by omega)]
theorem colsB_get {h:HM}{w:List Int}{d j:Nat}(hj:j<w.length)(hd:w.length≤j+d):(colsB h w d).getD j []=bwdF h w (w.length-1-j):=by
 unfold colsB
 rw [map_getD_range _ _ hj,if_pos hd]
theorem fwd_zero {h:HM}{w:List Int}{j:Nat}(hj:j<h.st):(fwdF h w 0).getD j 0=h.ini.getD j 0*emQ h j (symX w 0):=map_getD_range _ _ hj
theorem fwd_pos {h:HM}{w:List Int}{t j:Nat}(ht:0<t)(hj:j<h.st):(fwdF h w t).getD j 0=preF h w (fwdF h w (t-1)) (t-1) j h.st*emQ h j (symX w t):=by
 obtain ⟨u,rfl⟩:∃ u,t=u+1:=⟨t-1,by omega⟩
 exact map_getD_range _ _ hj
theorem bwd_zero {h:HM}{w:List Int}{i:Nat}(hi:i<h.st):(bwdF h w 0).getD i 0=h.stop.getD i 0:=map_getD_range _ _ hi
theorem bwd_pos {h:HM}{w:List Int}{d a i:Nat}(hd:0<d)(ha:a=w.length-1-d)(hi:i<h.st):(bwdF h w d).getD i 0=sufF h w (bwdF h w (d-1)) a i h.st:=by
 obtain ⟨u,rfl⟩:∃ u,d=u+1:=⟨d-1,by omega⟩
 subst ha
 exact map_getD_range _ _ hi
theorem fill_at {α:Type}{d:α}{g:Nat→α}{n i:Nat}(hi:i<n):(fillF d g n i).getD i d=d:=by
 unfold fillF
 rw [map_getD_range _ _ hi,if_neg (by omega)]
theorem fill_set_self {g:Nat→Rat}{n i:Nat}(hi:i<n):(fillF 0 g n i).set i 0=fillF 0 g n i:=by
 refine List.ext_getElem (by simp) fun k h1 h2=>?_
 rw [List.getElem_set]
 split
 ·rename_i e
  subst e
  have:=fill_at (d:=(0:Rat)) (g:=g) hi
  rw [getD_lt h2] at this
  exact this.symm
 ·rfl
def postR (h:HM)(w:List Int):List (List Rat):=if likF h w=0 then [] else (List.range w.length).map (postF h w)
def postE (h:HM)(w:List Int):Int:=if likF h w=0 then 11 else 0
def postD (h:HM)(w:List Int)(t:Nat):List (List D):=(List.range w.length).map fun i=>(if i<t then postF h w i else fwdF h w i).map dQ
def mixR (h:HM)(w:List Int)(t i:Nat):List Rat:=(List.range h.st).map fun j=>if j<i then postQ h w t j else (fwdF h w t).getD j 0
theorem postD_zero (h:HM)(w:List Int):postD h w 0=rowsD h w w.length:=List.map_congr_left fun i _=>by rw [if_neg (by omega)]
theorem postD_get {h:HM}{w:List Int}{t:Nat}(ht:t<w.length):(postD h w t)[t]? = some ((fwdF h w t).map dQ):=by
 unfold postD
 rw [List.getElem?_map,List.getElem?_range ht,Option.map_some,if_neg (by omega)]
theorem postD_len (h:HM)(w:List Int)(t:Nat):(postD h w t).length=w.length:=by simp [postD]
theorem postD_set {h:HM}{w:List Int}{t:Nat}(ht:t<w.length):(postD h w t).set t ((postF h w t).map dQ)=postD h w (t+1):=by
 refine List.ext_getElem (by simp [postD]) fun k h1 h2=>?_
 rw [List.getElem_set]
 simp only [postD,List.getElem_map,List.getElem_range]
 by_cases e:t=k
 ·subst e;rw [if_pos rfl,if_pos (by omega)]
 ·rw [if_neg e]
  by_cases h3:k<t
  ·rw [if_pos h3,if_pos (by omega)]
  ·rw [if_neg h3,if_neg (by omega)]
theorem postD_all (h:HM)(w:List Int):(postD h w w.length).map D.sl=((List.range w.length).map (postF h w)).map dQs:=by
 unfold postD
 rw [List.map_map,List.map_map]
 refine List.map_congr_left fun i hi=>?_
 have:=List.mem_range.1 hi
 show D.sl ((if i<w.length then postF h w i else fwdF h w i).map dQ)=dQs (postF h w i)
 rw [if_pos this]
theorem mixR_len (h:HM)(w:List Int)(t i:Nat):(mixR h w t i).length=h.st:=by simp [mixR]
theorem mixR_zero (h:HM)(w:List Int)(t:Nat):mixR h w t 0=fwdF h w t:=by
 refine list_eq_getD (by rw [mixR_len,fwdF_len]) 0 fun i hi=>?_
 rw [mixR_len] at hi
 unfold mixR
 rw [map_getD_range _ _ hi,if_neg (by omega)]
theorem mixR_get {h:HM}{w:List Int}{t i:Nat}(hi:i<h.st):(mixR h w t i).getD i 0=(fwdF h w t).getD i 0:=by
 unfold mixR
 rw [map_getD_range _ _ hi,if_neg (by omega)]
theorem mixR_set {h:HM}{w:List Int}{t i:Nat}(hi:i<h.st):(mixR h w t i).set i (postQ h w t i)=mixR h w t (i+1):=by
 refine List.ext_getElem (by simp [mixR]) fun k h1 h2=>?_
 rw [List.getElem_set]
 simp only [mixR,List.getElem_map,List.getElem_range]
 by_cases e:i=k
 ·subst e;rw [if_pos rfl,if_pos (by omega)]
 ·rw [if_neg e]
  by_cases h3:k<i
  ·rw [if_pos h3,if_pos (by omega)]
  ·rw [if_neg h3,if_neg (by omega)]
theorem mixR_all (h:HM)(w:List Int)(t:Nat):mixR h w t h.st=postF h w t:=by
 unfold mixR postF
 refine List.map_congr_left fun j hj=>?_
 rw [if_pos (List.mem_range.1 hj)]
end Go.AL
