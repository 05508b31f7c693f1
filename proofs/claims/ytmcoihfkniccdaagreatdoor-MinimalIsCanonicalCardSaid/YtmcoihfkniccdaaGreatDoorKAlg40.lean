/-
  AL, part 40: a struct of five cells by value, opened and laid as data.
-/
import Derived.Test.YtmcoihfkniccdaaGreatDoorKWkBD
import Derived.Test.YtmcoihfkniccdaaGreatDoorKWkW
import Derived.Test.YtmcoihfkniccdaaGreatDoorKMod109
import Derived.Test.YtmcoihfkniccdaaGreatDoorKAlgd
import Derived.Lib.SmallJoins
set_option linter.unusedVariables false
set_option linter.unusedSimpArgs false
namespace Go.Proofs.YtmcoihfkniccdaaGreatDoor
open Go Go.AL
theorem getD_ext {α:Type}{d:α}{l m:List α}(hl:l.length=m.length)(h:∀ j,j<l.length→l.getD j d=m.getD j d):l=m:=by
 refine List.ext_getElem hl fun j h1 h2=>?_
 have e:=h j h1
 rw [gd9,gd9,ge9 h1,ge9 h2] at e
 exact e
theorem min_place {a:Au}(h:1≤a.sym):∀ x,x ∈ (minN a).arcs→x.f<(preM (machL [a])).length∧x.t<(preM (machL [a])).length∧1≤x.l∧x.l≤a.sym :=
 PlaceA.tidy (p:=fun f l t=>f<(preM (machL [a])).length∧t<(preM (machL [a])).length∧1≤l∧l≤a.sym) (tidy_place h)
theorem min_coef {a:Au}(h:1≤a.sym){x:Arc9}(hx:x ∈ (minN a).arcs):x.q=(coefN (machL [a]) (preM (machL [a])) x.f (x.l-1)).getD x.t 0:=by
 obtain ⟨h1,h2,h3,h4⟩:=min_place h x hx
 rw [← entA_mem (tidy_asc (tidyA (arcN (machL [a]) (preM (machL [a]))))) hx h3,entA_tidy,entA_tidy]
 exact ent_arcN (by rw [k_one];omega) h1 h2
structure Au.Cmp (a:Au):Prop where
 ini:∀ i,sz (a.ini.getD i 0)≤68719476736
 fin:∀ i,sz (a.fin.getD i 0)≤68719476736
 arc:∀ i,sz (a.arcs.getD i default).q≤68719476736
 nini:a.ini.length≤64
 nfin:a.fin.length≤64
 narc:a.arcs.length≤64
theorem getD_all {α:Type}{p:α→Prop}{d:α}(h0:p d){l:List α}(h:∀ x,x ∈ l→p x)(i:Nat):p (l.getD i d):=by
 rcases Nat.lt_or_ge i l.length with hi|hi
 ·exact h _ (getD_mem hi d)
 ·rw [gd9,List.getElem?_eq_none hi];exact h0
theorem min_cmp {a:Au}{s:Nat}(t:Au.Take a s)(s2:s≤2)(st4:a.st≤4)(hk3:(preM (machL [a])).length≤3):Au.Cmp (minN a):=by
 obtain ⟨ok,_,z6,hn⟩:=mach1 t (Nat.le_trans s2 (by decide))
 obtain ⟨pk,pn⟩:=pre_ex ok z6
 have hs:a.sym=s:=t.fit.sym
 have hs1:=t.fit.ok.sym0
 have hk2:∀ u,u ∈ preM (machL [a])→u.length≤2:=fun u hu=>by have:=pk.short u hu;omega
 have z0:sz 0≤68719476736:=by rw [sz_zero];decide
 have z1:sz 1≤68719476736:=by rw [sz_one];decide
 refine ⟨getD_all (p:=fun q=>sz q≤68719476736) z0 fun q hq=>?_,getD_all (p:=fun q=>sz q≤68719476736) z0 fun q hq=>?_,getD_all (p:=fun x:Arc9=>sz x.q≤68719476736) z0 fun x hx=>?_,?_,?_,?_⟩
 ·obtain ⟨i,_,rfl⟩:=mm9 hq
  by_cases h0:i=0
  ·rw [if_pos h0];exact z1
  ·rw [if_neg h0];exact z0
 ·obtain ⟨u,hu,rfl⟩:=mm9 hq
  have h:=dot_sz (n:=(machL [a]).n) (u:=vf (vecM (machL [a]) u)) (v:=vf (machL [a]).fin) z6.n6 (fun i=>vecM_sz z6 (by have:=hk2 u hu;omega) i) z6.fin
  exact Nat.le_trans h (by decide)
 ·rw [min_coef hs1 hx]
  have hco:∀ i s j,sz ((coefN (machL [a]) (preM (machL [a])) i s).getD j 0)≤134217728:=by
   refine coefN_sz z6 (fun l hl=>?_) hk2 hk3 (Nat.le_trans (rowsB_le _ _ rfl) (by rw [lm9];exact hk3))
   have h:=bas_short (turn_ok ok) z6.turn l hl
   have hm:(turnM (machL [a])).n=(machL [a]).n:=rfl
   omega
  exact Nat.le_trans (hco _ _ _) (by decide)
 ·show (iniN _).length≤64
  rw [iniN_len];omega
 ·show ((preM (machL [a])).map _).length≤64
  rw [lm9];omega
 ·have h1:=tidyA_len (tidyA (arcN (machL [a]) (preM (machL [a]))))
  have h2:=tidyA_len (arcN (machL [a]) (preM (machL [a])))
  have h3:(arcN (machL [a]) (preM (machL [a]))).length≤20:=by
   rw [← arcX_all,arcX_len,k_one]
   have hm1:=Nat.mul_le_mul (show a.sym≤2 by omega) hk3
   have hm2:=Nat.mul_le_mul hk3 hm1
   omega
  show (tidyA (tidyA _)).length≤64
  omega
noncomputable abbrev ext24 (m:MModel)(fr la v:Int):Au:=extA (autoOf m 2 3) (1 / 2) (numQ v) (1+modI la 2) (modI fr (autoOf m 2 3).st)
theorem take_ext {m:MModel}{fr la v:Int}:Au.Take (ext24 m fr la v) 2:=by
 have t:=take_auto (m:=m)
 have h3:=auto3 (m:=m)
 have hl:modI la 2<2:=modI_lt (n:=2) la (by decide)
 have ht:=modI_lt fr h3.1
 have z:=ext_sz (a:=autoOf m 2 3) (r:=1 / 2) (q:=numQ v) (l:=1+modI la 2) (t:=modI fr (autoOf m 2 3).st) auto_sz half_szL (numQ_sz v)
 have ok:=ext_ok (r:=1 / 2) (q:=numQ v) t.fit.ok (l:=1+modI la 2) ⟨by omega,by show 1+modI la 2≤2;omega⟩ ht
 exact ⟨⟨ok,z.up (by decide) (by decide),rfl,(show 2≤32 by decide),by show (autoOf m 2 3).st+1≤64;omega⟩,z.few11 (by show (autoOf m 2 3).st+1≤6;omega),by show 1≤(autoOf m 2 3).st+1;omega⟩
theorem ser_ext {m:MModel}{fr la v:Int}{w:List Int}(hw:InW (autoOf m 2 3).sym w):serA (ext24 m fr la v) w=serA (autoOf m 2 3) w :=
 ext_ser take_auto.fit.ok ⟨by omega,by have h:modI la 2<2:=modI_lt (n:=2) la (by decide);show 1+modI la 2≤2;omega⟩ (modI_lt fr auto3.1) hw
theorem min_ext {m:MModel}{fr la v:Int}:minN (ext24 m fr la v)=minN (autoOf m 2 3):=by
 obtain ⟨ok1,_,z1,_⟩:=mach1 (take_ext (m:=m) (fr:=fr) (la:=la) (v:=v)) (by decide)
 obtain ⟨ok2,_,z2,_⟩:=mach1 (take_auto (m:=m)) (by decide)
 exact min_same ok1 z1 ok2 z2 rfl fun w hw=>ser_ext hw
theorem MinM {m:MModel}:FSpec P F.minimal_Minimal [vAu (autoOf m 2 3)] (.tup [vAu (minN (autoOf m 2 3)),.d (dI 0)]) :=
 MinimalA take_auto (by decide) (by decide) (by have:=auto3 (m:=m);omega) (wds m).r3
theorem MinC {m:MModel}{fr la v:Int}:FSpec P F.minimal_Minimal [vAu (ext24 m fr la v)] (.tup [vAu (minN (autoOf m 2 3)),.d (dI 0)]):=by
 have hr:rkA (ext24 m fr la v)=rkA (autoOf m 2 3):=by
  show rankF 2 _=rankF 2 _
  unfold rankF
  rw [tab_congr (k:=2) (f:=serA (ext24 m fr la v)) (g:=serA (autoOf m 2 3)) fun w hw=>ser_ext hw]
 have h:=MinimalA (take_ext (m:=m) (fr:=fr) (la:=la) (v:=v)) (by decide) (by decide) (by have:=auto3 (m:=m);show (autoOf m 2 3).st+1≤4;omega) (by rw [hr];exact (wds m).r3)
 rw [← min_ext (m:=m) (fr:=fr) (la:=la) (v:=v)]
 exact h
theorem cmp_auto {m:MModel}:Au.Cmp (minN (autoOf m 2 3)):=min_cmp take_auto (by decide) (by have:=auto3 (m:=m);omega) (by rw [(wds m).pl];exact (wds m).r3)
theorem min_iff {m n:MModel}:(eqA (autoOf m 2 3) (autoOf n 2 3)).isNone=true ↔ minN (autoOf m 2 3)=minN (autoOf n 2 3):=by
 obtain ⟨ok1,_,z1,_⟩:=mach1 (take_auto (m:=m)) (by decide)
 obtain ⟨ok2,_,z2,_⟩:=mach1 (take_auto (m:=n)) (by decide)
 rw [Option.isNone_iff_eq_none,eqA_none (a:=autoOf m 2 3) (b:=autoOf n 2 3) (take_auto (m:=m)).fit.ok (take_auto (m:=n)).fit.ok rfl]
 exact ⟨fun h=>min_same ok1 z1 ok2 z2 rfl h,fun h w hw=>min_ser ok1 z1 ok2 z2 rfl h hw⟩
theorem arc_ext {x y:Arc9}(h1:x.f=y.f)(h2:x.l=y.l)(h3:x.t=y.t)(h4:x.q=y.q):x=y:=by
 cases x;cases y;simp only at h1 h2 h3 h4;subst h1 h2 h3 h4;rfl
theorem au_ext {x y:Au}(h1:x.sym=y.sym)(h2:x.st=y.st)(h3:x.ini=y.ini)(h4:x.fin=y.fin)(h5:x.arcs=y.arcs):x=y:=by
 cases x;cases y;simp only at h1 h2 h3 h4 h5;subst h1 h2 h3 h4 h5;rfl
theorem arcs_len9 {l:List Arc9}:∀ y,y ∈ l.map dArc→y.cells.length=11:=fun y hy=>by
 obtain ⟨x,_,rfl⟩:=mm9 hy
 rfl
theorem r3SameList {l m:List Rat}(nl:l.length≤64)(nm:m.length≤64)(zl:∀ i,sz (l.getD i 0)≤68719476736)(zm:∀ i,sz (m.getD i 0)≤68719476736):FSpec P F.ref03_SameList [.d (dWs l),.d (dWs m)] (.d (dB (decide (l=m)))):=by
 refine FSpec.intro fn.ref03_SameList (by rfl) (by rfl) (nb9 (by rfl)) fun E hE=>(AW.sg hE rfl (asD rfl (OL.nil (AW.seq (AW.sg hE rfl (mvD rfl (lnL sl.Weights rfl rfl ?_)))))))
 refine mvD rfl (lnL sl.Weights rfl rfl (c_neq rfl rfl rfl (OL.nil (AW.cond rfl (fun h0=>?_) (fun h0=>?_)))))
 ·have h0:l.length≠m.length:=fun e=>nd_t h0 (by rw [e])
  rw [decide_eq_false (show ¬ l=m from fun e=>h0 (by rw [e]))]
  exact AW.sg hE rfl (asD rfl (OL.nil (AW.ret (RetQ.r ⟨_,.tmp rfl .nil,.le vR⟩))))
 ·have h0:l.length=m.length:=by have:=nd_f h0;omega
  refine AW.skip (AW.seq (AW.sg hE rfl (asD rfl (OL.nil (AW.block ?_)))))
  refine AW.whileK (α:=Nat) [(0,_),(1,_)] [] (fun i=>[(5,.d (dI i))]) (fun i=>[]) (fun i=>i≤l.length∧∀ j,j<i→l.getD j 0=m.getD j 0) (fun i=>l.length-i) 0 (.cons (knD rfl) (.cons (knD rfl) .nil)) .nil ⟨⟨Nat.zero_le _,fun j hj=>absurd hj (Nat.not_lt_zero _)⟩,.rq1,.nil⟩ ?_
  rintro i ⟨h1,h2⟩
  have h1:i≤l.length:=h1
  have h2:∀ j,j<i→l.getD j 0=m.getD j 0:=h2
  refine AW.seq (AW.sg hE rfl (mvD rfl (mvD rfl (lnL sl.Weights rfl rfl (c_lss rfl rfl rfl (OL.nil (AW.cond rfl (fun h14=>?_) (fun h14=>?_))))))))
  ·try simp only [dx9] at h14
   refine AW.skip (AW.seq (AW.block (AW.seq ?_)))
   have hi:i<l.length:=by omega
   have hi2:i<m.length:=by omega
   refine AW.dg 1 [0,1,2,3,4,5,6,7,8,9] order_free hE rfl (by kernel_rfl) (OI.of_OL (os:=[_,_,_,_,_,_,_,_,_,_]) rfl ?_)
   refine mvD rfl (mvD rfl (ixLn sl.Weights 0 rfl rfl hi rfl rfl (ldRA ag.Weight rfl (vs:=[_,_,_,_,_,_,_,_]) rfl (nb9 rfl) (mvD rfl (mvD rfl (ixLn sl.Weights 0 rfl rfl hi2 rfl rfl (ldRA ag.Weight rfl (vs:=[_,_,_,_,_,_,_,_]) rfl (nb9 rfl) ?_)))))))
   refine clv rfl vL (r3Equal (p:=l.getD i 0) (q:=m.getD i 0) (zl i) (zm i)) (nt rfl (OL.nil (AW.cond rfl (fun hs=>?_) (fun hs=>?_))))
   ·have hs:¬ l.getD i 0=m.getD i 0:=nd_t hs
    rw [decide_eq_false (show ¬ l=m from fun e=>hs (by rw [e]))]
    exact AW.sg hE rfl (asD rfl (OL.nil (AW.ret (RetQ.r ⟨_,.tmp rfl .nil,.le vR⟩))))
   ·have hs:l.getD i 0=m.getD i 0:=nd_f hs
    refine AW.skip (AW.rg hE rfl (mvD rfl (add_i64 rfl rfl (by omega) (asD rfl (OL.nil ?_)))))
    exact AW.again (x:=i) (i+1) (by omega) ⟨⟨by omega,fun j hj=>by
     by_cases e:j=i
     ·rw [e];exact hs
     ·exact h2 j (by omega)⟩,Knows.app .rq2 .rq1,.nil⟩
  ·try simp only [dx9] at h14
   refine AW.exit (AW.seq ?_)
   obtain rfl:i=l.length:=by omega
   rw [decide_eq_true (show l=m from getD_ext h0 h2)]
   exact AW.rg hE rfl (asD rfl (OL.nil (AW.ret (RetQ.r ⟨_,.tmp rfl .nil,.le vR⟩))))
set_option maxRecDepth 8000 in
set_option maxHeartbeats 1600000 in
theorem r6Same {a b : Au} {v : Bool} (hv : v = true ↔ a = b) (ca : Au.Cmp a) (cb : Au.Cmp b) (hs : a.sym = b.sym) : FSpec P F.ref06_Same [vAu a, vAu b] (.d (dB v)) := by
 have na:=ca.narc
 have nb:=cb.narc
 refine FSpec.intro fn.ref06_Same (by rfl) (by rfl) (nb9 (by rfl)) fun E hE=>(AW.sg hE rfl (bxA rfl rfl fun b2=>(bxA rfl rfl fun b3=>(asD rfl (OL.nil (AW.seq (AW.sg hE rfl ?_)))))))
 refine faP fd.Auto_0 rfl rfl (ldPA ag.Ring rfl rfl (vs:=[_,_]) rfl (nb9 rfl) (faP fd.Auto_0 rfl rfl (ldPA ag.Ring rfl rfl (vs:=[_,_]) rfl (nb9 rfl) (clv rfl vL (r3SameR) (nt rfl (mvD rfl (OL.yes rfl ?_)))))))
 refine faP fd.Auto_1 rfl rfl (OL.yes rfl (ldPC ce.int rfl rfl rfl (OL.yes rfl (faP fd.Auto_1 rfl rfl (OL.yes rfl (ldPC ce.int rfl rfl rfl (OL.yes rfl ?_)))))))
 refine c_neq rfl rfl (c:=false) (cne_f (by rw [hs])) (pkF rfl rfl (mvD rfl (OL.yes rfl (faP fd.Auto_2 rfl rfl (OL.yes rfl (ldPC ce.int rfl rfl rfl (OL.yes rfl ?_)))))))
 refine faP fd.Auto_2 rfl rfl (OL.yes rfl (ldPC ce.int rfl rfl rfl (OL.yes rfl (c_neq rfl rfl rfl (pkF rfl rfl (mvD rfl (OL.split 26 rfl (fun g1=>?_) (fun g1=>?_))))))))
 ·have g1:¬ a.st=b.st:=fun e=>nd_t g1 (by rw [e])
  have hv0:v=false:=Bool.eq_false_iff.2 fun e=>g1 (congrArg Au.st (hv.1 e))
  refine OL.nd rfl (OL.nd rfl (OL.nd rfl (OL.nd rfl (OL.nd rfl (OL.nd rfl (pkT rfl rfl (mvD rfl ?_)))))))
  refine OL.nd rfl (OL.nd rfl (OL.nd rfl (OL.nd rfl (OL.nd rfl (OL.nd rfl (pkT rfl rfl (mvD rfl ?_)))))))
  refine OL.nd rfl (OL.nd rfl (OL.nd rfl (OL.nd rfl (OL.nd rfl (OL.nd rfl (OL.nd rfl (pkT rfl rfl ?_)))))))
  refine OL.nil (cnT rfl ?_)
  refine AW.seq ?_
  rw [hv0]
  exact AW.rg hE rfl (asD rfl (OL.nil (AW.ret (RetQ.r ⟨_,.tmp rfl .nil,.le vR⟩))))
 ·have g1 : a.st = b.st := by have := nd_f g1; omega
  refine OL.yes rfl (faP fd.Auto_3 rfl rfl (OL.yes rfl (ldPC ce.Weights rfl rfl rfl (OL.yes rfl (faP fd.Auto_3 rfl rfl (OL.yes rfl (ldPC ce.Weights rfl rfl rfl ?_)))))))
  refine OL.yes rfl (clv rfl vL (r3SameList (l:=a.ini) (m:=b.ini) ca.nini cb.nini ca.ini cb.ini) (OL.yes rfl (nt rfl (pkF rfl rfl (mvD rfl (OL.split 34 rfl (fun g2=>?_) (fun g2=>?_)))))))
  ·have g2:¬ a.ini=b.ini:=nd_t g2
   have hv0:v=false:=Bool.eq_false_iff.2 fun e=>g2 (congrArg Au.ini (hv.1 e))
   refine OL.nd rfl (OL.nd rfl (OL.nd rfl (OL.nd rfl (OL.nd rfl (OL.nd rfl (pkT rfl rfl (mvD rfl ?_)))))))
   refine OL.nd rfl (OL.nd rfl (OL.nd rfl (OL.nd rfl (OL.nd rfl (OL.nd rfl (OL.nd rfl (pkT rfl rfl ?_)))))))
   refine OL.nil (cnT rfl ?_)
   refine AW.seq ?_
   rw [hv0]
   exact AW.rg hE rfl (asD rfl (OL.nil (AW.ret (RetQ.r ⟨_,.tmp rfl .nil,.le vR⟩))))
  ·have g2 : a.ini = b.ini := nd_f g2
   refine OL.yes rfl (faP fd.Auto_4 rfl rfl (OL.yes rfl (ldPC ce.Weights rfl rfl rfl (OL.yes rfl (faP fd.Auto_4 rfl rfl (OL.yes rfl (ldPC ce.Weights rfl rfl rfl ?_)))))))
   refine OL.yes rfl (clv rfl vL (r3SameList (l:=a.fin) (m:=b.fin) ca.nfin cb.nfin ca.fin cb.fin) (OL.yes rfl (nt rfl (pkF rfl rfl (mvD rfl (OL.split 42 rfl (fun g3=>?_) (fun g3=>?_)))))))
   ·have g3:¬ a.fin=b.fin:=nd_t g3
    have hv0:v=false:=Bool.eq_false_iff.2 fun e=>g3 (congrArg Au.fin (hv.1 e))
    refine OL.nd rfl (OL.nd rfl (OL.nd rfl (OL.nd rfl (OL.nd rfl (OL.nd rfl (OL.nd rfl (pkT rfl rfl ?_)))))))
    refine OL.nil (cnT rfl ?_)
    refine AW.seq ?_
    rw [hv0]
    exact AW.rg hE rfl (asD rfl (OL.nil (AW.ret (RetQ.r ⟨_,.tmp rfl .nil,.le vR⟩))))
   ·have g3 : a.fin = b.fin := nd_f g3
    refine OL.yes rfl (faP fd.Auto_5 rfl rfl (OL.yes rfl (ldPC ce.Arcs rfl rfl rfl (OL.yes rfl (lnL sl.Arcs rfl rfl (OL.yes rfl (faP fd.Auto_5 rfl rfl ?_)))))))
    refine OL.yes rfl (ldPC ce.Arcs rfl rfl rfl (OL.yes rfl (lnL sl.Arcs rfl rfl (OL.yes rfl (c_neq rfl rfl rfl (pkF rfl rfl (OL.nil ?_)))))))
    refine AW.cond rfl (fun g4=>?_) (fun g4=>?_)
    ·have g4:¬ a.arcs.length=b.arcs.length:=fun e=>nd_t g4 (by rw [e])
     have hv0:v=false:=Bool.eq_false_iff.2 fun e=>g4 (congrArg (fun x=>x.arcs.length) (hv.1 e))
     refine AW.seq ?_
     rw [hv0]
     exact AW.rg hE rfl (asD rfl (OL.nil (AW.ret (RetQ.r ⟨_,.tmp rfl .nil,.le vR⟩))))
    ·have g4:a.arcs.length=b.arcs.length:=by have:=nd_f g4;omega
     refine AW.skip (AW.seq (AW.sg hE rfl (asD rfl (OL.nil (AW.block ?_)))))
     refine AW.whileK (α:=Nat) [(2,_),(3,_)] [(2,_),(3,_)] (fun i=>[(5,.d (dI i))]) (fun i=>[]) (fun i=>i≤a.arcs.length∧∀ j,j<i→a.arcs.getD j default=b.arcs.getD j default) (fun i=>a.arcs.length-i) 0 (.cons (knP rfl) (.cons (knP rfl) .nil)) (.cons (owB rfl) (.cons (owB rfl) .nil)) ⟨⟨Nat.zero_le _,fun j hj=>absurd hj (Nat.not_lt_zero _)⟩,.rq1,.nil⟩ ?_
     rintro i ⟨h1,h2⟩
     have h1:i≤a.arcs.length:=h1
     have h2:∀ j,j<i→a.arcs.getD j default=b.arcs.getD j default:=h2
     refine AW.seq (AW.sg hE rfl (mvD rfl (faP fd.Auto_5 rfl rfl (ldPC ce.Arcs rfl rfl rfl (lnL sl.Arcs rfl rfl (c_lss rfl rfl rfl (OL.nil ?_)))))))
     refine AW.cond rfl (fun h55=>?_) (fun h55=>?_)
     ·try simp only [dx9] at h55
      refine AW.skip (AW.seq (AW.block (AW.seq ?_)))
      have hi:i<a.arcs.length:=by omega
      have hi2:i<b.arcs.length:=by omega
      refine AW.dg 1 [0,1,2,3,4,5,6,7,8,9,10,11,12,13,14,15,16,17,18,19,20,21,22,23,24,25,26,27] order_free hE rfl (by kernel_rfl) (OI.of_OL (os:=[_,_,_,_,_,_,_,_,_,_,_,_,_,_,_,_,_,_,_,_,_,_,_,_,_,_,_,_]) rfl ?_)
      refine faP fd.Auto_5 rfl rfl (ldPC ce.Arcs rfl rfl rfl (mvD rfl (ixLn sl.Arcs default rfl rfl hi rfl rfl (ldRA ag.Arc rfl (vs:=[_,_,_,_,_,_,_,_,_,_,_]) rfl (nb9 rfl) (faP fd.Auto_5 rfl rfl (ldPC ce.Arcs rfl rfl rfl (mvD rfl ?_)))))))
      refine ixLn sl.Arcs default rfl rfl hi2 rfl rfl (ldRA ag.Arc rfl (vs:=[_,_,_,_,_,_,_,_,_,_,_]) rfl (nb9 rfl) (clv rfl vL (r6order (x:=(a.arcs.getD i default)) (y:=(b.arcs.getD i default))) (c_neq rfl rfl rfl (mvD rfl (OL.split 70 rfl (fun g5=>?_) (fun g5=>?_))))))
      ·have g5:¬ ordA (a.arcs.getD i default) (b.arcs.getD i default)=0:=fun e=>nd_t g5 (by rw [e])
       have hv0:v=false:=Bool.eq_false_iff.2 fun e=>g5 (by rw [hv.1 e];exact ordA_zero.2 ⟨rfl,rfl,rfl⟩)
       refine OL.nd rfl (OL.nd rfl (OL.nd rfl (OL.nd rfl (OL.nd rfl (OL.nd rfl (OL.nd rfl (OL.nd rfl ?_)))))))
       refine OL.nd rfl (OL.nd rfl (OL.nd rfl (OL.nd rfl (OL.nd rfl (OL.nd rfl (pkT rfl rfl (OL.nil ?_)))))))
       refine cnT rfl ?_
       refine AW.seq ?_
       rw [hv0]
       exact AW.rg hE rfl (asD rfl (OL.nil (AW.ret (RetQ.r ⟨_,.tmp rfl .nil,.le vR⟩))))
      ·have g5:ordA (a.arcs.getD i default) (b.arcs.getD i default)=0:=by have:=nd_f g5;omega
       refine OL.yes rfl (faP fd.Auto_5 rfl rfl (OL.yes rfl (ldPC ce.Arcs rfl rfl rfl (OL.yes rfl (mvD rfl (OL.yes rfl (ixLn sl.Arcs default rfl rfl hi rfl rfl ?_)))))))
       refine OL.yes rfl (faR fd.Arc_3 rfl rfl (OL.yes rfl (ldRA ag.Weight rfl (vs:=[_,_,_,_,_,_,_,_]) rfl (nb9 rfl) (OL.yes rfl (faP fd.Auto_5 rfl rfl (OL.yes rfl (ldPC ce.Arcs rfl rfl rfl ?_)))))))
       refine OL.yes rfl (mvD rfl (OL.yes rfl (ixLn sl.Arcs default rfl rfl hi2 rfl rfl (OL.yes rfl (faR fd.Arc_3 rfl rfl (OL.yes rfl (ldRA ag.Weight rfl (vs:=[_,_,_,_,_,_,_,_]) rfl (nb9 rfl) ?_)))))))
       refine OL.yes rfl (clv rfl vL (r3Equal (p:=(a.arcs.getD i default).q) (q:=(b.arcs.getD i default).q) (ca.arc i) (cb.arc i)) (OL.yes rfl (nt rfl (pkF rfl rfl (OL.nil (AW.cond rfl (fun g6=>?_) (fun g6=>?_)))))))
       ·have g6:¬ (a.arcs.getD i default).q=(b.arcs.getD i default).q:=nd_t g6
        have hv0:v=false:=Bool.eq_false_iff.2 fun e=>g6 (by rw [hv.1 e])
        refine AW.seq ?_
        rw [hv0]
        exact AW.rg hE rfl (asD rfl (OL.nil (AW.ret (RetQ.r ⟨_,.tmp rfl .nil,.le vR⟩))))
       ·have g6:(a.arcs.getD i default).q=(b.arcs.getD i default).q:=nd_f g6
        obtain ⟨e1,e2,e3⟩:=ordA_zero.1 g5
        have he:(a.arcs.getD i default)=(b.arcs.getD i default):=arc_ext e1 e2 e3 g6
        refine AW.skip (AW.rg hE rfl (mvD rfl (add_i64 rfl rfl (by omega) (asD rfl (OL.nil ?_)))))
        exact AW.again (x:=i) (i+1) (by omega) ⟨⟨by omega,fun j hj=>by
         by_cases e:j=i
         ·rw [e];exact he
         ·exact h2 j (by omega)⟩,Knows.app .rq2 .rq1,Owns.app (.cons rfl (.cons rfl .nil)) (.nil)⟩
     ·try simp only [dx9] at h55
      refine AW.exit (AW.seq ?_)
      obtain rfl:i=a.arcs.length:=by omega
      rw [show v=true from hv.2 (au_ext hs g1 g2 g3 (getD_ext g4 h2))]
      exact AW.rg hE rfl (asD rfl (OL.nil (AW.ret (RetQ.r ⟨_,.tmp rfl .nil,.le vR⟩))))
theorem law24_q12  : FSpec P F.law24_q [.d (dI 1),.d (dI 2)] (vW (1 / 2)):=by
 refine FSpec.intro fn.law24_q (by rfl) (by rfl) (nb9 (by rfl)) fun E hE=>(AW.sg hE rfl (al z.Weight rfl fun b4=>(OL.nil (AW.sg hE rfl (mvD rfl (mvD rfl (clv rfl vL (ref_OfQ (n:=1) (d:=2) (by decide) (by decide) (by decide)) ?_)))))))
 rw [half_q]
 exact bd z.Weight pl.Weight (cs:=[_,_,_,_,_,_,_,_]) rfl (sto sz.Weight rfl rfl rfl rfl rfl (nb9 rfl) (cells2:=[_,_,_,_,_,_,_,_]) rfl (OL.nil (AW.ret (RetQ.r ⟨_,.cellA rfl rfl ag.Weight (nb9 rfl) .nil,.le vle_wq⟩))))
set_option maxRecDepth 8000 in
set_option maxHeartbeats 3200000 in
theorem law_MinimalIsCanonical {m n:MModel}{e1 e2:Bool}{fr la v:Int}(ha1:m.ini.length≤9223372036854775807)(ha2:m.fin.length≤9223372036854775807)(ha3:m.arcs.length≤9223372036854775807)(hb1:n.ini.length≤9223372036854775807)(hb2:n.fin.length≤9223372036854775807)(hb3:n.arcs.length≤9223372036854775807):FSpec P F.law24_MinimalIsCanonical [vModelE m e1,vModelE n e2,.d (dI fr),.d (dI la),.d (dI v)] (.d (dB true)):=by
 have hm3:=auto3 (m:=m)
 have t:=take_auto (m:=m)
 have hi1:(autoOf m 2 3).ini.length=(autoOf m 2 3).st:=t.fit.ok.ini
 have hf1:(autoOf m 2 3).fin.length=(autoOf m 2 3).st:=t.fit.ok.fin
 have hn1:(autoOf m 2 3).arcs.length≤10:=auto_sz.num
 have hla:modI la 2<2:=modI_lt (n:=2) la (by decide)
 have hlae:modI la ((2:Nat):Int)=modI la 2:=rfl
 have hfr:=modI_lt fr hm3.1
 refine FSpec.intro fn.law24_MinimalIsCanonical (by rfl) (by rfl) (nb9 (by rfl)) fun E hE=>(AW.sg hE rfl (bxA rfl rfl fun b5=>(bxA rfl rfl fun b6=>(asD rfl (OL.nil (AW.seq (AW.dg 1 [0,1,2,3,4,5,6,7] order_free hE rfl (by kernel_rfl) (OI.of_OL (os:=[_,_,_,_,_,_,_,_]) rfl ?_))))))))
 refine ldPA ag.Model rfl rfl (vs:=[_,_,_,_,_]) rfl (nb9 rfl) (clv rfl vL (law24_plain (m:=m) ha1 ha2 ha3) (ldPA ag.Model rfl rfl (vs:=[_,_,_,_,_]) rfl (nb9 rfl) (clv rfl vL (law24_plain (m:=n) hb1 hb2 hb3) (al z.Auto rfl fun b11=>(al z.Auto rfl fun b12=>(sto sz.Auto rfl rfl rfl rfl rfl (nb9 rfl) (cells2:=[_,_,_,_,_,_,_]) rfl (sto sz.Auto rfl rfl rfl rfl rfl (nb9 rfl) (cells2:=[_,_,_,_,_,_,_]) rfl ?_)))))))
 refine OL.nil (AW.sg hE rfl (ldPA ag.Auto rfl rfl (vs:=[_,_,_,_,_,_,_]) rfl (nb9 rfl) (clv rfl vL (MinM (m:=m)) (mvT rfl (ex rfl rfl (ex rfl rfl (al z.Auto rfl fun b13=>?_)))))))
 refine sto sz.Auto rfl rfl rfl rfl rfl (nb9 rfl) (cells2:=[_,_,_,_,_,_,_]) rfl (asD rfl (OL.nil (AW.sg hE rfl (ldPA ag.Auto rfl rfl (vs:=[_,_,_,_,_,_,_]) rfl (nb9 rfl) (clv rfl vL (MinM (m:=n)) (mvT rfl (ex rfl rfl ?_)))))))
 refine ex rfl rfl (al z.Auto rfl fun b15=>(sto sz.Auto rfl rfl rfl rfl rfl (nb9 rfl) (cells2:=[_,_,_,_,_,_,_]) rfl (asD rfl (OL.nil (AW.sg hE rfl (ldPA ag.Auto rfl rfl (vs:=[_,_,_,_,_,_,_]) rfl (nb9 rfl) (ldPA ag.Auto rfl rfl (vs:=[_,_,_,_,_,_,_]) rfl (nb9 rfl) ?_)))))))
 refine clv rfl vL (r23Equal (a:=(autoOf m 2 3)) (b:=(autoOf n 2 3)) take_auto wt_auto3 take_auto wt_auto3 neg_auto diff_auto) (mvT rfl (ex rfl rfl (ex rfl rfl (ex rfl rfl (asD rfl (asD rfl (asD rfl ?_)))))))
 refine OL.nil (AW.sg hE rfl (ldPA ag.Auto rfl rfl (vs:=[_,_,_,_,_,_,_]) rfl (nb9 rfl) (al z.Auto rfl fun b20=>(sto sz.Auto rfl rfl rfl rfl rfl (nb9 rfl) (cells2:=[_,_,_,_,_,_,_]) rfl (OL.nil (AW.sg hE rfl (faP fd.Auto_2 rfl rfl ?_)))))))
 refine ldPC ce.int rfl rfl rfl (bo rfl rfl (bin_add (c:=(((autoOf m 2 3).st+1:Nat):Int)) (by omega) (wrap_i64 (by omega))) (faP fd.Auto_2 rfl rfl (sto sz.int rfl rfl rfl rfl rfl (nb9 rfl) (cells2:=[_,_,_,_,_,_,_]) rfl (OL.nil (AW.seq (AW.dg 2 [0,1,3,4,6,7,2,5,12,8,9,10,11,13,14,15] order_free hE rfl (by kernel_rfl) (OI.of_OL (os:=[_,_,_,_,_,_,_,_,_,_,_,_,_,_,_,_]) rfl ?_)))))))
 refine faP fd.Auto_3 rfl rfl (ldPC ce.Weights rfl rfl rfl (bd z.Weight pl.Weight (cs:=[_,_,_,_,_,_,_,_]) rfl (lt1 (y:=dW 0) sl.Weights vd_w0m rfl (by decide) (faP fd.Auto_4 rfl rfl (ldPC ce.Weights rfl rfl rfl (apM sl.Weights rfl rfl (VC.d _) ws_len (by rw [lm9];omega) (by rw [lm9];omega) rfl fun b51 c51=>?_))))))
 refine apOD sl.Weights rfl rfl rfl rfl (VC.d _) (fun y hy=>by rw [ms9 hy];rfl) (by rw [lm9];simp only [ls9];omega) (by rw [lm9];simp only [ls9];omega) (.inl rfl) (ys:=((autoOf m 2 3).ini++[0]).map dW) (by rw [List.map_append];rfl) ?_
 refine faP fd.Auto_3 rfl rfl (apM sl.Weights rfl rfl (VC.d _) ws_len (by rw [lm9];omega) (by rw [lm9];omega) rfl fun b57 c57=>(clv rfl vL (law24_q12) (lt1 (y:=dW (1 / 2)) sl.Weights vd_w rfl (by decide) ?_)))
 refine apOD sl.Weights rfl rfl rfl rfl (VC.d _) (fun y hy=>by rw [ms9 hy];rfl) (by rw [lm9];simp only [ls9];omega) (by rw [lm9];simp only [ls9];omega) (.inl rfl) (ys:=((autoOf m 2 3).fin++[1 / 2]).map dW) (by rw [List.map_append];rfl) ?_
 refine sto sz.Weights rfl rfl rfl rfl rfl (nb9 rfl) (cells2:=[_,_,_,_,_,_,_]) rfl (faP fd.Auto_4 rfl rfl (sto sz.Weights rfl rfl rfl rfl rfl (nb9 rfl) (cells2:=[_,_,_,_,_,_,_]) rfl (OL.nil (AW.seq (AW.dg 2 [0,1,3,4,5,8,9,10,13,2,6,7,11,12,14,15,16,17,18,19] order_free hE rfl (by kernel_rfl) (OI.of_OL (os:=[_,_,_,_,_,_,_,_,_,_,_,_,_,_,_,_,_,_,_,_]) rfl ?_))))))
 refine faP fd.Auto_5 rfl rfl (ldPC ce.Arcs rfl rfl rfl (faP fd.Auto_2 rfl rfl (ldPC ce.int rfl rfl rfl (mvD rfl (mvD rfl (faP fd.Auto_2 rfl rfl (ldPC ce.int rfl rfl rfl ?_)))))))
 refine mvD rfl (apM sl.Arcs rfl rfl (VC.d _) arcs_len9 (by rw [lm9];omega) (by rw [lm9];omega) rfl fun b65 c65=>(clv rfl vL (ModI (k:=la) (n:=2) (by decide)) (bo rfl rfl (bin_add (c:=((1+modI la 2:Nat):Int)) (by omega) (wrap_i64 (by omega))) (clv rfl vL (ModI (k:=fr) (n:=(autoOf m 2 3).st) (by omega)) (clv rfl (.nil) (law24_ring) (clv rfl vL (WeightI (v:=v)) ?_))))))
 refine bd2 (cs:=[_,_,_,_,_,_,_,_,_,_,_]) z.Arc pl.Arc (pvC (by exact evD rfl) (pvC (by exact evD rfl) (pvC (by exact evD rfl) (pvC (by exact evA rfl) (pvN))))) (by rfl) (lt1 (y:=dArc (⟨(autoOf m 2 3).st,1+modI la 2,modI fr (autoOf m 2 3).st,numQ v⟩:Arc9)) sl.Arcs (vd_arc (x:=(⟨(autoOf m 2 3).st,1+modI la 2,modI fr (autoOf m 2 3).st,numQ v⟩:Arc9))) rfl (by decide) ?_)
 refine apOD sl.Arcs rfl rfl rfl rfl (VC.d _) (fun y hy=>by rw [ms9 hy];rfl) (by rw [lm9];simp only [ls9];omega) (by rw [lm9];simp only [ls9];omega) (.inl rfl) (ys:=((autoOf m 2 3).arcs++[(⟨(autoOf m 2 3).st,1+modI la 2,modI fr (autoOf m 2 3).st,numQ v⟩:Arc9)]).map dArc) (by rw [List.map_append];rfl) ?_
 refine faP fd.Auto_5 rfl rfl (sto sz.Arcs rfl rfl rfl rfl rfl (nb9 rfl) (cells2:=[_,_,_,_,_,_,_]) rfl (OL.nil (AW.sg hE rfl (ldPA ag.Auto rfl rfl (vs:=[_,_,_,_,_,_,_]) rfl (nb9 rfl) (clv rfl vL (MinC (m:=m) (fr:=fr) (la:=la) (v:=v)) (mvT rfl (ex rfl rfl ?_)))))))
 refine ex rfl rfl (al z.Auto rfl fun b21=>(sto sz.Auto rfl rfl rfl rfl rfl (nb9 rfl) (cells2:=[_,_,_,_,_,_,_]) rfl (asD rfl (OL.nil (AW.sg hE rfl (clv rfl (.nil) (law24_awake) (mvD rfl ?_)))))))
 refine OL.yes rfl (mvD rfl (OL.yes rfl (c_eql rfl rfl (c:=true) (decide_eq_true rfl) (pkT rfl rfl (mvD rfl (OL.yes rfl (mvD rfl ?_)))))))
 refine OL.yes rfl (c_eql rfl rfl (c:=true) (decide_eq_true rfl) (pkT rfl rfl (mvD rfl (OL.yes rfl (mvD rfl (OL.yes rfl (c_eql rfl rfl (c:=true) (decide_eq_true rfl) ?_)))))))
 refine pkT rfl rfl (mvD rfl (OL.yes rfl (mvD rfl (OL.yes rfl (ldPA ag.Auto rfl rfl (vs:=[_,_,_,_,_,_,_]) rfl (nb9 rfl) (OL.yes rfl (ldPA ag.Auto rfl rfl (vs:=[_,_,_,_,_,_,_]) rfl (nb9 rfl) ?_)))))))
 refine OL.yes rfl (clv rfl vL (r6Same (v:=(eqA (autoOf m 2 3) (autoOf n 2 3)).isNone) min_iff cmp_auto cmp_auto rfl) (OL.yes rfl (eqbS bt.bool rfl rfl rfl (pkT rfl rfl (mvD rfl (OL.yes rfl (ldPA ag.Auto rfl rfl (vs:=[_,_,_,_,_,_,_]) rfl (nb9 rfl) ?_)))))))
 exact OL.yes rfl (ldPA ag.Auto rfl rfl (vs:=[_,_,_,_,_,_,_]) rfl (nb9 rfl) (OL.yes rfl (clv rfl vL (r6Same (v:=true) ⟨fun _=>rfl,fun _=>rfl⟩ (cmp_auto (m:=m)) cmp_auto rfl) (pkT rfl rfl (asD rfl (OL.nil (AW.ret (RetQ.r ⟨_,.tmp rfl .nil,.le vR⟩))))))))
end Go.Proofs.YtmcoihfkniccdaaGreatDoor
namespace Go.AL
open Go Go.BigFrame Go.RowKit Go.ChangeShapes Go.WideShapes Go.ChangeAt Go.Joins Go.Deep
theorem array5 {α:Type}{cs:Array α}(h:cs.size=5):∃ c0 c1 c2 c3 c4,cs = #[c0,c1,c2,c3,c4]:=by
 obtain ⟨l⟩:=cs
 match l,h with
 | [c0,c1,c2,c3,c4],_=>exact ⟨c0,c1,c2,c3,c4,rfl⟩
section
variable {H:Type}{enc:TypeId × Value→H}{P:Program}{w:World}{base:Nat}{spare:Nat→Bool}{held:Bool}
theorem trod_struct5 {t:TypeId}{f0 f1 f2 f3 f4:Field}{fuel:Nat}{cs:List Value}{x:DataW H × List MemPlace}(ht:P.underlying t=some (.struct #[f0,f1,f2,f3,f4]))(h:DataW.trod enc P w base spare held fuel t cs=some x) :
  ∃ y0 y1 y2 y3 y4 n,x=(.agg [y0.1,y1.1,y2.1,y3.1,y4.1],y0.2++(y1.2++(y2.2++(y3.2++y4.2))))∧cs.length=P.cellsOf t∧DataW.trod enc P w base spare held n f0.type ((cs.drop f0.offset).take (P.cellsOf f0.type))=some y0 ∧
   DataW.trod enc P w base spare held n f1.type ((cs.drop f1.offset).take (P.cellsOf f1.type))=some y1∧DataW.trod enc P w base spare held n f2.type ((cs.drop f2.offset).take (P.cellsOf f2.type))=some y2 ∧
   DataW.trod enc P w base spare held n f3.type ((cs.drop f3.offset).take (P.cellsOf f3.type))=some y3∧DataW.trod enc P w base spare held n f4.type ((cs.drop f4.offset).take (P.cellsOf f4.type))=some y4:=by
 obtain ⟨xs,n,_,rfl,hl,hlen,hf⟩:=DataW.trod_struct ht h
 match xs,hlen with
 | [y0,y1,y2,y3,y4],_=>exact ⟨y0,y1,y2,y3,y4,n,by simp,hl,by simpa using hf 0 f0 rfl,by simpa using hf 1 f1 rfl,by simpa using hf 2 f2 rfl,by simpa using hf 3 f3 rfl,by simpa using hf 4 f4 rfl⟩
theorem open_agg5 {r:Reach}{b0:Nat}{t:TypeId}{f0 f1 f2 f3 f4:Field}{v:Value}{d:DataW H}{p:List MemPlace}(hs:P.underlying t=some (.struct #[f0,f1,f2,f3,f4]))(hone:oneCellFields P #[f0,f1,f2,f3,f4]=true)(hC:P.cellsOf t=5)
  (hv:Value.okWide P w r b0 t v) (h:DataW.Trod enc P w base spare held t v d p) :
  ∃ (v0 v1 v2 v3 v4:Value) (y0 y1 y2 y3 y4:DataW H × List MemPlace) (n:Nat),v=.agg #[v0,v1,v2,v3,v4] ∧
   DataW.trod enc P w base spare held n f0.type [v0]=some y0∧DataW.trod enc P w base spare held n f1.type [v1]=some y1∧DataW.trod enc P w base spare held n f2.type [v2]=some y2∧DataW.trod enc P w base spare held n f3.type [v3]=some y3∧DataW.trod enc P w base spare held n f4.type [v4]=some y4:=by
 obtain ⟨cs,rfl,hsz⟩:=okWide_struct hs hv
 obtain ⟨c0,c1,c2,c3,c4,rfl⟩:=array5 (hsz.trans hC)
 obtain ⟨fuel,hf⟩:=h
 obtain ⟨y0,y1,y2,y3,y4,n,hx,_,h0,h1,h2,h3,h4⟩:=trod_struct5 hs hf
 obtain ⟨o0,k0⟩:=hone_of hone 0 f0 rfl
 obtain ⟨o1,k1⟩:=hone_of hone 1 f1 rfl
 obtain ⟨o2,k2⟩:=hone_of hone 2 f2 rfl
 obtain ⟨o3,k3⟩:=hone_of hone 3 f3 rfl
 obtain ⟨o4,k4⟩:=hone_of hone 4 f4 rfl
 exact ⟨c0,c1,c2,c3,c4,y0,y1,y2,y3,y4,n,rfl,by simpa [Value.cells,o0,k0] using h0,by simpa [Value.cells,o1,k1] using h1,by simpa [Value.cells,o2,k2] using h2,by simpa [Value.cells,o3,k3] using h3,by simpa [Value.cells,o4,k4] using h4⟩
end
theorem bool_open {P:Program}{H:Type}{enc:TypeId × Value→H}{w:World}{base fuel:Nat}{spare:Nat→Bool}{held:Bool}{t:TypeId}{v:Value}{x:DataW H × List MemPlace}(ht:P.underlying t=some .bool)
  (h:DataW.trod enc P w base spare held fuel t [v]=some x):∃ b,v=.bool b:=by
 obtain ⟨b,h1,_⟩:=DataW.trod_bool ht h
 simp at h1
 exact ⟨b,h1⟩
theorem simv_agg5 {F:Hp}{u0 u1 u2 u3 u4:Value}{x0 x1 x2 x3 x4:D}(h0:SimV F u0 (.d x0))(h1:SimV F u1 (.d x1))(h2:SimV F u2 (.d x2))(h3:SimV F u3 (.d x3))(h4:SimV F u4 (.d x4)):SimV F (.agg #[u0,u1,u2,u3,u4]) (.ag [.d x0,.d x1,.d x2,.d x3,.d x4]):=by
 have h:=simvs_cons h0 (simvs_cons h1 (simvs_cons h2 (simvs_cons h3 (simvs_cons h4 simvs_nil))))
 refine .ag (us:=[u0,u1,u2,u3,u4]) h.1 (fun u hu=>?_) h.2
 simp only [List.mem_cons,List.not_mem_nil,or_false] at hu
 rcases hu with rfl|rfl|rfl|rfl|rfl
 ·exact h0.one
 ·exact h1.one
 ·exact h2.one
 ·exact h3.one
 ·exact h4.one
end Go.AL
