/-
  Walks of package passive, part 3: weights along a sample, Agrees (printed by mk2.py).
-/
import Derived.Test.YtnjoncgnjdkaoaaGreatDoorKWkT
import Derived.Test.YtnjoncgnjdkaoaaGreatDoorKPvC
set_option maxHeartbeats 3200000
set_option maxRecDepth 8000
set_option linter.unusedVariables false
set_option linter.unusedSimpArgs false
namespace Go.Proofs.YtnjoncgnjdkaoaaGreatDoor
open Go Go.AL
def RF (m:Rq)(sym n g:Nat):List bH:=(List.range g).map (ba9 m.aS sym n)
theorem Yx {s:Nat}(hs:1<=s/\s<=32):aj P F.vJ [.d (dI s)] (.d (dB true)):=by
 refine aj.intro fn.vJ (by rfl) (by rfl) (aB (by rfl)) λE hE=>(AW.sg hE rfl (aF rfl (OL.nil (AW.sg hE rfl (ai rfl (qY rfl rfl (c:=true) (by exact decide_eq_true (by omega)) (ai rfl ?_)))))))
 exact OL.yes rfl (ai rfl (OL.yes rfl (xN rfl rfl (c:=true) (by exact decide_eq_true (by omega)) (oC rfl rfl (aF rfl (OL.nil (AW.ret (aP.r ⟨_,.tmp rfl .nil,.le vR⟩))))))))
theorem aG5 {v lo hi:Int}(h:lo<=v/\v<=hi):aj P F.Ho [.d (dI v),.d (dI lo),.d (dI hi)] (.d (dB true)):=by
 refine aj.intro fn.Ho (by rfl) (by rfl) (aB (by rfl)) λE hE=>(AW.sg hE rfl (aF rfl (OL.nil (AW.sg hE rfl (ai rfl (ai rfl (qY rfl rfl (c:=true) (by exact decide_eq_true (by omega)) ?_)))))))
 refine ai rfl (OL.yes rfl (ai rfl (OL.yes rfl (ai rfl (OL.yes rfl (xN rfl rfl (c:=true) (by exact decide_eq_true (by omega)) (oC rfl rfl ?_)))))))
 exact aF rfl (OL.nil (AW.ret (aP.r ⟨_,.tmp rfl .nil,.le vR⟩)))
theorem aG6 {l:List Rat}{i:Nat}(hi:i<l.length):(l.map dW)[i]? = some (dW (l.getD i 0)):=by rw[List.getElem?_map,ig,lu hi];rfl
theorem Yy {p q:Rat}(hp:sz p<=68719476736)(hq:sz q<=68719476736):aj P F.AB [l7,vW p,vW q] (vW (p*q)):=by
 refine aj.intro fn.AB (by rfl) (by rfl) (aB (by rfl)) λE hE=>(AW.sg hE rfl (iI rfl rfl λb3=>(iI rfl rfl λb4=>(iI rfl rfl λb5=>(al z.aA rfl λb6=>(OL.nil (AW.seq ?_)))))))
 refine AW.sg hE rfl (aO ag.Ring rfl rfl (vs:=[_,_]) rfl (aB rfl) (bJ rfl .bZ (Iy) (nt rfl (OL.nil (qW rfl ?_)))));refine AW.skip (AW.seq (AW.dg 1 [0,1,2,3,4,5,6,7] ay hE rfl (by kernel_rfl) (OI.aK (os:=[_,_,_,_,_,_,_,_]) rfl ?_)))
 refine aO ag.Ring rfl rfl (vs:=[_,_]) rfl (aB rfl) (aO ag.aA rfl rfl (vs:=[_,_,_,_,_,_,_,_]) rfl (aB rfl) (bJ rfl vL (Jr hp) (aO ag.Ring rfl rfl (vs:=[_,_]) rfl (aB rfl) (aO ag.aA rfl rfl (vs:=[_,_,_,_,_,_,_,_]) rfl (aB rfl) (bJ rfl vL (Jr hq) (eH sz.aA rfl rfl rfl rfl rfl (aB rfl) (cells2:=[_,_,_,_,_,_,_,_]) rfl (eH sz.aA rfl rfl rfl rfl rfl (aB rfl) (cells2:=[_,_,_,_,_,_,_,_]) rfl ?_)))))));refine OL.nil (AW.seq (AW.sg hE rfl (aW fd.nZ rfl rfl (aG ce.int rfl rfl rfl (OL.nil (AW.block (AW.seq ?_)))))));refine AW.sg hE rfl (dR rfl rfl (c:=true) (by exact decide_eq_true (by omega)) (aF rfl (OL.nil (Ot rfl ?_))))
 refine AW.skip (Ot rfl ?_);refine AW.sg hE rfl (aW fd.gK rfl rfl (aO ag.Rat rfl rfl (vs:=[_,_,_]) rfl (aB rfl) (aW fd.gK rfl rfl (aO ag.Rat rfl rfl (vs:=[_,_,_]) rfl (aB rfl) (bJ rfl vL (ar2 (x:=p) (y:=q) hp hq) (bd z.aA pl.aA (cs:=[_,_,_,_,_,_,_,_]) rfl (eH sz.aA rfl rfl rfl rfl rfl (aB rfl) (cells2:=[_,_,_,_,_,_,_,_]) rfl ?_)))))));exact OL.nil (AW.ret (aP.r ⟨_,.dV rfl rfl ag.aA (aB rfl) .nil,.le Jb⟩))
theorem Qx {l:List Rat}(nl:l.length<=64)(hz:∀ x,x ∈ l->sz x<=134217728):aj P F.xA [l7,.d (wG l),.d (dI l.length)] (.d (dB true)):=by
 refine aj.intro fn.xA (by rfl) (by rfl) (aB (by rfl)) λE hE=>(AW.sg hE rfl (iI rfl rfl λb3=>(aF rfl (OL.nil (AW.seq (AW.sg hE rfl (ai rfl ?_)))))))
 refine fJ sl.aU rfl rfl (ai rfl (eG rfl rfl (c:=false) (lY rfl) (OL.nil (qW rfl ?_))));refine AW.skip (AW.seq (AW.sg hE rfl (aF rfl (OL.nil (AW.block ?_)))));refine AW.aV (α:=Nat) [(1,_),(2,_),(3,_)] [(3,_)] (λi=>[(7,.d (dI i))]) (λi=>[]) (λi=>i<=l.length) (λi=>l.length-i) 0 (.cons (bK rfl) (.cons (bK rfl) (.cons (gB rfl) .nil))) (.cons (iR rfl) .nil) ⟨Nat.zero_le _,.bZ,.nil⟩ ?_
 rintro i h1
 have h1:i<=l.length:=h1;refine AW.seq (AW.sg hE rfl (ai rfl (ai rfl (aY rfl rfl rfl (OL.nil (AW.cond rfl (λBf=>?_) (λBf=>?_)))))))
 .try simp only[dX] at Bf
  refine AW.skip (AW.seq (AW.block (AW.seq ?_)));have hx:=hz (l.getD i 0) (getD_mem (by omega) 0)
  refine AW.dg 1 [0,1,2,3,4,5,6] ay hE rfl (by kernel_rfl) (OI.aK (os:=[_,_,_,_,_,_,_]) rfl ?_)
  refine aO ag.Ring rfl rfl (vs:=[_,_]) rfl (aB rfl) (ai rfl (ai rfl (fO sl.aU 0 rfl rfl (by omega) rfl rfl (jH ag.aA rfl (vs:=[_,_,_,_,_,_,_,_]) rfl (aB rfl) (bJ rfl vL (RQ (q:=(l.getD i 0)) (by omega)) (nt rfl (OL.nil ?_)))))))
  refine qW rfl ?_;exact AW.skip (AW.rg hE rfl (ai rfl (aI rfl rfl (by omega) (aF rfl (OL.nil (AW.again (x:=i) (i+1) (by omega) ⟨by omega,Knows.app .Ah .bZ,dw.app (.cons rfl .nil) (.nil)⟩))))))
 .try simp only[dX] at Bf
  exact AW.exit (AW.sg hE rfl (aF rfl (OL.nil (AW.ret (aP.r ⟨_,.tmp rfl .nil,.le vR⟩)))))
theorem aG7 {a:Au}(h:a.Ok)(za:a.Sz 134217728 20)(s1:a.sym<=32)(s2:a.st<=64):aj P F.Aq [zL a] (.d (dB true)):=by
 have e1:=h.ini;have e2:=h.fin;have e3:=za.num;have h0:=h.Gi;refine aj.intro fn.Aq (by rfl) (by rfl) (aB (by rfl)) λE hE=>(AW.sg hE rfl (iI rfl rfl λb1=>(aF rfl (OL.nil (AW.seq (AW.sg hE rfl (aW fd.iZ rfl rfl ?_)))))))
 refine aO ag.Ring rfl rfl (vs:=[_,_]) rfl (aB rfl) (bJ rfl .bZ (Iy) (nt rfl (ai rfl (OL.yes rfl (aW fd.qp rfl rfl (OL.yes rfl (aG ce.int rfl rfl rfl ?_)))))));refine OL.yes rfl (bJ rfl vL (Yx (s:=a.sym) (by omega)) (OL.yes rfl (nt rfl (kL rfl rfl (ai rfl (OL.yes rfl (aW fd.mF rfl rfl ?_)))))))
 refine OL.yes rfl (aG ce.int rfl rfl rfl (OL.yes rfl (bJ rfl vL (aG5 (v:=a.st) (lo:=0) (hi:=64) (by omega)) (OL.yes rfl (nt rfl (kL rfl rfl (ai rfl ?_)))))))
 refine OL.yes rfl (aW fd.iZ rfl rfl (OL.yes rfl (aO ag.Ring rfl rfl (vs:=[_,_]) rfl (aB rfl) (OL.yes rfl (aW fd.vV rfl rfl (OL.yes rfl (aG ce.aU rfl rfl rfl ?_)))))));refine OL.yes rfl (aW fd.mF rfl rfl (OL.yes rfl (aG ce.int rfl rfl rfl (OL.yes rfl (bJ rfl (.cons vR (.cons vR (.cons (bG.int (by omega)) .nil))) (Qx (l:=a.ini) (by omega) za.ini) (OL.yes rfl (nt rfl ?_)))))))
 refine kL rfl rfl (ai rfl (OL.yes rfl (aW fd.iZ rfl rfl (OL.yes rfl (aO ag.Ring rfl rfl (vs:=[_,_]) rfl (aB rfl) (OL.yes rfl (aW fd.wR rfl rfl ?_)))))));refine OL.yes rfl (aG ce.aU rfl rfl rfl (OL.yes rfl (aW fd.mF rfl rfl (OL.yes rfl (aG ce.int rfl rfl rfl (OL.yes rfl (bJ rfl (.cons vR (.cons vR (.cons (bG.int (by omega)) .nil))) (Qx (l:=a.fin) (by omega) za.fin) ?_)))))))
 refine OL.yes rfl (nt rfl (kL rfl rfl (ai rfl (OL.yes rfl (aW fd.jJ rfl rfl (OL.yes rfl (aG ce.dH rfl rfl rfl ?_)))))));refine OL.yes rfl (fJ sl.dH rfl rfl (OL.yes rfl (iO rfl rfl (c:=false) (by exact decide_eq_false (by omega)) (kL rfl rfl (OL.nil (qW rfl ?_))))))
 refine AW.skip (AW.seq (AW.sg hE rfl (aF rfl (OL.nil (AW.block (AW.aV (α:=Nat) [(1,_)] [(1,_)] (λi=>[(3,.d (dI i))]) (λi=>[]) (λi=>i<=a.aS.length) (λi=>a.aS.length-i) 0 (.cons (gB rfl) .nil) (.cons (iR rfl) .nil) ⟨Nat.zero_le _,.bZ,.nil⟩ ?_))))))
 rintro i h1
 have h1:i<=a.aS.length:=h1;refine AW.seq (AW.sg hE rfl (ai rfl (aW fd.jJ rfl rfl (aG ce.dH rfl rfl rfl (fJ sl.dH rfl rfl (aY rfl rfl rfl (OL.nil ?_)))))));refine AW.cond rfl (λh51=>?_) (λh51=>?_)
 .try simp only[dX] at h51
  refine AW.skip (AW.seq (AW.block (AW.seq ?_)));have hm:=getD_mem (l:=a.aS) (i:=i) (by omega) default
  have hx:=za.arc (a.aS.getD i default) hm;obtain⟨hx1,hx2,hx3,hx4⟩:=h.arc (a.aS.getD i default) hm;refine AW.rg hE rfl (aW fd.jJ rfl rfl (aG ce.dH rfl rfl rfl (ai rfl (fO sl.dH default rfl rfl (by omega) rfl rfl (jH ag.pO rfl (vs:=[_,_,_,_,_,_,_,_,_,_,_]) rfl (aB rfl) (al z.pO rfl λb4=>(eH sz.pO rfl rfl rfl rfl rfl (aB rfl) (cells2:=[_,_,_,_,_,_,_,_,_,_,_]) rfl ?_)))))))
  refine OL.nil (AW.sg hE rfl (aW fd.zC rfl rfl (aG ce.int rfl rfl rfl (aW fd.mF rfl rfl (aG ce.int rfl rfl rfl (bo rfl rfl (lQ (c:=(a.st:Int)-1) (by omega) (wrap_i64 (by omega))) (bJ rfl vL (aG5 (v:=(a.aS.getD i default).f) (lo:=0) (hi:=(a.st:Int)-1) (by omega)) ?_)))))))
  refine nt rfl (ai rfl (OL.yes rfl (aW fd.zD rfl rfl (OL.yes rfl (aG ce.int rfl rfl rfl (OL.yes rfl (aW fd.mF rfl rfl ?_)))))));refine OL.yes rfl (aG ce.int rfl rfl rfl (OL.yes rfl (bo rfl rfl (lQ (c:=(a.st:Int)-1) (by omega) (wrap_i64 (by omega))) (OL.yes rfl (bJ rfl vL (aG5 (v:=(a.aS.getD i default).t) (lo:=0) (hi:=(a.st:Int)-1) (by omega)) (OL.yes rfl (nt rfl ?_)))))))
  refine kL rfl rfl (ai rfl (OL.yes rfl (aW fd.AY rfl rfl (OL.yes rfl (aG ce.int rfl rfl rfl (OL.yes rfl (aW fd.qp rfl rfl ?_)))))));refine OL.yes rfl (aG ce.int rfl rfl rfl (OL.yes rfl (bJ rfl vL (aG5 (v:=(a.aS.getD i default).l) (lo:=0) (hi:=a.sym) (by omega)) (OL.yes rfl (nt rfl (kL rfl rfl (ai rfl ?_)))))))
  refine OL.yes rfl (aW fd.iZ rfl rfl (OL.yes rfl (aO ag.Ring rfl rfl (vs:=[_,_]) rfl (aB rfl) (OL.yes rfl (aW fd.uS rfl rfl (OL.yes rfl (aO ag.aA rfl rfl (vs:=[_,_,_,_,_,_,_,_]) rfl (aB rfl) ?_)))))));refine OL.yes rfl (bJ rfl vL (RQ (q:=(a.aS.getD i default).q) (by omega)) (OL.yes rfl (nt rfl (kL rfl rfl (OL.nil (qW rfl ?_))))))
  exact AW.skip (AW.rg hE rfl (ai rfl (aI rfl rfl (by omega) (aF rfl (OL.nil (AW.again (x:=i) (i+1) (by omega) ⟨by omega,Knows.app .bZ .bZ,dw.app (.cons rfl .nil) (.nil)⟩))))))
 .try simp only[dX] at h51
  exact AW.exit (AW.sg hE rfl (aF rfl (OL.nil (AW.ret (aP.r ⟨_,.tmp rfl .nil,.le vR⟩)))))
theorem bf9 {a:Au}{s:Nat}(t:Au.Take a s)(s4:s<=4):aj P F.CU [zL a] (.jS [.d (dB (zeA a).isNone),.d (ints ((zeA a).getD [])),.d (dI 0)]):=by
 obtain⟨ok,fl,z6,hn⟩:=aj6 t s4;have h1:=t.few.st;have hsz:aJ [a]=a.st:=jm;refine aj.intro fn.CU (by rfl) (by rfl) (aB (by rfl)) λE hE=>(AW.sg hE rfl (iI rfl rfl λb1=>(aF rfl (oK rfl (aF rfl (OL.nil (AW.seq ?_)))))))
 refine AW.sg hE rfl (aO ag.Auto rfl rfl (vs:=[_,_,_,_,_,_,_]) rfl (aB rfl) (zX (y:=dAu a) sl.sU aL0 rfl (by decide) (bJ rfl vL (aR5 (l:=[a]) (s:=s) (bf8 t.fit) ⟨Nat.le_of_ble_eq_true rfl,Nat.le_of_ble_eq_true rfl⟩) (aF rfl (OL.nil (AW.sg hE rfl (ai rfl ?_)))))))
 refine eG rfl rfl (c:=false) (by exact lY (by omega)) (OL.nil (qW rfl ?_))
 refine AW.skip (AW.sg hE rfl (aO ag.Auto rfl rfl (vs:=[_,_,_,_,_,_,_]) rfl (aB rfl) (zX (y:=dAu a) sl.sU aL0 rfl (by decide) (bJ rfl vL (OfQ (l:=[a]) (by rw[show (([a]:List Au).getD 0 default).sym=s from t.fit.sym];exact bf8 t.fit) ⟨Nat.le_of_ble_eq_true rfl,Nat.le_of_ble_eq_true rfl⟩ (by omega)) (bJ rfl vL (U8 (aF7 (m:=cZ [a]) ok fl z6)) ?_)))))
 rw[show sJ (cZ [a])=zeA a from rfl]
 refine zW rfl (ex rfl rfl (ex rfl rfl (aF rfl (aF rfl (OL.nil (AW.sg hE rfl (ai rfl ?_)))))));exact nt rfl (ai rfl (aF rfl (aF rfl (aF rfl (OL.nil (AW.ret (aP.r ⟨_,.tmp rfl (.tmp rfl (.tmp rfl .nil)),_,.cons (.le (bG.bool (ar1 _))) (.cons (.le vR) (.cons (.le vR) .nil)),rfl⟩)))))))
def cB (e:Nat):Nat->Nat
 | 0=>e
 | k+1=>20*(cB e k+e+1)+1
theorem as2:∀ k,k<=4->cB 10000 k<=3300000000:=by decide +kernel
theorem aM4 {a:Au}{e:Nat}(e1:1<=e)(h:a.Ok)(hn:a.aS.length<=20)(hq:∀ x,x ∈ a.aS->sz x.q<=e)(hi:Small e a.ini){w:List Int}:∀ k,k<=w.length->∀ j,sz ((Ji a (w.take k)).getD j 0)<=cB e k
 | 0,_,j=>by show sz (a.ini.getD j 0)<=e;exact hi.get e1 j
 | k+1,hk,j=>by
  have ih:=aM4 e1 h hn hq hi (w:=w) k (by omega)
  rw[Ik (by omega)]
  exact Qe (N:=20) (C:=e) ih (λx hx=>⟨(h.arc x hx).2.1,hq x hx⟩) hn (by omega)
theorem br6 {a:Au}(h:a.Ok)(hn:a.aS.length<=20)(hq:∀ x,x ∈ a.aS->sz x.q<=10000)(hi:Small 10000 a.ini)(hf:Small 10000 a.fin)(st:a.st<=5){w:List Int}(hl:w.length<=4):aS9 a w:=by
 have hv:=aM4 (e:=10000) (by decide) h hn hq hi (w:=w)
 have hvw:∀ j,sz ((Ji a w).getD j 0)<=3300000000:=λj=>by
  have:=hv w.length (Nat.le_refl _) j;rw[List.take_length] at this;exact Nat.le_trans this (as2 _ hl)
 refine⟨λk hk=>⟨λj=>?_,λx hx=>Nat.le_trans (hq x hx) (by decide),λi j=>?_⟩,λj=>Nat.le_trans (hvw j) (by decide),λj=>Nat.le_trans (hf.get (by decide) j) (by decide),λi hi=>?_⟩
 .exact Nat.le_trans (hv k (by omega) j) (Nat.le_trans (as2 k (by omega)) (by decide))
 .have h1:=Qe (v:=Ji a (w.take k)) (n:=a.st) (s:=(w.getD k 0).toNat) (j:=j) (l:=a.aS.take i) (B:=cB 10000 k) (C:=10000) (N:=20) (hv k (by omega)) (λx hx=>⟨(h.arc x (List.mem_of_mem_take hx)).2.1,hq x (List.mem_of_mem_take hx)⟩) (by rw[List.length_take];omega) (by omega)
  have h2:20*(cB 10000 k+10000+1)+1<=3300000000:=as2 (k+1) (by omega)
  exact Nat.le_trans h1 (Nat.le_trans h2 (by decide))
 .unfold EI;have h1:=Nw (f:=λi=>(Ji a w).getD i 0*a.fin.getD i 0) (C:=3300010000) (n:=i) λj _=>by
   have h2:=mD ((Ji a w).getD j 0) (a.fin.getD j 0);have h3:=hvw j;have h4:sz (a.fin.getD j 0)<=10000:=hf.get (by decide) j
   omega
  have h2:=Nat.mul_le_mul_right (3300010000+1) (show i<=5 from Nat.le_trans hi st)
  omega
theorem Vg {a:Au}(f:a.Pj):(ja a).Pj:=⟨f.st,f.ini,f.fin,λs i j=>by show sz (iU (dZ a.aS) s i j)<=24;rw[Fh];exact f.ent s i j⟩
theorem as3 {a:Au}(h:a.Ok)(f:a.Pj):∀ x,x ∈ (ja a).aS->sz x.q<=24:=λx hx=>by
 rw[<- Uk (Uj a.aS) hx (Gu h x hx),Fh];exact f.ent ..
theorem Oo {a:Au}(h:a.Ok)(f:a.Pj)(hn:a.aS.length<=20):(ja a).Sz 134217728 20 :=
 ⟨λq hq=>Nat.le_trans (f.ini q hq) (by decide),λq hq=>Nat.le_trans (f.fin q hq) (by decide),λx hx=>Nat.le_trans (as3 h f x hx) (by decide),Nat.le_trans (BP a.aS) hn⟩
theorem Yz {a:Au}(h:a.Ok)(f:a.Pj)(za:a.Sz 134217728 20)(s1:a.sym<=32)(st:a.st<=5){w:List Int}(hw:kC a.sym w)(hl:w.length<=4):aj P F.iw [zL a,.d (ints w)] (.jS [vW (iD a w),.d (dI 0)]) :=
 aF5 h za s1 (by omega) hw (by omega) (br6 (Ir h) (Oo h f za.num).num (λx hx=>Nat.le_trans (as3 h f x hx) (by decide)) (λq hq=>Nat.le_trans (f.ini q hq) (by decide)) (λq hq=>Nat.le_trans (f.fin q hq) (by decide)) st hl)
theorem YA {a:Au}(h:a.Ok)(f:a.Pj)(za:a.Sz 134217728 20)(s1:a.sym<=32)(st:a.st<=5){w:List Int}(hw:kC a.sym w)(hl:w.length<=4):aj P F.iw [zL (ja a),.d (ints w)] (.jS [vW (iD a w),.d (dI 0)]):=by
 have r:=Yz (a:=ja a) (Ir h) (Vg f) (Oo h f za.num) s1 st hw hl
 rwa [U4] at r
theorem as4 {a:Au}(f:a.Pj)(s4:a.sym<=4){w:List Int}(hl:w.length<=5):sz (iD a w)<=16777215:=by
 have z:(cZ [a]).Sz 24:=Ii (λx hx=>by rw[lW hx];exact f) (by rw[jm];exact f.st) s4
 exact Nat.le_trans (Rw z.n6 (λi=>Uu z hl i) z.fin) (by decide)
theorem Z8 (p:Nat->Prop)(n:Nat):∃ k,k<=n/\(∀ i,i<k->p i)/\(k<n->¬ p k):=by
 classical
 induction n with
 | zero=>exact⟨0,Nat.le_refl _,λi hi=>by omega,λh=>by omega⟩
 | succ n ih =>
  obtain⟨k,h1,h2,h3⟩:=ih;by_cases hk:k=n
  .subst hk;by_cases hp:p k
   .exact⟨k+1,Nat.le_refl _,λi hi=>by rcases Nat.lt_or_ge i k with h|h;exact h2 i h;obtain rfl:i=k:=(by omega);exact hp,λh=>by omega⟩
   .exact⟨k,by omega,h2,λ_=>hp⟩
  .exact⟨k,by omega,h2,λ_=>h3 (by omega)⟩
theorem as5 {s n p:Nat}{X:List (List Int)}{vs:List Rat}{a:Au}{g:List Int->Rat}(hl:vs.length=X.length)(nF:X.length<=1000000)(zv:Small 16777215 vs)(zg:∀ w,w ∈ X->sz (g w)<=16777215)(hg:∀ w,w ∈ X->aj P F.iw [zL a,.d (ints w)] (.jS [vW (g w),.d (dI 0)]))(p1:p<=X.length)(p2:∀ i,i<p->g (X.getD i [])=vs.getD i 0)(p3:p<X.length->g (X.getD p [])≠vs.getD p 0):aj P F.mP [WZ s n X vs,zL a] (.jS [.d (ints (X.getD p [])),.d (dB (decide (p<X.length)))]):=by
 refine aj.intro fn.mP (by rfl) (by rfl) (aB (by rfl)) λE hE=>(AW.sg hE rfl (iI rfl rfl λb2=>(iI rfl rfl λb3=>(oK rfl (aF rfl (OL.nil (AW.seq ?_)))))))
 refine AW.sg hE rfl (aW fd.Ht rfl rfl (aG ce.fQ rfl rfl rfl (fJ (f:=ints) sl.fQ rfl rfl (ai rfl (OL.nil (AW.block ?_))))));refine AW.aV (α:=Nat) [(2,_),(3,_),(11,_),(12,_)] [(2,_),(3,_)] (λi=>[(13,.d (dI i))]) (λi=>[]) (λi=>i<=p) (λi=>p-i) 0 (.cons (gB rfl) (.cons (gB rfl) (.cons (bK rfl) (.cons (bK rfl) .nil)))) (.cons (iR rfl) (.cons (iR rfl) .nil)) ⟨Nat.zero_le _,.bZ,.nil⟩ ?_;intro i h1;have h1:i<=p:=h1;refine AW.sg hE rfl (aY rfl rfl rfl (OL.nil (AW.seq (AW.cond rfl (λBf=>?_) (λBf=>?_)))))
 .try simp only[dX] at Bf
  refine AW.skip (AW.seq (AW.block (AW.seq ?_)));have hi:i<X.length:=by omega
  have hm:=getD_mem hi [];have z1:=zg _ hm;have z2:=zv.get (by decide) i
  refine AW.rg hE rfl (ai rfl (fO sl.fQ [] rfl rfl (by omega) rfl rfl (iH ce.ints rfl (aF rfl (aF rfl (OL.nil (AW.sg hE rfl ?_)))))))
  refine aO ag.Auto rfl rfl (vs:=[_,_,_,_,_,_,_]) rfl (aB rfl) (ai rfl (bJ rfl vL (hg _ hm) (zW rfl (ex rfl rfl (ex rfl rfl (al z.aA rfl λb8=>(eH sz.aA rfl rfl rfl rfl rfl (aB rfl) (cells2:=[_,_,_,_,_,_,_,_]) rfl ?_)))))));refine aF rfl (OL.nil (AW.seq (AW.dg 1 [0,1,2,3,4,5,6,7,8,9,10,11,12] ay hE rfl (by kernel_rfl) (OI.aK (os:=[_,_,_,_,_,_,_,_,_,_,_,_,_]) rfl ?_))))
  refine ai rfl (eG rfl rfl (c:=false) (by exact lY (by omega)) (ai rfl (OL.yes rfl (aW fd.gK rfl rfl (OL.yes rfl (aO ag.Rat rfl rfl (vs:=[_,_,_]) rfl (aB rfl) (OL.yes rfl ?_)))))))
  refine aW fd.L8 rfl rfl (OL.yes rfl (aG ce.bQ rfl rfl rfl (OL.yes rfl (ai rfl (OL.yes rfl (fO sl.bQ 0 rfl rfl (by omega) rfl rfl (OL.yes rfl ?_)))))))
  refine jH ag.Rat rfl (vs:=[_,_,_]) rfl (aB rfl) (OL.yes rfl (bJ rfl vL (Hy (x:=(g (X.getD i []))) (y:=vs.getD i 0) (by omega) (by omega)) (OL.yes rfl (eG rfl rfl rfl (kL rfl rfl (OL.nil (AW.cond rfl (λhc=>?_) (λhc=>?_))))))))
  .have hc:(g (X.getD i []))≠vs.getD i 0:=λe=>D7 hc (QV.2 e);obtain rfl:p=i:=Decidable.byContradiction λhne=>hc (p2 i (by omega))
   exact AW.sg hE rfl (ai rfl (aF rfl (aF rfl (OL.nil (AW.ret (aP.r ⟨_,.tmp rfl (.tmp rfl .nil),_,.cons (.le vR) (.cons (.le (bG.bool (decide_eq_true hi).symm)) .nil),rfl⟩))))))
  .have hc:(g (X.getD i []))=vs.getD i 0:=QV.1 (Bc hc);have hip:i<p:=Decidable.byContradiction λhn=>by
    obtain rfl:p=i:=by omega
    exact p3 hi hc
   exact AW.skip (AW.rg hE rfl (aI rfl rfl (by omega) (ai rfl (OL.nil (AW.again (x:=i) (i+1) (by omega) ⟨by omega,Knows.app .Jz .bZ,dw.app (.cons rfl (.cons rfl .nil)) (.nil)⟩)))))
 .try simp only[dX] at Bf
  refine AW.exit (AW.seq ?_);obtain rfl:p=X.length:=by omega
  exact AW.rg hE rfl (oK rfl (aF rfl (OL.nil (AW.ret (aP.r ⟨_,.tmp rfl (.tmp rfl .nil),_,.cons (.le (by rw[ig,List.getElem?_eq_none (Nat.le_refl _)];exact bG.mt)) (.cons (.le (bG.bool (decide_eq_false (Nat.lt_irrefl _)).symm)) .nil),rfl⟩)))))
theorem YB {m p:Nat}{vs:List Rat}{a:Au}{s:Nat}{g:List Int->Rat}(t:Au.Take a s)(s4:s<=4)(hm:m+1<=256)(hb:(ah a.sym (m+1)).length<=4000)(hl:vs.length=(ah a.sym (m+1)).length)(zs:Small 16777215 vs)(zg:∀ w,w ∈ ah a.sym (m+1)->sz (g w)<=16777215)(hg:∀ w,w ∈ ah a.sym (m+1)->aj P F.iw [zL a,.d (ints w)] (.jS [vW (g w),.d (dI 0)]))(p1:p<=(ah a.sym (m+1)).length)(p2:∀ i,i<p->g ((ah a.sym (m+1)).getD i [])=vs.getD i 0)(p3:p<(ah a.sym (m+1)).length->g ((ah a.sym (m+1)).getD p [])≠vs.getD p 0):aj P F.o7 [zL a,.d (dI ((m+1:Nat):Int)),.d (iQ vs)] (.jS [.d (dB (!decide (p<(ah a.sym (m+1)).length))),.d (ints ((ah a.sym (m+1)).getD p [])),.d (dI 0)]):=by
 have hsy:=t.fit.sym;have hs1:=t.fit.ok.Gi;have hs2:=t.fit.s1;have hpl:((ah a.sym (m+1)).getD p []).length<=256:=by
  rcases Nat.lt_or_ge p (ah a.sym (m+1)).length with h|h
  .have:=(gQ.1 (getD_mem h [])).2;omega
  .rw[Ai h];exact Nat.zero_le _
 refine aj.intro fn.o7 (by rfl) (by rfl) (aB (by rfl)) λE hE=>(AW.sg hE rfl (iI rfl rfl λb3=>(aF rfl (oK rfl (aF rfl (OL.nil (AW.seq ?_)))))))
 refine AW.sg hE rfl (aO ag.Auto rfl rfl (vs:=[_,_,_,_,_,_,_]) rfl (aB rfl) (bJ rfl vL (bf9 t s4) (zW rfl (ex rfl rfl (ex rfl rfl (ex rfl rfl (aF rfl ?_)))))));refine aF rfl (aF rfl (OL.nil (AW.sg hE rfl (ai rfl (eG rfl rfl (c:=false) (by exact lY (by omega)) (OL.nil (qW rfl ?_)))))))
 refine AW.skip (AW.sg hE rfl (aW fd.qp rfl rfl (aG ce.int rfl rfl rfl (ai rfl (ai rfl (bJ rfl vL (Oh (s:=a.sym) ⟨hs1,hs2⟩ hm hb hl (B:=16777215) (by decide) (Nat.le_refl _) zs) (zW rfl ?_)))))))
 refine ex rfl rfl (ex rfl rfl (al z.sample rfl λb12=>(eH sz.sample rfl rfl rfl rfl rfl (aB rfl) (cells2:=[_,_,_,_]) rfl (aF rfl (OL.nil (AW.seq (AW.sg hE rfl ?_)))))));refine ai rfl (eG rfl rfl (c:=false) (by exact lY (by omega)) (OL.nil (qW rfl ?_)))
 refine AW.skip (AW.sg hE rfl (aO ag.sample rfl rfl (vs:=[_,_,_,_]) rfl (aB rfl) (aO ag.Auto rfl rfl (vs:=[_,_,_,_,_,_,_]) rfl (aB rfl) (bJ rfl vL (as5 hl (by omega) zs zg hg p1 p2 p3) (zW rfl (ex rfl rfl (ex rfl rfl ?_)))))))
 refine aF rfl (aF rfl (OL.nil (AW.sg hE rfl (ai rfl (nt rfl (ai rfl (bJ rfl vL (Ns (l:=(ah a.sym (m+1)).getD p []) (by omega)) ?_)))))))
 exact aF rfl (aF rfl (aF rfl (OL.nil (AW.ret (aP.r ⟨_,.tmp rfl (.tmp rfl (.tmp rfl .nil)),_,.cons (.le vR) (.cons (.le vR) (.cons (.le vR) .nil)),rfl⟩)))))
