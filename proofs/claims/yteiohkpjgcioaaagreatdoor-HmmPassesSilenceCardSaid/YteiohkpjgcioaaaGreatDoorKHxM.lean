/-
  Walks of package hmm: Automaton of any model whose Emitting is known (printed by mk2.py).
-/
import Derived.Test.YteiohkpjgcioaaaGreatDoorKWkGB
import Derived.Test.YteiohkpjgcioaaaGreatDoorKMod120
set_option linter.unusedVariables false
set_option linter.unusedSimpArgs false
namespace Go.Proofs.YteiohkpjgcioaaaGreatDoor
open Go Go.AL
theorem QU {x y:V}{d:D}(h:x=y)(hd:VD y d):VD x d:=h ▸ hd
theorem at1:VD (.ag [.d (dB false),.mt,.mt,.d (dI 0),.d (dB false),.d (dU 0),.mt,.mt]) (dW 0):=by
 have e:dW 0=.ag [dB false,.sl [],.sl [],dI 0,dB false,dU 0,.sl [],.sl []]:=by unfold dW;rw[qp];rfl
 rw[e];exact VD.ag (.cons (VC.d _) (.cons VC.mt (.cons VC.mt (.cons (VC.d _) (.cons (VC.d _) (.cons (VC.d _) (.cons VC.mt (.cons VC.mt .nil))))))))
theorem KP {l:List aT}{x:aT}:l.map iO++[iO x]=(l++[x]).map iO:=by rw[List.map_append];rfl
theorem GI {l:List aT}{x:aT}{y:D}:l.length + [y].length=(l++[x]).length:=by rw[jT];rfl
theorem Zq {q:Rat}:0<yN q ↔ 0<q:=by
 rw[<- ND];have h:=zU q;omega
theorem FO {h:HM}{b B:Nat}(f:HM.yK b B h)(k:Nat):Small B (eY h k):=by
 unfold eY
 split
 .exact f.zI
 .exact f.zT _
theorem Iu {h:HM}{b B:Nat}(f:HM.yK b B h)(i:Nat):(h.emit.getD i []).length<=32:=by
 rcases Nat.lt_or_ge i h.st with hi|hi
 .rw[f.AQ i hi];exact f.sZ
 .rw[vF (by rw[f.emit];exact hi)];exact Nat.zero_le _
theorem at6 {h:HM}{b B:Nat}(f:HM.yK b B h){k i:Nat}(hk:k<=h.st)(hi:i<=h.st){p:Rat}{e:List Rat}{s:Nat}(hs:s<=32):(Md h k++Ue h k i++XV p k i e s).length<=6000:=by
 have h1:=Zo (g:=h) (k:=k) (n:=12) (m:=32) (λj hj=>by rw[CV f (by omega)];exact f.st1) (Iu f)
 have h2:=Zn (g:=h) (f:=k) (k:=i) (m:=32) λj _=>Iu f j;have h3:=Zm (p:=p) (f:=k) (i:=i) (e:=e) (k:=s);have h4:=f.st1;have h5:=Nat.mul_le_mul_right (12*32) (show k<=12 by omega)
 have h6:=Nat.mul_le_mul_right 32 (show i<=12 by omega)
 rw[jT,jT];omega
theorem Em {h:HM}{B:Nat}(g:HM.jK 1048576 B h)(na:(bT h).aX.length<=64):(bT h).Sz 134217728 64:=by
 have hb:=g.form.bB;exact⟨OQ.mono (by decide),(Ej g).mono (by omega),λx hx=>Nat.le_trans (XY g hx) (by omega),na⟩
def H6:Nat->Option Nat
 | 21=>some 0
 | 22=>some 1
 | 23=>some 2
 | 24=>some 3
 | 25=>some 4
 | 26=>some 5
 | 27=>some 6
 | 28=>some 7
 | 29=>some 8
 | 30=>some 9
 | 5=>some 10
 | _=>none
theorem fU {t i:Nat}(h:H6 t=some i):t=[21,22,23,24,25,26,27,28,29,30,5].getD i 0:=by
 unfold H6 at h
 split at h <;> first|(cases h;rfl)|cases h
noncomputable def aM2 (h0:HM)(b1:Nat)(t:Nat)(β:Nat->Nat × Nat):V :=
 match t with
 | 21=>.ag [.d (dI 1),.mt]
 | 22=>.ptr 1 b1 0
 | 23=>.d (dI h0.sym)
 | 24=>vQ 1
 | 25=>vW 1
 | 26=>.bJ 26 (β 26).1 1 1
 | 27=>vQ 1
 | 28=>vW 1
 | 29=>.bJ 29 (β 29).1 1 1
 | 30=>.ag [.d (dI 1),.mt,.d (dI h0.sym),.d (dI 1),.bJ 26 (β 26).1 1 1,.bJ 29 (β 29).1 1 1,.mt]
 | 5=>.ptr 5 (β 5).1 0
 | _=>.junk
noncomputable abbrev aM3 (h0:HM)(b1:Nat):List UR:=[⟨26,5,λβ=>.row (β 26).1 1 T.aA 8 [dW 1]⟩,⟨29,8,λβ=>.row (β 29).1 1 T.aA 8 [dW 1]⟩,⟨5,10,λβ=>.box (β 5).1 T.Auto [.d (dI 0),.mt,.d (dI 0),.d (dI 0),.mt,.mt,.mt]⟩]
theorem aM4 {p:Nat->Prop}(h0:p 0)(h1:p 1)(h2:p 2)(h3:p 3)(h4:p 4)(h5:p 5)(h6:p 6)(h7:p 7)(h8:p 8)(h9:p 9)(h10:p 10):∀ i,i<11->p i:=λi hi=>by
 have:i=0 \/ i=1 \/ i=2 \/ i=3 \/ i=4 \/ i=5 \/ i=6 \/ i=7 \/ i=8 \/ i=9 \/ i=10:=by omega
 rcases this with rfl|rfl|rfl|rfl|rfl|rfl|rfl|rfl|rfl|rfl|rfl <;> assumption
set_option maxRecDepth 16000 in
set_option maxHeartbeats 12800000 in
theorem OU {h0 h:HM}{B:Nat}(hv:ai P F.wZ [uY h0] (.d (dI 0)))(hem:jv P F.jV [uY h0] jm (λz:List Int=>.jM [uY ⟨h.sym,h.st,h.empty,h.ini,h.trans,h.stop,h.emit,List.replicate h.st false,z⟩,.d (dI 0)]) (λ_=>jm) (λ_=>True))(hsy:h0.sym=h.sym)(g:HM.jK 1048576 B h)(na:(bT h).aX.length<=64):ai P F.jU [uY h0] (.jM [Gx (fM (bT h)),.d (dI 0)]):=by
 have fo:=g.form;have n0:=fo.st0;have n1:=fo.st1;have s1:=fo.sZ;have hb1:=fo.b1;have hbB:=fo.bB;have e1:=fo.ini;have e2:=fo.trans;have e3:=fo.stop;have e4:=fo.emit;have na2:(Md h (h.st+1)).length<=64:=na;have hil:(bT h).ini.length=h.st+1:=by show (1::List.replicate h.st (0:Rat)).length=_;rw[List.length_cons,List.length_replicate]
 have hfl:(bT h).fin.length=h.st+1:=by show (h.empty::h.stop).length=_;rw[List.length_cons,e3]
 refine ai.intro fn.jU (by rfl) (by rfl) (au (by rfl)) λE hE=>(AW.sg hE rfl (iC rfl rfl λb1=>(al z.Auto rfl λb2=>(ay rfl (OL.nil (AW.seq (AW.sg hE rfl ?_)))))))
 refine aG ag.aU rfl rfl (vs:=[_,_,_,_,_,_,_,_,_,_,_]) rfl (au rfl) (aY rfl vL (hv) (ay rfl (OL.nil (AW.sg hE rfl (ah rfl (bU rfl rfl (c:=false) (by exact eF (by omega)) (OL.nil ?_)))))))
 refine jD rfl ?_;refine AW.skip (AW.seq (AW.Dw (aM2 h0 b1) H6 (aM3 h0 b1) 11 aj (by rw[hE];rfl) (by rfl) (by kernel_rfl) (by kernel_rfl) ?_ ?_))
 .refine aM4 ?_ ?_ ?_ ?_ ?_ ?_ ?_ ?_ ?_ ?_ ?_
  .exact λβ L c9=>⟨_,rfl,.inl (OG.aP (bd z.Ring pl.Ring (cs:=[_,_]) rfl ⟨β,lg (d:=21) (i:=0) rfl (λt ht=>fU ht) (lt_size 12 c9.size rfl (by decide)) (gG (lt_size 12 c9.size rfl (by decide)) (by rfl))⟩))⟩
  .exact λβ L c9=>⟨_,rfl,.inl (OG.aP (aF fd.jL (b:=b1) (o:=0) (id:=1) ((vG rfl).trans rfl) rfl ⟨β,lg (d:=22) (i:=1) rfl (λt ht=>fU ht) (lt_size 12 c9.size rfl (by decide)) (gG (lt_size 12 c9.size rfl (by decide)) (by rfl))⟩))⟩
  .exact λβ L c9=>⟨_,rfl,.inl (OG.aP (ak ce.int (id:=1) (b:=b1) (o:=0) (ig rfl (fH (j:=1) c9 (by kernel_rfl))) ((uI (aV (show (1:Nat)≠26 by decide) (aV (show (1:Nat)≠29 by decide) (aV (show (1:Nat)≠5 by decide) rfl)))):_=some (.box b1 T.aU (yQ h0))) rfl ⟨β,lg (d:=23) (i:=2) rfl (λt ht=>fU ht) (lt_size 12 c9.size rfl (by decide)) (gG (lt_size 12 c9.size rfl (by decide)) (by rfl))⟩))⟩
  .exact λβ L c9=>⟨_,rfl,.inl (OG.aP (aY rfl .nil vK ⟨β,lg (d:=24) (i:=3) rfl (λt ht=>fU ht) (lt_size 12 c9.size rfl (by decide)) (gG (lt_size 12 c9.size rfl (by decide)) (by rfl))⟩))⟩
  .exact λβ L c9=>⟨_,rfl,.inl (OG.aP (aY rfl (.cons (aI (ig rfl (fH (j:=3) c9 (by kernel_rfl)))) .nil) (rG (q:=1)) ⟨β,lg (d:=25) (i:=4) rfl (λt ht=>fU ht) (lt_size 12 c9.size rfl (by decide)) (gG (lt_size 12 c9.size rfl (by decide)) (by rfl))⟩))⟩
  .exact λβ L c9=>⟨_,rfl,.inl (OG.aP (ab2 (y:=dW 1) sl.aS (QU (ig rfl (fH (j:=4) c9 (by kernel_rfl))) G8) rfl (by decide) (uI (Dv (by exact c9.no) (aV (show (26:Nat)≠29 by decide) (aV (show (26:Nat)≠5 by decide) rfl)))) λb8=>⟨upd β 26 (b8,0),Du (d:=26) (i:=5) (x:=(b8,0)) rfl (λt ht=>fU ht) (lt_size 12 c9.size rfl (by decide)) rfl (vH (lt_size 12 c9.size rfl (by decide)) rfl rfl rfl c9.no (by rfl) (List.forall_mem_cons.2 ⟨(by exact λ_ _=>rfl),(List.forall_mem_cons.2 ⟨(by exact λ_ _=>rfl),(λy hy=>absurd hy List.not_mem_nil)⟩)⟩)) (λt j ho hl=>by unfold H6 at ho;split at ho <;> cases ho <;> first|rfl|(rw[c9.no] at hl;cases hl)|exact rV c9 (by kernel_rfl) hl)⟩))⟩
  .exact λβ L c9=>⟨_,rfl,.inl (OG.aP (aY rfl .nil vK ⟨β,lg (d:=27) (i:=6) rfl (λt ht=>fU ht) (lt_size 12 c9.size rfl (by decide)) (gG (lt_size 12 c9.size rfl (by decide)) (by rfl))⟩))⟩
  .exact λβ L c9=>⟨_,rfl,.inl (OG.aP (aY rfl (.cons (aI (ig rfl (fH (j:=6) c9 (by kernel_rfl)))) .nil) (rG (q:=1)) ⟨β,lg (d:=28) (i:=7) rfl (λt ht=>fU ht) (lt_size 12 c9.size rfl (by decide)) (gG (lt_size 12 c9.size rfl (by decide)) (by rfl))⟩))⟩
  .exact λβ L c9=>⟨_,rfl,.inl (OG.aP (ab2 (y:=dW 1) sl.aS (QU (ig rfl (fH (j:=7) c9 (by kernel_rfl))) G8) rfl (by decide) (uI (aV (show (29:Nat)≠26 by decide) (Dv (by exact c9.no) (aV (show (29:Nat)≠5 by decide) rfl)))) λb8=>⟨upd β 29 (b8,0),Du (d:=29) (i:=8) (x:=(b8,0)) rfl (λt ht=>fU ht) (lt_size 12 c9.size rfl (by decide)) rfl (vI (lt_size 12 c9.size rfl (by decide)) (show (5:Nat)≠8 by decide) (.inl (show (26:Nat)≠29 by decide)) (by exact λ_=>rfl) (vH (lt_size 12 c9.size rfl (by decide)) rfl rfl rfl c9.no (by rfl) (List.forall_mem_cons.2 ⟨(by exact λ_ _=>rfl),(λy hy=>absurd hy List.not_mem_nil)⟩))) (λt j ho hl=>by unfold H6 at ho;split at ho <;> cases ho <;> first|rfl|(rw[c9.no] at hl;cases hl)|exact rV c9 (by kernel_rfl) hl)⟩))⟩
  .exact λβ L c9=>⟨_,rfl,.inl (OG.aP (WL (cs:=[_,_,_,_,_,_,_]) z.Auto pl.Auto (qA (ig rfl (fH (j:=0) c9 (by kernel_rfl))) (qA (ig rfl (fH (j:=2) c9 (by kernel_rfl))) (qA rfl (qA (ig rfl (fH (j:=5) c9 (by kernel_rfl))) (qA (ig rfl (fH (j:=8) c9 (by kernel_rfl))) WJ))))) (by rfl) ⟨β,lg (d:=30) (i:=9) rfl (λt ht=>fU ht) (lt_size 12 c9.size rfl (by decide)) (gG (lt_size 12 c9.size rfl (by decide)) (by rfl))⟩))⟩
  .exact λβ L c9=>⟨_,rfl,.inl (OG.aP (al z.Auto (uI (aV (show (5:Nat)≠26 by decide) (aV (show (5:Nat)≠29 by decide) (Dv (by exact c9.no) rfl)))) λb8=>⟨upd β 5 (b8,0),Du (d:=5) (i:=10) (x:=(b8,0)) rfl (λt ht=>fU ht) (lt_size 12 c9.size rfl (by decide)) rfl (vI (lt_size 12 c9.size rfl (by decide)) (show (5:Nat)≠10 by decide) (.inl (show (26:Nat)≠5 by decide)) (by exact λ_=>rfl) (vI (lt_size 12 c9.size rfl (by decide)) (show (8:Nat)≠10 by decide) (.inl (show (29:Nat)≠5 by decide)) (by exact λ_=>rfl) (vH (lt_size 12 c9.size rfl (by decide)) rfl rfl rfl c9.no (by rfl) (λy hy=>absurd hy List.not_mem_nil)))) (λt j ho hl=>by unfold H6 at ho;split at ho <;> cases ho <;> first|rfl|(rw[c9.no] at hl;cases hl)|exact rV c9 (by kernel_rfl) hl)⟩))⟩
 refine λβ L c9 hA=>⟨_,rfl,.inl (OG.aP (dA sz.Auto (ig rfl (hA 10 (by decide))) (ig rfl (hA 9 (by decide))) rfl (uI (aV (show (5:Nat)≠26 by decide) (aV (show (5:Nat)≠29 by decide) (yR (hA 10 (by decide)) rfl rfl)))) rfl (au rfl) (cells2:=[_,_,_,_,_,_,_]) rfl ?_))⟩
 refine OL.nil ?_;refine AW.to [(1,.ptr 1 b1 0),(2,.ptr 2 b2 0),(5,.ptr 5 (β 5).1 0)] [(1,.box b1 T.aU (yQ h0)),(2,.box b2 T.Auto [.d (dI 0),.mt,.d (dI 0),.d (dI 0),.mt,.mt,.mt]),(5,.box (β 5).1 T.Auto [.d (dI 1),.mt,.d (dI h0.sym),.d (dI 1),.bJ 26 (β 26).1 1 1,.bJ 29 (β 29).1 1 1,.mt]),(26,.row (β 26).1 1 T.aA 8 [dW 1]),(29,.row (β 29).1 1 T.aA 8 [dW 1])] (.cons (aI (vJ ((vG rfl).trans rfl))) (.cons (aI (vJ ((vG rfl).trans rfl))) (.cons (aI (vJ (ig rfl (hA 10 (by decide))))) (.nil)))) (.cons (rU (show (1:Nat)≠5 by decide) (uI (aV (show (1:Nat)≠26 by decide) (aV (show (1:Nat)≠29 by decide) (aV (show (1:Nat)≠5 by decide) rfl))))) (.cons (rU (show (2:Nat)≠5 by decide) (uI (aV (show (2:Nat)≠26 by decide) (aV (show (2:Nat)≠29 by decide) (aV (show (2:Nat)≠5 by decide) rfl))))) (.cons Si (.cons (rU (show (26:Nat)≠5 by decide) (uI (yR (hA 5 (by decide)) rfl rfl))) (.cons (rU (show (29:Nat)≠5 by decide) (uI (aV (show (29:Nat)≠26 by decide) (yR (hA 8 (by decide)) rfl rfl)))) (.nil)))))) ?_
 generalize (β 5).1=b5;generalize (β 26).1=p1;generalize (β 29).1=p2;refine AW.rename 26 65 rfl (AW.rename 29 76 rfl (AW.vC 5 [.d (dI 1),.mt,.d (dI h.sym),.d (dI 1),.bJ 65 p1 1 1,.bJ 76 p2 1 1,.mt] rfl (.cons vR (.cons vR (.cons (aI (by rw[hsy])) (.cons vR (.cons aZ.bJ (.cons aZ.bJ .bC)))))) (AW.seq (AW.oz (by rw[hE];rfl) (SK.dG (aG ag.aU rfl rfl (vs:=[_,_,_,_,_,_,_,_,_,_,_]) rfl (au rfl) (OL.nil ?_)))))))
 refine SK.G5 (SO.Ey (args':=[uY h0]) (show 33<E.n by rw[hE];exact Nat.le_of_ble_eq_true (by rfl)) rfl .bC (Mc:=jm) (λ_ _ h=>by cases h) hem (λ_ _ _ h=>h) ?_)
 rintro tz9 -
 refine SK.dG (BN rfl (OL.nil ?_));refine SK.dG (ex rfl rfl (OL.nil ?_));refine SK.dG (ex rfl rfl (OL.nil ?_));refine SK.dG (al z.aU rfl λb6=>(OL.nil ?_));refine SK.dG (dA sz.aU rfl rfl rfl rfl rfl (au rfl) (cells2:=[_,_,_,_,_,_,_,_,_,_,_]) rfl (OL.nil ?_));refine SK.dG (ay rfl (OL.nil ?_));refine SK.nil (AW.seq (AW.sg hE rfl (ah rfl (bU rfl rfl (c:=false) (by exact eF (by omega)) (OL.nil (jD rfl ?_))))))
 refine AW.skip (AW.seq (AW.dg 1 [0,1,2,3,4,5,6] aj hE rfl (by kernel_rfl) (OI.aP (os:=[_,_,_,_,_,_,_]) rfl ?_)))
 refine aF fd.xg rfl rfl (ak ce.aS rfl rfl rfl (aF fd.gZ rfl rfl (aG ag.Rat rfl rfl (vs:=[_,_,_]) rfl (au rfl) (aY rfl vL (rG (q:=h.empty)) (Uj sl.aS rfl rfl (by omega) (by omega) rfl (AA sz.aA rfl (d:=dW h.empty) G8 rfl rfl Nat.zero_lt_one (es2:=[dW h.empty]) rfl (OL.nil ?_)))))))
 refine AW.seq (AW.sg hE rfl (ay rfl (OL.nil (AW.block (AW.row0 114 T.mD 11 rfl (AW.vC 5 [.d (dI 1),.mt,.d (dI h.sym),.d (dI 1),.bJ 65 p1 1 1,.bJ 76 p2 1 1,.bJ 114 0 0 0] rfl (.cons vR (.cons vR (.cons vR (.cons vR (.cons vR (.cons vR (.cons aZ.Ub .nil))))))) ?_))))));refine AW.aK (α:=Nat × Nat × Nat × Nat × Nat × Nat × Nat × Nat) [(2,_),(3,_),(5,_),(6,_)] [(2,_),(6,_)] (λ(f,n,p1,c1,p2,c2,p3,c3)=>[(8,.d (dI f))]) (λ(f,n,p1,c1,p2,c2,p3,c3)=>[(5,.box b5 T.Auto [.d (dI 1),.mt,.d (dI h.sym),.d (dI 1),.bJ 65 p1 n c1,.bJ 76 p2 n c2,.bJ 114 p3 (Md h f).length c3]),(65,.row p1 c1 T.aA 8 (((bT h).ini.take n).map dW)),(76,.row p2 c2 T.aA 8 (((bT h).fin.take n).map dW)),(114,.row p3 c3 T.mD 11 ((Md h f).map iO))]) (λ(f,n,p1,c1,p2,c2,p3,c3)=>f<=h.st+1/\(f=0->n=1)/\(1<=f->n=f)) (λ(f,n,p1,c1,p2,c2,p3,c3)=>h.st+1-f) (0,1,p1,1,p2,1,0,0) (.cons (fG rfl) (.cons (Xr) (.cons (fG rfl) (.cons (fG rfl) .nil)))) (.cons (iJ rfl) (.cons (iJ rfl) .nil)) ⟨⟨Nat.zero_le _,λ_=>rfl,λh=>absurd h (by decide)⟩,.bC,.cons rfl (.cons rfl (.cons rfl (.cons rfl .nil)))⟩ ?_
 rintro⟨f,n,p1,c1,p2,c2,p3,c3⟩ ⟨h1,hn0,hn1⟩
 have h1:f<=h.st+1:=h1;have hn0:f=0->n=1:=hn0;have hn1:1<=f->n=f:=hn1;refine AW.seq (AW.sg hE rfl (ah rfl (aF fd.bQ rfl rfl (ak ce.int rfl rfl rfl (x8 rfl rfl rfl (OL.nil (AW.cond rfl (λh48=>?_) (λh48=>?_))))))))
 .try simp only[bY] at h48
  refine AW.skip (AW.seq (AW.block (AW.sg hE rfl (aF fd.fO rfl rfl (ak ce.aQ rfl rfl rfl (ay rfl (OL.nil ?_)))))));refine AW.AP (α:=Nat × Nat × Nat × Nat) [(2,_),(3,_),(5,_),(6,_),(8,_)] [(2,_),(6,_),(114,_)] (λ(q1,d1,q2,d2)=>[(9,.d (o9 (eY h f)))]) (λ(q1,d1,q2,d2)=>[(5,.box b5 T.Auto [.d (dI 1),.mt,.d (dI h.sym),.d (dI 1),.bJ 65 q1 (f+1) d1,.bJ 76 q2 (f+1) d2,.bJ 114 p3 (Md h f).length c3]),(65,.row q1 d1 T.aA 8 (((bT h).ini.take (f+1)).map dW)),(76,.row q2 d2 T.aA 8 (((bT h).fin.take (f+1)).map dW))]) (λ(q1,d1,q2,d2)=>True) (.cons (fG rfl) (.cons (Xr) (.cons (fG rfl) (.cons (fG rfl) (.cons (bM rfl) .nil))))) (.cons (iJ rfl) (.cons (iJ rfl) (.cons (rH rfl) .nil))) ?_ ?_
  .refine AW.sg hE rfl (ah rfl (iI rfl rfl rfl (OL.nil (AW.cond rfl (λh0=>?_) (λh0=>?_)))))
   .have h0:1<=f:=by have:=jC h0;omega
    obtain rfl:n=f:=hn1 h0;refine AW.sg hE rfl (aF fd.fD rfl rfl (ak ce.aW rfl rfl rfl (ah rfl (bo rfl rfl (dK (c:=((n-1:Nat):Int)) (by omega) (wrap_i64 (by omega))) (bg sl.aW [] rfl rfl (show n-1<h.trans.length by omega) rfl rfl (bP ce.aQ rfl (ay rfl ?_)))))))
    refine OL.nil (AW.dg 2 [0,1,2,3,5,6,7,8,9,10,11,12,4,13,14,16,15,17,18,19] aj hE rfl (by kernel_rfl) (OI.aP (os:=[_,_,_,_,_,_,_,_,_,_,_,_,_,_,_,_,_,_,_,_]) rfl ?_))
    refine aF fd.xe rfl rfl (ak ce.aS rfl rfl rfl (bd z.aA pl.aA (cs:=[_,_,_,_,_,_,_,_]) rfl (tC (y:=dW 0) sl.aS at1 rfl (by decide) (aF fd.xg rfl rfl (ak ce.aS rfl rfl rfl (aF fd.jf rfl rfl (ak ce.aQ rfl rfl rfl ?_)))))))
    refine ah rfl (bo rfl rfl (dK (c:=((n-1:Nat):Int)) (by omega) (wrap_i64 (by omega))) (bg sl.aQ 0 rfl rfl (show n-1<h.stop.length by omega) rfl rfl (iU ag.Rat rfl (vs:=[_,_,_]) rfl (au rfl) ?_)))
    refine yG sl.aS rfl rfl rfl (by rw[dF,List.length_take];omega) (VC.d _) (λy hy=>by rw[qm hy];rfl) (by simp only[nN];omega) (by simp only[nN];omega) (.inr rfl) (ys:=((bT h).ini.take (n+1)).map dW) (by rw[xu 0 (show n<(bT h).ini.length by omega),show (bT h).ini.getD n 0=0 from by obtain⟨m,rfl⟩:=Nat.exists_eq_add_of_le h0;rw[Nat.add_comm 1 m];exact Ti (n:=h.st) (j:=m),List.map_append];rfl) (n2:=n+1) (rfl) λb65 c65=>?_
    refine aY rfl vL (rG (q:=h.stop.getD (n-1) 0)) (tC (y:=dW (h.stop.getD (n-1) 0)) sl.aS G8 rfl (by decide) (aF fd.xe rfl rfl ?_))
    refine yG sl.aS rfl rfl rfl (by rw[dF,List.length_take];omega) (VC.d _) (λy hy=>by rw[qm hy];rfl) (by simp only[nN];omega) (by simp only[nN];omega) (.inr rfl) (ys:=((bT h).fin.take (n+1)).map dW) (by rw[xu 0 (show n<(bT h).fin.length by omega),show (bT h).fin.getD n 0=h.stop.getD (n-1) 0 from by obtain⟨m,rfl⟩:=Nat.exists_eq_add_of_le h0;rw[Nat.add_comm 1 m];rfl,List.map_append];rfl) (n2:=n+1) (rfl) λb76 c76=>?_
    refine dA sz.aS rfl rfl rfl rfl rfl (au rfl) (cells2:=[_,_,_,_,_,_,_]) rfl (aF fd.xg rfl rfl (dA sz.aS rfl rfl rfl rfl rfl (au rfl) (cells2:=[_,_,_,_,_,_,_]) rfl (OL.nil ?_)));exact AW.reach (b65,c65,b76,c76) ⟨trivial,Knows.app .y9 (.cons (by rw[eY,if_neg (by omega)];exact aZ.refl _) .nil),bn.app (.cons rfl (.cons rfl (.cons rfl .nil))) (.cons rfl (.cons rfl (.cons rfl .nil)))⟩
   .have h0:f=0:=by have:=kK h0;omega
    obtain rfl:n=1:=hn0 h0;refine AW.skip ?_;subst h0;exact AW.reach (p1,c1,p2,c2) ⟨trivial,Knows.app .y9 .bC,bn.app (.cons rfl (.cons rfl (.cons rfl .nil))) (.cons rfl (.cons rfl (.cons rfl .nil)))⟩
  rintro⟨q1,d1,q2,d2⟩ -
  have hrl:=CV fo (show f<=h.st by omega)
  refine AW.sg hE rfl (ah rfl (eH sl.aQ rfl rfl (ah rfl (OL.nil (AW.block ?_)))));refine AW.aK (α:=Nat × Nat × Nat) [(2,_),(3,_),(5,_),(6,_),(8,_),(79,_),(80,_)] [(2,_),(6,_),(65,_),(76,_)] (λ(i,q3,d3)=>[(81,.d (dI i))]) (λ(i,q3,d3)=>[(5,.box b5 T.Auto [.d (dI 1),.mt,.d (dI h.sym),.d (dI 1),.bJ 65 q1 (f+1) d1,.bJ 76 q2 (f+1) d2,.bJ 114 q3 (Md h f++Ue h f i).length d3]),(114,.row q3 d3 T.mD 11 ((Md h f++Ue h f i).map iO))]) (λ(i,q3,d3)=>i<=h.st) (λ(i,q3,d3)=>h.st-i) (0,p3,c3) (.cons (fG rfl) (.cons (Xr) (.cons (fG rfl) (.cons (fG rfl) (.cons (bM rfl) (.cons (bM rfl) (.cons (bM rfl) .nil))))))) (.cons (iJ rfl) (.cons (iJ rfl) (.cons (rH rfl) (.cons (rH rfl) .nil)))) ⟨Nat.zero_le _,.bC,.cons (by rw[show Ue h f 0=[] from rfl,List.append_nil];rfl) (.cons (by rw[show Ue h f 0=[] from rfl,List.append_nil];rfl) .nil)⟩ ?_
  rintro⟨i,q3,d3⟩ h2
  have h2:i<=h.st:=h2;refine AW.sg hE rfl (aN rfl rfl rfl (OL.nil (AW.seq (AW.cond rfl (λh82=>?_) (λh82=>?_)))))
  .try simp only[bY] at h82
   refine AW.skip (AW.seq (AW.block (AW.seq ?_)));have hi:i<h.st:=by omega
   have zx:=(FO fo f).get hb1 i;have hel:=Iu fo i;refine AW.rg hE rfl (ah rfl (bg sl.aQ 0 rfl rfl (by omega) rfl rfl (iU ag.Rat rfl (vs:=[_,_,_]) rfl (au rfl) (al z.Rat rfl λb11=>(ay rfl (dA sz.Rat rfl rfl rfl rfl rfl (au rfl) (cells2:=[_,_,_]) rfl (OL.nil ?_)))))))
   refine AW.sg hE rfl (aF fd.dS rfl rfl (ak ce.aW rfl rfl rfl (ah rfl (bg sl.aW [] rfl rfl (show i<h.emit.length by omega) rfl rfl (bP ce.aQ rfl (eH sl.aQ rfl rfl (ah rfl ?_)))))))
   refine OL.nil (AW.block ?_);refine AW.aK (α:=Nat × Nat × Nat) [(2,_),(3,_),(5,_),(6,_),(8,_),(10,_),(11,_),(79,_),(80,_),(81,_),(90,_),(91,_)] [(2,_),(6,_),(11,_),(65,_),(76,_)] (λ(s,r3,e3)=>[(92,.d (dI s))]) (λ(s,r3,e3)=>[(5,.box b5 T.Auto [.d (dI 1),.mt,.d (dI h.sym),.d (dI 1),.bJ 65 q1 (f+1) d1,.bJ 76 q2 (f+1) d2,.bJ 114 r3 (Md h f++Ue h f i++XV ((eY h f).getD i 0) f i (h.emit.getD i []) s).length e3]),(114,.row r3 e3 T.mD 11 ((Md h f++Ue h f i++XV ((eY h f).getD i 0) f i (h.emit.getD i []) s).map iO))]) (λ(s,r3,e3)=>s<=(h.emit.getD i []).length) (λ(s,r3,e3)=>(h.emit.getD i []).length-s) (0,q3,d3) (.cons (fG rfl) (.cons (Xr) (.cons (fG rfl) (.cons (fG rfl) (.cons (bM rfl) (.cons (bM rfl) (.cons (fG rfl) (.cons (bM rfl) (.cons (bM rfl) (.cons (bM rfl) (.cons (bM rfl) (.cons (bM rfl) .nil)))))))))))) (.cons (iJ rfl) (.cons (iJ rfl) (.cons (iJ rfl) (.cons (rH rfl) (.cons (rH rfl) .nil))))) ⟨Nat.zero_le _,.bC,.cons (by rw[show XV ((eY h f).getD i 0) f i (h.emit.getD i []) 0=[] from rfl,List.append_nil];rfl) (.cons (by rw[show XV ((eY h f).getD i 0) f i (h.emit.getD i []) 0=[] from rfl,List.append_nil];rfl) .nil)⟩ ?_
   rintro⟨s,r3,e3⟩ h3
   have h3:s<=(h.emit.getD i []).length:=h3;have hal:=at6 fo (k:=f) (i:=i) (p:=((eY h f).getD i 0)) (e:=(h.emit.getD i [])) (s:=s) (by omega) h2 (by omega)
   refine AW.sg hE rfl (aN rfl rfl rfl (OL.nil (AW.seq (AW.cond rfl (λh93=>?_) (λh93=>?_)))))
   .try simp only[bY] at h93
    refine AW.skip (AW.seq (AW.block (AW.seq ?_)));have hs:s<(h.emit.getD i []).length:=by omega
    have zy:=(fo.zM i).get hb1 s;have zxy:=jZ ((eY h f).getD i 0) ((h.emit.getD i []).getD s 0);refine AW.rg hE rfl (ah rfl (bg sl.aQ 0 rfl rfl (by omega) rfl rfl (iU ag.Rat rfl (vs:=[_,_,_]) rfl (au rfl) (al z.Rat rfl λb13=>(ay rfl (dA sz.Rat rfl rfl rfl rfl rfl (au rfl) (cells2:=[_,_,_]) rfl (OL.nil ?_)))))))
    refine AW.sg hE rfl (aG ag.Rat rfl rfl (vs:=[_,_,_]) rfl (au rfl) (aG ag.Rat rfl rfl (vs:=[_,_,_]) rfl (au rfl) (aY rfl vL (xQ (x:=((eY h f).getD i 0)) (y:=((h.emit.getD i []).getD s 0)) (by omega) (by omega)) (al z.Rat rfl λb14=>(dA sz.Rat rfl rfl rfl rfl rfl (au rfl) (cells2:=[_,_,_]) rfl (OL.nil (AW.sg hE rfl ?_)))))))
    refine aG ag.Rat rfl rfl (vs:=[_,_,_]) rfl (au rfl) (aY rfl vL (lZ (x:=((eY h f).getD i 0)*((h.emit.getD i []).getD s 0)) (by omega)) (iI rfl rfl rfl (OL.nil (AW.cond rfl (λhp=>?_) (λhp=>?_)))))
    .have hp:0<((eY h f).getD i 0)*((h.emit.getD i []).getD s 0):=Zq.1 (jC hp);refine AW.dg 2 [0,1,2,3,4,5,6,7,8,9,10,11,12,13] aj hE rfl (by kernel_rfl) (OI.aP (os:=[_,_,_,_,_,_,_,_,_,_,_,_,_,_]) rfl ?_)
     refine aF fd.lX rfl rfl (ak ce.cZ rfl rfl rfl (ah rfl (ah rfl (bo rfl rfl (dO (c:=((s+1:Nat):Int)) (by omega) (wrap_i64 (by omega))) (ah rfl (bo rfl rfl (dO (c:=((i+1:Nat):Int)) (by omega) (wrap_i64 (by omega))) (aG ag.Rat rfl rfl (vs:=[_,_,_]) rfl (au rfl) ?_)))))))
     refine aY rfl vL (rG (q:=((eY h f).getD i 0)*((h.emit.getD i []).getD s 0))) (WL (cs:=[_,_,_,_,_,_,_,_,_,_,_]) z.mD pl.mD (qA (by exact AX rfl) (qA (by exact AX rfl) (qA (by exact AX rfl) (qA (by exact evA rfl) (WJ))))) (by rfl) (tC (y:=iO ⟨f,s+1,i+1,((eY h f).getD i 0)*((h.emit.getD i []).getD s 0)⟩) sl.cZ (tu (x:=⟨f,s+1,i+1,((eY h f).getD i 0)*((h.emit.getD i []).getD s 0)⟩)) rfl (by decide) ?_))
     refine yG sl.cZ rfl rfl rfl (by rw[dF]) (VC.d _) (λy hy=>by rw[qm hy];rfl) (by simp only[nN];omega) (by simp only[nN];omega) (.inr rfl) (ys:=(Md h f++Ue h f i++XV ((eY h f).getD i 0) f i (h.emit.getD i []) (s+1)).map iO) (by rw[CU,if_pos hp,<- List.append_assoc];exact KP) (n2:=(Md h f++Ue h f i++XV ((eY h f).getD i 0) f i (h.emit.getD i []) (s+1)).length) (by rw[CU,if_pos hp,<- List.append_assoc];exact GI) λbl0 bl1=>?_
     refine aF fd.lX rfl rfl (dA sz.cZ rfl rfl rfl rfl rfl (au rfl) (cells2:=[_,_,_,_,_,_,_]) rfl (OL.nil (AW.rg hE rfl (aB rfl rfl (by omega) (ah rfl (OL.nil ?_))))))
     exact AW.again (x:=(s,r3,e3)) (s+1,bl0,bl1) (by (simp only[];omega)) ⟨by omega,Knows.app .aB4 .bC,bn.app (.cons rfl (.cons rfl (.cons rfl (.cons rfl (.cons rfl .nil))))) (.cons rfl (.cons rfl .nil))⟩
    .have hp:¬ 0<((eY h f).getD i 0)*((h.emit.getD i []).getD s 0):=λe=>kK hp (Zq.2 e);refine AW.skip (AW.rg hE rfl (aB rfl rfl (by omega) (ah rfl (OL.nil ?_))))
     exact AW.again (x:=(s,r3,e3)) (s+1,r3,e3) (by (simp only[];omega)) ⟨by omega,Knows.app .aB4 .bC,bn.app (.cons rfl (.cons rfl (.cons rfl (.cons rfl (.cons rfl .nil))))) (.cons (by rw[CU,if_neg hp,List.append_nil];rfl) (.cons (by rw[CU,if_neg hp,List.append_nil];rfl) .nil))⟩
   .try simp only[bY] at h93
    refine AW.exit ?_;obtain rfl:s=(h.emit.getD i []).length:=by omega
    refine AW.rg hE rfl (aB rfl rfl (by omega) (ah rfl (OL.nil ?_)))
    exact AW.again (x:=(i,q3,d3)) (i+1,r3,e3) (by (simp only[];omega)) ⟨by omega,Knows.app .Nw .bC,bn.app (.cons rfl (.cons rfl (.cons rfl (.cons rfl .nil)))) (.cons (by rw[JF,<- List.append_assoc];rfl) (.cons (by rw[JF,<- List.append_assoc];rfl) .nil))⟩
  .try simp only[bY] at h82
   refine AW.exit ?_;obtain rfl:i=h.st:=by omega
   rw[<- hrl];refine AW.rg hE rfl (ah rfl (aB rfl rfl (by omega) (ay rfl (OL.nil ?_))))
   exact AW.again (x:=(f,n,p1,c1,p2,c2,p3,c3)) (f+1,f+1,q1,d1,q2,d2,q3,d3) (by (simp only[];omega)) ⟨⟨by omega,λe=>absurd e (Nat.succ_ne_zero _),λ_=>rfl⟩,Knows.app .CZ .bC,bn.app (.cons rfl (.cons rfl .nil)) (.cons (by rw[JG];rfl) (.cons rfl (.cons rfl (.cons (by rw[JG];rfl) .nil))))⟩
 .try simp only[bY] at h48
  refine AW.exit (AW.seq ?_);obtain rfl:f=h.st+1:=by omega
  obtain rfl:n=h.st+1:=hn1 (by omega)
  refine AW.rg hE rfl (aF fd.xe rfl rfl (ak ce.aS rfl rfl rfl (WI sl.aS rfl rfl (aF fd.rD rfl rfl (dA sz.int rfl rfl rfl rfl rfl (au rfl) (cells2:=[_,_,_,_,_,_,_]) rfl (OL.nil (AW.seq ?_)))))));refine AW.sg hE rfl (aF fd.lX rfl rfl (ak ce.cZ rfl rfl rfl (WI sl.cZ rfl rfl (iI rfl rfl (c:=false) (by exact decide_eq_false (by omega)) (OL.nil (jD rfl ?_))))))
  refine AW.skip (AW.seq ?_);refine AW.freeze 65 rfl (AW.vC 5 [.d (dI 1),.d (.sl []),.d (dI h.sym),.d (dI ((h.st+1:Nat):Int)),.d (yE (bT h).ini),.bJ 76 p2 (h.st+1) c2,.bJ 114 p3 (Md h (h.st+1)).length c3] rfl (.cons vR (.cons aZ.mt (.cons vR (.cons vR (.cons (dP (by rw[dF,List.length_take];omega) (by rw[List.take_of_length_le (by omega)])) .dR))))) ?_)
  refine AW.freeze 76 rfl (AW.vC 5 [.d (dI 1),.d (.sl []),.d (dI h.sym),.d (dI ((h.st+1:Nat):Int)),.d (yE (bT h).ini),.d (yE (bT h).fin),.bJ 114 p3 (Md h (h.st+1)).length c3] rfl (.cons vR (.cons vR (.cons vR (.cons vR (.cons vR (.cons (dP (by rw[dF,List.length_take];omega) (by rw[List.take_of_length_le (by omega)])) .bC)))))) ?_)
  refine AW.freeze 114 rfl (AW.vC 5 [.d (dI 1),.d (.sl []),.d (dI h.sym),.d (dI ((h.st+1:Nat):Int)),.d (yE (bT h).ini),.d (yE (bT h).fin),.d (oW (bT h).aX)] rfl (.cons vR (.cons vR (.cons vR (.cons vR (.cons vR (.cons vR (.cons (dP (dF ..).symm rfl) .nil))))))) ?_);refine AW.rg hE rfl (aG ag.Auto rfl rfl (vs:=[_,_,_,_,_,_,_]) rfl (au rfl) (aY rfl vL (Zk (a:=bT h) (GH g) (Em g na) s1 (by show h.st+1<=64;omega)) (ex rfl rfl (ex rfl rfl (dA sz.Auto rfl rfl rfl rfl rfl (au rfl) (cells2:=[_,_,_,_,_,_,_]) rfl (ay rfl (OL.nil ?_)))))))
  exact AW.ret (aH.r ⟨_,.dD rfl rfl ag.Auto (au rfl) (.tmp rfl .nil),_,.cons (.ag (.cons (.le vR) (.cons (.le vR) (.cons (.le vR) (.cons (.le vR) (.cons (.le vR) (.cons (.le vR) (.cons (.le vR) .nil)))))))) (.cons (.le vR) .nil),rfl⟩)
theorem OV {a:Au}(h:a.Ok)(hn:a.aX.length<=64){w:List Int}(hw:G6 a.sym w){C:Nat}(hC:1<=C/\C<=100000000)(hv:∀ k,k<=w.length->∀ j,sz ((iq (iR [a]) (w.take k)).getD j 0)<=C)(he:∀ s i j,sz (gV a.aX s i j)<=C)(hf:Small C a.fin)(s2:a.st<=64):VI (fM a) w:=by
 have hv2:∀ k,k<=w.length->∀ j,sz ((JE (fM a) (w.take k)).getD j 0)<=C:=λk hk j=>by
  rw[Tj (Gz h) (λx hx=>hw x (List.mem_of_mem_take hx)),(KO a).Vl];exact hv k hk j
 have hq:∀ x,x ∈ (fM a).aX->sz x.q<=C:=λx hx=>by
  rw[<- Aq (Ol a.aX) hx (Iq h x hx),CP];exact he ..
 have hl:(fM a).aX.length<=64:=Nat.le_trans (CS a.aX) hn;have hvw:∀ j,sz ((JE (fM a) w).getD j 0)<=C:=λj=>by
  have:=hv2 w.length (Nat.le_refl _) j;rwa [List.take_length] at this
 refine⟨λk hk=>⟨λj=>Nat.le_trans (hv2 k (by omega) j) (by omega),λx hx=>Nat.le_trans (hq x hx) (by omega),λi j=>?_⟩,λj=>Nat.le_trans (hvw j) (by omega),λj=>Nat.le_trans (hf.get hC.1 j) (by omega),λi hi=>?_⟩
 .have h1:=QT (v:=JE (fM a) (w.take k)) (n:=a.st) (s:=(w.getD k 0).toNat) (j:=j) (l:=(fM a).aX.take i) (B:=C) (C:=C) (N:=64) (hv2 k (by omega)) (λx hx=>⟨((Gz h).arc x (List.mem_of_mem_take hx)).2.1,hq x (List.mem_of_mem_take hx)⟩) (by rw[List.length_take];omega) (by omega)
  exact Nat.le_trans h1 (by omega)
 .unfold EH;have h1:=OC (f:=λi=>(JE (fM a) w).getD i 0*(fM a).fin.getD i 0) (C:=C+C) (n:=i) λj _=>by
   have h2:=jZ ((JE (fM a) w).getD j 0) ((fM a).fin.getD j 0);have h3:=hvw j;have h4:sz ((fM a).fin.getD j 0)<=C:=hf.get hC.1 j;omega
  have h2:=Nat.mul_le_mul_right (C+C+1) (show i<=64 from Nat.le_trans hi s2)
  omega
theorem OX {a:Au}(h:a.Ok){C:Nat}(he:∀ s i j,sz (gV a.aX s i j)<=C){x:aT}(hx:x ∈ (fM a).aX):sz x.q<=C:=by
 rw[<- Aq (Ol a.aX) hx (Iq h x hx),CP];exact he ..
theorem at7 {h:HM}{B C:Nat}(g:HM.jK 1048576 B h)(na:(bT h).aX.length<=64){w:List Int}(hw:G6 h.sym w)(hl:w.length<=256)(hC:1<=C/\C<=100000000)(hB:B+B<=C)
  (hf:∀ k,k<=w.length->∀ t j,t<(w.take k).length->sz ((yw h (w.take k) t).getD j 0)<=C):ai P F.rW [Gx (fM (bT h)),.d (ints w)] (.jM [vW (BJ h w),.d (dI 0)]):=by
 have ok:=GH g;have nk:=Gz ok;have he:∀ s i j,sz (gV (bT h).aX s i j)<=C:=λs i j=>Nat.le_trans (Ir g s i j) hB;have z:=Em g na;have st:(bT h).st<=64:=by have:=g.form.st1;show h.st+1<=64;omega
 have zn:(fM (bT h)).Sz 134217728 64:=⟨z.ini,z.fin,λx hx=>Nat.le_trans (OX ok he hx) (by omega),Nat.le_trans (CS _) na⟩
 have e:G7 (fM (bT h)) w=BJ h w:=by rw[OJ];exact JH g hw
 have r:=aG5 (a:=fM (bT h)) nk zn g.form.sZ st (w:=w) hw hl (OV nk zn.num hw hC (λk hk j=>by rw[(KO _).Vl];exact Tn g hC.1 (λx hx=>hw x (List.mem_of_mem_take hx)) (hf k hk) j) (λs i j=>by show sz (gV (Bz _) s i j)<=C;rw[CP];exact he s i j) ((Ej g).mono (by omega)) st)
 rw[e] at r;exact r
