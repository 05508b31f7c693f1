/-
  AL, part 45: a call that takes owned blocks and hands back further ones.
-/
import Derived.Test.YteiohkpjgcioaaaGreatDoorKHoE
set_option maxRecDepth 8000
set_option maxHeartbeats 3200000
set_option linter.unusedVariables false
set_option linter.unusedSimpArgs false
namespace Go.AL
open Go Go.BigFrame
def bp1 (f:List Int->Rat)(s k:Nat):Rat:=qC f ((aM8 s 5).take k)
def aJ2 (w:List Int):Rat:=if w=[] then 1 else 0
end Go.AL
namespace Go.Proofs.YteiohkpjgcioaaaGreatDoor
open Go Go.AL
theorem ax5 {h:HM}(hn:bD h=[]):∀ i,i<=h.st->∀ j,j<i->h.silent.getD j false=true:=λi hi j hj=>by
 cases hs:h.silent.getD j false with
 | true=>rfl
 | false =>
  have:j ∈ bD h:=JO.2 ⟨by omega,hs⟩
  rw[hn] at this;cases this
def EF (n:Nat):Au:=⟨n,1,[1],[1],[]⟩
theorem Wv {n:Nat}(h:1<=n):(EF n).Ok:=⟨h,rfl,rfl,λx hx=>by cases hx⟩
theorem ax6 {n:Nat}:(EF n).Sz 134217728 64:=⟨.one (by rw[Ig];decide),.one (by rw[Ig];decide),λx hx=>(by cases hx),Nat.zero_le _⟩
theorem Rf {n:Nat}:∀ w:List Int,(iq (iR [EF n]) w).length=1/\(iq (iR [EF n]) w).getD 0 0=aJ2 w:=λw=>by
 rcases List.eq_nil_or_concat w with rfl|⟨u,x,rfl⟩
 .exact⟨rfl,rfl⟩
 .rw[List.concat_eq_append,CJ];have hN:(iR [EF n]).n=1:=kG;refine⟨by rw[Ku,hN],?_⟩
  rw[Fp (by rw[hN];decide),hN]
  have e:aJ2 (u++[x])=0:=if_neg (by simp)
  rw[e];refine oU λi hi=>?_;have:SI (iR [EF n]) (x.toNat-1) i 0=0:=by
   obtain rfl:i=0:=by omega
   rcases Nat.lt_or_ge (x.toNat-1) n with hs|hs
   .rw[KD (l:=[EF n]) hs (by rw[kG];exact hi) (by rw[kG];exact hi)]
    rfl
   .show ((((iR [EF n]).ac0.getD (x.toNat-1) []).getD 0 []).getD 0 0)=0
    rw[vF (l:=(iR [EF n]).ac0) (by show ((List.range n).map _).length<=_;rw[dF,List.length_range];exact hs)]
    rfl
  rw[this,Rat.mul_zero]
theorem aJ3 (w:List Int):sz (aJ2 w)<=1:=by unfold aJ2;split;(rw[Ig];exact Nat.le_refl _);(rw[gJ];decide)
theorem ax7 {h:HM}(f:h.oh)(sm:h.Me)(rk:h.ql)(td:h.PZ)(hn:bD h=[]):ai P F.jV [uY h] (.jM [.ag [.d (dI 0),.d (dI 0),.d (dB false),.mt,.mt,.mt,.mt,.mt,.mt,.mt,.mt],.d (dI 1)]):=by
 have n0:=f.st0;have n1:=f.st1;have e6:=f.yJ;have e5:=f.ties;have hsl:=ax5 hn h.st (Nat.le_refl _);refine ai.intro fn.jV (by rfl) (by rfl) (au (by rfl)) λE hE=>(AW.sg hE rfl (iC rfl rfl λb1=>(al z.aU rfl λb2=>(ay rfl (OL.nil (AW.seq (AW.sg hE rfl ?_)))))))
 refine aG ag.aU rfl rfl (vs:=[_,_,_,_,_,_,_,_,_,_,_]) rfl (au rfl) (aY rfl vL (En f sm rk td) (ay rfl (OL.nil (AW.sg hE rfl (ah rfl (bU rfl rfl (c:=false) (by exact eF (by omega)) (OL.nil ?_)))))))
 refine jD rfl ?_;refine AW.skip (AW.seq (AW.oz (by rw[hE];rfl) (SK.dG (aG ag.aU rfl rfl (vs:=[_,_,_,_,_,_,_,_,_,_,_]) rfl (au rfl) (OL.nil ?_)))))
 refine SK.G5 (SO.Ey (args':=[uY h]) (show 28<E.n by rw[hE];exact Nat.le_of_ble_eq_true (by rfl)) rfl .bC (Mc:=jm) (λ_ _ h=>by cases h) (O7 f rk) (λ_ _ _ h=>h) ?_)
 rintro O2 o2
 refine SK.dG (BN rfl (OL.nil ?_));refine SK.dG (ex rfl rfl (OL.nil ?_));refine SK.dG (ex rfl rfl (OL.nil ?_));refine SK.dG (ay rfl (OL.nil ?_));refine SK.dG (ay rfl (OL.nil ?_));refine SK.nil ?_;have o2:He h O2:=o2;have hO2:∀ k,k ∈ O2->k<h.st:=λk hk=>((o2.sil k).1 hk).1;refine AW.sg hE rfl (al z.ints rfl λb7=>(OL.nil (AW.sg hE rfl (oq rfl (OL.nil (AW.seq (AW.sg hE rfl ?_)))))));refine aF fd.bQ rfl rfl (ak ce.int rfl rfl rfl (ah rfl (OL.nil (AW.block ?_))));refine AW.aK (α:=Nat) [(1,_),(2,_),(3,_),(5,_),(7,_),(32,_)] [(1,_),(2,_)] (λi=>[(8,.mt),(33,.d (dI i))]) (λi=>[(7,.box b7 T.ints [.mt])]) (λi=>i<=h.st) (λi=>h.st-i) 0 (.cons (fG rfl) (.cons (fG rfl) (.cons (bM rfl) (.cons (bM rfl) (.cons (fG rfl) (.cons (bM rfl) .nil)))))) (.cons (iJ rfl) (.cons (iJ rfl) .nil)) ⟨Nat.zero_le _,.dR,.cons rfl .nil⟩ ?_;intro i h1;have h1:i<=h.st:=h1;refine AW.sg hE rfl (aN rfl rfl rfl (OL.nil (AW.seq (AW.cond rfl (λh34=>?_) (λh34=>?_)))))
 .try simp only[bY] at h34
  refine AW.skip (AW.seq (AW.block (AW.sg hE rfl (ah rfl (ay rfl (OL.nil (AW.seq ?_)))))));have hi:i<h.st:=by omega
  have hs:=hsl i hi;refine AW.rg hE rfl (aF fd.bZ rfl rfl (ak ce.bools rfl rfl rfl (ah rfl (bg sl.bools false rfl rfl (by omega) rfl rfl (bP ce.bool rfl ?_)))))
  rw[hs];refine nt rfl (OL.nil (jD rfl ?_));refine AW.skip (AW.rg hE rfl (aB rfl rfl (by omega) (ah rfl (OL.nil ?_))))
  exact AW.again (x:=i) (i+1) (by omega) ⟨by omega,Knows.app .Lj .dR,bn.app (.cons rfl (.cons rfl .nil)) (.cons rfl .nil)⟩
 .try simp only[bY] at h34
  refine AW.exit (AW.seq (AW.sg hE rfl (ak ce.ints rfl rfl rfl (lnM sl.ints rfl rfl (dm rfl rfl (c:=true) (by exact decide_eq_true (by omega)) (OL.nil (Hl rfl ?_)))))))
  refine AW.sg hE rfl (bd z.aU pl.aU (cs:=[_,_,_,_,_,_,_,_,_,_,_]) rfl (dA sz.aU rfl rfl rfl rfl rfl (au rfl) (cells2:=[_,_,_,_,_,_,_,_,_,_,_]) rfl (ay rfl (OL.nil ?_))));exact AW.ret (aH.r ⟨_,.dD rfl rfl ag.aU (au rfl) (.tmp rfl .nil),_,.cons (.ag (.cons (.le vR) (.cons (.le vR) (.cons (.le vR) (.cons (.le vR) (.cons (.le vR) (.cons (.le vR) (.cons (.le vR) (.cons (.le vR) (.cons (.le vR) (.cons (.le vR) (.cons (.le vR) .nil)))))))))))) (.cons (.le vR) .nil),rfl⟩)
theorem P6 {h0 h:HM}(hv:ai P F.wZ [uY h0] (.d (dI 0)))(hem:ai P F.jV [uY h0] (.jM [.ag [.d (dI 0),.d (dI 0),.d (dB false),.mt,.mt,.mt,.mt,.mt,.mt,.mt,.mt],.d (dI 1)]))(hsy:h0.sym=h.sym):ai P F.jU [uY h0] (.jM [Gx (EF h.sym),.d (dI 0)]):=by
 refine ai.intro fn.jU (by rfl) (by rfl) (au (by rfl)) λE hE=>(AW.sg hE rfl (iC rfl rfl λb1=>(al z.Auto rfl λb2=>(ay rfl (OL.nil (AW.seq (AW.sg hE rfl ?_)))))))
 refine aG ag.aU rfl rfl (vs:=[_,_,_,_,_,_,_,_,_,_,_]) rfl (au rfl) (aY rfl vL (hv) (ay rfl (OL.nil (AW.sg hE rfl (ah rfl (bU rfl rfl (c:=false) (by exact eF (by omega)) (OL.nil ?_)))))))
 refine jD rfl ?_;refine AW.skip (AW.seq (AW.Dw (aM2 h0 b1) H6 (aM3 h0 b1) 11 aj (by rw[hE];rfl) (by rfl) (by kernel_rfl) (by kernel_rfl) ?_ ?_))
 .refine aM4 ?_ ?_ ?_ ?_ ?_ ?_ ?_ ?_ ?_ ?_ ?_
  .exact λβ L c9=>⟨_,rfl,.inl (OG.aP (bd z.Ring pl.Ring (cs:=[_,_]) rfl ⟨β,lg (d:=21) (i:=0) rfl (λt ht=>fU ht) (lt_size 12 c9.size rfl (by decide)) (gG (lt_size 12 c9.size rfl (by decide)) (by rfl))⟩))⟩
  .exact λβ L c9=>⟨_,rfl,.inl (OG.aP (aF fd.jL (b:=b1) (o:=0) (id:=1) ((vG rfl).trans rfl) rfl ⟨β,lg (d:=22) (i:=1) rfl (λt ht=>fU ht) (lt_size 12 c9.size rfl (by decide)) (gG (lt_size 12 c9.size rfl (by decide)) (by rfl))⟩))⟩
  .exact λβ L c9=>⟨_,rfl,.inl (OG.aP (ak ce.int (id:=1) (b:=b1) (o:=0) (ig rfl (fH (j:=1) c9 (by kernel_rfl))) ((uI (aV (show (1:Nat)≠26 by decide) (aV (show (1:Nat)≠29 by decide) (aV (show (1:Nat)≠5 by decide) rfl)))):_=some (.box b1 T.aU (yQ h0))) rfl ⟨β,lg (d:=23) (i:=2) rfl (λt ht=>fU ht) (lt_size 12 c9.size rfl (by decide)) (gG (lt_size 12 c9.size rfl (by decide)) (by rfl))⟩))⟩
  .exact λβ L c9=>⟨_,rfl,.inl (OG.aP (aY rfl .nil vK ⟨β,lg (d:=24) (i:=3) rfl (λt ht=>fU ht) (lt_size 12 c9.size rfl (by decide)) (gG (lt_size 12 c9.size rfl (by decide)) (by rfl))⟩))⟩
  .exact λβ L c9=>⟨_,rfl,.inl (OG.aP (aY rfl (.cons (aI (ig rfl (fH (j:=3) c9 (by kernel_rfl)))) .nil) (rG (q:=1)) ⟨β,lg (d:=25) (i:=4) rfl (λt ht=>fU ht) (lt_size 12 c9.size rfl (by decide)) (gG (lt_size 12 c9.size rfl (by decide)) (by rfl))⟩))⟩
  .exact λβ L c9=>⟨_,rfl,.inl (OG.aP (ab2 (y:=dW 1) sl.aS (QU (ig rfl (fH (j:=4) c9 (by kernel_rfl))) G8) rfl (by decide) (uI (Dv (by exact c9.no) (aV (show (26:Nat)≠29 by decide) (aV (show (26:Nat)≠5 by decide) rfl)))) λb8=>⟨upd β 26 (b8,0),Du (d:=26) (i:=5) (x:=(b8,0)) rfl (λt ht=>fU ht) (lt_size 12 c9.size rfl (by decide)) rfl (vH (lt_size 12 c9.size rfl (by decide)) rfl rfl rfl c9.no (by rfl) (List.forall_mem_cons.2 ⟨(by exact λ_ _=>rfl),(List.forall_mem_cons.2 ⟨(by exact λ_ _=>rfl),(λy hy=>absurd hy List.not_mem_nil)⟩)⟩)) (λt j ho hl=>by unfold H6 at ho;split at ho <;> cases ho <;> first|rfl|(rw[c9.no] at hl;cases hl)|exact rV c9 (by kernel_rfl) hl)⟩))⟩
  .exact λβ L c9=>⟨_,rfl,.inl (OG.aP (aY rfl .nil vK ⟨β,lg (d:=27) (i:=6) rfl (λt ht=>fU ht) (lt_size 12 c9.size rfl (by decide)) (gG (lt_size 12 c9.size rfl (by decide)) (by rfl))⟩))⟩
  .exact λβ L c9=>⟨_,rfl,.inl (OG.aP (aY rfl (.cons (aI (ig rfl (fH (j:=6) c9 (by kernel_rfl)))) .nil) (rG (q:=1)) ⟨β,lg (d:=28) (i:=7) rfl (λt ht=>fU ht) (lt_size 12 c9.size rfl (by decide)) (gG (lt_size 12 c9.size rfl (by decide)) (by rfl))⟩))⟩
  .exact λβ L c9=>⟨_,rfl,.inl (OG.aP (ab2 (y:=dW 1) sl.aS (QU (ig rfl (fH (j:=7) c9 (by kernel_rfl))) G8) rfl (by decide) (uI (aV (show (29:Nat)≠26 by decide) (Dv (by exact c9.no) (aV (show (29:Nat)≠5 by decide) rfl)))) λb8=>⟨upd β 29 (b8,0),Du (d:=29) (i:=8) (x:=(b8,0)) rfl (λt ht=>fU ht) (lt_size 12 c9.size rfl (by decide)) rfl (vI (lt_size 12 c9.size rfl (by decide)) (show (5:Nat)≠8 by decide) (.inl (show (26:Nat)≠29 by decide)) (by exact λ_=>rfl) (vH (lt_size 12 c9.size rfl (by decide)) rfl rfl rfl c9.no (by rfl) (List.forall_mem_cons.2 ⟨(by exact λ_ _=>rfl),(λy hy=>absurd hy List.not_mem_nil)⟩))) (λt j ho hl=>by unfold H6 at ho;split at ho <;> cases ho <;> first|rfl|(rw[c9.no] at hl;cases hl)|exact rV c9 (by kernel_rfl) hl)⟩))⟩
  .exact λβ L c9=>⟨_,rfl,.inl (OG.aP (WL (cs:=[_,_,_,_,_,_,_]) z.Auto pl.Auto (qA (ig rfl (fH (j:=0) c9 (by kernel_rfl))) (qA (ig rfl (fH (j:=2) c9 (by kernel_rfl))) (qA rfl (qA (ig rfl (fH (j:=5) c9 (by kernel_rfl))) (qA (ig rfl (fH (j:=8) c9 (by kernel_rfl))) WJ))))) (by rfl) ⟨β,lg (d:=30) (i:=9) rfl (λt ht=>fU ht) (lt_size 12 c9.size rfl (by decide)) (gG (lt_size 12 c9.size rfl (by decide)) (by rfl))⟩))⟩
  .exact λβ L c9=>⟨_,rfl,.inl (OG.aP (al z.Auto (uI (aV (show (5:Nat)≠26 by decide) (aV (show (5:Nat)≠29 by decide) (Dv (by exact c9.no) rfl)))) λb8=>⟨upd β 5 (b8,0),Du (d:=5) (i:=10) (x:=(b8,0)) rfl (λt ht=>fU ht) (lt_size 12 c9.size rfl (by decide)) rfl (vI (lt_size 12 c9.size rfl (by decide)) (show (5:Nat)≠10 by decide) (.inl (show (26:Nat)≠5 by decide)) (by exact λ_=>rfl) (vI (lt_size 12 c9.size rfl (by decide)) (show (8:Nat)≠10 by decide) (.inl (show (29:Nat)≠5 by decide)) (by exact λ_=>rfl) (vH (lt_size 12 c9.size rfl (by decide)) rfl rfl rfl c9.no (by rfl) (λy hy=>absurd hy List.not_mem_nil)))) (λt j ho hl=>by unfold H6 at ho;split at ho <;> cases ho <;> first|rfl|(rw[c9.no] at hl;cases hl)|exact rV c9 (by kernel_rfl) hl)⟩))⟩
 refine λβ L c9 hA=>⟨_,rfl,.inl (OG.aP (dA sz.Auto (ig rfl (hA 10 (by decide))) (ig rfl (hA 9 (by decide))) rfl (uI (aV (show (5:Nat)≠26 by decide) (aV (show (5:Nat)≠29 by decide) (yR (hA 10 (by decide)) rfl rfl)))) rfl (au rfl) (cells2:=[_,_,_,_,_,_,_]) rfl ?_))⟩
 refine OL.nil ?_;refine AW.to [(1,.ptr 1 b1 0),(2,.ptr 2 b2 0),(5,.ptr 5 (β 5).1 0)] [(1,.box b1 T.aU (yQ h0)),(2,.box b2 T.Auto [.d (dI 0),.mt,.d (dI 0),.d (dI 0),.mt,.mt,.mt]),(5,.box (β 5).1 T.Auto [.d (dI 1),.mt,.d (dI h0.sym),.d (dI 1),.bJ 26 (β 26).1 1 1,.bJ 29 (β 29).1 1 1,.mt]),(26,.row (β 26).1 1 T.aA 8 [dW 1]),(29,.row (β 29).1 1 T.aA 8 [dW 1])] (.cons (aI (vJ ((vG rfl).trans rfl))) (.cons (aI (vJ ((vG rfl).trans rfl))) (.cons (aI (vJ (ig rfl (hA 10 (by decide))))) (.nil)))) (.cons (rU (show (1:Nat)≠5 by decide) (uI (aV (show (1:Nat)≠26 by decide) (aV (show (1:Nat)≠29 by decide) (aV (show (1:Nat)≠5 by decide) rfl))))) (.cons (rU (show (2:Nat)≠5 by decide) (uI (aV (show (2:Nat)≠26 by decide) (aV (show (2:Nat)≠29 by decide) (aV (show (2:Nat)≠5 by decide) rfl))))) (.cons Si (.cons (rU (show (26:Nat)≠5 by decide) (uI (yR (hA 5 (by decide)) rfl rfl))) (.cons (rU (show (29:Nat)≠5 by decide) (uI (aV (show (29:Nat)≠26 by decide) (yR (hA 8 (by decide)) rfl rfl)))) (.nil)))))) ?_
 generalize (β 5).1=b5;generalize (β 26).1=p1;generalize (β 29).1=p2;refine AW.rename 26 65 rfl (AW.rename 29 76 rfl (AW.vC 5 [.d (dI 1),.mt,.d (dI h.sym),.d (dI 1),.bJ 65 p1 1 1,.bJ 76 p2 1 1,.mt] rfl (.cons vR (.cons vR (.cons (aI (by rw[hsy])) (.cons vR (.cons aZ.bJ (.cons aZ.bJ .bC)))))) (AW.sg hE rfl (aG ag.aU rfl rfl (vs:=[_,_,_,_,_,_,_,_,_,_,_]) rfl (au rfl) (aY rfl vL (hem) (BN rfl (ex rfl rfl ?_)))))))
 refine ex rfl rfl (al z.aU rfl λb6=>(dA sz.aU rfl rfl rfl rfl rfl (au rfl) (cells2:=[_,_,_,_,_,_,_,_,_,_,_]) rfl (ay rfl (OL.nil (AW.seq (AW.sg hE rfl (ah rfl ?_)))))));refine bU rfl rfl (c:=true) (by exact Eu (by omega)) (OL.nil (Hl rfl ?_))
 refine AW.seq ?_;refine AW.freeze 65 rfl (AW.vC 5 [.d (dI 1),.d (.sl []),.d (dI h.sym),.d (dI 1),.d (yE [1]),.bJ 76 p2 1 1,.mt] rfl (.cons vR (.cons aZ.mt (.cons vR (.cons vR (.cons (dP rfl rfl) .dR))))) ?_);refine AW.freeze 76 rfl (AW.vC 5 [.d (dI 1),.d (.sl []),.d (dI h.sym),.d (dI 1),.d (yE [1]),.d (yE [1]),.d (oW [])] rfl (.cons vR (.cons vR (.cons vR (.cons vR (.cons vR (.cons (dP rfl rfl) (.cons aZ.mt .nil))))))) ?_);refine AW.rg hE rfl (aG ag.Auto rfl rfl (vs:=[_,_,_,_,_,_,_]) rfl (au rfl) (dA sz.Auto rfl rfl rfl rfl rfl (au rfl) (cells2:=[_,_,_,_,_,_,_]) rfl (ay rfl (OL.nil ?_))));exact AW.ret (aH.r ⟨_,.dD rfl rfl ag.Auto (au rfl) (.tmp rfl .nil),_,.cons (.ag (.cons (.le vR) (.cons (.le vR) (.cons (.le vR) (.cons (.le vR) (.cons (.le vR) (.cons (.le vR) (.cons (.le vR) .nil)))))))) (.cons (.le vR) .nil),rfl⟩)
end Go.Proofs.YteiohkpjgcioaaaGreatDoor
namespace Go.AL
open Go Go.BigFrame
theorem ai.read {P:Program}{f id b c e sz:Nat}{es:List D}{args wO:List V}{x:Value}(h:ai P f args (.d (.sc x)))(ha:iy (wO.map (V.YA id b c es)) args) :
  fV P f wO (mem1 id (.row b c e sz es)) (.d (.sc x)) (mem1 id (.row b c e sz es)) :=
 ⟨h.1,λF w vals hS hv=>by
  obtain⟨F',h1,h2,h3,h4⟩:=zG hS (F6 id (.row b c e sz es));have hv':lS F' vals args:=qM ⟨by rw[hv.1,dF],λi y u hy hu=>by
   rw[List.getElem?_map] at hy;cases hq:wO[i]? with
   | none=>rw[hq] at hy;cases hy
   | some z=>rw[hq] at hy;cases hy;exact V.Rz h1 h4 (hv.2 i z u hq hu)⟩ ha
  refine (h.2 F' w vals h2.uD hv').mono λe2 w' ⟨v,F'',he,hx,hr⟩=>⟨v,F,he,⟨hx.grow.mono λi k=>k.elim,Hp.le.refl _,⟨λk o hk=>hx.uD k o (hx.le k o (h1 k o hk)),λj blk hm=>?_,hS.apart,hS.inj⟩,λk p q=>absurd p q,λk k2=>.inr k2⟩,?_⟩
  .refine (hS.own j blk hm).keep (Hp.le.refl _) λk ho=>hx.grow.block k ((hS.own j blk hm).lt ho) λq=>q
  .cases hr with
   | d hd ho=>cases hd with
    | sc hs=>exact .d (.sc hs) ho⟩
section
variable {P:Program}{E:Env}
theorem SG.dG {ops:Array Oper}{o:Oper}{K:S->Prop}{s:S}(h:OL P 0 ops K [o] s):SG P E ops o K s:=.inl h
theorem SG.G5 {ops:Array Oper}{dst:Option Nat}{op:Op}{ty:TypeId}{pos:String}{after:Array Edge}{K:S->Prop}{s:S}(h:SO P E ⟨dst,op,ty,pos,after,none⟩ K s):SG P E ops ⟨dst,op,ty,pos,after,none⟩ K s:=.inr ⟨rfl,h⟩
def OTK (P:Program)(E:Env)(ops:Array Oper)(K:S->Prop):Nat->Array Bool->S->Prop
 | 0,listed,s=>Region.ready .any ops listed=[]/\K s
 | n+1,listed,s=>Region.ready .any ops listed≠[]/\∀ i,i ∈ Region.ready .any ops listed->∃ o,ops[i]? = some o/\SG P E ops o (OTK P E ops K n (listed.setIfInBounds i true)) s
def ag7 (P:Program)(E:Env)(ops:Array Oper)(K:S->Prop)(n:Nat)(listed:Array Bool)(s:S):List Nat->List Oper->Prop
 | [],[]=>True
 | i::l,o::os=>SG P E ops o (OTK P E ops K n (listed.setIfInBounds i true)) s/\ag7 P E ops K n listed s l os
 | _,_=>False
theorem ag7.get {ops:Array Oper}{K:S->Prop}{n:Nat}{listed:Array Bool}{s:S}:∀ (l:List Nat) (os:List Oper),l.map (λi=>ops[i]?)=os.map some->ag7 P E ops K n listed s l os->∀ i,i ∈ l->∃ o,ops[i]? = some o/\SG P E ops o (OTK P E ops K n (listed.setIfInBounds i true)) s
 | [],_,_,_,i,hi=>by simp at hi
 | j::l,[],h,_,_,_=>by simp at h
 | j::l,o::os,h,ht,i,hi=>by
  simp only[List.map_cons,List.cons.injEq] at h;rcases List.mem_cons.1 hi with rfl|hi
  .exact⟨o,h.1,ht.1⟩
  .exact ag7.get l os h.2 ht.2 i hi
theorem OTK.node {ops:Array Oper}{K:S->Prop}{n:Nat}{listed:Array Bool}{s:S}(l:List Nat){os:List Oper}(h:Region.ready .any ops listed=l)(hne:l≠[])(ho:l.map (λi=>ops[i]?)=os.map some)(ht:ag7 P E ops K n listed s l os):OTK P E ops K (n+1) listed s :=
 ⟨by rw[h];exact hne,λi hi=>ag7.get l os ho ht i (by rw[<- h];exact hi)⟩
theorem OTK.leaf {ops:Array Oper}{K:S->Prop}{listed:Array Bool}{s:S}(h:Region.ready .any ops listed=[])(hk:K s):OTK P E ops K 0 listed s:=⟨h,hk⟩
end
def Mem.Rh (M Mc N:Mem):Mem:=λid=>if (N id).isSome then N id else if (Mc id).isSome then Option.none else M id
section
variable {P:Program}{E:Env}{K:S->Prop}{s:S}{ty:Nat}{pos:String}{after:Array Edge}
theorem After.Rh {F F' : Hp} {w w' : World} {M Mc N : Mem} (h : wP F M w) (hc : ∀ id blk, Mc id = some blk -> M id = some blk) (ha : After F Mc w F' N w') : After F M w F' (M.Rh Mc N) w' := by
  have sub:∀ k,jS Mc k->jS M k:=λk ⟨id,blk,hm,ho⟩=>⟨id,blk,hc id blk hm,ho⟩;have part:∀ id blk,(M.Rh Mc N) id=some blk->N id=some blk \/ (Mc id=Option.none/\M id=some blk):=λid blk hm=>by
    unfold Mem.Rh at hm;cases hq:N id with
    | some b=>simp[hq] at hm;exact .inl (by rw[<- hm])
    | none =>
      simp only[hq,Option.isSome_none,Bool.false_eq_true,if_false] at hm;cases hp:Mc id with
      | some b=>simp[hp] at hm
      | none=>simp[hp] at hm;exact .inr ⟨rfl,hm⟩
  have far:∀ id blk k,Mc id=Option.none->M id=some blk->blk.owns k->k<w.heap.size/\¬ jS Mc k:=λid blk k hn hm ho =>
    ⟨(h.own id blk hm).lt ho, λ⟨id', jJ, hm', ho'⟩ => by
      have:=h.inj id id' _ _ k hm (hc id' jJ hm') ho ho';subst this;rw[hn] at hm';cases hm'⟩
  refine⟨ha.grow.mono sub,ha.le,⟨ha.iF.uD,λid blk hm=>?_,λid blk k hm ho=>?_,λi j bi bj k hi hj hoi hoj=>?_⟩,λk p q=>(ha.new k p q).imp (λz=>z) (sub k),λk ⟨id,blk,hm,ho⟩=>?_⟩
  · rcases part id blk hm with hm | ⟨hn, hm⟩
    · exact ha.iF.own id blk hm
    · exact (h.own id blk hm).keep ha.le λk ho=>let ⟨h1,h2⟩:=far id blk k hn hm ho;ha.grow.block k h1 h2
  · rcases part id blk hm with hm | ⟨hn, hm⟩
    · exact ha.iF.apart id blk k hm ho
    · obtain⟨h1, h2⟩:=far id blk k hn hm ho
      cases hf:F' k with
      | none=>rfl
      | some o =>
        rcases ha.new k (h.apart id blk k hm ho) (by rw[hf];simp) with h3|h3
        · omega
        · exact absurd h3 h2
  · rcases part i bi hi with hi | ⟨ni, hi⟩ <;> rcases part j bj hj with hj | ⟨nj, hj⟩
    · exact ha.iF.inj i j bi bj k hi hj hoi hoj
    · obtain⟨h1, h2⟩:=far j bj k nj hj hoj
      rcases ha.lN k ⟨i,bi,hi,hoi⟩ with h3|h3
      · omega
      · exact absurd h3 h2
    · obtain⟨h1, h2⟩:=far i bi k ni hi hoi
      rcases ha.lN k ⟨j,bj,hj,hoj⟩ with h3|h3
      · omega
      · exact absurd h3 h2
    · exact h.inj i j bi bj k hi hj hoi hoj
  · rcases part id blk hm with hm | ⟨hn, hm⟩
    · exact (ha.lN k ⟨id,blk,hm,ho⟩).imp (λz=>z) (sub k)
    · exact .inr ⟨id,blk,hm,ho⟩
theorem SO.aW0 {α:Type}{f:Operand}{args:Array Operand}{ats:Array TypeId}{nR:Nat}{caps args':List V}{Mc:Mem}{Mk:α->Mem}{res:α->V}{φ:α->Prop}{dst:Option Nat}{g:Option (Nat × Bool)}(hd:pR E.n dst)
  (hf:s.ev f=.fn nR caps) (ha:iy (args.toList.map s.ev++caps) args') (hc:∀ id blk,Mc id=some blk->s.M id=some blk) (hs:jv P nR args' Mc res Mk φ)
  (h:∀ x,φ x->K ((⟨s.ρ,s.M.Rh Mc (Mk x)⟩:S).put dst (res x))):SO P E ⟨dst,.call { callee:=.value f,args:=args,argTypes:=ats },ty,pos,after,g⟩ K s:=λF a w hr=>by
 have hf':=hr.eval f;rw[hf] at hf';generalize ZQ:a.eval f=af at hf';cases hf' with
 | @fn _ us _ hl hrr =>
  have hvs:lS F (args.toList.map a.eval++us) args':=qM (wQ (oJ hr.eval _) ⟨hl,hrr⟩) ha;have hcc:=hs.2 F w _ (FX hr.iF hc) hvs;unfold execOp;have e1:(args.map a.eval++us.toArray)=(args.toList.map a.eval++us).toArray:=by simp
  simp only[resolve,ZQ,Deferred.ofValue,Sem.run_bind,Sem.run_pure,Result.andThen_ok,invoke,Array.empty_append,e1,mF hs.1];refine hcc.mono λe2 w' ⟨x,hφ,v,F',he,hA,hv⟩=>⟨v,he,F',_,hr.qy (After.Rh hr.iF hc hA) hd hv,h x hφ⟩
