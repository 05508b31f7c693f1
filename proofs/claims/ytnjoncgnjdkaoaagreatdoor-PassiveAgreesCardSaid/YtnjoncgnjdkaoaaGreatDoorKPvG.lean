/-
  Walk of the automata out of plans (printed by mk2.py).
-/
import Derived.Test.YtnjoncgnjdkaoaaGreatDoorKPvF
set_option linter.unusedVariables false
set_option linter.unusedSimpArgs false
namespace Go.Proofs.YtnjoncgnjdkaoaaGreatDoor
open Go Go.AL
abbrev at6 (st sy:Int)(fw si:Bool)(Tp:List Int):V:=.ag [.d (dI st),.d (dI sy),.d (dB fw),.d (dB si),.d (ints Tp)]
abbrev at7 (q:Rat):List V:=[.d (dB (fZ q).neg),.d (aH (fZ q).num),.d (aH (fZ q).den),.d (dI 0),.d (dB false),.d (dU 0),.d (.sl []),.d (.sl [])]
def IA (S N:Nat)(x:bH):Prop:=x.f<N/\x.t<N/\1<=x.l/\x.l<=S/\IB 1 24 x.q
theorem RS {x y z:V}(h:x=y)(k:bG y z):bG x z:=h ▸ k
theorem aa0 {M:Mem}{k:Nat}{a b:iE}:M.over (mem1 k a) (mem1 k b)=upd M k (some b):=by
 funext j;unfold Mem.over mem1 upd;by_cases h:j=k
 .simp[h]
 .simp[h]
theorem IC {s0:S}{val:Nat->(Nat->Nat × Nat)->V}{own:Nat->Option Nat}{mf:(Nat->Nat × Nat)->Array Bool->Mem}{β:Nat->Nat × Nat}{L:Array Bool}{d i k:Nat}{a b:iE}(h:own d=some i)(hu:∀ t,own t=some i->t=d)(hi:i<L.size)(hm:mf β (L.setIfInBounds i true)=upd (mf β L) k (some b)) :
  ((⟨(pG s0 val own mf β L).ρ,(pG s0 val own mf β L).M.over (mem1 k a) (mem1 k b)⟩:S).put (some d) (val d β))=pG s0 val own mf β (L.setIfInBounds i true):=by
 have e:=Wi (s0:=s0) (val:=val) (own:=own) (L:=L) (blk:=λ_ _=>none) (β:=β) h hu hi rfl;rw[aa0];unfold pG;rw[<- e,hm];rfl
theorem Qz:bG (.ag [.d (dI 1),.mt]) l7:=bG.ag (.cons vR (.cons bG.mt .nil))
theorem YF {p:Rat->Prop}{l:List Rat}{x:Rat}(h:∀ q,q ∈ l->p q)(hx:p x):∀ q,q ∈ l++[x]->p q:=λq hq=>by
 rcases ul hq with k|k
 .exact h q k
 .rw[lW k];exact hx
theorem YG {S N:Nat}{l:List bH}{x:bH}(h:∀ y,y ∈ l->IA S N y)(hx:IA S N x):∀ y,y ∈ l++[x]->IA S N y:=λq hq=>by
 rcases ul hq with k|k
 .exact h q k
 .rw[lW k];exact hx
def YH:Nat->Option Nat
 | 108=>some 0
 | 109=>some 1
 | 110=>some 2
 | 111=>some 3
 | 112=>some 4
 | 113=>some 5
 | 114=>some 6
 | 115=>some 7
 | 116=>some 8
 | 117=>some 9
 | 118=>some 10
 | 119=>some 11
 | 120=>some 12
 | 121=>some 13
 | 122=>some 14
 | 123=>some 15
 | 124=>some 16
 | 13=>some 17
 | _=>none
theorem iK {t i:Nat}(h:YH t=some i):t=[108,109,110,111,112,113,114,115,116,117,118,119,120,121,122,123,124,13].getD i 0:=by
 unfold YH at h
 split at h <;> first|(cases h;rfl)|cases h
noncomputable def bh2 (Tp:List Int)(a b8 b19 S N f l tt:Nat)(t:Nat)(β:Nat->Nat × Nat):V :=
 match t with
 | 108|112|117|122=>.ptr 1000 b19 0
 | 109|118=>.ptr 8 b8 3
 | 110|119=>.d (dI N)
 | 111=>.d (dI f)
 | 113=>.ptr 8 b8 2
 | 114=>.d (dI S)
 | 115=>.d (dI ((l:Int)-1))
 | 116=>.d (dI l)
 | 120=>.d (dI tt)
 | 121=>.d (dI 1)
 | 123=>vW (zV Tp (jF Tp (jF Tp (jF Tp a))))
 | 124=>Ib ⟨f,l,tt,zV Tp (jF Tp (jF Tp (jF Tp a)))⟩
 | 13=>.ptr 13 (β 13).1 0
 | _=>.junk
noncomputable abbrev Vl (Tp:List Int)(a b8 b19 S N f l tt:Nat):List Ko:=[⟨13,17,λβ=>.box (β 13).1 T.pO [.d (dI 0),.d (dI 0),.d (dI 0),.d (dB false),.mt,.mt,.d (dI 0),.d (dB false),.d (dU 0),.mt,.mt]⟩,⟨1000,15,λβ=>qB b19 Tp (wz Tp (jF Tp (jF Tp (jF Tp a))))⟩,⟨1000,12,λβ=>qB b19 Tp (jF Tp (jF Tp (jF Tp a)))⟩,⟨1000,7,λβ=>qB b19 Tp (jF Tp (jF Tp a))⟩,⟨1000,3,λβ=>qB b19 Tp (jF Tp a)⟩]
theorem bh3 {p:Nat->Prop}(h0:p 0)(h1:p 1)(h2:p 2)(h3:p 3)(h4:p 4)(h5:p 5)(h6:p 6)(h7:p 7)(h8:p 8)(h9:p 9)(h10:p 10)(h11:p 11)(h12:p 12)(h13:p 13)(Bf:p 14)(h15:p 15)(h16:p 16)(h17:p 17):∀ i,i<18->p i:=λi hi=>by
 have:i=0 \/ i=1 \/ i=2 \/ i=3 \/ i=4 \/ i=5 \/ i=6 \/ i=7 \/ i=8 \/ i=9 \/ i=10 \/ i=11 \/ i=12 \/ i=13 \/ i=14 \/ i=15 \/ i=16 \/ i=17:=by omega
 rcases this with rfl|rfl|rfl|rfl|rfl|rfl|rfl|rfl|rfl|rfl|rfl|rfl|rfl|rfl|rfl|rfl|rfl|rfl <;> assumption
set_option maxRecDepth 16000 in
set_option maxHeartbeats 12800000 in
theorem au0 {st sy : Int} {fw si : Bool} {Tp : List Int} {most : Nat} (hm : 1 <= most /\ most <= 6) (nL : Tp.length <= 9223372036854775807) : jw P F.uq [at6 st sy fw si Tp, .d (dI 1), .d (dI most)] jO (λa : Au => zL a) (λ_ => jO) (λa => Pla a (1 + within sy 3).toNat most) := by
 obtain⟨S,hS⟩:∃ S:Nat,1+within sy 3=(S:Int):=⟨_,(Int.toNat_of_nonneg (by have:=(kR (v:=sy) (m:=3) (by decide)).1;omega)).symm⟩
 have hsr:=kR (v:=sy) (m:=3) (by decide)
 obtain⟨N,hN⟩:∃ N:Nat,within st ((most+1:Nat):Int)=(N:Int):=⟨_,(Int.toNat_of_nonneg (kR (by omega)).1).symm⟩
 have hnr:=kR (v:=st) (m:=((most+1:Nat):Int)) (by omega)
 refine jw.intro fn.uq (by rfl) (by rfl) (aB (by rfl)) λE hE=>(AW.sg hE rfl (iI rfl rfl λb3=>(al z.Auto rfl λb6=>(OL.nil (AW.sg hE rfl (aW fd.aP3 rfl rfl (aG ce.ints rfl rfl rfl ?_)))))))
 refine bd z.Tape pl.Tape (cs:=[_,_]) rfl (iI rfl rfl λb19=>(asP rfl (OL.nil (AW.seq (AW.dg 1 [0,1,2,3,4,5,6,7,8,9,10,11,12,13] ay hE rfl (by kernel_rfl) (OI.aK (os:=[_,_,_,_,_,_,_,_,_,_,_,_,_,_]) rfl ?_))))))
 refine ai rfl (bd z.Ring pl.Ring (cs:=[_,_]) rfl (aW fd.Wl rfl rfl (aG ce.int rfl rfl rfl (bJ rfl .iq (jg (v:=sy) (m:=3) (by decide)) (bo rfl rfl (jB (c:=(S:Int)) (by omega) (wrap_i64 (by omega))) (aW fd.aP1 rfl rfl (aG ce.int rfl rfl rfl ?_)))))))
 refine ai rfl (bo rfl rfl (jB (c:=((most+1:Nat):Int)) (by omega) (wrap_i64 (by omega))) (bJ rfl .iq (jg (v:=st) (m:=((most+1:Nat):Int)) (by omega)) ?_))
 rw[hN];refine VX (cs:=[_,_,_,_,_,_,_]) z.Auto pl.Auto (ve (by exact evA rfl) (ve (by exact DV rfl) (ve (by exact DV rfl) (VW)))) (by rfl) (al z.Auto rfl λb8=>(eH sz.Auto rfl rfl rfl rfl rfl (aB rfl) (cells2:=[_,_,_,_,_,_,_]) rfl (OL.nil (AW.seq (AW.sg hE rfl (aF rfl (OL.nil ?_)))))))
 refine AW.block (AW.rename 19 1000 rfl (AW.xQ 79 T.aA 8 rfl (AW.xQ 84 T.aA 8 rfl (AW.xO 8 [.d (dI 1),.mt,.d (dI S),.d (dI N),.bF 79 0 0 0,.bF 84 0 0 0,.mt] rfl (.cons vR (.cons vR (.cons vR (.cons vR (.cons oL (.cons oL .bZ)))))) ?_))));refine AW.aV (α:=Nat × Nat × List Rat × List Rat × Nat × Nat × Nat × Nat) [(1,_),(3,_),(6,_),(8,_)] [(3,_),(6,_)] (λ(i,a,I,J,b1,c1,b2,c2)=>[(7,.ptr 1000 b19 0),(9,.d (dI i))]) (λ(i,a,I,J,b1,c1,b2,c2)=>[(8,.box b8 T.Auto [.d (dI 1),.mt,.d (dI S),.d (dI N),.bF 79 b1 i c1,.bF 84 b2 i c2,.mt]),(79,.row b1 c1 T.aA 8 (I.map dW)),(84,.row b2 c2 T.aA 8 (J.map dW)),(1000,qB b19 Tp a)]) (λ(i,a,I,J,b1,c1,b2,c2)=>i<=N/\I.length=i/\J.length=i/\(∀ q,q ∈ I->IB 1 24 q)/\∀ q,q ∈ J->IB 1 24 q) (λ(i,a,I,J,b1,c1,b2,c2)=>N-i) (0,0,[],[],0,0,0,0) (.cons (bK rfl) (.cons (gB rfl) (.cons (gB rfl) (.cons (gB rfl) .nil)))) (.cons (iR rfl) (.cons (iR rfl) .nil)) ⟨⟨Nat.zero_le _,rfl,rfl,λq h=>(by cases h),λq h=>by cases h⟩,.cons (bG.ptr) .bZ,.cons rfl (.cons rfl (.cons rfl (.cons rfl .nil)))⟩ ?_
 rintro⟨i,a,I,J,b1,c1,b2,c2⟩ ⟨h1,h2,h3,h4,h5⟩
 have h1:i<=N:=h1;have h2:I.length=i:=h2;have h3:J.length=i:=h3;have h4:∀ q,q ∈ I->IB 1 24 q:=h4;have h5:∀ q,q ∈ J->IB 1 24 q:=h5;refine AW.seq (AW.sg hE rfl (ai rfl (aW fd.mF rfl rfl (aG ce.int rfl rfl rfl (aY rfl rfl rfl (OL.nil (AW.cond rfl (λh35=>?_) (λh35=>?_))))))))
 .try simp only[dX] at h35
  refine AW.skip (AW.seq (AW.block (AW.sg hE rfl (ai rfl (Aa rfl (OL.tH (v:=vW (zV Tp a)) (.mk (args':=[.d (dI 1),.ptr 1000 b19 0]) rfl (.cons vR (.cons vR (.nil))) (dh (id:=1000) (blk:=qB b19 Tp a) rfl) iT (EN nL)) (ai rfl ?_)))))));refine Aa rfl (OL.tH (v:=vW (zV Tp (wz Tp a))) (.mk (args':=[.d (dI 1),.ptr 1000 b19 0]) rfl (.cons vR (.cons vR (.nil))) (dh (id:=1000) (blk:=qB b19 Tp (wz Tp a)) rfl) iT (EN nL)) (al z.aA rfl λb10=>(al z.aA rfl λb11=>(eH sz.aA rfl rfl rfl rfl rfl (aB rfl) (cells2:=[_,_,_,_,_,_,_,_]) rfl (eH sz.aA rfl rfl rfl rfl rfl (aB rfl) (cells2:=[_,_,_,_,_,_,_,_]) rfl (OL.nil ?_))))));refine AW.J7 (α:=Rat) [(1,_),(3,_),(6,_),(7,_),(8,_),(9,_),(10,_),(11,_)] [(3,_),(6,_),(8,_),(11,_),(79,_),(84,_)] (λx=>[]) (λx=>[(10,.box b10 T.aA (at7 x)),(1000,qB b19 Tp (jF Tp (wz Tp (wz Tp a))))]) (λx=>IB 1 24 x) (.cons (bK rfl) (.cons (gB rfl) (.cons (gB rfl) (.cons (gB rfl) (.cons (gB rfl) (.cons (bK rfl) (.cons (gB rfl) (.cons (gB rfl) .nil)))))))) (.cons (iR rfl) (.cons (iR rfl) (.cons (iR rfl) (.cons (iR rfl) (.cons (lg rfl) (.cons (lg rfl) .nil)))))) ?_ ?_
  .refine AW.J7 (α:=Bool) [(1,_),(3,_),(6,_),(7,_),(8,_),(9,_),(10,_),(11,_)] [(3,_),(6,_),(8,_),(10,_),(11,_),(79,_),(84,_)] (λbb=>[(58,.d (dB bb))]) (λbb=>[(1000,qB b19 Tp (jF Tp (wz Tp (wz Tp a))))]) (λbb=>True) (.cons (bK rfl) (.cons (gB rfl) (.cons (gB rfl) (.cons (gB rfl) (.cons (gB rfl) (.cons (bK rfl) (.cons (gB rfl) (.cons (gB rfl) .nil)))))))) (.cons (iR rfl) (.cons (iR rfl) (.cons (iR rfl) (.cons (iR rfl) (.cons (iR rfl) (.cons (lg rfl) (.cons (lg rfl) .nil))))))) ?_ ?_
   .refine AW.rg hE rfl (Aa rfl ?_);refine OL.tH (v:=.d (dI (wF Tp (wz Tp (wz Tp a)) 2))) (.mk (args':=[.ptr 1000 b19 0,.d (dI 2)]) rfl (.cons vR (.cons vR (.nil))) (dh (id:=1000) (blk:=qB b19 Tp (wz Tp (wz Tp a))) rfl) iT (xe (by decide) nL)) ?_
    refine dR rfl rfl rfl (ai rfl (OL.split 47 rfl (λg47=>?_) (λg47=>?_)))
    .try simp only[dX] at g47
     refine OL.yes rfl (ai rfl (OL.yes rfl (iO rfl rfl rfl (oC rfl rfl (ai rfl (OL.split 51 rfl (λg51=>?_) (λg51=>?_)))))))
     .try simp only[dX] at g51
      refine OL.nd rfl (OL.nd rfl (OL.nd rfl (OL.nd rfl (OL.nd rfl (OL.nd rfl (oC rfl rfl (OL.nil ?_)))))));exact AW.reach _ ⟨trivial,Knows.app .Si .bZ,dw.app (.cons rfl (.cons rfl (.cons rfl (.cons rfl (.cons rfl (.cons rfl (.cons rfl .nil))))))) (.cons rfl .nil)⟩
     .try simp only[dX] at g51
      refine OL.yes rfl (aW fd.Wn rfl rfl (OL.yes rfl (aG ce.bool rfl rfl rfl (OL.yes rfl (ai rfl (OL.split 54 rfl (λg54=>?_) (λg54=>?_)))))))
      .try simp only[dX] at g54
       refine OL.yes rfl (ai rfl (OL.yes rfl (iO rfl rfl rfl (OL.yes rfl (oC rfl rfl (kL rfl rfl (OL.nil ?_)))))));exact AW.reach _ ⟨trivial,Knows.app .Si .bZ,dw.app (.cons rfl (.cons rfl (.cons rfl (.cons rfl (.cons rfl (.cons rfl (.cons rfl .nil))))))) (.cons rfl .nil)⟩
      .try simp only[dX] at g54
       refine OL.nd rfl (OL.nd rfl (OL.yes rfl (kL rfl rfl (kL rfl rfl (OL.nil ?_)))));exact AW.reach _ ⟨trivial,Knows.app .Si .bZ,dw.app (.cons rfl (.cons rfl (.cons rfl (.cons rfl (.cons rfl (.cons rfl (.cons rfl .nil))))))) (.cons rfl .nil)⟩
    .try simp only[dX] at g47
     refine OL.nd rfl (OL.nd rfl (kL rfl rfl (ai rfl (OL.yes rfl (aW fd.Wn rfl rfl (OL.yes rfl (aG ce.bool rfl rfl rfl ?_)))))));refine OL.yes rfl (ai rfl (OL.split 54 rfl (λg54=>?_) (λg54=>?_)))
     .try simp only[dX] at g54
      refine OL.yes rfl (ai rfl (OL.yes rfl (iO rfl rfl rfl (OL.yes rfl (oC rfl rfl (kL rfl rfl (OL.nil ?_)))))));exact AW.reach _ ⟨trivial,Knows.app .Si .bZ,dw.app (.cons rfl (.cons rfl (.cons rfl (.cons rfl (.cons rfl (.cons rfl (.cons rfl .nil))))))) (.cons rfl .nil)⟩
     .try simp only[dX] at g54
      refine OL.nd rfl (OL.nd rfl (OL.yes rfl (kL rfl rfl (kL rfl rfl (OL.nil ?_)))));exact AW.reach _ ⟨trivial,Knows.app .Si .bZ,dw.app (.cons rfl (.cons rfl (.cons rfl (.cons rfl (.cons rfl (.cons rfl (.cons rfl .nil))))))) (.cons rfl .nil)⟩
   intro bb _;refine AW.cond rfl (λhx=>?_) (λhx=>?_)
   .have _hx:=hx;refine AW.rg hE rfl (aW fd.iZ rfl rfl (aO ag.Ring rfl rfl (vs:=[_,_]) rfl (aB rfl) (bJ rfl (.cons Qz .nil) Ol (eH sz.aA rfl rfl rfl rfl rfl (aB rfl) (cells2:=[_,_,_,_,_,_,_,_]) rfl (OL.nil ?_)))));exact AW.reach 0 ⟨IB.zero,Knows.app .Si (.nil),dw.app (.cons rfl (.cons rfl (.cons rfl (.cons rfl (.cons rfl (.cons rfl .nil)))))) (.cons rfl (.cons rfl .nil))⟩
   .have _hx:=hx;refine AW.skip ?_;exact AW.reach (zV Tp a) ⟨KQ Tp a,Knows.app .Si (.nil),dw.app (.cons rfl (.cons rfl (.cons rfl (.cons rfl (.cons rfl (.cons rfl .nil)))))) (.cons rfl (.cons rfl .nil))⟩
  intro x hx9;refine AW.J7 (α:=Rat) [(1,_),(3,_),(6,_),(7,_),(8,_),(9,_),(10,_),(11,_)] [(3,_),(6,_),(8,_),(10,_),(79,_),(84,_)] (λy=>[]) (λy=>[(11,.box b11 T.aA (at7 y)),(1000,qB b19 Tp (jF Tp (jF Tp (wz Tp (wz Tp a)))))]) (λy=>IB 1 24 y) (.cons (bK rfl) (.cons (gB rfl) (.cons (gB rfl) (.cons (gB rfl) (.cons (gB rfl) (.cons (bK rfl) (.cons (gB rfl) (.cons (gB rfl) .nil)))))))) (.cons (iR rfl) (.cons (iR rfl) (.cons (iR rfl) (.cons (iR rfl) (.cons (lg rfl) (.cons (lg rfl) .nil)))))) ?_ ?_
  .refine AW.J7 (α:=Bool) [(1,_),(3,_),(6,_),(7,_),(8,_),(9,_),(10,_),(11,_)] [(3,_),(6,_),(8,_),(10,_),(11,_),(79,_),(84,_)] (λbb=>[(71,.d (dB bb))]) (λbb=>[(1000,qB b19 Tp (jF Tp (jF Tp (wz Tp (wz Tp a)))))]) (λbb=>True) (.cons (bK rfl) (.cons (gB rfl) (.cons (gB rfl) (.cons (gB rfl) (.cons (gB rfl) (.cons (bK rfl) (.cons (gB rfl) (.cons (gB rfl) .nil)))))))) (.cons (iR rfl) (.cons (iR rfl) (.cons (iR rfl) (.cons (iR rfl) (.cons (iR rfl) (.cons (lg rfl) (.cons (lg rfl) .nil))))))) ?_ ?_
   .refine AW.rg hE rfl (Aa rfl ?_);refine OL.tH (v:=.d (dI (wF Tp (jF Tp (wz Tp (wz Tp a))) 2))) (.mk (args':=[.ptr 1000 b19 0,.d (dI 2)]) rfl (.cons vR (.cons vR (.nil))) (dh (id:=1000) (blk:=qB b19 Tp (jF Tp (wz Tp (wz Tp a)))) rfl) iT (xe (by decide) nL)) ?_
    refine dR rfl rfl rfl (ai rfl (OL.split 65 rfl (λg65=>?_) (λg65=>?_)))
    .try simp only[dX] at g65
     refine OL.yes rfl (ai rfl (OL.yes rfl (aW fd.mF rfl rfl (OL.yes rfl (aG ce.int rfl rfl rfl (OL.yes rfl (bo rfl rfl (lQ (c:=(N:Int)-1) rfl (wrap_i64 (by omega))) ?_)))))))
     refine OL.yes rfl (aY rfl rfl rfl (oC rfl rfl (OL.nil ?_)));exact AW.reach _ ⟨trivial,Knows.app .Si .bZ,dw.app (.cons rfl (.cons rfl (.cons rfl (.cons rfl (.cons rfl (.cons rfl (.cons rfl .nil))))))) (.cons rfl .nil)⟩
    .try simp only[dX] at g65
     refine OL.nd rfl (OL.nd rfl (OL.nd rfl (OL.nd rfl (OL.nd rfl (kL rfl rfl (OL.nil ?_))))));exact AW.reach _ ⟨trivial,Knows.app .Si .bZ,dw.app (.cons rfl (.cons rfl (.cons rfl (.cons rfl (.cons rfl (.cons rfl (.cons rfl .nil))))))) (.cons rfl .nil)⟩
   intro bb _;refine AW.cond rfl (λhx=>?_) (λhx=>?_)
   .have _hx:=hx;refine AW.rg hE rfl (aW fd.iZ rfl rfl (aO ag.Ring rfl rfl (vs:=[_,_]) rfl (aB rfl) (bJ rfl (.cons Qz .nil) Ol (eH sz.aA rfl rfl rfl rfl rfl (aB rfl) (cells2:=[_,_,_,_,_,_,_,_]) rfl (OL.nil ?_)))));exact AW.reach 0 ⟨IB.zero,Knows.app .Si (.nil),dw.app (.cons rfl (.cons rfl (.cons rfl (.cons rfl (.cons rfl (.cons rfl .nil)))))) (.cons rfl (.cons rfl .nil))⟩
   .have _hx:=hx;refine AW.skip ?_;exact AW.reach (zV Tp (wz Tp a)) ⟨KQ Tp (wz Tp a),Knows.app .Si (.nil),dw.app (.cons rfl (.cons rfl (.cons rfl (.cons rfl (.cons rfl (.cons rfl .nil)))))) (.cons rfl (.cons rfl .nil))⟩
  intro y hy9;refine AW.dg 2 [0,1,2,3,5,6,7,8,4,10,9,11,12,13] ay hE rfl (by kernel_rfl) (OI.aK (os:=[_,_,_,_,_,_,_,_,_,_,_,_,_,_]) rfl ?_)
  refine aW fd.vV rfl rfl (aG ce.aU rfl rfl rfl (aO ag.aA rfl rfl (vs:=[_,_,_,_,_,_,_,_]) rfl (aB rfl) (zX (y:=dW x) sl.aU Nu rfl (by decide) (aW fd.wR rfl rfl (aG ce.aU rfl rfl rfl (aO ag.aA rfl rfl (vs:=[_,_,_,_,_,_,_,_]) rfl (aB rfl) (zX (y:=dW y) sl.aU Nu rfl (by decide) ?_)))))))
  refine Ce sl.aU rfl rfl rfl (by rw[dJ];omega) (VC.d _) (λy hy=>by rw[lW hy];rfl) (by simp only[oU];omega) (by simp only[oU];omega) (.inr rfl) (ys:=(I++[x]).map dW) (by rw[List.map_append];rfl) (n2:=i+1) (by simp only[oU]) λb79 c79=>?_
  refine aW fd.vV rfl rfl ?_;refine Ce sl.aU rfl rfl rfl (by rw[dJ];omega) (VC.d _) (λy hy=>by rw[lW hy];rfl) (by simp only[oU];omega) (by simp only[oU];omega) (.inr rfl) (ys:=(J++[y]).map dW) (by rw[List.map_append];rfl) (n2:=i+1) (by simp only[oU]) λb84 c84=>?_
  refine eH sz.aU rfl rfl rfl rfl rfl (aB rfl) (cells2:=[_,_,_,_,_,_,_]) rfl (aW fd.wR rfl rfl (eH sz.aU rfl rfl rfl rfl rfl (aB rfl) (cells2:=[_,_,_,_,_,_,_]) rfl (OL.nil (AW.rg hE rfl (ai rfl (aI rfl rfl (by omega) (aF rfl ?_)))))))
  refine OL.nil ?_;exact AW.again (x:=(i,a,I,J,b1,c1,b2,c2)) (i+1,(jF Tp (jF Tp (wz Tp (wz Tp a)))),I++[x],J++[y],b79,c79,b84,c84) (by (simp only[];omega)) ⟨⟨by omega,by rw[jG,oU];omega,by rw[jG,oU];omega,YF h4 hx9,YF h5 hy9⟩,Knows.app .Jz .iq,dw.app (.cons rfl (.cons rfl .nil)) (.cons rfl (.cons rfl (.cons rfl (.cons rfl .nil))))⟩
 .try simp only[dX] at h35
  refine AW.exit ?_;obtain rfl:N=i:=by omega
  refine AW.xQ 182 T.pO 11 rfl (AW.xO 8 [.d (dI 1),.mt,.d (dI S),.d (dI N),.bF 79 b1 N c1,.bF 84 b2 N c2,.bF 182 0 0 0] rfl (.cons vR (.cons vR (.cons vR (.cons vR (.cons vR (.cons vR (.cons oL .nil))))))) ?_);refine AW.J7 (α:=List bH × Nat × Nat) [(6,_),(8,_)] [(6,_),(79,_),(84,_)] (λ(A,b3,c3)=>[]) (λ(A,b3,c3)=>[(8,.box b8 T.Auto [.d (dI 1),.mt,.d (dI S),.d (dI N),.bF 79 b1 N c1,.bF 84 b2 N c2,.bF 182 b3 A.length c3]),(182,.row b3 c3 T.pO 11 (A.map jy))]) (λ(A,b3,c3)=>A.length<=14/\∀ x,x ∈ A->IA S N x) (.cons (gB rfl) (.cons (gB rfl) .nil)) (.cons (iR rfl) (.cons (lg rfl) (.cons (lg rfl) .nil))) ?_ ?_
  .refine AW.sg hE rfl (aF rfl (OL.nil (AW.block ?_)));refine AW.aV (α:=Nat × Nat × List bH × Nat × Nat) [(1,_),(3,_),(6,_),(7,_),(8,_)] [(3,_),(6,_),(79,_),(84,_)] (λ(i,a,A,b3,c3)=>[(12,.d (dI i))]) (λ(i,a,A,b3,c3)=>[(8,.box b8 T.Auto [.d (dI 1),.mt,.d (dI S),.d (dI N),.bF 79 b1 N c1,.bF 84 b2 N c2,.bF 182 b3 A.length c3]),(182,.row b3 c3 T.pO 11 (A.map jy)),(1000,qB b19 Tp a)]) (λ(i,a,A,b3,c3)=>i<=14/\A.length<=i/\∀ x,x ∈ A->IA S N x) (λ(i,a,A,b3,c3)=>14-i) (0,a,[],0,0) (.cons (bK rfl) (.cons (gB rfl) (.cons (gB rfl) (.cons (gB rfl) (.cons (gB rfl) .nil))))) (.cons (iR rfl) (.cons (iR rfl) (.cons (lg rfl) (.cons (lg rfl) .nil)))) ⟨⟨by decide,Nat.le_refl _,λx h=>by cases h⟩,.bZ,.cons rfl (.cons rfl (.cons rfl .nil))⟩ ?_
   rintro⟨i,a,A,b3,c3⟩ ⟨h6,h8,h9⟩
   have h6:i<=14:=h6;have h8:A.length<=i:=h8;have h9:∀ x,x ∈ A->IA S N x:=h9;refine AW.seq (AW.seq (AW.dg 1 [0,1,2,3,4,5,6,7,8,9,10,11,12,13,14,15,16,17,18] ay hE rfl (by kernel_rfl) (OI.aK (os:=[_,_,_,_,_,_,_,_,_,_,_,_,_,_,_,_,_,_,_]) rfl ?_)))
   refine Aa rfl (Gf rfl (aW fd.L6 rfl rfl (aG ce.int rfl rfl rfl (Aa rfl (Gf rfl (aW fd.Wp rfl rfl (aG ce.ints rfl rfl rfl ?_)))))));refine fJ sl.ints rfl rfl (aY rfl rfl rfl (ai rfl (OL.split 97 rfl (λha=>?_) (λha=>?_))))
   .have _ha := ha;refine OL.yes rfl (ai rfl (OL.yes rfl (aY rfl rfl rfl (oC rfl rfl (ai rfl (OL.split 101 rfl (λaH7=>?_) (λaH7=>?_)))))))
    .have aH7 : i < 14 := by have := lq aH7; omega
     refine OL.yes rfl (aW fd.mF rfl rfl (OL.yes rfl (aG ce.int rfl rfl rfl (OL.yes rfl (iO rfl rfl rfl (oC rfl rfl (OL.nil ?_)))))));refine AW.cond rfl (λhN1=>?_) (λhN1=>?_)
     .have hN1:0<N:=by have:=lq hN1;omega
      refine AW.skip (AW.seq (AW.block (AW.seq ?_)));obtain⟨f,hf⟩:∃ f:Nat,wF Tp a (N:Int)=(f:Int):=⟨_,(Int.toNat_of_nonneg (kV (by omega)).1).symm⟩
      obtain⟨l,hl⟩:∃ l:Nat,1+wF Tp (jF Tp a) (S:Int)=(l:Int):=⟨_,(Int.toNat_of_nonneg (by have:=(kV (L:=Tp) (a:=(jF Tp a)) (m:=(S:Int)) (by omega)).1;omega)).symm⟩
      obtain⟨t,ht⟩:∃ t:Nat,wF Tp (jF Tp (jF Tp a)) (N:Int)=(t:Int):=⟨_,(Int.toNat_of_nonneg (kV (by omega)).1).symm⟩
      have hfr:=kV (L:=Tp) (a:=a) (m:=(N:Int)) (by omega)
      have hlr:=kV (L:=Tp) (a:=(jF Tp a)) (m:=(S:Int)) (by omega)
      have htr:=kV (L:=Tp) (a:=(jF Tp (jF Tp a))) (m:=(N:Int)) (by omega)
      have hc1:=xe (L:=Tp) (a:=a) (b:=b19) (m:=(N:Int)) (by omega) nL
      have hc2:=xe (L:=Tp) (a:=(jF Tp a)) (b:=b19) (m:=(S:Int)) (by omega) nL
      have hc3:=xe (L:=Tp) (a:=(jF Tp (jF Tp a))) (b:=b19) (m:=(N:Int)) (by omega) nL
      rw[hf] at hc1;rw[show wF Tp (jF Tp a) (S:Int)=(l:Int)-1 by omega] at hc2
      rw[ht] at hc3;refine AW.rU (bh2 Tp a b8 b19 S N f l t) YH (Vl Tp a b8 b19 S N f l t) 18 ay (by rw[hE];rfl) (by rfl) (by kernel_rfl) (by kernel_rfl) ?_ ?_
      .refine bh3 ?_ ?_ ?_ ?_ ?_ ?_ ?_ ?_ ?_ ?_ ?_ ?_ ?_ ?_ ?_ ?_ ?_ ?_
       .exact λβ L c9=>⟨_,rfl,.inl (OG.aK (Aa (id:=1000) (b:=b19) (o:=0) ((bV rfl).trans rfl) ⟨β,di (d:=108) (i:=0) rfl (λt ht=>iK ht) (lt_size 19 c9.size rfl (by decide)) (aZ (lt_size 19 c9.size rfl (by decide)) (by rfl))⟩))⟩
       .exact λβ L c9=>⟨_,rfl,.inl (OG.aK (aW (b:=b8) (o:=0) (id:=8) fd.mF ((bV rfl).trans rfl) rfl ⟨β,di (d:=109) (i:=1) rfl (λt ht=>iK ht) (lt_size 19 c9.size rfl (by decide)) (aZ (lt_size 19 c9.size rfl (by decide)) (by rfl))⟩))⟩
       .exact λβ L c9=>⟨_,rfl,.inl (OG.aK (aG ce.int (bI rfl (aQ (j:=1) c9 (by kernel_rfl))) ((fP (ak (show (8:Nat)≠13 by decide) (ak (show (8:Nat)≠1000 by decide) (ak (show (8:Nat)≠1000 by decide) (ak (show (8:Nat)≠1000 by decide) (ak (show (8:Nat)≠1000 by decide) rfl)))))):_=some (.box b8 T.Auto [.d (dI 1),.mt,.d (dI S),.d (dI N),.bF 79 b1 N c1,.bF 84 b2 N c2,.bF 182 b3 A.length c3])) (v:=.d (dI N)) rfl ⟨β,di (d:=110) (i:=2) rfl (λt ht=>iK ht) (lt_size 19 c9.size rfl (by decide)) (aZ (lt_size 19 c9.size rfl (by decide)) (by rfl))⟩))⟩
       .exact λβ L c9=>⟨_,rfl,.inl (OG.aK (OL.tH (v:=.d (dI f)) (.mk (args':=[.ptr 1000 b19 0,.d (dI N)]) rfl (.cons (RS (bI rfl (aQ (j:=0) c9 (by kernel_rfl))) bG.ptr) (.cons (au (bI rfl (aQ (j:=2) c9 (by kernel_rfl)))) .nil)) (dh (id:=1000) (blk:=qB b19 Tp a) (fP (ak (show (1000:Nat)≠13 by decide) (nX (by exact gW c9 (by kernel_rfl)) (nX (by exact gW c9 (by kernel_rfl)) (nX (by exact gW c9 (by kernel_rfl)) (nX (by exact c9.no) rfl))))))) iT hc1) ⟨β,IC (mf:=CQ (Vl Tp a b8 b19 S N f l t) _) (d:=111) (i:=3) rfl (λt ht=>iK ht) (lt_size 19 c9.size rfl (by decide)) (lH (lt_size 19 c9.size rfl (by decide)) (show (17:Nat)≠3 by decide) (.inl (show (13:Nat)≠1000 by decide)) (by exact λ_=>rfl) (lH (lt_size 19 c9.size rfl (by decide)) (show (15:Nat)≠3 by decide) (.inr (gW c9 (by kernel_rfl))) (by exact λ_=>rfl) (lH (lt_size 19 c9.size rfl (by decide)) (show (12:Nat)≠3 by decide) (.inr (gW c9 (by kernel_rfl))) (by exact λ_=>rfl) (lH (lt_size 19 c9.size rfl (by decide)) (show (7:Nat)≠3 by decide) (.inr (gW c9 (by kernel_rfl))) (by exact λ_=>rfl) (o6 (lt_size 19 c9.size rfl (by decide)) rfl rfl rfl c9.no (by rfl) (λy hy=>absurd hy List.not_mem_nil))))))⟩))⟩
       .exact λβ L c9=>⟨_,rfl,.inl (OG.aK (Aa (id:=1000) (b:=b19) (o:=0) ((bV rfl).trans rfl) ⟨β,di (d:=112) (i:=4) rfl (λt ht=>iK ht) (lt_size 19 c9.size rfl (by decide)) (aZ (lt_size 19 c9.size rfl (by decide)) (by rfl))⟩))⟩
       .exact λβ L c9=>⟨_,rfl,.inl (OG.aK (aW (b:=b8) (o:=0) (id:=8) fd.qp ((bV rfl).trans rfl) rfl ⟨β,di (d:=113) (i:=5) rfl (λt ht=>iK ht) (lt_size 19 c9.size rfl (by decide)) (aZ (lt_size 19 c9.size rfl (by decide)) (by rfl))⟩))⟩
       .exact λβ L c9=>⟨_,rfl,.inl (OG.aK (aG ce.int (bI rfl (aQ (j:=5) c9 (by kernel_rfl))) ((fP (ak (show (8:Nat)≠13 by decide) (ak (show (8:Nat)≠1000 by decide) (ak (show (8:Nat)≠1000 by decide) (ak (show (8:Nat)≠1000 by decide) (ak (show (8:Nat)≠1000 by decide) rfl)))))):_=some (.box b8 T.Auto [.d (dI 1),.mt,.d (dI S),.d (dI N),.bF 79 b1 N c1,.bF 84 b2 N c2,.bF 182 b3 A.length c3])) (v:=.d (dI S)) rfl ⟨β,di (d:=114) (i:=6) rfl (λt ht=>iK ht) (lt_size 19 c9.size rfl (by decide)) (aZ (lt_size 19 c9.size rfl (by decide)) (by rfl))⟩))⟩
       .exact λβ L c9=>⟨_,rfl,.inl (OG.aK (OL.tH (v:=.d (dI ((l:Int)-1))) (.mk (args':=[.ptr 1000 b19 0,.d (dI S)]) rfl (.cons (RS (bI rfl (aQ (j:=4) c9 (by kernel_rfl))) bG.ptr) (.cons (au (bI rfl (aQ (j:=6) c9 (by kernel_rfl)))) .nil)) (dh (id:=1000) (blk:=qB b19 Tp (jF Tp a)) (fP (ak (show (1000:Nat)≠13 by decide) (nX (by exact gW c9 (by kernel_rfl)) (nX (by exact gW c9 (by kernel_rfl)) (nX (by exact c9.no) (uo (aQ (j:=3) c9 (by kernel_rfl)) rfl rfl))))))) iT hc2) ⟨β,IC (mf:=CQ (Vl Tp a b8 b19 S N f l t) _) (d:=115) (i:=7) rfl (λt ht=>iK ht) (lt_size 19 c9.size rfl (by decide)) (lH (lt_size 19 c9.size rfl (by decide)) (show (17:Nat)≠7 by decide) (.inl (show (13:Nat)≠1000 by decide)) (by exact λ_=>rfl) (lH (lt_size 19 c9.size rfl (by decide)) (show (15:Nat)≠7 by decide) (.inr (gW c9 (by kernel_rfl))) (by exact λ_=>rfl) (lH (lt_size 19 c9.size rfl (by decide)) (show (12:Nat)≠7 by decide) (.inr (gW c9 (by kernel_rfl))) (by exact λ_=>rfl) (o6 (lt_size 19 c9.size rfl (by decide)) rfl rfl rfl c9.no (by rfl) (List.forall_mem_cons.2 ⟨(λ_ hne=>absurd rfl hne),(λy hy=>absurd hy List.not_mem_nil)⟩)))))⟩))⟩
       .exact λβ L c9=>⟨_,rfl,.inl (OG.aK (bo rfl (bI rfl (aQ (j:=7) c9 (by kernel_rfl))) (jB (c:=(l:Int)) (by omega) (wrap_i64 (by omega))) ⟨β,di (d:=116) (i:=8) rfl (λt ht=>iK ht) (lt_size 19 c9.size rfl (by decide)) (aZ (lt_size 19 c9.size rfl (by decide)) (by rfl))⟩))⟩
       .exact λβ L c9=>⟨_,rfl,.inl (OG.aK (Aa (id:=1000) (b:=b19) (o:=0) ((bV rfl).trans rfl) ⟨β,di (d:=117) (i:=9) rfl (λt ht=>iK ht) (lt_size 19 c9.size rfl (by decide)) (aZ (lt_size 19 c9.size rfl (by decide)) (by rfl))⟩))⟩
       .exact λβ L c9=>⟨_,rfl,.inl (OG.aK (aW (b:=b8) (o:=0) (id:=8) fd.mF ((bV rfl).trans rfl) rfl ⟨β,di (d:=118) (i:=10) rfl (λt ht=>iK ht) (lt_size 19 c9.size rfl (by decide)) (aZ (lt_size 19 c9.size rfl (by decide)) (by rfl))⟩))⟩
       .exact λβ L c9=>⟨_,rfl,.inl (OG.aK (aG ce.int (bI rfl (aQ (j:=10) c9 (by kernel_rfl))) ((fP (ak (show (8:Nat)≠13 by decide) (ak (show (8:Nat)≠1000 by decide) (ak (show (8:Nat)≠1000 by decide) (ak (show (8:Nat)≠1000 by decide) (ak (show (8:Nat)≠1000 by decide) rfl)))))):_=some (.box b8 T.Auto [.d (dI 1),.mt,.d (dI S),.d (dI N),.bF 79 b1 N c1,.bF 84 b2 N c2,.bF 182 b3 A.length c3])) (v:=.d (dI N)) rfl ⟨β,di (d:=119) (i:=11) rfl (λt ht=>iK ht) (lt_size 19 c9.size rfl (by decide)) (aZ (lt_size 19 c9.size rfl (by decide)) (by rfl))⟩))⟩
       .exact λβ L c9=>⟨_,rfl,.inl (OG.aK (OL.tH (v:=.d (dI t)) (.mk (args':=[.ptr 1000 b19 0,.d (dI N)]) rfl (.cons (RS (bI rfl (aQ (j:=9) c9 (by kernel_rfl))) bG.ptr) (.cons (au (bI rfl (aQ (j:=11) c9 (by kernel_rfl)))) .nil)) (dh (id:=1000) (blk:=qB b19 Tp (jF Tp (jF Tp a))) (fP (ak (show (1000:Nat)≠13 by decide) (nX (by exact gW c9 (by kernel_rfl)) (nX (by exact c9.no) (uo (aQ (j:=7) c9 (by kernel_rfl)) rfl rfl)))))) iT hc3) ⟨β,IC (mf:=CQ (Vl Tp a b8 b19 S N f l t) _) (d:=120) (i:=12) rfl (λt ht=>iK ht) (lt_size 19 c9.size rfl (by decide)) (lH (lt_size 19 c9.size rfl (by decide)) (show (17:Nat)≠12 by decide) (.inl (show (13:Nat)≠1000 by decide)) (by exact λ_=>rfl) (lH (lt_size 19 c9.size rfl (by decide)) (show (15:Nat)≠12 by decide) (.inr (gW c9 (by kernel_rfl))) (by exact λ_=>rfl) (o6 (lt_size 19 c9.size rfl (by decide)) rfl rfl rfl c9.no (by rfl) (List.forall_mem_cons.2 ⟨(λ_ hne=>absurd rfl hne),(List.forall_mem_cons.2 ⟨(λ_ hne=>absurd rfl hne),(λy hy=>absurd hy List.not_mem_nil)⟩)⟩))))⟩))⟩
       .exact λβ L c9=>⟨_,rfl,.inl (OG.aK (ai (y:=dI 1) ((bV rfl).trans rfl) ⟨β,di (d:=121) (i:=13) rfl (λt ht=>iK ht) (lt_size 19 c9.size rfl (by decide)) (aZ (lt_size 19 c9.size rfl (by decide)) (by rfl))⟩))⟩
       .exact λβ L c9=>⟨_,rfl,.inl (OG.aK (Aa (id:=1000) (b:=b19) (o:=0) ((bV rfl).trans rfl) ⟨β,di (d:=122) (i:=14) rfl (λt ht=>iK ht) (lt_size 19 c9.size rfl (by decide)) (aZ (lt_size 19 c9.size rfl (by decide)) (by rfl))⟩))⟩
       .exact λβ L c9=>⟨_,rfl,.inl (OG.aK (OL.tH (v:=vW (zV Tp (jF Tp (jF Tp (jF Tp a))))) (.mk (args':=[.d (dI 1),.ptr 1000 b19 0]) rfl (.cons (au (bI rfl (aQ (j:=13) c9 (by kernel_rfl)))) (.cons (RS (bI rfl (aQ (j:=14) c9 (by kernel_rfl))) bG.ptr) .nil)) (dh (id:=1000) (blk:=qB b19 Tp (jF Tp (jF Tp (jF Tp a)))) (fP (ak (show (1000:Nat)≠13 by decide) (nX (by exact c9.no) (uo (aQ (j:=12) c9 (by kernel_rfl)) rfl rfl))))) iT (EN nL)) ⟨β,IC (mf:=CQ (Vl Tp a b8 b19 S N f l t) _) (d:=123) (i:=15) rfl (λt ht=>iK ht) (lt_size 19 c9.size rfl (by decide)) (lH (lt_size 19 c9.size rfl (by decide)) (show (17:Nat)≠15 by decide) (.inl (show (13:Nat)≠1000 by decide)) (by exact λ_=>rfl) (o6 (lt_size 19 c9.size rfl (by decide)) rfl rfl rfl c9.no (by rfl) (List.forall_mem_cons.2 ⟨(λ_ hne=>absurd rfl hne),(List.forall_mem_cons.2 ⟨(λ_ hne=>absurd rfl hne),(List.forall_mem_cons.2 ⟨(λ_ hne=>absurd rfl hne),(λy hy=>absurd hy List.not_mem_nil)⟩)⟩)⟩)))⟩))⟩
       .exact λβ L c9=>⟨_,rfl,.inl (OG.aK (VX (cs:=[_,_,_,_,_,_,_,_,_,_,_]) z.pO pl.pO (ve (bI rfl (aQ (j:=3) c9 (by kernel_rfl))) (ve (bI rfl (aQ (j:=8) c9 (by kernel_rfl))) (ve (bI rfl (aQ (j:=12) c9 (by kernel_rfl))) (ve (bI rfl (aQ (j:=15) c9 (by kernel_rfl))) VW)))) (by rfl) ⟨β,di (d:=124) (i:=16) rfl (λt ht=>iK ht) (lt_size 19 c9.size rfl (by decide)) (aZ (lt_size 19 c9.size rfl (by decide)) (by rfl))⟩))⟩
       .exact λβ L c9=>⟨_,rfl,.inl (OG.aK (al z.pO (fP (nX (by exact c9.no) (ak (show (13:Nat)≠1000 by decide) (ak (show (13:Nat)≠1000 by decide) (ak (show (13:Nat)≠1000 by decide) (ak (show (13:Nat)≠1000 by decide) rfl)))))) λb8=>⟨upd β 13 (b8,0),CP (d:=13) (i:=17) (x:=(b8,0)) rfl (λt ht=>iK ht) (lt_size 19 c9.size rfl (by decide)) rfl (o6 (lt_size 19 c9.size rfl (by decide)) rfl rfl rfl c9.no (by rfl) (List.forall_mem_cons.2 ⟨(by exact λ_ _=>rfl),(List.forall_mem_cons.2 ⟨(by exact λ_ _=>rfl),(List.forall_mem_cons.2 ⟨(by exact λ_ _=>rfl),(List.forall_mem_cons.2 ⟨(by exact λ_ _=>rfl),(λy hy=>absurd hy List.not_mem_nil)⟩)⟩)⟩)⟩)) (λt j ho hl=>by unfold YH at ho;split at ho <;> cases ho <;> first|rfl|(rw[c9.no] at hl;cases hl)|exact rV c9 (by kernel_rfl) hl)⟩))⟩
      refine λβ L c9 hA=>⟨_,rfl,.inl (OG.aK (eH sz.pO (bI rfl (hA 17 (by decide))) (bI rfl (hA 16 (by decide))) rfl ((fP (uo (hA 17 (by decide)) rfl rfl)):_=some (.box (β 13).1 T.pO [.d (dI 0),.d (dI 0),.d (dI 0),.d (dB false),.mt,.mt,.d (dI 0),.d (dB false),.d (dU 0),.mt,.mt])) rfl (aB rfl) (cells2:=[_,_,_,_,_,_,_,_,_,_,_]) rfl ?_))⟩
      refine OL.nil ?_;refine AW.to [(1,.d (dI 1)),(3,_),(6,_),(7,.ptr 1000 b19 0),(8,.ptr 8 b8 0),(12,.d (dI i)),(13,.ptr 13 (β 13).1 0)] [(3,_),(6,_),(8,.box b8 T.Auto [.d (dI 1),.mt,.d (dI S),.d (dI N),.bF 79 b1 N c1,.bF 84 b2 N c2,.bF 182 b3 A.length c3]),(79,.row b1 c1 T.aA 8 (I.map dW)),(84,.row b2 c2 T.aA 8 (J.map dW)),(182,.row b3 c3 T.pO 11 (A.map jy)),(1000,qB b19 Tp (wz Tp (jF Tp (jF Tp (jF Tp a))))),(13,.box (β 13).1 T.pO (lN ⟨f,l,t,zV Tp (jF Tp (jF Tp (jF Tp a)))⟩))] (.cons (au (jC ((bV rfl).trans rfl))) (.cons (au (jC ((bV rfl).trans rfl))) (.cons (au (jC ((bV rfl).trans rfl))) (.cons (au (jC ((bV rfl).trans rfl))) (.cons (au (jC ((bV rfl).trans rfl))) (.cons (au (jC ((bV rfl).trans rfl))) (.cons (au (jC (bI rfl (hA 17 (by decide))))) (.nil)))))))) (.cons (pY (by decide) (fP (ak (show (3:Nat)≠13 by decide) (ak (show (3:Nat)≠1000 by decide) (ak (show (3:Nat)≠1000 by decide) (ak (show (3:Nat)≠1000 by decide) (ak (show (3:Nat)≠1000 by decide) rfl))))))) (.cons (pY (by decide) (fP (ak (show (6:Nat)≠13 by decide) (ak (show (6:Nat)≠1000 by decide) (ak (show (6:Nat)≠1000 by decide) (ak (show (6:Nat)≠1000 by decide) (ak (show (6:Nat)≠1000 by decide) rfl))))))) (.cons (pY (by decide) (fP (ak (show (8:Nat)≠13 by decide) (ak (show (8:Nat)≠1000 by decide) (ak (show (8:Nat)≠1000 by decide) (ak (show (8:Nat)≠1000 by decide) (ak (show (8:Nat)≠1000 by decide) rfl))))))) (.cons (pY (by decide) (fP (ak (show (79:Nat)≠13 by decide) (ak (show (79:Nat)≠1000 by decide) (ak (show (79:Nat)≠1000 by decide) (ak (show (79:Nat)≠1000 by decide) (ak (show (79:Nat)≠1000 by decide) rfl))))))) (.cons (pY (by decide) (fP (ak (show (84:Nat)≠13 by decide) (ak (show (84:Nat)≠1000 by decide) (ak (show (84:Nat)≠1000 by decide) (ak (show (84:Nat)≠1000 by decide) (ak (show (84:Nat)≠1000 by decide) rfl))))))) (.cons (pY (by decide) (fP (ak (show (182:Nat)≠13 by decide) (ak (show (182:Nat)≠1000 by decide) (ak (show (182:Nat)≠1000 by decide) (ak (show (182:Nat)≠1000 by decide) (ak (show (182:Nat)≠1000 by decide) rfl))))))) (.cons (pY (by decide) (fP (ak (show (1000:Nat)≠13 by decide) (uo (hA 15 (by decide)) rfl rfl)))) (.cons XU (.nil))))))))) ?_
      generalize (β 13).1=b13;refine AW.J7 (α:=Nat × Nat) [(1,_),(3,_),(6,_),(7,_),(8,_),(12,_),(13,_)] [(3,_),(6,_),(8,_),(79,_),(84,_),(182,_),(1000,_)] (λ(f2,t2)=>[]) (λ(f2,t2)=>[(13,.box b13 T.pO (lN ⟨f2,l,t2,zV Tp (jF Tp (jF Tp (jF Tp a)))⟩))]) (λ(f2,t2)=>f2<N/\t2<N) (.cons (bK rfl) (.cons (gB rfl) (.cons (gB rfl) (.cons (gB rfl) (.cons (gB rfl) (.cons (bK rfl) (.cons (gB rfl) .nil))))))) (.cons (iR rfl) (.cons (iR rfl) (.cons (iR rfl) (.cons (lg rfl) (.cons (lg rfl) (.cons (lg rfl) (.cons (iR rfl) .nil))))))) ?_ ?_
      .refine AW.sg hE rfl (aW fd.aP2 rfl rfl (aG ce.bool rfl rfl rfl (OL.nil (AW.cond rfl (λhfw=>?_) (λhfw=>?_)))))
       .have _hfw:=hfw;refine AW.seq (AW.sg hE rfl (aW fd.zC rfl rfl (aG ce.int rfl rfl rfl (aW fd.zD rfl rfl (aG ce.int rfl rfl rfl (dR rfl rfl rfl (OL.nil ?_)))))));refine AW.cond rfl (λhq1=>?_) (λhq1=>?_)
        .have _hq1:=hq1;refine AW.exit (AW.rg hE rfl (ai rfl (aI rfl rfl (by omega) (aF rfl (OL.nil ?_)))))
         exact AW.again (x:=(i,a,A,b3,c3)) (i+1,wz Tp (jF Tp (jF Tp (jF Tp a))),A,b3,c3) (by (simp only[];omega)) ⟨⟨by omega,by omega,h9⟩,Knows.app .DR .bZ,dw.app (.cons rfl (.cons rfl (.cons rfl (.cons rfl .nil)))) (.cons rfl (.cons rfl (.cons rfl .nil)))⟩
        .have _hq1:=hq1;refine AW.skip (AW.sg hE rfl (aW fd.zC rfl rfl (aG ce.int rfl rfl rfl (aW fd.zD rfl rfl (aG ce.int rfl rfl rfl (iO rfl rfl rfl (OL.nil ?_)))))));refine AW.cond rfl (λhq2=>?_) (λhq2=>?_)
         .have _hq2:=hq2;refine AW.rg hE rfl (aW fd.zD rfl rfl (aG ce.int rfl rfl rfl (aW fd.zC rfl rfl (aG ce.int rfl rfl rfl (aW fd.zC rfl rfl (eH sz.int rfl rfl rfl rfl rfl (aB rfl) (cells2:=[_,_,_,_,_,_,_,_,_,_,_]) rfl (aW fd.zD rfl rfl ?_)))))));refine eH sz.int rfl rfl rfl rfl rfl (aB rfl) (cells2:=[_,_,_,_,_,_,_,_,_,_,_]) rfl (OL.nil ?_);exact AW.reach (t,f) ⟨⟨by omega,by omega⟩,Knows.app .rq7 (.nil),dw.app (.cons rfl (.cons rfl (.cons rfl (.cons rfl (.cons rfl (.cons rfl (.cons rfl .nil))))))) (.cons rfl .nil)⟩
         .have _hq2:=hq2;refine AW.skip ?_;exact AW.reach (f,t) ⟨⟨by omega,by omega⟩,Knows.app .rq7 (.nil),dw.app (.cons rfl (.cons rfl (.cons rfl (.cons rfl (.cons rfl (.cons rfl (.cons rfl .nil))))))) (.cons rfl .nil)⟩
       .have _hfw:=hfw;refine AW.skip ?_;exact AW.reach (f,t) ⟨⟨by omega,by omega⟩,Knows.app .rq7 (.nil),dw.app (.cons rfl (.cons rfl (.cons rfl (.cons rfl (.cons rfl (.cons rfl (.cons rfl .nil))))))) (.cons rfl .nil)⟩
      rintro⟨f2,t2⟩ hft
      have hft:f2<N/\t2<N:=hft;refine AW.sg hE rfl (aF rfl (OL.nil (AW.seq (AW.sg hE rfl (aF rfl (OL.nil (AW.block ?_)))))));refine AW.aV (α:=Nat × Bool) [(1,_),(3,_),(6,_),(7,_),(8,_),(12,_),(13,_)] [(3,_),(6,_),(8,_),(13,_),(79,_),(84,_),(182,_),(1000,_)] (λ(k,th)=>[(14,.d (dB th)),(15,.d (dI k))]) (λ(k,th)=>[]) (λ(k,th)=>k<=A.length) (λ(k,th)=>A.length-k) (0,false) (.cons (bK rfl) (.cons (gB rfl) (.cons (gB rfl) (.cons (gB rfl) (.cons (gB rfl) (.cons (bK rfl) (.cons (gB rfl) .nil))))))) (.cons (iR rfl) (.cons (iR rfl) (.cons (iR rfl) (.cons (iR rfl) (.cons (lg rfl) (.cons (lg rfl) (.cons (lg rfl) (.cons (iR rfl) .nil)))))))) ⟨Nat.zero_le _,.iq,.nil⟩ ?_
      rintro⟨k,th⟩ hk
      have hk:k<=A.length:=hk;refine AW.seq (AW.sg hE rfl (ai rfl (aW fd.jJ rfl rfl (aG ce.dH rfl rfl rfl (G5 sl.dH rfl rfl (aY rfl rfl rfl (OL.nil ?_)))))));refine AW.cond rfl (λaV2=>?_) (λaV2=>?_)
      .try simp only[dX] at aV2
       refine AW.skip (AW.seq (AW.block ?_));have hkA:k<A.length:=by omega
       refine AW.dg 1 [0,1,2,3,4,5,6,7,8,9,10,11,12,13,14,15,16,17,18,19,20,21,22,23] ay hE rfl (by kernel_rfl) (OI.aK (os:=[_,_,_,_,_,_,_,_,_,_,_,_,_,_,_,_,_,_,_,_,_,_,_,_]) rfl ?_)
       refine ai rfl (ai rfl (OL.split 151 rfl (λaV3=>?_) (λaV3=>?_)))
       .try simp only[dX] at aV3
        refine OL.nd rfl (OL.nd rfl (OL.nd rfl (OL.nd rfl (OL.nd rfl (OL.nd rfl (OL.nd rfl (OL.nd rfl ?_)))))));refine OL.nd rfl (OL.nd rfl (OL.nd rfl (OL.nd rfl (OL.nd rfl (OL.nd rfl (OL.nd rfl (OL.nd rfl ?_)))))));refine OL.nd rfl (OL.nd rfl (OL.nd rfl (OL.nd rfl (oC rfl rfl (aF rfl (OL.nil (AW.rg hE rfl ?_)))))));refine ai rfl (aI rfl rfl (by omega) (aF rfl (OL.nil ?_)))
        exact AW.again (x:=(k,th)) (k+1,_) (by (simp only[];omega)) ⟨by omega,Knows.app .rq7 .iq,dw.app (.cons rfl (.cons rfl (.cons rfl (.cons rfl (.cons rfl (.cons rfl (.cons rfl (.cons rfl .nil)))))))) (.nil)⟩
       .try simp only[dX] at aV3
        refine OL.yes rfl (aW fd.jJ rfl rfl (OL.yes rfl (aG ce.dH rfl rfl rfl (OL.yes rfl (ai rfl (OL.yes rfl (iM sl.dH rfl rfl (by omega) ?_)))))))
        refine OL.yes rfl (faE fd.zC rfl rfl (OL.yes rfl (aN5 ce.int (by decide) rfl rfl (oQ (l:=A) (i:=k) hkA) (d:=dI (A.getD k default).f) rfl (OL.yes rfl (aW fd.zC rfl rfl (OL.yes rfl (aG ce.int rfl rfl rfl ?_)))))))
        refine OL.yes rfl (dR rfl rfl rfl (OL.yes rfl (ai rfl (OL.split 161 rfl (λaV4=>?_) (λaV4=>?_)))))
        .try simp only[dX] at aV4
         refine OL.yes rfl (aW fd.jJ rfl rfl (OL.yes rfl (aG ce.dH rfl rfl rfl (OL.yes rfl (ai rfl (OL.yes rfl (iM sl.dH rfl rfl (by omega) ?_)))))))
         refine OL.yes rfl (faE fd.AY rfl rfl (OL.yes rfl (aN5 ce.int (by decide) rfl rfl (oQ (l:=A) (i:=k) hkA) (d:=dI (A.getD k default).l) rfl (OL.yes rfl (aW fd.AY rfl rfl (OL.yes rfl (aG ce.int rfl rfl rfl ?_)))))))
         refine OL.yes rfl (dR rfl rfl rfl (OL.yes rfl (oC rfl rfl (kL rfl rfl (aF rfl (OL.nil (AW.rg hE rfl ?_)))))));refine ai rfl (aI rfl rfl (by omega) (aF rfl (OL.nil ?_)))
         exact AW.again (x:=(k,th)) (k+1,_) (by (simp only[];omega)) ⟨by omega,Knows.app .rq7 .iq,dw.app (.cons rfl (.cons rfl (.cons rfl (.cons rfl (.cons rfl (.cons rfl (.cons rfl (.cons rfl .nil)))))))) (.nil)⟩
        .try simp only[dX] at aV4
         refine OL.nd rfl (OL.nd rfl (OL.nd rfl (OL.nd rfl (OL.nd rfl (OL.nd rfl (OL.nd rfl (OL.nd rfl ?_)))))));refine OL.nd rfl (OL.yes rfl (kL rfl rfl (kL rfl rfl (aF rfl (OL.nil (AW.rg hE rfl (ai rfl ?_)))))));refine aI rfl rfl (by omega) (aF rfl (OL.nil ?_))
         exact AW.again (x:=(k,th)) (k+1,_) (by (simp only[];omega)) ⟨by omega,Knows.app .rq7 .iq,dw.app (.cons rfl (.cons rfl (.cons rfl (.cons rfl (.cons rfl (.cons rfl (.cons rfl (.cons rfl .nil)))))))) (.nil)⟩
      .try simp only[dX] at aV2
       refine AW.exit (AW.seq (AW.sg hE rfl (aW fd.Wn rfl rfl (aG ce.bool rfl rfl rfl (ai rfl (OL.split 175 rfl (λaV5=>?_) (λaV5=>?_)))))))
       .try simp only[dX] at aV5
        refine OL.yes rfl (ai rfl (oC rfl rfl (OL.nil (AW.cond rfl (λhth=>?_) (λhth=>?_)))))
        .have _hth:=hth;refine AW.exit (AW.rg hE rfl (ai rfl (aI rfl rfl (by omega) (aF rfl (OL.nil ?_)))))
         exact AW.again (x:=(i,a,A,b3,c3)) (i+1,wz Tp (jF Tp (jF Tp (jF Tp a))),A,b3,c3) (by (simp only[];omega)) ⟨⟨by omega,by omega,h9⟩,Knows.app .DR .bZ,dw.app (.cons rfl (.cons rfl (.cons rfl (.cons rfl .nil)))) (.cons rfl (.cons rfl (.cons rfl .nil)))⟩
        .have _hth:=hth;refine AW.skip (AW.rg hE rfl (aW fd.jJ rfl rfl (aG ce.dH rfl rfl rfl (aO ag.pO rfl rfl (vs:=[_,_,_,_,_,_,_,_,_,_,_]) rfl (aB rfl) (zX (y:=jy (⟨f2,l,t2,zV Tp (jF Tp (jF Tp (jF Tp a)))⟩:bH)) sl.dH (Bg (x:=⟨f2,l,t2,zV Tp (jF Tp (jF Tp (jF Tp a)))⟩)) rfl (by decide) ?_)))))
         refine Ce sl.dH rfl rfl rfl (by rw[dJ]) (VC.d _) (λy hy=>by rw[lW hy];rfl) (by simp only[oU];omega) (by simp only[oU];omega) (.inr rfl) (ys:=(A++[(⟨f2,l,t2,zV Tp (jF Tp (jF Tp (jF Tp a)))⟩:bH)]).map jy) (by rw[List.map_append];rfl) (n2:=(A++[(⟨f2,l,t2,zV Tp (jF Tp (jF Tp (jF Tp a)))⟩:bH)]).length) (by rw[jG];rfl) λaV6 c182=>?_
         refine aW fd.jJ rfl rfl (eH sz.dH rfl rfl rfl rfl rfl (aB rfl) (cells2:=[_,_,_,_,_,_,_]) rfl (OL.nil (AW.rg hE rfl (ai rfl (aI rfl rfl (by omega) (aF rfl (OL.nil ?_)))))))
         exact AW.again (x:=(i,a,A,b3,c3)) (i+1,wz Tp (jF Tp (jF Tp (jF Tp a))),A++[⟨f2,l,t2,zV Tp (jF Tp (jF Tp (jF Tp a)))⟩],aV6,c182) (by (simp only[];omega)) ⟨⟨by omega,by rw[jG,oU];omega,YG h9 (show IA S N ⟨f2,l,t2,zV Tp (jF Tp (jF Tp (jF Tp a)))⟩ from ⟨hft.1,hft.2,(show 1<=l by omega),(show l<=S by omega),KQ _ _⟩)⟩,Knows.app .DR .bZ,dw.app (.cons rfl (.cons rfl (.cons rfl (.cons rfl .nil)))) (.cons rfl (.cons rfl (.cons rfl .nil)))⟩
       .try simp only[dX] at aV5
        refine OL.nd rfl (kL rfl rfl (OL.nil (qW rfl ?_)));refine AW.skip (AW.rg hE rfl (aW fd.jJ rfl rfl (aG ce.dH rfl rfl rfl (aO ag.pO rfl rfl (vs:=[_,_,_,_,_,_,_,_,_,_,_]) rfl (aB rfl) (zX (y:=jy (⟨f2,l,t2,zV Tp (jF Tp (jF Tp (jF Tp a)))⟩:bH)) sl.dH (Bg (x:=⟨f2,l,t2,zV Tp (jF Tp (jF Tp (jF Tp a)))⟩)) rfl (by decide) ?_)))))
        refine Ce sl.dH rfl rfl rfl (by rw[dJ]) (VC.d _) (λy hy=>by rw[lW hy];rfl) (by simp only[oU];omega) (by simp only[oU];omega) (.inr rfl) (ys:=(A++[(⟨f2,l,t2,zV Tp (jF Tp (jF Tp (jF Tp a)))⟩:bH)]).map jy) (by rw[List.map_append];rfl) (n2:=(A++[(⟨f2,l,t2,zV Tp (jF Tp (jF Tp (jF Tp a)))⟩:bH)]).length) (by rw[jG];rfl) λaV6 c182=>?_
        refine aW fd.jJ rfl rfl (eH sz.dH rfl rfl rfl rfl rfl (aB rfl) (cells2:=[_,_,_,_,_,_,_]) rfl (OL.nil (AW.rg hE rfl (ai rfl (aI rfl rfl (by omega) (aF rfl (OL.nil ?_)))))))
        exact AW.again (x:=(i,a,A,b3,c3)) (i+1,wz Tp (jF Tp (jF Tp (jF Tp a))),A++[⟨f2,l,t2,zV Tp (jF Tp (jF Tp (jF Tp a)))⟩],aV6,c182) (by (simp only[];omega)) ⟨⟨by omega,by rw[jG,oU];omega,YG h9 (show IA S N ⟨f2,l,t2,zV Tp (jF Tp (jF Tp (jF Tp a)))⟩ from ⟨hft.1,hft.2,(show 1<=l by omega),(show l<=S by omega),KQ _ _⟩)⟩,Knows.app .DR .bZ,dw.app (.cons rfl (.cons rfl (.cons rfl (.cons rfl .nil)))) (.cons rfl (.cons rfl (.cons rfl .nil)))⟩
     .have _hN1:=hN1;exact AW.exit (AW.reach (A,b3,c3) ⟨⟨by omega,h9⟩,Knows.app .iq (.nil),dw.app (.cons rfl (.cons rfl (.cons rfl .nil))) (.cons rfl (.cons rfl .nil))⟩)
    .have _hi:=aH7;refine OL.nd rfl (OL.nd rfl (OL.nd rfl (kL rfl rfl (OL.nil (qW rfl ?_)))));exact AW.exit (AW.reach (A,b3,c3) ⟨⟨by omega,h9⟩,Knows.app .iq (.nil),dw.app (.cons rfl (.cons rfl (.cons rfl .nil))) (.cons rfl (.cons rfl .nil))⟩)
   .have _ha:=ha;refine OL.nd rfl (OL.nd rfl (kL rfl rfl (ai rfl (OL.nd rfl (OL.nd rfl (OL.nd rfl (kL rfl rfl ?_)))))));refine OL.nil (qW rfl ?_);exact AW.exit (AW.reach (A,b3,c3) ⟨⟨by omega,h9⟩,Knows.app .iq (.nil),dw.app (.cons rfl (.cons rfl (.cons rfl .nil))) (.cons rfl (.cons rfl .nil))⟩)
  rintro⟨A,b3,c3⟩ ⟨h8,h9⟩
  have h8:A.length<=14:=h8;have h9:∀ x,x ∈ A->IA S N x:=h9;refine AW.seq ?_;refine AW.freeze 79 rfl (AW.xO 8 [.d (dI 1),.d (.sl []),.d (dI S),.d (dI N),.d (wG I),.bF 84 b2 N c2,.bF 182 b3 A.length c3] rfl (.cons vR (.cons bG.mt (.cons vR (.cons vR (.cons (dL (by rw[dJ];omega) rfl) .iq))))) ?_)
  refine AW.freeze 84 rfl (AW.xO 8 [.d (dI 1),.d (.sl []),.d (dI S),.d (dI N),.d (wG I),.d (wG J),.bF 182 b3 A.length c3] rfl (.cons vR (.cons vR (.cons vR (.cons vR (.cons vR (.cons (dL (by rw[dJ];omega) rfl) .bZ)))))) ?_)
  refine AW.freeze 182 rfl (AW.xO 8 [.d (dI 1),.d (.sl []),.d (dI S),.d (dI N),.d (wG I),.d (wG J),.d (oI A)] rfl (.cons vR (.cons vR (.cons vR (.cons vR (.cons vR (.cons vR (.cons (dL (by rw[dJ]) rfl) .nil))))))) ?_)
  refine AW.rg hE rfl (aO ag.Auto rfl rfl (vs:=[_,_,_,_,_,_,_]) rfl (aB rfl) (eH sz.Auto rfl rfl rfl rfl rfl (aB rfl) (cells2:=[_,_,_,_,_,_,_]) rfl (OL.nil ?_)));exact AW.ret ⟨⟨S,N,I,J,A⟩,⟨⟨(show 1<=S by omega),h2,h3,λx hx=>⟨(h9 x hx).1,(h9 x hx).2.1,(h9 x hx).2.2.1,(h9 x hx).2.2.2.1⟩⟩,(by show S=_;omega),by omega,(by show N<=most;omega),h4,h5,λx hx=>(h9 x hx).2.2.2.2,h8⟩,⟨_,.dV rfl rfl ag.Auto (aB rfl) .nil,.le vR⟩,λ_ _ h=>by cases h⟩
