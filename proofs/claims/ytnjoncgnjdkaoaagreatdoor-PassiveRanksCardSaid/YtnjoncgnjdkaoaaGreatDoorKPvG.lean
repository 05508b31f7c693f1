/-
  Walk of the automata out of plans (printed by mk2.py).
-/
import Derived.Test.YtnjoncgnjdkaoaaGreatDoorKPvF
set_option linter.unusedVariables false
set_option linter.unusedSimpArgs false
namespace Go.Proofs.YtnjoncgnjdkaoaaGreatDoor
open Go Go.AL
abbrev ap6 (st sy:Int)(fw si:Bool)(Tp:List Int):V:=.ag [.d (dI st),.d (dI sy),.d (dB fw),.d (dB si),.d (ints Tp)]
abbrev ap7 (q:Rat):List V:=[.d (dB (fP q).neg),.d (aF (fP q).num),.d (aF (fP q).den),.d (dI 0),.d (dB false),.d (dU 0),.d (.sl []),.d (.sl [])]
def Ik (S N:Nat)(x:bD):Prop:=x.f<N/\x.t<N/\1<=x.l/\x.l<=S/\IB 1 24 x.q
theorem RG {x y z:V}(h:x=y)(k:bG y z):bG x z:=h ▸ k
theorem ZM {M:Mem}{k:Nat}{a b:iF}:M.over (mem1 k a) (mem1 k b)=upd M k (some b):=by
 funext j;unfold Mem.over mem1 upd;by_cases h:j=k
 .simp[h]
 .simp[h]
theorem Il {s0:S}{val:Nat->(Nat->Nat × Nat)->V}{own:Nat->Option Nat}{mf:(Nat->Nat × Nat)->Array Bool->Mem}{β:Nat->Nat × Nat}{L:Array Bool}{d i k:Nat}{a b:iF}(h:own d=some i)(hu:∀ t,own t=some i->t=d)(hi:i<L.size)(hm:mf β (L.setIfInBounds i true)=upd (mf β L) k (some b)) :
  ((⟨(pG s0 val own mf β L).ρ,(pG s0 val own mf β L).M.over (mem1 k a) (mem1 k b)⟩:S).put (some d) (val d β))=pG s0 val own mf β (L.setIfInBounds i true):=by
 have e:=VW (s0:=s0) (val:=val) (own:=own) (L:=L) (blk:=λ_ _=>none) (β:=β) h hu hi rfl;rw[ZM];unfold pG;rw[<- e,hm];rfl
theorem Qm:bG (.ag [.d (dI 1),.mt]) lN:=bG.ag (.cons vR (.cons bG.mt .nil))
theorem Yl {p:Rat->Prop}{l:List Rat}{x:Rat}(h:∀ q,q ∈ l->p q)(hx:p x):∀ q,q ∈ l++[x]->p q:=λq hq=>by
 rcases rD hq with k|k
 .exact h q k
 .rw[kJ k];exact hx
theorem Ym {S N:Nat}{l:List bD}{x:bD}(h:∀ y,y ∈ l->Ik S N y)(hx:Ik S N x):∀ y,y ∈ l++[x]->Ik S N y:=λq hq=>by
 rcases rD hq with k|k
 .exact h q k
 .rw[kJ k];exact hx
def Yn:Nat->Option Nat
 | 108=>some 0
 | 109=>some 1
 | 110=>some 2
 | 111=>some 3
 | 112=>some 4
 | 113=>some 5
 | 114=>some 6
 | 115=>some 7
 | 116=>some 8
 | 117=>some 9
 | 118=>some 10
 | 119=>some 11
 | 120=>some 12
 | 121=>some 13
 | 122=>some 14
 | 123=>some 15
 | 124=>some 16
 | 13=>some 17
 | _=>none
theorem iC {t i:Nat}(h:Yn t=some i):t=[108,109,110,111,112,113,114,115,116,117,118,119,120,121,122,123,124,13].getD i 0:=by
 unfold Yn at h
 split at h <;> first|(cases h;rfl)|cases h
noncomputable def a81 (Tp:List Int)(a b8 b19 S N f l tt:Nat)(t:Nat)(β:Nat->Nat × Nat):V :=
 match t with
 | 108|112|117|122=>.ptr 1000 b19 0
 | 109|118=>.ptr 8 b8 3
 | 110|119=>.d (dI N)
 | 111=>.d (dI f)
 | 113=>.ptr 8 b8 2
 | 114=>.d (dI S)
 | 115=>.d (dI ((l:Int)-1))
 | 116=>.d (dI l)
 | 120=>.d (dI tt)
 | 121=>.d (dI 1)
 | 123=>vW (zk Tp (jl Tp (jl Tp (jl Tp a))))
 | 124=>Hu ⟨f,l,tt,zk Tp (jl Tp (jl Tp (jl Tp a)))⟩
 | 13=>.ptr 13 (β 13).1 0
 | _=>.junk
noncomputable abbrev U7 (Tp:List Int)(a b8 b19 S N f l tt:Nat):List Og:=[⟨13,17,λβ=>.box (β 13).1 T.ny [.d (dI 0),.d (dI 0),.d (dI 0),.d (dB false),.mt,.mt,.d (dI 0),.d (dB false),.d (dU 0),.mt,.mt]⟩,⟨1000,15,λβ=>o8 b19 Tp (vz Tp (jl Tp (jl Tp (jl Tp a))))⟩,⟨1000,12,λβ=>o8 b19 Tp (jl Tp (jl Tp (jl Tp a)))⟩,⟨1000,7,λβ=>o8 b19 Tp (jl Tp (jl Tp a))⟩,⟨1000,3,λβ=>o8 b19 Tp (jl Tp a)⟩]
theorem a88 {p:Nat->Prop}(h0:p 0)(h1:p 1)(h2:p 2)(h3:p 3)(h4:p 4)(h5:p 5)(h6:p 6)(h7:p 7)(h8:p 8)(h9:p 9)(h10:p 10)(h11:p 11)(h12:p 12)(h13:p 13)(EQ:p 14)(h15:p 15)(h16:p 16)(h17:p 17):∀ i,i<18->p i:=λi hi=>by
 have:i=0 \/ i=1 \/ i=2 \/ i=3 \/ i=4 \/ i=5 \/ i=6 \/ i=7 \/ i=8 \/ i=9 \/ i=10 \/ i=11 \/ i=12 \/ i=13 \/ i=14 \/ i=15 \/ i=16 \/ i=17:=by omega
 rcases this with rfl|rfl|rfl|rfl|rfl|rfl|rfl|rfl|rfl|rfl|rfl|rfl|rfl|rfl|rfl|rfl|rfl|rfl <;> assumption
set_option maxRecDepth 16000 in
set_option maxHeartbeats 12800000 in
theorem ap8 {st sy : Int} {fw si : Bool} {Tp : List Int} {most : Nat} (hm : 1 <= most /\ most <= 6) (nL : Tp.length <= 9223372036854775807) : rJ P F.sU [ap6 st sy fw si Tp, .d (dI 1), .d (dI most)] jM (λa : Au => zG a) (λ_ => jM) (λa => Pla a (1 + within sy 3).toNat most) := by
 obtain⟨S,hS⟩:∃ S:Nat,1+within sy 3=(S:Int):=⟨_,(Int.toNat_of_nonneg (by have:=(lZ (v:=sy) (m:=3) (by decide)).1;omega)).symm⟩
 have hsr:=lZ (v:=sy) (m:=3) (by decide)
 obtain⟨N,hN⟩:∃ N:Nat,within st ((most+1:Nat):Int)=(N:Int):=⟨_,(Int.toNat_of_nonneg (lZ (by omega)).1).symm⟩
 have hnr:=lZ (v:=st) (m:=((most+1:Nat):Int)) (by omega)
 refine rJ.intro fn.sU (by rfl) (by rfl) (aA (by rfl)) λE hE=>(AW.sg hE rfl (gW rfl rfl λb3=>(al z.Auto rfl λb6=>(OL.nil (AW.sg hE rfl (aV fd.aL6 rfl rfl (aG ce.ints rfl rfl rfl ?_)))))))
 refine bd z.Tape pl.Tape (cs:=[_,_]) rfl (gW rfl rfl λb19=>(asP rfl (OL.nil (AW.seq (AW.dg 1 [0,1,2,3,4,5,6,7,8,9,10,11,12,13] au hE rfl (by kernel_rfl) (OI.aS (os:=[_,_,_,_,_,_,_,_,_,_,_,_,_,_]) rfl ?_))))))
 refine ai rfl (bd z.Ring pl.Ring (cs:=[_,_]) rfl (aV fd.VX rfl rfl (aG ce.int rfl rfl rfl (bF rfl .gy (jA (v:=sy) (m:=3) (by decide)) (bo rfl rfl (kM (c:=(S:Int)) (by omega) (wrap_i64 (by omega))) (aV fd.aL4 rfl rfl (aG ce.int rfl rfl rfl ?_)))))))
 refine ai rfl (bo rfl rfl (kM (c:=((most+1:Nat):Int)) (by omega) (wrap_i64 (by omega))) (bF rfl .gy (jA (v:=st) (m:=((most+1:Nat):Int)) (by omega)) ?_))
 rw[hN];refine Vk (cs:=[_,_,_,_,_,_,_]) z.Auto pl.Auto (rG (by exact evA rfl) (rG (by exact zC rfl) (rG (by exact zC rfl) (Vj)))) (by rfl) (al z.Auto rfl λb8=>(fG sz.Auto rfl rfl rfl rfl rfl (aA rfl) (cells2:=[_,_,_,_,_,_,_]) rfl (OL.nil (AW.seq (AW.sg hE rfl (aC rfl (OL.nil ?_)))))))
 refine AW.block (AW.rename 19 1000 rfl (AW.AX 79 T.ak 8 rfl (AW.AX 84 T.ak 8 rfl (AW.DX 8 [.d (dI 1),.mt,.d (dI S),.d (dI N),.bH 79 0 0 0,.bH 84 0 0 0,.mt] rfl (.cons vR (.cons vR (.cons vR (.cons vR (.cons qQ (.cons qQ .di)))))) ?_))));refine AW.aU (α:=Nat × Nat × List Rat × List Rat × Nat × Nat × Nat × Nat) [(1,_),(3,_),(6,_),(8,_)] [(3,_),(6,_)] (λ(i,a,I,J,b1,c1,b2,c2)=>[(7,.ptr 1000 b19 0),(9,.d (dI i))]) (λ(i,a,I,J,b1,c1,b2,c2)=>[(8,.box b8 T.Auto [.d (dI 1),.mt,.d (dI S),.d (dI N),.bH 79 b1 i c1,.bH 84 b2 i c2,.mt]),(79,.row b1 c1 T.ak 8 (I.map dW)),(84,.row b2 c2 T.ak 8 (J.map dW)),(1000,o8 b19 Tp a)]) (λ(i,a,I,J,b1,c1,b2,c2)=>i<=N/\I.length=i/\J.length=i/\(∀ q,q ∈ I->IB 1 24 q)/\∀ q,q ∈ J->IB 1 24 q) (λ(i,a,I,J,b1,c1,b2,c2)=>N-i) (0,0,[],[],0,0,0,0) (.cons (bY rfl) (.cons (iJ rfl) (.cons (iJ rfl) (.cons (iJ rfl) .nil)))) (.cons (kC rfl) (.cons (kC rfl) .nil)) ⟨⟨Nat.zero_le _,rfl,rfl,λq h=>(by cases h),λq h=>by cases h⟩,.cons (bG.ptr) .di,.cons rfl (.cons rfl (.cons rfl (.cons rfl .nil)))⟩ ?_
 rintro⟨i,a,I,J,b1,c1,b2,c2⟩ ⟨h1,h2,h3,h4,h5⟩
 have h1:i<=N:=h1;have h2:I.length=i:=h2;have h3:J.length=i:=h3;have h4:∀ q,q ∈ I->IB 1 24 q:=h4;have h5:∀ q,q ∈ J->IB 1 24 q:=h5;refine AW.seq (AW.sg hE rfl (ai rfl (aV fd.jW rfl rfl (aG ce.int rfl rfl rfl (aX rfl rfl rfl (OL.nil (AW.cond rfl (λh35=>?_) (λh35=>?_))))))))
 .try simp only[eG] at h35
  refine AW.skip (AW.seq (AW.block (AW.sg hE rfl (ai rfl (DL rfl (OL.rV (v:=vW (zk Tp a)) (.mk (args':=[.d (dI 1),.ptr 1000 b19 0]) rfl (.cons vR (.cons vR (.nil))) (bP (id:=1000) (blk:=o8 b19 Tp a) rfl) iK (Ew nL)) (ai rfl ?_)))))));refine DL rfl (OL.rV (v:=vW (zk Tp (vz Tp a))) (.mk (args':=[.d (dI 1),.ptr 1000 b19 0]) rfl (.cons vR (.cons vR (.nil))) (bP (id:=1000) (blk:=o8 b19 Tp (vz Tp a)) rfl) iK (Ew nL)) (al z.ak rfl λb10=>(al z.ak rfl λb11=>(fG sz.ak rfl rfl rfl rfl rfl (aA rfl) (cells2:=[_,_,_,_,_,_,_,_]) rfl (fG sz.ak rfl rfl rfl rfl rfl (aA rfl) (cells2:=[_,_,_,_,_,_,_,_]) rfl (OL.nil ?_))))));refine AW.JU (α:=Rat) [(1,_),(3,_),(6,_),(7,_),(8,_),(9,_),(10,_),(11,_)] [(3,_),(6,_),(8,_),(11,_),(79,_),(84,_)] (λx=>[]) (λx=>[(10,.box b10 T.ak (ap7 x)),(1000,o8 b19 Tp (jl Tp (vz Tp (vz Tp a))))]) (λx=>IB 1 24 x) (.cons (bY rfl) (.cons (iJ rfl) (.cons (iJ rfl) (.cons (iJ rfl) (.cons (iJ rfl) (.cons (bY rfl) (.cons (iJ rfl) (.cons (iJ rfl) .nil)))))))) (.cons (kC rfl) (.cons (kC rfl) (.cons (kC rfl) (.cons (kC rfl) (.cons (rY rfl) (.cons (rY rfl) .nil)))))) ?_ ?_
  .refine AW.JU (α:=Bool) [(1,_),(3,_),(6,_),(7,_),(8,_),(9,_),(10,_),(11,_)] [(3,_),(6,_),(8,_),(10,_),(11,_),(79,_),(84,_)] (λbb=>[(58,.d (dB bb))]) (λbb=>[(1000,o8 b19 Tp (jl Tp (vz Tp (vz Tp a))))]) (λbb=>True) (.cons (bY rfl) (.cons (iJ rfl) (.cons (iJ rfl) (.cons (iJ rfl) (.cons (iJ rfl) (.cons (bY rfl) (.cons (iJ rfl) (.cons (iJ rfl) .nil)))))))) (.cons (kC rfl) (.cons (kC rfl) (.cons (kC rfl) (.cons (kC rfl) (.cons (kC rfl) (.cons (rY rfl) (.cons (rY rfl) .nil))))))) ?_ ?_
   .refine AW.rg hE rfl (DL rfl ?_);refine OL.rV (v:=.d (dI (vG Tp (vz Tp (vz Tp a)) 2))) (.mk (args':=[.ptr 1000 b19 0,.d (dI 2)]) rfl (.cons vR (.cons vR (.nil))) (bP (id:=1000) (blk:=o8 b19 Tp (vz Tp (vz Tp a))) rfl) iK (wB (by decide) nL)) ?_
    refine dG rfl rfl rfl (ai rfl (OL.split 47 rfl (λg47=>?_) (λg47=>?_)))
    .try simp only[eG] at g47
     refine OL.yes rfl (ai rfl (OL.yes rfl (gV rfl rfl rfl (lJ rfl rfl (ai rfl (OL.split 51 rfl (λg51=>?_) (λg51=>?_)))))))
     .try simp only[eG] at g51
      refine OL.nd rfl (OL.nd rfl (OL.nd rfl (OL.nd rfl (OL.nd rfl (OL.nd rfl (lJ rfl rfl (OL.nil ?_)))))));exact AW.reach _ ⟨trivial,Knows.app .SI .di,dw.app (.cons rfl (.cons rfl (.cons rfl (.cons rfl (.cons rfl (.cons rfl (.cons rfl .nil))))))) (.cons rfl .nil)⟩
     .try simp only[eG] at g51
      refine OL.yes rfl (aV fd.VY rfl rfl (OL.yes rfl (aG ce.bool rfl rfl rfl (OL.yes rfl (ai rfl (OL.split 54 rfl (λg54=>?_) (λg54=>?_)))))))
      .try simp only[eG] at g54
       refine OL.yes rfl (ai rfl (OL.yes rfl (gV rfl rfl rfl (OL.yes rfl (lJ rfl rfl (jZ rfl rfl (OL.nil ?_)))))));exact AW.reach _ ⟨trivial,Knows.app .SI .di,dw.app (.cons rfl (.cons rfl (.cons rfl (.cons rfl (.cons rfl (.cons rfl (.cons rfl .nil))))))) (.cons rfl .nil)⟩
      .try simp only[eG] at g54
       refine OL.nd rfl (OL.nd rfl (OL.yes rfl (jZ rfl rfl (jZ rfl rfl (OL.nil ?_)))));exact AW.reach _ ⟨trivial,Knows.app .SI .di,dw.app (.cons rfl (.cons rfl (.cons rfl (.cons rfl (.cons rfl (.cons rfl (.cons rfl .nil))))))) (.cons rfl .nil)⟩
    .try simp only[eG] at g47
     refine OL.nd rfl (OL.nd rfl (jZ rfl rfl (ai rfl (OL.yes rfl (aV fd.VY rfl rfl (OL.yes rfl (aG ce.bool rfl rfl rfl ?_)))))));refine OL.yes rfl (ai rfl (OL.split 54 rfl (λg54=>?_) (λg54=>?_)))
     .try simp only[eG] at g54
      refine OL.yes rfl (ai rfl (OL.yes rfl (gV rfl rfl rfl (OL.yes rfl (lJ rfl rfl (jZ rfl rfl (OL.nil ?_)))))));exact AW.reach _ ⟨trivial,Knows.app .SI .di,dw.app (.cons rfl (.cons rfl (.cons rfl (.cons rfl (.cons rfl (.cons rfl (.cons rfl .nil))))))) (.cons rfl .nil)⟩
     .try simp only[eG] at g54
      refine OL.nd rfl (OL.nd rfl (OL.yes rfl (jZ rfl rfl (jZ rfl rfl (OL.nil ?_)))));exact AW.reach _ ⟨trivial,Knows.app .SI .di,dw.app (.cons rfl (.cons rfl (.cons rfl (.cons rfl (.cons rfl (.cons rfl (.cons rfl .nil))))))) (.cons rfl .nil)⟩
   intro bb _;refine AW.cond rfl (λhx=>?_) (λhx=>?_)
   .have _hx:=hx;refine AW.rg hE rfl (aV fd.jc rfl rfl (aN ag.Ring rfl rfl (vs:=[_,_]) rfl (aA rfl) (bF rfl (.cons Qm .nil) NP (fG sz.ak rfl rfl rfl rfl rfl (aA rfl) (cells2:=[_,_,_,_,_,_,_,_]) rfl (OL.nil ?_)))));exact AW.reach 0 ⟨IB.zero,Knows.app .SI (.nil),dw.app (.cons rfl (.cons rfl (.cons rfl (.cons rfl (.cons rfl (.cons rfl .nil)))))) (.cons rfl (.cons rfl .nil))⟩
   .have _hx:=hx;refine AW.skip ?_;exact AW.reach (zk Tp a) ⟨Kv Tp a,Knows.app .SI (.nil),dw.app (.cons rfl (.cons rfl (.cons rfl (.cons rfl (.cons rfl (.cons rfl .nil)))))) (.cons rfl (.cons rfl .nil))⟩
  intro x hx9;refine AW.JU (α:=Rat) [(1,_),(3,_),(6,_),(7,_),(8,_),(9,_),(10,_),(11,_)] [(3,_),(6,_),(8,_),(10,_),(79,_),(84,_)] (λy=>[]) (λy=>[(11,.box b11 T.ak (ap7 y)),(1000,o8 b19 Tp (jl Tp (jl Tp (vz Tp (vz Tp a)))))]) (λy=>IB 1 24 y) (.cons (bY rfl) (.cons (iJ rfl) (.cons (iJ rfl) (.cons (iJ rfl) (.cons (iJ rfl) (.cons (bY rfl) (.cons (iJ rfl) (.cons (iJ rfl) .nil)))))))) (.cons (kC rfl) (.cons (kC rfl) (.cons (kC rfl) (.cons (kC rfl) (.cons (rY rfl) (.cons (rY rfl) .nil)))))) ?_ ?_
  .refine AW.JU (α:=Bool) [(1,_),(3,_),(6,_),(7,_),(8,_),(9,_),(10,_),(11,_)] [(3,_),(6,_),(8,_),(10,_),(11,_),(79,_),(84,_)] (λbb=>[(71,.d (dB bb))]) (λbb=>[(1000,o8 b19 Tp (jl Tp (jl Tp (vz Tp (vz Tp a)))))]) (λbb=>True) (.cons (bY rfl) (.cons (iJ rfl) (.cons (iJ rfl) (.cons (iJ rfl) (.cons (iJ rfl) (.cons (bY rfl) (.cons (iJ rfl) (.cons (iJ rfl) .nil)))))))) (.cons (kC rfl) (.cons (kC rfl) (.cons (kC rfl) (.cons (kC rfl) (.cons (kC rfl) (.cons (rY rfl) (.cons (rY rfl) .nil))))))) ?_ ?_
   .refine AW.rg hE rfl (DL rfl ?_);refine OL.rV (v:=.d (dI (vG Tp (jl Tp (vz Tp (vz Tp a))) 2))) (.mk (args':=[.ptr 1000 b19 0,.d (dI 2)]) rfl (.cons vR (.cons vR (.nil))) (bP (id:=1000) (blk:=o8 b19 Tp (jl Tp (vz Tp (vz Tp a)))) rfl) iK (wB (by decide) nL)) ?_
    refine dG rfl rfl rfl (ai rfl (OL.split 65 rfl (λg65=>?_) (λg65=>?_)))
    .try simp only[eG] at g65
     refine OL.yes rfl (ai rfl (OL.yes rfl (aV fd.jW rfl rfl (OL.yes rfl (aG ce.int rfl rfl rfl (OL.yes rfl (bo rfl rfl (nN (c:=(N:Int)-1) rfl (wrap_i64 (by omega))) ?_)))))))
     refine OL.yes rfl (aX rfl rfl rfl (lJ rfl rfl (OL.nil ?_)));exact AW.reach _ ⟨trivial,Knows.app .SI .di,dw.app (.cons rfl (.cons rfl (.cons rfl (.cons rfl (.cons rfl (.cons rfl (.cons rfl .nil))))))) (.cons rfl .nil)⟩
    .try simp only[eG] at g65
     refine OL.nd rfl (OL.nd rfl (OL.nd rfl (OL.nd rfl (OL.nd rfl (jZ rfl rfl (OL.nil ?_))))));exact AW.reach _ ⟨trivial,Knows.app .SI .di,dw.app (.cons rfl (.cons rfl (.cons rfl (.cons rfl (.cons rfl (.cons rfl (.cons rfl .nil))))))) (.cons rfl .nil)⟩
   intro bb _;refine AW.cond rfl (λhx=>?_) (λhx=>?_)
   .have _hx:=hx;refine AW.rg hE rfl (aV fd.jc rfl rfl (aN ag.Ring rfl rfl (vs:=[_,_]) rfl (aA rfl) (bF rfl (.cons Qm .nil) NP (fG sz.ak rfl rfl rfl rfl rfl (aA rfl) (cells2:=[_,_,_,_,_,_,_,_]) rfl (OL.nil ?_)))));exact AW.reach 0 ⟨IB.zero,Knows.app .SI (.nil),dw.app (.cons rfl (.cons rfl (.cons rfl (.cons rfl (.cons rfl (.cons rfl .nil)))))) (.cons rfl (.cons rfl .nil))⟩
   .have _hx:=hx;refine AW.skip ?_;exact AW.reach (zk Tp (vz Tp a)) ⟨Kv Tp (vz Tp a),Knows.app .SI (.nil),dw.app (.cons rfl (.cons rfl (.cons rfl (.cons rfl (.cons rfl (.cons rfl .nil)))))) (.cons rfl (.cons rfl .nil))⟩
  intro y hy9;refine AW.dg 2 [0,1,2,3,5,6,7,8,4,10,9,11,12,13] au hE rfl (by kernel_rfl) (OI.aS (os:=[_,_,_,_,_,_,_,_,_,_,_,_,_,_]) rfl ?_)
  refine aV fd.uZ rfl rfl (aG ce.aT rfl rfl rfl (aN ag.ak rfl rfl (vs:=[_,_,_,_,_,_,_,_]) rfl (aA rfl) (xe (y:=dW x) sl.aT MR rfl (by decide) (aV fd.xJ rfl rfl (aG ce.aT rfl rfl rfl (aN ag.ak rfl rfl (vs:=[_,_,_,_,_,_,_,_]) rfl (aA rfl) (xe (y:=dW y) sl.aT MR rfl (by decide) ?_)))))))
  refine zB sl.aT rfl rfl rfl (by rw[dD];omega) (VC.d _) (λy hy=>by rw[kJ hy];rfl) (by simp only[jL];omega) (by simp only[jL];omega) (.inr rfl) (ys:=(I++[x]).map dW) (by rw[List.map_append];rfl) (n2:=i+1) (by simp only[jL]) λb79 c79=>?_
  refine aV fd.uZ rfl rfl ?_;refine zB sl.aT rfl rfl rfl (by rw[dD];omega) (VC.d _) (λy hy=>by rw[kJ hy];rfl) (by simp only[jL];omega) (by simp only[jL];omega) (.inr rfl) (ys:=(J++[y]).map dW) (by rw[List.map_append];rfl) (n2:=i+1) (by simp only[jL]) λb84 c84=>?_
  refine fG sz.aT rfl rfl rfl rfl rfl (aA rfl) (cells2:=[_,_,_,_,_,_,_]) rfl (aV fd.xJ rfl rfl (fG sz.aT rfl rfl rfl rfl rfl (aA rfl) (cells2:=[_,_,_,_,_,_,_]) rfl (OL.nil (AW.rg hE rfl (ai rfl (aH rfl rfl (by omega) (aC rfl ?_)))))))
  refine OL.nil ?_;exact AW.again (x:=(i,a,I,J,b1,c1,b2,c2)) (i+1,(jl Tp (jl Tp (vz Tp (vz Tp a)))),I++[x],J++[y],b79,c79,b84,c84) (by (simp only[];omega)) ⟨⟨by omega,by rw[iU,jL];omega,by rw[iU,jL];omega,Yl h4 hx9,Yl h5 hy9⟩,Knows.app .GL .gy,dw.app (.cons rfl (.cons rfl .nil)) (.cons rfl (.cons rfl (.cons rfl (.cons rfl .nil))))⟩
 .try simp only[eG] at h35
  refine AW.exit ?_;obtain rfl:N=i:=by omega
  refine AW.AX 182 T.ny 11 rfl (AW.DX 8 [.d (dI 1),.mt,.d (dI S),.d (dI N),.bH 79 b1 N c1,.bH 84 b2 N c2,.bH 182 0 0 0] rfl (.cons vR (.cons vR (.cons vR (.cons vR (.cons vR (.cons vR (.cons qQ .nil))))))) ?_);refine AW.JU (α:=List bD × Nat × Nat) [(6,_),(8,_)] [(6,_),(79,_),(84,_)] (λ(A,b3,c3)=>[]) (λ(A,b3,c3)=>[(8,.box b8 T.Auto [.d (dI 1),.mt,.d (dI S),.d (dI N),.bH 79 b1 N c1,.bH 84 b2 N c2,.bH 182 b3 A.length c3]),(182,.row b3 c3 T.ny 11 (A.map je))]) (λ(A,b3,c3)=>A.length<=14/\∀ x,x ∈ A->Ik S N x) (.cons (iJ rfl) (.cons (iJ rfl) .nil)) (.cons (kC rfl) (.cons (rY rfl) (.cons (rY rfl) .nil))) ?_ ?_
  .refine AW.sg hE rfl (aC rfl (OL.nil (AW.block ?_)));refine AW.aU (α:=Nat × Nat × List bD × Nat × Nat) [(1,_),(3,_),(6,_),(7,_),(8,_)] [(3,_),(6,_),(79,_),(84,_)] (λ(i,a,A,b3,c3)=>[(12,.d (dI i))]) (λ(i,a,A,b3,c3)=>[(8,.box b8 T.Auto [.d (dI 1),.mt,.d (dI S),.d (dI N),.bH 79 b1 N c1,.bH 84 b2 N c2,.bH 182 b3 A.length c3]),(182,.row b3 c3 T.ny 11 (A.map je)),(1000,o8 b19 Tp a)]) (λ(i,a,A,b3,c3)=>i<=14/\A.length<=i/\∀ x,x ∈ A->Ik S N x) (λ(i,a,A,b3,c3)=>14-i) (0,a,[],0,0) (.cons (bY rfl) (.cons (iJ rfl) (.cons (iJ rfl) (.cons (iJ rfl) (.cons (iJ rfl) .nil))))) (.cons (kC rfl) (.cons (kC rfl) (.cons (rY rfl) (.cons (rY rfl) .nil)))) ⟨⟨by decide,Nat.le_refl _,λx h=>by cases h⟩,.di,.cons rfl (.cons rfl (.cons rfl .nil))⟩ ?_
   rintro⟨i,a,A,b3,c3⟩ ⟨h6,h8,h9⟩
   have h6:i<=14:=h6;have h8:A.length<=i:=h8;have h9:∀ x,x ∈ A->Ik S N x:=h9;refine AW.seq (AW.seq (AW.dg 1 [0,1,2,3,4,5,6,7,8,9,10,11,12,13,14,15,16,17,18] au hE rfl (by kernel_rfl) (OI.aS (os:=[_,_,_,_,_,_,_,_,_,_,_,_,_,_,_,_,_,_,_]) rfl ?_)))
   refine DL rfl (N7 rfl (aV fd.Lu rfl rfl (aG ce.int rfl rfl rfl (DL rfl (N7 rfl (aV fd.VZ rfl rfl (aG ce.ints rfl rfl rfl ?_)))))));refine fJ sl.ints rfl rfl (aX rfl rfl rfl (ai rfl (OL.split 97 rfl (λha=>?_) (λha=>?_))))
   .have _ha := ha;refine OL.yes rfl (ai rfl (OL.yes rfl (aX rfl rfl rfl (lJ rfl rfl (ai rfl (OL.split 101 rfl (λaF1=>?_) (λaF1=>?_)))))))
    .have aF1 : i < 14 := by have := kK aF1; omega
     refine OL.yes rfl (aV fd.jW rfl rfl (OL.yes rfl (aG ce.int rfl rfl rfl (OL.yes rfl (gV rfl rfl rfl (lJ rfl rfl (OL.nil ?_)))))));refine AW.cond rfl (λhN1=>?_) (λhN1=>?_)
     .have hN1:0<N:=by have:=kK hN1;omega
      refine AW.skip (AW.seq (AW.block (AW.seq ?_)));obtain⟨f,hf⟩:∃ f:Nat,vG Tp a (N:Int)=(f:Int):=⟨_,(Int.toNat_of_nonneg (kT (by omega)).1).symm⟩
      obtain⟨l,hl⟩:∃ l:Nat,1+vG Tp (jl Tp a) (S:Int)=(l:Int):=⟨_,(Int.toNat_of_nonneg (by have:=(kT (L:=Tp) (a:=(jl Tp a)) (m:=(S:Int)) (by omega)).1;omega)).symm⟩
      obtain⟨t,ht⟩:∃ t:Nat,vG Tp (jl Tp (jl Tp a)) (N:Int)=(t:Int):=⟨_,(Int.toNat_of_nonneg (kT (by omega)).1).symm⟩
      have hfr:=kT (L:=Tp) (a:=a) (m:=(N:Int)) (by omega)
      have hlr:=kT (L:=Tp) (a:=(jl Tp a)) (m:=(S:Int)) (by omega)
      have htr:=kT (L:=Tp) (a:=(jl Tp (jl Tp a))) (m:=(N:Int)) (by omega)
      have hc1:=wB (L:=Tp) (a:=a) (b:=b19) (m:=(N:Int)) (by omega) nL
      have hc2:=wB (L:=Tp) (a:=(jl Tp a)) (b:=b19) (m:=(S:Int)) (by omega) nL
      have hc3:=wB (L:=Tp) (a:=(jl Tp (jl Tp a))) (b:=b19) (m:=(N:Int)) (by omega) nL
      rw[hf] at hc1;rw[show vG Tp (jl Tp a) (S:Int)=(l:Int)-1 by omega] at hc2
      rw[ht] at hc3;refine AW.xQ (a81 Tp a b8 b19 S N f l t) Yn (U7 Tp a b8 b19 S N f l t) 18 au (by rw[hE];rfl) (by rfl) (by kernel_rfl) (by kernel_rfl) ?_ ?_
      .refine a88 ?_ ?_ ?_ ?_ ?_ ?_ ?_ ?_ ?_ ?_ ?_ ?_ ?_ ?_ ?_ ?_ ?_ ?_
       .exact λβ L c9=>⟨_,rfl,.inl (OG.aS (DL (id:=1000) (b:=b19) (o:=0) ((dY rfl).trans rfl) ⟨β,fE (d:=108) (i:=0) rfl (λt ht=>iC ht) (lt_size 19 c9.size rfl (by decide)) (bV (lt_size 19 c9.size rfl (by decide)) (by rfl))⟩))⟩
       .exact λβ L c9=>⟨_,rfl,.inl (OG.aS (aV (b:=b8) (o:=0) (id:=8) fd.jW ((dY rfl).trans rfl) rfl ⟨β,fE (d:=109) (i:=1) rfl (λt ht=>iC ht) (lt_size 19 c9.size rfl (by decide)) (bV (lt_size 19 c9.size rfl (by decide)) (by rfl))⟩))⟩
       .exact λβ L c9=>⟨_,rfl,.inl (OG.aS (aG ce.int (dA rfl (bC (j:=1) c9 (by kernel_rfl))) ((kW (aI (show (8:Nat)≠13 by decide) (aI (show (8:Nat)≠1000 by decide) (aI (show (8:Nat)≠1000 by decide) (aI (show (8:Nat)≠1000 by decide) (aI (show (8:Nat)≠1000 by decide) rfl)))))):_=some (.box b8 T.Auto [.d (dI 1),.mt,.d (dI S),.d (dI N),.bH 79 b1 N c1,.bH 84 b2 N c2,.bH 182 b3 A.length c3])) (v:=.d (dI N)) rfl ⟨β,fE (d:=110) (i:=2) rfl (λt ht=>iC ht) (lt_size 19 c9.size rfl (by decide)) (bV (lt_size 19 c9.size rfl (by decide)) (by rfl))⟩))⟩
       .exact λβ L c9=>⟨_,rfl,.inl (OG.aS (OL.rV (v:=.d (dI f)) (.mk (args':=[.ptr 1000 b19 0,.d (dI N)]) rfl (.cons (RG (dA rfl (bC (j:=0) c9 (by kernel_rfl))) bG.ptr) (.cons (aB (dA rfl (bC (j:=2) c9 (by kernel_rfl)))) .nil)) (bP (id:=1000) (blk:=o8 b19 Tp a) (kW (aI (show (1000:Nat)≠13 by decide) (rH (by exact iH c9 (by kernel_rfl)) (rH (by exact iH c9 (by kernel_rfl)) (rH (by exact iH c9 (by kernel_rfl)) (rH (by exact c9.no) rfl))))))) iK hc1) ⟨β,Il (mf:=Cb (U7 Tp a b8 b19 S N f l t) _) (d:=111) (i:=3) rfl (λt ht=>iC ht) (lt_size 19 c9.size rfl (by decide)) (o6 (lt_size 19 c9.size rfl (by decide)) (show (17:Nat)≠3 by decide) (.inl (show (13:Nat)≠1000 by decide)) (by exact λ_=>rfl) (o6 (lt_size 19 c9.size rfl (by decide)) (show (15:Nat)≠3 by decide) (.inr (iH c9 (by kernel_rfl))) (by exact λ_=>rfl) (o6 (lt_size 19 c9.size rfl (by decide)) (show (12:Nat)≠3 by decide) (.inr (iH c9 (by kernel_rfl))) (by exact λ_=>rfl) (o6 (lt_size 19 c9.size rfl (by decide)) (show (7:Nat)≠3 by decide) (.inr (iH c9 (by kernel_rfl))) (by exact λ_=>rfl) (uJ (lt_size 19 c9.size rfl (by decide)) rfl rfl rfl c9.no (by rfl) (λy hy=>absurd hy List.not_mem_nil))))))⟩))⟩
       .exact λβ L c9=>⟨_,rfl,.inl (OG.aS (DL (id:=1000) (b:=b19) (o:=0) ((dY rfl).trans rfl) ⟨β,fE (d:=112) (i:=4) rfl (λt ht=>iC ht) (lt_size 19 c9.size rfl (by decide)) (bV (lt_size 19 c9.size rfl (by decide)) (by rfl))⟩))⟩
       .exact λβ L c9=>⟨_,rfl,.inl (OG.aS (aV (b:=b8) (o:=0) (id:=8) fd.rO ((dY rfl).trans rfl) rfl ⟨β,fE (d:=113) (i:=5) rfl (λt ht=>iC ht) (lt_size 19 c9.size rfl (by decide)) (bV (lt_size 19 c9.size rfl (by decide)) (by rfl))⟩))⟩
       .exact λβ L c9=>⟨_,rfl,.inl (OG.aS (aG ce.int (dA rfl (bC (j:=5) c9 (by kernel_rfl))) ((kW (aI (show (8:Nat)≠13 by decide) (aI (show (8:Nat)≠1000 by decide) (aI (show (8:Nat)≠1000 by decide) (aI (show (8:Nat)≠1000 by decide) (aI (show (8:Nat)≠1000 by decide) rfl)))))):_=some (.box b8 T.Auto [.d (dI 1),.mt,.d (dI S),.d (dI N),.bH 79 b1 N c1,.bH 84 b2 N c2,.bH 182 b3 A.length c3])) (v:=.d (dI S)) rfl ⟨β,fE (d:=114) (i:=6) rfl (λt ht=>iC ht) (lt_size 19 c9.size rfl (by decide)) (bV (lt_size 19 c9.size rfl (by decide)) (by rfl))⟩))⟩
       .exact λβ L c9=>⟨_,rfl,.inl (OG.aS (OL.rV (v:=.d (dI ((l:Int)-1))) (.mk (args':=[.ptr 1000 b19 0,.d (dI S)]) rfl (.cons (RG (dA rfl (bC (j:=4) c9 (by kernel_rfl))) bG.ptr) (.cons (aB (dA rfl (bC (j:=6) c9 (by kernel_rfl)))) .nil)) (bP (id:=1000) (blk:=o8 b19 Tp (jl Tp a)) (kW (aI (show (1000:Nat)≠13 by decide) (rH (by exact iH c9 (by kernel_rfl)) (rH (by exact iH c9 (by kernel_rfl)) (rH (by exact c9.no) (zO (bC (j:=3) c9 (by kernel_rfl)) rfl rfl))))))) iK hc2) ⟨β,Il (mf:=Cb (U7 Tp a b8 b19 S N f l t) _) (d:=115) (i:=7) rfl (λt ht=>iC ht) (lt_size 19 c9.size rfl (by decide)) (o6 (lt_size 19 c9.size rfl (by decide)) (show (17:Nat)≠7 by decide) (.inl (show (13:Nat)≠1000 by decide)) (by exact λ_=>rfl) (o6 (lt_size 19 c9.size rfl (by decide)) (show (15:Nat)≠7 by decide) (.inr (iH c9 (by kernel_rfl))) (by exact λ_=>rfl) (o6 (lt_size 19 c9.size rfl (by decide)) (show (12:Nat)≠7 by decide) (.inr (iH c9 (by kernel_rfl))) (by exact λ_=>rfl) (uJ (lt_size 19 c9.size rfl (by decide)) rfl rfl rfl c9.no (by rfl) (List.forall_mem_cons.2 ⟨(λ_ hne=>absurd rfl hne),(λy hy=>absurd hy List.not_mem_nil)⟩)))))⟩))⟩
       .exact λβ L c9=>⟨_,rfl,.inl (OG.aS (bo rfl (dA rfl (bC (j:=7) c9 (by kernel_rfl))) (kM (c:=(l:Int)) (by omega) (wrap_i64 (by omega))) ⟨β,fE (d:=116) (i:=8) rfl (λt ht=>iC ht) (lt_size 19 c9.size rfl (by decide)) (bV (lt_size 19 c9.size rfl (by decide)) (by rfl))⟩))⟩
       .exact λβ L c9=>⟨_,rfl,.inl (OG.aS (DL (id:=1000) (b:=b19) (o:=0) ((dY rfl).trans rfl) ⟨β,fE (d:=117) (i:=9) rfl (λt ht=>iC ht) (lt_size 19 c9.size rfl (by decide)) (bV (lt_size 19 c9.size rfl (by decide)) (by rfl))⟩))⟩
       .exact λβ L c9=>⟨_,rfl,.inl (OG.aS (aV (b:=b8) (o:=0) (id:=8) fd.jW ((dY rfl).trans rfl) rfl ⟨β,fE (d:=118) (i:=10) rfl (λt ht=>iC ht) (lt_size 19 c9.size rfl (by decide)) (bV (lt_size 19 c9.size rfl (by decide)) (by rfl))⟩))⟩
       .exact λβ L c9=>⟨_,rfl,.inl (OG.aS (aG ce.int (dA rfl (bC (j:=10) c9 (by kernel_rfl))) ((kW (aI (show (8:Nat)≠13 by decide) (aI (show (8:Nat)≠1000 by decide) (aI (show (8:Nat)≠1000 by decide) (aI (show (8:Nat)≠1000 by decide) (aI (show (8:Nat)≠1000 by decide) rfl)))))):_=some (.box b8 T.Auto [.d (dI 1),.mt,.d (dI S),.d (dI N),.bH 79 b1 N c1,.bH 84 b2 N c2,.bH 182 b3 A.length c3])) (v:=.d (dI N)) rfl ⟨β,fE (d:=119) (i:=11) rfl (λt ht=>iC ht) (lt_size 19 c9.size rfl (by decide)) (bV (lt_size 19 c9.size rfl (by decide)) (by rfl))⟩))⟩
       .exact λβ L c9=>⟨_,rfl,.inl (OG.aS (OL.rV (v:=.d (dI t)) (.mk (args':=[.ptr 1000 b19 0,.d (dI N)]) rfl (.cons (RG (dA rfl (bC (j:=9) c9 (by kernel_rfl))) bG.ptr) (.cons (aB (dA rfl (bC (j:=11) c9 (by kernel_rfl)))) .nil)) (bP (id:=1000) (blk:=o8 b19 Tp (jl Tp (jl Tp a))) (kW (aI (show (1000:Nat)≠13 by decide) (rH (by exact iH c9 (by kernel_rfl)) (rH (by exact c9.no) (zO (bC (j:=7) c9 (by kernel_rfl)) rfl rfl)))))) iK hc3) ⟨β,Il (mf:=Cb (U7 Tp a b8 b19 S N f l t) _) (d:=120) (i:=12) rfl (λt ht=>iC ht) (lt_size 19 c9.size rfl (by decide)) (o6 (lt_size 19 c9.size rfl (by decide)) (show (17:Nat)≠12 by decide) (.inl (show (13:Nat)≠1000 by decide)) (by exact λ_=>rfl) (o6 (lt_size 19 c9.size rfl (by decide)) (show (15:Nat)≠12 by decide) (.inr (iH c9 (by kernel_rfl))) (by exact λ_=>rfl) (uJ (lt_size 19 c9.size rfl (by decide)) rfl rfl rfl c9.no (by rfl) (List.forall_mem_cons.2 ⟨(λ_ hne=>absurd rfl hne),(List.forall_mem_cons.2 ⟨(λ_ hne=>absurd rfl hne),(λy hy=>absurd hy List.not_mem_nil)⟩)⟩))))⟩))⟩
       .exact λβ L c9=>⟨_,rfl,.inl (OG.aS (ai (y:=dI 1) ((dY rfl).trans rfl) ⟨β,fE (d:=121) (i:=13) rfl (λt ht=>iC ht) (lt_size 19 c9.size rfl (by decide)) (bV (lt_size 19 c9.size rfl (by decide)) (by rfl))⟩))⟩
       .exact λβ L c9=>⟨_,rfl,.inl (OG.aS (DL (id:=1000) (b:=b19) (o:=0) ((dY rfl).trans rfl) ⟨β,fE (d:=122) (i:=14) rfl (λt ht=>iC ht) (lt_size 19 c9.size rfl (by decide)) (bV (lt_size 19 c9.size rfl (by decide)) (by rfl))⟩))⟩
       .exact λβ L c9=>⟨_,rfl,.inl (OG.aS (OL.rV (v:=vW (zk Tp (jl Tp (jl Tp (jl Tp a))))) (.mk (args':=[.d (dI 1),.ptr 1000 b19 0]) rfl (.cons (aB (dA rfl (bC (j:=13) c9 (by kernel_rfl)))) (.cons (RG (dA rfl (bC (j:=14) c9 (by kernel_rfl))) bG.ptr) .nil)) (bP (id:=1000) (blk:=o8 b19 Tp (jl Tp (jl Tp (jl Tp a)))) (kW (aI (show (1000:Nat)≠13 by decide) (rH (by exact c9.no) (zO (bC (j:=12) c9 (by kernel_rfl)) rfl rfl))))) iK (Ew nL)) ⟨β,Il (mf:=Cb (U7 Tp a b8 b19 S N f l t) _) (d:=123) (i:=15) rfl (λt ht=>iC ht) (lt_size 19 c9.size rfl (by decide)) (o6 (lt_size 19 c9.size rfl (by decide)) (show (17:Nat)≠15 by decide) (.inl (show (13:Nat)≠1000 by decide)) (by exact λ_=>rfl) (uJ (lt_size 19 c9.size rfl (by decide)) rfl rfl rfl c9.no (by rfl) (List.forall_mem_cons.2 ⟨(λ_ hne=>absurd rfl hne),(List.forall_mem_cons.2 ⟨(λ_ hne=>absurd rfl hne),(List.forall_mem_cons.2 ⟨(λ_ hne=>absurd rfl hne),(λy hy=>absurd hy List.not_mem_nil)⟩)⟩)⟩)))⟩))⟩
       .exact λβ L c9=>⟨_,rfl,.inl (OG.aS (Vk (cs:=[_,_,_,_,_,_,_,_,_,_,_]) z.ny pl.ny (rG (dA rfl (bC (j:=3) c9 (by kernel_rfl))) (rG (dA rfl (bC (j:=8) c9 (by kernel_rfl))) (rG (dA rfl (bC (j:=12) c9 (by kernel_rfl))) (rG (dA rfl (bC (j:=15) c9 (by kernel_rfl))) Vj)))) (by rfl) ⟨β,fE (d:=124) (i:=16) rfl (λt ht=>iC ht) (lt_size 19 c9.size rfl (by decide)) (bV (lt_size 19 c9.size rfl (by decide)) (by rfl))⟩))⟩
       .exact λβ L c9=>⟨_,rfl,.inl (OG.aS (al z.ny (kW (rH (by exact c9.no) (aI (show (13:Nat)≠1000 by decide) (aI (show (13:Nat)≠1000 by decide) (aI (show (13:Nat)≠1000 by decide) (aI (show (13:Nat)≠1000 by decide) rfl)))))) λb8=>⟨upd β 13 (b8,0),Lp (d:=13) (i:=17) (x:=(b8,0)) rfl (λt ht=>iC ht) (lt_size 19 c9.size rfl (by decide)) rfl (uJ (lt_size 19 c9.size rfl (by decide)) rfl rfl rfl c9.no (by rfl) (List.forall_mem_cons.2 ⟨(by exact λ_ _=>rfl),(List.forall_mem_cons.2 ⟨(by exact λ_ _=>rfl),(List.forall_mem_cons.2 ⟨(by exact λ_ _=>rfl),(List.forall_mem_cons.2 ⟨(by exact λ_ _=>rfl),(λy hy=>absurd hy List.not_mem_nil)⟩)⟩)⟩)⟩)) (λt j ho hl=>by unfold Yn at ho;split at ho <;> cases ho <;> first|rfl|(rw[c9.no] at hl;cases hl)|exact AV c9 (by kernel_rfl) hl)⟩))⟩
      refine λβ L c9 hA=>⟨_,rfl,.inl (OG.aS (fG sz.ny (dA rfl (hA 17 (by decide))) (dA rfl (hA 16 (by decide))) rfl ((kW (zO (hA 17 (by decide)) rfl rfl)):_=some (.box (β 13).1 T.ny [.d (dI 0),.d (dI 0),.d (dI 0),.d (dB false),.mt,.mt,.d (dI 0),.d (dB false),.d (dU 0),.mt,.mt])) rfl (aA rfl) (cells2:=[_,_,_,_,_,_,_,_,_,_,_]) rfl ?_))⟩
      refine OL.nil ?_;refine AW.to [(1,.d (dI 1)),(3,_),(6,_),(7,.ptr 1000 b19 0),(8,.ptr 8 b8 0),(12,.d (dI i)),(13,.ptr 13 (β 13).1 0)] [(3,_),(6,_),(8,.box b8 T.Auto [.d (dI 1),.mt,.d (dI S),.d (dI N),.bH 79 b1 N c1,.bH 84 b2 N c2,.bH 182 b3 A.length c3]),(79,.row b1 c1 T.ak 8 (I.map dW)),(84,.row b2 c2 T.ak 8 (J.map dW)),(182,.row b3 c3 T.ny 11 (A.map je)),(1000,o8 b19 Tp (vz Tp (jl Tp (jl Tp (jl Tp a))))),(13,.box (β 13).1 T.ny (lC ⟨f,l,t,zk Tp (jl Tp (jl Tp (jl Tp a)))⟩))] (.cons (aB (qN ((dY rfl).trans rfl))) (.cons (aB (qN ((dY rfl).trans rfl))) (.cons (aB (qN ((dY rfl).trans rfl))) (.cons (aB (qN ((dY rfl).trans rfl))) (.cons (aB (qN ((dY rfl).trans rfl))) (.cons (aB (qN ((dY rfl).trans rfl))) (.cons (aB (qN (dA rfl (hA 17 (by decide))))) (.nil)))))))) (.cons (Cc (by decide) (kW (aI (show (3:Nat)≠13 by decide) (aI (show (3:Nat)≠1000 by decide) (aI (show (3:Nat)≠1000 by decide) (aI (show (3:Nat)≠1000 by decide) (aI (show (3:Nat)≠1000 by decide) rfl))))))) (.cons (Cc (by decide) (kW (aI (show (6:Nat)≠13 by decide) (aI (show (6:Nat)≠1000 by decide) (aI (show (6:Nat)≠1000 by decide) (aI (show (6:Nat)≠1000 by decide) (aI (show (6:Nat)≠1000 by decide) rfl))))))) (.cons (Cc (by decide) (kW (aI (show (8:Nat)≠13 by decide) (aI (show (8:Nat)≠1000 by decide) (aI (show (8:Nat)≠1000 by decide) (aI (show (8:Nat)≠1000 by decide) (aI (show (8:Nat)≠1000 by decide) rfl))))))) (.cons (Cc (by decide) (kW (aI (show (79:Nat)≠13 by decide) (aI (show (79:Nat)≠1000 by decide) (aI (show (79:Nat)≠1000 by decide) (aI (show (79:Nat)≠1000 by decide) (aI (show (79:Nat)≠1000 by decide) rfl))))))) (.cons (Cc (by decide) (kW (aI (show (84:Nat)≠13 by decide) (aI (show (84:Nat)≠1000 by decide) (aI (show (84:Nat)≠1000 by decide) (aI (show (84:Nat)≠1000 by decide) (aI (show (84:Nat)≠1000 by decide) rfl))))))) (.cons (Cc (by decide) (kW (aI (show (182:Nat)≠13 by decide) (aI (show (182:Nat)≠1000 by decide) (aI (show (182:Nat)≠1000 by decide) (aI (show (182:Nat)≠1000 by decide) (aI (show (182:Nat)≠1000 by decide) rfl))))))) (.cons (Cc (by decide) (kW (aI (show (1000:Nat)≠13 by decide) (zO (hA 15 (by decide)) rfl rfl)))) (.cons ax6 (.nil))))))))) ?_
      generalize (β 13).1=b13;refine AW.JU (α:=Nat × Nat) [(1,_),(3,_),(6,_),(7,_),(8,_),(12,_),(13,_)] [(3,_),(6,_),(8,_),(79,_),(84,_),(182,_),(1000,_)] (λ(f2,t2)=>[]) (λ(f2,t2)=>[(13,.box b13 T.ny (lC ⟨f2,l,t2,zk Tp (jl Tp (jl Tp (jl Tp a)))⟩))]) (λ(f2,t2)=>f2<N/\t2<N) (.cons (bY rfl) (.cons (iJ rfl) (.cons (iJ rfl) (.cons (iJ rfl) (.cons (iJ rfl) (.cons (bY rfl) (.cons (iJ rfl) .nil))))))) (.cons (kC rfl) (.cons (kC rfl) (.cons (kC rfl) (.cons (rY rfl) (.cons (rY rfl) (.cons (rY rfl) (.cons (kC rfl) .nil))))))) ?_ ?_
      .refine AW.sg hE rfl (aV fd.aL5 rfl rfl (aG ce.bool rfl rfl rfl (OL.nil (AW.cond rfl (λhfw=>?_) (λhfw=>?_)))))
       .have _hfw:=hfw;refine AW.seq (AW.sg hE rfl (aV fd.xM rfl rfl (aG ce.int rfl rfl rfl (aV fd.xq rfl rfl (aG ce.int rfl rfl rfl (dG rfl rfl rfl (OL.nil ?_)))))));refine AW.cond rfl (λhq1=>?_) (λhq1=>?_)
        .have _hq1:=hq1;refine AW.exit (AW.rg hE rfl (ai rfl (aH rfl rfl (by omega) (aC rfl (OL.nil ?_)))))
         exact AW.again (x:=(i,a,A,b3,c3)) (i+1,vz Tp (jl Tp (jl Tp (jl Tp a))),A,b3,c3) (by (simp only[];omega)) ⟨⟨by omega,by omega,h9⟩,Knows.app .Gs .di,dw.app (.cons rfl (.cons rfl (.cons rfl (.cons rfl .nil)))) (.cons rfl (.cons rfl (.cons rfl .nil)))⟩
        .have _hq1:=hq1;refine AW.skip (AW.sg hE rfl (aV fd.xM rfl rfl (aG ce.int rfl rfl rfl (aV fd.xq rfl rfl (aG ce.int rfl rfl rfl (gV rfl rfl rfl (OL.nil ?_)))))));refine AW.cond rfl (λhq2=>?_) (λhq2=>?_)
         .have _hq2:=hq2;refine AW.rg hE rfl (aV fd.xq rfl rfl (aG ce.int rfl rfl rfl (aV fd.xM rfl rfl (aG ce.int rfl rfl rfl (aV fd.xM rfl rfl (fG sz.int rfl rfl rfl rfl rfl (aA rfl) (cells2:=[_,_,_,_,_,_,_,_,_,_,_]) rfl (aV fd.xq rfl rfl ?_)))))));refine fG sz.int rfl rfl rfl rfl rfl (aA rfl) (cells2:=[_,_,_,_,_,_,_,_,_,_,_]) rfl (OL.nil ?_);exact AW.reach (t,f) ⟨⟨by omega,by omega⟩,Knows.app .rq7 (.nil),dw.app (.cons rfl (.cons rfl (.cons rfl (.cons rfl (.cons rfl (.cons rfl (.cons rfl .nil))))))) (.cons rfl .nil)⟩
         .have _hq2:=hq2;refine AW.skip ?_;exact AW.reach (f,t) ⟨⟨by omega,by omega⟩,Knows.app .rq7 (.nil),dw.app (.cons rfl (.cons rfl (.cons rfl (.cons rfl (.cons rfl (.cons rfl (.cons rfl .nil))))))) (.cons rfl .nil)⟩
       .have _hfw:=hfw;refine AW.skip ?_;exact AW.reach (f,t) ⟨⟨by omega,by omega⟩,Knows.app .rq7 (.nil),dw.app (.cons rfl (.cons rfl (.cons rfl (.cons rfl (.cons rfl (.cons rfl (.cons rfl .nil))))))) (.cons rfl .nil)⟩
      rintro⟨f2,t2⟩ hft
      have hft:f2<N/\t2<N:=hft;refine AW.sg hE rfl (aC rfl (OL.nil (AW.seq (AW.sg hE rfl (aC rfl (OL.nil (AW.block ?_)))))));refine AW.aU (α:=Nat × Bool) [(1,_),(3,_),(6,_),(7,_),(8,_),(12,_),(13,_)] [(3,_),(6,_),(8,_),(13,_),(79,_),(84,_),(182,_),(1000,_)] (λ(k,th)=>[(14,.d (dB th)),(15,.d (dI k))]) (λ(k,th)=>[]) (λ(k,th)=>k<=A.length) (λ(k,th)=>A.length-k) (0,false) (.cons (bY rfl) (.cons (iJ rfl) (.cons (iJ rfl) (.cons (iJ rfl) (.cons (iJ rfl) (.cons (bY rfl) (.cons (iJ rfl) .nil))))))) (.cons (kC rfl) (.cons (kC rfl) (.cons (kC rfl) (.cons (kC rfl) (.cons (rY rfl) (.cons (rY rfl) (.cons (rY rfl) (.cons (kC rfl) .nil)))))))) ⟨Nat.zero_le _,.gy,.nil⟩ ?_
      rintro⟨k,th⟩ hk
      have hk:k<=A.length:=hk;refine AW.seq (AW.sg hE rfl (ai rfl (aV fd.iI rfl rfl (aG ce.dm rfl rfl rfl (Iy sl.dm rfl rfl (aX rfl rfl rfl (OL.nil ?_)))))));refine AW.cond rfl (λaQ4=>?_) (λaQ4=>?_)
      .try simp only[eG] at aQ4
       refine AW.skip (AW.seq (AW.block ?_));have hkA:k<A.length:=by omega
       refine AW.dg 1 [0,1,2,3,4,5,6,7,8,9,10,11,12,13,14,15,16,17,18,19,20,21,22,23] au hE rfl (by kernel_rfl) (OI.aS (os:=[_,_,_,_,_,_,_,_,_,_,_,_,_,_,_,_,_,_,_,_,_,_,_,_]) rfl ?_)
       refine ai rfl (ai rfl (OL.split 151 rfl (λaQ5=>?_) (λaQ5=>?_)))
       .try simp only[eG] at aQ5
        refine OL.nd rfl (OL.nd rfl (OL.nd rfl (OL.nd rfl (OL.nd rfl (OL.nd rfl (OL.nd rfl (OL.nd rfl ?_)))))));refine OL.nd rfl (OL.nd rfl (OL.nd rfl (OL.nd rfl (OL.nd rfl (OL.nd rfl (OL.nd rfl (OL.nd rfl ?_)))))));refine OL.nd rfl (OL.nd rfl (OL.nd rfl (OL.nd rfl (lJ rfl rfl (aC rfl (OL.nil (AW.rg hE rfl ?_)))))));refine ai rfl (aH rfl rfl (by omega) (aC rfl (OL.nil ?_)))
        exact AW.again (x:=(k,th)) (k+1,_) (by (simp only[];omega)) ⟨by omega,Knows.app .rq7 .gy,dw.app (.cons rfl (.cons rfl (.cons rfl (.cons rfl (.cons rfl (.cons rfl (.cons rfl (.cons rfl .nil)))))))) (.nil)⟩
       .try simp only[eG] at aQ5
        refine OL.yes rfl (aV fd.iI rfl rfl (OL.yes rfl (aG ce.dm rfl rfl rfl (OL.yes rfl (ai rfl (OL.yes rfl (jk sl.dm rfl rfl (by omega) ?_)))))))
        refine OL.yes rfl (faE fd.xM rfl rfl (OL.yes rfl (N8 ce.int (by decide) rfl rfl (nT (l:=A) (i:=k) hkA) (d:=dI (A.getD k default).f) rfl (OL.yes rfl (aV fd.xM rfl rfl (OL.yes rfl (aG ce.int rfl rfl rfl ?_)))))))
        refine OL.yes rfl (dG rfl rfl rfl (OL.yes rfl (ai rfl (OL.split 161 rfl (λaQ6=>?_) (λaQ6=>?_)))))
        .try simp only[eG] at aQ6
         refine OL.yes rfl (aV fd.iI rfl rfl (OL.yes rfl (aG ce.dm rfl rfl rfl (OL.yes rfl (ai rfl (OL.yes rfl (jk sl.dm rfl rfl (by omega) ?_)))))))
         refine OL.yes rfl (faE fd.yZ rfl rfl (OL.yes rfl (N8 ce.int (by decide) rfl rfl (nT (l:=A) (i:=k) hkA) (d:=dI (A.getD k default).l) rfl (OL.yes rfl (aV fd.yZ rfl rfl (OL.yes rfl (aG ce.int rfl rfl rfl ?_)))))))
         refine OL.yes rfl (dG rfl rfl rfl (OL.yes rfl (lJ rfl rfl (jZ rfl rfl (aC rfl (OL.nil (AW.rg hE rfl ?_)))))));refine ai rfl (aH rfl rfl (by omega) (aC rfl (OL.nil ?_)))
         exact AW.again (x:=(k,th)) (k+1,_) (by (simp only[];omega)) ⟨by omega,Knows.app .rq7 .gy,dw.app (.cons rfl (.cons rfl (.cons rfl (.cons rfl (.cons rfl (.cons rfl (.cons rfl (.cons rfl .nil)))))))) (.nil)⟩
        .try simp only[eG] at aQ6
         refine OL.nd rfl (OL.nd rfl (OL.nd rfl (OL.nd rfl (OL.nd rfl (OL.nd rfl (OL.nd rfl (OL.nd rfl ?_)))))));refine OL.nd rfl (OL.yes rfl (jZ rfl rfl (jZ rfl rfl (aC rfl (OL.nil (AW.rg hE rfl (ai rfl ?_)))))));refine aH rfl rfl (by omega) (aC rfl (OL.nil ?_))
         exact AW.again (x:=(k,th)) (k+1,_) (by (simp only[];omega)) ⟨by omega,Knows.app .rq7 .gy,dw.app (.cons rfl (.cons rfl (.cons rfl (.cons rfl (.cons rfl (.cons rfl (.cons rfl (.cons rfl .nil)))))))) (.nil)⟩
      .try simp only[eG] at aQ4
       refine AW.exit (AW.seq (AW.sg hE rfl (aV fd.VY rfl rfl (aG ce.bool rfl rfl rfl (ai rfl (OL.split 175 rfl (λaQ7=>?_) (λaQ7=>?_)))))))
       .try simp only[eG] at aQ7
        refine OL.yes rfl (ai rfl (lJ rfl rfl (OL.nil (AW.cond rfl (λhth=>?_) (λhth=>?_)))))
        .have _hth:=hth;refine AW.exit (AW.rg hE rfl (ai rfl (aH rfl rfl (by omega) (aC rfl (OL.nil ?_)))))
         exact AW.again (x:=(i,a,A,b3,c3)) (i+1,vz Tp (jl Tp (jl Tp (jl Tp a))),A,b3,c3) (by (simp only[];omega)) ⟨⟨by omega,by omega,h9⟩,Knows.app .Gs .di,dw.app (.cons rfl (.cons rfl (.cons rfl (.cons rfl .nil)))) (.cons rfl (.cons rfl (.cons rfl .nil)))⟩
        .have _hth:=hth;refine AW.skip (AW.rg hE rfl (aV fd.iI rfl rfl (aG ce.dm rfl rfl rfl (aN ag.ny rfl rfl (vs:=[_,_,_,_,_,_,_,_,_,_,_]) rfl (aA rfl) (xe (y:=je (⟨f2,l,t2,zk Tp (jl Tp (jl Tp (jl Tp a)))⟩:bD)) sl.dm (y8 (x:=⟨f2,l,t2,zk Tp (jl Tp (jl Tp (jl Tp a)))⟩)) rfl (by decide) ?_)))))
         refine zB sl.dm rfl rfl rfl (by rw[dD]) (VC.d _) (λy hy=>by rw[kJ hy];rfl) (by simp only[jL];omega) (by simp only[jL];omega) (.inr rfl) (ys:=(A++[(⟨f2,l,t2,zk Tp (jl Tp (jl Tp (jl Tp a)))⟩:bD)]).map je) (by rw[List.map_append];rfl) (n2:=(A++[(⟨f2,l,t2,zk Tp (jl Tp (jl Tp (jl Tp a)))⟩:bD)]).length) (by rw[iU];rfl) λaQ8 c182=>?_
         refine aV fd.iI rfl rfl (fG sz.dm rfl rfl rfl rfl rfl (aA rfl) (cells2:=[_,_,_,_,_,_,_]) rfl (OL.nil (AW.rg hE rfl (ai rfl (aH rfl rfl (by omega) (aC rfl (OL.nil ?_)))))))
         exact AW.again (x:=(i,a,A,b3,c3)) (i+1,vz Tp (jl Tp (jl Tp (jl Tp a))),A++[⟨f2,l,t2,zk Tp (jl Tp (jl Tp (jl Tp a)))⟩],aQ8,c182) (by (simp only[];omega)) ⟨⟨by omega,by rw[iU,jL];omega,Ym h9 (show Ik S N ⟨f2,l,t2,zk Tp (jl Tp (jl Tp (jl Tp a)))⟩ from ⟨hft.1,hft.2,(show 1<=l by omega),(show l<=S by omega),Kv _ _⟩)⟩,Knows.app .Gs .di,dw.app (.cons rfl (.cons rfl (.cons rfl (.cons rfl .nil)))) (.cons rfl (.cons rfl (.cons rfl .nil)))⟩
       .try simp only[eG] at aQ7
        refine OL.nd rfl (jZ rfl rfl (OL.nil (oz rfl ?_)));refine AW.skip (AW.rg hE rfl (aV fd.iI rfl rfl (aG ce.dm rfl rfl rfl (aN ag.ny rfl rfl (vs:=[_,_,_,_,_,_,_,_,_,_,_]) rfl (aA rfl) (xe (y:=je (⟨f2,l,t2,zk Tp (jl Tp (jl Tp (jl Tp a)))⟩:bD)) sl.dm (y8 (x:=⟨f2,l,t2,zk Tp (jl Tp (jl Tp (jl Tp a)))⟩)) rfl (by decide) ?_)))))
        refine zB sl.dm rfl rfl rfl (by rw[dD]) (VC.d _) (λy hy=>by rw[kJ hy];rfl) (by simp only[jL];omega) (by simp only[jL];omega) (.inr rfl) (ys:=(A++[(⟨f2,l,t2,zk Tp (jl Tp (jl Tp (jl Tp a)))⟩:bD)]).map je) (by rw[List.map_append];rfl) (n2:=(A++[(⟨f2,l,t2,zk Tp (jl Tp (jl Tp (jl Tp a)))⟩:bD)]).length) (by rw[iU];rfl) λaQ8 c182=>?_
        refine aV fd.iI rfl rfl (fG sz.dm rfl rfl rfl rfl rfl (aA rfl) (cells2:=[_,_,_,_,_,_,_]) rfl (OL.nil (AW.rg hE rfl (ai rfl (aH rfl rfl (by omega) (aC rfl (OL.nil ?_)))))))
        exact AW.again (x:=(i,a,A,b3,c3)) (i+1,vz Tp (jl Tp (jl Tp (jl Tp a))),A++[⟨f2,l,t2,zk Tp (jl Tp (jl Tp (jl Tp a)))⟩],aQ8,c182) (by (simp only[];omega)) ⟨⟨by omega,by rw[iU,jL];omega,Ym h9 (show Ik S N ⟨f2,l,t2,zk Tp (jl Tp (jl Tp (jl Tp a)))⟩ from ⟨hft.1,hft.2,(show 1<=l by omega),(show l<=S by omega),Kv _ _⟩)⟩,Knows.app .Gs .di,dw.app (.cons rfl (.cons rfl (.cons rfl (.cons rfl .nil)))) (.cons rfl (.cons rfl (.cons rfl .nil)))⟩
     .have _hN1:=hN1;exact AW.exit (AW.reach (A,b3,c3) ⟨⟨by omega,h9⟩,Knows.app .gy (.nil),dw.app (.cons rfl (.cons rfl (.cons rfl .nil))) (.cons rfl (.cons rfl .nil))⟩)
    .have _hi:=aF1;refine OL.nd rfl (OL.nd rfl (OL.nd rfl (jZ rfl rfl (OL.nil (oz rfl ?_)))));exact AW.exit (AW.reach (A,b3,c3) ⟨⟨by omega,h9⟩,Knows.app .gy (.nil),dw.app (.cons rfl (.cons rfl (.cons rfl .nil))) (.cons rfl (.cons rfl .nil))⟩)
   .have _ha:=ha;refine OL.nd rfl (OL.nd rfl (jZ rfl rfl (ai rfl (OL.nd rfl (OL.nd rfl (OL.nd rfl (jZ rfl rfl ?_)))))));refine OL.nil (oz rfl ?_);exact AW.exit (AW.reach (A,b3,c3) ⟨⟨by omega,h9⟩,Knows.app .gy (.nil),dw.app (.cons rfl (.cons rfl (.cons rfl .nil))) (.cons rfl (.cons rfl .nil))⟩)
  rintro⟨A,b3,c3⟩ ⟨h8,h9⟩
  have h8:A.length<=14:=h8;have h9:∀ x,x ∈ A->Ik S N x:=h9;refine AW.seq ?_;refine AW.freeze 79 rfl (AW.DX 8 [.d (dI 1),.d (.sl []),.d (dI S),.d (dI N),.d (tH I),.bH 84 b2 N c2,.bH 182 b3 A.length c3] rfl (.cons vR (.cons bG.mt (.cons vR (.cons vR (.cons (eH (by rw[dD];omega) rfl) .gy))))) ?_)
  refine AW.freeze 84 rfl (AW.DX 8 [.d (dI 1),.d (.sl []),.d (dI S),.d (dI N),.d (tH I),.d (tH J),.bH 182 b3 A.length c3] rfl (.cons vR (.cons vR (.cons vR (.cons vR (.cons vR (.cons (eH (by rw[dD];omega) rfl) .di)))))) ?_)
  refine AW.freeze 182 rfl (AW.DX 8 [.d (dI 1),.d (.sl []),.d (dI S),.d (dI N),.d (tH I),.d (tH J),.d (lK A)] rfl (.cons vR (.cons vR (.cons vR (.cons vR (.cons vR (.cons vR (.cons (eH (by rw[dD]) rfl) .nil))))))) ?_)
  refine AW.rg hE rfl (aN ag.Auto rfl rfl (vs:=[_,_,_,_,_,_,_]) rfl (aA rfl) (fG sz.Auto rfl rfl rfl rfl rfl (aA rfl) (cells2:=[_,_,_,_,_,_,_]) rfl (OL.nil ?_)));exact AW.ret ⟨⟨S,N,I,J,A⟩,⟨⟨(show 1<=S by omega),h2,h3,λx hx=>⟨(h9 x hx).1,(h9 x hx).2.1,(h9 x hx).2.2.1,(h9 x hx).2.2.2.1⟩⟩,(by show S=_;omega),by omega,(by show N<=most;omega),h4,h5,λx hx=>(h9 x hx).2.2.2.2,h8⟩,⟨_,.dL rfl rfl ag.Auto (aA rfl) .nil,.le vR⟩,λ_ _ h=>by cases h⟩
