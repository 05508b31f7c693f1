/-
  N, part 13: the specification's look for circles of silent states.
-/
import Derived.Test.YteiohkpjgcioaaaGreatDoorKNum12
set_option linter.unusedVariables false
set_option linter.unusedSimpArgs false
namespace Go.AL
open Go Go.BigFrame
structure Gon (h:HM) (l:List Bool):Prop where
 len:l.length=h.st
 ord:∃ (r:Nat->Nat) (T:Nat),∀ i,i<h.st->l.getD i false=true->h.silent.getD i false=true->r i<T/\∀ j,j<h.st->h.silent.getD j false=true->0<(h.trans.getD i []).getD j 0->l.getD j false=true/\r j<r i
structure Pas (h:HM) (l l2:List Bool) (i:Nat):Prop where
 gon:Gon h l2
 up:∀ j,l.getD j false=true->l2.getD j false=true
 don:∀ q,q<i->q<h.st->(h.silent.getD q false=true->∀ j,j<h.st->h.silent.getD j false=true->0<(h.trans.getD q []).getD j 0->l.getD j false=true)->l2.getD q false=true
def Opn (h:HM)(l:List Bool)(i j:Nat)(op:Bool):Prop:=op=true ↔ ∃ q,q<j/\h.silent.getD q false=true/\l.getD q false=false/\0<(h.trans.getD i []).getD q 0
theorem Opn.zero {h:HM}{l:List Bool}{i:Nat}:Opn h l i 0 false:=⟨λe=>(by cases e),λ⟨q,hq,_⟩=>absurd hq (Nat.not_lt_zero q)⟩
theorem Opn.keep {h:HM}{l:List Bool}{i j:Nat}(o:Opn h l i j true):Opn h l i (j+1) true:=⟨λe=>let ⟨q,hq,x⟩:=o.1 e;⟨q,by omega,x⟩,λ_=>rfl⟩
theorem Opn.step {h:HM}{l:List Bool}{i j:Nat}{b:Bool}(o:Opn h l i j false)(hb:b=true ↔ h.silent.getD j false=true/\l.getD j false=false/\0<(h.trans.getD i []).getD j 0):Opn h l i (j+1) b:=by
 refine⟨λe=>⟨j,by omega,hb.1 e⟩,λ⟨q,hq,x⟩=>?_⟩
 rcases Nat.lt_or_ge q j with y|y
 .exact absurd (o.2 ⟨q,y,x⟩) (by decide)
 .obtain rfl:q=j:=by omega
  exact hb.2 x
theorem Gon.zero (h:HM):Gon h (List.replicate h.st false):=⟨List.length_replicate,⟨λ_=>0,0,λi _ e=>by
 rw[iZ,List.getElem?_replicate] at e
 split at e <;> cases e⟩⟩
theorem Pas.zero {h:HM}{l:List Bool}(g:Gon h l):Pas h l l 0:=⟨g,λ_ e=>e,λq hq=>absurd hq (Nat.not_lt_zero q)⟩
theorem Pas.step {h:HM}{l l2:List Bool}{i:Nat}{op v:Bool}(p:Pas h l l2 i)(hi:i<h.st)(o:Opn h l2 i h.st op)(hv:v=(l2.getD i false || !op || !h.silent.getD i false)):Pas h l (l2.set i v) (i+1):=by
 have hl:=p.gon.len;have e:∀ k,(l2.set i v).getD k false=if k=i then v else l2.getD k false:=o5 (by omega)
 have mono:∀ k,l2.getD k false=true->(l2.set i v).getD k false=true:=λk hk=>by
  rw[e k];split
  .rename_i x;subst x;rw[hv,hk];rfl
  .exact hk
 refine⟨⟨by rw[List.length_set];exact hl,?_⟩,λk hk=>mono k (p.up k hk),λq hq hqs hp=>?_⟩
 .obtain⟨r,T,hr⟩:=p.gon.ord;by_cases h1:l2.getD i false=true
  .refine⟨r,T,λk hk e1 sk=>?_⟩;have e2:l2.getD k false=true:=by
    rw[e k] at e1
    split at e1
    .rename_i x;rw[x];exact h1
    .exact e1
   obtain⟨a,b⟩:=hr k hk e2 sk;exact⟨a,λj hj sj pj=>⟨mono j (b j hj sj pj).1,(b j hj sj pj).2⟩⟩
  .refine⟨λk=>if k=i then T else r k,T+1,λk hk e1 sk=>?_⟩
   by_cases x:k=i
   .subst x;rw[e k,if_pos rfl] at e1;have ho:op=false:=by
     rw[hv,sk] at e1;cases op with
     | false=>rfl
     | true=>simp at e1;exact absurd e1 (by simpa using h1)
    refine⟨by simp,λj hj sj pj=>?_⟩
    have hg:l2.getD j false=true:=by
     cases hg:l2.getD j false with
     | true=>rfl
     | false=>have:=o.2 ⟨j,hj,sj,hg,pj⟩;rw[ho] at this;cases this
    have hne:j≠k:=λy=>h1 (by rw[<- y];exact hg)
    refine⟨mono j hg,?_⟩;simp only[if_neg hne,if_pos];exact (hr j hj hg sj).1
   .rw[e k,if_neg x] at e1;obtain⟨a,b⟩:=hr k hk e1 sk;refine⟨by simp only[if_neg x];omega,λj hj sj pj=>?_⟩
    obtain⟨c1,c2⟩:=b j hj sj pj;have hne:j≠i:=λy=>h1 (by rw[<- y];exact c1)
    exact⟨mono j c1,by simp only[if_neg hne,if_neg x];exact c2⟩
 .rcases Nat.lt_or_ge q i with x|x
  .exact mono q (p.don q x hqs hp)
  .obtain rfl:q=i:=by omega
   rw[e q,if_pos rfl,hv];cases hs:h.silent.getD q false with
   | false=>simp
   | true =>
    have ho:op=false:=by
     cases ho:op with
     | false=>rfl
     | true =>
      obtain⟨j,hj,sj,gj,pj⟩:=o.1 ho;have:=p.up j (hp hs j hj sj pj);rw[gj] at this;cases this
    rw[ho];simp
theorem Wp {h:HM}{l:List Bool}{r:Nat->Nat}(hr:h.X9 r):∀ (n q:Nat),r q<=n->q<h.st->l.getD q false=false ->
  ∃ k,k<h.st/\l.getD k false=false/\(h.silent.getD k false=true->∀ j,j<h.st->h.silent.getD j false=true->0<(h.trans.getD k []).getD j 0->l.getD j false=true)
 | n, q, hn, hq, h0 => by
  by_cases hx:h.silent.getD q false=true->∀ j,j<h.st->h.silent.getD j false=true->0<(h.trans.getD q []).getD j 0->l.getD j false=true
  .exact⟨q,hq,h0,hx⟩
  .obtain⟨sq,hx⟩:=Classical.not_imp.1 hx;obtain⟨j,hx⟩:=Classical.not_forall.1 hx;obtain⟨hj,hx⟩:=Classical.not_imp.1 hx;obtain⟨sj,hx⟩:=Classical.not_imp.1 hx;obtain⟨pj,hx⟩:=Classical.not_imp.1 hx;have hlt:=hr q j hq hj sq sj pj
   match n with
   | 0=>omega
   | n+1=>exact Wp hr n j (by omega) hj (by simpa using hx)
theorem Pas.more {h:HM}{l l2:List Bool}{k:Nat}(p:Pas h l l2 h.st)(hk:k<h.st)(hc:h.ql->k<=cnt (λi=>l.getD i false) h.st):h.ql->k+1<=cnt (λi=>l2.getD i false) h.st:=λhR=>by
 have h1:=hc hR;obtain⟨r,hr⟩:=hR;by_cases ha:∃ q,q<h.st/\l.getD q false=false
 .obtain⟨q,hq,h0⟩:=ha;obtain⟨j,hj,j0,hp⟩:=Wp hr (r q) q (Nat.le_refl _) hq h0;have:=cnt_lt (p:=λi=>l.getD i false) (q:=λi=>l2.getD i false) (n:=h.st) (λi _ e=>p.up i e) ⟨j,hj,j0,p.don j hj hj hp⟩;omega
 .have:∀ q,q<h.st->l2.getD q false=true:=λq hq=>p.up q (by
   cases e:l.getD q false with
   | true=>rfl
   | false=>exact absurd ⟨q,hq,e⟩ ha)
  have:=VZ this;omega
theorem Gon.Ya {h:HM}{l:List Bool}(g:Gon h l)(ha:∀ j,j<h.st->l.getD j false=true):h.ql:=by
 obtain⟨r,T,hr⟩:=g.ord;exact⟨r,λi j hi hj si sj pj=>((hr i hi (ha i hi) si).2 j hj sj pj).2⟩
