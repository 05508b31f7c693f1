/-
  Walks of package hmm on any model, part 2: the order of the silent states, the checks (printed by mk2.py).
-/
import Derived.Test.YteiohkpjgcioaaaGreatDoorKNum12
set_option maxRecDepth 6000
set_option maxHeartbeats 1600000
set_option linter.unusedVariables false
set_option linter.unusedSimpArgs false
namespace Go.Proofs.YteiohkpjgcioaaaGreatDoor
open Go Go.AL
noncomputable def aU0 (h:HM):Bool:=@decide h.Me (Classical.propDecidable _)
theorem av2 {h:HM}(f:h.Me):true=aU0 h:=(@decide_eq_true _ (Classical.propDecidable _) f).symm
theorem Yb {h:HM}(f:¬ h.Me):false=aU0 h:=(@decide_eq_false _ (Classical.propDecidable _) f).symm
noncomputable def aU1 (h:HM):Bool:=@decide h.PZ (Classical.propDecidable _)
theorem av3 {h:HM}(f:h.PZ):true=aU1 h:=(@decide_eq_true _ (Classical.propDecidable _) f).symm
theorem aU2 {h:HM}(f:¬ h.PZ):false=aU1 h:=(@decide_eq_false _ (Classical.propDecidable _) f).symm
theorem af6 {h:HM}(f:h.oh):ai P F.Jg [uY h] (.d (dB (aU0 h))):=by
 have e1:=f.ini;have e2:=f.trans;have e3:=f.stop;have e4:=f.emit;have e5:=f.ties;have e6:=f.yJ;have s0:=f.qR;have s1:=f.sZ;have n0:=f.st0;have n1:=f.st1;refine ai.intro fn.Jg (by rfl) (by rfl) (au (by rfl)) λE hE=>(AW.sg hE rfl (iC rfl rfl λb1=>(ay rfl (OL.nil (AW.seq (AW.sg hE rfl (aF fd.fO rfl rfl ?_)))))))
 refine ak ce.aQ rfl rfl rfl (aF fd.gZ rfl rfl (aG ag.Rat rfl rfl (vs:=[_,_,_]) rfl (au rfl) (tC (y:=dQ _) sl.aQ Dp rfl (by decide) (aY rfl vL (uP (B:=1048576) (l:=h.ini) (m:=[h.empty]) f.zI (Small.one f.zE) ⟨by omega,by simp;omega⟩) (nt rfl (OL.nil (AW.cond rfl (λc10=>?_) (λc10=>?_))))))))
 .have c10:¬ (iG (h.ini++[h.empty])=1):=by simpa using c10
  exact AW.sg hE rfl (ay rfl (OL.nil (AW.ret (aH.r ⟨_,.tmp rfl .nil,.le (aZ.bool (Yb λs=>c10 s.i))⟩))))
 .have c10:iG (h.ini++[h.empty])=1:=by simpa using c10
  refine AW.skip (AW.seq (AW.sg hE rfl (aF fd.bQ rfl rfl (ak ce.int rfl rfl rfl (ah rfl (OL.nil (AW.block ?_)))))));refine AW.aK (α:=Nat) [(1,_),(12,_)] [(1,_)] (λi=>[(13,.d (dI i))]) (λi=>[]) (λi=>i<=h.st/\∀ j,j<i->h.aT9 j) (λi=>h.st-i) 0 (.cons (fG rfl) (.cons (bM rfl) .nil)) (.cons (iJ rfl) .nil) ⟨⟨Nat.zero_le _,λj hj=>absurd hj (Nat.not_lt_zero j)⟩,.bC,.nil⟩ ?_
  rintro i ⟨h1,h2⟩
  refine AW.sg hE rfl (aN rfl rfl rfl (OL.nil (AW.seq (AW.cond rfl (λAO=>?_) (λAO=>?_)))))
  .try simp only[bY] at AO
   refine AW.skip (AW.seq (AW.block (AW.sg hE rfl (ah rfl (ay rfl (OL.nil (AW.seq ?_)))))));have t1:=f.x9 i (by omega)
   have t2:=f.wH i (by omega)
   have zS:=f.zS.get (by decide) i
   refine AW.dg 1 [0,1,2,3,4,5,6,7,8,9,10,11,12,13,14,15,16,17,18,19,20,21,22,23,24,25,26,27,28,29] aj hE rfl (by kernel_rfl) (OI.aP (os:=[_,_,_,_,_,_,_,_,_,_,_,_,_,_,_,_,_,_,_,_,_,_,_,_,_,_,_,_,_,_]) rfl ?_)
   refine aF fd.fD rfl rfl (ak ce.aW rfl rfl rfl (ah rfl (bg sl.aW [] rfl rfl (by omega) rfl rfl (bP ce.aQ rfl (aF fd.jf rfl rfl (ak ce.aQ rfl rfl rfl (ah rfl ?_)))))))
   refine bg sl.aQ 0 rfl rfl (by omega) rfl rfl (iU ag.Rat rfl (vs:=[_,_,_]) rfl (au rfl) (tC (y:=dQ _) sl.aQ Dp rfl (by decide) (aY rfl vL (uP (B:=1048576) (l:=h.trans.getD i []) (m:=[h.stop.getD i 0]) (f.zT i) (Small.one zS) ⟨by omega,by simp only[nN];omega⟩) (nt rfl (ah rfl (OL.split 29 rfl (λa1=>?_) (λa1=>?_)))))))
   .have a1:¬ (iG (h.trans.getD i []++[h.stop.getD i 0])=1):=by simpa using a1
    refine OL.nd rfl (OL.nd rfl (OL.nd rfl (OL.nd rfl (OL.nd rfl (OL.nd rfl (OL.nd rfl (OL.nd rfl ?_)))))));refine OL.nd rfl (OL.nd rfl (OL.nd rfl (OL.nd rfl (OL.nd rfl (OL.nd rfl (OL.nd rfl (iV rfl rfl ?_)))))));refine OL.nil (Hl rfl ?_);exact AW.sg hE rfl (ay rfl (OL.nil (AW.ret (aH.r ⟨_,.tmp rfl .nil,.le (aZ.bool (Yb λs=>a1 (s.t i (by omega))))⟩))))
   .have a1:iG (h.trans.getD i []++[h.stop.getD i 0])=1:=by simpa using a1
    refine OL.yes rfl (aF fd.bZ rfl rfl (OL.yes rfl (ak ce.bools rfl rfl rfl (OL.yes rfl (ah rfl (OL.yes rfl (bg sl.bools false rfl rfl (by omega) rfl rfl ?_)))))))
    refine OL.yes rfl (bP ce.bool rfl (OL.yes rfl (nt rfl (OL.yes rfl (ah rfl (OL.split 36 rfl (λa2=>?_) (λa2=>?_)))))))
    .have a2:h.silent.getD i false=false:=by simpa using a2
     refine OL.yes rfl (aF fd.dS rfl rfl (OL.yes rfl (ak ce.aW rfl rfl rfl (OL.yes rfl (ah rfl (OL.yes rfl (bg sl.aW [] rfl rfl (by omega) rfl rfl ?_)))))))
     refine OL.yes rfl (bP ce.aQ rfl (OL.yes rfl (aY rfl (.cons vR (.cons aZ.mt .nil)) (uP (B:=1048576) (l:=h.emit.getD i []) (m:=[]) (f.zM i) Small.nil ⟨by omega,by simp only[List.length_nil];omega⟩) ?_)))
     rw[List.append_nil];refine OL.yes rfl (nt rfl (OL.yes rfl (iV rfl rfl (eG rfl rfl (OL.nil (AW.cond rfl (λa3=>?_) (λa3=>?_)))))))
     .have a3:¬ (iG (h.emit.getD i [])=1):=by simpa using a3
      exact AW.sg hE rfl (ay rfl (OL.nil (AW.ret (aH.r ⟨_,.tmp rfl .nil,.le (aZ.bool (Yb λs=>a3 (s.m i (by omega) a2)))⟩))))
     .have a3:iG (h.emit.getD i [])=1:=by simpa using a3
      exact AW.skip (AW.rg hE rfl (aB rfl rfl (by omega) (ah rfl (OL.nil (AW.again (x:=i) (i+1) (by omega) ⟨⟨by omega,uf h2 ⟨a1,λ_=>a3⟩⟩,Knows.app .dR .bC,bn.app (.cons rfl .nil) (.nil)⟩)))))
    .have a2:h.silent.getD i false=true:=by simpa using a2
     refine OL.nd rfl (OL.nd rfl (OL.nd rfl (OL.nd rfl (OL.nd rfl (OL.nd rfl (OL.nd rfl (OL.yes rfl ?_)))))));refine eG rfl rfl (eG rfl rfl (OL.nil (jD rfl ?_)));exact AW.skip (AW.rg hE rfl (aB rfl rfl (by omega) (ah rfl (OL.nil (AW.again (x:=i) (i+1) (by omega) ⟨⟨by omega,uf h2 ⟨a1,λx=>by rw[a2] at x;cases x⟩⟩,Knows.app .dR .bC,bn.app (.cons rfl .nil) (.nil)⟩)))))
  .try simp only[bY] at AO
   exact AW.exit (AW.sg hE rfl (ay rfl (OL.nil (AW.ret (aH.r ⟨_,.tmp rfl .nil,.le (aZ.bool (av2 ⟨c10,λj hj=>(h2 j (by omega)).1,λj hj=>(h2 j (by omega)).2⟩))⟩)))))
theorem af7 {h:HM}(f:h.oh):ai P F.Jh [uY h] (.d (dB (aU1 h))):=by
 have e1:=f.ini;have e2:=f.trans;have e3:=f.stop;have e4:=f.emit;have e5:=f.ties;have e6:=f.yJ;have s0:=f.qR;have s1:=f.sZ;have n0:=f.st0;have n1:=f.st1;refine ai.intro fn.Jh (by rfl) (by rfl) (au (by rfl)) λE hE=>(AW.sg hE rfl (iC rfl rfl λb1=>(ay rfl (OL.nil (AW.seq (AW.sg hE rfl (aF fd.bQ rfl rfl ?_)))))))
 refine ak ce.int rfl rfl rfl (ah rfl (OL.nil (AW.block ?_)));refine AW.aK (α:=Nat) [(1,_),(6,_)] [(1,_)] (λi=>[(7,.d (dI i))]) (λi=>[]) (λi=>i<=h.st/\∀ q,q<i->∀ j,j<q->h.au9 q j) (λi=>h.st-i) 0 (.cons (fG rfl) (.cons (bM rfl) .nil)) (.cons (iJ rfl) .nil) ⟨⟨Nat.zero_le _,λj hj=>absurd hj (Nat.not_lt_zero j)⟩,.bC,.nil⟩ ?_
 rintro i ⟨h1,h2⟩
 refine AW.sg hE rfl (aN rfl rfl rfl (OL.nil (AW.seq (AW.cond rfl (λh8=>?_) (λh8=>?_)))))
 .try simp only[bY] at h8
  refine AW.skip (AW.seq (AW.block (AW.sg hE rfl (ah rfl (ay rfl (OL.nil (AW.sg hE rfl ?_)))))));refine ah rfl (ah rfl (OL.nil (AW.block ?_)));refine AW.aK (α:=Nat) [(1,_),(3,_),(6,_),(7,_),(10,_)] [(1,_)] (λj=>[(11,.d (dI j))]) (λj=>[]) (λj=>j<=i/\∀ q,q<j->h.au9 i q) (λj=>i-j) 0 (.cons (fG rfl) (.cons (bM rfl) (.cons (bM rfl) (.cons (bM rfl) (.cons (bM rfl) .nil))))) (.cons (iJ rfl) .nil) ⟨⟨Nat.zero_le _,λj hj=>absurd hj (Nat.not_lt_zero j)⟩,.bC,.nil⟩ ?_
  rintro j ⟨h3,h4⟩
  refine AW.sg hE rfl (aN rfl rfl rfl (OL.nil (AW.seq (AW.cond rfl (λh12=>?_) (λh12=>?_)))))
  .try simp only[bY] at h12
   refine AW.skip (AW.seq (AW.block (AW.sg hE rfl (ah rfl (ay rfl (OL.nil (AW.seq ?_)))))));have t2:=f.wH i (by omega)
   have t2j:=f.wH j (by omega)
   refine AW.dg 1 [0,1,2,3,4,5,6,7,8,9,10,11,12,13,14,15,16,17,18,19,20,21,22,23,24,25,26,27,28,29,30,31,32,33,34,35,36,37,38,39,40] aj hE rfl (by kernel_rfl) (OI.aP (os:=[_,_,_,_,_,_,_,_,_,_,_,_,_,_,_,_,_,_,_,_,_,_,_,_,_,_,_,_,_,_,_,_,_,_,_,_,_,_,_,_,_]) rfl ?_)
   refine aF fd.bZ rfl rfl (ak ce.bools rfl rfl rfl (ah rfl (bg sl.bools false rfl rfl (by omega) rfl rfl (bP ce.bool rfl (nt rfl (ah rfl (OL.split 20 rfl (λa1=>?_) (λa1=>?_))))))))
   .have a1:h.silent.getD i false=false:=by simpa using a1
    refine OL.yes rfl (aF fd.bZ rfl rfl (OL.yes rfl (ak ce.bools rfl rfl rfl (OL.yes rfl (ah rfl (OL.yes rfl (bg sl.bools false rfl rfl (by omega) rfl rfl ?_)))))))
    refine OL.yes rfl (bP ce.bool rfl (OL.yes rfl (nt rfl (iV rfl rfl (ah rfl (OL.split 28 rfl (λa2=>?_) (λa2=>?_)))))))
    .have a2:h.silent.getD j false=false:=by simpa using a2
     refine OL.yes rfl (aF fd.fF rfl rfl (OL.yes rfl (ak ce.ints rfl rfl rfl (OL.yes rfl (ah rfl (OL.yes rfl (bg sl.ints 0 rfl rfl (by omega) rfl rfl ?_)))))))
     refine OL.yes rfl (bP ce.int rfl (OL.yes rfl (aF fd.fF rfl rfl (OL.yes rfl (ak ce.ints rfl rfl rfl (OL.yes rfl (ah rfl ?_)))))));refine OL.yes rfl (bg sl.ints 0 rfl rfl (by omega) rfl rfl (OL.yes rfl (bP ce.int rfl (OL.yes rfl (dm rfl rfl rfl (iV rfl rfl (ah rfl ?_)))))))
     refine OL.split 41 rfl (λa3=>?_) (λa3=>?_)
     .have a3:h.ties.getD i 0=h.ties.getD j 0:=jC a3;refine OL.yes rfl (aF fd.dS rfl rfl (OL.yes rfl (ak ce.aW rfl rfl rfl (OL.yes rfl (ah rfl (OL.yes rfl (bg sl.aW [] rfl rfl (by omega) rfl rfl ?_)))))))
      refine OL.yes rfl (bP ce.aQ rfl (OL.yes rfl (aF fd.dS rfl rfl (OL.yes rfl (ak ce.aW rfl rfl rfl (OL.yes rfl (ah rfl ?_)))))));refine OL.yes rfl (bg sl.aW [] rfl rfl (by omega) rfl rfl (OL.yes rfl (bP ce.aQ rfl (OL.yes rfl (aY rfl vL (zA (f.zM i) (f.zM j) (by omega) (by omega) (by omega)) (OL.yes rfl (nt rfl ?_)))))))
      refine iV rfl rfl (OL.nil (AW.cond rfl (λa4=>?_) (λa4=>?_)))
      .have a4:¬ (h.emit.getD i []=h.emit.getD j []):=by simpa using a4
       exact AW.sg hE rfl (ay rfl (OL.nil (AW.ret (aH.r ⟨_,.tmp rfl .nil,.le (aZ.bool (aU2 λt=>a4 (t i j (by omega) (by omega) a1 a2 a3)))⟩))))
      .have a4:h.emit.getD i []=h.emit.getD j []:=by simpa using a4
       exact AW.skip (AW.rg hE rfl (aB rfl rfl (by omega) (ah rfl (OL.nil (AW.again (x:=j) (j+1) (by omega) ⟨⟨by omega,uf h4 λ_ _ _=>a4⟩,Knows.app .y9 .bC,bn.app (.cons rfl .nil) (.nil)⟩)))))
     .have a3:¬ h.ties.getD i 0=h.ties.getD j 0:=kK a3;refine OL.nd rfl (OL.nd rfl (OL.nd rfl (OL.nd rfl (OL.nd rfl (OL.nd rfl (OL.nd rfl (OL.nd rfl ?_)))))));refine OL.nd rfl (OL.nd rfl (OL.nd rfl (OL.nd rfl (eG rfl rfl (OL.nil (jD rfl ?_))))));refine AW.skip (AW.rg hE rfl (aB rfl rfl (by omega) (ah rfl (OL.nil ?_))))
      exact AW.again (x:=j) (j+1) (by omega) ⟨⟨by omega,uf h4 λ_ _ x=>absurd x a3⟩,Knows.app .y9 .bC,bn.app (.cons rfl .nil) (.nil)⟩
    .have a2:h.silent.getD j false=true:=by simpa using a2
     refine OL.nd rfl (OL.nd rfl (OL.nd rfl (OL.nd rfl (OL.nd rfl (OL.nd rfl (OL.nd rfl (OL.nd rfl ?_)))))));refine OL.nd rfl (OL.nd rfl (OL.nd rfl (eG rfl rfl (ah rfl (OL.nd rfl (OL.nd rfl (OL.nd rfl ?_)))))));refine OL.nd rfl (OL.nd rfl (OL.nd rfl (OL.nd rfl (OL.nd rfl (OL.nd rfl (OL.nd rfl (OL.nd rfl ?_)))))));refine OL.nd rfl (eG rfl rfl (OL.nil (jD rfl ?_)));refine AW.skip (AW.rg hE rfl (aB rfl rfl (by omega) (ah rfl (OL.nil ?_))))
     exact AW.again (x:=j) (j+1) (by omega) ⟨⟨by omega,uf h4 λ_ x _=>by rw[a2] at x;cases x⟩,Knows.app .y9 .bC,bn.app (.cons rfl .nil) (.nil)⟩
   .have a1:h.silent.getD i false=true:=by simpa using a1
    refine OL.nd rfl (OL.nd rfl (OL.nd rfl (OL.nd rfl (OL.nd rfl (OL.nd rfl (eG rfl rfl (ah rfl ?_)))))));refine OL.nd rfl (OL.nd rfl (OL.nd rfl (OL.nd rfl (OL.nd rfl (OL.nd rfl (OL.nd rfl (OL.nd rfl ?_)))))));refine OL.nd rfl (OL.nd rfl (OL.nd rfl (eG rfl rfl (ah rfl (OL.nd rfl (OL.nd rfl (OL.nd rfl ?_)))))));refine OL.nd rfl (OL.nd rfl (OL.nd rfl (OL.nd rfl (OL.nd rfl (OL.nd rfl (OL.nd rfl (OL.nd rfl ?_)))))));refine OL.nd rfl (eG rfl rfl (OL.nil (jD rfl ?_)));refine AW.skip (AW.rg hE rfl (aB rfl rfl (by omega) (ah rfl (OL.nil ?_))))
    exact AW.again (x:=j) (j+1) (by omega) ⟨⟨by omega,uf h4 λx _ _=>by rw[a1] at x;cases x⟩,Knows.app .y9 .bC,bn.app (.cons rfl .nil) (.nil)⟩
  .try simp only[bY] at h12
   exact AW.exit (AW.rg hE rfl (aB rfl rfl (by omega) (ah rfl (OL.nil (AW.again (x:=i) (i+1) (by omega) ⟨⟨by omega,uf h2 λq hq=>h4 q (by omega)⟩,Knows.app .dR .bC,bn.app (.cons rfl .nil) (.nil)⟩)))))
 .try simp only[bY] at h8
  exact AW.exit (AW.sg hE rfl (ay rfl (OL.nil (AW.ret (aH.r ⟨_,.tmp rfl .nil,.le (aZ.bool (av3 λi j hi hj=>h2 i (by omega) j hj))⟩)))))
noncomputable def aI1 (h:HM):Bool:=@decide h.ql (Classical.propDecidable _)
theorem TA {h:HM}(f:h.ql):true=aI1 h:=(@decide_eq_true _ (Classical.propDecidable _) f).symm
theorem av4 {h:HM}(f:¬ h.ql):false=aI1 h:=(@decide_eq_false _ (Classical.propDecidable _) f).symm
abbrev JJ (h:HM)(b1 b4 b5 b6 b10 t6:Nat)(s:List Int)(b c:Nat)(o:List Int):List (Nat × kL) :=
  [(1, .box b1 T.aU (yQ h)), (5, .box b5 T.ints [.bJ 10 b10 h.st h.st]), (6, .box b6 t6 [.fn F.lJ [.ptr 1 b1 0, .ptr 5 b5 0, .ptr 6 b6 0, .ptr 4 b4 0]]),
    (4,.box b4 T.ints [.bJ 1004 b o.length c]),(10,.row b10 h.st T.int 1 (s.map dI)),(1004,.row b c T.int 1 (o.map dI))]
def O1 (h:HM)(b1 b4 b5 b6 b10 t6:Nat)(s:List Int)(b c:Nat)(o:List Int):Mem:=lk none ((JJ h b1 b4 b5 b6 b10 t6 s b c o).map λp=>(p.1,some p.2))
theorem GU {h:HM}{b1 b4 b5 b6 b10 t6:Nat}{s s2:List Int}{b c b2 c2:Nat}{o o2:List Int}(id:Nat)(hn:O1 h b1 b4 b5 b6 b10 t6 s b c o id=none):O1 h b1 b4 b5 b6 b10 t6 s2 b2 c2 o2 id=none:=by
 unfold O1 at *;simp only[JJ,List.map_cons,List.map_nil,lk] at hn ⊢
 repeat (split at hn;· cases hn)
 simp only[*,if_false]
theorem KU {q:Rat}:0<yN q ↔ 0<q:=by
 rw[<- ND];have h:=zU q;omega
abbrev ba6:=List Int × Bool × Nat × Nat × List Int
def av5 (h:HM)(n:Nat):Prop:=∀ (s o:List Int) (i b1 b4 b5 b6 b10 t6 b c N:Nat),oZ h s<=n->WQ h s->(h.silent.getD i false=true->Abv h s i)->i<h.st->o.length+oZ h s<=N->N<=12 ->
 jv P F.lJ [.d (dI i),.ptr 1 b1 0,.ptr 5 b5 0,.ptr 6 b6 0,.ptr 4 b4 0] (O1 h b1 b4 b5 b6 b10 t6 s b c o) (λx:ba6=>.d (dB x.2.1)) (λx=>O1 h b1 b4 b5 b6 b10 t6 x.1 x.2.2.1 x.2.2.2.1 x.2.2.2.2)
  (λx=>Tz h s i x.1 x.2.1/\(x.2.1=true->x.2.2.2.2.length+oZ h x.1<=N))
theorem TB {h:HM}(f:h.oh){n:Nat}(ih:∀ k,k<n->av5 h k):av5 h n:=by
 have e1:=f.ini;have e2:=f.trans;have e3:=f.stop;have e4:=f.emit;have e5:=f.ties;have e6:=f.yJ;have s0:=f.qR;have s1:=f.sZ;have n0:=f.st0;have n1:=f.st1;intro s o i b1 b4 b5 b6 b10 t6 b c N hn hd ha hi hN hN2;have hl:=hd.len;refine jv.intro fn.lJ (by rfl) (by rfl) (au (by rfl)) λE hE=>(AW.sg hE rfl (ay rfl (OL.nil (AW.seq (AW.seq ?_)))))
 have hel:(s.map dI)[i]? = some (dI (s.getD i 0)):=by rw[List.getElem?_map,iZ,sU (show i<s.length by omega)];rfl
 refine AW.rg hE rfl (aF fd.bZ rfl rfl (ak ce.bools rfl rfl rfl (ah rfl (bg sl.bools false rfl rfl (by omega) rfl rfl (bP ce.bool rfl (nt rfl (ah rfl ?_)))))))
 refine OL.split 15 rfl (λa1=>?_) (λa1=>?_)
 .have a1:h.silent.getD i false=false:=by simpa using a1
  refine OL.nd rfl (OL.nd rfl (OL.nd rfl (OL.nd rfl (OL.nd rfl (iV rfl rfl (OL.nil (Hl rfl ?_)))))));refine AW.sg hE rfl (aF fd.bZ rfl rfl (ak ce.bools rfl rfl rfl (ah rfl (bg sl.bools false rfl rfl (by omega) rfl rfl (bP ce.bool rfl (nt rfl (ah rfl ?_)))))))
  refine OL.split 28 rfl (λa2=>?_) (λa2=>?_)
  .have a2:h.silent.getD i false=false:=by simpa using a2
   refine OL.nd rfl (OL.nd rfl (OL.nd rfl (OL.nd rfl (OL.nd rfl (iV rfl rfl (ay rfl (OL.nil ?_)))))));exact AW.ret ⟨(s,true,b,c,o),⟨Tz.same hd (λ_ e=>by rw[a1] at e;cases e) (λe=>by cases e),λ_=>hN⟩,⟨_,.tmp rfl .nil,.le vR⟩,λid blk hk=>uF (l:=JJ h b1 b4 b5 b6 b10 t6 _ _ _ _) (.cons rfl (.cons rfl (.cons rfl (.cons rfl (.cons rfl (.cons rfl trivial)))))) id blk hk⟩
  .have a2:h.silent.getD i false=true:=by simpa using a2
   refine OL.yes rfl (ak ce.ints rfl rfl rfl (OL.yes rfl (ah rfl (OL.yes rfl (dV sl.ints rfl rfl (by omega) (OL.yes rfl (GY ce.int (by decide) rfl rfl hel rfl ?_)))))))
   exact OL.yes rfl (dm rfl rfl rfl (eG rfl rfl (ay rfl (OL.nil (absurd (a1.symm.trans a2) (by decide))))))
 .have a1:h.silent.getD i false=true:=by simpa using a1
  refine OL.yes rfl (ak ce.ints rfl rfl rfl (OL.yes rfl (ah rfl (OL.yes rfl (dV sl.ints rfl rfl (by omega) (OL.yes rfl (GY ce.int (by decide) rfl rfl hel rfl ?_)))))))
  refine OL.yes rfl (bU rfl rfl rfl (eG rfl rfl (OL.nil (AW.cond rfl (λc21=>?_) (λc21=>?_)))))
  .have c21:s.getD i 0≠0:=by simpa using c21
   refine AW.sg hE rfl (aF fd.bZ rfl rfl (ak ce.bools rfl rfl rfl (ah rfl (bg sl.bools false rfl rfl (by omega) rfl rfl (bP ce.bool rfl (nt rfl (ah rfl ?_)))))))
   refine OL.split 28 rfl (λa2=>?_) (λa2=>?_)
   .have a2:h.silent.getD i false=false:=by simpa using a2
    refine OL.nd rfl (OL.nd rfl (OL.nd rfl (OL.nd rfl (OL.nd rfl (iV rfl rfl (ay rfl (OL.nil ?_)))))));exact absurd (a1.symm.trans a2) (by decide)
   .have a2:h.silent.getD i false=true:=by simpa using a2
    refine OL.yes rfl (ak ce.ints rfl rfl rfl (OL.yes rfl (ah rfl (OL.yes rfl (dV sl.ints rfl rfl (by omega) (OL.yes rfl (GY ce.int (by decide) rfl rfl hel rfl ?_)))))))
    refine OL.yes rfl (dm rfl rfl rfl (eG rfl rfl (ay rfl (OL.nil ?_))));exact AW.ret ⟨(s,decide (s.getD i 0=2),b,c,o),⟨Tz.same hd (λe _=>jC e) (λe=>(ha a1).bad hi (by have h1:=hd.rng i;have h2:=kK e;omega)),λ_=>hN⟩,⟨_,.tmp rfl .nil,.le vR⟩,λid blk hk=>uF (l:=JJ h b1 b4 b5 b6 b10 t6 _ _ _ _) (.cons rfl (.cons rfl (.cons rfl (.cons rfl (.cons rfl (.cons rfl trivial)))))) id blk hk⟩
  .have c21:s.getD i 0=0:=by simpa using c21
   have hz:=V3 (h:=h) hl hi c21;refine AW.skip (AW.sg hE rfl (ak ce.ints rfl rfl rfl (ah rfl (dV sl.ints rfl rfl (by omega) (AA sz.int rfl (VC.d _).vd rfl rfl (by rw[dF];omega) (es2:=(s.set i 1).map dI) (by rw[List.map_set]) (OL.nil (AW.seq ?_)))))))
   refine AW.seq ?_;have t1:=f.x9 i hi;refine AW.rg hE rfl (aF fd.fD rfl rfl (ak ce.aW rfl rfl rfl (ah rfl (bg sl.aW [] rfl rfl (by omega) rfl rfl (bP ce.aQ rfl (eH sl.aQ rfl rfl (ah rfl ?_)))))))
   refine OL.nil (AW.block ?_);refine AW.aK (α:=Nat × List Int × Nat × Nat × List Int) [(0,_),(2,_),(3,_),(4,_),(42,_),(43,_)] [(1,_),(5,_),(6,_)] (λ(j,s2,p,q,o2)=>[(44,.d (dI j))]) (λ(j,s2,p,q,o2)=>[(4,.box b4 T.ints [.bJ 1004 p o2.length q]),(10,.row b10 h.st T.int 1 (s2.map dI)),(1004,.row p q T.int 1 (o2.map dI))]) (λ(j,s2,p,q,o2)=>j<=h.st/\Mid h s i s2 j/\o2.length+oZ h s2+1<=N) (λ(j,s2,p,q,o2)=>h.st-j) (0,s.set i 1,b,c,o) (.cons (bM rfl) (.cons (fG rfl) (.cons (fG rfl) (.cons (fG rfl) (.cons (bM rfl) (.cons (bM rfl) .nil)))))) (.cons (iJ rfl) (.cons (iJ rfl) (.cons (iJ rfl) .nil))) ⟨⟨Nat.zero_le _,Mid.start hd hi c21,by omega⟩,.bC,.cons rfl (.cons rfl (.cons rfl .nil))⟩ ?_
   rintro⟨j,s2,p,q,o2⟩ ⟨h1,hm,hN3⟩
   have h1:j<=h.st:=h1;have hm:Mid h s i s2 j:=hm;have hN3:o2.length+oZ h s2+1<=N:=hN3;have hl2:=hm.dfs.len;refine AW.sg hE rfl (aN rfl rfl rfl (OL.nil (AW.seq (AW.cond rfl (λh45=>?_) (λh45=>?_)))))
   .try simp only[bY] at h45
    refine AW.skip (AW.seq (AW.block (AW.sg hE rfl (ah rfl (bg sl.aQ 0 rfl rfl (by omega) rfl rfl (iU ag.Rat rfl (vs:=[_,_,_]) rfl (au rfl) (al z.Rat rfl λb8=>?_)))))))
    refine ay rfl (dA sz.Rat rfl rfl rfl rfl rfl (au rfl) (cells2:=[_,_,_]) rfl (OL.nil (AW.seq ?_)));have zT:=(f.zT i).get (by decide) j
    by_cases hp:0<(h.trans.getD i []).getD j 0
    .refine AW.oz (by rw[hE];rfl) (SK.dG (aG ag.Rat rfl rfl (vs:=[_,_,_]) rfl (au rfl) (OL.nil ?_)))
     refine SK.dG (aY rfl .bC (lZ (x:=(h.trans.getD i []).getD j 0) (by omega)) (OL.nil ?_))
     refine SK.dG (iI rfl rfl (c:=true) (decide_eq_true (KU.2 hp)) (OL.nil ?_));refine SK.dG (ah rfl (OL.nil ?_));refine SK.dG (OL.yes rfl (ak (ce.yu) rfl rfl rfl (OL.nil ?_)));refine SK.dG (OL.yes rfl (ah rfl (OL.nil ?_)));refine SK.aK6 rfl (SO.Ey (args':=[.d (dI j),.ptr 1 b1 0,.ptr 5 b5 0,.ptr 6 b6 0,.ptr 4 b4 0]) (show 55<E.n by rw[hE];exact Nat.le_of_ble_eq_true (by rfl)) rfl vL (Mc:=O1 h b1 b4 b5 b6 b10 t6 s2 p q o2) (λid blk hk=>uF (l:=JJ h b1 b4 b5 b6 b10 t6 s2 p q o2) (.cons rfl (.cons rfl (.cons rfl (.cons rfl (.cons rfl (.cons rfl trivial)))))) id blk hk) (ih (oZ h s2) (Nat.lt_of_lt_of_le (hm.oZ c21 hi) hn) s2 o2 j b1 b4 b5 b6 b10 t6 p q (N-1) (Nat.le_refl _) hm.dfs (λsj=>hm.abv (ha a1) hi a1 (by omega) sj hp) (by omega) (by omega) (by omega)) (λx _ id hk=>GU id hk) ?_)
     rintro⟨s3,ok,p3,q3,o3⟩ ⟨v,w⟩
     have v:Tz h s2 j s3 ok:=v;have w:ok=true->o3.length+oZ h s3<=N-1:=w;refine SK.dG (OL.yes rfl (nt rfl (OL.nil ?_)));refine SK.dG (iV rfl rfl (OL.nil ?_));refine SK.nil (AW.cond rfl (λUf=>?_) (λUf=>?_))
     .have Uf:ok=false:=by simpa using Uf
      refine AW.sg hE rfl (ay rfl (OL.nil ?_));exact AW.ret ⟨(s3,false,p3,q3,o3),⟨Tz.fail hm v Uf rfl,λe=>by cases e⟩,⟨_,.tmp rfl .nil,.le vR⟩,λid blk hk=>uF (l:=JJ h b1 b4 b5 b6 b10 t6 _ _ _ _) (.cons rfl (.cons rfl (.cons rfl (.cons rfl (.cons rfl (.cons rfl trivial)))))) id blk hk⟩
     .have Uf:ok=true:=by simpa using Uf
      have hw:o3.length+oZ h s3+1<=N:=by have:=w Uf;omega
      refine AW.skip (AW.rg hE rfl (aB rfl rfl (by omega) (ah rfl (OL.nil ?_))))
      exact AW.again (x:=(j,s2,p,q,o2)) (j+1,s3,p3,q3,o3) (by (simp only[];omega)) ⟨⟨by omega,hm.step (Uf ▸ v),hw⟩,Knows.app .Lj .bC,bn.app (.cons rfl (.cons rfl (.cons rfl .nil))) (.cons rfl (.cons rfl (.cons rfl .nil)))⟩
    .refine AW.oz (by rw[hE];rfl) (SK.dG (aG ag.Rat rfl rfl (vs:=[_,_,_]) rfl (au rfl) (OL.nil ?_)))
     refine SK.dG (aY rfl .bC (lZ (x:=(h.trans.getD i []).getD j 0) (by omega)) (OL.nil ?_))
     refine SK.dG (iI rfl rfl (c:=false) (decide_eq_false λe=>hp (KU.1 e)) (OL.nil ?_));refine SK.dG (ah rfl (OL.nil ?_));refine SK.dG (OL.nd rfl (OL.nil ?_));refine SK.dG (OL.nd rfl (OL.nil ?_));refine SK.dG (OL.nd rfl (OL.nil ?_));refine SK.dG (OL.nd rfl (OL.nil ?_));refine SK.dG (eG rfl rfl (OL.nil ?_));refine SK.nil (jD rfl ?_);refine AW.skip (AW.rg hE rfl (aB rfl rfl (by omega) (ah rfl (OL.nil ?_))))
     exact AW.again (x:=(j,s2,p,q,o2)) (j+1,s2,p,q,o2) (by (simp only[];omega)) ⟨⟨by omega,hm.skip hp,hN3⟩,Knows.app .Lj .bC,bn.app (.cons rfl (.cons rfl (.cons rfl .nil))) (.cons rfl (.cons rfl (.cons rfl .nil)))⟩
   .try simp only[bY] at h45
    refine AW.exit (AW.seq ?_);obtain rfl:j=h.st:=by omega
    refine AW.rg hE rfl (ak ce.ints rfl rfl rfl (ah rfl (dV sl.ints rfl rfl (by omega) (AA sz.int rfl (VC.d _).vd rfl rfl (by rw[dF];omega) (es2:=(s2.set i 2).map dI) (by rw[List.map_set]) (OL.nil (AW.sg hE rfl (ak ce.ints rfl rfl rfl ?_)))))))
    refine ah rfl (tC sl.ints (VC.d _).vd rfl (by decide) ?_)
    refine yG sl.ints rfl rfl rfl (by rw[dF]) (VC.d _) (xs:=[dI i]) (λy hy=>by rw[qm hy];rfl) (by simp;omega) (by simp;omega) (.inl rfl) (ys:=(o2++[(i:Int)]).map dI) (by rw[List.map_append];rfl) (n2:=(o2++[(i:Int)]).length) (by rw[jT];rfl) λp2 q2=>?_
    refine dA sz.ints rfl rfl rfl rfl rfl (au rfl) rfl (OL.nil (AW.seq (AW.to [] [(1,_),(5,_),(6,_),(4,_),(10,_),(65,_)] .nil (.cons rfl (.cons rfl (.cons rfl (.cons rfl (.cons rfl (.cons rfl trivial)))))) (AW.rename 65 1004 rfl (AW.vC 4 [.bJ 1004 p2 (o2++[(i:Int)]).length q2] rfl (.cons YS .nil) (AW.rg hE rfl (ay rfl ?_)))))));refine OL.nil ?_;exact AW.ret ⟨(s2.set i 2,true,p2,q2,o2++[(i:Int)]),⟨hm.fin hi c21,λ_=>by have:=V4 (h:=h) hl2 hi;show (o2++[(i:Int)]).length+oZ h (s2.set i 2)<=N;rw[jT,nN];omega⟩,⟨_,.tmp rfl .nil,.le vR⟩,λid blk hk=>uF (l:=JJ h b1 b4 b5 b6 b10 t6 _ _ _ _) (.cons rfl (.cons rfl (.cons rfl (.cons rfl (.cons rfl (.cons rfl trivial)))))) id blk hk⟩
theorem ba7 {h:HM}(f:h.oh)(n:Nat):av5 h n:=Nat.strongRecOn n λ_ ih=>TB f ih
theorem TD {l:List Int}{b c:Nat}(nl:l.length<=1024):jv P F.iw [.bJ 1004 b l.length c] (mem1 1004 (.row b c T.int 1 (l.map dI))) (λ_:List Int=>.jM []) (λl2=>mem1 1004 (.row b c T.int 1 (l2.map dI))) (λl2=>l2.length=l.length):=by
 refine jv.intro fn.iw (by rfl) (by rfl) (au (by rfl)) λE hE=>(AW.sg hE rfl (fQ rfl (WI sl.ints rfl rfl (fC rfl rfl (by omega) (ay rfl (ay rfl (OL.nil ?_)))))))
 refine AW.block ?_;refine AW.aK (α:=Nat × Int × List Int) [(0,_)] [] (λ(i,j,l2)=>[(2,.d (dI i)),(3,.d (dI j))]) (λ(i,j,l2)=>[(1004,.row b c T.int 1 (l2.map dI))]) (λ(i,j,l2)=>l2.length=l.length/\(i:Int)<=l.length /\ -1<=j/\j<l.length) (λ(i,j,l2)=>(j+1-i).toNat) (0,(l.length:Int)-1,l) (.cons (uH rfl) .nil) .nil ⟨⟨rfl,by omega,by omega,by omega⟩,.dR,.cons rfl .nil⟩ ?_
 rintro⟨i,j,l2⟩ ⟨hl,h1,h2,h3⟩
 have hl:l2.length=l.length:=hl;have h1:(i:Int)<=l.length:=h1;have h2:-1<=j:=h2;have h3:j<l.length:=h3;refine AW.seq (AW.sg hE rfl (ah rfl (ah rfl (aN rfl rfl rfl (OL.nil (AW.cond rfl (λh9=>?_) (λh9=>?_)))))))
 .try simp only[bY] at h9
  refine AW.skip (AW.seq (AW.block ?_));obtain⟨q,rfl⟩:∃ q:Nat,j=q:=⟨j.toNat,by omega⟩
  have el1:(l2.map dI)[i]? = some (dI (l2.getD i 0)):=by rw[List.getElem?_map,iZ,sU (show i<l2.length by omega)];rfl
  have el2:(l2.map dI)[q]? = some (dI (l2.getD q 0)):=by rw[List.getElem?_map,iZ,sU (show q<l2.length by omega)];rfl
  refine AW.dg 1 [0,1,2,3,4,5,6,7,8,9,10,11,12,13,14,15] aj hE rfl (by kernel_rfl) (OI.aP (os:=[_,_,_,_,_,_,_,_,_,_,_,_,_,_,_,_]) rfl ?_)
  refine fQ rfl (ah rfl (fQ rfl (ah rfl (fQ rfl (ah rfl (dV sl.ints rfl rfl (by omega) (GY ce.int (by decide) rfl rfl el2 rfl ?_)))))))
  refine fQ rfl (ah rfl (dV sl.ints rfl rfl (by omega) (GY ce.int (by decide) rfl rfl el1 rfl (dV sl.ints rfl rfl (by omega) (AA sz.int rfl (VC.d _).vd rfl rfl (by rw[dF];omega) (es2:=(l2.set i (l2.getD q 0)).map dI) (by rw[List.map_set]) (dV sl.ints rfl rfl (by omega) (AA sz.int rfl (VC.d _).vd rfl rfl (by rw[dF,List.length_set];omega) (es2:=((l2.set i (l2.getD q 0)).set q (l2.getD i 0)).map dI) (by simp only[List.map_set]) ?_)))))))
  refine OL.nil (AW.rg hE rfl (ah rfl (aB rfl rfl (by omega) (ah rfl (fC rfl rfl (by omega) (ay rfl (ay rfl ?_)))))))
  refine OL.nil ?_;exact AW.again (x:=(i,(q:Int),l2)) (i+1,(q:Int)-1,(l2.set i (l2.getD q 0)).set q (l2.getD i 0)) (by (simp only[];omega)) ⟨⟨by rw[List.length_set,List.length_set];exact hl,by omega,by omega,by omega⟩,Knows.app .bC .dR,.cons rfl .nil⟩
 .try simp only[bY] at h9
  exact AW.exit (⟨l2,hl,⟨[],.nil,[],.nil,rfl⟩,bH rfl⟩)
theorem Yc {h:HM}(f:h.oh):ai P F.zo [uY h] (.jM [.junk,.d (dB (aI1 h))]):=by
 have e1:=f.ini;have e2:=f.trans;have e3:=f.stop;have e4:=f.emit;have e5:=f.ties;have e6:=f.yJ;have s0:=f.qR;have s1:=f.sZ;have n0:=f.st0;have n1:=f.st1;refine ai.intro fn.zo (by rfl) (by rfl) (au (by rfl)) λE hE=>(AW.sg hE rfl (iC rfl rfl λb1=>(oq rfl (ay rfl (OL.nil (AW.sg hE rfl (al z.ints rfl λb4=>?_)))))))
 refine OL.nil (AW.sg hE rfl (aF fd.bQ rfl rfl (ak ce.int rfl rfl rfl (Xd dI 0 sl.ints z.int (.cons (VC.d _) .nil) rfl rfl (Nat.le_refl _) (by omega) (by omega) rfl λb10=>(al z.ints rfl λb5=>(dA sz.ints rfl rfl rfl rfl rfl (au rfl) (cells2:=[_]) rfl (OL.nil ?_)))))))
 refine AW.sg hE rfl (al z.yu rfl λb6=>(OL.nil (AW.sg hE rfl (mkF (vs:=[_,_,_,_]) rfl (dA sz.yu rfl rfl rfl rfl rfl (au rfl) (cells2:=[_]) rfl (OL.nil (AW.seq ?_)))))));refine AW.sg hE rfl (aF fd.bQ rfl rfl (ak ce.int rfl rfl rfl (ah rfl (OL.nil (AW.block (AW.aK7 1004 T.int 1 rfl (AW.vC 4 [.bJ 1004 0 0 0] rfl (.cons YV .nil) ?_)))))));refine AW.aK (α:=Nat × List Int × Nat × Nat × List Int) [(1,_),(4,_),(5,_),(6,_),(13,_)] [(1,_),(5,_),(6,_)] (λ(i,s,p,q,o)=>[(14,.d (dI i))]) (λ(i,s,p,q,o)=>[(4,.box b4 T.ints [.bJ 1004 p o.length q]),(10,.row b10 h.st T.int 1 (s.map dI)),(1004,.row p q T.int 1 (o.map dI))]) (λ(i,s,p,q,o)=>i<=h.st/\WQ h s/\(∀ k,s.getD k 0≠1)/\(∀ j,j<i->h.silent.getD j false=true->s.getD j 0=2)/\o.length+oZ h s<=12) (λ(i,s,p,q,o)=>h.st-i) (0,List.replicate h.st 0,0,0,[]) (.cons (fG rfl) (.cons (fG rfl) (.cons (fG rfl) (.cons (fG rfl) (.cons (bM rfl) .nil))))) (.cons (iJ rfl) (.cons (iJ rfl) (.cons (iJ rfl) .nil))) ⟨⟨Nat.zero_le _,WQ.zero h,λk=>by rw[EY];decide,λj hj=>absurd hj (Nat.not_lt_zero j),by have:=GR (p:=λk=>(List.replicate h.st (0:Int)).getD k 0 == 0) h.st;show 0+oZ h _<=12;unfold oZ;omega⟩,.bC,.cons rfl (.cons rfl (.cons rfl .nil))⟩ ?_
 rintro⟨i,s,p,q,o⟩ ⟨h1,hd,h2,h3,h4⟩
 have h1:i<=h.st:=h1;have hd:WQ h s:=hd;have h2:∀ k,s.getD k 0≠1:=h2;have h3:∀ j,j<i->h.silent.getD j false=true->s.getD j 0=2:=h3;have h4:o.length+oZ h s<=12:=h4;refine AW.sg hE rfl (aN rfl rfl rfl (OL.nil (AW.seq (AW.cond rfl (λh15=>?_) (λh15=>?_)))))
 .try simp only[bY] at h15
  refine AW.skip (AW.seq (AW.block (AW.sg hE rfl (ah rfl (ay rfl (OL.nil (AW.seq ?_)))))));refine AW.oz (by rw[hE];rfl) (SK.dG (ak ce.yu rfl rfl rfl (OL.nil ?_)))
  refine SK.dG (ah rfl (OL.nil ?_));refine SK.G5 (SO.Ey (args':=[.d (dI i),.ptr 1 b1 0,.ptr 5 b5 0,.ptr 6 b6 0,.ptr 4 b4 0]) (show 19<E.n by rw[hE];exact Nat.le_of_ble_eq_true (by rfl)) rfl vL (Mc:=O1 h b1 b4 b5 b6 b10 T.yu s p q o) (λid blk hk=>uF (l:=JJ h b1 b4 b5 b6 b10 T.yu s p q o) (.cons rfl (.cons rfl (.cons rfl (.cons rfl (.cons rfl (.cons rfl trivial)))))) id blk hk) (ba7 f (oZ h s) s o i b1 b4 b5 b6 b10 T.yu p q 12 (Nat.le_refl _) hd (λ_ r _ k _ e=>absurd e (h2 k)) (by omega) h4 (Nat.le_refl _)) (λx _ id hk=>GU id hk) ?_)
  rintro⟨s3,ok,p3,q3,o3⟩ ⟨v,w⟩
  have v:Tz h s i s3 ok:=v;have w:ok=true->o3.length+oZ h s3<=12:=w;refine SK.dG (nt rfl (OL.nil ?_));refine SK.nil (AW.cond rfl (λc20=>?_) (λc20=>?_))
  .have c20:ok=false:=by simpa using c20
   exact AW.sg hE rfl (oq rfl (ay rfl (OL.nil (AW.ret (aH.r ⟨_,.tmp rfl (.tmp rfl .nil),_,.cons (.le (aZ.junk _)) (.cons (.le (aZ.bool (av4 (v.bad c20)))) .nil),rfl⟩)))))
  .have c20:ok=true:=by simpa using c20
   have hv:=v.good c20;refine AW.skip (AW.rg hE rfl (aB rfl rfl (by omega) (ah rfl (OL.nil ?_))))
   exact AW.again (x:=(i,s,p,q,o)) (i+1,s3,p3,q3,o3) (by (simp only[];omega)) ⟨⟨by omega,hv.1,λk e=>h2 k ((hv.2.1 k).1 e),uf (λj hj sj=>hv.2.2.1 j (h3 j hj sj)) hv.2.2.2,w c20⟩,Knows.app .y9 .bC,bn.app (.cons rfl (.cons rfl (.cons rfl .nil))) (.cons rfl (.cons rfl (.cons rfl .nil)))⟩
 .try simp only[bY] at h15
  refine AW.exit (AW.seq ?_);obtain rfl:i=h.st:=by omega
  refine AW.oz (by rw[hE];rfl) (SK.dG (ak ce.ints rfl rfl rfl (OL.nil ?_)))
  refine SK.G5 (SO.Ey (show 23<E.n by rw[hE];exact Nat.le_of_ble_eq_true (by rfl)) rfl vL (Mc:=mem1 1004 (.row p q T.int 1 (o.map dI))) (bH rfl) (TD (by omega)) (λx _ id hk=>by unfold mem1 at hk ⊢;split at hk;cases hk;rename_i e;rw[if_neg e]) ?_)
  intro l2 hl2;exact SK.nil (AW.sg hE rfl (ak ce.ints rfl rfl rfl (uj rfl (ay rfl (OL.nil (AW.ret (aH.r ⟨_,.tmp rfl (.tmp rfl .nil),_,.cons (.le (aZ.junk _)) (.cons (.le (aZ.bool (TA (hd.Ya λk hk sk=>h3 k hk sk)))) .nil),rfl⟩)))))))
