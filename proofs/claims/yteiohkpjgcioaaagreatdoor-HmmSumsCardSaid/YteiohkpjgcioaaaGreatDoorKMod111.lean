/-
  M, chapter 24: arcs in order, without zeros, are told by their matrices: Form and Tidy give the same.
-/
import Derived.Test.YteiohkpjgcioaaaGreatDoorKWkB
set_option linter.unusedVariables false
set_option linter.unusedSimpArgs false
namespace Go.Proofs.YteiohkpjgcioaaaGreatDoor
open Go Go.AL
def cmpI (a b:Int):Int:=if a<b then -1 else if b<a then 1 else 0
theorem cmp_isNaN_int {x:Int}:FSpec P F.cmp_isNaN_int [.d (dI x)] (.d (dB false)):=by
 refine FSpec.intro fn.cmp_isNaN_int (by rfl) (by rfl) (nb9 (by rfl)) fun E hE=>(AW.sg hE rfl (asD rfl (OL.nil (AW.sg hE rfl (mvD rfl (mvD rfl (c_neq rfl rfl rfl ?_)))))))
 exact asD rfl (OL.nil (AW.ret (RetQ.r ⟨_,.tmp rfl .nil,.le (VLe.bool (by simp_all))⟩)))
theorem cmp_Compare_int {x y:Int}:FSpec P F.cmp_Compare_int [.d (dI x),.d (dI y)] (.d (dI (cmpI x y))):=by
 refine FSpec.intro fn.cmp_Compare_int (by rfl) (by rfl) (nb9 (by rfl)) fun E hE=>(AW.sg hE rfl (asD rfl (OL.nil (AW.sg hE rfl (mvD rfl (clv rfl vL (cmp_isNaN_int) (asD rfl ?_)))))))
 refine OL.nil (AW.sg hE rfl (mvD rfl (clv rfl vL (cmp_isNaN_int) (asD rfl (OL.nil (AW.seq (AW.sg hE rfl ?_)))))))
 refine mvD rfl (OL.nil (cnF rfl ?_))
 refine AW.skip (AW.seq (AW.sg hE rfl (mvD rfl (OL.nil (cnF rfl ?_)))))
 refine AW.skip (AW.seq (AW.sg hE rfl (mvD rfl (mvD rfl (c_lss rfl rfl rfl (OL.nil (AW.cond rfl (fun h1=>?_) (fun h1=>?_))))))))
 ·have h1:=dt9 h1
  exact AW.sg hE rfl (asD rfl (OL.nil (AW.ret (RetQ.r ⟨_,.tmp rfl .nil,.le (VLe.int ((if_pos h1).symm))⟩))))
 ·have h1:=df9 h1
  refine AW.skip (AW.seq (AW.sg hE rfl (mvD rfl (mvD rfl (c_gtr rfl rfl rfl (OL.nil (AW.cond rfl (fun h2=>?_) (fun h2=>?_))))))))
  ·have h2:=dt9 h2
   exact AW.sg hE rfl (asD rfl (OL.nil (AW.ret (RetQ.r ⟨_,.tmp rfl .nil,.le (VLe.int (by unfold cmpI;rw [if_neg h1,if_pos h2]))⟩))))
  ·have h2:=df9 h2
   exact AW.skip (AW.sg hE rfl (asD rfl (OL.nil (AW.ret (RetQ.r ⟨_,.tmp rfl .nil,.le (VLe.int (by unfold cmpI;rw [if_neg h1,if_neg h2]))⟩)))))
theorem clone_ints {l:List Int}(nl:l.length≤1099511627776):FSpec P F.slices_Clone_ints_int [.d (ints l)] (.d (ints l)):=by
 refine FSpec.intro fn.slices_Clone_ints_int (by rfl) (by rfl) (nb9 (by rfl)) fun E hE=>(AW.sg hE rfl (asM rfl (OL.nil (AW.seq (AW.sg hE rfl (mvD rfl (isNil sl.ints.u rfl (fun y hy=>by obtain ⟨a,_,rfl⟩:=mm9 hy;exact Nat.succ_pos _) rfl fun b hb=>?_)))))))
 refine OL.nil (AW.cond rfl (fun h=>?_) (fun h=>?_))
 ·have hL:l=[]:=by have:=hb h;simpa using this
  exact AW.sg hE rfl (asM rfl (OL.nil (AW.ret (RetQ.r ⟨_,.tmp rfl .nil,.le (hL ▸ VLe.mt)⟩))))
 ·have _h:=h
  exact AW.skip (AW.sg hE rfl (lt0 sl.ints (mvD rfl (apMD sl.ints rfl rfl (VC.d _) (fun y hy=>by obtain ⟨a,_,rfl⟩:=mm9 hy;rfl) (by simp;omega) (by simp;omega) (asD rfl (OL.nil (AW.ret (RetQ.r ⟨_,.tmp rfl .nil,.le vR⟩))))))))
def orL:List Int→Int
 | []=>0
 | x::r=>if x=0 then orL r else x
theorem orL_at:∀ {l:List Int} {i:Nat},i<l.length→(∀ j,j<i→l.getD j 0=0)→l.getD i 0≠0→orL l=l.getD i 0
 | x::r,0,_,_,h=>if_neg h
 | x::r,i+1,hi,hz,h=>(if_pos (hz 0 (Nat.zero_lt_succ _))).trans (orL_at (by simpa using hi) (fun j hj=>hz (j+1) (by omega)) h)
theorem orL_none:∀ {l:List Int},(∀ j,j<l.length→l.getD j 0=0)→orL l=0
 | [],_=>rfl
 | x::r,h=>(if_pos (h 0 (Nat.zero_lt_succ _))).trans (orL_none fun j hj=>h (j+1) (by simpa using hj))
theorem cmp_cI (a b:Nat):cmpI (a:Int) (b:Int)=cI a b:=by
 unfold cmpI cI
 by_cases h1:a<b
 ·rw [if_pos (by omega),if_pos h1]
 ·rw [if_neg (by omega),if_neg h1]
  by_cases h2:b<a
  ·rw [if_pos (by omega),if_pos h2]
  ·rw [if_neg (by omega),if_neg h2]
theorem ord_or (x y:Arc9):orL [cI x.f y.f,cI x.l y.l,cI x.t y.t]=ordA x y:=by
 unfold ordA
 by_cases h1:cI x.f y.f=0 <;> by_cases h2:cI x.l y.l=0 <;> by_cases h3:cI x.t y.t=0 <;> simp [orL,h1,h2,h3]
abbrev rowA (b c:Nat)(l:List Arc9):Blk:=.row b c T.Arc 11 (l.map dArc)
theorem rowA_el {l:List Arc9}{i:Nat}(hi:i<l.length):(l.map dArc)[i]? = some (dArc (l.getD i default)):=by rw [List.getElem?_map,gd9,ge9 hi];rfl
theorem vd_arc {x:Arc9}:VD (vArc x) (dArc x):=VD.ag (.cons (VC.d _) (.cons (VC.d _) (.cons (VC.d _) (.cons (VC.d _) (.cons (VC.d _) (.cons (VC.d _) (.cons (VC.d _) (.cons (VC.d _) (.cons (VC.d _) (.cons (VC.d _) (.cons (VC.d _) .nil)))))))))))
abbrev cellsArc (x:Arc9):List V:=[.d (dI x.f),.d (dI x.l),.d (dI x.t),.d (dB (ofQ x.q).neg),.d (u32s (ofQ x.q).num),.d (u32s (ofQ x.q).den),.d (dI 0),.d (dB false),.d (dU 0),.d (.sl []),.d (.sl [])]
theorem arcs_len {l:List Arc9}:∀ y,y ∈ l.map dArc→y.cells.length=11:=fun y hy=>by obtain ⟨a,_,rfl⟩:=mm9 hy;rfl
theorem cmp_OrL {l:List Int}(nl:l.length≤1099511627776):FSpec P F.cmp_Or_int [.d (ints l)] (.d (dI (orL l))):=by
 refine FSpec.intro fn.cmp_Or_int (by rfl) (by rfl) (nb9 (by rfl)) fun E hE=>(AW.sg hE rfl (asD rfl (OL.nil (AW.sg hE rfl (asD rfl (OL.nil (AW.seq ?_)))))))
 refine AW.sg hE rfl (mvD rfl (lnL sl.ints rfl rfl (mvD rfl (OL.nil (AW.block ?_)))))
 refine AW.whileK (α:=Nat) [(3,_),(6,_),(7,_)] [] (fun i=>[(8,.d (dI i))]) (fun i=>[]) (fun i=>i≤l.length∧∀ j,j<i→l.getD j 0=0) (fun i=>l.length-i) 0 (.cons (knD rfl) (.cons (knD rfl) (.cons (knD rfl) .nil))) .nil ⟨⟨Nat.zero_le _,fun j hj=>by omega⟩,.rq1,.nil⟩ ?_
 rintro i ⟨h1,h2⟩
 refine AW.sg hE rfl (c_lss rfl rfl rfl (OL.nil (AW.seq (AW.cond rfl (fun h9=>?_) (fun h9=>?_)))))
 ·try simp only [dx9] at h9
  refine AW.skip (AW.seq (AW.block (AW.sg hE rfl (ixLn sl.ints 0 rfl rfl (by omega) rfl rfl (ldRC ce.int rfl (asD rfl (OL.nil ?_)))))))
  refine AW.sg hE rfl (mvD rfl (mvD rfl (c_neq rfl rfl rfl (OL.nil (AW.cond rfl (fun hc=>?_) (fun hc=>?_))))))
  ·have hc:l.getD i 0≠0:=nd_t hc
   exact AW.sg hE rfl (mvD rfl (asD rfl (OL.nil (AW.ret (RetQ.r ⟨_,.tmp rfl .nil,.le (VLe.int ((orL_at (by omega) h2 hc).symm))⟩)))))
  ·have hc:l.getD i 0=0:=nd_f hc
   refine AW.skip (AW.rg hE rfl (add_i64 rfl rfl (by omega) (mvD rfl (OL.nil ?_))))
   exact AW.again (x:=i) (i+1) (by omega) ⟨⟨by omega,fun j hj=>by rcases Nat.lt_or_ge j i with h|h;exact h2 j h;obtain rfl:j=i:=(by omega);exact hc⟩,Knows.app .rq3 .rq1,.nil⟩
 ·try simp only [dx9] at h9
  exact AW.exit (AW.sg hE rfl (mvD rfl (asD rfl (OL.nil (AW.ret (RetQ.r ⟨_,.tmp rfl .nil,.le (VLe.int ((orL_none fun j hj=>h2 j (by omega)).symm))⟩))))))
theorem orderA {x y:Arc9}:FSpec P F.automaton_order [vArc x,vArc y] (.d (dI (ordA x y))):=by
 refine FSpec.intro fn.automaton_order (by rfl) (by rfl) (nb9 (by rfl)) fun E hE=>(AW.sg hE rfl (bxA rfl rfl fun b2=>(bxA rfl rfl fun b3=>(asD rfl (OL.nil (AW.seq (AW.dg 1 [0,1,2,3,4,5,6,7,8,9,10,11,12,13,14,15,16,17] order_free hE rfl (by kernel_rfl) (OI.of_OL (os:=[_,_,_,_,_,_,_,_,_,_,_,_,_,_,_,_,_,_]) rfl ?_))))))))
 refine faP fd.Arc_0 rfl rfl (ldPC ce.int rfl rfl rfl (faP fd.Arc_0 rfl rfl (ldPC ce.int rfl rfl rfl (clv rfl vL (cmp_Compare_int (x:=(x.f:Int)) (y:=(y.f:Int))) ?_))))
 rw [cmp_cI]
 refine faP fd.Arc_1 rfl rfl (ldPC ce.int rfl rfl rfl (faP fd.Arc_1 rfl rfl (ldPC ce.int rfl rfl rfl (clv rfl vL (cmp_Compare_int (x:=(x.l:Int)) (y:=(y.l:Int))) ?_))))
 rw [cmp_cI]
 refine faP fd.Arc_2 rfl rfl (ldPC ce.int rfl rfl rfl (faP fd.Arc_2 rfl rfl (ldPC ce.int rfl rfl rfl (clv rfl vL (cmp_Compare_int (x:=(x.t:Int)) (y:=(y.t:Int))) ?_))))
 rw [cmp_cI]
 refine ltN (ys:=[dI (cI x.f y.f),dI (cI x.l y.l),dI (cI x.t y.t)]) sl.ints rfl (pdC (VC.d _).vd (pdC (VC.d _).vd (pdC (VC.d _).vd pdN))) rfl (by decide) (by decide) (fun y hy=>by simp at hy;rcases hy with rfl|rfl|rfl <;> rfl) (clv rfl vL (cmp_OrL (l:=[cI x.f y.f,cI x.l y.l,cI x.t y.t]) (show 3≤1099511627776 by decide)) ?_)
 rw [ord_or]
 exact asD rfl (OL.nil (AW.ret (RetQ.r ⟨_,.tmp rfl .nil,.le vR⟩)))
theorem vd_w {q:Rat}:VD (vW q) (dW q):=VD.ag (.cons (VC.d _) (.cons (VC.d _) (.cons (VC.d _) (.cons (VC.d _) (.cons (VC.d _) (.cons (VC.d _) (.cons (VC.d _) (.cons (VC.d _) .nil))))))))
end Go.Proofs.YteiohkpjgcioaaaGreatDoor
namespace Go.AL
open Go Go.BigFrame
theorem sortedG_eq {α:Type}{R:α→α→Prop}(irr:∀ a,¬ R a a)(tr:∀ a b c,R a b→R b c→R a c):∀ {a b:List α},a.Pairwise R→b.Pairwise R→(∀ u,u ∈ a ↔ u ∈ b)→a=b
 | [],[],_,_,_=>rfl
 | [],y::b,_,_,h=>absurd ((h y).2 mc9) (fun hm=>by cases hm)
 | x::a,[],_,_,h=>absurd ((h x).1 mc9) (fun hm=>by cases hm)
 | x :: a, y :: b, ha, hb, h => by
  obtain ⟨a1,a2⟩:=List.pairwise_cons.1 ha
  obtain ⟨b1,b2⟩:=List.pairwise_cons.1 hb
  have e:x=y:=by
   rcases List.mem_cons.1 ((h x).1 mc9) with e|h1
   ·exact e
   ·rcases List.mem_cons.1 ((h y).2 mc9) with e|h2
    ·exact e.symm
    ·exact absurd (tr _ _ _ (b1 x h1) (a1 y h2)) (irr _)
  subst e
  rw [sortedG_eq irr tr a2 b2 fun u=>⟨fun hu=>?_,fun hu=>?_⟩]
  ·rcases List.mem_cons.1 ((h u).1 (List.mem_cons_of_mem _ hu)) with e|h1
   ·subst e;exact absurd (a1 u hu) (irr _)
   ·exact h1
  ·rcases List.mem_cons.1 ((h u).2 (List.mem_cons_of_mem _ hu)) with e|h1
   ·subst e;exact absurd (b1 u hu) (irr _)
   ·exact h1
section
variable {x y z:Arc9}{l out a b:List Arc9}
theorem ordA_tr (h:ordA x y<0)(k:ordA y z<0):ordA x z<0:=by
 rw [ordA_lt] at *
 omega
theorem ordA_irr:¬ ordA x x<0:=by rw [ordA_zero.2 ⟨rfl,rfl,rfl⟩];omega
theorem nz_mem (h:x ∈ nzA l):x.q≠0:=dt9 (List.mem_filter.1 h).2
theorem ent_some {s i j:Nat}(h:entA l s i j≠0):∃ y,y ∈ l∧y.f=i∧y.l=s+1∧y.t=j:=by
 refine Classical.byContradiction fun hn=>h (lsumZ fun y hy=>if_neg fun e=>hn ⟨y,hy,e⟩)
theorem arcs_uniq (ha:a.Pairwise fun x y=>ordA x y<0)(hb:b.Pairwise fun x y=>ordA x y<0)(la:∀ x,x ∈ a→1≤x.l∧x.q≠0)(lb:∀ x,x ∈ b→1≤x.l∧x.q≠0)(h:∀ s i j,entA a s i j=entA b s i j):a=b:=by
 have half:∀ {a b:List Arc9},a.Pairwise (fun x y=>ordA x y<0)→b.Pairwise (fun x y=>ordA x y<0)→(∀ x,x ∈ a→1≤x.l∧x.q≠0)→(∀ x,x ∈ b→1≤x.l∧x.q≠0)→(∀ s i j,entA a s i j=entA b s i j)→∀ x,x ∈ a→x ∈ b:=fun {a b} ha hb la lb h x hx=>by
  have e1:=entA_mem ha hx (la x hx).1
  have e2:entA b (x.l-1) x.f x.t≠0:=by rw [← h,e1];exact (la x hx).2
  obtain ⟨y,hy,f1,f2,f3⟩:=ent_some e2
  have hl:=(la x hx).1
  have e3:=entA_mem hb hy (lb y hy).1
  rw [f1,show y.l-1=x.l-1 by omega,f3,← h,e1] at e3
  have:x=y:=by
   obtain ⟨xf,xl,xt,xq⟩:=x
   obtain ⟨yf,yl,yt,yq⟩:=y
   simp only at f1 f2 f3 e3 hl
   obtain rfl:xl=yl:=by omega
   subst f1 f3 e3
   rfl
  rw [this];exact hy
 exact sortedG_eq (R:=fun x y=>ordA x y<0) (fun _=>ordA_irr) (fun _ _ _=>ordA_tr) ha hb fun u=>⟨half ha hb la lb h u,half hb ha lb la (fun s i j=>(h s i j).symm) u⟩
end
end Go.AL
