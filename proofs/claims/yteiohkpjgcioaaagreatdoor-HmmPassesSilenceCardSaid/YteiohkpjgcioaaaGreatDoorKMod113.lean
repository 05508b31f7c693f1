/-
  M: arcs sorted by the stable sort of Go's library and merged give the same as arcs sorted by insertion and merged.
-/
import Derived.Test.YteiohkpjgcioaaaGreatDoorKMod111
import Derived.Test.YteiohkpjgcioaaaGreatDoorKMod112
set_option linter.unusedVariables false
set_option linter.unusedSimpArgs false
namespace Go.AL
open Go Go.BigFrame
theorem Zi (x:aT):uK x x=false:=decide_eq_false Vo
theorem ar6 (x y z:aT)(h:uK y x=false)(k:uK z y=false):uK z x=false:=by
 have h:=kK h;have k:=kK k;refine decide_eq_false ?_;rw[wF] at *;omega
theorem ar7 (x y:aT)(h:uK x y=true):uK y x=false:=by
 have h:=jC h;refine decide_eq_false ?_;rw[wF] at *;omega
def dh (l:List aT):List aT:=Vu uK l
theorem Eg (l:List aT):(dh l).Perm l:=(Vx Zi ar6 ar7 l).1
theorem QL (l:List aT):(dh l).length=l.length:=(Eg l).length_eq
theorem ar8 (l:List aT):(dh l).Pairwise λa b=>¬ iH b a<0:=List.Pairwise.imp (λh=>kK h) (Vx Zi ar6 ar7 l).2
def QM (l:List aT):List aT:=QC ((dh l).foldl jP [])
theorem ad1 (l:List aT):(QM l).Pairwise λa b=>iH a b<0 :=
 (CQ (dh l) [] .nil (ar8 l) λa h=>by cases h).filter _
theorem ad2 {l:List aT}{s i j:Nat}:gV (QM l) s i j=gV l s i j:=by
 unfold QM;rw[SV,Gv (λout x=>Oj),Ap,Rat.zero_add];exact Oh (Eg l)
theorem gu.bj5 {p:Nat->Nat->Nat->Prop}{l:List aT}(h:gu p l):gu p (QM l):=(gu.fold (λ_ _ h k=>h.merge k) _ _ (λ_ h=>by cases h) (λy hy=>h y ((Eg l).mem_iff.1 hy))).nz
theorem ar9 {l:List aT}(hl:∀ x,x ∈ l->1<=x.l):QM l=Bz l :=
 ac8 (ad1 l) (Ol _) (λx hx=>⟨gu.bj5 (p:=λ_ l _=>1<=l) hl x hx,aq7 hx⟩) (λx hx=>⟨gu.tidy (p:=λ_ l _=>1<=l) hl x hx,aq7 hx⟩) λs i j=>by rw[ad2,CP]
