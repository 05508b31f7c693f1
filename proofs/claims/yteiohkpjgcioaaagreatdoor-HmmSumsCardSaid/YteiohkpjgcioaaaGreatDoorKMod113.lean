/-
  M: arcs sorted by the stable sort of Go's library and merged give the same as arcs sorted by insertion and merged.
-/
import Derived.Test.YteiohkpjgcioaaaGreatDoorKMod111
import Derived.Test.YteiohkpjgcioaaaGreatDoorKMod112
set_option linter.unusedVariables false
set_option linter.unusedSimpArgs false
namespace Go.AL
open Go Go.BigFrame
theorem ltA_irr (x:Arc9):ltA x x=false:=decide_eq_false ordA_irr
theorem ltA_tr (x y z:Arc9)(h:ltA y x=false)(k:ltA z y=false):ltA z x=false:=by
 have h:=df9 h
 have k:=df9 k
 refine decide_eq_false ?_
 rw [ordA_lt] at *;omega
theorem ltA_as (x y:Arc9)(h:ltA x y=true):ltA y x=false:=by
 have h:=dt9 h
 refine decide_eq_false ?_
 rw [ordA_lt] at *;omega
def stabA (l:List Arc9):List Arc9:=stabG ltA l
theorem stabA_perm (l:List Arc9):(stabA l).Perm l:=(stabG_ok ltA_irr ltA_tr ltA_as l).1
theorem stabA_len (l:List Arc9):(stabA l).length=l.length:=(stabA_perm l).length_eq
theorem stabA_le (l:List Arc9):(stabA l).Pairwise fun a b=>¬ ordA b a<0:=List.Pairwise.imp (fun h=>df9 h) (stabG_ok ltA_irr ltA_tr ltA_as l).2
def tidyB (l:List Arc9):List Arc9:=nzA ((stabA l).foldl mergeA [])
theorem tidyB_asc (l:List Arc9):(tidyB l).Pairwise fun a b=>ordA a b<0 :=
 (merge_asc (stabA l) [] .nil (stabA_le l) fun a h=>by cases h).filter _
theorem entA_stab {l:List Arc9}{s i j:Nat}:entA (tidyB l) s i j=entA l s i j:=by
 unfold tidyB
 rw [entA_nz,entA_fold (fun out x=>entA_merge),entA_nil,Rat.zero_add]
 exact lsum_permA (stabA_perm l)
theorem PlaceA.stab {p:Nat→Nat→Nat→Prop}{l:List Arc9}(h:PlaceA p l):PlaceA p (tidyB l):=(PlaceA.fold (fun _ _ h k=>h.merge k) _ _ (fun _ h=>by cases h) (fun y hy=>h y ((stabA_perm l).mem_iff.1 hy))).nz
theorem tidyB_eq {l:List Arc9}(hl:∀ x,x ∈ l→1≤x.l):tidyB l=tidyA l :=
 arcs_uniq (tidyB_asc l) (tidy_asc _) (fun x hx=>⟨PlaceA.stab (p:=fun _ l _=>1≤l) hl x hx,nz_mem hx⟩) (fun x hx=>⟨PlaceA.tidy (p:=fun _ l _=>1≤l) hl x hx,nz_mem hx⟩) fun s i j=>by rw [entA_stab,entA_tidy]
end Go.AL
