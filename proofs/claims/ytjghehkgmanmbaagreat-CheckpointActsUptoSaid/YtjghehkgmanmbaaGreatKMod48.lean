/-
  M, part 48: sizes of the best ways, for great numbers.
-/
import Derived.Test.YtjghehkgmanmbaaGreatKMod47
set_option linter.unusedVariables false
set_option linter.unusedSimpArgs false
namespace Go.AL
open Go Go.BigFrame
section
variable {h : HM} {B : Nat}
theorem stop_szV (f : HM.FormX 1048576 B h) (i : Nat) : sz (h.stop.getD i 0) ≤ 1048576 := Nat.le_trans (f.zS.get f.b1 i) f.bB
theorem wayN_szW (f : HM.FormX 1048576 B h) {v : Nat → Rat × List Int} {C : Nat} (hv : ∀ i, sz (v i).1 ≤ C) (x j : Nat) : ∀ k, sz (wayN h v x j k).1 ≤ C + 2097152
 | 0 => by rw [wayN]; show sz 0 ≤ _; rw [sz_zero]; omega
 | k + 1 => by
  rw [wayN, putW]
  split
  ·have a := hv k
   have b := tr_szV f k j
   have c := em_szV f j x
   have d := sz_mul (v k).1 (trQ h k j)
   have e := sz_mul ((v k).1 * trQ h k j) (emQ h j x)
   simp only
   omega
  ·exact wayN_szW f hv x j k
theorem wayF_szW (f : HM.FormX 1048576 B h) (w : List Int) : ∀ t j, sz (wayF h w t j).1 ≤ 1 + 2097152 * t
 | 0, _ => by show sz 0 ≤ _; rw [sz_zero]; omega
 | t + 1, j => by
  rw [wayF, Nat.mul_add, Nat.mul_one, ← Nat.add_assoc]
  generalize hq : 2097152 * t = q
  have ih : ∀ i, sz (wayF h w t i).1 ≤ 1 + q := fun i => by rw [← hq]; exact wayF_szW f w t i
  split
  ·rw [putW]
   split
   ·have a := ini_szV f j
    have b := em_szV f j (symX w 0)
    have d := sz_mul (h.ini.getD j 0) (emQ h j (symX w 0))
    simp only
    omega
   ·show sz 0 ≤ _; rw [sz_zero]; omega
  ·have := wayN_szW f ih (symX w t) j h.st
   omega
theorem endW_szW {v : Nat → Rat × List Int} {C : Nat} (f : HM.FormX 1048576 B h) (hv : ∀ i, sz (v i).1 ≤ C) : ∀ k, sz (endW h v k).1 ≤ C + 1048576
 | 0 => by rw [endW]; show sz 0 ≤ _; rw [sz_zero]; omega
 | k + 1 => by
  rw [endW, putW]
  split
  ·have a := hv k
   have b := stop_szV f k
   have d := sz_mul (v k).1 (h.stop.getD k 0)
   simp only
   omega
  ·exact endW_szW f hv k
end
end Go.AL
