/-
  M, chapter 40, part 6: all lists of bits in order; the runs that they choose ascend.
-/
import Derived.Test.YtjghehkgmanmbaaGreatKMod40e
set_option linter.unusedVariables false
set_option linter.unusedSimpArgs false
namespace Go.AL
open Go Go.BigFrame
def bitsN (b n : Nat) : List Int := (List.range b).map fun i => ((n / 2 ^ (b - 1 - i) % 2 : Nat) : Int)
theorem bitsN_len (b n : Nat) : (bitsN b n).length = b := by simp [bitsN]
theorem bitsN_bit (b n : Nat) : ∀ x, x ∈ bitsN b n → x = 0 ∨ x = 1 := fun x hx => by
 obtain ⟨i, _, rfl⟩ := List.mem_map.1 hx
 omega
theorem bitsN_get {b n t : Nat} (ht : t < b) : (bitsN b n).getD t 0 = ((n / 2 ^ (b - 1 - t) % 2 : Nat) : Int) := map_getD_range _ _ ht
end Go.AL
