/-
  M, chapter 39: words out of plain numbers.
-/
import Derived.Test.YtoohdcpikkkanaaGreatKMod39c
import Derived.Test.YtoohdcpikkkanaaGreatKNumb
set_option linter.unusedVariables false
set_option linter.unusedSimpArgs false
namespace Go.AL
open Go Go.BigFrame
def wdF (L : List Int) (sym : Nat) : Nat → Nat → List Int × Nat
  | 0, a => ([], a)
  | n + 1, a => ((wdF L sym n a).1 ++ [1 + tnext L (wdF L sym n a).2 sym], tat L (wdF L sym n a).2)
def wordN (L : List Int) (a : Nat) : Nat := (tnext L a 5).toNat
def dtF (L : List Int) (sym : Nat) : Nat → Nat → List (List Int) × Nat
  | 0, a => ([], a)
  | m + 1, a => ((dtF L sym m a).1 ++ [(wdF L sym (wordN L (dtF L sym m a).2) (tat L (dtF L sym m a).2)).1], (wdF L sym (wordN L (dtF L sym m a).2) (tat L (dtF L sym m a).2)).2)
def dataN (L : List Int) (most : Nat) : Nat := (1 + tnext L 0 most).toNat
def dataF (L : List Int) (sym most : Nat) : List (List Int) := (dtF L sym (dataN L most) (tat L 0)).1
section
variable {L : List Int} {sym : Nat}
theorem wdF_len (n a : Nat) : (wdF L sym n a).1.length = n := by
  induction n with
  | zero => rfl
  | succ n ih => rw [wdF, List.length_append, ih]; rfl
theorem dtF_len (n a : Nat) : (dtF L sym n a).1.length = n := by
  induction n with
  | zero => rfl
  | succ n ih => rw [dtF, List.length_append, ih]; rfl
theorem wdF_mem (hs : 1 ≤ sym) (n a : Nat) : ∀ x, x ∈ (wdF L sym n a).1 → 1 ≤ x ∧ x ≤ sym := by
  induction n with
  | zero => intro x hx; simp [wdF] at hx
  | succ n ih =>
    intro x hx
    have hx : x ∈ (wdF L sym n a).1 ++ [1 + tnext L (wdF L sym n a).2 sym] := hx
    rcases List.mem_append.1 hx with h | h
    · exact ih x h
    · rw [List.mem_singleton.1 h]
      have := tnext_range (L := L) (a := (wdF L sym n a).2) (m := (sym : Int)) (by omega)
      omega
theorem wordN_le (a : Nat) : (wordN L a : Int) = tnext L a 5 ∧ wordN L a ≤ 4 := by
  have := tnext_range (L := L) (a := a) (m := 5) (by decide)
  unfold wordN
  omega
theorem dataN_eq {most : Nat} (h : 1 ≤ most) : (dataN L most : Int) = 1 + tnext L 0 most ∧ 1 ≤ dataN L most ∧ dataN L most ≤ most := by
  have := tnext_range (L := L) (a := 0) (m := (most : Int)) (by omega)
  unfold dataN
  omega
theorem dtF_mem (hs : 1 ≤ sym) (m a : Nat) : ∀ w, w ∈ (dtF L sym m a).1 → w.length ≤ 4 ∧ ∀ x, x ∈ w → 1 ≤ x ∧ x ≤ sym := by
  induction m with
  | zero => intro x hx; simp [dtF] at hx
  | succ n ih =>
    intro x hx
    have hx : x ∈ (dtF L sym n a).1 ++ [(wdF L sym (wordN L (dtF L sym n a).2) (tat L (dtF L sym n a).2)).1] := hx
    rcases List.mem_append.1 hx with h | h
    · exact ih x h
    · rw [List.mem_singleton.1 h]
      refine ⟨?_, wdF_mem hs _ _⟩
      rw [wdF_len]
      exact (wordN_le _).2
theorem data_ok {h : HM} {most : Nat} (hs : 1 ≤ h.sym) (ht : h.st ≤ 4) (hm : 1 ≤ most ∧ most ≤ 5) : DataOK h (dataF L h.sym most) := by
  have h1 := dataN_eq (L := L) hm.1
  refine ⟨?_, fun w hw => ?_⟩
  · unfold dataF; rw [dtF_len]; omega
  · have h2 := dtF_mem hs _ _ w hw
    exact ⟨⟨by omega, h2.2⟩, ⟨ht, by omega⟩⟩
end
end Go.AL
