/-
  The document's glue: frames that Put takes.
-/
import Derived.Test.YtpfabaoefkokjaaGRefB
import Derived.Test.YtpfabaoefkokjaaBase4
namespace Go.Proofs.Ytpfabaoefkokjaa
open Go.RowKit Go.Proofs.YtpfabaoefkokjaaW.PrintLast
set_option linter.unusedVariables false
set_option linter.unusedSimpArgs false
/-- The first i of a list of texts, one behind the other. -/
def catB (l : List ByteArray) (i : Nat) : ByteArray := (l.take i).foldl (· ++ ·) ⟨#[]⟩
theorem catB_succ (l : List ByteArray) (i : Nat) (s : ByteArray) (h : l[i]? = some s) : catB l (i + 1) = catB l i ++ s := by
  unfold catB
  obtain ⟨hi, rfl⟩ := List.getElem?_eq_some_iff.1 h
  rw [List.take_succ_eq_append_getElem hi, List.foldl_append]
  rfl
theorem catB_le (l : List ByteArray) (h : ∀ s, s ∈ l → s.size ≤ 16) (i : Nat) : (catB l i).size ≤ 16 * i := by
  induction i with
  | zero => exact Nat.le_of_eq rfl
  | succ i ih =>
    cases hs : l[i]? with
    | none =>
      have hl : l.length ≤ i := List.getElem?_eq_none_iff.1 hs
      have : catB l (i + 1) = catB l i := by unfold catB; rw [List.take_of_length_le hl, List.take_of_length_le (by omega)]
      rw [this]; omega
    | some s =>
      rw [catB_succ l i s hs, ByteArray.size_append]
      have := h s (List.mem_of_getElem? hs)
      omega
/-- Did all come? -/
def rdone (l : List ByteArray) : Bool := l.all (fun s => !s.toList.isEmpty)
/-- The value, if all came. -/
def catIf (l : List ByteArray) (N : Nat) : ByteArray := if rdone l = true then catB l N else ⟨#[]⟩
theorem catIf_no {l : List ByteArray} (N : Nat) (h : rdone l = false) : catIf l N = ⟨#[]⟩ := by unfold catIf; rw [h]; rfl
theorem catIf_yes {l : List ByteArray} (N : Nat) (h : rdone l = true) : catIf l N = catB l N := by unfold catIf; rw [h]; rfl
theorem rdone_no (l : List ByteArray) (j : Nat) (s : ByteArray) (h : l[j]? = some s) (he : s.toList = []) : rdone l = false := by
  unfold rdone
  rw [List.all_eq_false]
  exact ⟨s, List.mem_of_getElem? h, by simp [he]⟩
theorem rdone_yes (l : List ByteArray) (h : ∀ k, k < l.length → ∀ s, l[k]? = some s → s.toList ≠ []) : rdone l = true := by
  unfold rdone
  rw [List.all_eq_true]
  intro s hs
  obtain ⟨k, hk, rfl⟩ := List.getElem_of_mem hs
  have := h k hk _ (List.getElem?_eq_getElem hk)
  simpa using this
end Go.Proofs.Ytpfabaoefkokjaa
