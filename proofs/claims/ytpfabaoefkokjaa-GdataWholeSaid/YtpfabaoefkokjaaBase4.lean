/-
  A walk's world under a new letter: of it only what is told is known.
-/
import Derived.Test.YtpfabaoefkokjaaBase3
namespace Go.Proofs.Ytpfabaoefkokjaa
open Go.RowKit
theorem wp_gen {P : Program} {c : Code} {Q : Exit → Act → World → Prop} {a : Act} {W : World} (I : World → Prop) (hI : I W) (h : ∀ W', I W' → Code.wp P c Q a W') : Code.wp P c Q a W := h W hI
theorem then_gen {K : Act → World → Prop} {Q : Exit → Act → World → Prop} {e : Exit} {a : Act} {W : World} (I : World → Prop) (hI : I W) (h : ∀ W', I W' → Exit.then K Q e a W') : Exit.then K Q e a W := h W hI
theorem frozen_free {w : World} {g : Nat} {t : TypeId} {cs : Array Value} (h : w.heap[g]? = some (.cells cs t (0, 0))) : ∀ i, w.frozen? ⟨g, i, none⟩ = false := fun i => bk_free h i
/-- There are two numbers such that. -/
def ExBC (P : Nat → Nat → Prop) : Prop := ∃ b c, P b c
/-- Strings as cells. -/
def sC (l : List ByteArray) : Array Value := (l.map Value.string).toArray
theorem sC_at {l : List ByteArray} {i : Nat} {s : ByteArray} (h : l[i]? = some s) : (sC l)[i]? = some (.string s) := by simp [sC, h]
theorem sC_set (l : List ByteArray) (i : Nat) (s : ByteArray) : (sC l).setIfInBounds i (.string s) = sC (l.set i s) := by simp [sC, List.map_set]
theorem sC_len (l : List ByteArray) : (sC l).size = l.length := by simp [sC]
end Go.Proofs.Ytpfabaoefkokjaa
