/-
  What an argument's own reading tells of memory: a slice's elements lie row by row.
-/
import Derived.Test.YtpfabaoefkokjaaBase
import Derived.Deep.Slices
import Derived.ChangeSame
namespace Go.Proofs.Ytpfabaoefkokjaa
open Go.ChangeShapes Go.WideShapes Go.Deep

theorem flat_at {α : Type} {c : Nat} (hc : 0 < c) : ∀ (L : List (List α)), (∀ r, r ∈ L → r.length = c) → ∀ (j : Nat) (v : α), L.flatten[j]? = some v → ∃ r, L[j / c]? = some r ∧ r[j % c]? = some v
  | [], _, j, v, h => by simp at h
  | r :: L, hl, j, v, h => by
    have hr : r.length = c := hl r (by simp)
    rw [List.flatten_cons] at h
    by_cases hj : j < c
    · rw [List.getElem?_append_left (by omega)] at h
      exact ⟨r, by rw [Nat.div_eq_of_lt hj]; rfl, by rw [Nat.mod_eq_of_lt hj]; exact h⟩
    · rw [List.getElem?_append_right (by omega), hr] at h
      obtain ⟨r', h1, h2⟩ := flat_at hc L (fun r hr => hl r (by simp [hr])) (j - c) v h
      have e : j / c = (j - c) / c + 1 := by
        conv => lhs; rw [show j = j - c + c by omega]
        exact Nat.add_div_right _ hc
      have e2 : (j - c) % c = j % c := by
        conv => rhs; rw [show j = j - c + c by omega]
        exact (Nat.add_mod_right _ _).symm
      exact ⟨r', by rw [e]; simpa using h1, by rw [← e2]; exact h2⟩
section
variable {H : Type} {enc : TypeId × Value → H} {P : Program} {w : World} {base : Nat} {spare : Nat → Bool} {held : Bool}
theorem open_flat {t e : TypeId} {fuel : Nat} {cs : List Value} {x : DataW H × List MemPlace} (ht : P.underlying t = some (.slice e)) (h0 : 0 < P.cellsOf e) (h : DataW.trod enc P w base spare held fuel t cs = some x) :
    ∃ (A : Option Addr) (len cap n : Nat) (L : List (List Value)), cs = [.slice A len cap] ∧ L.length = len ∧ len ≤ cap ∧ cap ≤ maxLen ∧ (0 < len → ∃ b o, A = some ⟨b, o, none⟩ ∧ w.rangeAt b o L.flatten) ∧
      ∀ r, r ∈ L → r.length = P.cellsOf e ∧ ∃ y, DataW.trod enc P w base spare held n e r = some y := by
  rcases open_slice ht h with ⟨h1, _⟩ | ⟨a, len, cap, m, n, D, Pl, hcs, hb, hl, hm, hmm, hx, hi⟩
  · exact ⟨none, 0, 0, 0, [], h1, rfl, Nat.le_refl _, by unfold maxLen; omega, fun h => by omega, fun r hr => by simp at hr⟩
  · have hlm : len ≤ m := by rw [hmm]; split <;> omega
    obtain ⟨R, hR⟩ := choose_lt (n := m) (p := fun i cs' => w.cells? base (a.add (i * P.cellsOf e)) (P.cellsOf e) = some cs' ∧ DataW.trod enc P w base spare held n e cs' = some (D i, Pl i)) hi
    have hlen : ∀ i, i < m → (R i).length = P.cellsOf e := fun i hi => (World.cells?_some (hR i hi).1).2.1
    refine ⟨some a, len, cap, n, (List.range len).map R, hcs, by simp, hl, hm, fun hp => ?_, fun r hr => ?_⟩
    · have hat : ∀ i, i < m → ∀ k, k < P.cellsOf e → w.cell? ((a.add (i * P.cellsOf e)).add k) = (R i)[k]? := fun i hi k hk => (World.cells?_some (hR i hi).1).2.2 k hk
      have hz : a.spot = none := by
        have h1 := hat 0 (by omega) 0 h0
        have h2 : (R 0)[0]? = some ((R 0)[0]'(by rw [hlen 0 (by omega)]; exact h0)) := List.getElem?_eq_getElem _
        rw [h2] at h1
        have e1 : (a.add (0 * P.cellsOf e)).add 0 = a := by simp [Addr.add]
        rw [e1] at h1
        cases hs : a.spot with
        | none => rfl
        | some s => simp [World.cell?, hs] at h1; split at h1 <;> simp at h1
      obtain ⟨b, o, s⟩ := a
      dsimp only at hz
      subst hz
      refine ⟨b, o, rfl, fun j v hv => ?_⟩
      obtain ⟨r, h1, h2⟩ := flat_at h0 _ (by
        intro r hr
        obtain ⟨i, hi, rfl⟩ := List.mem_map.1 hr
        exact hlen i (by have := List.mem_range.1 hi; omega)) j v hv
      rw [List.getElem?_map] at h1
      obtain ⟨i, hi, rfl⟩ := Option.map_eq_some_iff.1 h1
      have hil : j / P.cellsOf e < len := by
        have := (List.getElem?_eq_some_iff.1 hi).1
        simpa using this
      have hie : i = j / P.cellsOf e := by
        have := (List.getElem?_eq_some_iff.1 hi).2
        simpa using this.symm
      subst hie
      have h3 := hat (j / P.cellsOf e) (by omega) (j % P.cellsOf e) (Nat.mod_lt _ h0)
      rw [Addr.add_mid, Addr.add_mid, h2] at h3
      rw [← h3]
      congr 2
      have := Nat.div_add_mod j (P.cellsOf e)
      rw [Nat.mul_comm] at this
      omega
    · obtain ⟨i, hi, rfl⟩ := List.mem_map.1 hr
      have hi' := List.mem_range.1 hi
      exact ⟨hlen i (by omega), _, (hR i (by omega)).2⟩
/-- A slice of strings. -/
theorem open_strs_flat {t e : TypeId} {fuel : Nat} {cs : List Value} {x : DataW H × List MemPlace} (ht : P.underlying t = some (.slice e)) (he : P.underlying e = some .string) (hc : P.cellsOf e = 1) (h : DataW.trod enc P w base spare held fuel t cs = some x) :
    ∃ (A : Option Addr) (len cap : Nat) (ss : List ByteArray), cs = [.slice A len cap] ∧ ss.length = len ∧ len ≤ cap ∧ cap ≤ maxLen ∧ (0 < len → ∃ b o, A = some ⟨b, o, none⟩ ∧ w.rangeAt b o (ss.map Value.string)) := by
  obtain ⟨A, len, cap, n, L, hcs, hL, h1, h2, h3, h4⟩ := open_flat ht (by omega) h
  obtain ⟨ss, hss⟩ : ∃ ss : List ByteArray, L.flatten = ss.map Value.string ∧ ss.length = L.length := by
    clear h3 hL
    induction L with
    | nil => exact ⟨[], rfl, rfl⟩
    | cons r L ih =>
      obtain ⟨ss, i1, i2⟩ := ih (fun r hr => h4 r (by simp [hr]))
      obtain ⟨q1, y, q2⟩ := h4 r (by simp)
      obtain ⟨s, p1, p2, p3⟩ := DataW.trod_string he q2
      exact ⟨s :: ss, by rw [List.flatten_cons, p1, i1]; rfl, by simp [i2]⟩
  exact ⟨A, len, cap, ss, hcs, by omega, h1, h2, fun hp => by
    obtain ⟨b, o, e1, e2⟩ := h3 hp
    exact ⟨b, o, e1, hss.1 ▸ e2⟩⟩
end
end Go.Proofs.Ytpfabaoefkokjaa
