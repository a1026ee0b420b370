/-
  What the document's All does: a value's parts, in a list of their own.
-/
import Derived.Test.YtpfabaoefkokjaaGBlk
namespace Go.Proofs.Ytpfabaoefkokjaa
open Go.RowKit
set_option linter.unusedVariables false
set_option linter.unusedSimpArgs false

/-- A value's parts. -/
def partsL (v : ByteArray) : List ByteArray := (List.range ((v.size + 15) / 16)).map (cutB v)

theorem ba_size_extract (v : ByteArray) (a b : Nat) : (v.extract a b).size = min b v.size - a := by simp [ByteArray.size_extract]
theorem ba_extract_extract (v : ByteArray) (a b c d : Nat) : (v.extract a b).extract c d = v.extract (a + c) (min (a + d) b) := by
  apply ByteArray.ext
  simp [ByteArray.data_extract, Array.extract_extract]
theorem cut_step (v : ByteArray) (j : Nat) (h : 16 * j + 16 < v.size) : (v.extract (16 * j) v.size).extract 0 16 = cutB v j := by
  rw [ba_extract_extract]
  unfold cutB
  congr 1 <;> omega
theorem cut_last (v : ByteArray) (j : Nat) (h : v.size ≤ 16 * j + 16) (h2 : 16 * j < v.size) : v.extract (16 * j) v.size = cutB v j := by
  unfold cutB
  congr 1 <;> omega

theorem info9 : (Try.prog.info? 9).map (fun i => (i.zero, i.size, i.bytes)) = some (some (.string ⟨#[]⟩), 1, 16) := by kernel_rfl

set_option maxHeartbeats 1000000 in
theorem all_any (v : ByteArray) (hv : v.size ≤ 64) (w : World) :
    Calls Try.prog 45 #[.string v] w fun e w' => ∃ x, e = .returned x ∧ w'.ownsRow w.heap.size 9 1 x ((v.size + 15) / 16) ((partsL v).map Value.string) ∧ Fr w w' [] := by
  go_enter Try.func45, Try.ntmps45
  go_wp2
  go_loopg [0, 3] 5 (fun k s x wr => ∃ j : Nat, j + k = 5 ∧ s = .string (v.extract (16 * j) v.size) ∧ 16 * j ≤ v.size + 15 ∧ (1 ≤ j → 16 * j < v.size) ∧ Hid (wr.ownsRow w.heap.size 9 1 x j (((List.range j).map (cutB v)).map Value.string)) ∧ Hid (Fr w wr []))
  case atStart => exact ⟨0, rfl, by simp, by omega, by omega, World.ownsRow_nil _ _ _ _, Fr.refl _ _⟩
  case round =>
    obtain ⟨j, hj, rfl, hj2, hj3, HO, HF⟩ := hrel
    have hsz : (v.extract (16 * j) v.size).size = v.size - 16 * j := by rw [ba_size_extract]; omega
    by_cases hlt : 16 < v.size - 16 * j
    · have e1 : (v.extract (16 * j) v.size).extract 0 16 = cutB v j := cut_step v j (by omega)
      have e2 : (v.extract (16 * j) v.size).extract 16 (v.size - 16 * j) = v.extract (16 * (j + 1)) v.size := by rw [ba_extract_extract]; congr 1 <;> omega
      have g1 : decide (16 < v.size - 16 * j) = true := by simpa using hlt
      generalize v.extract (16 * j) v.size = s at *
      have H2 := Lib.hid e2
      have HS := Lib.hid hsz
      clear e2
      have g2 : 16 < s.size := by omega
      clear hsz
      have HJ := Lib.hid hj
      have E1 := Lib.hid e1
      clear hj e1
      go_wp2_with ((with_reducible refine gate_op (.call { callee := .builtin .append, args := #[.tmp 7, .tmp 10], argTypes := #[22, 22] }) rfl ?_); go_must (refine ev_append rfl (.tmp 7) (.tmp 10) 22 rfl rfl w.heap.size 9 (.string ⟨#[]⟩) 1 16 Try.underlying22 info9 rfl (by decide) rfl (HO.out.alloc _) (news := [.string (s.extract 0 16)]) rfl rfl (cells_new _ _ _) rfl (by unfold maxLen; omega) (by omega) (by have := HF.out.size; simp; omega) ?_); intro x1 w1 ho hg)
      have hj := HJ.out
      go_roundg (gk - 1)
      case measure => omega
      case rel => exact ⟨j + 1, by omega, by rw [HS.out, H2.out], by omega, fun _ => by omega, by rw [List.range_succ, List.map_append, List.map_append, List.map_singleton, List.map_singleton, ← E1.out]; exact ho, (HF.out.alloc _).grown hg (fun i hi => .inr (own_ge HO.out (Nat.le_refl _) i hi))⟩
    · have g1 : decide (16 < v.size - 16 * j) = false := by simpa using hlt
      by_cases h0 : v.size - 16 * j = 0
      · have e3 : v.size = 0 := by omega
        have e4 : j = 0 := by omega
        subst e4
        have e5 : v = ⟨#[]⟩ := ba_nil e3
        subst e5
        clear hj hlt
        go_wp2
        go_ret
        exact ⟨_, rfl, HO.out, HF.out⟩
      · have e1 : v.extract (16 * j) v.size = cutB v j := cut_last v j (by omega) (by omega)
        have hne : (v.extract (16 * j) v.size).toList ≠ [] := fun h => by
          have h2 := ba_len (v.extract (16 * j) v.size)
          rw [h, hsz] at h2
          simp at h2
          omega
        have hn1 : ((v.extract (16 * j) v.size).toList == ([] : List UInt8)) = false := beq_eq_false_iff_ne.mpr hne
        have hn2 : ((v.extract (16 * j) v.size).toList != ([] : List UInt8)) = true := bne_iff_ne.mpr hne
        rw [e1] at hn1 hn2 hsz ⊢
        generalize hc : cutB v j = s at *
        have HS := Lib.hid hsz
        have HC := Lib.hid hc
        have HJ := Lib.hid hj
        have g2 : ¬ 16 < s.size := by omega
        clear hsz hc hj e1 hne
        go_wp2_with ((with_reducible refine gate_op (.call { callee := .builtin .append, args := #[.tmp 16, .tmp 18], argTypes := #[22, 22] }) rfl ?_); go_must (refine ev_append rfl (.tmp 16) (.tmp 18) 22 rfl rfl w.heap.size 9 (.string ⟨#[]⟩) 1 16 Try.underlying22 info9 rfl (by decide) rfl (HO.out.alloc _) (news := [.string s]) rfl rfl (cells_new _ _ _) rfl (by unfold maxLen; omega) (by omega) (by have := HF.out.size; simp; omega) ?_); intro x1 w1 ho hg)
        go_ret
        refine ⟨x1, rfl, ?_, (HF.out.alloc _).grown hg (fun i hi => .inr (own_ge HO.out (Nat.le_refl _) i hi))⟩
        rw [show (v.size + 15) / 16 = j + 1 by omega]
        unfold partsL
        rw [show (v.size + 15) / 16 = j + 1 by omega, List.range_succ, List.map_append, List.map_append, List.map_singleton, List.map_singleton, HC.out]
        exact ho
end Go.Proofs.Ytpfabaoefkokjaa
