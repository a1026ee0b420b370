/-
  What a glue's New and begin do.
-/
import Derived.Test.YtpfabaoefkokjaaGGlue
namespace Go.Proofs.Ytpfabaoefkokjaa
open Go.RowKit Go.Proofs.YtpfabaoefkokjaaW.PrintLast
set_option linter.unusedVariables false
set_option linter.unusedSimpArgs false

set_option maxHeartbeats 400000 in
theorem glueNew_out (n : Int) (h : n < 1 ∨ 64 < n) (w : World) :
    Calls Try.prog 27 #[.int .i64 n] w fun e w' => e = .returned (.pointer none) ∧ w = w' := by
  go_enter Try.func27, Try.ntmps27
  go_wp2_with (go_at_call 26; refine (parts_out _ h _).mono ?_; rintro e w' ⟨rfl, rfl⟩)
  go_ret
  exact ⟨rfl, rfl⟩

theorem info5 : (Try.prog.info? 5).map (fun i => (i.zero, i.size, i.bytes)) = some (some (.int .u8 0), 1, 1) := by kernel_rfl
set_option maxHeartbeats 400000 in
theorem glueNew_in (n : Nat) (h1 : 1 ≤ n) (h2 : n ≤ 64) (w : World) :
    Calls Try.prog 27 #[.int .i64 n] w fun e w' => e = .returned (.pointer (some ⟨w.heap.size + 1, 0, none⟩)) ∧ w'.heap[w.heap.size + 1]? = some (.cells #[.slice (some ⟨(w.heap.size), 0, none⟩) n n, .int .u16 0, .int .u32 0, .bool false, .int .u8 0, .int .i64 0] 92 (0, 0)) ∧ w'.heap[w.heap.size]? = some (.cells (bC (List.replicate n 0)) 5 (0, 0)) ∧ Fr w w' [] := by
  have hd : (((n : Int) + 15) / 16 == 0) = false := by simp; omega
  go_enter Try.func27, Try.ntmps27
  go_wp2_with (first | (go_at_call 26; refine (parts_in _ (by omega) (by omega) _).mono ?_; rintro e w' ⟨rfl, rfl⟩) | ((with_reducible refine gate_op (.makeSlice 23 (.tmp 6) (.tmp 6)) rfl ?_); go_must (refine ev_make 23 (.tmp 6) (.tmp 6) rfl rfl rfl Try.underlying23 info5 (n := n) rfl rfl (by omega) (by omega) (cs := bC (List.replicate n 0)) (by rw [Nat.mul_one]; exact (made_one _ _).trans (by simp [bC])) ?_)))
  go_ret
  refine ⟨rfl, ?_, ?_, ((Fr.refl _ _).alloc _).alloc _⟩
  · refine bk_newAt ?_
    simp
  · exact bk_alloc (bk_new _ _) _

set_option maxHeartbeats 400000 in
theorem begin_any (g vb sz : Nat) (gi gs : Int) (is : Bool) (cm gn vi vs : Int) (w : World) (h : w.heap[g]? = some (.cells #[.slice (some ⟨vb, 0, none⟩) sz sz, .int .u16 gi, .int .u32 gs, .bool is, .int .u8 cm, .int .i64 gn] 92 (0, 0))) :
    Calls Try.prog 43 #[.pointer (some ⟨g, 0, none⟩), .agg #[.int .u16 vi, .int .u32 vs]] w fun e w' => e = .returned (.tuple #[]) ∧ w'.heap[g]? = some (.cells #[.slice (some ⟨vb, 0, none⟩) sz sz, .int .u16 vi, .int .u32 vs, .bool true, .int .u8 0, .int .i64 0] 92 (0, 0)) ∧ Fr w w' [g] := by
  have hg : g < w.heap.size := bk_lt h
  have H := Lib.hid h
  have hne : ¬ g = w.heap.size := by omega
  have hne2 : ¬ w.heap.size = g := by omega
  have hc := bk_cell h
  have hf := bk_free h
  clear h
  go_enter Try.func43, Try.ntmps43
  go_wp2
  go_end0
  exact ⟨rfl, bk_alloc (bk_put (bk_put (bk_put (bk_put (bk_put H.out 1 _ rfl) 2 _ rfl) 3 _ rfl) 4 _ rfl) 5 _ rfl) _, (((((((Fr.refl _ _).setIn (by simp) _).setIn (by simp) _).setIn (by simp) _).setIn (by simp) _).setIn (by simp) _).alloc _)⟩
end Go.Proofs.Ytpfabaoefkokjaa
