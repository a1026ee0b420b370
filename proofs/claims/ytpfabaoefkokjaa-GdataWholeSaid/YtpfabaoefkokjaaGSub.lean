/-
  What a subscriber's functions do.
-/
import Derived.Test.YtpfabaoefkokjaaGPutD
import Derived.Test.YtpfabaoefkokjaaShelf
namespace Go.Proofs.Ytpfabaoefkokjaa
open Go.RowKit Go.Proofs.YtpfabaoefkokjaaW.PrintLast
set_option linter.unusedVariables false
set_option linter.unusedSimpArgs false

/-- What a subscriber holds beside its glue. -/
structure Sb where
  f : ByteArray
  fi : Int
  fs : Int
  b : ByteArray
  bi : Int
  bs : Int
  wt : Bool
  ft : Bool
def SubAt (h g : Nat) (s : Sb) (w : World) : Prop := w.heap[h]? = some (.cells #[.pointer (some ⟨g, 0, none⟩), .string s.f, .int .u16 s.fi, .int .u32 s.fs, .string s.b, .int .u16 s.bi, .int .u32 s.bs, .bool s.wt, .bool s.ft] 85 (0, 0))
section
variable (h g : Nat) (f : ByteArray) (fi fs : Int) (b : ByteArray) (bi bs : Int) (wt ft : Bool) (w : World)

theorem fault_nil : Calls Try.prog 17 #[.pointer none] w fun e w' => e = .returned (.bool false) ∧ w = w' := by
  go_enter Try.func17, Try.ntmps17
  go_wp2
  go_ret
  exact ⟨rfl, rfl⟩
theorem fault_any (hs : w.heap[h]? = some (.cells #[.pointer (some ⟨g, 0, none⟩), .string f, .int .u16 fi, .int .u32 fs, .string b, .int .u16 bi, .int .u32 bs, .bool wt, .bool ft] 85 (0, 0))) : Calls Try.prog 17 #[.pointer (some ⟨h, 0, none⟩)] w fun e w' => e = .returned (.bool ft) ∧ w = w' := by
  have hc := bk_cell hs
  have hf := bk_free hs
  clear hs
  go_enter Try.func17, Try.ntmps17
  go_wp2
  go_ret
  exact ⟨rfl, rfl⟩
theorem latch_nil : Calls Try.prog 15 #[.pointer none] w fun e w' => e = .returned (.bool false) ∧ w = w' := by
  go_enter Try.func15, Try.ntmps15
  go_wp2
  go_ret
  exact ⟨rfl, rfl⟩
theorem latch_no (hs : w.heap[h]? = some (.cells #[.pointer (some ⟨g, 0, none⟩), .string f, .int .u16 fi, .int .u32 fs, .string b, .int .u16 bi, .int .u32 bs, .bool false, .bool ft] 85 (0, 0))) : Calls Try.prog 15 #[.pointer (some ⟨h, 0, none⟩)] w fun e w' => e = .returned (.bool false) ∧ w = w' := by
  have hc := bk_cell hs
  have hf := bk_free hs
  clear hs
  go_enter Try.func15, Try.ntmps15
  go_wp2
  go_ret
  exact ⟨rfl, rfl⟩
set_option maxHeartbeats 2000000 in
theorem latch_yes (hs : w.heap[h]? = some (.cells #[.pointer (some ⟨g, 0, none⟩), .string f, .int .u16 fi, .int .u32 fs, .string b, .int .u16 bi, .int .u32 bs, .bool true, .bool ft] 85 (0, 0))) : Calls Try.prog 15 #[.pointer (some ⟨h, 0, none⟩)] w fun e w' =>
    e = .returned (.bool true) ∧ w'.heap[h]? = some (.cells #[.pointer (some ⟨g, 0, none⟩), .string b, .int .u16 bi, .int .u32 bs, .string ⟨#[]⟩, .int .u16 0, .int .u32 0, .bool false, .bool ft] 85 (0, 0)) ∧ Fr w w' [h] := by
  have hc := bk_cell hs
  have hf := bk_free hs
  have H := Lib.hid hs
  clear hs
  go_enter Try.func15, Try.ntmps15
  go_wp2
  go_ret
  exact ⟨rfl, bk_put (bk_put (bk_put (bk_put (bk_put (bk_put (bk_put H.out 1 _ rfl) 2 _ rfl) 3 _ rfl) 4 _ rfl) 5 _ rfl) 6 _ rfl) 7 _ rfl, (((((((Fr.refl _ _).setIn (by simp) _).setIn (by simp) _).setIn (by simp) _).setIn (by simp) _).setIn (by simp) _).setIn (by simp) _).setIn (by simp) _⟩
set_option maxHeartbeats 1000000 in
theorem sfront_nil : Calls Try.prog 16 #[.pointer none] w fun e w' => e = .returned (.tuple #[.string ⟨#[]⟩, .agg #[.int .u16 0, .int .u32 0]]) ∧ Fr w w' [] := by
  go_enter Try.func16, Try.ntmps16
  go_wp2
  refine bodyPost_ret (v := .tuple #[.string ⟨#[]⟩, .agg #[.int .u16 0, .int .u32 0]]) (by simp [results, Try.results16, go_sem]) rfl ⟨rfl, ?_⟩
  exact (Fr.refl _ _).alloc _
set_option maxHeartbeats 1000000 in
theorem sfront_any (hs : w.heap[h]? = some (.cells #[.pointer (some ⟨g, 0, none⟩), .string f, .int .u16 fi, .int .u32 fs, .string b, .int .u16 bi, .int .u32 bs, .bool wt, .bool ft] 85 (0, 0))) : Calls Try.prog 16 #[.pointer (some ⟨h, 0, none⟩)] w fun e w' => e = .returned (.tuple #[.string f, .agg #[.int .u16 fi, .int .u32 fs]]) ∧ Fr w w' [] := by
  have hc := bk_cell hs
  have hf := bk_free hs
  have HA := bk_cell (bk_alloc hs (.cells #[.int .u16 0, .int .u32 0] 34))
  have hq1 : (w.alloc (.cells #[.int .u16 0, .int .u32 0] 34)).cell? ⟨h, 1, none⟩ = some (.string f) := HA 1
  have hq2 : (w.alloc (.cells #[.int .u16 0, .int .u32 0] 34)).cell? ⟨h, 2, none⟩ = some (.int .u16 fi) := HA 2
  have hq3 : (w.alloc (.cells #[.int .u16 0, .int .u32 0] 34)).cell? ⟨h, 3, none⟩ = some (.int .u32 fs) := HA 3
  clear HA
  have hne : ¬ h = w.heap.size := by have := bk_lt hs; omega
  clear hs
  go_enter Try.func16, Try.ntmps16
  go_wp2
  go_region
  go_wp2
  refine bodyPost_ret (v := .tuple #[.string f, .agg #[.int .u16 fi, .int .u32 fs]]) (by simp [results, Try.results16, go_sem]) rfl ⟨rfl, ?_⟩
  repeat (first | exact Fr.refl _ _ | apply Fr.drew | apply Fr.drewN | apply Fr.alloc)
set_option maxHeartbeats 1000000 in
theorem waits_any (hs : w.heap[h]? = some (.cells #[.pointer (some ⟨g, 0, none⟩), .string f, .int .u16 fi, .int .u32 fs, .string b, .int .u16 bi, .int .u32 bs, .bool wt, .bool ft] 85 (0, 0))) : Calls Try.prog 21 #[.pointer (some ⟨h, 0, none⟩)] w fun e w' => e = .returned (.tuple #[.string b, .agg #[.int .u16 bi, .int .u32 bs], .bool wt]) ∧ Fr w w' [] := by
  have hc := bk_cell hs
  have hf := bk_free hs
  have HA := bk_cell (bk_alloc hs (.cells #[.int .u16 0, .int .u32 0] 34))
  have hq4 : (w.alloc (.cells #[.int .u16 0, .int .u32 0] 34)).cell? ⟨h, 4, none⟩ = some (.string b) := HA 4
  have hq5 : (w.alloc (.cells #[.int .u16 0, .int .u32 0] 34)).cell? ⟨h, 5, none⟩ = some (.int .u16 bi) := HA 5
  have hq6 : (w.alloc (.cells #[.int .u16 0, .int .u32 0] 34)).cell? ⟨h, 6, none⟩ = some (.int .u32 bs) := HA 6
  have hq7 : (w.alloc (.cells #[.int .u16 0, .int .u32 0] 34)).cell? ⟨h, 7, none⟩ = some (.bool wt) := HA 7
  have hr7 : (w.alloc (.cells #[.int .u16 bi, .int .u32 bs] 34)).cell? ⟨h, 7, none⟩ = some (.bool wt) := bk_cell (bk_alloc hs _) 7
  clear HA
  have hne : ¬ h = w.heap.size := by have := bk_lt hs; omega
  clear hs
  go_enter Try.func21, Try.ntmps21
  go_wp2
  go_region
  go_wp2
  refine bodyPost_ret (v := .tuple #[.string b, .agg #[.int .u16 bi, .int .u32 bs], .bool wt]) (by simp [results, Try.results21, go_sem]) rfl ⟨rfl, ?_⟩
  repeat (first | exact Fr.refl _ _ | apply Fr.drew | apply Fr.drewN | apply Fr.alloc)
end
end Go.Proofs.Ytpfabaoefkokjaa
