/-
  What the calls of a publisher do: NewPub, Commit, Last, Left, Next.
-/
import Derived.Test.YtpfabaoefkokjaaGBlk
namespace Go.Proofs.Ytpfabaoefkokjaa
open Go.RowKit

section
variable (g : Nat) (sz : Int) (lv : ByteArray) (li ls : Int) (wv : ByteArray) (wi ws nx lf : Int) (w : World) (h : w.heap[g]? = some (.cells #[.int .i64 sz, .string lv, .int .u16 li, .int .u32 ls, .string wv, .int .u16 wi, .int .u32 ws, .int .i64 nx, .int .i64 lf] 80 (0, 0)))
include h

set_option maxHeartbeats 400000 in
theorem any_some :
    Calls Try.prog 29 #[.pointer (some ⟨g, 0, none⟩)] w fun e w' => e = .returned (.bool (decide (0 < ls))) ∧ w = w' := by
  have hc := bk_cell h
  clear h
  go_enter Try.func29, Try.ntmps29
  go_wp2
  go_ret
  exact ⟨rfl, rfl⟩

set_option maxHeartbeats 400000 in
theorem last_yes (hl : 0 < ls) :
    Calls Try.prog 22 #[.pointer (some ⟨g, 0, none⟩)] w fun e w' => e = .returned (.tuple #[.string lv, .agg #[.int .u16 li, .int .u32 ls], .bool true]) ∧ Fr w w' [] := by
  have hc := bk_cell h
  have hg : g < w.heap.size := bk_lt h
  have H := Lib.hid h
  clear h
  have hd : decide (0 < ls) = true := by simpa using hl
  go_enter Try.func22, Try.ntmps22
  go_wp2_with (go_at_call 29; refine (any_some _ _ _ _ _ _ _ _ _ _ _ (bk_alloc H.out _)).mono ?_; rintro e w' ⟨rfl, rfl⟩)
  go_region
  go_wp2
  refine bodyPost_ret (v := .tuple #[.string lv, .agg #[.int .u16 li, .int .u32 ls], .bool true]) (by simp [results, Try.results22, go_sem]) rfl ⟨rfl, ?_⟩
  repeat (first | exact Fr.refl _ _ | apply Fr.drew | apply Fr.drewN | apply Fr.alloc)

set_option maxHeartbeats 400000 in
theorem last_no (hl : ls ≤ 0) :
    Calls Try.prog 22 #[.pointer (some ⟨g, 0, none⟩)] w fun e w' => e = .returned (.tuple #[.string ⟨#[]⟩, .agg #[.int .u16 0, .int .u32 0], .bool false]) ∧ Fr w w' [] := by
  have hc := bk_cell h
  have hg : g < w.heap.size := bk_lt h
  have H := Lib.hid h
  clear h
  have hd : decide (0 < ls) = false := by simpa using hl
  go_enter Try.func22, Try.ntmps22
  go_wp2_with (go_at_call 29; refine (any_some _ _ _ _ _ _ _ _ _ _ _ (bk_alloc H.out _)).mono ?_; rintro e w' ⟨rfl, rfl⟩)
  refine bodyPost_ret (v := .tuple #[.string ⟨#[]⟩, .agg #[.int .u16 0, .int .u32 0], .bool false]) (by simp [results, Try.results22, go_sem]) rfl ⟨rfl, ?_⟩
  repeat (first | exact Fr.refl _ _ | apply Fr.drew | apply Fr.drewN | apply Fr.alloc)

set_option maxHeartbeats 400000 in
theorem left_some :
    Calls Try.prog 14 #[.pointer (some ⟨g, 0, none⟩)] w fun e w' => e = .returned (.int .i64 lf) ∧ w = w' := by
  have hc := bk_cell h
  clear h
  go_enter Try.func14, Try.ntmps14
  go_wp2
  go_ret
  exact ⟨rfl, rfl⟩

set_option maxHeartbeats 400000 in
theorem commit_len (v : ByteArray) (hv : ((v.size : Int) == sz) = false) :
    Calls Try.prog 13 #[.pointer (some ⟨g, 0, none⟩), .string v] w fun e w' => e = .returned (.int .i64 10) ∧ w = w' := by
  have hc := bk_cell h
  clear h
  have hv2 : ((v.size : Int) != sz) = true := by simpa [bne] using hv
  go_enter Try.func13, Try.ntmps13
  go_wp2
  go_ret
  exact ⟨rfl, rfl⟩

set_option maxHeartbeats 400000 in
theorem commit_sat (v : ByteArray) (hv : ((v.size : Int) == sz) = true) (hs : (ls == 4294967295) = true) :
    Calls Try.prog 13 #[.pointer (some ⟨g, 0, none⟩), .string v] w fun e w' => e = .returned (.int .i64 13) ∧ w = w' := by
  have hc := bk_cell h
  clear h
  have hv2 : ((v.size : Int) != sz) = false := by simpa [bne] using hv
  go_enter Try.func13, Try.ntmps13
  go_wp2
  go_ret
  exact ⟨rfl, rfl⟩

set_option maxHeartbeats 400000 in
theorem commit_ok (v : ByteArray) (hv : ((v.size : Int) == sz) = true) (h0 : 0 ≤ ls) (hs : ls < 4294967295) :
    Calls Try.prog 13 #[.pointer (some ⟨g, 0, none⟩), .string v] w fun e w' => e = .returned (.int .i64 0) ∧ w'.heap[g]? = some (.cells #[.int .i64 sz, .string v, .int .u16 li, .int .u32 (ls + 1), .string wv, .int .u16 wi, .int .u32 ws, .int .i64 nx, .int .i64 lf] 80 (0, 0)) ∧ Fr w w' [g] := by
  have hc := bk_cell h
  have hf := bk_free h
  have H := Lib.hid h
  clear h
  have hv2 : ((v.size : Int) != sz) = false := by simpa [bne] using hv
  have hs2 : (ls == 4294967295) = false := by simp; omega
  go_enter Try.func13, Try.ntmps13
  go_wp2
  go_ret
  refine ⟨rfl, bk_put (bk_put H.out 1 _ rfl) 3 _ rfl, (((Fr.refl _ _).setIn (by simp) _).setIn (by simp) _)⟩
end
theorem any_nil (w : World) :
    Calls Try.prog 29 #[.pointer none] w fun e w' => e = .returned (.bool false) ∧ w = w' := by
  go_enter Try.func29, Try.ntmps29
  go_wp2
  go_ret
  exact ⟨rfl, rfl⟩
end Go.Proofs.Ytpfabaoefkokjaa
