/-
  Both publishers' next parts, in the same words.
-/
import Derived.Test.YtpfabaoefkokjaaGPubLaw
namespace Go.Proofs.Ytpfabaoefkokjaa
open Go.RowKit
set_option linter.unusedVariables false
set_option linter.unusedSimpArgs false

theorem framesTo_len (vi vs : Int) (v : ByteArray) (j : Nat) : (framesTo vi vs v j).length = 19 * j := by
  induction j with
  | zero => rfl
  | succ j ih => rw [framesTo_succ, List.length_append, ih]; simp [frL]; omega
theorem frames_at {w : World} {b : Nat} {vi vs : Int} {v : ByteArray} {i : Nat} (d : Nat) (h : w.rangeAt b 0 (framesTo vi vs v (i + 1 + d))) : w.rangeAt b (19 * i) (frL vi vs i ((v.size + 15) / 16 : Nat) (cutB v i)) := by
  induction d with
  | zero =>
    rw [Nat.add_zero, framesTo_succ] at h
    have := range_right h (framesTo_len vi vs v i)
    rwa [Nat.zero_add] at this
  | succ d ih => exact ih (range_left (by rw [← Nat.add_assoc, framesTo_succ] at h; exact h))
section
variable (P R sz : Nat) (lv : ByteArray) (inc ls : Int) (wv : ByteArray) (wi ws : Int) (nx m : Nat) (w : World) (N : Int) (b : ByteArray)
theorem nextOn2 (h : w.heap[P]? = some (.cells #[.int .i64 sz, .string lv, .int .u16 inc, .int .u32 ls, .string wv, .int .u16 wi, .int .u32 ws, .int .i64 nx, .int .i64 ((m + 1 : Nat))] 80 (0, 0))) (hl : 0 < ls) (h1 : 1 ≤ sz) (h2 : sz ≤ 64) (hv : wv.size = sz) (hx : nx + (m + 1) = (sz + 15) / 16) (hN : N = (((sz + 15) / 16 : Nat) : Int)) (hb : b = cutB wv nx) :
    Calls Try.prog 11 #[.pointer (some ⟨P, 0, none⟩)] w fun e w' => e = .returned (.tuple #[.agg #[.int .i64 4, .int .u8 0, .int .u8 0, .int .u16 0, .int .u16 0, .int .u16 0, .int .u8 0, .int .u16 0, .int .u16 0, .int .u16 0, .int .u8 0, .int .u16 0, .bool false, .int .u8 0, .int .u16 wi, .int .u32 ws, .int .u8 nx, .int .u8 N, .string b], .bool true]) ∧ w'.heap[P]? = some (.cells #[.int .i64 sz, .string lv, .int .u16 inc, .int .u32 ls, .string wv, .int .u16 wi, .int .u32 ws, .int .i64 ((nx + 1 : Nat)), .int .i64 m] 80 (0, 0)) ∧ Fr w w' [P] := by
  subst hb
  refine (next_on P sz lv inc ls wv wi ws w nx ((m + 1 : Nat)) h hl (by omega) (by omega) (by omega) (by omega) (by omega) (by omega)).mono fun e w' hh => ?_
  have e1 : ((sz : Int) + 15) / 16 = N := by omega
  have e2 : (((m + 1 : Nat) : Int) - 1) = m := by omega
  have e3 : ((nx : Int) + 1) = ((nx + 1 : Nat) : Int) := by omega
  rw [e1, e2, e3] at hh
  exact hh
theorem nextStart2 (h : w.heap[P]? = some (.cells #[.int .i64 sz, .string lv, .int .u16 inc, .int .u32 ls, .string wv, .int .u16 wi, .int .u32 ws, .int .i64 nx, .int .i64 ((0 : Nat))] 80 (0, 0))) (hl : 0 < ls) (h1 : 1 ≤ sz) (h2 : sz ≤ 64) (hv : lv.size = sz) (hN : N = (((sz + 15) / 16 : Nat) : Int)) (hm : m + 1 = (sz + 15) / 16) (hb : b = cutB lv 0) :
    Calls Try.prog 11 #[.pointer (some ⟨P, 0, none⟩)] w fun e w' => e = .returned (.tuple #[.agg #[.int .i64 4, .int .u8 0, .int .u8 0, .int .u16 0, .int .u16 0, .int .u16 0, .int .u8 0, .int .u16 0, .int .u16 0, .int .u16 0, .int .u8 0, .int .u16 0, .bool false, .int .u8 0, .int .u16 inc, .int .u32 ls, .int .u8 0, .int .u8 N, .string b], .bool true]) ∧ w'.heap[P]? = some (.cells #[.int .i64 sz, .string lv, .int .u16 inc, .int .u32 ls, .string lv, .int .u16 inc, .int .u32 ls, .int .i64 ((1 : Nat)), .int .i64 m] 80 (0, 0)) ∧ Fr w w' [P] := by
  subst hb
  refine (next_start P sz lv inc ls wv wi ws w nx h hl (by omega) (by omega) (by omega)).mono fun e w' hh => ?_
  have e1 : ((sz : Int) + 15) / 16 = N := by omega
  have e2 : N - 1 = m := by omega
  rw [e1, e2] at hh
  exact hh
theorem rnextOn2 (A : Option Addr) (c wb : Nat) (h : w.heap[R]? = some (.cells #[.int .i64 sz, .int .u16 inc, .int .u32 ls, .string lv, (.slice A (m + 1) c)] 73 (0, 0))) (hl : 0 < ls) (hv : wv.size = sz) (h2 : sz ≤ 64) (hx : nx + (m + 1) = (sz + 15) / 16) (hN : N = (((sz + 15) / 16 : Nat) : Int)) (hb : b = cutB wv nx)
    (hw : WayTo A (m + 1) c wb (19 * nx)) (hr : w.rangeAt wb 0 (framesTo wi ws wv ((sz + 15) / 16))) :
    Calls Try.prog 25 #[.pointer (some ⟨R, 0, none⟩)] w fun e w' => e = .returned (.tuple #[.agg #[.int .i64 4, .int .u8 0, .int .u8 0, .int .u16 0, .int .u16 0, .int .u16 0, .int .u8 0, .int .u16 0, .int .u16 0, .int .u16 0, .int .u8 0, .int .u16 0, .bool false, .int .u8 0, .int .u16 wi, .int .u32 ws, .int .u8 nx, .int .u8 N, .string b], .bool true]) ∧ (∃ A' c', w'.heap[R]? = some (.cells #[.int .i64 sz, .int .u16 inc, .int .u32 ls, .string lv, (.slice A' m c')] 73 (0, 0)) ∧ WayTo A' m c' wb (19 * (nx + 1))) ∧ Fr w w' [R] := by
  subst hb
  obtain ⟨rfl, hmc⟩ := hw (by omega)
  have hf := frames_at (i := nx) m (by rw [show nx + 1 + m = (sz + 15) / 16 by omega]; exact hr)
  rw [hv, ← hN] at hf
  exact rnext_on R sz inc ls lv w wb (19 * nx) m c (frL wi ws nx N (cutB wv nx)) h (by simp; omega) hf rfl rfl hmc (by omega)
theorem rnextStart2 (A : Option Addr) (c : Nat) (h : w.heap[R]? = some (.cells #[.int .i64 sz, .int .u16 inc, .int .u32 ls, .string lv, (.slice A 0 c)] 73 (0, 0))) (hl : 0 < ls) (hv : lv.size = sz) (h1 : 1 ≤ sz) (h2 : sz ≤ 64) (hN : N = (((sz + 15) / 16 : Nat) : Int)) (hm : m + 1 = (sz + 15) / 16) (hb : b = cutB lv 0) :
    Calls Try.prog 25 #[.pointer (some ⟨R, 0, none⟩)] w fun e w' => e = .returned (.tuple #[.agg #[.int .i64 4, .int .u8 0, .int .u8 0, .int .u16 0, .int .u16 0, .int .u16 0, .int .u8 0, .int .u16 0, .int .u16 0, .int .u16 0, .int .u8 0, .int .u16 0, .bool false, .int .u8 0, .int .u16 inc, .int .u32 ls, .int .u8 0, .int .u8 N, .string b], .bool true]) ∧ (∃ A' c' wb, w'.heap[R]? = some (.cells #[.int .i64 sz, .int .u16 inc, .int .u32 ls, .string lv, (.slice A' m c')] 73 (0, 0)) ∧ WayTo A' m c' wb 19 ∧ w.heap.size ≤ wb ∧ w'.rangeAt wb 0 (framesTo inc ls lv ((sz + 15) / 16))) ∧ Fr w w' [R] := by
  subst hb
  refine (rnext_start R sz inc ls lv w A c h (by simp; omega) (by omega) (by omega)).mono fun e w' hh => ?_
  obtain ⟨h1, ⟨A', c', wb, q1, q2, q3, q4⟩, h3⟩ := hh
  rw [hv] at h1 q1 q2 q4
  rw [← hN] at h1
  rw [show (sz + 15) / 16 - 1 = m by omega] at q1 q2
  exact ⟨h1, ⟨A', c', wb, q1, q2, q3, q4⟩, h3⟩
end
end Go.Proofs.Ytpfabaoefkokjaa
