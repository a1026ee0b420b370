/-
  GdataPublishes: the walk.
-/
import Derived.Test.YtpfabaoefkokjaaGAwake
import Derived.Test.YtpfabaoefkokjaaGRNext
namespace Go.Proofs.Ytpfabaoefkokjaa
open Go.RowKit Go.Proofs.YtpfabaoefkokjaaW.PrintLast
set_option linter.unusedVariables false
set_option linter.unusedSimpArgs false

/-- How the publisher and the document's stand behind k turns. -/
structure PubRel (sz : Nat) (inc : Int) (P R k : Nat) (w : World) (lv : ByteArray) (ls : Int) (wv : ByteArray) (wi ws : Int) (nx m : Nat) (A : Option Addr) (c wb : Nat) : Prop where
  pub : w.heap[P]? = some (.cells #[.int .i64 sz, .string lv, .int .u16 inc, .int .u32 ls, .string wv, .int .u16 wi, .int .u32 ws, .int .i64 nx, .int .i64 m] 80 (0, 0))
  ref : w.heap[R]? = some (.cells #[.int .i64 sz, .int .u16 inc, .int .u32 ls, .string lv, (.slice A m c)] 73 (0, 0))
  s0 : 0 ≤ ls
  s1 : ls ≤ k
  yes : 0 < ls → lv.size = sz
  no : ls = 0 → lv = ⟨#[]⟩ ∧ m = 0
  way : WayTo A m c wb (19 * nx)
  frames : 0 < m → 0 < ls ∧ wv.size = sz ∧ nx + m = (sz + 15) / 16 ∧ wb ≠ P ∧ wb ≠ R ∧ w.rangeAt wb 0 (framesTo wi ws wv ((sz + 15) / 16))

section
variable (size inc : Int) (w : World)
set_option maxRecDepth 100000 in
set_option maxHeartbeats 2000000 in
theorem publishes_long (A : Option Addr) (n c : Nat) (hn : 80 < n) (hn2 : n ≤ 9223372036854775807) : Calls Try.prog 6 #[.int .i64 size, .int .u16 inc, .slice A n c] w fun e w' => e = .returned (.bool true) ∧ Fr w w' [] := by
  have hd : (80 : Int) < n := by omega
  go_enter Try.func6, Try.ntmps6
  go_wp2_with (go_at_call 7; refine (awake_true _).mono ?_; rintro e w1 ⟨rfl, hf1⟩)
  go_ret
  exact ⟨rfl, hf1⟩
set_option maxRecDepth 100000 in
theorem next_nil (w : World) : Calls Try.prog 11 #[.pointer none] w fun e w' => e = .returned (.tuple #[.agg #[.int .i64 0, .int .u8 0, .int .u8 0, .int .u16 0, .int .u16 0, .int .u16 0, .int .u8 0, .int .u16 0, .int .u16 0, .int .u16 0, .int .u8 0, .int .u16 0, .bool false, .int .u8 0, .int .u16 0, .int .u32 0, .int .u8 0, .int .u8 0, .string ⟨#[]⟩], .bool false]) ∧ Fr w w' [] := by
  go_enter Try.func11, Try.ntmps11
  go_wp2_with (first | (go_at_call 29; refine (any_nil _).mono ?_; rintro e w' ⟨rfl, rfl⟩) | ((with_reducible refine gate_op (.store 36 (.tmp 2) (.tmp 8)) rfl ?_); go_must (refine ev_store 36 (.tmp 2) (.tmp 8) rfl rfl rfl rfl rfl (bk_new _ _) size36 rfl rfl rfl ?_); intro w1 hb1 hf1))
  refine bodyPost_ret (v := .tuple #[.agg #[.int .i64 0, .int .u8 0, .int .u8 0, .int .u16 0, .int .u16 0, .int .u16 0, .int .u8 0, .int .u16 0, .int .u16 0, .int .u16 0, .int .u8 0, .int .u16 0, .bool false, .int .u8 0, .int .u16 0, .int .u32 0, .int .u8 0, .int .u8 0, .string ⟨#[]⟩], .bool false]) (ret_cell_tmp rfl rfl hb1 Try.underlying36 rfl size36 rfl rfl) rfl ⟨rfl, ?_⟩
  exact ((Fr.refl _ _).alloc _).trans hf1 (by simp)
theorem commit_nil (v : ByteArray) (w : World) : Calls Try.prog 13 #[.pointer none, .string v] w fun e w' => e = .returned (.int .i64 1) ∧ w = w' := by
  go_enter Try.func13, Try.ntmps13
  go_wp2
  go_ret
  exact ⟨rfl, rfl⟩
theorem left_nil (w : World) : Calls Try.prog 14 #[.pointer none] w fun e w' => e = .returned (.int .i64 0) ∧ w = w' := by
  go_enter Try.func14, Try.ntmps14
  go_wp2
  go_ret
  exact ⟨rfl, rfl⟩
set_option maxRecDepth 100000 in
set_option maxHeartbeats 2000000 in
theorem publishes_out (A : Option Addr) (n c : Nat) (hn : n ≤ 80) (hs : size < 1 ∨ 64 < size) : Calls Try.prog 6 #[.int .i64 size, .int .u16 inc, .slice A n c] w fun e w' => e = .returned (.bool true) ∧ Fr w w' [] := by
  have hd : ¬ (80 : Int) < n := by omega
  have HS := Lib.hid hs
  have hx : (size < 1) ∨ (¬ size < 1 ∧ 64 < size) := by omega
  clear hs
  rcases hx with hx | ⟨hx, hx2⟩
  all_goals
    go_enter Try.func6, Try.ntmps6
    go_wp2_with (first
      | (go_at_call 7; refine (awake_true _).mono ?_; rintro e w1 ⟨rfl, hf1⟩)
      | (go_at_call 8; refine (newPub_out _ _ HS.out _).mono ?_; rintro e w' ⟨rfl, rfl⟩)
      | (go_at_call 11; refine (next_nil _).mono ?_; rintro e w2 ⟨rfl, hf2⟩)
      | (go_at_call 13; refine (commit_nil _ _).mono ?_; rintro e w' ⟨rfl, rfl⟩)
      | (go_at_call 14; refine (left_nil _).mono ?_; rintro e w' ⟨rfl, rfl⟩)
      | ((with_reducible refine gate_op (.store 36 (.tmp 8) (.tmp 38)) rfl ?_); go_must (refine ev_store 36 (.tmp 8) (.tmp 38) rfl rfl rfl rfl rfl (bk_new _ _) size36 rfl rfl rfl ?_); intro w3 hb3 hf3))
    go_ret
    exact ⟨rfl, ((hf1.step hf2).alloc _).trans hf3 (by have := hf1.size; have := hf2.size; simp; omega)⟩
end
end Go.Proofs.Ytpfabaoefkokjaa
