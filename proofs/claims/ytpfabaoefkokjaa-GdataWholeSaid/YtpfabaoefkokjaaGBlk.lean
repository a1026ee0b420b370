/-
  The calls of package blocks that gdata makes: how many parts a size has, a part's place, a part's bytes.
-/
import Derived.Test.YtpfabaoefkokjaaProg
import Derived.Test.YtpfabaoefkokjaaBase
import Derived.Deep.QuietTactic
import Derived.BigQuiet
import Derived.Deep.RegionHeld3
namespace Go.Proofs.Ytpfabaoefkokjaa
open Go.RowKit

set_option maxHeartbeats 400000 in
theorem parts_in (n : Int) (h1 : 1 ≤ n) (h2 : n ≤ 64) (w : World) :
    Calls Try.prog 26 #[.int .i64 n] w fun e w' => e = .returned (.int .i64 ((n + 15) / 16)) ∧ w = w' := by
  go_enter Try.func26, Try.ntmps26
  go_wp2
  go_ret
  exact ⟨by simp; omega, rfl⟩

set_option maxHeartbeats 400000 in
theorem parts_out (n : Int) (h : n < 1 ∨ 64 < n) (w : World) :
    Calls Try.prog 26 #[.int .i64 n] w fun e w' => e = .returned (.int .i64 0) ∧ w = w' := by
  rcases h with h | h
  · go_enter Try.func26, Try.ntmps26
    go_wp2
    go_ret
    exact ⟨rfl, rfl⟩
  · have h1 : decide (n < 1) = false := by simp; omega
    go_enter Try.func26, Try.ntmps26
    go_wp2
    go_ret
    exact ⟨rfl, rfl⟩

set_option maxHeartbeats 400000 in
theorem piece_in (n k : Int) (h1 : 1 ≤ n) (h2 : n ≤ 64) (hk : 0 ≤ k) (hk2 : 16 * k < n) (w : World) :
    Calls Try.prog 40 #[.int .i64 n, .int .i64 k] w fun e w' => e = .returned (.tuple #[.int .i64 (k * 16), .int .i64 (min 16 (n - k * 16))]) ∧ w = w' := by
  have d1 : decide (k < 0) = false := by simp; omega
  have d2 : decide ((n + 15) / 16 ≤ k) = false := by simp; omega
  go_enter Try.func40, Try.ntmps40
  go_wp2_with (go_at_call 26; refine (parts_in _ h1 h2 _).mono ?_; rintro e w' ⟨rfl, rfl⟩)
  all_goals (go_ret2; exact ⟨by simp; omega, rfl⟩)

set_option maxHeartbeats 400000 in
theorem piece_out (n k : Int) (h1 : 1 ≤ n) (h2 : n ≤ 64) (hk : k < 0 ∨ n ≤ 16 * k) (w : World) :
    Calls Try.prog 40 #[.int .i64 n, .int .i64 k] w fun e w' => e = .returned (.tuple #[.int .i64 0, .int .i64 0]) ∧ w = w' := by
  by_cases h0 : k < 0
  · have d1 : decide (k < 0) = true := by simp; omega
    go_enter Try.func40, Try.ntmps40
    go_wp2
    go_ret2
    exact ⟨rfl, rfl⟩
  · have d1 : decide (k < 0) = false := by simp; omega
    have d2 : decide ((n + 15) / 16 ≤ k) = true := by simp; omega
    go_enter Try.func40, Try.ntmps40
    go_wp2_with (go_at_call 26; refine (parts_in _ h1 h2 _).mono ?_; rintro e w' ⟨rfl, rfl⟩)
    go_ret2
    exact ⟨rfl, rfl⟩

/-- A value's part. -/
def cutB (v : ByteArray) (k : Nat) : ByteArray := v.extract (k * 16) (k * 16 + min 16 (v.size - k * 16))

set_option maxHeartbeats 400000 in
theorem cut_in (v : ByteArray) (k : Nat) (h2 : v.size ≤ 64) (hk2 : 16 * k < v.size) (w : World) :
    Calls Try.prog 30 #[.string v, .int .i64 k] w fun e w' => e = .returned (.string (cutB v k)) ∧ w = w' := by
  have h1 : (1 : Int) ≤ v.size := by omega
  have h3 : (v.size : Int) ≤ 64 := by omega
  have h4 : 16 * (k : Int) < v.size := by omega
  obtain ⟨m, hm, hm1, hm2⟩ : ∃ m : Nat, min 16 ((v.size : Int) - k * 16) = m ∧ m ≤ 16 ∧ k * 16 + m ≤ v.size := ⟨min 16 (v.size - k * 16), by omega, by omega, by omega⟩
  have hm3 : cutB v k = v.extract (k * 16) (k * 16 + m) := by unfold cutB; congr 1; omega
  have HM := Lib.hid hm
  have HM3 := Lib.hid hm3
  clear hm hm3
  go_enter Try.func30, Try.ntmps30
  go_wp2_with (go_at_call 40; refine (piece_in _ _ h1 h3 (by omega) h4 _).mono ?_; rintro e w' ⟨rfl, rfl⟩; rw [HM.out])
  go_ret
  exact ⟨by rw [HM3.out]; rfl, rfl⟩
end Go.Proofs.Ytpfabaoefkokjaa
