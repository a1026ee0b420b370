/-
  awake answers true.
-/
import Derived.Test.YtpfabaoefkokjaaGSubB
import Derived.Test.YtpfabaoefkokjaaGNext
namespace Go.Proofs.Ytpfabaoefkokjaa
open Go.RowKit Go.Proofs.YtpfabaoefkokjaaW.PrintLast
set_option linter.unusedVariables false
set_option linter.unusedSimpArgs false

def gAw : G := ⟨List.replicate 2 0, 0, 0, false, 0, 0⟩
def sAw : Sb := ⟨padB ⟨#[120, 121]⟩ 2, 0, 0, ⟨#[]⟩, 0, 0, false, false⟩
theorem cut_ab : cutB ⟨#[97, 98]⟩ 0 = ⟨#[97, 98]⟩ := by decide +kernel
theorem pad_xy : padB ⟨#[120, 121]⟩ 2 = ⟨#[120, 121]⟩ := by decide +kernel
theorem list_ab : (⟨#[97, 98]⟩ : ByteArray).toList = [97, 98] := by rw [ByteArray.toList_eq]
theorem gput_aw : gput 2 gAw 4 5 1 0 1 ⟨#[97, 98]⟩ = ((⟨#[97, 98]⟩, true, 0), ⟨[97, 98], 5, 1, true, Go.bits .or .u8 0 (2 ^ 0 % 256), 1⟩) := by
  unfold gput
  rw [list_ab]
  rfl
theorem sput_aw : sput 2 sAw gAw 4 5 1 0 1 ⟨#[97, 98]⟩ = ((true, 0), { sAw with b := ⟨#[97, 98]⟩, bi := 5, bs := 1, wt := true }, ⟨[97, 98], 5, 1, true, Go.bits .or .u8 0 (2 ^ 0 % 256), 1⟩) := by
  unfold sput
  rw [gput_aw]
  rfl

theorem commit_aw (g : Nat) (w : World) (h : w.heap[g]? = some (.cells #[.int .i64 2, .string ⟨#[]⟩, .int .u16 5, .int .u32 0, .string ⟨#[]⟩, .int .u16 0, .int .u32 0, .int .i64 0, .int .i64 0] 80 (0, 0))) :
    Calls Try.prog 13 #[.pointer (some ⟨g, 0, none⟩), .string ⟨#[97, 98]⟩] w fun e w' => e = .returned (.int .i64 0) ∧ w'.heap[g]? = some (.cells #[.int .i64 2, .string ⟨#[97, 98]⟩, .int .u16 5, .int .u32 1, .string ⟨#[]⟩, .int .u16 0, .int .u32 0, .int .i64 0, .int .i64 0] 80 (0, 0)) ∧ Fr w w' [g] :=
  commit_ok g 2 ⟨#[]⟩ 5 0 ⟨#[]⟩ 0 0 0 0 w h ⟨#[97, 98]⟩ (by decide) (by omega) (by omega)
theorem next_aw (g : Nat) (w : World) (h : w.heap[g]? = some (.cells #[.int .i64 2, .string ⟨#[97, 98]⟩, .int .u16 5, .int .u32 1, .string ⟨#[]⟩, .int .u16 0, .int .u32 0, .int .i64 0, .int .i64 0] 80 (0, 0))) :
    Calls Try.prog 11 #[.pointer (some ⟨g, 0, none⟩)] w fun e w' => e = .returned (.tuple #[.agg #[.int .i64 4, .int .u8 0, .int .u8 0, .int .u16 0, .int .u16 0, .int .u16 0, .int .u8 0, .int .u16 0, .int .u16 0, .int .u16 0, .int .u8 0, .int .u16 0, .bool false, .int .u8 0, .int .u16 5, .int .u32 1, .int .u8 0, .int .u8 1, .string ⟨#[97, 98]⟩], .bool true]) ∧ Fr w w' [g] :=
  (next_start g 2 ⟨#[97, 98]⟩ 5 1 ⟨#[]⟩ 0 0 w 0 h (by omega) (by omega) (by omega) (by decide)).mono fun e w' h => ⟨by rw [h.1, cut_ab]; rfl, h.2.2⟩
theorem sput_awk (h g vb : Nat) (w : World) (hs : w.heap[h]? = some (.cells #[.pointer (some ⟨g, 0, none⟩), .string (padB ⟨#[120, 121]⟩ 2), .int .u16 0, .int .u32 0, .string ⟨#[]⟩, .int .u16 0, .int .u32 0, .bool false, .bool false] 85 (0, 0))) (hg : GlueAt g vb 2 ⟨List.replicate 2 0, 0, 0, false, 0, 0⟩ w) :
    Calls Try.prog 12 #[.pointer (some ⟨h, 0, none⟩), .agg #[.int .i64 4, .int .u8 0, .int .u8 0, .int .u16 0, .int .u16 0, .int .u16 0, .int .u8 0, .int .u16 0, .int .u16 0, .int .u16 0, .int .u8 0, .int .u16 0, .bool false, .int .u8 0, .int .u16 5, .int .u32 1, .int .u8 0, .int .u8 1, .string ⟨#[97, 98]⟩]] w fun e w' => e = .returned (.tuple #[.bool true, .int .i64 0]) ∧ w'.heap[h]? = some (.cells #[.pointer (some ⟨g, 0, none⟩), .string ⟨#[120, 121]⟩, .int .u16 0, .int .u32 0, .string ⟨#[97, 98]⟩, .int .u16 5, .int .u32 1, .bool true, .bool false] 85 (0, 0)) ∧ Fr w w' [g, vb, h] :=
  (sput_any 0 0 0 0 0 0 0 0 0 0 0 false 0 h g vb 2 sAw gAw 4 5 1 0 1 ⟨#[97, 98]⟩ w hs hg ⟨rfl, by omega, by omega, by decide, by decide, by decide, by decide⟩ (by omega) (by omega) (by omega)).mono fun e w' h => by
    rw [sput_aw] at h
    refine ⟨h.1, ?_, h.2.2.2⟩
    have h2 := h.2.1
    unfold SubAt sAw at h2
    rw [pad_xy] at h2
    exact h2

set_option maxRecDepth 100000 in
set_option maxHeartbeats 4000000 in
theorem awake_true (w : World) : Calls Try.prog 7 #[] w fun e w' => e = .returned (.bool true) ∧ Fr w w' [] := by
  go_enter Try.func7, Try.ntmps7
  go_wp2_with (first
    | (go_at_call 8; refine (newPub_in 2 5 (by omega) (by omega) _).mono ?_; rintro e w1 ⟨rfl, hp1, hf1⟩)
    | (go_at_call 9; refine (newSub_in 2 ⟨#[120, 121]⟩ (by omega) (by omega) (by decide) _).mono ?_; rintro e w2 ⟨h, g, vb, rfl, hs2, hg2, hf2, hh, hg, hvb⟩))
  have hl1 := bk_lt hp1
  have hp2 := bk_keep hp1 hf2 (by simp)
  have hl2 := bk_lt hs2
  have F2 := Lib.hid (hf1.step hf2)
  have HS := Lib.hid (show w2.heap[h]? = _ from hs2)
  have HG := Lib.hid hg2
  have n1 := Lib.hid (show h ≠ w.heap.size by omega)
  have n2 := Lib.hid (show g ≠ w.heap.size by omega)
  have n3 := Lib.hid (show vb ≠ w.heap.size by omega)
  have c1 := Lib.hid hf1.size
  have c2 := Lib.hid hh
  have c3 := Lib.hid hg
  have c4 := Lib.hid hvb
  have HP := Lib.hid hp2
  clear hp1 hp2 hs2 hg2 hf1 hf2 hh hg hvb hl1 hl2
  go_wp2_with (go_at_call 13; refine (commit_aw _ _ HP.out).mono ?_; rintro e w3 ⟨rfl, hp3, hf3⟩)
  have F3 := Lib.hid (F2.out.trans hf3 (by simp))
  have HS3 := Lib.hid (bk_keep HS.out hf3 (by simpa using n1.out))
  have HG3 := Lib.hid (gl_keep HG.out hf3 (by simpa using n2.out) (by simpa using n3.out))
  have HP3 := Lib.hid hp3
  clear hp3 hf3 HS HG HP F2
  go_wp2_with (first
    | (go_at_call 11; refine (next_aw _ _ HP3.out).mono ?_; rintro e w4 ⟨rfl, hf4⟩; have F4 := Lib.hid (F3.out.trans hf4 (by simp)); have HS4 := Lib.hid (bk_keep HS3.out hf4 (by simpa using n1.out)); have HG4 := Lib.hid (gl_keep HG3.out hf4 (by simpa using n2.out) (by simpa using n3.out)); clear hf4 HS3 HG3 HP3 F3)
    | ((with_reducible refine gate_op (.store 36 (.tmp 4) (.tmp 20)) rfl ?_); go_must (refine ev_store 36 (.tmp 4) (.tmp 20) rfl rfl rfl rfl rfl (bk_new _ _) size36 rfl rfl rfl ?_); intro w5 hb5 hf5)
    | ((with_reducible refine gate_op (.load 36 (.tmp 4)) rfl ?_); go_must (refine ev_load 36 (.tmp 4) rfl rfl rfl rfl hb5 Try.underlying36 rfl size36 rfl ?_)))
  have F5 := Lib.hid ((F4.out.alloc _).trans hf5 (by have := F4.out.size; simp; omega))
  have HS5 := Lib.hid (bk_keep (bk_alloc HS4.out _) hf5 (by have := bk_lt HS4.out; simp; omega))
  have HG5 := Lib.hid (gl_keep (s := ⟨List.replicate 2 0, 0, 0, false, 0, 0⟩) ⟨bk_alloc HG4.out.1 _, bk_alloc HG4.out.2 _⟩ hf5 (by have := bk_lt HG4.out.1; simp; omega) (by have := bk_lt HG4.out.2; simp; omega))
  clear hf5 hb5 HS4 HG4 F4
  have m := Lib.hid (show w.heap.size ≤ h ∧ w.heap.size ≤ g ∧ w.heap.size ≤ vb by have a1 := c1.out; have a2 := c2.out; have a3 := c3.out; have a4 := c4.out; omega)
  clear c1 c2 c3 c4 n1 n2 n3
  go_wp2_with (go_at_call 12; refine (sput_awk _ _ _ _ HS5.out HG5.out).mono ?_; rintro e w6 ⟨rfl, hs6, hf6⟩)
  have F6 := Lib.hid (F5.out.trans hf6 (by have := m.out; simp; omega))
  have HS6 := Lib.hid hs6
  clear hs6 hf6 HS5 HG5 F5
  go_wp2_with (go_at_call 16; refine (sfront_any _ _ _ _ _ _ _ _ _ _ _ HS6.out).mono ?_; rintro e w7 ⟨rfl, hf7⟩)
  have F7 := Lib.hid ((F6.out.step hf7))
  have HS7 := Lib.hid (bk_keep HS6.out hf7 (by simp))
  clear hf7 HS6 F6
  go_wp2_with (go_at_call 15; refine (latch_yes _ _ _ _ _ _ _ _ _ _ (bk_alloc HS7.out _)).mono ?_; rintro e w8 ⟨rfl, hs8, hf8⟩)
  have HQ8 := Lib.hid (bk_keep (bk_new w7 (.cells #[.int .u16 0, .int .u32 0] 34)) hf8 (by have := bk_lt HS7.out; simp; omega))
  have F8 := Lib.hid ((F7.out.alloc _).trans hf8 (by have := m.out; simp; omega))
  have HS8 := Lib.hid hs8
  clear hs8 hf8 HS7 F7
  go_wp2_with (go_at_call 16; refine (sfront_any _ _ _ _ _ _ _ _ _ _ _ HS8.out).mono ?_; rintro e w9 ⟨rfl, hf9⟩; go_must (have HQ9 := bk_keep HQ8.out hf9 (by simp); have F9 := Lib.hid (F8.out.step hf9); have hn9 : ¬ w7.heap.size = w9.heap.size := (by have := bk_lt HQ9; omega); have hcq0 : (w9.alloc (.cells #[.int .u16 5, .int .u32 1] 34)).cell? ⟨w7.heap.size, 0, none⟩ = some (.int .u16 0) := bk_cell (bk_alloc HQ9 _) 0; have hcq1 : (w9.alloc (.cells #[.int .u16 5, .int .u32 1] 34)).cell? ⟨w7.heap.size, 1, none⟩ = some (.int .u32 0) := bk_cell (bk_alloc HQ9 _) 1; clear HQ9 hf9))
  go_ret
  exact ⟨rfl, F9.out.alloc _⟩
end Go.Proofs.Ytpfabaoefkokjaa
