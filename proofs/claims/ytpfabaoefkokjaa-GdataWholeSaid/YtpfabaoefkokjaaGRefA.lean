/-
  The document's subscriber: New, Latch; a version as a number; the lengths of a value's parts.
-/
import Derived.Test.YtpfabaoefkokjaaGSplit
import Derived.Test.YtpfabaoefkokjaaBase3
namespace Go.Proofs.Ytpfabaoefkokjaa
open Go.RowKit
set_option linter.unusedVariables false
set_option linter.unusedSimpArgs false

def numV (vi vs : Int) : Int := vi * 4294967296 + vs
theorem number_any (vi vs : Int) (h0 : 0 ≤ vi) (h1 : vi ≤ 65535) (h2 : 0 ≤ vs) (h3 : vs ≤ 4294967295) (w : World) : Calls Try.prog 23 #[.agg #[.int .u16 vi, .int .u32 vs]] w fun e w' => e = .returned (.int .u64 (numV vi vs)) ∧ Fr w w' [] := by
  have e1 : IntKind.u64.wrap vi = vi := IntWalk.u64_in _ (by omega)
  have e2 : IntKind.u64.wrap vs = vs := IntWalk.u64_in _ (by omega)
  have e3 : IntKind.u64.wrap (vi * 4294967296) = vi * 4294967296 := IntWalk.u64_in _ (by omega)
  have e4 : IntKind.u64.wrap (vi * 4294967296 + vs) = vi * 4294967296 + vs := IntWalk.u64_in _ (by omega)
  go_enter Try.func23, Try.ntmps23
  go_wp2
  go_ret
  exact ⟨by first | rfl | simp [numV, e1, e2, e3, e4], (Fr.refl _ _).alloc _⟩

section
variable (h : Nat) (sz : Int) (is : Bool) (vi vs : Int) (came : Value) (f b : ByteArray) (ai av ti ts : Int) (ft : Bool) (w : World)
theorem rlatch_no (hs : w.heap[h]? = some (.cells #[.int .i64 sz, .bool is, .int .u16 vi, .int .u32 vs, came, .string f, .string b, .int .u16 ai, .int .u32 av, .int .u16 ti, .int .u32 ts, .bool false, .bool ft] 60 (0, 0))) : Calls Try.prog 19 #[.pointer (some ⟨h, 0, none⟩)] w fun e w' => e = .returned (.bool false) ∧ w = w' := by
  have hc := bk_cell hs
  have hf := bk_free hs
  clear hs
  go_enter Try.func19, Try.ntmps19
  go_wp2
  go_ret
  exact ⟨rfl, rfl⟩
set_option maxHeartbeats 2000000 in
theorem rlatch_yes (hs : w.heap[h]? = some (.cells #[.int .i64 sz, .bool is, .int .u16 vi, .int .u32 vs, came, .string f, .string b, .int .u16 ai, .int .u32 av, .int .u16 ti, .int .u32 ts, .bool true, .bool ft] 60 (0, 0))) : Calls Try.prog 19 #[.pointer (some ⟨h, 0, none⟩)] w fun e w' =>
    e = .returned (.bool true) ∧ w'.heap[h]? = some (.cells #[.int .i64 sz, .bool is, .int .u16 vi, .int .u32 vs, came, .string b, .string ⟨#[]⟩, .int .u16 ti, .int .u32 ts, .int .u16 0, .int .u32 0, .bool false, .bool ft] 60 (0, 0)) ∧ Fr w w' [h] := by
  have hc := bk_cell hs
  have hf := bk_free hs
  have H := Lib.hid hs
  clear hs
  go_enter Try.func19, Try.ntmps19
  go_wp2
  go_ret
  exact ⟨rfl, bk_put (bk_put (bk_put (bk_put (bk_put (bk_put (bk_put H.out 5 _ rfl) 7 _ rfl) 8 _ rfl) 6 _ rfl) 9 _ rfl) 10 _ rfl) 11 _ rfl, (((((((Fr.refl _ _).setIn (by simp) _).setIn (by simp) _).setIn (by simp) _).setIn (by simp) _).setIn (by simp) _).setIn (by simp) _).setIn (by simp) _⟩
end
theorem zeros_any (n : Nat) : ((⟨(List.replicate n 0).toArray⟩ : ByteArray)).size = n := by simp [ByteArray.size]
set_option maxHeartbeats 1000000 in
theorem lengths_any (sz : Nat) (h1 : 1 ≤ sz) (h2 : sz ≤ 64) (w : World) : Calls Try.prog 44 #[.int .i64 sz] w fun e w' =>
    ∃ g c, e = .returned (.slice (some ⟨g, 0, none⟩) ((sz + 15) / 16) c) ∧ w.heap.size < g ∧ w'.rangeAt g 0 ((partsL ⟨(List.replicate sz 0).toArray⟩).map Value.string) ∧ Fr w w' [] := by
  obtain ⟨z, hz⟩ : ∃ z : ByteArray, z = ⟨(List.replicate sz 0).toArray⟩ := ⟨_, rfl⟩
  have hzs : z.size = sz := by rw [hz]; exact zeros_any sz
  have HZ := Lib.hid hz
  have HS := Lib.hid hzs
  clear hz hzs
  go_enter Try.func44, Try.ntmps44
  go_wp2_with (first
    | ((with_reducible refine gate_op (.makeSlice 23 (.tmp 3) (.tmp 3)) rfl ?_); go_must (refine ev_make 23 (.tmp 3) (.tmp 3) rfl rfl rfl (z := .int .u8 0) (size := 1) (bytes := 1) Try.underlying23 (by kernel_rfl) (n := sz) rfl rfl (by omega) (by omega) (cs := bC (List.replicate sz 0)) (by rw [show (Value.int .u8 0).cells = #[Value.int .u8 0] from rfl, Nat.mul_one, made_one]; simp [bC]) ?_))
    | ((with_reducible refine gate_op (.convert 23 9 (.tmp 4)) rfl ?_); go_must (refine ev_bytes 23 9 (.tmp 4) rfl rfl rfl Try.underlying23 Try.underlying5 Try.underlying9 rfl (bk_new _ _) (by simp) ?_; rw [← HZ.out]))
    | (go_at_call 45; refine (all_any z (by have := HS.out; omega) _).mono ?_; rintro e w2 ⟨x5, rfl, ho2, hf2⟩))
  go_ret
  rw [HS.out] at ho2
  obtain ⟨A5, c5, rfl, hA⟩ := own_slice ho2
  obtain ⟨gp, rfl⟩ := hA (by omega)
  have hb := (ho2.lt gp rfl).1
  rw [← HZ.out]
  exact ⟨gp, c5, rfl, by simp at hb; omega, own_range ho2, ((Fr.refl _ _).alloc _).step hf2⟩

theorem rpad_eq (v : ByteArray) (n : Nat) (x : ByteArray) (j : Nat) (h : x = v ++ ⟨(List.replicate j 0).toArray⟩) (hn : n ≤ x.size) (hj : j ≤ n) : x.extract 0 n = (v ++ ⟨(List.replicate n 0).toArray⟩).extract 0 n := by
  subst h
  have e : (List.replicate n (0 : UInt8)) = List.replicate j 0 ++ List.replicate (n - j) 0 := by rw [List.replicate_append_replicate]; congr 1; omega
  apply ba_ext
  rw [ByteArray.toList_eq, ByteArray.toList_eq]
  simp only [ByteArray.data_extract, ByteArray.data_append, Array.toList_extract, Array.toList_append, e, List.extract_eq_take_drop] 
  have hs : n ≤ (v.data.toList ++ List.replicate j (0 : UInt8)).length := by
    rw [List.length_append, List.length_replicate, Array.length_toList]
    rw [ByteArray.size_append, zeros_any] at hn
    exact hn
  simp only [List.drop_zero, Nat.sub_zero]
  rw [← List.append_assoc]
  exact (List.take_append_of_le_length hs).symm
theorem rpad_zero (v : ByteArray) : v = v ++ ⟨(List.replicate 0 (0 : UInt8)).toArray⟩ := by
  apply ByteArray.ext
  rw [ByteArray.data_append]
  simp
theorem rpad_step (v : ByteArray) (j : Nat) : v ++ ⟨(List.replicate j (0 : UInt8)).toArray⟩ ++ ⟨#[0]⟩ = v ++ ⟨(List.replicate (j + 1) 0).toArray⟩ := by
  apply ByteArray.ext
  rw [ByteArray.data_append, ByteArray.data_append, ByteArray.data_append, Array.append_assoc]
  congr 1
  apply Array.ext'
  rw [List.replicate_succ']
  simp
set_option maxHeartbeats 2000000 in
theorem rnewSub_in (n : Nat) (v : ByteArray) (h1 : 1 ≤ n) (h2 : n ≤ 64) (hv : v.size ≤ 100) (w : World) : Calls Try.prog 18 #[.int .i64 n, .string v] w fun e w' =>
    e = .returned (.pointer (some ⟨w.heap.size, 0, none⟩)) ∧ w'.heap[w.heap.size]? = some (.cells #[.int .i64 n, .bool false, .int .u16 0, .int .u32 0, (.slice none 0 0), .string ((v ++ ⟨(List.replicate n 0).toArray⟩).extract 0 n), .string ⟨#[]⟩, .int .u16 0, .int .u32 0, .int .u16 0, .int .u32 0, .bool false, .bool false] 60 (0, 0)) ∧ Fr w w' [] := by
  go_enter Try.func18, Try.ntmps18
  go_wp2
  go_loopg [1] (n + 1) (fun kq x wr => ∃ (j : Nat) (s : ByteArray), Hid (j + kq = n + 1) ∧ Hid (x = .string s ∧ s = v ++ ⟨(List.replicate j 0).toArray⟩ ∧ j ≤ n) ∧ Hid (w = wr))
  case atStart => exact ⟨0, v, Lib.hid (by omega), Lib.hid ⟨rfl, rpad_zero v, by omega⟩, Lib.hid rfl⟩
  case round =>
    obtain ⟨j, s, HJ, HX, HW⟩ := hrel
    obtain ⟨hx, hs, hj⟩ := HX.out
    have hsz : s.size = v.size + j := by rw [hs, ByteArray.size_append, zeros_any]
    have hww := HW.out
    subst hww
    subst hx
    have HSE := Lib.hid hs
    clear hs HX
    by_cases hlt : s.size < n
    · have hlt' : (s.size : Int) < n := by omega
      have hov : ¬ 9223372036854775807 < s.size + (⟨#[0]⟩ : ByteArray).size := by rw [show (⟨#[0]⟩ : ByteArray).size = 1 from rfl]; omega
      have hov2 : s.size + 1 ≤ 9223372036854775807 := by omega
      have HSZ := Lib.hid hsz
      clear hsz
      go_wp2
      go_roundg (gk - 1)
      case measure => have := HJ.out; omega
      case rel => exact ⟨j + 1, s ++ ⟨#[0]⟩, Lib.hid (by have := HJ.out; omega), Lib.hid ⟨rfl, by rw [HSE.out]; exact rpad_step v j, by have := HSZ.out; omega⟩, Lib.hid rfl⟩
    · have hge : ¬ (s.size : Int) < n := by omega
      have hle : n ≤ s.size := by omega
      have hle' : (n : Int) ≤ s.size := by omega
      have HE := Lib.hid (rpad_eq v n s j HSE.out hle hj)
      clear hsz
      go_wp2
      go_ret
      rw [HE.out]
      exact ⟨rfl, bk_new _ _, (Fr.refl _ _).alloc _⟩
end Go.Proofs.Ytpfabaoefkokjaa
