/-
  What the document's publisher does: Commit and Next.
-/
import Derived.Test.YtpfabaoefkokjaaGSplit
import Derived.Test.YtpfabaoefkokjaaWLast
namespace Go.Proofs.Ytpfabaoefkokjaa
open Go.RowKit Go.Proofs.YtpfabaoefkokjaaW.PrintLast
set_option linter.unusedVariables false
set_option linter.unusedSimpArgs false

/-- What stands behind the first part of a value. -/
def RStarted0 (WayTo : Option Addr → Nat → Nat → Nat → Nat → Prop) (g : Nat) (sz li ls : Int) (lv : ByteArray) (w w' : World) : Prop := ∃ (A : Option Addr) (c' wb : Nat), w'.heap[g]? = some (.cells #[.int .i64 sz, .int .u16 li, .int .u32 ls, .string lv, (.slice A ((lv.size + 15) / 16 - 1) c')] 73 (0, 0)) ∧ WayTo A ((lv.size + 15) / 16 - 1) c' wb 19 ∧ w.heap.size ≤ wb ∧ w'.rangeAt wb 0 (framesTo li ls lv ((lv.size + 15) / 16))
/-- Where the frames that are still to go lie. -/
def WayTo (A : Option Addr) (m c wb off : Nat) : Prop := 0 < m → A = some ⟨wb, off, none⟩ ∧ m ≤ c

def RStarted (g : Nat) (sz li ls : Int) (lv : ByteArray) (w w' : World) : Prop := RStarted0 WayTo g sz li ls lv w w'

section
variable (g : Nat) (sz li ls : Int) (lv : ByteArray) (way : Value) (w : World) (h : w.heap[g]? = some (.cells #[.int .i64 sz, .int .u16 li, .int .u32 ls, .string lv, way] 73 (0, 0)))
include h

set_option maxHeartbeats 400000 in
theorem rcommit_len (v : ByteArray) (hv : ((v.size : Int) == sz) = false) :
    Calls Try.prog 24 #[.pointer (some ⟨g, 0, none⟩), .string v] w fun e w' => e = .returned (.int .i64 10) ∧ w = w' := by
  have hc := bk_cell h
  clear h
  have hv2 : ((v.size : Int) != sz) = true := by simpa [bne] using hv
  go_enter Try.func24, Try.ntmps24
  go_wp2
  go_ret
  exact ⟨rfl, rfl⟩

set_option maxHeartbeats 400000 in
theorem rcommit_sat (v : ByteArray) (hv : ((v.size : Int) == sz) = true) (hs : (ls == 4294967295) = true) :
    Calls Try.prog 24 #[.pointer (some ⟨g, 0, none⟩), .string v] w fun e w' => e = .returned (.int .i64 13) ∧ w = w' := by
  have hc := bk_cell h
  clear h
  have hv2 : ((v.size : Int) != sz) = false := by simpa [bne] using hv
  go_enter Try.func24, Try.ntmps24
  go_wp2
  go_ret
  exact ⟨rfl, rfl⟩

set_option maxHeartbeats 400000 in
theorem rcommit_ok (v : ByteArray) (hv : ((v.size : Int) == sz) = true) (h0 : 0 ≤ ls) (hs : ls < 4294967295) :
    Calls Try.prog 24 #[.pointer (some ⟨g, 0, none⟩), .string v] w fun e w' => e = .returned (.int .i64 0) ∧ w'.heap[g]? = some (.cells #[.int .i64 sz, .int .u16 li, .int .u32 (ls + 1), .string v, way] 73 (0, 0)) ∧ Fr w w' [g] := by
  have hc := bk_cell h
  have hf := bk_free h
  have H := Lib.hid h
  clear h
  have hv2 : ((v.size : Int) != sz) = false := by simpa [bne] using hv
  have hs2 : (ls == 4294967295) = false := by simp; omega
  go_enter Try.func24, Try.ntmps24
  go_wp2
  go_ret
  refine ⟨rfl, bk_put (bk_put H.out 2 _ rfl) 3 _ rfl, (((Fr.refl _ _).setIn (by simp) _).setIn (by simp) _)⟩

set_option maxHeartbeats 400000 in
theorem rnext_none (hl : (ls == 0) = true) :
    Calls Try.prog 25 #[.pointer (some ⟨g, 0, none⟩)] w fun e w' => e = .returned (.tuple #[.agg #[.int .i64 0, .int .u8 0, .int .u8 0, .int .u16 0, .int .u16 0, .int .u16 0, .int .u8 0, .int .u16 0, .int .u16 0, .int .u16 0, .int .u8 0, .int .u16 0, .bool false, .int .u8 0, .int .u16 0, .int .u32 0, .int .u8 0, .int .u8 0, .string ⟨#[]⟩], .bool false]) ∧ Fr w w' [] := by
  have hg : g < w.heap.size := bk_lt h
  have hc := bk_cell h
  have H := Lib.hid h
  clear h
  go_enter Try.func25, Try.ntmps25
  go_wp2_with (first | ((with_reducible refine gate_op (.store 36 (.tmp 2) (.tmp 10)) rfl ?_); go_must (refine ev_store 36 (.tmp 2) (.tmp 10) rfl rfl rfl rfl rfl (bk_new _ _) sizeF rfl rfl rfl ?_); intro w1 hb1 hf1))
  refine bodyPost_ret (v := .tuple #[.agg #[.int .i64 0, .int .u8 0, .int .u8 0, .int .u16 0, .int .u16 0, .int .u16 0, .int .u8 0, .int .u16 0, .int .u16 0, .int .u16 0, .int .u8 0, .int .u16 0, .bool false, .int .u8 0, .int .u16 0, .int .u32 0, .int .u8 0, .int .u8 0, .string ⟨#[]⟩], .bool false]) (ret_cell_tmp rfl rfl hb1 Try.underlying36 rfl sizeF rfl rfl) rfl ⟨rfl, ?_⟩
  exact ((Fr.refl _ _).alloc _).trans hf1 (by simp)
end



section
variable (g : Nat) (sz li ls : Int) (lv : ByteArray) (w : World)
set_option maxRecDepth 100000 in
set_option maxHeartbeats 2000000 in
theorem rnext_on (wb off m c : Nat) (f : List Value) (h : w.heap[g]? = some (.cells #[.int .i64 sz, .int .u16 li, .int .u32 ls, .string lv, (.slice (some ⟨wb, off, none⟩) (m + 1) c)] 73 (0, 0))) (hl : (ls == 0) = false) (hr : w.rangeAt wb off f) (hf : f.length = 19) (ho : f.all (·.oneCell') = true) (hmc : m + 1 ≤ c) (hm : m ≤ 4) :
    Calls Try.prog 25 #[.pointer (some ⟨g, 0, none⟩)] w fun e w' => e = .returned (.tuple #[.agg f.toArray, .bool true]) ∧ (∃ A c', w'.heap[g]? = some (.cells #[.int .i64 sz, .int .u16 li, .int .u32 ls, .string lv, (.slice A m c')] 73 (0, 0)) ∧ WayTo A m c' wb (off + 19)) ∧ Fr w w' [g] := by
  have hg : g < w.heap.size := bk_lt h
  have H := Lib.hid h
  have HL := Lib.hid hf
  have HO1 := Lib.hid ho
  have HR0 := Lib.hid hr
  have hc := bk_cell h
  clear h hf ho hr
  have hm0 : (((m : Int) + 1) == 0) = false := by simp; omega
  go_enter Try.func25, Try.ntmps25
  have HB := Lib.hid (bk_alloc H.out (.cells #[.int .i64 0, .int .u8 0, .int .u8 0, .int .u16 0, .int .u16 0, .int .u16 0, .int .u8 0, .int .u16 0, .int .u16 0, .int .u16 0, .int .u8 0, .int .u16 0, .bool false, .int .u8 0, .int .u16 0, .int .u32 0, .int .u8 0, .int .u8 0, .string ⟨#[]⟩] 36))
  have HR := Lib.hid (range_keep HR0.out ((Fr.refl w []).alloc (.cells #[.int .i64 0, .int .u8 0, .int .u8 0, .int .u16 0, .int .u16 0, .int .u16 0, .int .u8 0, .int .u16 0, .int .u16 0, .int .u16 0, .int .u8 0, .int .u16 0, .bool false, .int .u8 0, .int .u16 0, .int .u32 0, .int .u8 0, .int .u8 0, .string ⟨#[]⟩] 36)) (by simp))
  have HZ := Lib.hid (bk_new w (.cells #[.int .i64 0, .int .u8 0, .int .u8 0, .int .u16 0, .int .u16 0, .int .u16 0, .int .u8 0, .int .u16 0, .int .u16 0, .int .u16 0, .int .u8 0, .int .u16 0, .bool false, .int .u8 0, .int .u16 0, .int .u32 0, .int .u8 0, .int .u8 0, .string ⟨#[]⟩] 36))
  have HF := Lib.hid ((Fr.refl w [g]).alloc (.cells #[.int .i64 0, .int .u8 0, .int .u8 0, .int .u16 0, .int .u16 0, .int .u16 0, .int .u8 0, .int .u16 0, .int .u16 0, .int .u16 0, .int .u8 0, .int .u16 0, .bool false, .int .u8 0, .int .u16 0, .int .u32 0, .int .u8 0, .int .u8 0, .string ⟨#[]⟩] 36))
  have HG := Lib.hid (show g ≠ w.heap.size by omega)
  have HG2 := Lib.hid (show g ≠ w.heap.size + 1 by omega)
  have HWs := Lib.hid (show (w.alloc (.cells #[.int .i64 0, .int .u8 0, .int .u8 0, .int .u16 0, .int .u16 0, .int .u16 0, .int .u8 0, .int .u16 0, .int .u16 0, .int .u16 0, .int .u8 0, .int .u16 0, .bool false, .int .u8 0, .int .u16 0, .int .u32 0, .int .u8 0, .int .u8 0, .string ⟨#[]⟩] 36)).heap.size = w.heap.size + 1 by simp)
  clear hc
  have hcW := bk_cell HB.out
  have hfW := bk_free HB.out
  by_cases hc1 : c = 1
  all_goals
    have HC1 := Lib.hid hc1
    first | (obtain rfl := hc1; obtain rfl : m = 0 := (by omega)) | clear hc1
    go_wp2_with (first | ((with_reducible refine gate_op (.load 36 (.tmp 39)) rfl ?_); go_must (refine ev_loadAt 36 (.tmp 39) rfl rfl rfl rfl HR.out Try.underlying36 rfl sizeF HL.out ?_)) | ((with_reducible refine gate_op (.store 36 (.tmp 4) (.tmp 40)) rfl ?_); go_must (refine ev_store 36 (.tmp 4) (.tmp 40) rfl rfl rfl rfl rfl (bk_newAt (by simp)) sizeF (by simpa using HL.out) (by rfl) (by simpa using HO1.out) ?_); intro w4 hb4 hf4; go_must (have HB4 := Lib.hid (bk_keep (bk_alloc HB.out _) hf4 (by simpa using HG2.out)); have HZ4 := Lib.hid (bk_keep (bk_alloc HZ.out _) hf4 (by have := HWs.out; first | (simp; done) | (simp; omega))); have HF4 := Lib.hid (show Fr w w4 [g] from (HF.out.alloc _).trans hf4 (by have e := HF.out.size; intro i hi; right; have e2 : i = w.heap.size + 1 := (by simpa using hi); omega)); have HK4 := Lib.hid hb4; have HK5 := Lib.hid hf4; clear hb4 hf4 hcW hfW; have hcW := bk_cell HB4.out; have hfW := bk_free HB4.out)) | ((with_reducible refine gate_op (.load 36 (.tmp 4)) rfl ?_); go_must (refine ev_load 36 (.tmp 4) rfl rfl rfl rfl (bk_far HK4.out HG2.out.symm _) Try.underlying36 rfl sizeF (by simpa using HL.out) ?_)) | ((with_reducible refine gate_op (.store 36 (.tmp 2) (.tmp 49)) rfl ?_); go_must (refine ev_store 36 (.tmp 2) (.tmp 49) rfl rfl rfl rfl rfl (bk_far HZ4.out HG.out.symm _) sizeF (by simpa using HL.out) rfl (by simpa using HO1.out) ?_); intro w5 hb5 hf5))

    refine bodyPost_ret (v := .tuple #[.agg f.toArray, .bool true]) (ret_cell_tmp rfl rfl hb5 Try.underlying36 rfl sizeF (by simpa using HL.out) rfl) rfl ⟨rfl, ⟨_, _, bk_keep (bk_put HB4.out 4 _ rfl) hf5 (by simpa using HG.out), ?_⟩, (HF4.out.setIn (by simp) _).trans hf5 (by simp)⟩
    intro hm1
    first | (exact absurd hm1 (by omega)) | exact ⟨by first | rfl | exact if_neg HC1.out, by omega⟩

set_option maxRecDepth 100000 in
set_option maxHeartbeats 2000000 in
theorem rnext_start (A : Option Addr) (c0 : Nat) (h : w.heap[g]? = some (.cells #[.int .i64 sz, .int .u16 li, .int .u32 ls, .string lv, (.slice A 0 c0)] 73 (0, 0))) (hl : (ls == 0) = false) (h1 : 1 ≤ lv.size) (h2 : lv.size ≤ 64) :
    Calls Try.prog 25 #[.pointer (some ⟨g, 0, none⟩)] w fun e w' => e = .returned (.tuple #[.agg #[.int .i64 4, .int .u8 0, .int .u8 0, .int .u16 0, .int .u16 0, .int .u16 0, .int .u8 0, .int .u16 0, .int .u16 0, .int .u16 0, .int .u8 0, .int .u16 0, .bool false, .int .u8 0, .int .u16 li, .int .u32 ls, .int .u8 0, .int .u8 (((lv.size + 15) / 16 : Nat) : Int), .string (cutB lv 0)], .bool true]) ∧ RStarted g sz li ls lv w w' ∧ Fr w w' [g] := by
  have hg : g < w.heap.size := bk_lt h
  have H := Lib.hid h
  have hc := bk_cell h
  clear h
  obtain ⟨m, hm⟩ : ∃ m, (lv.size + 15) / 16 = m + 1 := ⟨(lv.size + 15) / 16 - 1, by omega⟩
  have hm3 : m ≤ 3 := by omega
  have HM := Lib.hid hm
  clear hm
  go_enter Try.func25, Try.ntmps25
  go_wp2_with fail
  have HB0 := Lib.hid (bk_alloc H.out (.cells #[.int .i64 0, .int .u8 0, .int .u8 0, .int .u16 0, .int .u16 0, .int .u16 0, .int .u8 0, .int .u16 0, .int .u16 0, .int .u16 0, .int .u8 0, .int .u16 0, .bool false, .int .u8 0, .int .u16 0, .int .u32 0, .int .u8 0, .int .u8 0, .string ⟨#[]⟩] 36))
  generalize hW0 : w.alloc (.cells #[.int .i64 0, .int .u8 0, .int .u8 0, .int .u16 0, .int .u16 0, .int .u16 0, .int .u8 0, .int .u16 0, .int .u16 0, .int .u16 0, .int .u8 0, .int .u16 0, .bool false, .int .u8 0, .int .u16 0, .int .u32 0, .int .u8 0, .int .u8 0, .string ⟨#[]⟩] 36) = W0 at HB0 ⊢
  have HZ0 := Lib.hid (show W0.heap[w.heap.size]? = some (.cells #[.int .i64 0, .int .u8 0, .int .u8 0, .int .u16 0, .int .u16 0, .int .u16 0, .int .u8 0, .int .u16 0, .int .u16 0, .int .u16 0, .int .u8 0, .int .u16 0, .bool false, .int .u8 0, .int .u16 0, .int .u32 0, .int .u8 0, .int .u8 0, .string ⟨#[]⟩] 36) by rw [← hW0]; exact bk_new _ _)
  have HF0 := Lib.hid (show Fr w W0 [g] by rw [← hW0]; exact (Fr.refl _ _).alloc _)
  have HS0 := Lib.hid (show W0.heap.size = w.heap.size + 1 by rw [← hW0]; simp)
  clear hW0 hc
  refine start_ (n := 19) (S := fun w' => w'.cell? ⟨g, 1, none⟩ = some (.int .u16 li) ∧ w'.cell? ⟨g, 2, none⟩ = some (.int .u32 ls) ∧ w'.cell? ⟨g, 3, none⟩ = some (.string lv)) (ds := []) #[false, false, false, false, false, false, false, false, false, false, false, false, false, false, false, false, false, false, false] (by kernel_rfl) rfl rfl ⟨(bk_cell HB0.out 1).trans rfl, (bk_cell HB0.out 2).trans rfl, (bk_cell HB0.out 3).trans rfl⟩ (fun hHeld => ?_)
  refine pure_ (i := 0) (N := some 17) (v := ?_) (a' := ?_) #[true, false, false, false, false, false, false, false, false, false, false, false, false, false, false, false, false, false, false] rfl rfl (by kernel_rfl) (fun _ _ _ h => h) (Or.inl ⟨by rfl, ?_⟩) ?_ ?_
  rotate_left
  · intro w'
    go_simp
    with_reducible rfl
  rotate_left
  · simp only [Act.put, List.setIfInBounds_toArray, List.set_cons_zero, List.set_cons_succ, i64_w, i32_w]
    rfl
  refine pure_ (i := 1) (N := some 18) (v := ?_) (a' := ?_) #[true, true, false, false, false, false, false, false, false, false, false, false, false, false, false, false, false, false, false] rfl rfl (by kernel_rfl) (fun _ _ _ h => h) (Or.inl ⟨by rfl, ?_⟩) ?_ ?_
  rotate_left
  · intro w'
    go_simp
    with_reducible rfl
  rotate_left
  · simp only [Act.put, List.setIfInBounds_toArray, List.set_cons_zero, List.set_cons_succ, i64_w, i32_w]
    rfl
  refine pure_ (i := 2) (N := some 19) (v := ?_) (a' := ?_) #[true, true, true, false, false, false, false, false, false, false, false, false, false, false, false, false, false, false, false] rfl rfl (by kernel_rfl) (fun _ _ _ h => h) (Or.inl ⟨by rfl, ?_⟩) ?_ ?_
  rotate_left
  · intro w'
    go_simp
    with_reducible rfl
  rotate_left
  · simp only [Act.put, List.setIfInBounds_toArray, List.set_cons_zero, List.set_cons_succ, i64_w, i32_w]
    rfl
  refine pure_ (i := 3) (N := some 20) (v := ?_) (a' := ?_) #[true, true, true, true, false, false, false, false, false, false, false, false, false, false, false, false, false, false, false] rfl rfl (by kernel_rfl) (fun _ _ _ h => h) (Or.inl ⟨by rfl, ?_⟩) ?_ ?_
  rotate_left
  · intro w'
    go_simp
    with_reducible rfl
  rotate_left
  · simp only [Act.put, List.setIfInBounds_toArray, List.set_cons_zero, List.set_cons_succ, i64_w, i32_w]
    rfl
  refine pure_ (i := 5) (N := some 22) (v := ?_) (a' := ?_) #[true, true, true, true, false, true, false, false, false, false, false, false, false, false, false, false, false, false, false] rfl rfl (by kernel_rfl) (fun _ _ _ h => h) (Or.inl ⟨by rfl, ?_⟩) ?_ ?_
  rotate_left
  · intro w'
    go_simp
    with_reducible rfl
  rotate_left
  · simp only [Act.put, List.setIfInBounds_toArray, List.set_cons_zero, List.set_cons_succ, i64_w, i32_w]
    rfl
  refine pure_ (i := 6) (N := some 23) (v := ?_) (a' := ?_) #[true, true, true, true, false, true, true, false, false, false, false, false, false, false, false, false, false, false, false] rfl rfl (by kernel_rfl) (fun _ _ _ h => h) (Or.inl ⟨by rfl, ?_⟩) ?_ ?_
  rotate_left
  · intro w'
    go_simp
    with_reducible rfl
  rotate_left
  · simp only [Act.put, List.setIfInBounds_toArray, List.set_cons_zero, List.set_cons_succ, i64_w, i32_w]
    rfl
  refine pure_ (i := 7) (N := some 24) (v := ?_) (a' := ?_) #[true, true, true, true, false, true, true, true, false, false, false, false, false, false, false, false, false, false, false] rfl rfl (by kernel_rfl) (fun _ _ _ h => h) (Or.inl ⟨by rfl, ?_⟩) ?_ ?_
  rotate_left
  · intro w'
    go_simp
    with_reducible rfl
  rotate_left
  · simp only [Act.put, List.setIfInBounds_toArray, List.set_cons_zero, List.set_cons_succ, i64_w, i32_w]
    rfl
  refine pure_ (i := 11) (N := some 28) (v := ?_) (a' := ?_) #[true, true, true, true, false, true, true, true, false, false, false, true, false, false, false, false, false, false, false] rfl rfl (by kernel_rfl) (fun _ _ _ h => h) (Or.inl ⟨by rfl, ?_⟩) ?_ ?_
  rotate_left
  · intro w'
    go_simp
    with_reducible rfl
  rotate_left
  · simp only [Act.put, List.setIfInBounds_toArray, List.set_cons_zero, List.set_cons_succ, i64_w, i32_w]
    rfl
  refine pure_ (i := 12) (N := some 29) (v := ?_) (a' := ?_) #[true, true, true, true, false, true, true, true, false, false, false, true, true, false, false, false, false, false, false] rfl rfl (by kernel_rfl) (fun _ _ _ h => h) (Or.inl ⟨by rfl, ?_⟩) ?_ ?_
  rotate_left
  · intro w'
    go_simp
    with_reducible rfl
  rotate_left
  · simp only [Act.put, List.setIfInBounds_toArray, List.set_cons_zero, List.set_cons_succ, i64_w, i32_w]
    rfl
  refine pure_ (i := 13) (N := some 30) (v := ?_) (a' := ?_) #[true, true, true, true, false, true, true, true, false, false, false, true, true, true, false, false, false, false, false] rfl rfl (by kernel_rfl) (fun _ _ _ h => h) (Or.inl ⟨by rfl, ?_⟩) ?_ ?_
  rotate_left
  · intro w'
    go_simp
    with_reducible rfl
  rotate_left
  · simp only [Act.put, List.setIfInBounds_toArray, List.set_cons_zero, List.set_cons_succ, i64_w, i32_w]
    rfl
  refine take_ (i := 4) (N := some 21) (v := ?_) (a' := ?_) #[true, true, true, true, true, true, true, true, false, false, false, true, true, true, false, false, false, false, false] rfl rfl (by kernel_rfl) (fun _ _ _ h => h) (Or.inl ⟨by rfl, ?_⟩) hHeld ?_ ?_
  rotate_left
  · rintro w' ⟨s0, s1, s2⟩
    go_simp
    with_reducible rfl
  rotate_left
  · simp only [Act.put, List.setIfInBounds_toArray, List.set_cons_zero, List.set_cons_succ, i64_w, i32_w]
    rfl
  refine take_ (i := 8) (N := some 25) (v := ?_) (a' := ?_) #[true, true, true, true, true, true, true, true, true, false, false, true, true, true, false, false, false, false, false] rfl rfl (by kernel_rfl) (fun _ _ _ h => h) (Or.inl ⟨by rfl, ?_⟩) hHeld ?_ ?_
  rotate_left
  · rintro w' ⟨s0, s1, s2⟩
    go_simp
    with_reducible rfl
  rotate_left
  · simp only [Act.put, List.setIfInBounds_toArray, List.set_cons_zero, List.set_cons_succ, i64_w, i32_w]
    rfl
  refine pure_ (i := 9) (N := some 26) (v := ?_) (a' := ?_) #[true, true, true, true, true, true, true, true, true, true, false, true, true, true, false, false, false, false, false] rfl rfl (by kernel_rfl) (fun _ _ _ h => h) (Or.inl ⟨by rfl, ?_⟩) ?_ ?_
  rotate_left
  · intro w'
    go_simp
    with_reducible rfl
  rotate_left
  · simp only [Act.put, List.setIfInBounds_toArray, List.set_cons_zero, List.set_cons_succ, i64_w, i32_w]
    rfl
  refine pure_ (i := 10) (N := some 27) (v := ?_) (a' := ?_) #[true, true, true, true, true, true, true, true, true, true, true, true, true, true, false, false, false, false, false] rfl rfl (by kernel_rfl) (fun _ _ _ h => h) (Or.inl ⟨by rfl, ?_⟩) ?_ ?_
  rotate_left
  · intro w'
    go_simp
    with_reducible rfl
  rotate_left
  · simp only [Act.put, List.setIfInBounds_toArray, List.set_cons_zero, List.set_cons_succ, i64_w, i32_w]
    rfl
  refine take_ (i := 14) (N := some 31) (v := ?_) (a' := ?_) #[true, true, true, true, true, true, true, true, true, true, true, true, true, true, true, false, false, false, false] rfl rfl (by kernel_rfl) (fun _ _ _ h => h) (Or.inl ⟨by rfl, ?_⟩) hHeld ?_ ?_
  rotate_left
  · rintro w' ⟨s0, s1, s2⟩
    go_simp
    with_reducible rfl
  rotate_left
  · simp only [Act.put, List.setIfInBounds_toArray, List.set_cons_zero, List.set_cons_succ, i64_w, i32_w]
    rfl
  refine one_ (i := 15) (N := some 32) #[true, true, true, true, true, true, true, true, true, true, true, true, true, true, true, true, false, false, false] rfl rfl (by kernel_rfl) (by decide) (fun K hK => ?_)
  refine goes_ Try.func33 (by kernel_rfl) rfl #[.agg #[.int .i64 0, .int .u8 0, .int .u8 0, .int .u16 0, .int .u16 0, .int .u16 0, .int .u8 0, .int .u16 0, .int .u16 0, .int .u16 0, .int .u8 0, .int .u16 0, .bool false, .int .u8 0, .int .u16 li, .int .u32 ls, .int .u8 0, .int .u8 0, .string ⟨#[]⟩], .string lv] (by rfl) rfl rfl (by simp only [List.map_toArray, List.map_cons, List.map_nil]; rfl) ?_
  with_reducible refine (split_any li ls lv h2 _).mono ?_
  rintro e w3 ⟨x3, rfl, ho3, hf3⟩
  refine ⟨_, rfl, ?_⟩
  have ho3 : w3.ownsRow (W0.drew).heap.size 36 19 x3 (m + 1) (framesTo li ls lv (m + 1)) := (by rw [← HM.out]; exact ho3)
  obtain ⟨A3, c, rfl, hA3⟩ := own_slice ho3
  obtain ⟨wb, rfl⟩ := hA3 (by omega)
  have HO3 := Lib.hid ho3
  clear ho3 hA3
  have HB3 := Lib.hid (bk_keep (bk_drew HB0.out) hf3 (by simp))
  have HF3 := Lib.hid hf3
  clear hf3
  have hc3 := bk_cell HB3.out
  have hz3 := bk_free HB3.out
  refine hK.out _ _ ⟨(bk_cell HB3.out 1).trans rfl, (bk_cell HB3.out 2).trans rfl, (bk_cell HB3.out 3).trans rfl⟩ (fun hHeld => ?_)
  clear hK K
  refine norm_ (a' := ?_) ?_ ?_
  rotate_left
  · show Act.put _ (some 32) _ = _
    simp only [Act.put, List.setIfInBounds_toArray, List.set_cons_zero, List.set_cons_succ, i64_w, i32_w]
    rfl
  refine pure_ (i := 16) (N := some 33) (v := ?_) (a' := ?_) #[true, true, true, true, true, true, true, true, true, true, true, true, true, true, true, true, true, false, false] rfl rfl (by kernel_rfl) (fun _ _ _ h => h) (Or.inl ⟨by rfl, ?_⟩) ?_ ?_
  rotate_left
  · intro w'
    go_simp
    with_reducible rfl
  rotate_left
  · simp only [Act.put, List.setIfInBounds_toArray, List.set_cons_zero, List.set_cons_succ, i64_w, i32_w]
    rfl
  refine pure_ (i := 17) (N := some 34) (v := ?_) (a' := ?_) #[true, true, true, true, true, true, true, true, true, true, true, true, true, true, true, true, true, true, false] rfl rfl (by kernel_rfl) (fun _ _ _ h => h) (Or.inl ⟨by rfl, ?_⟩) ?_ ?_
  rotate_left
  · intro w'
    go_simp
    with_reducible rfl
  rotate_left
  · simp only [Act.put, List.setIfInBounds_toArray, List.set_cons_zero, List.set_cons_succ, i64_w, i32_w]
    rfl
  refine one_ (i := 18) (N := none) #[true, true, true, true, true, true, true, true, true, true, true, true, true, true, true, true, true, true, true] rfl rfl (by kernel_rfl) (by decide) (fun K hK => ?_)
  refine skip_ (w1 := ?_) (by rfl) rfl ?_ ?_
  rotate_left
  · go_simp
    rfl
  refine hK.out _ _ ⟨(by go_simp), (by go_simp), (by go_simp)⟩ (fun hHeld => ?_)
  clear hK K
  refine done_ (by kernel_rfl) ?_
  have HWB := Lib.hid (show w.heap.size < wb ∧ wb < w3.heap.size from by
    have h4 := (HO3.out.lt wb rfl)
    have h5 := HS0.out
    have h6 : W0.drew.heap.size ≤ wb := h4.1
    exact ⟨by have : W0.drew.heap.size = W0.heap.size := rfl
              omega, h4.2⟩)
  have HRA := Lib.hid (range_set (own_range HO3.out) (p := ⟨g, 4, none⟩) (by have := HWB.out; show wb ≠ g; omega) (.slice (some ⟨wb, 0, none⟩) (m + 1) c))
  have hmc : m + 1 ≤ c := own_cap HO3.out
  have HB := Lib.hid (bk_put HB3.out 4 (.slice (some ⟨wb, 0, none⟩) (m + 1) c) rfl)
  have HZ := Lib.hid (bk_far (bk_keep (bk_drew HZ0.out) HF3.out (by simp)) (p := ⟨g, 4, none⟩) (by show w.heap.size ≠ g; omega) (.slice (some ⟨wb, 0, none⟩) (m + 1) c))
  have HF := Lib.hid (((HF0.out.drew).trans HF3.out (by simp)).setIn (p := ⟨g, 4, none⟩) (by simp) (.slice (some ⟨wb, 0, none⟩) (m + 1) c))
  have hws : w3.heap.size = (w3.setCell ⟨g, 4, none⟩ (.slice (some ⟨wb, 0, none⟩) (m + 1) c)).heap.size := by simp [World.setCell]
  have hzs := bk_lt HZ.out
  rw [hws] at HWB
  clear hws hc3 hz3
  generalize hW : w3.setCell ⟨g, 4, none⟩ (.slice (some ⟨wb, 0, none⟩) (m + 1) c) = W at *
  clear hW hHeld
  have HG := Lib.hid (show g ≠ w.heap.size by omega)
  have HG2 := Lib.hid (Nat.ne_of_lt (bk_lt HB.out))
  have HWs := Lib.hid hzs
  clear hzs
  obtain ⟨f, hf⟩ : ∃ f, f = frL li ls 0 (((lv.size + 15) / 16 : Nat) : Int) (cutB lv 0) := ⟨_, rfl⟩
  have HL := Lib.hid (show f.length = 19 by rw [hf]; rfl)
  have HO1 := Lib.hid (show f.all (·.oneCell') = true by rw [hf]; rfl)
  have HR := Lib.hid (show W.rangeAt wb 0 f by
    have h7 := HRA.out
    rw [show framesTo li ls lv (m + 1) = frL li ls 0 (((lv.size + 15) / 16 : Nat) : Int) (cutB lv 0) ++ (framesTo li ls lv (m + 1)).drop 19 from by
      unfold framesTo
      rw [List.range_succ_eq_map, List.flatMap_cons]
      rw [List.drop_left' (by rfl)]
      rfl] at h7
    rw [hf]
    exact range_left h7)
  have HFr := Lib.hid hf
  clear hf
  have hcW := bk_cell HB.out
  have hfW := bk_free HB.out
  by_cases hc1 : c = 1
  all_goals
    have HC1 := Lib.hid hc1
    first | (obtain rfl := hc1; obtain rfl : m = 0 := (by omega)) | clear hc1
    go_wp2_with (first | ((with_reducible refine gate_op (.load 36 (.tmp 39)) rfl ?_); go_must (refine ev_loadAt 36 (.tmp 39) rfl rfl rfl rfl HR.out Try.underlying36 rfl sizeF HL.out ?_)) | ((with_reducible refine gate_op (.store 36 (.tmp 4) (.tmp 40)) rfl ?_); go_must (refine ev_store 36 (.tmp 4) (.tmp 40) rfl rfl rfl rfl rfl (bk_newAt (by simp)) sizeF (by simpa using HL.out) (by rfl) (by simpa using HO1.out) ?_); intro w4 hb4 hf4; go_must (have HB4 := Lib.hid (bk_keep (bk_alloc HB.out _) hf4 (by simpa using HG2.out)); have HZ4 := Lib.hid (bk_keep (bk_alloc HZ.out _) hf4 (by have := HWs.out; first | (simp; done) | (simp; omega))); have HF4 := Lib.hid (show Fr w w4 [g] from (HF.out.alloc _).trans hf4 (by have e := HF.out.size; intro i hi; right; have e2 : i = W.heap.size := (by simpa using hi); omega)); have HK4 := Lib.hid hb4; have HK5 := Lib.hid hf4; clear hb4 hf4 hcW hfW; have hcW := bk_cell HB4.out; have hfW := bk_free HB4.out)) | ((with_reducible refine gate_op (.load 36 (.tmp 4)) rfl ?_); go_must (refine ev_load 36 (.tmp 4) rfl rfl rfl rfl (bk_far HK4.out HG2.out.symm _) Try.underlying36 rfl sizeF (by simpa using HL.out) ?_)) | ((with_reducible refine gate_op (.store 36 (.tmp 2) (.tmp 49)) rfl ?_); go_must (refine ev_store 36 (.tmp 2) (.tmp 49) rfl rfl rfl rfl rfl (bk_far HZ4.out HG.out.symm _) sizeF (by simpa using HL.out) rfl (by simpa using HO1.out) ?_); intro w5 hb5 hf5))

    refine bodyPost_ret (v := .tuple #[.agg f.toArray, .bool true]) (ret_cell_tmp rfl rfl hb5 Try.underlying36 rfl sizeF (by simpa using HL.out) rfl) rfl ⟨by rw [HFr.out]; rfl, ⟨_, _, wb, (by rw [HM.out]; exact bk_keep (bk_put HB4.out 4 _ rfl) hf5 (by simpa using HG.out)), ?_, by have := HWB.out; omega, ?_⟩, (HF4.out.setIn (by simp) _).trans hf5 (by simp)⟩
    · rw [HM.out]
      intro hm1
      first | (exact absurd hm1 (by omega)) | exact ⟨by first | rfl | exact if_neg HC1.out, by omega⟩
    · rw [HM.out]
      exact range_keep (range_set (range_keep (range_keep HRA.out ((Fr.refl W []).alloc _) (by simp)) HK5.out (by have := HWB.out; simp; omega)) (by have := HWB.out; show wb ≠ g; omega) _) hf5 (by have := HWB.out; simp; omega)
end
end Go.Proofs.Ytpfabaoefkokjaa
