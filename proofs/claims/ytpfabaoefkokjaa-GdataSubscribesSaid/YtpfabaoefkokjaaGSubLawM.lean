/-
  Several texts in one: GSubLaw, GSubLawB, GSubLawC, GSubLawD.
-/
import Derived.Test.YtpfabaoefkokjaaGRefH
import Derived.Test.YtpfabaoefkokjaaGSubB
import Derived.Test.YtpfabaoefkokjaaOpen2
import Derived.Test.YtpfabaoefkokjaaGAwake

/-
  The document's subscriber: Put, whole.
-/
namespace Go.Proofs.Ytpfabaoefkokjaa
open Go.RowKit Go.Proofs.YtpfabaoefkokjaaW.PrintLast
set_option linter.unusedVariables false
set_option linter.unusedSimpArgs false
section
variable (f1 f2 f3 f4 f5 f6 f7 f8 f9 f10 f11 : Int) (f12 : Bool) (f13 : Int)
variable (h cb sz : Nat) (k vi vs : Int) (p : Nat) (n : Int) (b : ByteArray) (r r1 : RG) (x : Sb) (w : World) (v : ByteArray) (e0 : Int)
/-- What a call of the document's Put leaves. -/
def RefTo (h cb sz : Nat) (r : RG) (x : Sb) (w w' : World) : Prop := ∃ cb', RefAt h cb' sz r x w' ∧ (cb' = cb ∨ w.heap.size ≤ cb')

set_option maxRecDepth 100000 in
set_option maxHeartbeats 2000000 in
theorem rsput_true_true (hr : RefAt h cb sz r x w) (he : (e0 == 3) = true)
    (hp : ∀ w1 : World, RefAt h cb sz r x w1 → Calls Try.prog 32 #[.pointer (some ⟨h, 0, none⟩), .agg #[.int .i64 k, .int .u8 f1, .int .u8 f2, .int .u16 f3, .int .u16 f4, .int .u16 f5, .int .u8 f6, .int .u16 f7, .int .u16 f8, .int .u16 f9, .int .u8 f10, .int .u16 f11, .bool f12, .int .u8 f13, .int .u16 vi, .int .u32 vs, .int .u8 p, .int .u8 n, .string b]] w1 fun e w' => e = .returned (.tuple #[.string v, .bool true, .int .i64 e0]) ∧ RefTo h cb sz r1 x w1 w' ∧ Fr w1 w' (if r.is = true then [h, cb] else [h])) :
    Calls Try.prog 20 #[.pointer (some ⟨h, 0, none⟩), .agg #[.int .i64 k, .int .u8 f1, .int .u8 f2, .int .u16 f3, .int .u16 f4, .int .u16 f5, .int .u8 f6, .int .u16 f7, .int .u16 f8, .int .u16 f9, .int .u8 f10, .int .u16 f11, .bool f12, .int .u8 f13, .int .u16 vi, .int .u32 vs, .int .u8 p, .int .u8 n, .string b]] w fun e w' => e = .returned (.tuple #[.bool true, .int .i64 e0]) ∧
      RefTo h cb sz r1 { x with ft := true, b := v, bi := vi, bs := vs, wt := true } w w' ∧ Fr w w' (if r.is = true then [h, cb] else [h]) := by
  have HT := Lib.hid hp
  have HF := Lib.hid ((Fr.refl w []).alloc (.cells #[.int .i64 k, .int .u8 f1, .int .u8 f2, .int .u16 f3, .int .u16 f4, .int .u16 f5, .int .u8 f6, .int .u16 f7, .int .u16 f8, .int .u16 f9, .int .u8 f10, .int .u16 f11, .bool f12, .int .u8 f13, .int .u16 vi, .int .u32 vs, .int .u8 p, .int .u8 n, .string b] 36))
  have HR := Lib.hid (ra_alloc hr (.cells #[.int .i64 k, .int .u8 f1, .int .u8 f2, .int .u16 f3, .int .u16 f4, .int .u16 f5, .int .u8 f6, .int .u16 f7, .int .u16 f8, .int .u16 f9, .int .u8 f10, .int .u16 f11, .bool f12, .int .u8 f13, .int .u16 vi, .int .u32 vs, .int .u8 p, .int .u8 n, .string b] 36))
  have HX := Lib.hid (bk_new w (.cells #[.int .i64 k, .int .u8 f1, .int .u8 f2, .int .u16 f3, .int .u16 f4, .int .u16 f5, .int .u8 f6, .int .u16 f7, .int .u16 f8, .int .u16 f9, .int .u8 f10, .int .u16 f11, .bool f12, .int .u8 f13, .int .u16 vi, .int .u32 vs, .int .u8 p, .int .u8 n, .string b] 36))
  have hxh := Lib.hid (show h ≠ w.heap.size by have := ra_lt hr; omega)
  have hxc := Lib.hid (show r.is = true → cb ≠ w.heap.size from fun hi => by
    obtain ⟨came, q1, q2⟩ := hr
    obtain ⟨cc, _, q3, _⟩ := q2 hi
    have := bk_lt q3; omega)
  obtain ⟨S, hS⟩ : ∃ S, S = (if r.is = true then [h, cb] else [h]) := ⟨_, rfl⟩
  have hSh := Lib.hid (show h ∈ S by rw [hS]; split <;> simp)
  have hSx := Lib.hid (show w.heap.size ∉ S by
    rw [hS]
    split
    · rename_i hi
      have := hxc.out hi
      have := hxh.out
      simp; omega
    · have := hxh.out
      simp; omega)
  rw [← hS] at HT ⊢
  clear hp hr hS hxc
  go_enter Try.func20, Try.ntmps20
  go_wp2_with fail
  refine start_ (n := 12) (S := fun w' => True) (ds := []) #[false, false, false, false, false, false, false, false, false, false, false, false] (by kernel_rfl) rfl rfl trivial (fun hHeld => ?_)
  refine pure_ (i := 0) (N := some 10) (v := ?_) (a' := ?_) #[true, false, false, false, false, false, false, false, false, false, false, false] rfl rfl (by kernel_rfl) (fun _ _ _ h => h) (Or.inl ⟨by rfl, ?_⟩) ?_ ?_
  rotate_left
  · intro w'
    go_simp
    with_reducible rfl
  rotate_left
  · simp only [Act.put, List.setIfInBounds_toArray, List.set_cons_zero, List.set_cons_succ, i64_w, i32_w]
    rfl
  refine pure_ (i := 1) (N := some 11) (v := ?_) (a' := ?_) #[true, true, false, false, false, false, false, false, false, false, false, false] rfl rfl (by kernel_rfl) (fun _ _ _ h => h) (Or.inl ⟨by rfl, ?_⟩) ?_ ?_
  rotate_left
  · intro w'
    go_simp
    with_reducible rfl
  rotate_left
  · simp only [Act.put, List.setIfInBounds_toArray, List.set_cons_zero, List.set_cons_succ, i64_w, i32_w]
    rfl
  refine pure_ (i := 2) (N := some 12) (v := ?_) (a' := ?_) #[true, true, true, false, false, false, false, false, false, false, false, false] rfl rfl (by kernel_rfl) (fun _ _ _ h => h) (Or.inl ⟨by rfl, ?_⟩) ?_ ?_
  rotate_left
  · intro w'
    go_simp
    with_reducible rfl
  rotate_left
  · simp only [Act.put, List.setIfInBounds_toArray, List.set_cons_zero, List.set_cons_succ, i64_w, i32_w]
    rfl
  refine one_ (i := 3) (N := some 13) #[true, true, true, true, false, false, false, false, false, false, false, false] rfl rfl (by kernel_rfl) (by decide) (fun K hK => ?_)
  refine es_load 36 (.tmp 3) rfl rfl (by rfl) rfl HX.out Try.underlying36 rfl sizeF rfl ?_
  refine hK.out _ _ trivial (fun hHeld => ?_)
  clear hK K
  refine norm_ (a' := ?_) ?_ ?_
  rotate_left
  · show Act.put _ (some 13) _ = _
    simp only [Act.put, List.setIfInBounds_toArray, List.set_cons_zero, List.set_cons_succ, i64_w, i32_w]
    rfl
  refine one_ (i := 4) (N := some 14) #[true, true, true, true, true, false, false, false, false, false, false, false] rfl rfl (by kernel_rfl) (by decide) (fun K hK => ?_)
  refine goes_ Try.func32 (by kernel_rfl) rfl #[.pointer (some ⟨h, 0, none⟩), .agg #[.int .i64 k, .int .u8 f1, .int .u8 f2, .int .u16 f3, .int .u16 f4, .int .u16 f5, .int .u8 f6, .int .u16 f7, .int .u16 f8, .int .u16 f9, .int .u8 f10, .int .u16 f11, .bool f12, .int .u8 f13, .int .u16 vi, .int .u32 vs, .int .u8 p, .int .u8 n, .string b]] (by rfl) rfl rfl (by simp only [List.map_toArray, List.map_cons, List.map_nil]; rfl) ?_
  with_reducible refine (HT.out _ (by exact ra_of HR.out rfl)).mono ?_
  rintro e w2 ⟨rfl, hg2, hf2⟩
  refine ⟨_, rfl, ?_⟩
  have HX2 := Lib.hid (Fr.at hf2 HX.out hSx.out)
  have HF2 := Lib.hid (Fr.via (S := S) hf2 (HF.out.mono (by simp)) rfl rfl rfl rfl (fun i hi => .inl hi))
  have HG2 := Lib.hid hg2
  clear hf2 hg2
  refine hK.out _ _ trivial (fun hHeld => ?_)
  clear hK K
  refine norm_ (a' := ?_) ?_ ?_
  rotate_left
  · show Act.put _ (some 14) _ = _
    simp only [Act.put, List.setIfInBounds_toArray, List.set_cons_zero, List.set_cons_succ, i64_w, i32_w]
    rfl
  refine pure_ (i := 5) (N := some 9) (v := ?_) (a' := ?_) #[true, true, true, true, true, true, false, false, false, false, false, false] rfl rfl (by kernel_rfl) (fun _ _ _ h => h) (Or.inl ⟨by rfl, ?_⟩) ?_ ?_
  rotate_left
  · intro w'
    go_simp
    with_reducible rfl
  rotate_left
  · simp only [Act.put, List.setIfInBounds_toArray, List.set_cons_zero, List.set_cons_succ, i64_w, i32_w]
    rfl
  refine pure_ (i := 6) (N := some 15) (v := ?_) (a' := ?_) #[true, true, true, true, true, true, true, false, false, false, false, false] rfl rfl (by kernel_rfl) (fun _ _ _ h => h) (Or.inl ⟨by rfl, ?_⟩) ?_ ?_
  rotate_left
  · intro w'
    go_simp
    with_reducible rfl
  rotate_left
  · simp only [Act.put, List.setIfInBounds_toArray, List.set_cons_zero, List.set_cons_succ, i64_w, i32_w]
    rfl
  refine pure_ (i := 7) (N := some 16) (v := ?_) (a' := ?_) #[true, true, true, true, true, true, true, true, false, false, false, false] rfl rfl (by kernel_rfl) (fun _ _ _ h => h) (Or.inl ⟨by rfl, ?_⟩) ?_ ?_
  rotate_left
  · intro w'
    go_simp
    with_reducible rfl
  rotate_left
  · simp only [Act.put, List.setIfInBounds_toArray, List.set_cons_zero, List.set_cons_succ, i64_w, i32_w]
    rfl
  refine pure_ (i := 8) (N := some 17) (v := ?_) (a' := ?_) #[true, true, true, true, true, true, true, true, true, false, false, false] rfl rfl (by kernel_rfl) (fun _ _ _ h => h) (Or.inl ⟨by rfl, ?_⟩) ?_ ?_
  rotate_left
  · intro w'
    go_simp
    with_reducible rfl
  rotate_left
  · simp only [Act.put, List.setIfInBounds_toArray, List.set_cons_zero, List.set_cons_succ, i64_w, i32_w]
    rfl
  refine pure_ (i := 9) (N := some 6) (v := ?_) (a' := ?_) #[true, true, true, true, true, true, true, true, true, true, false, false] rfl rfl (by kernel_rfl) (fun _ _ _ h => h) (Or.inl ⟨by rfl, ?_⟩) ?_ ?_
  rotate_left
  · intro w'
    go_simp
    with_reducible rfl
  rotate_left
  · simp only [Act.put, List.setIfInBounds_toArray, List.set_cons_zero, List.set_cons_succ, i64_w, i32_w]
    rfl
  refine pure_ (i := 10) (N := some 7) (v := ?_) (a' := ?_) #[true, true, true, true, true, true, true, true, true, true, true, false] rfl rfl (by kernel_rfl) (fun _ _ _ h => h) (Or.inl ⟨by rfl, ?_⟩) ?_ ?_
  rotate_left
  · intro w'
    go_simp
    with_reducible rfl
  rotate_left
  · simp only [Act.put, List.setIfInBounds_toArray, List.set_cons_zero, List.set_cons_succ, i64_w, i32_w]
    rfl
  refine pure_ (i := 11) (N := some 8) (v := ?_) (a' := ?_) #[true, true, true, true, true, true, true, true, true, true, true, true] rfl rfl (by kernel_rfl) (fun _ _ _ h => h) (Or.inl ⟨by rfl, ?_⟩) ?_ ?_
  rotate_left
  · intro w'
    go_simp
    with_reducible rfl
  rotate_left
  · simp only [Act.put, List.setIfInBounds_toArray, List.set_cons_zero, List.set_cons_succ, i64_w, i32_w]
    rfl
  refine done_ (by kernel_rfl) ?_
  clear hHeld
  obtain ⟨cb', ⟨came2, hB2, hC2⟩, hcb2⟩ := HG2.out
  have HB2 := Lib.hid hB2
  have HC2 := Lib.hid hC2
  have HCB := Lib.hid hcb2
  clear hB2 hC2 hcb2
  have hch := bk_cell HB2.out
  have hfh := bk_free HB2.out
  have hcx := bk_cell HX2.out
  go_wp2
  go_ret2

  refine ⟨rfl, ⟨cb', ⟨came2, bk_put (bk_put (bk_put (bk_put (bk_put (HB2.out) 12 _ rfl) 6 _ rfl) 9 _ rfl) 10 _ rfl) 11 _ rfl, fun hi => ?_⟩, HCB.out.imp id (fun q => by simp at q; omega)⟩, (((((HF2.out).setIn hSh.out _).setIn hSh.out _).setIn hSh.out _).setIn hSh.out _).setIn hSh.out _⟩
  obtain ⟨cc, q1, q2, q3⟩ := HC2.out hi
  exact ⟨cc, q1, bk_far (bk_far (bk_far (bk_far (bk_far (q2) q3 _) q3 _) q3 _) q3 _) q3 _, q3⟩

set_option maxRecDepth 100000 in
set_option maxHeartbeats 2000000 in
theorem rsput_true_false (hr : RefAt h cb sz r x w) (he : (e0 == 3) = false)
    (hp : ∀ w1 : World, RefAt h cb sz r x w1 → Calls Try.prog 32 #[.pointer (some ⟨h, 0, none⟩), .agg #[.int .i64 k, .int .u8 f1, .int .u8 f2, .int .u16 f3, .int .u16 f4, .int .u16 f5, .int .u8 f6, .int .u16 f7, .int .u16 f8, .int .u16 f9, .int .u8 f10, .int .u16 f11, .bool f12, .int .u8 f13, .int .u16 vi, .int .u32 vs, .int .u8 p, .int .u8 n, .string b]] w1 fun e w' => e = .returned (.tuple #[.string v, .bool true, .int .i64 e0]) ∧ RefTo h cb sz r1 x w1 w' ∧ Fr w1 w' (if r.is = true then [h, cb] else [h])) :
    Calls Try.prog 20 #[.pointer (some ⟨h, 0, none⟩), .agg #[.int .i64 k, .int .u8 f1, .int .u8 f2, .int .u16 f3, .int .u16 f4, .int .u16 f5, .int .u8 f6, .int .u16 f7, .int .u16 f8, .int .u16 f9, .int .u8 f10, .int .u16 f11, .bool f12, .int .u8 f13, .int .u16 vi, .int .u32 vs, .int .u8 p, .int .u8 n, .string b]] w fun e w' => e = .returned (.tuple #[.bool true, .int .i64 e0]) ∧
      RefTo h cb sz r1 { x with ft := x.ft, b := v, bi := vi, bs := vs, wt := true } w w' ∧ Fr w w' (if r.is = true then [h, cb] else [h]) := by
  have HT := Lib.hid hp
  have HF := Lib.hid ((Fr.refl w []).alloc (.cells #[.int .i64 k, .int .u8 f1, .int .u8 f2, .int .u16 f3, .int .u16 f4, .int .u16 f5, .int .u8 f6, .int .u16 f7, .int .u16 f8, .int .u16 f9, .int .u8 f10, .int .u16 f11, .bool f12, .int .u8 f13, .int .u16 vi, .int .u32 vs, .int .u8 p, .int .u8 n, .string b] 36))
  have HR := Lib.hid (ra_alloc hr (.cells #[.int .i64 k, .int .u8 f1, .int .u8 f2, .int .u16 f3, .int .u16 f4, .int .u16 f5, .int .u8 f6, .int .u16 f7, .int .u16 f8, .int .u16 f9, .int .u8 f10, .int .u16 f11, .bool f12, .int .u8 f13, .int .u16 vi, .int .u32 vs, .int .u8 p, .int .u8 n, .string b] 36))
  have HX := Lib.hid (bk_new w (.cells #[.int .i64 k, .int .u8 f1, .int .u8 f2, .int .u16 f3, .int .u16 f4, .int .u16 f5, .int .u8 f6, .int .u16 f7, .int .u16 f8, .int .u16 f9, .int .u8 f10, .int .u16 f11, .bool f12, .int .u8 f13, .int .u16 vi, .int .u32 vs, .int .u8 p, .int .u8 n, .string b] 36))
  have hxh := Lib.hid (show h ≠ w.heap.size by have := ra_lt hr; omega)
  have hxc := Lib.hid (show r.is = true → cb ≠ w.heap.size from fun hi => by
    obtain ⟨came, q1, q2⟩ := hr
    obtain ⟨cc, _, q3, _⟩ := q2 hi
    have := bk_lt q3; omega)
  obtain ⟨S, hS⟩ : ∃ S, S = (if r.is = true then [h, cb] else [h]) := ⟨_, rfl⟩
  have hSh := Lib.hid (show h ∈ S by rw [hS]; split <;> simp)
  have hSx := Lib.hid (show w.heap.size ∉ S by
    rw [hS]
    split
    · rename_i hi
      have := hxc.out hi
      have := hxh.out
      simp; omega
    · have := hxh.out
      simp; omega)
  rw [← hS] at HT ⊢
  clear hp hr hS hxc
  go_enter Try.func20, Try.ntmps20
  go_wp2_with fail
  refine start_ (n := 12) (S := fun w' => True) (ds := []) #[false, false, false, false, false, false, false, false, false, false, false, false] (by kernel_rfl) rfl rfl trivial (fun hHeld => ?_)
  refine pure_ (i := 0) (N := some 10) (v := ?_) (a' := ?_) #[true, false, false, false, false, false, false, false, false, false, false, false] rfl rfl (by kernel_rfl) (fun _ _ _ h => h) (Or.inl ⟨by rfl, ?_⟩) ?_ ?_
  rotate_left
  · intro w'
    go_simp
    with_reducible rfl
  rotate_left
  · simp only [Act.put, List.setIfInBounds_toArray, List.set_cons_zero, List.set_cons_succ, i64_w, i32_w]
    rfl
  refine pure_ (i := 1) (N := some 11) (v := ?_) (a' := ?_) #[true, true, false, false, false, false, false, false, false, false, false, false] rfl rfl (by kernel_rfl) (fun _ _ _ h => h) (Or.inl ⟨by rfl, ?_⟩) ?_ ?_
  rotate_left
  · intro w'
    go_simp
    with_reducible rfl
  rotate_left
  · simp only [Act.put, List.setIfInBounds_toArray, List.set_cons_zero, List.set_cons_succ, i64_w, i32_w]
    rfl
  refine pure_ (i := 2) (N := some 12) (v := ?_) (a' := ?_) #[true, true, true, false, false, false, false, false, false, false, false, false] rfl rfl (by kernel_rfl) (fun _ _ _ h => h) (Or.inl ⟨by rfl, ?_⟩) ?_ ?_
  rotate_left
  · intro w'
    go_simp
    with_reducible rfl
  rotate_left
  · simp only [Act.put, List.setIfInBounds_toArray, List.set_cons_zero, List.set_cons_succ, i64_w, i32_w]
    rfl
  refine one_ (i := 3) (N := some 13) #[true, true, true, true, false, false, false, false, false, false, false, false] rfl rfl (by kernel_rfl) (by decide) (fun K hK => ?_)
  refine es_load 36 (.tmp 3) rfl rfl (by rfl) rfl HX.out Try.underlying36 rfl sizeF rfl ?_
  refine hK.out _ _ trivial (fun hHeld => ?_)
  clear hK K
  refine norm_ (a' := ?_) ?_ ?_
  rotate_left
  · show Act.put _ (some 13) _ = _
    simp only [Act.put, List.setIfInBounds_toArray, List.set_cons_zero, List.set_cons_succ, i64_w, i32_w]
    rfl
  refine one_ (i := 4) (N := some 14) #[true, true, true, true, true, false, false, false, false, false, false, false] rfl rfl (by kernel_rfl) (by decide) (fun K hK => ?_)
  refine goes_ Try.func32 (by kernel_rfl) rfl #[.pointer (some ⟨h, 0, none⟩), .agg #[.int .i64 k, .int .u8 f1, .int .u8 f2, .int .u16 f3, .int .u16 f4, .int .u16 f5, .int .u8 f6, .int .u16 f7, .int .u16 f8, .int .u16 f9, .int .u8 f10, .int .u16 f11, .bool f12, .int .u8 f13, .int .u16 vi, .int .u32 vs, .int .u8 p, .int .u8 n, .string b]] (by rfl) rfl rfl (by simp only [List.map_toArray, List.map_cons, List.map_nil]; rfl) ?_
  with_reducible refine (HT.out _ (by exact ra_of HR.out rfl)).mono ?_
  rintro e w2 ⟨rfl, hg2, hf2⟩
  refine ⟨_, rfl, ?_⟩
  have HX2 := Lib.hid (Fr.at hf2 HX.out hSx.out)
  have HF2 := Lib.hid (Fr.via (S := S) hf2 (HF.out.mono (by simp)) rfl rfl rfl rfl (fun i hi => .inl hi))
  have HG2 := Lib.hid hg2
  clear hf2 hg2
  refine hK.out _ _ trivial (fun hHeld => ?_)
  clear hK K
  refine norm_ (a' := ?_) ?_ ?_
  rotate_left
  · show Act.put _ (some 14) _ = _
    simp only [Act.put, List.setIfInBounds_toArray, List.set_cons_zero, List.set_cons_succ, i64_w, i32_w]
    rfl
  refine pure_ (i := 5) (N := some 9) (v := ?_) (a' := ?_) #[true, true, true, true, true, true, false, false, false, false, false, false] rfl rfl (by kernel_rfl) (fun _ _ _ h => h) (Or.inl ⟨by rfl, ?_⟩) ?_ ?_
  rotate_left
  · intro w'
    go_simp
    with_reducible rfl
  rotate_left
  · simp only [Act.put, List.setIfInBounds_toArray, List.set_cons_zero, List.set_cons_succ, i64_w, i32_w]
    rfl
  refine pure_ (i := 6) (N := some 15) (v := ?_) (a' := ?_) #[true, true, true, true, true, true, true, false, false, false, false, false] rfl rfl (by kernel_rfl) (fun _ _ _ h => h) (Or.inl ⟨by rfl, ?_⟩) ?_ ?_
  rotate_left
  · intro w'
    go_simp
    with_reducible rfl
  rotate_left
  · simp only [Act.put, List.setIfInBounds_toArray, List.set_cons_zero, List.set_cons_succ, i64_w, i32_w]
    rfl
  refine pure_ (i := 7) (N := some 16) (v := ?_) (a' := ?_) #[true, true, true, true, true, true, true, true, false, false, false, false] rfl rfl (by kernel_rfl) (fun _ _ _ h => h) (Or.inl ⟨by rfl, ?_⟩) ?_ ?_
  rotate_left
  · intro w'
    go_simp
    with_reducible rfl
  rotate_left
  · simp only [Act.put, List.setIfInBounds_toArray, List.set_cons_zero, List.set_cons_succ, i64_w, i32_w]
    rfl
  refine pure_ (i := 8) (N := some 17) (v := ?_) (a' := ?_) #[true, true, true, true, true, true, true, true, true, false, false, false] rfl rfl (by kernel_rfl) (fun _ _ _ h => h) (Or.inl ⟨by rfl, ?_⟩) ?_ ?_
  rotate_left
  · intro w'
    go_simp
    with_reducible rfl
  rotate_left
  · simp only [Act.put, List.setIfInBounds_toArray, List.set_cons_zero, List.set_cons_succ, i64_w, i32_w]
    rfl
  refine pure_ (i := 9) (N := some 6) (v := ?_) (a' := ?_) #[true, true, true, true, true, true, true, true, true, true, false, false] rfl rfl (by kernel_rfl) (fun _ _ _ h => h) (Or.inl ⟨by rfl, ?_⟩) ?_ ?_
  rotate_left
  · intro w'
    go_simp
    with_reducible rfl
  rotate_left
  · simp only [Act.put, List.setIfInBounds_toArray, List.set_cons_zero, List.set_cons_succ, i64_w, i32_w]
    rfl
  refine pure_ (i := 10) (N := some 7) (v := ?_) (a' := ?_) #[true, true, true, true, true, true, true, true, true, true, true, false] rfl rfl (by kernel_rfl) (fun _ _ _ h => h) (Or.inl ⟨by rfl, ?_⟩) ?_ ?_
  rotate_left
  · intro w'
    go_simp
    with_reducible rfl
  rotate_left
  · simp only [Act.put, List.setIfInBounds_toArray, List.set_cons_zero, List.set_cons_succ, i64_w, i32_w]
    rfl
  refine pure_ (i := 11) (N := some 8) (v := ?_) (a' := ?_) #[true, true, true, true, true, true, true, true, true, true, true, true] rfl rfl (by kernel_rfl) (fun _ _ _ h => h) (Or.inl ⟨by rfl, ?_⟩) ?_ ?_
  rotate_left
  · intro w'
    go_simp
    with_reducible rfl
  rotate_left
  · simp only [Act.put, List.setIfInBounds_toArray, List.set_cons_zero, List.set_cons_succ, i64_w, i32_w]
    rfl
  refine done_ (by kernel_rfl) ?_
  clear hHeld
  obtain ⟨cb', ⟨came2, hB2, hC2⟩, hcb2⟩ := HG2.out
  have HB2 := Lib.hid hB2
  have HC2 := Lib.hid hC2
  have HCB := Lib.hid hcb2
  clear hB2 hC2 hcb2
  have hch := bk_cell HB2.out
  have hfh := bk_free HB2.out
  have hcx := bk_cell HX2.out
  go_wp2
  go_ret2

  refine ⟨rfl, ⟨cb', ⟨came2, bk_put (bk_put (bk_put (bk_put (HB2.out) 6 _ rfl) 9 _ rfl) 10 _ rfl) 11 _ rfl, fun hi => ?_⟩, HCB.out.imp id (fun q => by simp at q; omega)⟩, ((((HF2.out).setIn hSh.out _).setIn hSh.out _).setIn hSh.out _).setIn hSh.out _⟩
  obtain ⟨cc, q1, q2, q3⟩ := HC2.out hi
  exact ⟨cc, q1, bk_far (bk_far (bk_far (bk_far (q2) q3 _) q3 _) q3 _) q3 _, q3⟩

set_option maxRecDepth 100000 in
set_option maxHeartbeats 2000000 in
theorem rsput_false_true (hr : RefAt h cb sz r x w) (he : (e0 == 3) = true)
    (hp : ∀ w1 : World, RefAt h cb sz r x w1 → Calls Try.prog 32 #[.pointer (some ⟨h, 0, none⟩), .agg #[.int .i64 k, .int .u8 f1, .int .u8 f2, .int .u16 f3, .int .u16 f4, .int .u16 f5, .int .u8 f6, .int .u16 f7, .int .u16 f8, .int .u16 f9, .int .u8 f10, .int .u16 f11, .bool f12, .int .u8 f13, .int .u16 vi, .int .u32 vs, .int .u8 p, .int .u8 n, .string b]] w1 fun e w' => e = .returned (.tuple #[.string v, .bool false, .int .i64 e0]) ∧ RefTo h cb sz r1 x w1 w' ∧ Fr w1 w' (if r.is = true then [h, cb] else [h])) :
    Calls Try.prog 20 #[.pointer (some ⟨h, 0, none⟩), .agg #[.int .i64 k, .int .u8 f1, .int .u8 f2, .int .u16 f3, .int .u16 f4, .int .u16 f5, .int .u8 f6, .int .u16 f7, .int .u16 f8, .int .u16 f9, .int .u8 f10, .int .u16 f11, .bool f12, .int .u8 f13, .int .u16 vi, .int .u32 vs, .int .u8 p, .int .u8 n, .string b]] w fun e w' => e = .returned (.tuple #[.bool false, .int .i64 e0]) ∧
      RefTo h cb sz r1 { x with ft := true } w w' ∧ Fr w w' (if r.is = true then [h, cb] else [h]) := by
  have HT := Lib.hid hp
  have HF := Lib.hid ((Fr.refl w []).alloc (.cells #[.int .i64 k, .int .u8 f1, .int .u8 f2, .int .u16 f3, .int .u16 f4, .int .u16 f5, .int .u8 f6, .int .u16 f7, .int .u16 f8, .int .u16 f9, .int .u8 f10, .int .u16 f11, .bool f12, .int .u8 f13, .int .u16 vi, .int .u32 vs, .int .u8 p, .int .u8 n, .string b] 36))
  have HR := Lib.hid (ra_alloc hr (.cells #[.int .i64 k, .int .u8 f1, .int .u8 f2, .int .u16 f3, .int .u16 f4, .int .u16 f5, .int .u8 f6, .int .u16 f7, .int .u16 f8, .int .u16 f9, .int .u8 f10, .int .u16 f11, .bool f12, .int .u8 f13, .int .u16 vi, .int .u32 vs, .int .u8 p, .int .u8 n, .string b] 36))
  have HX := Lib.hid (bk_new w (.cells #[.int .i64 k, .int .u8 f1, .int .u8 f2, .int .u16 f3, .int .u16 f4, .int .u16 f5, .int .u8 f6, .int .u16 f7, .int .u16 f8, .int .u16 f9, .int .u8 f10, .int .u16 f11, .bool f12, .int .u8 f13, .int .u16 vi, .int .u32 vs, .int .u8 p, .int .u8 n, .string b] 36))
  have hxh := Lib.hid (show h ≠ w.heap.size by have := ra_lt hr; omega)
  have hxc := Lib.hid (show r.is = true → cb ≠ w.heap.size from fun hi => by
    obtain ⟨came, q1, q2⟩ := hr
    obtain ⟨cc, _, q3, _⟩ := q2 hi
    have := bk_lt q3; omega)
  obtain ⟨S, hS⟩ : ∃ S, S = (if r.is = true then [h, cb] else [h]) := ⟨_, rfl⟩
  have hSh := Lib.hid (show h ∈ S by rw [hS]; split <;> simp)
  have hSx := Lib.hid (show w.heap.size ∉ S by
    rw [hS]
    split
    · rename_i hi
      have := hxc.out hi
      have := hxh.out
      simp; omega
    · have := hxh.out
      simp; omega)
  rw [← hS] at HT ⊢
  clear hp hr hS hxc
  go_enter Try.func20, Try.ntmps20
  go_wp2_with fail
  refine start_ (n := 12) (S := fun w' => True) (ds := []) #[false, false, false, false, false, false, false, false, false, false, false, false] (by kernel_rfl) rfl rfl trivial (fun hHeld => ?_)
  refine pure_ (i := 0) (N := some 10) (v := ?_) (a' := ?_) #[true, false, false, false, false, false, false, false, false, false, false, false] rfl rfl (by kernel_rfl) (fun _ _ _ h => h) (Or.inl ⟨by rfl, ?_⟩) ?_ ?_
  rotate_left
  · intro w'
    go_simp
    with_reducible rfl
  rotate_left
  · simp only [Act.put, List.setIfInBounds_toArray, List.set_cons_zero, List.set_cons_succ, i64_w, i32_w]
    rfl
  refine pure_ (i := 1) (N := some 11) (v := ?_) (a' := ?_) #[true, true, false, false, false, false, false, false, false, false, false, false] rfl rfl (by kernel_rfl) (fun _ _ _ h => h) (Or.inl ⟨by rfl, ?_⟩) ?_ ?_
  rotate_left
  · intro w'
    go_simp
    with_reducible rfl
  rotate_left
  · simp only [Act.put, List.setIfInBounds_toArray, List.set_cons_zero, List.set_cons_succ, i64_w, i32_w]
    rfl
  refine pure_ (i := 2) (N := some 12) (v := ?_) (a' := ?_) #[true, true, true, false, false, false, false, false, false, false, false, false] rfl rfl (by kernel_rfl) (fun _ _ _ h => h) (Or.inl ⟨by rfl, ?_⟩) ?_ ?_
  rotate_left
  · intro w'
    go_simp
    with_reducible rfl
  rotate_left
  · simp only [Act.put, List.setIfInBounds_toArray, List.set_cons_zero, List.set_cons_succ, i64_w, i32_w]
    rfl
  refine one_ (i := 3) (N := some 13) #[true, true, true, true, false, false, false, false, false, false, false, false] rfl rfl (by kernel_rfl) (by decide) (fun K hK => ?_)
  refine es_load 36 (.tmp 3) rfl rfl (by rfl) rfl HX.out Try.underlying36 rfl sizeF rfl ?_
  refine hK.out _ _ trivial (fun hHeld => ?_)
  clear hK K
  refine norm_ (a' := ?_) ?_ ?_
  rotate_left
  · show Act.put _ (some 13) _ = _
    simp only [Act.put, List.setIfInBounds_toArray, List.set_cons_zero, List.set_cons_succ, i64_w, i32_w]
    rfl
  refine one_ (i := 4) (N := some 14) #[true, true, true, true, true, false, false, false, false, false, false, false] rfl rfl (by kernel_rfl) (by decide) (fun K hK => ?_)
  refine goes_ Try.func32 (by kernel_rfl) rfl #[.pointer (some ⟨h, 0, none⟩), .agg #[.int .i64 k, .int .u8 f1, .int .u8 f2, .int .u16 f3, .int .u16 f4, .int .u16 f5, .int .u8 f6, .int .u16 f7, .int .u16 f8, .int .u16 f9, .int .u8 f10, .int .u16 f11, .bool f12, .int .u8 f13, .int .u16 vi, .int .u32 vs, .int .u8 p, .int .u8 n, .string b]] (by rfl) rfl rfl (by simp only [List.map_toArray, List.map_cons, List.map_nil]; rfl) ?_
  with_reducible refine (HT.out _ (by exact ra_of HR.out rfl)).mono ?_
  rintro e w2 ⟨rfl, hg2, hf2⟩
  refine ⟨_, rfl, ?_⟩
  have HX2 := Lib.hid (Fr.at hf2 HX.out hSx.out)
  have HF2 := Lib.hid (Fr.via (S := S) hf2 (HF.out.mono (by simp)) rfl rfl rfl rfl (fun i hi => .inl hi))
  have HG2 := Lib.hid hg2
  clear hf2 hg2
  refine hK.out _ _ trivial (fun hHeld => ?_)
  clear hK K
  refine norm_ (a' := ?_) ?_ ?_
  rotate_left
  · show Act.put _ (some 14) _ = _
    simp only [Act.put, List.setIfInBounds_toArray, List.set_cons_zero, List.set_cons_succ, i64_w, i32_w]
    rfl
  refine pure_ (i := 5) (N := some 9) (v := ?_) (a' := ?_) #[true, true, true, true, true, true, false, false, false, false, false, false] rfl rfl (by kernel_rfl) (fun _ _ _ h => h) (Or.inl ⟨by rfl, ?_⟩) ?_ ?_
  rotate_left
  · intro w'
    go_simp
    with_reducible rfl
  rotate_left
  · simp only [Act.put, List.setIfInBounds_toArray, List.set_cons_zero, List.set_cons_succ, i64_w, i32_w]
    rfl
  refine pure_ (i := 6) (N := some 15) (v := ?_) (a' := ?_) #[true, true, true, true, true, true, true, false, false, false, false, false] rfl rfl (by kernel_rfl) (fun _ _ _ h => h) (Or.inl ⟨by rfl, ?_⟩) ?_ ?_
  rotate_left
  · intro w'
    go_simp
    with_reducible rfl
  rotate_left
  · simp only [Act.put, List.setIfInBounds_toArray, List.set_cons_zero, List.set_cons_succ, i64_w, i32_w]
    rfl
  refine pure_ (i := 7) (N := some 16) (v := ?_) (a' := ?_) #[true, true, true, true, true, true, true, true, false, false, false, false] rfl rfl (by kernel_rfl) (fun _ _ _ h => h) (Or.inl ⟨by rfl, ?_⟩) ?_ ?_
  rotate_left
  · intro w'
    go_simp
    with_reducible rfl
  rotate_left
  · simp only [Act.put, List.setIfInBounds_toArray, List.set_cons_zero, List.set_cons_succ, i64_w, i32_w]
    rfl
  refine pure_ (i := 8) (N := some 17) (v := ?_) (a' := ?_) #[true, true, true, true, true, true, true, true, true, false, false, false] rfl rfl (by kernel_rfl) (fun _ _ _ h => h) (Or.inl ⟨by rfl, ?_⟩) ?_ ?_
  rotate_left
  · intro w'
    go_simp
    with_reducible rfl
  rotate_left
  · simp only [Act.put, List.setIfInBounds_toArray, List.set_cons_zero, List.set_cons_succ, i64_w, i32_w]
    rfl
  refine pure_ (i := 9) (N := some 6) (v := ?_) (a' := ?_) #[true, true, true, true, true, true, true, true, true, true, false, false] rfl rfl (by kernel_rfl) (fun _ _ _ h => h) (Or.inl ⟨by rfl, ?_⟩) ?_ ?_
  rotate_left
  · intro w'
    go_simp
    with_reducible rfl
  rotate_left
  · simp only [Act.put, List.setIfInBounds_toArray, List.set_cons_zero, List.set_cons_succ, i64_w, i32_w]
    rfl
  refine pure_ (i := 10) (N := some 7) (v := ?_) (a' := ?_) #[true, true, true, true, true, true, true, true, true, true, true, false] rfl rfl (by kernel_rfl) (fun _ _ _ h => h) (Or.inl ⟨by rfl, ?_⟩) ?_ ?_
  rotate_left
  · intro w'
    go_simp
    with_reducible rfl
  rotate_left
  · simp only [Act.put, List.setIfInBounds_toArray, List.set_cons_zero, List.set_cons_succ, i64_w, i32_w]
    rfl
  refine pure_ (i := 11) (N := some 8) (v := ?_) (a' := ?_) #[true, true, true, true, true, true, true, true, true, true, true, true] rfl rfl (by kernel_rfl) (fun _ _ _ h => h) (Or.inl ⟨by rfl, ?_⟩) ?_ ?_
  rotate_left
  · intro w'
    go_simp
    with_reducible rfl
  rotate_left
  · simp only [Act.put, List.setIfInBounds_toArray, List.set_cons_zero, List.set_cons_succ, i64_w, i32_w]
    rfl
  refine done_ (by kernel_rfl) ?_
  clear hHeld
  obtain ⟨cb', ⟨came2, hB2, hC2⟩, hcb2⟩ := HG2.out
  have HB2 := Lib.hid hB2
  have HC2 := Lib.hid hC2
  have HCB := Lib.hid hcb2
  clear hB2 hC2 hcb2
  have hch := bk_cell HB2.out
  have hfh := bk_free HB2.out
  have hcx := bk_cell HX2.out
  go_wp2
  go_ret2

  refine ⟨rfl, ⟨cb', ⟨came2, bk_put (HB2.out) 12 _ rfl, fun hi => ?_⟩, HCB.out.imp id (fun q => by simp at q; omega)⟩, (HF2.out).setIn hSh.out _⟩
  obtain ⟨cc, q1, q2, q3⟩ := HC2.out hi
  exact ⟨cc, q1, bk_far (q2) q3 _, q3⟩

set_option maxRecDepth 100000 in
set_option maxHeartbeats 2000000 in
theorem rsput_false_false (hr : RefAt h cb sz r x w) (he : (e0 == 3) = false)
    (hp : ∀ w1 : World, RefAt h cb sz r x w1 → Calls Try.prog 32 #[.pointer (some ⟨h, 0, none⟩), .agg #[.int .i64 k, .int .u8 f1, .int .u8 f2, .int .u16 f3, .int .u16 f4, .int .u16 f5, .int .u8 f6, .int .u16 f7, .int .u16 f8, .int .u16 f9, .int .u8 f10, .int .u16 f11, .bool f12, .int .u8 f13, .int .u16 vi, .int .u32 vs, .int .u8 p, .int .u8 n, .string b]] w1 fun e w' => e = .returned (.tuple #[.string v, .bool false, .int .i64 e0]) ∧ RefTo h cb sz r1 x w1 w' ∧ Fr w1 w' (if r.is = true then [h, cb] else [h])) :
    Calls Try.prog 20 #[.pointer (some ⟨h, 0, none⟩), .agg #[.int .i64 k, .int .u8 f1, .int .u8 f2, .int .u16 f3, .int .u16 f4, .int .u16 f5, .int .u8 f6, .int .u16 f7, .int .u16 f8, .int .u16 f9, .int .u8 f10, .int .u16 f11, .bool f12, .int .u8 f13, .int .u16 vi, .int .u32 vs, .int .u8 p, .int .u8 n, .string b]] w fun e w' => e = .returned (.tuple #[.bool false, .int .i64 e0]) ∧
      RefTo h cb sz r1 { x with ft := x.ft } w w' ∧ Fr w w' (if r.is = true then [h, cb] else [h]) := by
  have HT := Lib.hid hp
  have HF := Lib.hid ((Fr.refl w []).alloc (.cells #[.int .i64 k, .int .u8 f1, .int .u8 f2, .int .u16 f3, .int .u16 f4, .int .u16 f5, .int .u8 f6, .int .u16 f7, .int .u16 f8, .int .u16 f9, .int .u8 f10, .int .u16 f11, .bool f12, .int .u8 f13, .int .u16 vi, .int .u32 vs, .int .u8 p, .int .u8 n, .string b] 36))
  have HR := Lib.hid (ra_alloc hr (.cells #[.int .i64 k, .int .u8 f1, .int .u8 f2, .int .u16 f3, .int .u16 f4, .int .u16 f5, .int .u8 f6, .int .u16 f7, .int .u16 f8, .int .u16 f9, .int .u8 f10, .int .u16 f11, .bool f12, .int .u8 f13, .int .u16 vi, .int .u32 vs, .int .u8 p, .int .u8 n, .string b] 36))
  have HX := Lib.hid (bk_new w (.cells #[.int .i64 k, .int .u8 f1, .int .u8 f2, .int .u16 f3, .int .u16 f4, .int .u16 f5, .int .u8 f6, .int .u16 f7, .int .u16 f8, .int .u16 f9, .int .u8 f10, .int .u16 f11, .bool f12, .int .u8 f13, .int .u16 vi, .int .u32 vs, .int .u8 p, .int .u8 n, .string b] 36))
  have hxh := Lib.hid (show h ≠ w.heap.size by have := ra_lt hr; omega)
  have hxc := Lib.hid (show r.is = true → cb ≠ w.heap.size from fun hi => by
    obtain ⟨came, q1, q2⟩ := hr
    obtain ⟨cc, _, q3, _⟩ := q2 hi
    have := bk_lt q3; omega)
  obtain ⟨S, hS⟩ : ∃ S, S = (if r.is = true then [h, cb] else [h]) := ⟨_, rfl⟩
  have hSh := Lib.hid (show h ∈ S by rw [hS]; split <;> simp)
  have hSx := Lib.hid (show w.heap.size ∉ S by
    rw [hS]
    split
    · rename_i hi
      have := hxc.out hi
      have := hxh.out
      simp; omega
    · have := hxh.out
      simp; omega)
  rw [← hS] at HT ⊢
  clear hp hr hS hxc
  go_enter Try.func20, Try.ntmps20
  go_wp2_with fail
  refine start_ (n := 12) (S := fun w' => True) (ds := []) #[false, false, false, false, false, false, false, false, false, false, false, false] (by kernel_rfl) rfl rfl trivial (fun hHeld => ?_)
  refine pure_ (i := 0) (N := some 10) (v := ?_) (a' := ?_) #[true, false, false, false, false, false, false, false, false, false, false, false] rfl rfl (by kernel_rfl) (fun _ _ _ h => h) (Or.inl ⟨by rfl, ?_⟩) ?_ ?_
  rotate_left
  · intro w'
    go_simp
    with_reducible rfl
  rotate_left
  · simp only [Act.put, List.setIfInBounds_toArray, List.set_cons_zero, List.set_cons_succ, i64_w, i32_w]
    rfl
  refine pure_ (i := 1) (N := some 11) (v := ?_) (a' := ?_) #[true, true, false, false, false, false, false, false, false, false, false, false] rfl rfl (by kernel_rfl) (fun _ _ _ h => h) (Or.inl ⟨by rfl, ?_⟩) ?_ ?_
  rotate_left
  · intro w'
    go_simp
    with_reducible rfl
  rotate_left
  · simp only [Act.put, List.setIfInBounds_toArray, List.set_cons_zero, List.set_cons_succ, i64_w, i32_w]
    rfl
  refine pure_ (i := 2) (N := some 12) (v := ?_) (a' := ?_) #[true, true, true, false, false, false, false, false, false, false, false, false] rfl rfl (by kernel_rfl) (fun _ _ _ h => h) (Or.inl ⟨by rfl, ?_⟩) ?_ ?_
  rotate_left
  · intro w'
    go_simp
    with_reducible rfl
  rotate_left
  · simp only [Act.put, List.setIfInBounds_toArray, List.set_cons_zero, List.set_cons_succ, i64_w, i32_w]
    rfl
  refine one_ (i := 3) (N := some 13) #[true, true, true, true, false, false, false, false, false, false, false, false] rfl rfl (by kernel_rfl) (by decide) (fun K hK => ?_)
  refine es_load 36 (.tmp 3) rfl rfl (by rfl) rfl HX.out Try.underlying36 rfl sizeF rfl ?_
  refine hK.out _ _ trivial (fun hHeld => ?_)
  clear hK K
  refine norm_ (a' := ?_) ?_ ?_
  rotate_left
  · show Act.put _ (some 13) _ = _
    simp only [Act.put, List.setIfInBounds_toArray, List.set_cons_zero, List.set_cons_succ, i64_w, i32_w]
    rfl
  refine one_ (i := 4) (N := some 14) #[true, true, true, true, true, false, false, false, false, false, false, false] rfl rfl (by kernel_rfl) (by decide) (fun K hK => ?_)
  refine goes_ Try.func32 (by kernel_rfl) rfl #[.pointer (some ⟨h, 0, none⟩), .agg #[.int .i64 k, .int .u8 f1, .int .u8 f2, .int .u16 f3, .int .u16 f4, .int .u16 f5, .int .u8 f6, .int .u16 f7, .int .u16 f8, .int .u16 f9, .int .u8 f10, .int .u16 f11, .bool f12, .int .u8 f13, .int .u16 vi, .int .u32 vs, .int .u8 p, .int .u8 n, .string b]] (by rfl) rfl rfl (by simp only [List.map_toArray, List.map_cons, List.map_nil]; rfl) ?_
  with_reducible refine (HT.out _ (by exact ra_of HR.out rfl)).mono ?_
  rintro e w2 ⟨rfl, hg2, hf2⟩
  refine ⟨_, rfl, ?_⟩
  have HX2 := Lib.hid (Fr.at hf2 HX.out hSx.out)
  have HF2 := Lib.hid (Fr.via (S := S) hf2 (HF.out.mono (by simp)) rfl rfl rfl rfl (fun i hi => .inl hi))
  have HG2 := Lib.hid hg2
  clear hf2 hg2
  refine hK.out _ _ trivial (fun hHeld => ?_)
  clear hK K
  refine norm_ (a' := ?_) ?_ ?_
  rotate_left
  · show Act.put _ (some 14) _ = _
    simp only [Act.put, List.setIfInBounds_toArray, List.set_cons_zero, List.set_cons_succ, i64_w, i32_w]
    rfl
  refine pure_ (i := 5) (N := some 9) (v := ?_) (a' := ?_) #[true, true, true, true, true, true, false, false, false, false, false, false] rfl rfl (by kernel_rfl) (fun _ _ _ h => h) (Or.inl ⟨by rfl, ?_⟩) ?_ ?_
  rotate_left
  · intro w'
    go_simp
    with_reducible rfl
  rotate_left
  · simp only [Act.put, List.setIfInBounds_toArray, List.set_cons_zero, List.set_cons_succ, i64_w, i32_w]
    rfl
  refine pure_ (i := 6) (N := some 15) (v := ?_) (a' := ?_) #[true, true, true, true, true, true, true, false, false, false, false, false] rfl rfl (by kernel_rfl) (fun _ _ _ h => h) (Or.inl ⟨by rfl, ?_⟩) ?_ ?_
  rotate_left
  · intro w'
    go_simp
    with_reducible rfl
  rotate_left
  · simp only [Act.put, List.setIfInBounds_toArray, List.set_cons_zero, List.set_cons_succ, i64_w, i32_w]
    rfl
  refine pure_ (i := 7) (N := some 16) (v := ?_) (a' := ?_) #[true, true, true, true, true, true, true, true, false, false, false, false] rfl rfl (by kernel_rfl) (fun _ _ _ h => h) (Or.inl ⟨by rfl, ?_⟩) ?_ ?_
  rotate_left
  · intro w'
    go_simp
    with_reducible rfl
  rotate_left
  · simp only [Act.put, List.setIfInBounds_toArray, List.set_cons_zero, List.set_cons_succ, i64_w, i32_w]
    rfl
  refine pure_ (i := 8) (N := some 17) (v := ?_) (a' := ?_) #[true, true, true, true, true, true, true, true, true, false, false, false] rfl rfl (by kernel_rfl) (fun _ _ _ h => h) (Or.inl ⟨by rfl, ?_⟩) ?_ ?_
  rotate_left
  · intro w'
    go_simp
    with_reducible rfl
  rotate_left
  · simp only [Act.put, List.setIfInBounds_toArray, List.set_cons_zero, List.set_cons_succ, i64_w, i32_w]
    rfl
  refine pure_ (i := 9) (N := some 6) (v := ?_) (a' := ?_) #[true, true, true, true, true, true, true, true, true, true, false, false] rfl rfl (by kernel_rfl) (fun _ _ _ h => h) (Or.inl ⟨by rfl, ?_⟩) ?_ ?_
  rotate_left
  · intro w'
    go_simp
    with_reducible rfl
  rotate_left
  · simp only [Act.put, List.setIfInBounds_toArray, List.set_cons_zero, List.set_cons_succ, i64_w, i32_w]
    rfl
  refine pure_ (i := 10) (N := some 7) (v := ?_) (a' := ?_) #[true, true, true, true, true, true, true, true, true, true, true, false] rfl rfl (by kernel_rfl) (fun _ _ _ h => h) (Or.inl ⟨by rfl, ?_⟩) ?_ ?_
  rotate_left
  · intro w'
    go_simp
    with_reducible rfl
  rotate_left
  · simp only [Act.put, List.setIfInBounds_toArray, List.set_cons_zero, List.set_cons_succ, i64_w, i32_w]
    rfl
  refine pure_ (i := 11) (N := some 8) (v := ?_) (a' := ?_) #[true, true, true, true, true, true, true, true, true, true, true, true] rfl rfl (by kernel_rfl) (fun _ _ _ h => h) (Or.inl ⟨by rfl, ?_⟩) ?_ ?_
  rotate_left
  · intro w'
    go_simp
    with_reducible rfl
  rotate_left
  · simp only [Act.put, List.setIfInBounds_toArray, List.set_cons_zero, List.set_cons_succ, i64_w, i32_w]
    rfl
  refine done_ (by kernel_rfl) ?_
  clear hHeld
  obtain ⟨cb', ⟨came2, hB2, hC2⟩, hcb2⟩ := HG2.out
  have HB2 := Lib.hid hB2
  have HC2 := Lib.hid hC2
  have HCB := Lib.hid hcb2
  clear hB2 hC2 hcb2
  have hch := bk_cell HB2.out
  have hfh := bk_free HB2.out
  have hcx := bk_cell HX2.out
  go_wp2
  go_ret2

  refine ⟨rfl, ⟨cb', ⟨came2, HB2.out, fun hi => ?_⟩, HCB.out.imp id (fun q => by simp at q; omega)⟩, HF2.out⟩
  obtain ⟨cc, q1, q2, q3⟩ := HC2.out hi
  exact ⟨cc, q1, q2, q3⟩
end
end Go.Proofs.Ytpfabaoefkokjaa

/-
  Both subscribers' Latch and Put, in the same words.
-/
namespace Go.Proofs.Ytpfabaoefkokjaa
open Go.RowKit
set_option linter.unusedVariables false
set_option linter.unusedSimpArgs false

theorem range_flat {w : World} {b o c k : Nat} {L : List (List Value)} {r : List Value} (hc : ∀ x, x ∈ L → x.length = c) (h : w.rangeAt b o L.flatten) (hk : L[k]? = some r) : w.rangeAt b (o + k * c) r := by
  have key : ∀ (L : List (List Value)) (k o : Nat), (∀ x, x ∈ L → x.length = c) → w.rangeAt b o L.flatten → L[k]? = some r → w.rangeAt b (o + k * c) r := by
    intro L
    induction L with
    | nil => intro k o _ _ hk; simp at hk
    | cons x L ih =>
      intro k o hc h hk
      rw [List.flatten_cons] at h
      cases k with
      | zero =>
        simp only [List.getElem?_cons_zero, Option.some.injEq] at hk
        subst hk
        rw [Nat.zero_mul, Nat.add_zero]
        exact range_left h
      | succ k =>
        have := ih k (o + c) (fun x hx => hc x (by simp [hx])) (range_right h (hc x (by simp))) (by simpa using hk)
        rw [show o + (k + 1) * c = o + c + k * c by rw [Nat.add_mul]; omega]
        exact this
  exact key L k o hc h hk
/-- A frame's cells, all of them. -/
structure FC where
  f1 : Int
  f2 : Int
  f3 : Int
  f4 : Int
  f5 : Int
  f6 : Int
  f7 : Int
  f8 : Int
  f9 : Int
  f10 : Int
  f11 : Int
  f12 : Bool
  f13 : Int
  k : Int
  vi : Int
  vs : Int
  p : Nat
  n : Int
  b : ByteArray
def FC.c (x : FC) : Array Value := #[.int .i64 x.k, .int .u8 x.f1, .int .u8 x.f2, .int .u16 x.f3, .int .u16 x.f4, .int .u16 x.f5, .int .u8 x.f6, .int .u16 x.f7, .int .u16 x.f8, .int .u16 x.f9, .int .u8 x.f10, .int .u16 x.f11, .bool x.f12, .int .u8 x.f13, .int .u16 x.vi, .int .u32 x.vs, .int .u8 x.p, .int .u8 x.n, .string x.b]
def FC.ok (x : FC) : Prop := x.p ≤ 255 ∧ 0 ≤ x.n ∧ x.n ≤ 255 ∧ (0 ≤ x.vi ∧ x.vi ≤ 65535 ∧ 0 ≤ x.vs ∧ x.vs ≤ 4294967295)
theorem layC : lay Try.prog 10 52 = some [.i .i64, .i .u8, .i .u8, .i .u16, .i .u16, .i .u16, .i .u8, .i .u16, .i .u16, .i .u16, .i .u8, .i .u16, .b, .i .u8, .i .u16, .i .u32, .i .u8, .i .u8, .s] := by kernel_rfl
theorem fc_of {H : Type} {enc : TypeId × Value → H} {w : World} {base : Nat} {spare : Nat → Bool} {held : Bool} {n : Nat} {cs : List Value} {y : DataW H × List MemPlace}
    (h : DataW.trod enc Try.prog w base spare held n 52 cs = some y) : ∃ x : FC, cs = x.c.toList ∧ x.ok := by
  have h := lay_ok enc Try.prog w base spare held 10 _ _ layC n cs y h
  obtain ⟨a0, cs0, rfl, k0, h0⟩ := okL_i h
  obtain ⟨a1, cs1, rfl, k1, h1⟩ := okL_i h0
  obtain ⟨a2, cs2, rfl, k2, h2⟩ := okL_i h1
  obtain ⟨a3, cs3, rfl, k3, h3⟩ := okL_i h2
  obtain ⟨a4, cs4, rfl, k4, h4⟩ := okL_i h3
  obtain ⟨a5, cs5, rfl, k5, h5⟩ := okL_i h4
  obtain ⟨a6, cs6, rfl, k6, h6⟩ := okL_i h5
  obtain ⟨a7, cs7, rfl, k7, h7⟩ := okL_i h6
  obtain ⟨a8, cs8, rfl, k8, h8⟩ := okL_i h7
  obtain ⟨a9, cs9, rfl, k9, h9⟩ := okL_i h8
  obtain ⟨a10, cs10, rfl, k10, h10⟩ := okL_i h9
  obtain ⟨a11, cs11, rfl, k11, h11⟩ := okL_i h10
  obtain ⟨a12, cs12, rfl, h12⟩ := okL_b h11
  obtain ⟨a13, cs13, rfl, k13, h13⟩ := okL_i h12
  obtain ⟨a14, cs14, rfl, k14, h14⟩ := okL_i h13
  obtain ⟨a15, cs15, rfl, k15, h15⟩ := okL_i h14
  obtain ⟨a16, cs16, rfl, k16, h16⟩ := okL_i h15
  obtain ⟨a17, cs17, rfl, k17, h17⟩ := okL_i h16
  obtain ⟨a18, cs18, rfl, k18, h18⟩ := okL_s h17
  obtain rfl := okL_nil h18
  have r14 := u16_rng k14
  have r15 := u32_rng k15
  have r16 := u8_rng k16
  have r17 := u8_rng k17
  obtain ⟨p, rfl⟩ := Int.eq_ofNat_of_zero_le r16.1
  exact ⟨⟨a1, a2, a3, a4, a5, a6, a7, a8, a9, a10, a11, a12, a13, a0, a14, a15, p, a17, a18⟩, rfl, by show p ≤ 255; omega, r17.1, r17.2, r14.1, r14.2, r15.1, r15.2⟩
end Go.Proofs.Ytpfabaoefkokjaa

/-
  GdataSubscribes: the edges, and one round's calls.
-/
namespace Go.Proofs.Ytpfabaoefkokjaa
open Go.RowKit Go.Proofs.YtpfabaoefkokjaaW.PrintLast
set_option linter.unusedVariables false
set_option linter.unusedSimpArgs false
theorem size52 : (Try.prog.info? 52).map (·.size) = some 19 := by kernel_rfl
/-- Behind a latch. -/
def latched (x : Sb) : Sb := if x.wt = true then ⟨x.b, x.bi, x.bs, ⟨#[]⟩, 0, 0, false, x.ft⟩ else x
theorem latch_any (h g : Nat) (x : Sb) (w : World) (hs : SubAt h g x w) : Calls Try.prog 15 #[.pointer (some ⟨h, 0, none⟩)] w fun e w' => e = .returned (.bool x.wt) ∧ SubAt h g (latched x) w' ∧ Fr w w' [h] := by
  obtain ⟨f, fi, fs, b, bi, bs, wt, ft⟩ := x
  cases wt with
  | true => exact (latch_yes h g f fi fs b bi bs ft w hs).mono fun e w' q => q
  | false => exact (latch_no h g f fi fs b bi bs ft w hs).mono fun e w' q => by obtain ⟨q1, rfl⟩ := q; exact ⟨q1, hs, Fr.refl _ _⟩
theorem rlatch_any (h cb sz : Nat) (r : RG) (x : Sb) (w : World) (hs : RefAt h cb sz r x w) : Calls Try.prog 19 #[.pointer (some ⟨h, 0, none⟩)] w fun e w' => e = .returned (.bool x.wt) ∧ RefAt h cb sz r (latched x) w' ∧ Fr w w' [h] := by
  obtain ⟨f, fi, fs, b, bi, bs, wt, ft⟩ := x
  obtain ⟨came, q1, q2⟩ := hs
  cases wt with
  | true => exact (rlatch_yes h sz r.is r.vi r.vs came f b fi fs bi bs ft w q1).mono fun e w' q => ⟨q.1, ⟨came, q.2.1, fun hi => by
      obtain ⟨cc, e1, e2, e3⟩ := q2 hi
      exact ⟨cc, e1, bk_keep e2 q.2.2 (by simpa using e3), e3⟩⟩, q.2.2⟩
  | false => exact (rlatch_no h sz r.is r.vi r.vs came f b fi fs bi bs ft w q1).mono fun e w' q => by obtain ⟨p1, rfl⟩ := q; exact ⟨p1, ⟨came, q1, q2⟩, Fr.refl _ _⟩
/-- The document's Put, in the words of the program's. -/
theorem rsput_any (c : FC) (hc : c.ok) (h cb sz : Nat) (x : Sb) (s : G) (r : RG) (hS : Sim sz s r) (w : World) (hr : RefAt h cb sz r x w) :
    Calls Try.prog 20 #[.pointer (some ⟨h, 0, none⟩), .agg c.c] w fun e w' => e = .returned (.tuple #[.bool (sput sz x s c.k c.vi c.vs c.p c.n c.b).1.1, .int .i64 (sput sz x s c.k c.vi c.vs c.p c.n c.b).1.2]) ∧
      RefTo h cb sz (rput sz r c.k c.vi c.vs c.p c.n c.b).2 (sput sz x s c.k c.vi c.vs c.p c.n c.b).2.1 w w' ∧ Fr w w' (if r.is = true then [h, cb] else [h]) := by
  obtain ⟨hp, hn0, hn1, hv⟩ := hc
  have P := (put_sim hS c.k c.vi c.vs c.p c.n c.b hv).1
  have HP : ∀ w1 : World, RefAt h cb sz r x w1 → Calls Try.prog 32 #[.pointer (some ⟨h, 0, none⟩), .agg c.c] w1 fun e w' =>
      e = .returned (outV (rput sz r c.k c.vi c.vs c.p c.n c.b).1) ∧ RefTo h cb sz (rput sz r c.k c.vi c.vs c.p c.n c.b).2 x w1 w' ∧ Fr w1 w' (if r.is = true then [h, cb] else [h]) :=
    fun w1 hw => rput_any c.f1 c.f2 c.f3 c.f4 c.f5 c.f6 c.f7 c.f8 c.f9 c.f10 c.f11 c.f12 c.f13 h cb sz r x s hS c.k c.vi c.vs c.p c.n c.b w1 hw hp hn0 hn1 hv
  unfold sput
  rw [P]
  revert HP
  generalize rput sz r c.k c.vi c.vs c.p c.n c.b = q
  obtain ⟨⟨v, o, e0⟩, r1⟩ := q
  intro HP
  unfold outV at HP
  obtain ⟨f, fi, fs, bb, bi, bs, wt, ft⟩ := x
  dsimp only at HP ⊢
  cases o <;> cases he : (e0 == 3)
  · exact (rsput_false_false c.f1 c.f2 c.f3 c.f4 c.f5 c.f6 c.f7 c.f8 c.f9 c.f10 c.f11 c.f12 c.f13 h cb sz c.k c.vi c.vs c.p c.n c.b r r1 _ w v e0 hr he HP).mono fun e w' q => by simpa using q
  · exact (rsput_false_true c.f1 c.f2 c.f3 c.f4 c.f5 c.f6 c.f7 c.f8 c.f9 c.f10 c.f11 c.f12 c.f13 h cb sz c.k c.vi c.vs c.p c.n c.b r r1 _ w v e0 hr he HP).mono fun e w' q => by simpa using q
  · exact (rsput_true_false c.f1 c.f2 c.f3 c.f4 c.f5 c.f6 c.f7 c.f8 c.f9 c.f10 c.f11 c.f12 c.f13 h cb sz c.k c.vi c.vs c.p c.n c.b r r1 _ w v e0 hr he HP).mono fun e w' q => by simpa using q
  · exact (rsput_true_true c.f1 c.f2 c.f3 c.f4 c.f5 c.f6 c.f7 c.f8 c.f9 c.f10 c.f11 c.f12 c.f13 h cb sz c.k c.vi c.vs c.p c.n c.b r r1 _ w v e0 hr he HP).mono fun e w' q => by simpa using q
section
variable (size : Int) (first : ByteArray) (w : World)
set_option maxRecDepth 100000 in
set_option maxHeartbeats 2000000 in
theorem subscribes_long (A : Option Addr) (n c : Nat) (hn : 100 < first.size ∨ 80 < n) (hn2 : n ≤ 9223372036854775807) : Calls Try.prog 4 #[.int .i64 size, .string first, .slice A n c] w fun e w' => e = .returned (.bool true) ∧ Fr w w' [] := by
  have hx : (100 < first.size) ∨ (¬ 100 < first.size ∧ 80 < n) := by omega
  clear hn
  rcases hx with hx | ⟨hx, hy⟩
  · have hd : (100 : Int) < first.size := by omega
    go_enter Try.func4, Try.ntmps4
    go_wp2_with (go_at_call 7; refine (awake_true _).mono ?_; rintro e w1 ⟨rfl, hf1⟩)
    go_ret
    exact ⟨rfl, hf1⟩
  · have hd : ¬ (100 : Int) < first.size := by omega
    have hd2 : (80 : Int) < n := by omega
    go_enter Try.func4, Try.ntmps4
    go_wp2_with (go_at_call 7; refine (awake_true _).mono ?_; rintro e w1 ⟨rfl, hf1⟩)
    go_ret
    exact ⟨rfl, hf1⟩
set_option maxRecDepth 100000 in
set_option maxHeartbeats 4000000 in
theorem subscribes_out (A : Option Addr) (n c : Nat) (hn0 : first.size ≤ 100) (hn : n ≤ 80) (hs : size < 1 ∨ 64 < size) : Calls Try.prog 4 #[.int .i64 size, .string first, .slice A n c] w fun e w' => e = .returned (.bool true) ∧ Fr w w' [] := by
  have hd : ¬ (100 : Int) < first.size := by omega
  have hd2 : ¬ (80 : Int) < n := by omega
  have HS := Lib.hid hs
  have hx : (size < 1) ∨ (¬ size < 1 ∧ 64 < size) := by omega
  clear hs
  rcases hx with hx | ⟨hx, hx2⟩
  all_goals
    go_enter Try.func4, Try.ntmps4
    go_wp2_with (first
      | (go_at_call 7; refine (awake_true _).mono ?_; rintro e w1 ⟨rfl, hf1⟩)
      | (go_at_call 9; refine (newSub_out _ _ HS.out _).mono ?_; rintro e w' ⟨rfl, rfl⟩)
      | (go_at_call 12; refine (sput_nil 0 0 0 0 0 0 0 0 0 0 0 false 0 4 0 0 0 0 ⟨#[]⟩ _).mono ?_; rintro e w2 ⟨rfl, hf2⟩)
      | (go_at_call 16; refine (sfront_nil _).mono ?_; rintro e w3 ⟨rfl, hf3⟩)
      | (go_at_call 15; refine (latch_nil _).mono ?_; rintro e w' ⟨rfl, rfl⟩)
      | (go_at_call 17; refine (fault_nil _).mono ?_; rintro e w' ⟨rfl, rfl⟩))
    go_ret
    exact ⟨rfl, by first | exact ((hf1.step hf2).step hf3).alloc _ | exact (((hf1.step hf2).step hf3).alloc _).setNew (by have := hf1.size; have := hf2.size; have := hf3.size; simp; omega) _⟩
end
end Go.Proofs.Ytpfabaoefkokjaa

/-
  GdataSubscribes: the walk of the frames.
-/
namespace Go.Proofs.Ytpfabaoefkokjaa
open Go.RowKit Go.Proofs.YtpfabaoefkokjaaW.PrintLast
set_option linter.unusedVariables false
set_option linter.unusedSimpArgs false

/-- How both subscribers stand at a round's head. -/
structure SubRel (B h g vb h2 sz : Nat) (w : World) (x : Sb) (s : G) (r : RG) (cb : Nat) : Prop where
  sub : SubAt h g x w
  glue : GlueAt g vb sz s w
  ref : RefAt h2 cb sz r x w
  sim : Sim sz s r
  new : B ≤ cb
section
variable (sz : Nat) (first : ByteArray) (w : World)

set_option maxRecDepth 100000 in
set_option maxHeartbeats 8000000 in
theorem subscribes_in (A : Option Addr) (n c : Nat) (fs : List FC) (hl : fs.length = n) (hok : ∀ x, x ∈ fs → x.ok) (hA : 0 < n → ∃ b o, A = some ⟨b, o, none⟩ ∧ w.rangeAt b o (fs.map (fun x => x.c.toList)).flatten) (hn0 : first.size ≤ 100) (hn : n ≤ 80) (h1 : 1 ≤ sz) (h2 : sz ≤ 64) :
    Calls Try.prog 4 #[.int .i64 sz, .string first, .slice A n c] w fun e w' => e = .returned (.bool true) ∧ Fr w w' [] := by
  have hd : ¬ (100 : Int) < first.size := by omega
  have hd2 : ¬ (80 : Int) < n := by omega
  have hx : ¬ (sz : Int) < 1 := by omega
  have hx2 : ¬ (64 : Int) < sz := by omega
  go_enter Try.func4, Try.ntmps4
  go_wp2_with (first
      | (go_at_call 7; refine (awake_true _).mono ?_; rintro e w1 ⟨rfl, hf1⟩)
      | (go_at_call 9; refine (newSub_in _ _ h1 h2 hn0 _).mono ?_; rintro e w2 ⟨h, g, vb, rfl, hs2, hg2, hf2, hh, hg, hvb⟩)
      | (go_at_call 18; refine (rnewSub_in _ _ h1 h2 hn0 _).mono ?_; rintro e w3 ⟨rfl, hr3, hf3⟩))
  have HREL0 := Lib.hid (show SubRel w.heap.size h g vb w2.heap.size sz w3 ⟨padB first sz, 0, 0, ⟨#[]⟩, 0, 0, false, false⟩ ⟨List.replicate sz 0, 0, 0, false, 0, 0⟩ ⟨false, 0, 0, []⟩ w2.heap.size from
    ⟨bk_keep hs2 hf3 (by simp), gl_keep hg2 hf3 (by simp) (by simp), ⟨_, hr3, fun q => by cases q⟩, ⟨⟨by simp, h1, h2, Int.le_refl 0, (by show (0 : Int) ≤ 15; omega), Int.le_refl 0, (by show (0 : Int) ≤ 4; omega)⟩, rfl, fun q => (by cases q), fun q => (by cases q), fun q => (by cases q), fun q => (by cases q), fun q => (by cases q), fun q => (by cases q), ⟨by decide, by decide, by decide, by decide⟩, fun q => (by cases q), fun q => (by cases q)⟩, (by have a := hf1.size; have b := hf2.size; omega)⟩)
  have HFB := Lib.hid ((hf1.step hf2).step hf3)
  have L1 := Lib.hid (show w.heap.size ≤ h ∧ w.heap.size ≤ g ∧ w.heap.size ≤ vb ∧ w.heap.size ≤ w2.heap.size by have a := hf1.size; have b := hf2.size; exact ⟨by omega, by omega, by omega, by omega⟩)
  clear hs2 hg2 hr3 hf1 hf2 hf3 hh hg hvb
  generalize w2.heap.size = h2' at *
  go_loopg [83] (n + 1) (fun kq x wr => ∃ k : Nat, Hid (k + kq = n + 1) ∧ k ≤ n ∧ x = .int .i64 k ∧ Hid (∃ x s r cb, SubRel w.heap.size h g vb h2' sz wr x s r cb) ∧ Hid (Fr w wr []))
  case atStart => exact ⟨0, Lib.hid (by omega), by omega, rfl, Lib.hid ⟨_, _, _, _, HREL0.out⟩, HFB⟩
  case round =>
    obtain ⟨k, HK, hkn, rfl, HREL, HFr⟩ := hrel
    by_cases hlt : k < n
    · obtain ⟨b0, o0, rfl, hrg⟩ := hA (by omega)
      obtain ⟨fc, hfc⟩ : ∃ fc, fs[k]? = some fc := ⟨_, List.getElem?_eq_getElem (by omega)⟩
      have HOK := Lib.hid (hok fc (List.mem_of_getElem? hfc))
      have hr0 : w.rangeAt b0 (o0 + k * 19) fc.c.toList := range_flat (L := fs.map (fun x => x.c.toList)) (by
        intro q hq
        obtain ⟨y, _, rfl⟩ := List.mem_map.1 hq
        rfl) hrg (by rw [List.getElem?_map, hfc]; rfl)
      have HRK := Lib.hid (range_keep hr0 HFr.out (by simp))
      have hlt' : (k : Int) < n := by omega
      clear hrg hr0 hfc hl hA hok
      obtain ⟨x, s, r, cb, hrel⟩ := HREL.out
      have HS := Lib.hid hrel.sub
      have HG := Lib.hid hrel.glue
      have HR := Lib.hid hrel.ref
      have HSm := Lib.hid hrel.sim
      have HNw := Lib.hid hrel.new
      clear hrel HREL
      have HD := Lib.hid (show (h2' ≠ h ∧ h2' ≠ g ∧ h2' ≠ vb) ∧ (r.is = true → cb ≠ h ∧ cb ≠ g ∧ cb ≠ vb) from by
        obtain ⟨came0, hB0, hC0⟩ := HR.out
        refine ⟨⟨bk_ne hB0 HS.out (by decide), bk_ne hB0 HG.out.1 (by decide), bk_ne hB0 HG.out.2 (by decide)⟩, fun hi => ?_⟩
        obtain ⟨cc, _, q, _⟩ := hC0 hi
        exact ⟨bk_ne q HS.out (by decide), bk_ne q HG.out.1 (by decide), bk_ne q HG.out.2 (by decide)⟩)
      by_cases h40 : 40 < fc.b.size
      · have h40' : (40 : Int) < fc.b.size := by omega
        go_wp2_with (first
          | ((with_reducible refine gate_op (.load 52 (.tmp 85)) rfl ?_); go_must (refine ev_loadAt 52 (.tmp 85) rfl rfl rfl rfl HRK.out Try.underlying52 rfl size52 rfl ?_))
          | ((with_reducible refine gate_op (.store 52 (.tmp 14) (.tmp 86)) rfl ?_); go_must (refine ev_store 52 (.tmp 14) (.tmp 86) rfl rfl rfl rfl rfl (bk_new _ _) size52 rfl rfl rfl ?_); intro w1 hb1 hf1; have hcx := bk_cell hb1; unfold FC.c at hcx))
        go_ret
        exact ⟨rfl, (HFr.out.alloc _).trans hf1 (by have := HFr.out.size; simp; omega)⟩
      have h40' : ¬ (40 : Int) < fc.b.size := by omega
      clear h40
      by_cases hk0 : fc.k = 0
      · have hk0' : (fc.k == 0) = true := by rw [beq_iff_eq]; exact hk0
        clear hk0
        go_wp2_with (first
          | ((with_reducible refine gate_op (.load 52 (.tmp 85)) rfl ?_); go_must (refine ev_loadAt 52 (.tmp 85) rfl rfl rfl rfl HRK.out Try.underlying52 rfl size52 rfl ?_))
          | ((with_reducible refine gate_op (.store 52 (.tmp 14) (.tmp 86)) rfl ?_); go_must (refine ev_store 52 (.tmp 14) (.tmp 86) rfl rfl rfl rfl rfl (bk_new _ _) size52 rfl rfl rfl ?_); intro w1 hb1 hf1; have hcx := bk_cell hb1; unfold FC.c at hcx; go_must (have F1 := Lib.hid ((Fr.refl wr []).alloc _ |>.trans hf1 (by simp)); have HS1 := Lib.hid (bk_keep HS.out F1.out (by simp))))
          | (go_at_call 15; refine (latch_any h g x _ HS1.out).mono ?_; rintro e w2 ⟨rfl, hs2, hf2⟩; go_must (have F2 := Lib.hid ((F1.out.mono (S := [h]) (by simp)).trans hf2 (by simp)); have HR2 := Lib.hid (ra_keep HR.out F2.out (by simpa using HD.out.1.1) (fun hi => by simpa using (HD.out.2 hi).1))))
          | (go_at_call 19; refine (rlatch_any h2' cb sz r x _ HR2.out).mono ?_; rintro e w4 ⟨rfl, hr4, hf4⟩))
        have F4 := Lib.hid ((F2.out.mono (S := [h, h2']) (by simp)).trans hf4 (by simp))
        have HS4 := Lib.hid (bk_keep hs2 hf4 (by simpa using HD.out.1.1.symm))
        have HG4 := Lib.hid (gl_keep HG.out F4.out (by simp; exact ⟨(bk_ne HS.out HG.out.1 (by decide)).symm, HD.out.1.2.1.symm⟩) (by simp; exact ⟨(bk_ne HS.out HG.out.2 (by decide)).symm, HD.out.1.2.2.symm⟩))
        have HR4 := Lib.hid hr4
        have HF4 := Lib.hid (HFr.out.trans F4.out (by intro i hi; right; have := L1.out; simp at hi; omega))
        have HSim := HSm
        have HNew := HNw
        clear hs2 hf2 hr4 hf4 hb1 hf1 hcx HR2 HS1 F1 F2 F4 HS HG HR
        generalize latched x = x1 at *

        obtain ⟨came4, hB4, hC4⟩ := HR4.out
        have HB4 := Lib.hid hB4
        have HC4 := Lib.hid hC4
        clear hB4 hC4
        obtain ⟨xf, xfi, xfs, xb, xbi, xbs, xwt, xft⟩ := x1
        have e1 : (xf.toList != xf.toList) = false := by simp
        have e2 : (xb.toList != xb.toList) = false := by simp
        have e3 : (xwt != xwt) = false := by simp
        have e4 : (xft != xft) = false := by simp
        have e5 : (xfi != xfi) = false := by simp
        have e6 : (xfs != xfs) = false := by simp
        have e7 : (xbi != xbi) = false := by simp
        have e8 : (xbs != xbs) = false := by simp
        go_wp2_with (first
          | (go_at_call 16; refine (sfront_any h g xf xfi xfs xb xbi xbs xwt xft _ HS4.out).mono ?_; rintro e w5 ⟨rfl, hf5⟩; go_must (have F5 := Lib.hid (HF4.out.step hf5); have HS5 := Lib.hid (show SubAt h g ⟨xf, xfi, xfs, xb, xbi, xbs, xwt, xft⟩ (w5.alloc (.cells #[.int .u16 xfi, .int .u32 xfs] 34)) from bk_alloc (bk_keep HS4.out hf5 (by simp)) _); have HB5 := Lib.hid (bk_alloc (bk_keep HB4.out hf5 (by simp)) (.cells #[.int .u16 xfi, .int .u32 xfs] 34)); have HV5 := Lib.hid (bk_new w5 (.cells #[.int .u16 xfi, .int .u32 xfs] 34)); have F5b := Lib.hid (F5.out.alloc (.cells #[.int .u16 xfi, .int .u32 xfs] 34)); have K5 := Lib.hid (show Fr w4 (w5.alloc (.cells #[.int .u16 xfi, .int .u32 xfs] 34)) [] from hf5.alloc _); clear hf5))
          | (go_at_call 21; refine (waits_any h g xf xfi xfs xb xbi xbs xwt xft _ HS5.out).mono ?_; rintro e w6 ⟨rfl, hf6⟩; go_must (have F6 := Lib.hid (F5b.out.step hf6); have HS6 := Lib.hid (bk_alloc (bk_keep HS5.out hf6 (by simp)) (.cells #[.int .u16 xbi, .int .u32 xbs] 34)); have HB6 := Lib.hid (bk_alloc (bk_keep HB5.out hf6 (by simp)) (.cells #[.int .u16 xbi, .int .u32 xbs] 34)); have HV6 := Lib.hid (bk_alloc (bk_keep HV5.out hf6 (by simp)) (.cells #[.int .u16 xbi, .int .u32 xbs] 34)); have HU6 := Lib.hid (bk_new w6 (.cells #[.int .u16 xbi, .int .u32 xbs] 34)); have F6b := Lib.hid (F6.out.alloc (.cells #[.int .u16 xbi, .int .u32 xbs] 34)); have K6 := Lib.hid (show Fr w4 (w6.alloc (.cells #[.int .u16 xbi, .int .u32 xbs] 34)) [] from (K5.out.step hf6).alloc _); clear hf6)))
        refine start_ (n := 47) (S := fun w' => w'.cell? ⟨h2', 5, none⟩ = some (.string xf) ∧ w'.cell? ⟨h2', 6, none⟩ = some (.string xb) ∧ w'.cell? ⟨h2', 7, none⟩ = some (.int .u16 xfi) ∧ w'.cell? ⟨h2', 8, none⟩ = some (.int .u32 xfs) ∧ w'.cell? ⟨h2', 9, none⟩ = some (.int .u16 xbi) ∧ w'.cell? ⟨h2', 10, none⟩ = some (.int .u32 xbs) ∧ w'.cell? ⟨h2', 11, none⟩ = some (.bool xwt) ∧ w'.cell? ⟨h2', 12, none⟩ = some (.bool xft) ∧ w'.cell? ⟨w5.heap.size, 0, none⟩ = some (.int .u16 xfi) ∧ w'.cell? ⟨w5.heap.size, 1, none⟩ = some (.int .u32 xfs) ∧ w'.cell? ⟨w6.heap.size, 0, none⟩ = some (.int .u16 xbi) ∧ w'.cell? ⟨w6.heap.size, 1, none⟩ = some (.int .u32 xbs)) (ds := []) #[false, false, false, false, false, false, false, false, false, false, false, false, false, false, false, false, false, false, false, false, false, false, false, false, false, false, false, false, false, false, false, false, false, false, false, false, false, false, false, false, false, false, false, false, false, false, false] (by kernel_rfl) rfl rfl ⟨(bk_cell HB6.out 5).trans rfl, (bk_cell HB6.out 6).trans rfl, (bk_cell HB6.out 7).trans rfl, (bk_cell HB6.out 8).trans rfl, (bk_cell HB6.out 9).trans rfl, (bk_cell HB6.out 10).trans rfl, (bk_cell HB6.out 11).trans rfl, (bk_cell HB6.out 12).trans rfl, (bk_cell HV6.out 0).trans rfl, (bk_cell HV6.out 1).trans rfl, (bk_cell HU6.out 0).trans rfl, (bk_cell HU6.out 1).trans rfl⟩ (fun hHeld => ?_)
        refine pure_ (i := 0) (N := some 134) (v := ?_) (a' := ?_) #[true, false, false, false, false, false, false, false, false, false, false, false, false, false, false, false, false, false, false, false, false, false, false, false, false, false, false, false, false, false, false, false, false, false, false, false, false, false, false, false, false, false, false, false, false, false, false] rfl rfl (by kernel_rfl) (fun _ _ _ h => h) (Or.inl ⟨by rfl, ?_⟩) ?_ ?_
        rotate_left
        · intro w'
          go_simp
          with_reducible rfl
        rotate_left
        · simp only [Act.put, List.setIfInBounds_toArray, List.set_cons_zero, List.set_cons_succ, i64_w, i32_w]
          rfl
        refine pure_ (i := 1) (N := some 135) (v := ?_) (a' := ?_) #[true, true, false, false, false, false, false, false, false, false, false, false, false, false, false, false, false, false, false, false, false, false, false, false, false, false, false, false, false, false, false, false, false, false, false, false, false, false, false, false, false, false, false, false, false, false, false] rfl rfl (by kernel_rfl) (fun _ _ _ h => h) (Or.inl ⟨by rfl, ?_⟩) ?_ ?_
        rotate_left
        · intro w'
          go_simp
          with_reducible rfl
        rotate_left
        · simp only [Act.put, List.setIfInBounds_toArray, List.set_cons_zero, List.set_cons_succ, i64_w, i32_w]
          rfl
        refine pure_ (i := 2) (N := some 136) (v := ?_) (a' := ?_) #[true, true, true, false, false, false, false, false, false, false, false, false, false, false, false, false, false, false, false, false, false, false, false, false, false, false, false, false, false, false, false, false, false, false, false, false, false, false, false, false, false, false, false, false, false, false, false] rfl rfl (by kernel_rfl) (fun _ _ _ h => h) (Or.inl ⟨by rfl, ?_⟩) ?_ ?_
        rotate_left
        · intro w'
          go_simp
          with_reducible rfl
        rotate_left
        · simp only [Act.put, List.setIfInBounds_toArray, List.set_cons_zero, List.set_cons_succ, i64_w, i32_w]
          rfl
        refine pure_ (i := 3) (N := some 137) (v := ?_) (a' := ?_) #[true, true, true, true, false, false, false, false, false, false, false, false, false, false, false, false, false, false, false, false, false, false, false, false, false, false, false, false, false, false, false, false, false, false, false, false, false, false, false, false, false, false, false, false, false, false, false] rfl rfl (by kernel_rfl) (fun _ _ _ h => h) (Or.inl ⟨by rfl, ?_⟩) ?_ ?_
        rotate_left
        · intro w'
          go_simp
          with_reducible rfl
        rotate_left
        · simp only [Act.put, List.setIfInBounds_toArray, List.set_cons_zero, List.set_cons_succ, i64_w, i32_w]
          rfl
        refine take_ (i := 4) (N := some 138) (v := ?_) (a' := ?_) #[true, true, true, true, true, false, false, false, false, false, false, false, false, false, false, false, false, false, false, false, false, false, false, false, false, false, false, false, false, false, false, false, false, false, false, false, false, false, false, false, false, false, false, false, false, false, false] rfl rfl (by kernel_rfl) (fun _ _ _ h => h) (Or.inl ⟨by rfl, ?_⟩) hHeld ?_ ?_
        rotate_left
        · rintro w' ⟨s0, s1, s2, s3, s4, s5, s6, s7, s8, s9, s10, s11⟩
          go_simp
          with_reducible rfl
        rotate_left
        · simp only [Act.put, List.setIfInBounds_toArray, List.set_cons_zero, List.set_cons_succ, i64_w, i32_w]
          rfl
        refine pure_ (i := 5) (N := some 139) (v := ?_) (a' := ?_) #[true, true, true, true, true, true, false, false, false, false, false, false, false, false, false, false, false, false, false, false, false, false, false, false, false, false, false, false, false, false, false, false, false, false, false, false, false, false, false, false, false, false, false, false, false, false, false] rfl rfl (by kernel_rfl) (fun _ _ _ h => h) (Or.inl ⟨by rfl, ?_⟩) ?_ ?_
        rotate_left
        · intro w'
          go_simp
          with_reducible rfl
        rotate_left
        · simp only [Act.put, List.setIfInBounds_toArray, List.set_cons_zero, List.set_cons_succ, i64_w, i32_w]
          rfl
        refine pure_ (i := 6) (N := some 140) (v := ?_) (a' := ?_) #[true, true, true, true, true, true, true, false, false, false, false, false, false, false, false, false, false, false, false, false, false, false, false, false, false, false, false, false, false, false, false, false, false, false, false, false, false, false, false, false, false, false, false, false, false, false, false] rfl rfl (by kernel_rfl) (fun _ _ _ h => h) (Or.inl ⟨by rfl, ?_⟩) ?_ ?_
        rotate_left
        · intro w'
          go_simp
          with_reducible rfl
        rotate_left
        · simp only [Act.put, List.setIfInBounds_toArray, List.set_cons_zero, List.set_cons_succ, i64_w, i32_w]
          rfl
        refine pure_ (i := 8) (N := some 142) (v := ?_) (a' := ?_) #[true, true, true, true, true, true, true, false, true, false, false, false, false, false, false, false, false, false, false, false, false, false, false, false, false, false, false, false, false, false, false, false, false, false, false, false, false, false, false, false, false, false, false, false, false, false, false] rfl rfl (by kernel_rfl) (fun _ _ _ h => h) (Or.inl ⟨by rfl, ?_⟩) ?_ ?_
        rotate_left
        · intro w'
          go_simp
          with_reducible rfl
        rotate_left
        · simp only [Act.put, List.setIfInBounds_toArray, List.set_cons_zero, List.set_cons_succ, i64_w, i32_w]
          rfl
        refine pure_ (i := 9) (N := some 143) (v := ?_) (a' := ?_) #[true, true, true, true, true, true, true, false, true, true, false, false, false, false, false, false, false, false, false, false, false, false, false, false, false, false, false, false, false, false, false, false, false, false, false, false, false, false, false, false, false, false, false, false, false, false, false] rfl rfl (by kernel_rfl) (fun _ _ _ h => h) (Or.inl ⟨by rfl, ?_⟩) ?_ ?_
        rotate_left
        · intro w'
          go_simp
          with_reducible rfl
        rotate_left
        · simp only [Act.put, List.setIfInBounds_toArray, List.set_cons_zero, List.set_cons_succ, i64_w, i32_w]
          rfl
        refine pure_ (i := 10) (N := some 144) (v := ?_) (a' := ?_) #[true, true, true, true, true, true, true, false, true, true, true, false, false, false, false, false, false, false, false, false, false, false, false, false, false, false, false, false, false, false, false, false, false, false, false, false, false, false, false, false, false, false, false, false, false, false, false] rfl rfl (by kernel_rfl) (fun _ _ _ h => h) (Or.inl ⟨by rfl, ?_⟩) ?_ ?_
        rotate_left
        · intro w'
          go_simp
          with_reducible rfl
        rotate_left
        · simp only [Act.put, List.setIfInBounds_toArray, List.set_cons_zero, List.set_cons_succ, i64_w, i32_w]
          rfl
        refine take_ (i := 7) (N := some 141) (v := ?_) (a' := ?_) #[true, true, true, true, true, true, true, true, true, true, true, false, false, false, false, false, false, false, false, false, false, false, false, false, false, false, false, false, false, false, false, false, false, false, false, false, false, false, false, false, false, false, false, false, false, false, false] rfl rfl (by kernel_rfl) (fun _ _ _ h => h) (Or.inl ⟨by rfl, ?_⟩) hHeld ?_ ?_
        rotate_left
        · rintro w' ⟨s0, s1, s2, s3, s4, s5, s6, s7, s8, s9, s10, s11⟩
          go_simp
          with_reducible rfl
        rotate_left
        · simp only [Act.put, List.setIfInBounds_toArray, List.set_cons_zero, List.set_cons_succ, i64_w, i32_w]
          rfl
        refine take_ (i := 11) (N := some 145) (v := ?_) (a' := ?_) #[true, true, true, true, true, true, true, true, true, true, true, true, false, false, false, false, false, false, false, false, false, false, false, false, false, false, false, false, false, false, false, false, false, false, false, false, false, false, false, false, false, false, false, false, false, false, false] rfl rfl (by kernel_rfl) (fun _ _ _ h => h) (Or.inl ⟨by rfl, ?_⟩) hHeld ?_ ?_
        rotate_left
        · rintro w' ⟨s0, s1, s2, s3, s4, s5, s6, s7, s8, s9, s10, s11⟩
          go_simp
          with_reducible rfl
        rotate_left
        · simp only [Act.put, List.setIfInBounds_toArray, List.set_cons_zero, List.set_cons_succ, i64_w, i32_w]
          rfl
        refine pure_ (i := 12) (N := some 146) (v := ?_) (a' := ?_) #[true, true, true, true, true, true, true, true, true, true, true, true, true, false, false, false, false, false, false, false, false, false, false, false, false, false, false, false, false, false, false, false, false, false, false, false, false, false, false, false, false, false, false, false, false, false, false] rfl rfl (by kernel_rfl) (fun _ _ _ h => h) (Or.inl ⟨by rfl, ?_⟩) ?_ ?_
        rotate_left
        · intro w'
          go_simp
          with_reducible rfl
        rotate_left
        · simp only [Act.put, List.setIfInBounds_toArray, List.set_cons_zero, List.set_cons_succ, i64_w, i32_w]
          rfl
        refine pure_ (i := 13) (N := some 147) (v := ?_) (a' := ?_) #[true, true, true, true, true, true, true, true, true, true, true, true, true, true, false, false, false, false, false, false, false, false, false, false, false, false, false, false, false, false, false, false, false, false, false, false, false, false, false, false, false, false, false, false, false, false, false] rfl rfl (by kernel_rfl) (fun _ _ _ h => h) (Or.inl ⟨by rfl, ?_⟩) ?_ ?_
        rotate_left
        · intro w'
          go_simp
          with_reducible rfl
        rotate_left
        · simp only [Act.put, List.setIfInBounds_toArray, List.set_cons_zero, List.set_cons_succ, i64_w, i32_w]
          rfl
        refine pure_ (i := 14) (N := some 148) (v := ?_) (a' := ?_) #[true, true, true, true, true, true, true, true, true, true, true, true, true, true, true, false, false, false, false, false, false, false, false, false, false, false, false, false, false, false, false, false, false, false, false, false, false, false, false, false, false, false, false, false, false, false, false] rfl rfl (by kernel_rfl) (fun _ _ _ h => h) (Or.inl ⟨by rfl, ?_⟩) ?_ ?_
        rotate_left
        · intro w'
          go_simp
          with_reducible rfl
        rotate_left
        · simp only [Act.put, List.setIfInBounds_toArray, List.set_cons_zero, List.set_cons_succ, i64_w, i32_w]
          rfl
        refine pure_ (i := 15) (N := some 149) (v := ?_) (a' := ?_) #[true, true, true, true, true, true, true, true, true, true, true, true, true, true, true, true, false, false, false, false, false, false, false, false, false, false, false, false, false, false, false, false, false, false, false, false, false, false, false, false, false, false, false, false, false, false, false] rfl rfl (by kernel_rfl) (fun _ _ _ h => h) (Or.inl ⟨by rfl, ?_⟩) ?_ ?_
        rotate_left
        · intro w'
          go_simp
          with_reducible rfl
        rotate_left
        · simp only [Act.put, List.setIfInBounds_toArray, List.set_cons_zero, List.set_cons_succ, i64_w, i32_w]
          rfl
        refine pure_ (i := 16) (N := some 150) (v := ?_) (a' := ?_) #[true, true, true, true, true, true, true, true, true, true, true, true, true, true, true, true, true, false, false, false, false, false, false, false, false, false, false, false, false, false, false, false, false, false, false, false, false, false, false, false, false, false, false, false, false, false, false] rfl rfl (by kernel_rfl) (fun _ _ _ h => h) (Or.inl ⟨by rfl, ?_⟩) ?_ ?_
        rotate_left
        · intro w'
          go_simp
          with_reducible rfl
        rotate_left
        · simp only [Act.put, List.setIfInBounds_toArray, List.set_cons_zero, List.set_cons_succ, i64_w, i32_w]
          rfl
        refine pure_ (i := 17) (N := some 151) (v := ?_) (a' := ?_) #[true, true, true, true, true, true, true, true, true, true, true, true, true, true, true, true, true, true, false, false, false, false, false, false, false, false, false, false, false, false, false, false, false, false, false, false, false, false, false, false, false, false, false, false, false, false, false] rfl rfl (by kernel_rfl) (fun _ _ _ h => h) (Or.inl ⟨by rfl, ?_⟩) ?_ ?_
        rotate_left
        · intro w'
          go_simp
          with_reducible rfl
        rotate_left
        · simp only [Act.put, List.setIfInBounds_toArray, List.set_cons_zero, List.set_cons_succ, i64_w, i32_w]
          rfl
        refine pure_ (i := 18) (N := some 152) (v := ?_) (a' := ?_) #[true, true, true, true, true, true, true, true, true, true, true, true, true, true, true, true, true, true, true, false, false, false, false, false, false, false, false, false, false, false, false, false, false, false, false, false, false, false, false, false, false, false, false, false, false, false, false] rfl rfl (by kernel_rfl) (fun _ _ _ h => h) (Or.inl ⟨by rfl, ?_⟩) ?_ ?_
        rotate_left
        · intro w'
          go_simp
          with_reducible rfl
        rotate_left
        · simp only [Act.put, List.setIfInBounds_toArray, List.set_cons_zero, List.set_cons_succ, i64_w, i32_w]
          rfl
        refine take_ (i := 19) (N := some 153) (v := ?_) (a' := ?_) #[true, true, true, true, true, true, true, true, true, true, true, true, true, true, true, true, true, true, true, true, false, false, false, false, false, false, false, false, false, false, false, false, false, false, false, false, false, false, false, false, false, false, false, false, false, false, false] rfl rfl (by kernel_rfl) (fun _ _ _ h => h) (Or.inl ⟨by rfl, ?_⟩) hHeld ?_ ?_
        rotate_left
        · rintro w' ⟨s0, s1, s2, s3, s4, s5, s6, s7, s8, s9, s10, s11⟩
          go_simp
          with_reducible rfl
        rotate_left
        · simp only [Act.put, List.setIfInBounds_toArray, List.set_cons_zero, List.set_cons_succ, i64_w, i32_w]
          rfl
        refine pure_ (i := 20) (N := some 154) (v := ?_) (a' := ?_) #[true, true, true, true, true, true, true, true, true, true, true, true, true, true, true, true, true, true, true, true, true, false, false, false, false, false, false, false, false, false, false, false, false, false, false, false, false, false, false, false, false, false, false, false, false, false, false] rfl rfl (by kernel_rfl) (fun _ _ _ h => h) (Or.inl ⟨by rfl, ?_⟩) ?_ ?_
        rotate_left
        · intro w'
          go_simp
          with_reducible rfl
        rotate_left
        · simp only [Act.put, List.setIfInBounds_toArray, List.set_cons_zero, List.set_cons_succ, i64_w, i32_w]
          rfl
        refine pure_ (i := 21) (N := some 155) (v := ?_) (a' := ?_) #[true, true, true, true, true, true, true, true, true, true, true, true, true, true, true, true, true, true, true, true, true, true, false, false, false, false, false, false, false, false, false, false, false, false, false, false, false, false, false, false, false, false, false, false, false, false, false] rfl rfl (by kernel_rfl) (fun _ _ _ h => h) (Or.inl ⟨by rfl, ?_⟩) ?_ ?_
        rotate_left
        · intro w'
          go_simp
          with_reducible rfl
        rotate_left
        · simp only [Act.put, List.setIfInBounds_toArray, List.set_cons_zero, List.set_cons_succ, i64_w, i32_w]
          rfl
        refine pure_ (i := 22) (N := some 156) (v := ?_) (a' := ?_) #[true, true, true, true, true, true, true, true, true, true, true, true, true, true, true, true, true, true, true, true, true, true, true, false, false, false, false, false, false, false, false, false, false, false, false, false, false, false, false, false, false, false, false, false, false, false, false] rfl rfl (by kernel_rfl) (fun _ _ _ h => h) (Or.inl ⟨by rfl, ?_⟩) ?_ ?_
        rotate_left
        · intro w'
          go_simp
          with_reducible rfl
        rotate_left
        · simp only [Act.put, List.setIfInBounds_toArray, List.set_cons_zero, List.set_cons_succ, i64_w, i32_w]
          rfl
        refine pure_ (i := 24) (N := some 158) (v := ?_) (a' := ?_) #[true, true, true, true, true, true, true, true, true, true, true, true, true, true, true, true, true, true, true, true, true, true, true, false, true, false, false, false, false, false, false, false, false, false, false, false, false, false, false, false, false, false, false, false, false, false, false] rfl rfl (by kernel_rfl) (fun _ _ _ h => h) (Or.inl ⟨by rfl, ?_⟩) ?_ ?_
        rotate_left
        · intro w'
          go_simp
          with_reducible rfl
        rotate_left
        · simp only [Act.put, List.setIfInBounds_toArray, List.set_cons_zero, List.set_cons_succ, i64_w, i32_w]
          rfl
        refine pure_ (i := 25) (N := some 159) (v := ?_) (a' := ?_) #[true, true, true, true, true, true, true, true, true, true, true, true, true, true, true, true, true, true, true, true, true, true, true, false, true, true, false, false, false, false, false, false, false, false, false, false, false, false, false, false, false, false, false, false, false, false, false] rfl rfl (by kernel_rfl) (fun _ _ _ h => h) (Or.inl ⟨by rfl, ?_⟩) ?_ ?_
        rotate_left
        · intro w'
          go_simp
          with_reducible rfl
        rotate_left
        · simp only [Act.put, List.setIfInBounds_toArray, List.set_cons_zero, List.set_cons_succ, i64_w, i32_w]
          rfl
        refine pure_ (i := 26) (N := some 160) (v := ?_) (a' := ?_) #[true, true, true, true, true, true, true, true, true, true, true, true, true, true, true, true, true, true, true, true, true, true, true, false, true, true, true, false, false, false, false, false, false, false, false, false, false, false, false, false, false, false, false, false, false, false, false] rfl rfl (by kernel_rfl) (fun _ _ _ h => h) (Or.inl ⟨by rfl, ?_⟩) ?_ ?_
        rotate_left
        · intro w'
          go_simp
          with_reducible rfl
        rotate_left
        · simp only [Act.put, List.setIfInBounds_toArray, List.set_cons_zero, List.set_cons_succ, i64_w, i32_w]
          rfl
        refine take_ (i := 23) (N := some 157) (v := ?_) (a' := ?_) #[true, true, true, true, true, true, true, true, true, true, true, true, true, true, true, true, true, true, true, true, true, true, true, true, true, true, true, false, false, false, false, false, false, false, false, false, false, false, false, false, false, false, false, false, false, false, false] rfl rfl (by kernel_rfl) (fun _ _ _ h => h) (Or.inl ⟨by rfl, ?_⟩) hHeld ?_ ?_
        rotate_left
        · rintro w' ⟨s0, s1, s2, s3, s4, s5, s6, s7, s8, s9, s10, s11⟩
          go_simp
          with_reducible rfl
        rotate_left
        · simp only [Act.put, List.setIfInBounds_toArray, List.set_cons_zero, List.set_cons_succ, i64_w, i32_w]
          rfl
        refine take_ (i := 27) (N := some 161) (v := ?_) (a' := ?_) #[true, true, true, true, true, true, true, true, true, true, true, true, true, true, true, true, true, true, true, true, true, true, true, true, true, true, true, true, false, false, false, false, false, false, false, false, false, false, false, false, false, false, false, false, false, false, false] rfl rfl (by kernel_rfl) (fun _ _ _ h => h) (Or.inl ⟨by rfl, ?_⟩) hHeld ?_ ?_
        rotate_left
        · rintro w' ⟨s0, s1, s2, s3, s4, s5, s6, s7, s8, s9, s10, s11⟩
          go_simp
          with_reducible rfl
        rotate_left
        · simp only [Act.put, List.setIfInBounds_toArray, List.set_cons_zero, List.set_cons_succ, i64_w, i32_w]
          rfl
        refine pure_ (i := 28) (N := some 162) (v := ?_) (a' := ?_) #[true, true, true, true, true, true, true, true, true, true, true, true, true, true, true, true, true, true, true, true, true, true, true, true, true, true, true, true, true, false, false, false, false, false, false, false, false, false, false, false, false, false, false, false, false, false, false] rfl rfl (by kernel_rfl) (fun _ _ _ h => h) (Or.inl ⟨by rfl, ?_⟩) ?_ ?_
        rotate_left
        · intro w'
          go_simp
          with_reducible rfl
        rotate_left
        · simp only [Act.put, List.setIfInBounds_toArray, List.set_cons_zero, List.set_cons_succ, i64_w, i32_w]
          rfl
        refine pure_ (i := 29) (N := some 163) (v := ?_) (a' := ?_) #[true, true, true, true, true, true, true, true, true, true, true, true, true, true, true, true, true, true, true, true, true, true, true, true, true, true, true, true, true, true, false, false, false, false, false, false, false, false, false, false, false, false, false, false, false, false, false] rfl rfl (by kernel_rfl) (fun _ _ _ h => h) (Or.inl ⟨by rfl, ?_⟩) ?_ ?_
        rotate_left
        · intro w'
          go_simp
          with_reducible rfl
        rotate_left
        · simp only [Act.put, List.setIfInBounds_toArray, List.set_cons_zero, List.set_cons_succ, i64_w, i32_w]
          rfl
        refine pure_ (i := 30) (N := some 164) (v := ?_) (a' := ?_) #[true, true, true, true, true, true, true, true, true, true, true, true, true, true, true, true, true, true, true, true, true, true, true, true, true, true, true, true, true, true, true, false, false, false, false, false, false, false, false, false, false, false, false, false, false, false, false] rfl rfl (by kernel_rfl) (fun _ _ _ h => h) (Or.inl ⟨by rfl, ?_⟩) ?_ ?_
        rotate_left
        · intro w'
          go_simp
          with_reducible rfl
        rotate_left
        · simp only [Act.put, List.setIfInBounds_toArray, List.set_cons_zero, List.set_cons_succ, i64_w, i32_w]
          rfl
        refine pure_ (i := 31) (N := some 165) (v := ?_) (a' := ?_) #[true, true, true, true, true, true, true, true, true, true, true, true, true, true, true, true, true, true, true, true, true, true, true, true, true, true, true, true, true, true, true, true, false, false, false, false, false, false, false, false, false, false, false, false, false, false, false] rfl rfl (by kernel_rfl) (fun _ _ _ h => h) (Or.inl ⟨by rfl, ?_⟩) ?_ ?_
        rotate_left
        · intro w'
          go_simp
          with_reducible rfl
        rotate_left
        · simp only [Act.put, List.setIfInBounds_toArray, List.set_cons_zero, List.set_cons_succ, i64_w, i32_w]
          rfl
        refine pure_ (i := 32) (N := some 166) (v := ?_) (a' := ?_) #[true, true, true, true, true, true, true, true, true, true, true, true, true, true, true, true, true, true, true, true, true, true, true, true, true, true, true, true, true, true, true, true, true, false, false, false, false, false, false, false, false, false, false, false, false, false, false] rfl rfl (by kernel_rfl) (fun _ _ _ h => h) (Or.inl ⟨by rfl, ?_⟩) ?_ ?_
        rotate_left
        · intro w'
          go_simp
          with_reducible rfl
        rotate_left
        · simp only [Act.put, List.setIfInBounds_toArray, List.set_cons_zero, List.set_cons_succ, i64_w, i32_w]
          rfl
        refine pure_ (i := 33) (N := some 167) (v := ?_) (a' := ?_) #[true, true, true, true, true, true, true, true, true, true, true, true, true, true, true, true, true, true, true, true, true, true, true, true, true, true, true, true, true, true, true, true, true, true, false, false, false, false, false, false, false, false, false, false, false, false, false] rfl rfl (by kernel_rfl) (fun _ _ _ h => h) (Or.inl ⟨by rfl, ?_⟩) ?_ ?_
        rotate_left
        · intro w'
          go_simp
          with_reducible rfl
        rotate_left
        · simp only [Act.put, List.setIfInBounds_toArray, List.set_cons_zero, List.set_cons_succ, i64_w, i32_w]
          rfl
        refine pure_ (i := 34) (N := some 168) (v := ?_) (a' := ?_) #[true, true, true, true, true, true, true, true, true, true, true, true, true, true, true, true, true, true, true, true, true, true, true, true, true, true, true, true, true, true, true, true, true, true, true, false, false, false, false, false, false, false, false, false, false, false, false] rfl rfl (by kernel_rfl) (fun _ _ _ h => h) (Or.inl ⟨by rfl, ?_⟩) ?_ ?_
        rotate_left
        · intro w'
          go_simp
          with_reducible rfl
        rotate_left
        · simp only [Act.put, List.setIfInBounds_toArray, List.set_cons_zero, List.set_cons_succ, i64_w, i32_w]
          rfl
        refine take_ (i := 35) (N := some 169) (v := ?_) (a' := ?_) #[true, true, true, true, true, true, true, true, true, true, true, true, true, true, true, true, true, true, true, true, true, true, true, true, true, true, true, true, true, true, true, true, true, true, true, true, false, false, false, false, false, false, false, false, false, false, false] rfl rfl (by kernel_rfl) (fun _ _ _ h => h) (Or.inl ⟨by rfl, ?_⟩) hHeld ?_ ?_
        rotate_left
        · rintro w' ⟨s0, s1, s2, s3, s4, s5, s6, s7, s8, s9, s10, s11⟩
          go_simp
          with_reducible rfl
        rotate_left
        · simp only [Act.put, List.setIfInBounds_toArray, List.set_cons_zero, List.set_cons_succ, i64_w, i32_w]
          rfl
        refine pure_ (i := 36) (N := some 170) (v := ?_) (a' := ?_) #[true, true, true, true, true, true, true, true, true, true, true, true, true, true, true, true, true, true, true, true, true, true, true, true, true, true, true, true, true, true, true, true, true, true, true, true, true, false, false, false, false, false, false, false, false, false, false] rfl rfl (by kernel_rfl) (fun _ _ _ h => h) (Or.inl ⟨by rfl, ?_⟩) ?_ ?_
        rotate_left
        · intro w'
          go_simp
          with_reducible rfl
        rotate_left
        · simp only [Act.put, List.setIfInBounds_toArray, List.set_cons_zero, List.set_cons_succ, i64_w, i32_w]
          rfl
        refine pure_ (i := 37) (N := some 171) (v := ?_) (a' := ?_) #[true, true, true, true, true, true, true, true, true, true, true, true, true, true, true, true, true, true, true, true, true, true, true, true, true, true, true, true, true, true, true, true, true, true, true, true, true, true, false, false, false, false, false, false, false, false, false] rfl rfl (by kernel_rfl) (fun _ _ _ h => h) (Or.inl ⟨by rfl, ?_⟩) ?_ ?_
        rotate_left
        · intro w'
          go_simp
          with_reducible rfl
        rotate_left
        · simp only [Act.put, List.setIfInBounds_toArray, List.set_cons_zero, List.set_cons_succ, i64_w, i32_w]
          rfl
        refine pure_ (i := 38) (N := some 172) (v := ?_) (a' := ?_) #[true, true, true, true, true, true, true, true, true, true, true, true, true, true, true, true, true, true, true, true, true, true, true, true, true, true, true, true, true, true, true, true, true, true, true, true, true, true, true, false, false, false, false, false, false, false, false] rfl rfl (by kernel_rfl) (fun _ _ _ h => h) (Or.inl ⟨by rfl, ?_⟩) ?_ ?_
        rotate_left
        · intro w'
          go_simp
          with_reducible rfl
        rotate_left
        · simp only [Act.put, List.setIfInBounds_toArray, List.set_cons_zero, List.set_cons_succ, i64_w, i32_w]
          rfl
        refine pure_ (i := 39) (N := some 173) (v := ?_) (a' := ?_) #[true, true, true, true, true, true, true, true, true, true, true, true, true, true, true, true, true, true, true, true, true, true, true, true, true, true, true, true, true, true, true, true, true, true, true, true, true, true, true, true, false, false, false, false, false, false, false] rfl rfl (by kernel_rfl) (fun _ _ _ h => h) (Or.inl ⟨by rfl, ?_⟩) ?_ ?_
        rotate_left
        · intro w'
          go_simp
          with_reducible rfl
        rotate_left
        · simp only [Act.put, List.setIfInBounds_toArray, List.set_cons_zero, List.set_cons_succ, i64_w, i32_w]
          rfl
        refine pure_ (i := 41) (N := some 175) (v := ?_) (a' := ?_) #[true, true, true, true, true, true, true, true, true, true, true, true, true, true, true, true, true, true, true, true, true, true, true, true, true, true, true, true, true, true, true, true, true, true, true, true, true, true, true, true, false, true, false, false, false, false, false] rfl rfl (by kernel_rfl) (fun _ _ _ h => h) (Or.inl ⟨by rfl, ?_⟩) ?_ ?_
        rotate_left
        · intro w'
          go_simp
          with_reducible rfl
        rotate_left
        · simp only [Act.put, List.setIfInBounds_toArray, List.set_cons_zero, List.set_cons_succ, i64_w, i32_w]
          rfl
        refine pure_ (i := 42) (N := some 176) (v := ?_) (a' := ?_) #[true, true, true, true, true, true, true, true, true, true, true, true, true, true, true, true, true, true, true, true, true, true, true, true, true, true, true, true, true, true, true, true, true, true, true, true, true, true, true, true, false, true, true, false, false, false, false] rfl rfl (by kernel_rfl) (fun _ _ _ h => h) (Or.inl ⟨by rfl, ?_⟩) ?_ ?_
        rotate_left
        · intro w'
          go_simp
          with_reducible rfl
        rotate_left
        · simp only [Act.put, List.setIfInBounds_toArray, List.set_cons_zero, List.set_cons_succ, i64_w, i32_w]
          rfl
        refine pure_ (i := 43) (N := some 177) (v := ?_) (a' := ?_) #[true, true, true, true, true, true, true, true, true, true, true, true, true, true, true, true, true, true, true, true, true, true, true, true, true, true, true, true, true, true, true, true, true, true, true, true, true, true, true, true, false, true, true, true, false, false, false] rfl rfl (by kernel_rfl) (fun _ _ _ h => h) (Or.inl ⟨by rfl, ?_⟩) ?_ ?_
        rotate_left
        · intro w'
          go_simp
          with_reducible rfl
        rotate_left
        · simp only [Act.put, List.setIfInBounds_toArray, List.set_cons_zero, List.set_cons_succ, i64_w, i32_w]
          rfl
        refine take_ (i := 44) (N := some 178) (v := ?_) (a' := ?_) #[true, true, true, true, true, true, true, true, true, true, true, true, true, true, true, true, true, true, true, true, true, true, true, true, true, true, true, true, true, true, true, true, true, true, true, true, true, true, true, true, false, true, true, true, true, false, false] rfl rfl (by kernel_rfl) (fun _ _ _ h => h) (Or.inl ⟨by rfl, ?_⟩) hHeld ?_ ?_
        rotate_left
        · rintro w' ⟨s0, s1, s2, s3, s4, s5, s6, s7, s8, s9, s10, s11⟩
          go_simp
          with_reducible rfl
        rotate_left
        · simp only [Act.put, List.setIfInBounds_toArray, List.set_cons_zero, List.set_cons_succ, i64_w, i32_w]
          rfl
        refine one_ (i := 40) (N := some 174) #[true, true, true, true, true, true, true, true, true, true, true, true, true, true, true, true, true, true, true, true, true, true, true, true, true, true, true, true, true, true, true, true, true, true, true, true, true, true, true, true, true, true, true, true, true, false, false] rfl rfl (by kernel_rfl) (by decide) (fun K hK => ?_)
        refine goes_ Try.func17 (by kernel_rfl) rfl #[.pointer (some ⟨h, 0, none⟩)] (by rfl) rfl rfl (by simp only [List.map_toArray, List.map_cons, List.map_nil]; rfl) ?_
        with_reducible refine (fault_any h g xf xfi xfs xb xbi xbs xwt xft _ (bk_drew HS6.out)).mono ?_
        rintro e w' ⟨rfl, rfl⟩
        refine ⟨_, rfl, ?_⟩
        refine hK.out _ _ ⟨(bk_cell HB6.out 5).trans rfl, (bk_cell HB6.out 6).trans rfl, (bk_cell HB6.out 7).trans rfl, (bk_cell HB6.out 8).trans rfl, (bk_cell HB6.out 9).trans rfl, (bk_cell HB6.out 10).trans rfl, (bk_cell HB6.out 11).trans rfl, (bk_cell HB6.out 12).trans rfl, (bk_cell HV6.out 0).trans rfl, (bk_cell HV6.out 1).trans rfl, (bk_cell HU6.out 0).trans rfl, (bk_cell HU6.out 1).trans rfl⟩ (fun hHeld => ?_)
        clear hK K
        refine norm_ (a' := ?_) ?_ ?_
        rotate_left
        · show Act.put _ (some 174) _ = _
          simp only [Act.put, List.setIfInBounds_toArray, List.set_cons_zero, List.set_cons_succ, i64_w, i32_w]
          rfl
        refine pure_ (i := 45) (N := some 179) (v := ?_) (a' := ?_) #[true, true, true, true, true, true, true, true, true, true, true, true, true, true, true, true, true, true, true, true, true, true, true, true, true, true, true, true, true, true, true, true, true, true, true, true, true, true, true, true, true, true, true, true, true, true, false] rfl rfl (by kernel_rfl) (fun _ _ _ h => h) (Or.inl ⟨by rfl, ?_⟩) ?_ ?_
        rotate_left
        · intro w'
          go_simp
          with_reducible rfl
        rotate_left
        · simp only [Act.put, List.setIfInBounds_toArray, List.set_cons_zero, List.set_cons_succ, i64_w, i32_w]
          rfl
        refine pure_ (i := 46) (N := some 180) (v := ?_) (a' := ?_) #[true, true, true, true, true, true, true, true, true, true, true, true, true, true, true, true, true, true, true, true, true, true, true, true, true, true, true, true, true, true, true, true, true, true, true, true, true, true, true, true, true, true, true, true, true, true, true] rfl rfl (by kernel_rfl) (fun _ _ _ h => h) (Or.inl ⟨by rfl, ?_⟩) ?_ ?_
        rotate_left
        · intro w'
          go_simp
          with_reducible rfl
        rotate_left
        · simp only [Act.put, List.setIfInBounds_toArray, List.set_cons_zero, List.set_cons_succ, i64_w, i32_w]
          rfl
        refine done_ (by kernel_rfl) ?_
        go_wp2_with fail
        go_roundg (gk - 1)
        case measure => have := HK.out; omega
        case rel => exact ⟨k + 1, Lib.hid (by have := HK.out; omega), by omega, by go_num, Lib.hid ⟨⟨xf, xfi, xfs, xb, xbi, xbs, xwt, xft⟩, s, r, cb, ⟨HS6.out, gl_keep HG4.out K6.out.drew (by simp) (by simp), ra_keep HR4.out K6.out.drew (by simp) (by simp), HSim.out, HNew.out⟩⟩, Lib.hid F6b.out.drew⟩
      · have hk0' : (fc.k == 0) = false := by rw [beq_eq_false_iff_ne]; exact hk0
        clear hk0
        obtain ⟨p1, p2⟩ := put_sim HSm.out fc.k fc.vi fc.vs fc.p fc.n fc.b HOK.out.2.2.2
        obtain ⟨r1, hr1⟩ : ∃ r1, r1 = (rput sz r fc.k fc.vi fc.vs fc.p fc.n fc.b).2 := ⟨_, rfl⟩
        obtain ⟨sp, hsp⟩ : ∃ sp, sp = sput sz x s fc.k fc.vi fc.vs fc.p fc.n fc.b := ⟨_, rfl⟩
        have C1 : ∀ W, SubAt h g x W → GlueAt g vb sz s W → Calls Try.prog 12 #[.pointer (some ⟨h, 0, none⟩), .agg fc.c] W fun e w' => e = .returned (.tuple #[.bool sp.1.1, .int .i64 sp.1.2]) ∧ SubAt h g sp.2.1 w' ∧ GlueAt g vb sz sp.2.2 w' ∧ Fr W w' [g, vb, h] := by
          intro W q1 q2
          rw [hsp]
          exact sput_any fc.f1 fc.f2 fc.f3 fc.f4 fc.f5 fc.f6 fc.f7 fc.f8 fc.f9 fc.f10 fc.f11 fc.f12 fc.f13 h g vb sz x s fc.k fc.vi fc.vs fc.p fc.n fc.b W q1 q2 HSm.out.ok HOK.out.1 HOK.out.2.1 HOK.out.2.2.1
        have C2 : ∀ W, RefAt h2' cb sz r x W → Calls Try.prog 20 #[.pointer (some ⟨h2', 0, none⟩), .agg fc.c] W fun e w' => e = .returned (.tuple #[.bool sp.1.1, .int .i64 sp.1.2]) ∧ RefTo h2' cb sz r1 sp.2.1 W w' ∧ Fr W w' (if r.is = true then [h2', cb] else [h2']) := by
          intro W q1
          rw [hsp, hr1]
          exact rsput_any fc HOK.out h2' cb sz x s r HSm.out W q1
        have C3 : Sim sz sp.2.2 r1 := by rw [hsp, hr1]; exact p2
        clear hsp hr1 p1 p2
        obtain ⟨⟨o, e0⟩, x1, s1⟩ := sp
        dsimp only at C1 C2 C3
        have H1 := Lib.hid C1
        have H2 := Lib.hid C2
        have HSim := Lib.hid C3
        clear C1 C2 C3
        have q1 : (o != o) = false := by simp
        have q2 : (e0 != e0) = false := by simp
        obtain ⟨SS, hSS⟩ : ∃ SS, SS = (if r.is = true then [h2', cb] else [h2']) := ⟨_, rfl⟩
        have HSS := Lib.hid (show ∀ i, i ∈ SS → i = h2' ∨ (r.is = true ∧ i = cb) from by
          rw [hSS]
          intro i hi
          split at hi
          · rename_i hr; simp at hi; exact hi.imp id (fun e => ⟨hr, e⟩)
          · simp at hi; exact .inl hi)
        rw [← hSS] at H2
        clear hSS
        go_wp2_with (first
          | ((with_reducible refine gate_op (.load 52 (.tmp 85)) rfl ?_); go_must (refine ev_loadAt 52 (.tmp 85) rfl rfl rfl rfl HRK.out Try.underlying52 rfl size52 rfl ?_))
          | ((with_reducible refine gate_op (.store 52 (.tmp 14) (.tmp 86)) rfl ?_); go_must (refine ev_store 52 (.tmp 14) (.tmp 86) rfl rfl rfl rfl rfl (bk_new _ _) size52 rfl rfl rfl ?_); intro w1 hb1 hf1; have hcx := bk_cell hb1; unfold FC.c at hcx; go_must (have HX1 := Lib.hid hb1; have F1 := Lib.hid ((Fr.refl wr []).alloc _ |>.trans hf1 (by simp)); have HS1 := Lib.hid (bk_keep HS.out F1.out (by simp)); have HG1 := Lib.hid (gl_keep HG.out F1.out (by simp) (by simp)); clear hb1 hf1))
          | ((with_reducible refine gate_op (.load 36 (.tmp 103)) rfl ?_); go_must (refine ev_load 36 (.tmp 103) rfl rfl rfl rfl HX1.out Try.underlying36 rfl size36 rfl ?_))
          | (go_at_call 12; refine (H1.out _ HS1.out HG1.out).mono ?_; rintro e w2 ⟨rfl, hs2, hg2, hf2⟩; go_must (have F2 := Lib.hid ((F1.out.mono (S := [g, vb, h]) (by simp)).trans hf2 (by simp)); have HR2 := Lib.hid (ra_keep HR.out F2.out (by simp [HD.out.1.1, HD.out.1.2.1, HD.out.1.2.2]) (fun hi => by simp [(HD.out.2 hi).1, (HD.out.2 hi).2.1, (HD.out.2 hi).2.2])); have HX2 := Lib.hid (bk_keep HX1.out hf2 (by have a := bk_lt HS.out; have b := bk_lt HG.out.1; have c := bk_lt HG.out.2; simp; omega))))
          | ((with_reducible refine gate_op (.load 36 (.tmp 110)) rfl ?_); go_must (refine ev_load 36 (.tmp 110) rfl rfl rfl rfl HX2.out Try.underlying36 rfl size36 rfl ?_))
          | (go_at_call 20; refine (H2.out _ HR2.out).mono ?_; rintro e w4 ⟨rfl, hr4, hf4⟩))
        have hn1 : h ∉ SS := fun hi => (HSS.out h hi).elim (fun e => HD.out.1.1 e.symm) (fun e => (HD.out.2 e.1).1 e.2.symm)
        have hn2 : g ∉ SS := fun hi => (HSS.out g hi).elim (fun e => HD.out.1.2.1 e.symm) (fun e => (HD.out.2 e.1).2.1 e.2.symm)
        have hn3 : vb ∉ SS := fun hi => (HSS.out vb hi).elim (fun e => HD.out.1.2.2 e.symm) (fun e => (HD.out.2 e.1).2.2 e.2.symm)
        have HS4 := Lib.hid (bk_keep hs2 hf4 hn1)
        have HG4 := Lib.hid (gl_keep hg2 hf4 hn2 hn3)
        obtain ⟨cb1, hr5, hcb1⟩ := hr4
        have HR4 := Lib.hid hr5
        have HF4 := Lib.hid ((HFr.out.trans F2.out (S := []) (by intro i hi; right; have := L1.out; simp at hi; omega)).trans hf4 (by
          intro i hi
          right
          have := L1.out
          rcases HSS.out i hi with e | e
          · omega
          · have := HNw.out
            omega))
        have HNew := Lib.hid (show w.heap.size ≤ cb1 from by
          have h22 := F2.out.size
          have h23 := HFr.out.size
          have := HNw.out
          rcases hcb1 with e | e <;> omega)
        clear hs2 hf2 hf4 hg2 hcx HR2 HS1 HG1 F1 F2 HX1 HX2 HS HG HR hn1 hn2 hn3 hr5 hcb1 q1 q2

        obtain ⟨came4, hB4, hC4⟩ := HR4.out
        have HB4 := Lib.hid hB4
        have HC4 := Lib.hid hC4
        clear hB4 hC4
        obtain ⟨xf, xfi, xfs, xb, xbi, xbs, xwt, xft⟩ := x1
        have e1 : (xf.toList != xf.toList) = false := by simp
        have e2 : (xb.toList != xb.toList) = false := by simp
        have e3 : (xwt != xwt) = false := by simp
        have e4 : (xft != xft) = false := by simp
        have e5 : (xfi != xfi) = false := by simp
        have e6 : (xfs != xfs) = false := by simp
        have e7 : (xbi != xbi) = false := by simp
        have e8 : (xbs != xbs) = false := by simp
        go_wp2_with (first
          | (go_at_call 16; refine (sfront_any h g xf xfi xfs xb xbi xbs xwt xft _ HS4.out).mono ?_; rintro e w5 ⟨rfl, hf5⟩; go_must (have F5 := Lib.hid (HF4.out.step hf5); have HS5 := Lib.hid (show SubAt h g ⟨xf, xfi, xfs, xb, xbi, xbs, xwt, xft⟩ (w5.alloc (.cells #[.int .u16 xfi, .int .u32 xfs] 34)) from bk_alloc (bk_keep HS4.out hf5 (by simp)) _); have HB5 := Lib.hid (bk_alloc (bk_keep HB4.out hf5 (by simp)) (.cells #[.int .u16 xfi, .int .u32 xfs] 34)); have HV5 := Lib.hid (bk_new w5 (.cells #[.int .u16 xfi, .int .u32 xfs] 34)); have F5b := Lib.hid (F5.out.alloc (.cells #[.int .u16 xfi, .int .u32 xfs] 34)); have K5 := Lib.hid (show Fr w4 (w5.alloc (.cells #[.int .u16 xfi, .int .u32 xfs] 34)) [] from hf5.alloc _); clear hf5))
          | (go_at_call 21; refine (waits_any h g xf xfi xfs xb xbi xbs xwt xft _ HS5.out).mono ?_; rintro e w6 ⟨rfl, hf6⟩; go_must (have F6 := Lib.hid (F5b.out.step hf6); have HS6 := Lib.hid (bk_alloc (bk_keep HS5.out hf6 (by simp)) (.cells #[.int .u16 xbi, .int .u32 xbs] 34)); have HB6 := Lib.hid (bk_alloc (bk_keep HB5.out hf6 (by simp)) (.cells #[.int .u16 xbi, .int .u32 xbs] 34)); have HV6 := Lib.hid (bk_alloc (bk_keep HV5.out hf6 (by simp)) (.cells #[.int .u16 xbi, .int .u32 xbs] 34)); have HU6 := Lib.hid (bk_new w6 (.cells #[.int .u16 xbi, .int .u32 xbs] 34)); have F6b := Lib.hid (F6.out.alloc (.cells #[.int .u16 xbi, .int .u32 xbs] 34)); have K6 := Lib.hid (show Fr w4 (w6.alloc (.cells #[.int .u16 xbi, .int .u32 xbs] 34)) [] from (K5.out.step hf6).alloc _); clear hf6)))
        refine start_ (n := 47) (S := fun w' => w'.cell? ⟨h2', 5, none⟩ = some (.string xf) ∧ w'.cell? ⟨h2', 6, none⟩ = some (.string xb) ∧ w'.cell? ⟨h2', 7, none⟩ = some (.int .u16 xfi) ∧ w'.cell? ⟨h2', 8, none⟩ = some (.int .u32 xfs) ∧ w'.cell? ⟨h2', 9, none⟩ = some (.int .u16 xbi) ∧ w'.cell? ⟨h2', 10, none⟩ = some (.int .u32 xbs) ∧ w'.cell? ⟨h2', 11, none⟩ = some (.bool xwt) ∧ w'.cell? ⟨h2', 12, none⟩ = some (.bool xft) ∧ w'.cell? ⟨w5.heap.size, 0, none⟩ = some (.int .u16 xfi) ∧ w'.cell? ⟨w5.heap.size, 1, none⟩ = some (.int .u32 xfs) ∧ w'.cell? ⟨w6.heap.size, 0, none⟩ = some (.int .u16 xbi) ∧ w'.cell? ⟨w6.heap.size, 1, none⟩ = some (.int .u32 xbs)) (ds := []) #[false, false, false, false, false, false, false, false, false, false, false, false, false, false, false, false, false, false, false, false, false, false, false, false, false, false, false, false, false, false, false, false, false, false, false, false, false, false, false, false, false, false, false, false, false, false, false] (by kernel_rfl) rfl rfl ⟨(bk_cell HB6.out 5).trans rfl, (bk_cell HB6.out 6).trans rfl, (bk_cell HB6.out 7).trans rfl, (bk_cell HB6.out 8).trans rfl, (bk_cell HB6.out 9).trans rfl, (bk_cell HB6.out 10).trans rfl, (bk_cell HB6.out 11).trans rfl, (bk_cell HB6.out 12).trans rfl, (bk_cell HV6.out 0).trans rfl, (bk_cell HV6.out 1).trans rfl, (bk_cell HU6.out 0).trans rfl, (bk_cell HU6.out 1).trans rfl⟩ (fun hHeld => ?_)
        refine pure_ (i := 0) (N := some 134) (v := ?_) (a' := ?_) #[true, false, false, false, false, false, false, false, false, false, false, false, false, false, false, false, false, false, false, false, false, false, false, false, false, false, false, false, false, false, false, false, false, false, false, false, false, false, false, false, false, false, false, false, false, false, false] rfl rfl (by kernel_rfl) (fun _ _ _ h => h) (Or.inl ⟨by rfl, ?_⟩) ?_ ?_
        rotate_left
        · intro w'
          go_simp
          with_reducible rfl
        rotate_left
        · simp only [Act.put, List.setIfInBounds_toArray, List.set_cons_zero, List.set_cons_succ, i64_w, i32_w]
          rfl
        refine pure_ (i := 1) (N := some 135) (v := ?_) (a' := ?_) #[true, true, false, false, false, false, false, false, false, false, false, false, false, false, false, false, false, false, false, false, false, false, false, false, false, false, false, false, false, false, false, false, false, false, false, false, false, false, false, false, false, false, false, false, false, false, false] rfl rfl (by kernel_rfl) (fun _ _ _ h => h) (Or.inl ⟨by rfl, ?_⟩) ?_ ?_
        rotate_left
        · intro w'
          go_simp
          with_reducible rfl
        rotate_left
        · simp only [Act.put, List.setIfInBounds_toArray, List.set_cons_zero, List.set_cons_succ, i64_w, i32_w]
          rfl
        refine pure_ (i := 2) (N := some 136) (v := ?_) (a' := ?_) #[true, true, true, false, false, false, false, false, false, false, false, false, false, false, false, false, false, false, false, false, false, false, false, false, false, false, false, false, false, false, false, false, false, false, false, false, false, false, false, false, false, false, false, false, false, false, false] rfl rfl (by kernel_rfl) (fun _ _ _ h => h) (Or.inl ⟨by rfl, ?_⟩) ?_ ?_
        rotate_left
        · intro w'
          go_simp
          with_reducible rfl
        rotate_left
        · simp only [Act.put, List.setIfInBounds_toArray, List.set_cons_zero, List.set_cons_succ, i64_w, i32_w]
          rfl
        refine pure_ (i := 3) (N := some 137) (v := ?_) (a' := ?_) #[true, true, true, true, false, false, false, false, false, false, false, false, false, false, false, false, false, false, false, false, false, false, false, false, false, false, false, false, false, false, false, false, false, false, false, false, false, false, false, false, false, false, false, false, false, false, false] rfl rfl (by kernel_rfl) (fun _ _ _ h => h) (Or.inl ⟨by rfl, ?_⟩) ?_ ?_
        rotate_left
        · intro w'
          go_simp
          with_reducible rfl
        rotate_left
        · simp only [Act.put, List.setIfInBounds_toArray, List.set_cons_zero, List.set_cons_succ, i64_w, i32_w]
          rfl
        refine take_ (i := 4) (N := some 138) (v := ?_) (a' := ?_) #[true, true, true, true, true, false, false, false, false, false, false, false, false, false, false, false, false, false, false, false, false, false, false, false, false, false, false, false, false, false, false, false, false, false, false, false, false, false, false, false, false, false, false, false, false, false, false] rfl rfl (by kernel_rfl) (fun _ _ _ h => h) (Or.inl ⟨by rfl, ?_⟩) hHeld ?_ ?_
        rotate_left
        · rintro w' ⟨s0, s1, s2, s3, s4, s5, s6, s7, s8, s9, s10, s11⟩
          go_simp
          with_reducible rfl
        rotate_left
        · simp only [Act.put, List.setIfInBounds_toArray, List.set_cons_zero, List.set_cons_succ, i64_w, i32_w]
          rfl
        refine pure_ (i := 5) (N := some 139) (v := ?_) (a' := ?_) #[true, true, true, true, true, true, false, false, false, false, false, false, false, false, false, false, false, false, false, false, false, false, false, false, false, false, false, false, false, false, false, false, false, false, false, false, false, false, false, false, false, false, false, false, false, false, false] rfl rfl (by kernel_rfl) (fun _ _ _ h => h) (Or.inl ⟨by rfl, ?_⟩) ?_ ?_
        rotate_left
        · intro w'
          go_simp
          with_reducible rfl
        rotate_left
        · simp only [Act.put, List.setIfInBounds_toArray, List.set_cons_zero, List.set_cons_succ, i64_w, i32_w]
          rfl
        refine pure_ (i := 6) (N := some 140) (v := ?_) (a' := ?_) #[true, true, true, true, true, true, true, false, false, false, false, false, false, false, false, false, false, false, false, false, false, false, false, false, false, false, false, false, false, false, false, false, false, false, false, false, false, false, false, false, false, false, false, false, false, false, false] rfl rfl (by kernel_rfl) (fun _ _ _ h => h) (Or.inl ⟨by rfl, ?_⟩) ?_ ?_
        rotate_left
        · intro w'
          go_simp
          with_reducible rfl
        rotate_left
        · simp only [Act.put, List.setIfInBounds_toArray, List.set_cons_zero, List.set_cons_succ, i64_w, i32_w]
          rfl
        refine pure_ (i := 8) (N := some 142) (v := ?_) (a' := ?_) #[true, true, true, true, true, true, true, false, true, false, false, false, false, false, false, false, false, false, false, false, false, false, false, false, false, false, false, false, false, false, false, false, false, false, false, false, false, false, false, false, false, false, false, false, false, false, false] rfl rfl (by kernel_rfl) (fun _ _ _ h => h) (Or.inl ⟨by rfl, ?_⟩) ?_ ?_
        rotate_left
        · intro w'
          go_simp
          with_reducible rfl
        rotate_left
        · simp only [Act.put, List.setIfInBounds_toArray, List.set_cons_zero, List.set_cons_succ, i64_w, i32_w]
          rfl
        refine pure_ (i := 9) (N := some 143) (v := ?_) (a' := ?_) #[true, true, true, true, true, true, true, false, true, true, false, false, false, false, false, false, false, false, false, false, false, false, false, false, false, false, false, false, false, false, false, false, false, false, false, false, false, false, false, false, false, false, false, false, false, false, false] rfl rfl (by kernel_rfl) (fun _ _ _ h => h) (Or.inl ⟨by rfl, ?_⟩) ?_ ?_
        rotate_left
        · intro w'
          go_simp
          with_reducible rfl
        rotate_left
        · simp only [Act.put, List.setIfInBounds_toArray, List.set_cons_zero, List.set_cons_succ, i64_w, i32_w]
          rfl
        refine pure_ (i := 10) (N := some 144) (v := ?_) (a' := ?_) #[true, true, true, true, true, true, true, false, true, true, true, false, false, false, false, false, false, false, false, false, false, false, false, false, false, false, false, false, false, false, false, false, false, false, false, false, false, false, false, false, false, false, false, false, false, false, false] rfl rfl (by kernel_rfl) (fun _ _ _ h => h) (Or.inl ⟨by rfl, ?_⟩) ?_ ?_
        rotate_left
        · intro w'
          go_simp
          with_reducible rfl
        rotate_left
        · simp only [Act.put, List.setIfInBounds_toArray, List.set_cons_zero, List.set_cons_succ, i64_w, i32_w]
          rfl
        refine take_ (i := 7) (N := some 141) (v := ?_) (a' := ?_) #[true, true, true, true, true, true, true, true, true, true, true, false, false, false, false, false, false, false, false, false, false, false, false, false, false, false, false, false, false, false, false, false, false, false, false, false, false, false, false, false, false, false, false, false, false, false, false] rfl rfl (by kernel_rfl) (fun _ _ _ h => h) (Or.inl ⟨by rfl, ?_⟩) hHeld ?_ ?_
        rotate_left
        · rintro w' ⟨s0, s1, s2, s3, s4, s5, s6, s7, s8, s9, s10, s11⟩
          go_simp
          with_reducible rfl
        rotate_left
        · simp only [Act.put, List.setIfInBounds_toArray, List.set_cons_zero, List.set_cons_succ, i64_w, i32_w]
          rfl
        refine take_ (i := 11) (N := some 145) (v := ?_) (a' := ?_) #[true, true, true, true, true, true, true, true, true, true, true, true, false, false, false, false, false, false, false, false, false, false, false, false, false, false, false, false, false, false, false, false, false, false, false, false, false, false, false, false, false, false, false, false, false, false, false] rfl rfl (by kernel_rfl) (fun _ _ _ h => h) (Or.inl ⟨by rfl, ?_⟩) hHeld ?_ ?_
        rotate_left
        · rintro w' ⟨s0, s1, s2, s3, s4, s5, s6, s7, s8, s9, s10, s11⟩
          go_simp
          with_reducible rfl
        rotate_left
        · simp only [Act.put, List.setIfInBounds_toArray, List.set_cons_zero, List.set_cons_succ, i64_w, i32_w]
          rfl
        refine pure_ (i := 12) (N := some 146) (v := ?_) (a' := ?_) #[true, true, true, true, true, true, true, true, true, true, true, true, true, false, false, false, false, false, false, false, false, false, false, false, false, false, false, false, false, false, false, false, false, false, false, false, false, false, false, false, false, false, false, false, false, false, false] rfl rfl (by kernel_rfl) (fun _ _ _ h => h) (Or.inl ⟨by rfl, ?_⟩) ?_ ?_
        rotate_left
        · intro w'
          go_simp
          with_reducible rfl
        rotate_left
        · simp only [Act.put, List.setIfInBounds_toArray, List.set_cons_zero, List.set_cons_succ, i64_w, i32_w]
          rfl
        refine pure_ (i := 13) (N := some 147) (v := ?_) (a' := ?_) #[true, true, true, true, true, true, true, true, true, true, true, true, true, true, false, false, false, false, false, false, false, false, false, false, false, false, false, false, false, false, false, false, false, false, false, false, false, false, false, false, false, false, false, false, false, false, false] rfl rfl (by kernel_rfl) (fun _ _ _ h => h) (Or.inl ⟨by rfl, ?_⟩) ?_ ?_
        rotate_left
        · intro w'
          go_simp
          with_reducible rfl
        rotate_left
        · simp only [Act.put, List.setIfInBounds_toArray, List.set_cons_zero, List.set_cons_succ, i64_w, i32_w]
          rfl
        refine pure_ (i := 14) (N := some 148) (v := ?_) (a' := ?_) #[true, true, true, true, true, true, true, true, true, true, true, true, true, true, true, false, false, false, false, false, false, false, false, false, false, false, false, false, false, false, false, false, false, false, false, false, false, false, false, false, false, false, false, false, false, false, false] rfl rfl (by kernel_rfl) (fun _ _ _ h => h) (Or.inl ⟨by rfl, ?_⟩) ?_ ?_
        rotate_left
        · intro w'
          go_simp
          with_reducible rfl
        rotate_left
        · simp only [Act.put, List.setIfInBounds_toArray, List.set_cons_zero, List.set_cons_succ, i64_w, i32_w]
          rfl
        refine pure_ (i := 15) (N := some 149) (v := ?_) (a' := ?_) #[true, true, true, true, true, true, true, true, true, true, true, true, true, true, true, true, false, false, false, false, false, false, false, false, false, false, false, false, false, false, false, false, false, false, false, false, false, false, false, false, false, false, false, false, false, false, false] rfl rfl (by kernel_rfl) (fun _ _ _ h => h) (Or.inl ⟨by rfl, ?_⟩) ?_ ?_
        rotate_left
        · intro w'
          go_simp
          with_reducible rfl
        rotate_left
        · simp only [Act.put, List.setIfInBounds_toArray, List.set_cons_zero, List.set_cons_succ, i64_w, i32_w]
          rfl
        refine pure_ (i := 16) (N := some 150) (v := ?_) (a' := ?_) #[true, true, true, true, true, true, true, true, true, true, true, true, true, true, true, true, true, false, false, false, false, false, false, false, false, false, false, false, false, false, false, false, false, false, false, false, false, false, false, false, false, false, false, false, false, false, false] rfl rfl (by kernel_rfl) (fun _ _ _ h => h) (Or.inl ⟨by rfl, ?_⟩) ?_ ?_
        rotate_left
        · intro w'
          go_simp
          with_reducible rfl
        rotate_left
        · simp only [Act.put, List.setIfInBounds_toArray, List.set_cons_zero, List.set_cons_succ, i64_w, i32_w]
          rfl
        refine pure_ (i := 17) (N := some 151) (v := ?_) (a' := ?_) #[true, true, true, true, true, true, true, true, true, true, true, true, true, true, true, true, true, true, false, false, false, false, false, false, false, false, false, false, false, false, false, false, false, false, false, false, false, false, false, false, false, false, false, false, false, false, false] rfl rfl (by kernel_rfl) (fun _ _ _ h => h) (Or.inl ⟨by rfl, ?_⟩) ?_ ?_
        rotate_left
        · intro w'
          go_simp
          with_reducible rfl
        rotate_left
        · simp only [Act.put, List.setIfInBounds_toArray, List.set_cons_zero, List.set_cons_succ, i64_w, i32_w]
          rfl
        refine pure_ (i := 18) (N := some 152) (v := ?_) (a' := ?_) #[true, true, true, true, true, true, true, true, true, true, true, true, true, true, true, true, true, true, true, false, false, false, false, false, false, false, false, false, false, false, false, false, false, false, false, false, false, false, false, false, false, false, false, false, false, false, false] rfl rfl (by kernel_rfl) (fun _ _ _ h => h) (Or.inl ⟨by rfl, ?_⟩) ?_ ?_
        rotate_left
        · intro w'
          go_simp
          with_reducible rfl
        rotate_left
        · simp only [Act.put, List.setIfInBounds_toArray, List.set_cons_zero, List.set_cons_succ, i64_w, i32_w]
          rfl
        refine take_ (i := 19) (N := some 153) (v := ?_) (a' := ?_) #[true, true, true, true, true, true, true, true, true, true, true, true, true, true, true, true, true, true, true, true, false, false, false, false, false, false, false, false, false, false, false, false, false, false, false, false, false, false, false, false, false, false, false, false, false, false, false] rfl rfl (by kernel_rfl) (fun _ _ _ h => h) (Or.inl ⟨by rfl, ?_⟩) hHeld ?_ ?_
        rotate_left
        · rintro w' ⟨s0, s1, s2, s3, s4, s5, s6, s7, s8, s9, s10, s11⟩
          go_simp
          with_reducible rfl
        rotate_left
        · simp only [Act.put, List.setIfInBounds_toArray, List.set_cons_zero, List.set_cons_succ, i64_w, i32_w]
          rfl
        refine pure_ (i := 20) (N := some 154) (v := ?_) (a' := ?_) #[true, true, true, true, true, true, true, true, true, true, true, true, true, true, true, true, true, true, true, true, true, false, false, false, false, false, false, false, false, false, false, false, false, false, false, false, false, false, false, false, false, false, false, false, false, false, false] rfl rfl (by kernel_rfl) (fun _ _ _ h => h) (Or.inl ⟨by rfl, ?_⟩) ?_ ?_
        rotate_left
        · intro w'
          go_simp
          with_reducible rfl
        rotate_left
        · simp only [Act.put, List.setIfInBounds_toArray, List.set_cons_zero, List.set_cons_succ, i64_w, i32_w]
          rfl
        refine pure_ (i := 21) (N := some 155) (v := ?_) (a' := ?_) #[true, true, true, true, true, true, true, true, true, true, true, true, true, true, true, true, true, true, true, true, true, true, false, false, false, false, false, false, false, false, false, false, false, false, false, false, false, false, false, false, false, false, false, false, false, false, false] rfl rfl (by kernel_rfl) (fun _ _ _ h => h) (Or.inl ⟨by rfl, ?_⟩) ?_ ?_
        rotate_left
        · intro w'
          go_simp
          with_reducible rfl
        rotate_left
        · simp only [Act.put, List.setIfInBounds_toArray, List.set_cons_zero, List.set_cons_succ, i64_w, i32_w]
          rfl
        refine pure_ (i := 22) (N := some 156) (v := ?_) (a' := ?_) #[true, true, true, true, true, true, true, true, true, true, true, true, true, true, true, true, true, true, true, true, true, true, true, false, false, false, false, false, false, false, false, false, false, false, false, false, false, false, false, false, false, false, false, false, false, false, false] rfl rfl (by kernel_rfl) (fun _ _ _ h => h) (Or.inl ⟨by rfl, ?_⟩) ?_ ?_
        rotate_left
        · intro w'
          go_simp
          with_reducible rfl
        rotate_left
        · simp only [Act.put, List.setIfInBounds_toArray, List.set_cons_zero, List.set_cons_succ, i64_w, i32_w]
          rfl
        refine pure_ (i := 24) (N := some 158) (v := ?_) (a' := ?_) #[true, true, true, true, true, true, true, true, true, true, true, true, true, true, true, true, true, true, true, true, true, true, true, false, true, false, false, false, false, false, false, false, false, false, false, false, false, false, false, false, false, false, false, false, false, false, false] rfl rfl (by kernel_rfl) (fun _ _ _ h => h) (Or.inl ⟨by rfl, ?_⟩) ?_ ?_
        rotate_left
        · intro w'
          go_simp
          with_reducible rfl
        rotate_left
        · simp only [Act.put, List.setIfInBounds_toArray, List.set_cons_zero, List.set_cons_succ, i64_w, i32_w]
          rfl
        refine pure_ (i := 25) (N := some 159) (v := ?_) (a' := ?_) #[true, true, true, true, true, true, true, true, true, true, true, true, true, true, true, true, true, true, true, true, true, true, true, false, true, true, false, false, false, false, false, false, false, false, false, false, false, false, false, false, false, false, false, false, false, false, false] rfl rfl (by kernel_rfl) (fun _ _ _ h => h) (Or.inl ⟨by rfl, ?_⟩) ?_ ?_
        rotate_left
        · intro w'
          go_simp
          with_reducible rfl
        rotate_left
        · simp only [Act.put, List.setIfInBounds_toArray, List.set_cons_zero, List.set_cons_succ, i64_w, i32_w]
          rfl
        refine pure_ (i := 26) (N := some 160) (v := ?_) (a' := ?_) #[true, true, true, true, true, true, true, true, true, true, true, true, true, true, true, true, true, true, true, true, true, true, true, false, true, true, true, false, false, false, false, false, false, false, false, false, false, false, false, false, false, false, false, false, false, false, false] rfl rfl (by kernel_rfl) (fun _ _ _ h => h) (Or.inl ⟨by rfl, ?_⟩) ?_ ?_
        rotate_left
        · intro w'
          go_simp
          with_reducible rfl
        rotate_left
        · simp only [Act.put, List.setIfInBounds_toArray, List.set_cons_zero, List.set_cons_succ, i64_w, i32_w]
          rfl
        refine take_ (i := 23) (N := some 157) (v := ?_) (a' := ?_) #[true, true, true, true, true, true, true, true, true, true, true, true, true, true, true, true, true, true, true, true, true, true, true, true, true, true, true, false, false, false, false, false, false, false, false, false, false, false, false, false, false, false, false, false, false, false, false] rfl rfl (by kernel_rfl) (fun _ _ _ h => h) (Or.inl ⟨by rfl, ?_⟩) hHeld ?_ ?_
        rotate_left
        · rintro w' ⟨s0, s1, s2, s3, s4, s5, s6, s7, s8, s9, s10, s11⟩
          go_simp
          with_reducible rfl
        rotate_left
        · simp only [Act.put, List.setIfInBounds_toArray, List.set_cons_zero, List.set_cons_succ, i64_w, i32_w]
          rfl
        refine take_ (i := 27) (N := some 161) (v := ?_) (a' := ?_) #[true, true, true, true, true, true, true, true, true, true, true, true, true, true, true, true, true, true, true, true, true, true, true, true, true, true, true, true, false, false, false, false, false, false, false, false, false, false, false, false, false, false, false, false, false, false, false] rfl rfl (by kernel_rfl) (fun _ _ _ h => h) (Or.inl ⟨by rfl, ?_⟩) hHeld ?_ ?_
        rotate_left
        · rintro w' ⟨s0, s1, s2, s3, s4, s5, s6, s7, s8, s9, s10, s11⟩
          go_simp
          with_reducible rfl
        rotate_left
        · simp only [Act.put, List.setIfInBounds_toArray, List.set_cons_zero, List.set_cons_succ, i64_w, i32_w]
          rfl
        refine pure_ (i := 28) (N := some 162) (v := ?_) (a' := ?_) #[true, true, true, true, true, true, true, true, true, true, true, true, true, true, true, true, true, true, true, true, true, true, true, true, true, true, true, true, true, false, false, false, false, false, false, false, false, false, false, false, false, false, false, false, false, false, false] rfl rfl (by kernel_rfl) (fun _ _ _ h => h) (Or.inl ⟨by rfl, ?_⟩) ?_ ?_
        rotate_left
        · intro w'
          go_simp
          with_reducible rfl
        rotate_left
        · simp only [Act.put, List.setIfInBounds_toArray, List.set_cons_zero, List.set_cons_succ, i64_w, i32_w]
          rfl
        refine pure_ (i := 29) (N := some 163) (v := ?_) (a' := ?_) #[true, true, true, true, true, true, true, true, true, true, true, true, true, true, true, true, true, true, true, true, true, true, true, true, true, true, true, true, true, true, false, false, false, false, false, false, false, false, false, false, false, false, false, false, false, false, false] rfl rfl (by kernel_rfl) (fun _ _ _ h => h) (Or.inl ⟨by rfl, ?_⟩) ?_ ?_
        rotate_left
        · intro w'
          go_simp
          with_reducible rfl
        rotate_left
        · simp only [Act.put, List.setIfInBounds_toArray, List.set_cons_zero, List.set_cons_succ, i64_w, i32_w]
          rfl
        refine pure_ (i := 30) (N := some 164) (v := ?_) (a' := ?_) #[true, true, true, true, true, true, true, true, true, true, true, true, true, true, true, true, true, true, true, true, true, true, true, true, true, true, true, true, true, true, true, false, false, false, false, false, false, false, false, false, false, false, false, false, false, false, false] rfl rfl (by kernel_rfl) (fun _ _ _ h => h) (Or.inl ⟨by rfl, ?_⟩) ?_ ?_
        rotate_left
        · intro w'
          go_simp
          with_reducible rfl
        rotate_left
        · simp only [Act.put, List.setIfInBounds_toArray, List.set_cons_zero, List.set_cons_succ, i64_w, i32_w]
          rfl
        refine pure_ (i := 31) (N := some 165) (v := ?_) (a' := ?_) #[true, true, true, true, true, true, true, true, true, true, true, true, true, true, true, true, true, true, true, true, true, true, true, true, true, true, true, true, true, true, true, true, false, false, false, false, false, false, false, false, false, false, false, false, false, false, false] rfl rfl (by kernel_rfl) (fun _ _ _ h => h) (Or.inl ⟨by rfl, ?_⟩) ?_ ?_
        rotate_left
        · intro w'
          go_simp
          with_reducible rfl
        rotate_left
        · simp only [Act.put, List.setIfInBounds_toArray, List.set_cons_zero, List.set_cons_succ, i64_w, i32_w]
          rfl
        refine pure_ (i := 32) (N := some 166) (v := ?_) (a' := ?_) #[true, true, true, true, true, true, true, true, true, true, true, true, true, true, true, true, true, true, true, true, true, true, true, true, true, true, true, true, true, true, true, true, true, false, false, false, false, false, false, false, false, false, false, false, false, false, false] rfl rfl (by kernel_rfl) (fun _ _ _ h => h) (Or.inl ⟨by rfl, ?_⟩) ?_ ?_
        rotate_left
        · intro w'
          go_simp
          with_reducible rfl
        rotate_left
        · simp only [Act.put, List.setIfInBounds_toArray, List.set_cons_zero, List.set_cons_succ, i64_w, i32_w]
          rfl
        refine pure_ (i := 33) (N := some 167) (v := ?_) (a' := ?_) #[true, true, true, true, true, true, true, true, true, true, true, true, true, true, true, true, true, true, true, true, true, true, true, true, true, true, true, true, true, true, true, true, true, true, false, false, false, false, false, false, false, false, false, false, false, false, false] rfl rfl (by kernel_rfl) (fun _ _ _ h => h) (Or.inl ⟨by rfl, ?_⟩) ?_ ?_
        rotate_left
        · intro w'
          go_simp
          with_reducible rfl
        rotate_left
        · simp only [Act.put, List.setIfInBounds_toArray, List.set_cons_zero, List.set_cons_succ, i64_w, i32_w]
          rfl
        refine pure_ (i := 34) (N := some 168) (v := ?_) (a' := ?_) #[true, true, true, true, true, true, true, true, true, true, true, true, true, true, true, true, true, true, true, true, true, true, true, true, true, true, true, true, true, true, true, true, true, true, true, false, false, false, false, false, false, false, false, false, false, false, false] rfl rfl (by kernel_rfl) (fun _ _ _ h => h) (Or.inl ⟨by rfl, ?_⟩) ?_ ?_
        rotate_left
        · intro w'
          go_simp
          with_reducible rfl
        rotate_left
        · simp only [Act.put, List.setIfInBounds_toArray, List.set_cons_zero, List.set_cons_succ, i64_w, i32_w]
          rfl
        refine take_ (i := 35) (N := some 169) (v := ?_) (a' := ?_) #[true, true, true, true, true, true, true, true, true, true, true, true, true, true, true, true, true, true, true, true, true, true, true, true, true, true, true, true, true, true, true, true, true, true, true, true, false, false, false, false, false, false, false, false, false, false, false] rfl rfl (by kernel_rfl) (fun _ _ _ h => h) (Or.inl ⟨by rfl, ?_⟩) hHeld ?_ ?_
        rotate_left
        · rintro w' ⟨s0, s1, s2, s3, s4, s5, s6, s7, s8, s9, s10, s11⟩
          go_simp
          with_reducible rfl
        rotate_left
        · simp only [Act.put, List.setIfInBounds_toArray, List.set_cons_zero, List.set_cons_succ, i64_w, i32_w]
          rfl
        refine pure_ (i := 36) (N := some 170) (v := ?_) (a' := ?_) #[true, true, true, true, true, true, true, true, true, true, true, true, true, true, true, true, true, true, true, true, true, true, true, true, true, true, true, true, true, true, true, true, true, true, true, true, true, false, false, false, false, false, false, false, false, false, false] rfl rfl (by kernel_rfl) (fun _ _ _ h => h) (Or.inl ⟨by rfl, ?_⟩) ?_ ?_
        rotate_left
        · intro w'
          go_simp
          with_reducible rfl
        rotate_left
        · simp only [Act.put, List.setIfInBounds_toArray, List.set_cons_zero, List.set_cons_succ, i64_w, i32_w]
          rfl
        refine pure_ (i := 37) (N := some 171) (v := ?_) (a' := ?_) #[true, true, true, true, true, true, true, true, true, true, true, true, true, true, true, true, true, true, true, true, true, true, true, true, true, true, true, true, true, true, true, true, true, true, true, true, true, true, false, false, false, false, false, false, false, false, false] rfl rfl (by kernel_rfl) (fun _ _ _ h => h) (Or.inl ⟨by rfl, ?_⟩) ?_ ?_
        rotate_left
        · intro w'
          go_simp
          with_reducible rfl
        rotate_left
        · simp only [Act.put, List.setIfInBounds_toArray, List.set_cons_zero, List.set_cons_succ, i64_w, i32_w]
          rfl
        refine pure_ (i := 38) (N := some 172) (v := ?_) (a' := ?_) #[true, true, true, true, true, true, true, true, true, true, true, true, true, true, true, true, true, true, true, true, true, true, true, true, true, true, true, true, true, true, true, true, true, true, true, true, true, true, true, false, false, false, false, false, false, false, false] rfl rfl (by kernel_rfl) (fun _ _ _ h => h) (Or.inl ⟨by rfl, ?_⟩) ?_ ?_
        rotate_left
        · intro w'
          go_simp
          with_reducible rfl
        rotate_left
        · simp only [Act.put, List.setIfInBounds_toArray, List.set_cons_zero, List.set_cons_succ, i64_w, i32_w]
          rfl
        refine pure_ (i := 39) (N := some 173) (v := ?_) (a' := ?_) #[true, true, true, true, true, true, true, true, true, true, true, true, true, true, true, true, true, true, true, true, true, true, true, true, true, true, true, true, true, true, true, true, true, true, true, true, true, true, true, true, false, false, false, false, false, false, false] rfl rfl (by kernel_rfl) (fun _ _ _ h => h) (Or.inl ⟨by rfl, ?_⟩) ?_ ?_
        rotate_left
        · intro w'
          go_simp
          with_reducible rfl
        rotate_left
        · simp only [Act.put, List.setIfInBounds_toArray, List.set_cons_zero, List.set_cons_succ, i64_w, i32_w]
          rfl
        refine pure_ (i := 41) (N := some 175) (v := ?_) (a' := ?_) #[true, true, true, true, true, true, true, true, true, true, true, true, true, true, true, true, true, true, true, true, true, true, true, true, true, true, true, true, true, true, true, true, true, true, true, true, true, true, true, true, false, true, false, false, false, false, false] rfl rfl (by kernel_rfl) (fun _ _ _ h => h) (Or.inl ⟨by rfl, ?_⟩) ?_ ?_
        rotate_left
        · intro w'
          go_simp
          with_reducible rfl
        rotate_left
        · simp only [Act.put, List.setIfInBounds_toArray, List.set_cons_zero, List.set_cons_succ, i64_w, i32_w]
          rfl
        refine pure_ (i := 42) (N := some 176) (v := ?_) (a' := ?_) #[true, true, true, true, true, true, true, true, true, true, true, true, true, true, true, true, true, true, true, true, true, true, true, true, true, true, true, true, true, true, true, true, true, true, true, true, true, true, true, true, false, true, true, false, false, false, false] rfl rfl (by kernel_rfl) (fun _ _ _ h => h) (Or.inl ⟨by rfl, ?_⟩) ?_ ?_
        rotate_left
        · intro w'
          go_simp
          with_reducible rfl
        rotate_left
        · simp only [Act.put, List.setIfInBounds_toArray, List.set_cons_zero, List.set_cons_succ, i64_w, i32_w]
          rfl
        refine pure_ (i := 43) (N := some 177) (v := ?_) (a' := ?_) #[true, true, true, true, true, true, true, true, true, true, true, true, true, true, true, true, true, true, true, true, true, true, true, true, true, true, true, true, true, true, true, true, true, true, true, true, true, true, true, true, false, true, true, true, false, false, false] rfl rfl (by kernel_rfl) (fun _ _ _ h => h) (Or.inl ⟨by rfl, ?_⟩) ?_ ?_
        rotate_left
        · intro w'
          go_simp
          with_reducible rfl
        rotate_left
        · simp only [Act.put, List.setIfInBounds_toArray, List.set_cons_zero, List.set_cons_succ, i64_w, i32_w]
          rfl
        refine take_ (i := 44) (N := some 178) (v := ?_) (a' := ?_) #[true, true, true, true, true, true, true, true, true, true, true, true, true, true, true, true, true, true, true, true, true, true, true, true, true, true, true, true, true, true, true, true, true, true, true, true, true, true, true, true, false, true, true, true, true, false, false] rfl rfl (by kernel_rfl) (fun _ _ _ h => h) (Or.inl ⟨by rfl, ?_⟩) hHeld ?_ ?_
        rotate_left
        · rintro w' ⟨s0, s1, s2, s3, s4, s5, s6, s7, s8, s9, s10, s11⟩
          go_simp
          with_reducible rfl
        rotate_left
        · simp only [Act.put, List.setIfInBounds_toArray, List.set_cons_zero, List.set_cons_succ, i64_w, i32_w]
          rfl
        refine one_ (i := 40) (N := some 174) #[true, true, true, true, true, true, true, true, true, true, true, true, true, true, true, true, true, true, true, true, true, true, true, true, true, true, true, true, true, true, true, true, true, true, true, true, true, true, true, true, true, true, true, true, true, false, false] rfl rfl (by kernel_rfl) (by decide) (fun K hK => ?_)
        refine goes_ Try.func17 (by kernel_rfl) rfl #[.pointer (some ⟨h, 0, none⟩)] (by rfl) rfl rfl (by simp only [List.map_toArray, List.map_cons, List.map_nil]; rfl) ?_
        with_reducible refine (fault_any h g xf xfi xfs xb xbi xbs xwt xft _ (bk_drew HS6.out)).mono ?_
        rintro e w' ⟨rfl, rfl⟩
        refine ⟨_, rfl, ?_⟩
        refine hK.out _ _ ⟨(bk_cell HB6.out 5).trans rfl, (bk_cell HB6.out 6).trans rfl, (bk_cell HB6.out 7).trans rfl, (bk_cell HB6.out 8).trans rfl, (bk_cell HB6.out 9).trans rfl, (bk_cell HB6.out 10).trans rfl, (bk_cell HB6.out 11).trans rfl, (bk_cell HB6.out 12).trans rfl, (bk_cell HV6.out 0).trans rfl, (bk_cell HV6.out 1).trans rfl, (bk_cell HU6.out 0).trans rfl, (bk_cell HU6.out 1).trans rfl⟩ (fun hHeld => ?_)
        clear hK K
        refine norm_ (a' := ?_) ?_ ?_
        rotate_left
        · show Act.put _ (some 174) _ = _
          simp only [Act.put, List.setIfInBounds_toArray, List.set_cons_zero, List.set_cons_succ, i64_w, i32_w]
          rfl
        refine pure_ (i := 45) (N := some 179) (v := ?_) (a' := ?_) #[true, true, true, true, true, true, true, true, true, true, true, true, true, true, true, true, true, true, true, true, true, true, true, true, true, true, true, true, true, true, true, true, true, true, true, true, true, true, true, true, true, true, true, true, true, true, false] rfl rfl (by kernel_rfl) (fun _ _ _ h => h) (Or.inl ⟨by rfl, ?_⟩) ?_ ?_
        rotate_left
        · intro w'
          go_simp
          with_reducible rfl
        rotate_left
        · simp only [Act.put, List.setIfInBounds_toArray, List.set_cons_zero, List.set_cons_succ, i64_w, i32_w]
          rfl
        refine pure_ (i := 46) (N := some 180) (v := ?_) (a' := ?_) #[true, true, true, true, true, true, true, true, true, true, true, true, true, true, true, true, true, true, true, true, true, true, true, true, true, true, true, true, true, true, true, true, true, true, true, true, true, true, true, true, true, true, true, true, true, true, true] rfl rfl (by kernel_rfl) (fun _ _ _ h => h) (Or.inl ⟨by rfl, ?_⟩) ?_ ?_
        rotate_left
        · intro w'
          go_simp
          with_reducible rfl
        rotate_left
        · simp only [Act.put, List.setIfInBounds_toArray, List.set_cons_zero, List.set_cons_succ, i64_w, i32_w]
          rfl
        refine done_ (by kernel_rfl) ?_
        go_wp2_with fail
        go_roundg (gk - 1)
        case measure => have := HK.out; omega
        case rel => exact ⟨k + 1, Lib.hid (by have := HK.out; omega), by omega, by go_num, Lib.hid ⟨⟨xf, xfi, xfs, xb, xbi, xbs, xwt, xft⟩, s1, r1, cb1, ⟨HS6.out, gl_keep HG4.out K6.out.drew (by simp) (by simp), ra_keep HR4.out K6.out.drew (by simp) (by simp), HSim.out, HNew.out⟩⟩, Lib.hid F6b.out.drew⟩
    · have hge : ¬ (k : Int) < n := by omega
      go_wp2
      go_ret
      exact ⟨rfl, HFr.out⟩

end
end Go.Proofs.Ytpfabaoefkokjaa
