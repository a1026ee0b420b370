/-
  What a subscriber's New and Put do.
-/
import Derived.Test.YtpfabaoefkokjaaGSub
import Derived.Test.YtpfabaoefkokjaaBase3
namespace Go.Proofs.Ytpfabaoefkokjaa
open Go.RowKit Go.Proofs.YtpfabaoefkokjaaW.PrintLast
set_option linter.unusedVariables false
set_option linter.unusedSimpArgs false
theorem gl_of {g vb sz : Nat} {s : G} {w w1 : World} (h : GlueAt g vb sz s w) (e : w1.heap = w.heap) : GlueAt g vb sz s w1 := ⟨e ▸ h.1, e ▸ h.2⟩
theorem gl_set {g vb sz : Nat} {s : G} {w : World} (h : GlueAt g vb sz s w) {q : Addr} (h1 : q.block ≠ g) (h2 : q.block ≠ vb) (u : Value) : GlueAt g vb sz s (w.setCell q u) := ⟨bk_far h.1 h1.symm u, bk_far h.2 h2.symm u⟩
section
variable (f1 f2 f3 f4 f5 f6 f7 f8 f9 f10 f11 : Int) (f12 : Bool) (f13 : Int)
variable (h g : Nat) (k vi vs : Int) (p : Nat) (n : Int) (b : ByteArray) (f : ByteArray) (fi fs : Int) (bb : ByteArray) (bi bs : Int) (wt ft : Bool) (w : World)

set_option maxRecDepth 100000 in
set_option maxHeartbeats 1000000 in
theorem sput_nil : Calls Try.prog 12 #[.pointer none, .agg #[.int .i64 k, .int .u8 f1, .int .u8 f2, .int .u16 f3, .int .u16 f4, .int .u16 f5, .int .u8 f6, .int .u16 f7, .int .u16 f8, .int .u16 f9, .int .u8 f10, .int .u16 f11, .bool f12, .int .u8 f13, .int .u16 vi, .int .u32 vs, .int .u8 p, .int .u8 n, .string b]] w fun e w' => e = .returned (.tuple #[.bool false, .int .i64 1]) ∧ Fr w w' [] := by
  go_enter Try.func12, Try.ntmps12
  go_wp2
  go_ret2
  exact ⟨rfl, (Fr.refl _ _).alloc _⟩
variable (vb sz : Nat) (s s1 : G) (v : ByteArray) (e0 : Int)

set_option maxRecDepth 100000 in
set_option maxHeartbeats 2000000 in
theorem sput_true_true (hs : w.heap[h]? = some (.cells #[.pointer (some ⟨g, 0, none⟩), .string f, .int .u16 fi, .int .u32 fs, .string bb, .int .u16 bi, .int .u32 bs, .bool wt, .bool true] 85 (0, 0))) (hgl : GlueAt g vb sz s w)
    (hp : ∀ w1 : World, GlueAt g vb sz s w1 → Calls Try.prog 31 #[.pointer (some ⟨g, 0, none⟩), .agg #[.int .i64 k, .int .u8 f1, .int .u8 f2, .int .u16 f3, .int .u16 f4, .int .u16 f5, .int .u8 f6, .int .u16 f7, .int .u16 f8, .int .u16 f9, .int .u8 f10, .int .u16 f11, .bool f12, .int .u8 f13, .int .u16 vi, .int .u32 vs, .int .u8 p, .int .u8 n, .string b]] w1 fun e w' => e = .returned (.tuple #[.string v, .bool true, .int .i64 e0]) ∧ GlueAt g vb sz s1 w' ∧ Fr w1 w' [g, vb]) :
    Calls Try.prog 12 #[.pointer (some ⟨h, 0, none⟩), .agg #[.int .i64 k, .int .u8 f1, .int .u8 f2, .int .u16 f3, .int .u16 f4, .int .u16 f5, .int .u8 f6, .int .u16 f7, .int .u16 f8, .int .u16 f9, .int .u8 f10, .int .u16 f11, .bool f12, .int .u8 f13, .int .u16 vi, .int .u32 vs, .int .u8 p, .int .u8 n, .string b]] w fun e w' => e = .returned (.tuple #[.bool true, .int .i64 e0]) ∧
      w'.heap[h]? = some (.cells #[.pointer (some ⟨g, 0, none⟩), .string f, .int .u16 fi, .int .u32 fs, .string v, .int .u16 vi, .int .u32 vs, .bool true, .bool true] 85 (0, 0)) ∧ GlueAt g vb sz s1 w' ∧ Fr w w' [g, vb, h] := by
  have hhg : h ≠ g := bk_ne hs hgl.1 (by decide)
  have hhv : h ≠ vb := bk_ne hs hgl.2 (by decide)
  have hxh := Lib.hid (show h ≠ w.heap.size by have := bk_lt hs; omega)
  have hxg := Lib.hid (show g ≠ w.heap.size by have := bk_lt hgl.1; omega)
  have hxv := Lib.hid (show vb ≠ w.heap.size by have := bk_lt hgl.2; omega)
  have HT := Lib.hid hp
  have HF := Lib.hid ((Fr.refl w []).alloc (.cells #[.int .i64 k, .int .u8 f1, .int .u8 f2, .int .u16 f3, .int .u16 f4, .int .u16 f5, .int .u8 f6, .int .u16 f7, .int .u16 f8, .int .u16 f9, .int .u8 f10, .int .u16 f11, .bool f12, .int .u8 f13, .int .u16 vi, .int .u32 vs, .int .u8 p, .int .u8 n, .string b] 36))
  have HH := Lib.hid (bk_alloc hs (.cells #[.int .i64 k, .int .u8 f1, .int .u8 f2, .int .u16 f3, .int .u16 f4, .int .u16 f5, .int .u8 f6, .int .u16 f7, .int .u16 f8, .int .u16 f9, .int .u8 f10, .int .u16 f11, .bool f12, .int .u8 f13, .int .u16 vi, .int .u32 vs, .int .u8 p, .int .u8 n, .string b] 36))
  have HX := Lib.hid (bk_new w (.cells #[.int .i64 k, .int .u8 f1, .int .u8 f2, .int .u16 f3, .int .u16 f4, .int .u16 f5, .int .u8 f6, .int .u16 f7, .int .u16 f8, .int .u16 f9, .int .u8 f10, .int .u16 f11, .bool f12, .int .u8 f13, .int .u16 vi, .int .u32 vs, .int .u8 p, .int .u8 n, .string b] 36))
  have HG := Lib.hid (show GlueAt g vb sz s (w.alloc (.cells #[.int .i64 k, .int .u8 f1, .int .u8 f2, .int .u16 f3, .int .u16 f4, .int .u16 f5, .int .u8 f6, .int .u16 f7, .int .u16 f8, .int .u16 f9, .int .u8 f10, .int .u16 f11, .bool f12, .int .u8 f13, .int .u16 vi, .int .u32 vs, .int .u8 p, .int .u8 n, .string b] 36)) from ⟨bk_alloc hgl.1 _, bk_alloc hgl.2 _⟩)
  clear hp hs hgl
  go_enter Try.func12, Try.ntmps12
  go_wp2_with fail
  refine start_ (n := 13) (S := fun w' => w'.cell? ⟨h, 0, none⟩ = some (.pointer (some ⟨g, 0, none⟩))) (ds := []) #[false, false, false, false, false, false, false, false, false, false, false, false, false] (by kernel_rfl) rfl rfl ((bk_cell HH.out 0).trans rfl) (fun hHeld => ?_)
  refine pure_ (i := 0) (N := some 12) (v := ?_) (a' := ?_) #[true, false, false, false, false, false, false, false, false, false, false, false, false] rfl rfl (by kernel_rfl) (fun _ _ _ h => h) (Or.inl ⟨by rfl, ?_⟩) ?_ ?_
  rotate_left
  · intro w'
    go_simp
    with_reducible rfl
  rotate_left
  · simp only [Act.put, List.setIfInBounds_toArray, List.set_cons_zero, List.set_cons_succ, i64_w, i32_w]
    rfl
  refine pure_ (i := 1) (N := some 13) (v := ?_) (a' := ?_) #[true, true, false, false, false, false, false, false, false, false, false, false, false] rfl rfl (by kernel_rfl) (fun _ _ _ h => h) (Or.inl ⟨by rfl, ?_⟩) ?_ ?_
  rotate_left
  · intro w'
    go_simp
    with_reducible rfl
  rotate_left
  · simp only [Act.put, List.setIfInBounds_toArray, List.set_cons_zero, List.set_cons_succ, i64_w, i32_w]
    rfl
  refine pure_ (i := 2) (N := some 14) (v := ?_) (a' := ?_) #[true, true, true, false, false, false, false, false, false, false, false, false, false] rfl rfl (by kernel_rfl) (fun _ _ _ h => h) (Or.inl ⟨by rfl, ?_⟩) ?_ ?_
  rotate_left
  · intro w'
    go_simp
    with_reducible rfl
  rotate_left
  · simp only [Act.put, List.setIfInBounds_toArray, List.set_cons_zero, List.set_cons_succ, i64_w, i32_w]
    rfl
  refine take_ (i := 3) (N := some 15) (v := ?_) (a' := ?_) #[true, true, true, true, false, false, false, false, false, false, false, false, false] rfl rfl (by kernel_rfl) (fun _ _ _ h => h) (Or.inl ⟨by rfl, ?_⟩) hHeld ?_ ?_
  rotate_left
  · intro w' s0
    go_simp
    with_reducible rfl
  rotate_left
  · simp only [Act.put, List.setIfInBounds_toArray, List.set_cons_zero, List.set_cons_succ, i64_w, i32_w]
    rfl
  refine one_ (i := 4) (N := some 16) #[true, true, true, true, true, false, false, false, false, false, false, false, false] rfl rfl (by kernel_rfl) (by decide) (fun K hK => ?_)
  refine es_load 36 (.tmp 3) rfl rfl (by rfl) rfl HX.out Try.underlying36 rfl sizeF rfl ?_
  refine hK.out _ _ ((bk_cell HH.out 0).trans rfl) (fun hHeld => ?_)
  clear hK K
  refine norm_ (a' := ?_) ?_ ?_
  rotate_left
  · show Act.put _ (some 16) _ = _
    simp only [Act.put, List.setIfInBounds_toArray, List.set_cons_zero, List.set_cons_succ, i64_w, i32_w]
    rfl
  refine one_ (i := 5) (N := some 17) #[true, true, true, true, true, true, false, false, false, false, false, false, false] rfl rfl (by kernel_rfl) (by decide) (fun K hK => ?_)
  refine goes_ Try.func31 (by kernel_rfl) rfl #[.pointer (some ⟨g, 0, none⟩), .agg #[.int .i64 k, .int .u8 f1, .int .u8 f2, .int .u16 f3, .int .u16 f4, .int .u16 f5, .int .u8 f6, .int .u16 f7, .int .u16 f8, .int .u16 f9, .int .u8 f10, .int .u16 f11, .bool f12, .int .u8 f13, .int .u16 vi, .int .u32 vs, .int .u8 p, .int .u8 n, .string b]] (by rfl) rfl rfl (by simp only [List.map_toArray, List.map_cons, List.map_nil]; rfl) ?_
  with_reducible refine (HT.out _ (by exact gl_of HG.out rfl)).mono ?_
  rintro e w2 ⟨rfl, hg2, hf2⟩
  refine ⟨_, rfl, ?_⟩
  have HH2 := Lib.hid (Fr.at hf2 HH.out (by simp [hhg, hhv]))
  have HX2 := Lib.hid (Fr.at hf2 HX.out (by simp [hxg.out.symm, hxv.out.symm]))
  have HF2 := Lib.hid (Fr.via (S := [g, vb, h]) hf2 (HF.out.mono (by simp)) rfl rfl rfl rfl (by simp))
  have HG2 := Lib.hid hg2
  clear hf2 hg2
  refine hK.out _ _ ((bk_cell HH2.out 0).trans rfl) (fun hHeld => ?_)
  clear hK K
  refine norm_ (a' := ?_) ?_ ?_
  rotate_left
  · show Act.put _ (some 17) _ = _
    simp only [Act.put, List.setIfInBounds_toArray, List.set_cons_zero, List.set_cons_succ, i64_w, i32_w]
    rfl
  refine pure_ (i := 6) (N := some 11) (v := ?_) (a' := ?_) #[true, true, true, true, true, true, true, false, false, false, false, false, false] rfl rfl (by kernel_rfl) (fun _ _ _ h => h) (Or.inl ⟨by rfl, ?_⟩) ?_ ?_
  rotate_left
  · intro w'
    go_simp
    with_reducible rfl
  rotate_left
  · simp only [Act.put, List.setIfInBounds_toArray, List.set_cons_zero, List.set_cons_succ, i64_w, i32_w]
    rfl
  refine pure_ (i := 7) (N := some 18) (v := ?_) (a' := ?_) #[true, true, true, true, true, true, true, true, false, false, false, false, false] rfl rfl (by kernel_rfl) (fun _ _ _ h => h) (Or.inl ⟨by rfl, ?_⟩) ?_ ?_
  rotate_left
  · intro w'
    go_simp
    with_reducible rfl
  rotate_left
  · simp only [Act.put, List.setIfInBounds_toArray, List.set_cons_zero, List.set_cons_succ, i64_w, i32_w]
    rfl
  refine pure_ (i := 8) (N := some 19) (v := ?_) (a' := ?_) #[true, true, true, true, true, true, true, true, true, false, false, false, false] rfl rfl (by kernel_rfl) (fun _ _ _ h => h) (Or.inl ⟨by rfl, ?_⟩) ?_ ?_
  rotate_left
  · intro w'
    go_simp
    with_reducible rfl
  rotate_left
  · simp only [Act.put, List.setIfInBounds_toArray, List.set_cons_zero, List.set_cons_succ, i64_w, i32_w]
    rfl
  refine pure_ (i := 9) (N := some 20) (v := ?_) (a' := ?_) #[true, true, true, true, true, true, true, true, true, true, false, false, false] rfl rfl (by kernel_rfl) (fun _ _ _ h => h) (Or.inl ⟨by rfl, ?_⟩) ?_ ?_
  rotate_left
  · intro w'
    go_simp
    with_reducible rfl
  rotate_left
  · simp only [Act.put, List.setIfInBounds_toArray, List.set_cons_zero, List.set_cons_succ, i64_w, i32_w]
    rfl
  refine pure_ (i := 10) (N := some 6) (v := ?_) (a' := ?_) #[true, true, true, true, true, true, true, true, true, true, true, false, false] rfl rfl (by kernel_rfl) (fun _ _ _ h => h) (Or.inl ⟨by rfl, ?_⟩) ?_ ?_
  rotate_left
  · intro w'
    go_simp
    with_reducible rfl
  rotate_left
  · simp only [Act.put, List.setIfInBounds_toArray, List.set_cons_zero, List.set_cons_succ, i64_w, i32_w]
    rfl
  refine pure_ (i := 11) (N := some 7) (v := ?_) (a' := ?_) #[true, true, true, true, true, true, true, true, true, true, true, true, false] rfl rfl (by kernel_rfl) (fun _ _ _ h => h) (Or.inl ⟨by rfl, ?_⟩) ?_ ?_
  rotate_left
  · intro w'
    go_simp
    with_reducible rfl
  rotate_left
  · simp only [Act.put, List.setIfInBounds_toArray, List.set_cons_zero, List.set_cons_succ, i64_w, i32_w]
    rfl
  refine pure_ (i := 12) (N := some 8) (v := ?_) (a' := ?_) #[true, true, true, true, true, true, true, true, true, true, true, true, true] rfl rfl (by kernel_rfl) (fun _ _ _ h => h) (Or.inl ⟨by rfl, ?_⟩) ?_ ?_
  rotate_left
  · intro w'
    go_simp
    with_reducible rfl
  rotate_left
  · simp only [Act.put, List.setIfInBounds_toArray, List.set_cons_zero, List.set_cons_succ, i64_w, i32_w]
    rfl
  refine done_ (by kernel_rfl) ?_
  clear hHeld
  have hch := bk_cell HH2.out
  have hfh := bk_free HH2.out
  have hcx := bk_cell HX2.out
  go_wp2
  go_ret2

  exact ⟨rfl, bk_put (bk_put (bk_put (bk_put (bk_put HH2.out 8 _ rfl) 4 _ rfl) 5 _ rfl) 6 _ rfl) 7 _ rfl, gl_set (gl_set (gl_set (gl_set (gl_set HG2.out hhg hhv _) hhg hhv _) hhg hhv _) hhg hhv _) hhg hhv _, ((((HF2.out.setIn (by simp) _).setIn (by simp) _).setIn (by simp) _).setIn (by simp) _).setIn (by simp) _⟩

set_option maxRecDepth 100000 in
set_option maxHeartbeats 2000000 in
theorem sput_true_false (hs : w.heap[h]? = some (.cells #[.pointer (some ⟨g, 0, none⟩), .string f, .int .u16 fi, .int .u32 fs, .string bb, .int .u16 bi, .int .u32 bs, .bool wt, .bool true] 85 (0, 0))) (hgl : GlueAt g vb sz s w)
    (hp : ∀ w1 : World, GlueAt g vb sz s w1 → Calls Try.prog 31 #[.pointer (some ⟨g, 0, none⟩), .agg #[.int .i64 k, .int .u8 f1, .int .u8 f2, .int .u16 f3, .int .u16 f4, .int .u16 f5, .int .u8 f6, .int .u16 f7, .int .u16 f8, .int .u16 f9, .int .u8 f10, .int .u16 f11, .bool f12, .int .u8 f13, .int .u16 vi, .int .u32 vs, .int .u8 p, .int .u8 n, .string b]] w1 fun e w' => e = .returned (.tuple #[.string v, .bool false, .int .i64 e0]) ∧ GlueAt g vb sz s1 w' ∧ Fr w1 w' [g, vb]) :
    Calls Try.prog 12 #[.pointer (some ⟨h, 0, none⟩), .agg #[.int .i64 k, .int .u8 f1, .int .u8 f2, .int .u16 f3, .int .u16 f4, .int .u16 f5, .int .u8 f6, .int .u16 f7, .int .u16 f8, .int .u16 f9, .int .u8 f10, .int .u16 f11, .bool f12, .int .u8 f13, .int .u16 vi, .int .u32 vs, .int .u8 p, .int .u8 n, .string b]] w fun e w' => e = .returned (.tuple #[.bool false, .int .i64 e0]) ∧
      w'.heap[h]? = some (.cells #[.pointer (some ⟨g, 0, none⟩), .string f, .int .u16 fi, .int .u32 fs, .string bb, .int .u16 bi, .int .u32 bs, .bool wt, .bool true] 85 (0, 0)) ∧ GlueAt g vb sz s1 w' ∧ Fr w w' [g, vb, h] := by
  have hhg : h ≠ g := bk_ne hs hgl.1 (by decide)
  have hhv : h ≠ vb := bk_ne hs hgl.2 (by decide)
  have hxh := Lib.hid (show h ≠ w.heap.size by have := bk_lt hs; omega)
  have hxg := Lib.hid (show g ≠ w.heap.size by have := bk_lt hgl.1; omega)
  have hxv := Lib.hid (show vb ≠ w.heap.size by have := bk_lt hgl.2; omega)
  have HT := Lib.hid hp
  have HF := Lib.hid ((Fr.refl w []).alloc (.cells #[.int .i64 k, .int .u8 f1, .int .u8 f2, .int .u16 f3, .int .u16 f4, .int .u16 f5, .int .u8 f6, .int .u16 f7, .int .u16 f8, .int .u16 f9, .int .u8 f10, .int .u16 f11, .bool f12, .int .u8 f13, .int .u16 vi, .int .u32 vs, .int .u8 p, .int .u8 n, .string b] 36))
  have HH := Lib.hid (bk_alloc hs (.cells #[.int .i64 k, .int .u8 f1, .int .u8 f2, .int .u16 f3, .int .u16 f4, .int .u16 f5, .int .u8 f6, .int .u16 f7, .int .u16 f8, .int .u16 f9, .int .u8 f10, .int .u16 f11, .bool f12, .int .u8 f13, .int .u16 vi, .int .u32 vs, .int .u8 p, .int .u8 n, .string b] 36))
  have HX := Lib.hid (bk_new w (.cells #[.int .i64 k, .int .u8 f1, .int .u8 f2, .int .u16 f3, .int .u16 f4, .int .u16 f5, .int .u8 f6, .int .u16 f7, .int .u16 f8, .int .u16 f9, .int .u8 f10, .int .u16 f11, .bool f12, .int .u8 f13, .int .u16 vi, .int .u32 vs, .int .u8 p, .int .u8 n, .string b] 36))
  have HG := Lib.hid (show GlueAt g vb sz s (w.alloc (.cells #[.int .i64 k, .int .u8 f1, .int .u8 f2, .int .u16 f3, .int .u16 f4, .int .u16 f5, .int .u8 f6, .int .u16 f7, .int .u16 f8, .int .u16 f9, .int .u8 f10, .int .u16 f11, .bool f12, .int .u8 f13, .int .u16 vi, .int .u32 vs, .int .u8 p, .int .u8 n, .string b] 36)) from ⟨bk_alloc hgl.1 _, bk_alloc hgl.2 _⟩)
  clear hp hs hgl
  go_enter Try.func12, Try.ntmps12
  go_wp2_with fail
  refine start_ (n := 13) (S := fun w' => w'.cell? ⟨h, 0, none⟩ = some (.pointer (some ⟨g, 0, none⟩))) (ds := []) #[false, false, false, false, false, false, false, false, false, false, false, false, false] (by kernel_rfl) rfl rfl ((bk_cell HH.out 0).trans rfl) (fun hHeld => ?_)
  refine pure_ (i := 0) (N := some 12) (v := ?_) (a' := ?_) #[true, false, false, false, false, false, false, false, false, false, false, false, false] rfl rfl (by kernel_rfl) (fun _ _ _ h => h) (Or.inl ⟨by rfl, ?_⟩) ?_ ?_
  rotate_left
  · intro w'
    go_simp
    with_reducible rfl
  rotate_left
  · simp only [Act.put, List.setIfInBounds_toArray, List.set_cons_zero, List.set_cons_succ, i64_w, i32_w]
    rfl
  refine pure_ (i := 1) (N := some 13) (v := ?_) (a' := ?_) #[true, true, false, false, false, false, false, false, false, false, false, false, false] rfl rfl (by kernel_rfl) (fun _ _ _ h => h) (Or.inl ⟨by rfl, ?_⟩) ?_ ?_
  rotate_left
  · intro w'
    go_simp
    with_reducible rfl
  rotate_left
  · simp only [Act.put, List.setIfInBounds_toArray, List.set_cons_zero, List.set_cons_succ, i64_w, i32_w]
    rfl
  refine pure_ (i := 2) (N := some 14) (v := ?_) (a' := ?_) #[true, true, true, false, false, false, false, false, false, false, false, false, false] rfl rfl (by kernel_rfl) (fun _ _ _ h => h) (Or.inl ⟨by rfl, ?_⟩) ?_ ?_
  rotate_left
  · intro w'
    go_simp
    with_reducible rfl
  rotate_left
  · simp only [Act.put, List.setIfInBounds_toArray, List.set_cons_zero, List.set_cons_succ, i64_w, i32_w]
    rfl
  refine take_ (i := 3) (N := some 15) (v := ?_) (a' := ?_) #[true, true, true, true, false, false, false, false, false, false, false, false, false] rfl rfl (by kernel_rfl) (fun _ _ _ h => h) (Or.inl ⟨by rfl, ?_⟩) hHeld ?_ ?_
  rotate_left
  · intro w' s0
    go_simp
    with_reducible rfl
  rotate_left
  · simp only [Act.put, List.setIfInBounds_toArray, List.set_cons_zero, List.set_cons_succ, i64_w, i32_w]
    rfl
  refine one_ (i := 4) (N := some 16) #[true, true, true, true, true, false, false, false, false, false, false, false, false] rfl rfl (by kernel_rfl) (by decide) (fun K hK => ?_)
  refine es_load 36 (.tmp 3) rfl rfl (by rfl) rfl HX.out Try.underlying36 rfl sizeF rfl ?_
  refine hK.out _ _ ((bk_cell HH.out 0).trans rfl) (fun hHeld => ?_)
  clear hK K
  refine norm_ (a' := ?_) ?_ ?_
  rotate_left
  · show Act.put _ (some 16) _ = _
    simp only [Act.put, List.setIfInBounds_toArray, List.set_cons_zero, List.set_cons_succ, i64_w, i32_w]
    rfl
  refine one_ (i := 5) (N := some 17) #[true, true, true, true, true, true, false, false, false, false, false, false, false] rfl rfl (by kernel_rfl) (by decide) (fun K hK => ?_)
  refine goes_ Try.func31 (by kernel_rfl) rfl #[.pointer (some ⟨g, 0, none⟩), .agg #[.int .i64 k, .int .u8 f1, .int .u8 f2, .int .u16 f3, .int .u16 f4, .int .u16 f5, .int .u8 f6, .int .u16 f7, .int .u16 f8, .int .u16 f9, .int .u8 f10, .int .u16 f11, .bool f12, .int .u8 f13, .int .u16 vi, .int .u32 vs, .int .u8 p, .int .u8 n, .string b]] (by rfl) rfl rfl (by simp only [List.map_toArray, List.map_cons, List.map_nil]; rfl) ?_
  with_reducible refine (HT.out _ (by exact gl_of HG.out rfl)).mono ?_
  rintro e w2 ⟨rfl, hg2, hf2⟩
  refine ⟨_, rfl, ?_⟩
  have HH2 := Lib.hid (Fr.at hf2 HH.out (by simp [hhg, hhv]))
  have HX2 := Lib.hid (Fr.at hf2 HX.out (by simp [hxg.out.symm, hxv.out.symm]))
  have HF2 := Lib.hid (Fr.via (S := [g, vb, h]) hf2 (HF.out.mono (by simp)) rfl rfl rfl rfl (by simp))
  have HG2 := Lib.hid hg2
  clear hf2 hg2
  refine hK.out _ _ ((bk_cell HH2.out 0).trans rfl) (fun hHeld => ?_)
  clear hK K
  refine norm_ (a' := ?_) ?_ ?_
  rotate_left
  · show Act.put _ (some 17) _ = _
    simp only [Act.put, List.setIfInBounds_toArray, List.set_cons_zero, List.set_cons_succ, i64_w, i32_w]
    rfl
  refine pure_ (i := 6) (N := some 11) (v := ?_) (a' := ?_) #[true, true, true, true, true, true, true, false, false, false, false, false, false] rfl rfl (by kernel_rfl) (fun _ _ _ h => h) (Or.inl ⟨by rfl, ?_⟩) ?_ ?_
  rotate_left
  · intro w'
    go_simp
    with_reducible rfl
  rotate_left
  · simp only [Act.put, List.setIfInBounds_toArray, List.set_cons_zero, List.set_cons_succ, i64_w, i32_w]
    rfl
  refine pure_ (i := 7) (N := some 18) (v := ?_) (a' := ?_) #[true, true, true, true, true, true, true, true, false, false, false, false, false] rfl rfl (by kernel_rfl) (fun _ _ _ h => h) (Or.inl ⟨by rfl, ?_⟩) ?_ ?_
  rotate_left
  · intro w'
    go_simp
    with_reducible rfl
  rotate_left
  · simp only [Act.put, List.setIfInBounds_toArray, List.set_cons_zero, List.set_cons_succ, i64_w, i32_w]
    rfl
  refine pure_ (i := 8) (N := some 19) (v := ?_) (a' := ?_) #[true, true, true, true, true, true, true, true, true, false, false, false, false] rfl rfl (by kernel_rfl) (fun _ _ _ h => h) (Or.inl ⟨by rfl, ?_⟩) ?_ ?_
  rotate_left
  · intro w'
    go_simp
    with_reducible rfl
  rotate_left
  · simp only [Act.put, List.setIfInBounds_toArray, List.set_cons_zero, List.set_cons_succ, i64_w, i32_w]
    rfl
  refine pure_ (i := 9) (N := some 20) (v := ?_) (a' := ?_) #[true, true, true, true, true, true, true, true, true, true, false, false, false] rfl rfl (by kernel_rfl) (fun _ _ _ h => h) (Or.inl ⟨by rfl, ?_⟩) ?_ ?_
  rotate_left
  · intro w'
    go_simp
    with_reducible rfl
  rotate_left
  · simp only [Act.put, List.setIfInBounds_toArray, List.set_cons_zero, List.set_cons_succ, i64_w, i32_w]
    rfl
  refine pure_ (i := 10) (N := some 6) (v := ?_) (a' := ?_) #[true, true, true, true, true, true, true, true, true, true, true, false, false] rfl rfl (by kernel_rfl) (fun _ _ _ h => h) (Or.inl ⟨by rfl, ?_⟩) ?_ ?_
  rotate_left
  · intro w'
    go_simp
    with_reducible rfl
  rotate_left
  · simp only [Act.put, List.setIfInBounds_toArray, List.set_cons_zero, List.set_cons_succ, i64_w, i32_w]
    rfl
  refine pure_ (i := 11) (N := some 7) (v := ?_) (a' := ?_) #[true, true, true, true, true, true, true, true, true, true, true, true, false] rfl rfl (by kernel_rfl) (fun _ _ _ h => h) (Or.inl ⟨by rfl, ?_⟩) ?_ ?_
  rotate_left
  · intro w'
    go_simp
    with_reducible rfl
  rotate_left
  · simp only [Act.put, List.setIfInBounds_toArray, List.set_cons_zero, List.set_cons_succ, i64_w, i32_w]
    rfl
  refine pure_ (i := 12) (N := some 8) (v := ?_) (a' := ?_) #[true, true, true, true, true, true, true, true, true, true, true, true, true] rfl rfl (by kernel_rfl) (fun _ _ _ h => h) (Or.inl ⟨by rfl, ?_⟩) ?_ ?_
  rotate_left
  · intro w'
    go_simp
    with_reducible rfl
  rotate_left
  · simp only [Act.put, List.setIfInBounds_toArray, List.set_cons_zero, List.set_cons_succ, i64_w, i32_w]
    rfl
  refine done_ (by kernel_rfl) ?_
  clear hHeld
  have hch := bk_cell HH2.out
  have hfh := bk_free HH2.out
  have hcx := bk_cell HX2.out
  go_wp2
  go_ret2

  exact ⟨rfl, bk_put HH2.out 8 _ rfl, gl_set HG2.out hhg hhv _, HF2.out.setIn (by simp) _⟩

set_option maxRecDepth 100000 in
set_option maxHeartbeats 2000000 in
theorem sput_false_true (hs : w.heap[h]? = some (.cells #[.pointer (some ⟨g, 0, none⟩), .string f, .int .u16 fi, .int .u32 fs, .string bb, .int .u16 bi, .int .u32 bs, .bool wt, .bool false] 85 (0, 0))) (hgl : GlueAt g vb sz s w)
    (hp : ∀ w1 : World, GlueAt g vb sz s w1 → Calls Try.prog 31 #[.pointer (some ⟨g, 0, none⟩), .agg #[.int .i64 k, .int .u8 f1, .int .u8 f2, .int .u16 f3, .int .u16 f4, .int .u16 f5, .int .u8 f6, .int .u16 f7, .int .u16 f8, .int .u16 f9, .int .u8 f10, .int .u16 f11, .bool f12, .int .u8 f13, .int .u16 vi, .int .u32 vs, .int .u8 p, .int .u8 n, .string b]] w1 fun e w' => e = .returned (.tuple #[.string v, .bool true, .int .i64 e0]) ∧ GlueAt g vb sz s1 w' ∧ Fr w1 w' [g, vb]) :
    Calls Try.prog 12 #[.pointer (some ⟨h, 0, none⟩), .agg #[.int .i64 k, .int .u8 f1, .int .u8 f2, .int .u16 f3, .int .u16 f4, .int .u16 f5, .int .u8 f6, .int .u16 f7, .int .u16 f8, .int .u16 f9, .int .u8 f10, .int .u16 f11, .bool f12, .int .u8 f13, .int .u16 vi, .int .u32 vs, .int .u8 p, .int .u8 n, .string b]] w fun e w' => e = .returned (.tuple #[.bool true, .int .i64 e0]) ∧
      w'.heap[h]? = some (.cells #[.pointer (some ⟨g, 0, none⟩), .string f, .int .u16 fi, .int .u32 fs, .string v, .int .u16 vi, .int .u32 vs, .bool true, .bool (e0 == 3)] 85 (0, 0)) ∧ GlueAt g vb sz s1 w' ∧ Fr w w' [g, vb, h] := by
  have hhg : h ≠ g := bk_ne hs hgl.1 (by decide)
  have hhv : h ≠ vb := bk_ne hs hgl.2 (by decide)
  have hxh := Lib.hid (show h ≠ w.heap.size by have := bk_lt hs; omega)
  have hxg := Lib.hid (show g ≠ w.heap.size by have := bk_lt hgl.1; omega)
  have hxv := Lib.hid (show vb ≠ w.heap.size by have := bk_lt hgl.2; omega)
  have HT := Lib.hid hp
  have HF := Lib.hid ((Fr.refl w []).alloc (.cells #[.int .i64 k, .int .u8 f1, .int .u8 f2, .int .u16 f3, .int .u16 f4, .int .u16 f5, .int .u8 f6, .int .u16 f7, .int .u16 f8, .int .u16 f9, .int .u8 f10, .int .u16 f11, .bool f12, .int .u8 f13, .int .u16 vi, .int .u32 vs, .int .u8 p, .int .u8 n, .string b] 36))
  have HH := Lib.hid (bk_alloc hs (.cells #[.int .i64 k, .int .u8 f1, .int .u8 f2, .int .u16 f3, .int .u16 f4, .int .u16 f5, .int .u8 f6, .int .u16 f7, .int .u16 f8, .int .u16 f9, .int .u8 f10, .int .u16 f11, .bool f12, .int .u8 f13, .int .u16 vi, .int .u32 vs, .int .u8 p, .int .u8 n, .string b] 36))
  have HX := Lib.hid (bk_new w (.cells #[.int .i64 k, .int .u8 f1, .int .u8 f2, .int .u16 f3, .int .u16 f4, .int .u16 f5, .int .u8 f6, .int .u16 f7, .int .u16 f8, .int .u16 f9, .int .u8 f10, .int .u16 f11, .bool f12, .int .u8 f13, .int .u16 vi, .int .u32 vs, .int .u8 p, .int .u8 n, .string b] 36))
  have HG := Lib.hid (show GlueAt g vb sz s (w.alloc (.cells #[.int .i64 k, .int .u8 f1, .int .u8 f2, .int .u16 f3, .int .u16 f4, .int .u16 f5, .int .u8 f6, .int .u16 f7, .int .u16 f8, .int .u16 f9, .int .u8 f10, .int .u16 f11, .bool f12, .int .u8 f13, .int .u16 vi, .int .u32 vs, .int .u8 p, .int .u8 n, .string b] 36)) from ⟨bk_alloc hgl.1 _, bk_alloc hgl.2 _⟩)
  clear hp hs hgl
  go_enter Try.func12, Try.ntmps12
  go_wp2_with fail
  refine start_ (n := 13) (S := fun w' => w'.cell? ⟨h, 0, none⟩ = some (.pointer (some ⟨g, 0, none⟩))) (ds := []) #[false, false, false, false, false, false, false, false, false, false, false, false, false] (by kernel_rfl) rfl rfl ((bk_cell HH.out 0).trans rfl) (fun hHeld => ?_)
  refine pure_ (i := 0) (N := some 12) (v := ?_) (a' := ?_) #[true, false, false, false, false, false, false, false, false, false, false, false, false] rfl rfl (by kernel_rfl) (fun _ _ _ h => h) (Or.inl ⟨by rfl, ?_⟩) ?_ ?_
  rotate_left
  · intro w'
    go_simp
    with_reducible rfl
  rotate_left
  · simp only [Act.put, List.setIfInBounds_toArray, List.set_cons_zero, List.set_cons_succ, i64_w, i32_w]
    rfl
  refine pure_ (i := 1) (N := some 13) (v := ?_) (a' := ?_) #[true, true, false, false, false, false, false, false, false, false, false, false, false] rfl rfl (by kernel_rfl) (fun _ _ _ h => h) (Or.inl ⟨by rfl, ?_⟩) ?_ ?_
  rotate_left
  · intro w'
    go_simp
    with_reducible rfl
  rotate_left
  · simp only [Act.put, List.setIfInBounds_toArray, List.set_cons_zero, List.set_cons_succ, i64_w, i32_w]
    rfl
  refine pure_ (i := 2) (N := some 14) (v := ?_) (a' := ?_) #[true, true, true, false, false, false, false, false, false, false, false, false, false] rfl rfl (by kernel_rfl) (fun _ _ _ h => h) (Or.inl ⟨by rfl, ?_⟩) ?_ ?_
  rotate_left
  · intro w'
    go_simp
    with_reducible rfl
  rotate_left
  · simp only [Act.put, List.setIfInBounds_toArray, List.set_cons_zero, List.set_cons_succ, i64_w, i32_w]
    rfl
  refine take_ (i := 3) (N := some 15) (v := ?_) (a' := ?_) #[true, true, true, true, false, false, false, false, false, false, false, false, false] rfl rfl (by kernel_rfl) (fun _ _ _ h => h) (Or.inl ⟨by rfl, ?_⟩) hHeld ?_ ?_
  rotate_left
  · intro w' s0
    go_simp
    with_reducible rfl
  rotate_left
  · simp only [Act.put, List.setIfInBounds_toArray, List.set_cons_zero, List.set_cons_succ, i64_w, i32_w]
    rfl
  refine one_ (i := 4) (N := some 16) #[true, true, true, true, true, false, false, false, false, false, false, false, false] rfl rfl (by kernel_rfl) (by decide) (fun K hK => ?_)
  refine es_load 36 (.tmp 3) rfl rfl (by rfl) rfl HX.out Try.underlying36 rfl sizeF rfl ?_
  refine hK.out _ _ ((bk_cell HH.out 0).trans rfl) (fun hHeld => ?_)
  clear hK K
  refine norm_ (a' := ?_) ?_ ?_
  rotate_left
  · show Act.put _ (some 16) _ = _
    simp only [Act.put, List.setIfInBounds_toArray, List.set_cons_zero, List.set_cons_succ, i64_w, i32_w]
    rfl
  refine one_ (i := 5) (N := some 17) #[true, true, true, true, true, true, false, false, false, false, false, false, false] rfl rfl (by kernel_rfl) (by decide) (fun K hK => ?_)
  refine goes_ Try.func31 (by kernel_rfl) rfl #[.pointer (some ⟨g, 0, none⟩), .agg #[.int .i64 k, .int .u8 f1, .int .u8 f2, .int .u16 f3, .int .u16 f4, .int .u16 f5, .int .u8 f6, .int .u16 f7, .int .u16 f8, .int .u16 f9, .int .u8 f10, .int .u16 f11, .bool f12, .int .u8 f13, .int .u16 vi, .int .u32 vs, .int .u8 p, .int .u8 n, .string b]] (by rfl) rfl rfl (by simp only [List.map_toArray, List.map_cons, List.map_nil]; rfl) ?_
  with_reducible refine (HT.out _ (by exact gl_of HG.out rfl)).mono ?_
  rintro e w2 ⟨rfl, hg2, hf2⟩
  refine ⟨_, rfl, ?_⟩
  have HH2 := Lib.hid (Fr.at hf2 HH.out (by simp [hhg, hhv]))
  have HX2 := Lib.hid (Fr.at hf2 HX.out (by simp [hxg.out.symm, hxv.out.symm]))
  have HF2 := Lib.hid (Fr.via (S := [g, vb, h]) hf2 (HF.out.mono (by simp)) rfl rfl rfl rfl (by simp))
  have HG2 := Lib.hid hg2
  clear hf2 hg2
  refine hK.out _ _ ((bk_cell HH2.out 0).trans rfl) (fun hHeld => ?_)
  clear hK K
  refine norm_ (a' := ?_) ?_ ?_
  rotate_left
  · show Act.put _ (some 17) _ = _
    simp only [Act.put, List.setIfInBounds_toArray, List.set_cons_zero, List.set_cons_succ, i64_w, i32_w]
    rfl
  refine pure_ (i := 6) (N := some 11) (v := ?_) (a' := ?_) #[true, true, true, true, true, true, true, false, false, false, false, false, false] rfl rfl (by kernel_rfl) (fun _ _ _ h => h) (Or.inl ⟨by rfl, ?_⟩) ?_ ?_
  rotate_left
  · intro w'
    go_simp
    with_reducible rfl
  rotate_left
  · simp only [Act.put, List.setIfInBounds_toArray, List.set_cons_zero, List.set_cons_succ, i64_w, i32_w]
    rfl
  refine pure_ (i := 7) (N := some 18) (v := ?_) (a' := ?_) #[true, true, true, true, true, true, true, true, false, false, false, false, false] rfl rfl (by kernel_rfl) (fun _ _ _ h => h) (Or.inl ⟨by rfl, ?_⟩) ?_ ?_
  rotate_left
  · intro w'
    go_simp
    with_reducible rfl
  rotate_left
  · simp only [Act.put, List.setIfInBounds_toArray, List.set_cons_zero, List.set_cons_succ, i64_w, i32_w]
    rfl
  refine pure_ (i := 8) (N := some 19) (v := ?_) (a' := ?_) #[true, true, true, true, true, true, true, true, true, false, false, false, false] rfl rfl (by kernel_rfl) (fun _ _ _ h => h) (Or.inl ⟨by rfl, ?_⟩) ?_ ?_
  rotate_left
  · intro w'
    go_simp
    with_reducible rfl
  rotate_left
  · simp only [Act.put, List.setIfInBounds_toArray, List.set_cons_zero, List.set_cons_succ, i64_w, i32_w]
    rfl
  refine pure_ (i := 9) (N := some 20) (v := ?_) (a' := ?_) #[true, true, true, true, true, true, true, true, true, true, false, false, false] rfl rfl (by kernel_rfl) (fun _ _ _ h => h) (Or.inl ⟨by rfl, ?_⟩) ?_ ?_
  rotate_left
  · intro w'
    go_simp
    with_reducible rfl
  rotate_left
  · simp only [Act.put, List.setIfInBounds_toArray, List.set_cons_zero, List.set_cons_succ, i64_w, i32_w]
    rfl
  refine pure_ (i := 10) (N := some 6) (v := ?_) (a' := ?_) #[true, true, true, true, true, true, true, true, true, true, true, false, false] rfl rfl (by kernel_rfl) (fun _ _ _ h => h) (Or.inl ⟨by rfl, ?_⟩) ?_ ?_
  rotate_left
  · intro w'
    go_simp
    with_reducible rfl
  rotate_left
  · simp only [Act.put, List.setIfInBounds_toArray, List.set_cons_zero, List.set_cons_succ, i64_w, i32_w]
    rfl
  refine pure_ (i := 11) (N := some 7) (v := ?_) (a' := ?_) #[true, true, true, true, true, true, true, true, true, true, true, true, false] rfl rfl (by kernel_rfl) (fun _ _ _ h => h) (Or.inl ⟨by rfl, ?_⟩) ?_ ?_
  rotate_left
  · intro w'
    go_simp
    with_reducible rfl
  rotate_left
  · simp only [Act.put, List.setIfInBounds_toArray, List.set_cons_zero, List.set_cons_succ, i64_w, i32_w]
    rfl
  refine pure_ (i := 12) (N := some 8) (v := ?_) (a' := ?_) #[true, true, true, true, true, true, true, true, true, true, true, true, true] rfl rfl (by kernel_rfl) (fun _ _ _ h => h) (Or.inl ⟨by rfl, ?_⟩) ?_ ?_
  rotate_left
  · intro w'
    go_simp
    with_reducible rfl
  rotate_left
  · simp only [Act.put, List.setIfInBounds_toArray, List.set_cons_zero, List.set_cons_succ, i64_w, i32_w]
    rfl
  refine done_ (by kernel_rfl) ?_
  clear hHeld
  have hch := bk_cell HH2.out
  have hfh := bk_free HH2.out
  have hcx := bk_cell HX2.out
  go_wp2
  go_ret2

  exact ⟨rfl, bk_put (bk_put (bk_put (bk_put (bk_put HH2.out 8 _ rfl) 4 _ rfl) 5 _ rfl) 6 _ rfl) 7 _ rfl, gl_set (gl_set (gl_set (gl_set (gl_set HG2.out hhg hhv _) hhg hhv _) hhg hhv _) hhg hhv _) hhg hhv _, ((((HF2.out.setIn (by simp) _).setIn (by simp) _).setIn (by simp) _).setIn (by simp) _).setIn (by simp) _⟩

set_option maxRecDepth 100000 in
set_option maxHeartbeats 2000000 in
theorem sput_false_false (hs : w.heap[h]? = some (.cells #[.pointer (some ⟨g, 0, none⟩), .string f, .int .u16 fi, .int .u32 fs, .string bb, .int .u16 bi, .int .u32 bs, .bool wt, .bool false] 85 (0, 0))) (hgl : GlueAt g vb sz s w)
    (hp : ∀ w1 : World, GlueAt g vb sz s w1 → Calls Try.prog 31 #[.pointer (some ⟨g, 0, none⟩), .agg #[.int .i64 k, .int .u8 f1, .int .u8 f2, .int .u16 f3, .int .u16 f4, .int .u16 f5, .int .u8 f6, .int .u16 f7, .int .u16 f8, .int .u16 f9, .int .u8 f10, .int .u16 f11, .bool f12, .int .u8 f13, .int .u16 vi, .int .u32 vs, .int .u8 p, .int .u8 n, .string b]] w1 fun e w' => e = .returned (.tuple #[.string v, .bool false, .int .i64 e0]) ∧ GlueAt g vb sz s1 w' ∧ Fr w1 w' [g, vb]) :
    Calls Try.prog 12 #[.pointer (some ⟨h, 0, none⟩), .agg #[.int .i64 k, .int .u8 f1, .int .u8 f2, .int .u16 f3, .int .u16 f4, .int .u16 f5, .int .u8 f6, .int .u16 f7, .int .u16 f8, .int .u16 f9, .int .u8 f10, .int .u16 f11, .bool f12, .int .u8 f13, .int .u16 vi, .int .u32 vs, .int .u8 p, .int .u8 n, .string b]] w fun e w' => e = .returned (.tuple #[.bool false, .int .i64 e0]) ∧
      w'.heap[h]? = some (.cells #[.pointer (some ⟨g, 0, none⟩), .string f, .int .u16 fi, .int .u32 fs, .string bb, .int .u16 bi, .int .u32 bs, .bool wt, .bool (e0 == 3)] 85 (0, 0)) ∧ GlueAt g vb sz s1 w' ∧ Fr w w' [g, vb, h] := by
  have hhg : h ≠ g := bk_ne hs hgl.1 (by decide)
  have hhv : h ≠ vb := bk_ne hs hgl.2 (by decide)
  have hxh := Lib.hid (show h ≠ w.heap.size by have := bk_lt hs; omega)
  have hxg := Lib.hid (show g ≠ w.heap.size by have := bk_lt hgl.1; omega)
  have hxv := Lib.hid (show vb ≠ w.heap.size by have := bk_lt hgl.2; omega)
  have HT := Lib.hid hp
  have HF := Lib.hid ((Fr.refl w []).alloc (.cells #[.int .i64 k, .int .u8 f1, .int .u8 f2, .int .u16 f3, .int .u16 f4, .int .u16 f5, .int .u8 f6, .int .u16 f7, .int .u16 f8, .int .u16 f9, .int .u8 f10, .int .u16 f11, .bool f12, .int .u8 f13, .int .u16 vi, .int .u32 vs, .int .u8 p, .int .u8 n, .string b] 36))
  have HH := Lib.hid (bk_alloc hs (.cells #[.int .i64 k, .int .u8 f1, .int .u8 f2, .int .u16 f3, .int .u16 f4, .int .u16 f5, .int .u8 f6, .int .u16 f7, .int .u16 f8, .int .u16 f9, .int .u8 f10, .int .u16 f11, .bool f12, .int .u8 f13, .int .u16 vi, .int .u32 vs, .int .u8 p, .int .u8 n, .string b] 36))
  have HX := Lib.hid (bk_new w (.cells #[.int .i64 k, .int .u8 f1, .int .u8 f2, .int .u16 f3, .int .u16 f4, .int .u16 f5, .int .u8 f6, .int .u16 f7, .int .u16 f8, .int .u16 f9, .int .u8 f10, .int .u16 f11, .bool f12, .int .u8 f13, .int .u16 vi, .int .u32 vs, .int .u8 p, .int .u8 n, .string b] 36))
  have HG := Lib.hid (show GlueAt g vb sz s (w.alloc (.cells #[.int .i64 k, .int .u8 f1, .int .u8 f2, .int .u16 f3, .int .u16 f4, .int .u16 f5, .int .u8 f6, .int .u16 f7, .int .u16 f8, .int .u16 f9, .int .u8 f10, .int .u16 f11, .bool f12, .int .u8 f13, .int .u16 vi, .int .u32 vs, .int .u8 p, .int .u8 n, .string b] 36)) from ⟨bk_alloc hgl.1 _, bk_alloc hgl.2 _⟩)
  clear hp hs hgl
  go_enter Try.func12, Try.ntmps12
  go_wp2_with fail
  refine start_ (n := 13) (S := fun w' => w'.cell? ⟨h, 0, none⟩ = some (.pointer (some ⟨g, 0, none⟩))) (ds := []) #[false, false, false, false, false, false, false, false, false, false, false, false, false] (by kernel_rfl) rfl rfl ((bk_cell HH.out 0).trans rfl) (fun hHeld => ?_)
  refine pure_ (i := 0) (N := some 12) (v := ?_) (a' := ?_) #[true, false, false, false, false, false, false, false, false, false, false, false, false] rfl rfl (by kernel_rfl) (fun _ _ _ h => h) (Or.inl ⟨by rfl, ?_⟩) ?_ ?_
  rotate_left
  · intro w'
    go_simp
    with_reducible rfl
  rotate_left
  · simp only [Act.put, List.setIfInBounds_toArray, List.set_cons_zero, List.set_cons_succ, i64_w, i32_w]
    rfl
  refine pure_ (i := 1) (N := some 13) (v := ?_) (a' := ?_) #[true, true, false, false, false, false, false, false, false, false, false, false, false] rfl rfl (by kernel_rfl) (fun _ _ _ h => h) (Or.inl ⟨by rfl, ?_⟩) ?_ ?_
  rotate_left
  · intro w'
    go_simp
    with_reducible rfl
  rotate_left
  · simp only [Act.put, List.setIfInBounds_toArray, List.set_cons_zero, List.set_cons_succ, i64_w, i32_w]
    rfl
  refine pure_ (i := 2) (N := some 14) (v := ?_) (a' := ?_) #[true, true, true, false, false, false, false, false, false, false, false, false, false] rfl rfl (by kernel_rfl) (fun _ _ _ h => h) (Or.inl ⟨by rfl, ?_⟩) ?_ ?_
  rotate_left
  · intro w'
    go_simp
    with_reducible rfl
  rotate_left
  · simp only [Act.put, List.setIfInBounds_toArray, List.set_cons_zero, List.set_cons_succ, i64_w, i32_w]
    rfl
  refine take_ (i := 3) (N := some 15) (v := ?_) (a' := ?_) #[true, true, true, true, false, false, false, false, false, false, false, false, false] rfl rfl (by kernel_rfl) (fun _ _ _ h => h) (Or.inl ⟨by rfl, ?_⟩) hHeld ?_ ?_
  rotate_left
  · intro w' s0
    go_simp
    with_reducible rfl
  rotate_left
  · simp only [Act.put, List.setIfInBounds_toArray, List.set_cons_zero, List.set_cons_succ, i64_w, i32_w]
    rfl
  refine one_ (i := 4) (N := some 16) #[true, true, true, true, true, false, false, false, false, false, false, false, false] rfl rfl (by kernel_rfl) (by decide) (fun K hK => ?_)
  refine es_load 36 (.tmp 3) rfl rfl (by rfl) rfl HX.out Try.underlying36 rfl sizeF rfl ?_
  refine hK.out _ _ ((bk_cell HH.out 0).trans rfl) (fun hHeld => ?_)
  clear hK K
  refine norm_ (a' := ?_) ?_ ?_
  rotate_left
  · show Act.put _ (some 16) _ = _
    simp only [Act.put, List.setIfInBounds_toArray, List.set_cons_zero, List.set_cons_succ, i64_w, i32_w]
    rfl
  refine one_ (i := 5) (N := some 17) #[true, true, true, true, true, true, false, false, false, false, false, false, false] rfl rfl (by kernel_rfl) (by decide) (fun K hK => ?_)
  refine goes_ Try.func31 (by kernel_rfl) rfl #[.pointer (some ⟨g, 0, none⟩), .agg #[.int .i64 k, .int .u8 f1, .int .u8 f2, .int .u16 f3, .int .u16 f4, .int .u16 f5, .int .u8 f6, .int .u16 f7, .int .u16 f8, .int .u16 f9, .int .u8 f10, .int .u16 f11, .bool f12, .int .u8 f13, .int .u16 vi, .int .u32 vs, .int .u8 p, .int .u8 n, .string b]] (by rfl) rfl rfl (by simp only [List.map_toArray, List.map_cons, List.map_nil]; rfl) ?_
  with_reducible refine (HT.out _ (by exact gl_of HG.out rfl)).mono ?_
  rintro e w2 ⟨rfl, hg2, hf2⟩
  refine ⟨_, rfl, ?_⟩
  have HH2 := Lib.hid (Fr.at hf2 HH.out (by simp [hhg, hhv]))
  have HX2 := Lib.hid (Fr.at hf2 HX.out (by simp [hxg.out.symm, hxv.out.symm]))
  have HF2 := Lib.hid (Fr.via (S := [g, vb, h]) hf2 (HF.out.mono (by simp)) rfl rfl rfl rfl (by simp))
  have HG2 := Lib.hid hg2
  clear hf2 hg2
  refine hK.out _ _ ((bk_cell HH2.out 0).trans rfl) (fun hHeld => ?_)
  clear hK K
  refine norm_ (a' := ?_) ?_ ?_
  rotate_left
  · show Act.put _ (some 17) _ = _
    simp only [Act.put, List.setIfInBounds_toArray, List.set_cons_zero, List.set_cons_succ, i64_w, i32_w]
    rfl
  refine pure_ (i := 6) (N := some 11) (v := ?_) (a' := ?_) #[true, true, true, true, true, true, true, false, false, false, false, false, false] rfl rfl (by kernel_rfl) (fun _ _ _ h => h) (Or.inl ⟨by rfl, ?_⟩) ?_ ?_
  rotate_left
  · intro w'
    go_simp
    with_reducible rfl
  rotate_left
  · simp only [Act.put, List.setIfInBounds_toArray, List.set_cons_zero, List.set_cons_succ, i64_w, i32_w]
    rfl
  refine pure_ (i := 7) (N := some 18) (v := ?_) (a' := ?_) #[true, true, true, true, true, true, true, true, false, false, false, false, false] rfl rfl (by kernel_rfl) (fun _ _ _ h => h) (Or.inl ⟨by rfl, ?_⟩) ?_ ?_
  rotate_left
  · intro w'
    go_simp
    with_reducible rfl
  rotate_left
  · simp only [Act.put, List.setIfInBounds_toArray, List.set_cons_zero, List.set_cons_succ, i64_w, i32_w]
    rfl
  refine pure_ (i := 8) (N := some 19) (v := ?_) (a' := ?_) #[true, true, true, true, true, true, true, true, true, false, false, false, false] rfl rfl (by kernel_rfl) (fun _ _ _ h => h) (Or.inl ⟨by rfl, ?_⟩) ?_ ?_
  rotate_left
  · intro w'
    go_simp
    with_reducible rfl
  rotate_left
  · simp only [Act.put, List.setIfInBounds_toArray, List.set_cons_zero, List.set_cons_succ, i64_w, i32_w]
    rfl
  refine pure_ (i := 9) (N := some 20) (v := ?_) (a' := ?_) #[true, true, true, true, true, true, true, true, true, true, false, false, false] rfl rfl (by kernel_rfl) (fun _ _ _ h => h) (Or.inl ⟨by rfl, ?_⟩) ?_ ?_
  rotate_left
  · intro w'
    go_simp
    with_reducible rfl
  rotate_left
  · simp only [Act.put, List.setIfInBounds_toArray, List.set_cons_zero, List.set_cons_succ, i64_w, i32_w]
    rfl
  refine pure_ (i := 10) (N := some 6) (v := ?_) (a' := ?_) #[true, true, true, true, true, true, true, true, true, true, true, false, false] rfl rfl (by kernel_rfl) (fun _ _ _ h => h) (Or.inl ⟨by rfl, ?_⟩) ?_ ?_
  rotate_left
  · intro w'
    go_simp
    with_reducible rfl
  rotate_left
  · simp only [Act.put, List.setIfInBounds_toArray, List.set_cons_zero, List.set_cons_succ, i64_w, i32_w]
    rfl
  refine pure_ (i := 11) (N := some 7) (v := ?_) (a' := ?_) #[true, true, true, true, true, true, true, true, true, true, true, true, false] rfl rfl (by kernel_rfl) (fun _ _ _ h => h) (Or.inl ⟨by rfl, ?_⟩) ?_ ?_
  rotate_left
  · intro w'
    go_simp
    with_reducible rfl
  rotate_left
  · simp only [Act.put, List.setIfInBounds_toArray, List.set_cons_zero, List.set_cons_succ, i64_w, i32_w]
    rfl
  refine pure_ (i := 12) (N := some 8) (v := ?_) (a' := ?_) #[true, true, true, true, true, true, true, true, true, true, true, true, true] rfl rfl (by kernel_rfl) (fun _ _ _ h => h) (Or.inl ⟨by rfl, ?_⟩) ?_ ?_
  rotate_left
  · intro w'
    go_simp
    with_reducible rfl
  rotate_left
  · simp only [Act.put, List.setIfInBounds_toArray, List.set_cons_zero, List.set_cons_succ, i64_w, i32_w]
    rfl
  refine done_ (by kernel_rfl) ?_
  clear hHeld
  have hch := bk_cell HH2.out
  have hfh := bk_free HH2.out
  have hcx := bk_cell HX2.out
  go_wp2
  go_ret2

  exact ⟨rfl, bk_put HH2.out 8 _ rfl, gl_set HG2.out hhg hhv _, HF2.out.setIn (by simp) _⟩
end
/-- What a subscriber's Put answers and leaves. -/
def sput (sz : Nat) (x : Sb) (s : G) (k vi vs : Int) (p : Nat) (n : Int) (b : ByteArray) : (Bool × Int) × Sb × G :=
  ((((gput sz s k vi vs p n b).1.2.1, (gput sz s k vi vs p n b).1.2.2)),
    (if (gput sz s k vi vs p n b).1.2.1 = true then { x with b := (gput sz s k vi vs p n b).1.1, bi := vi, bs := vs, wt := true, ft := x.ft || (gput sz s k vi vs p n b).1.2.2 == 3 }
      else { x with ft := x.ft || (gput sz s k vi vs p n b).1.2.2 == 3 }), (gput sz s k vi vs p n b).2)
theorem sput_any (f1 f2 f3 f4 f5 f6 f7 f8 f9 f10 f11 : Int) (f12 : Bool) (f13 : Int) (h g vb sz : Nat) (x : Sb) (s : G) (k vi vs : Int) (p : Nat) (n : Int) (b : ByteArray) (w : World) (hs : SubAt h g x w) (hgl : GlueAt g vb sz s w) (ok : GOk sz s) (hp : p ≤ 255) (hn0 : 0 ≤ n) (hn1 : n ≤ 255) :
    Calls Try.prog 12 #[.pointer (some ⟨h, 0, none⟩), .agg #[.int .i64 k, .int .u8 f1, .int .u8 f2, .int .u16 f3, .int .u16 f4, .int .u16 f5, .int .u8 f6, .int .u16 f7, .int .u16 f8, .int .u16 f9, .int .u8 f10, .int .u16 f11, .bool f12, .int .u8 f13, .int .u16 vi, .int .u32 vs, .int .u8 p, .int .u8 n, .string b]] w fun e w' => e = .returned (.tuple #[.bool (sput sz x s k vi vs p n b).1.1, .int .i64 (sput sz x s k vi vs p n b).1.2]) ∧
      SubAt h g (sput sz x s k vi vs p n b).2.1 w' ∧ GlueAt g vb sz (sput sz x s k vi vs p n b).2.2 w' ∧ Fr w w' [g, vb, h] := by
  have HP : ∀ w1 : World, GlueAt g vb sz s w1 → Calls Try.prog 31 #[.pointer (some ⟨g, 0, none⟩), .agg #[.int .i64 k, .int .u8 f1, .int .u8 f2, .int .u16 f3, .int .u16 f4, .int .u16 f5, .int .u8 f6, .int .u16 f7, .int .u16 f8, .int .u16 f9, .int .u8 f10, .int .u16 f11, .bool f12, .int .u8 f13, .int .u16 vi, .int .u32 vs, .int .u8 p, .int .u8 n, .string b]] w1 fun e w' => e = .returned (outV (gput sz s k vi vs p n b).1) ∧ GlueAt g vb sz (gput sz s k vi vs p n b).2 w' ∧ Fr w1 w' [g, vb] :=
    fun w1 hw => put_any f1 f2 f3 f4 f5 f6 f7 f8 f9 f10 f11 f12 f13 g vb sz s k vi vs p n b w1 hw ok hp hn0 hn1
  unfold sput
  revert HP
  generalize gput sz s k vi vs p n b = r
  obtain ⟨⟨v, o, e0⟩, s1⟩ := r
  obtain ⟨f, fi, fs, bb, bi, bs, wt, ft⟩ := x
  intro HP
  unfold SubAt at hs ⊢
  unfold outV at HP
  dsimp only at hs HP ⊢
  cases ft <;> cases o
  · exact sput_false_false f1 f2 f3 f4 f5 f6 f7 f8 f9 f10 f11 f12 f13 h g k vi vs p n b f fi fs bb bi bs wt w vb sz s s1 v e0 hs hgl HP
  · exact sput_false_true f1 f2 f3 f4 f5 f6 f7 f8 f9 f10 f11 f12 f13 h g k vi vs p n b f fi fs bb bi bs wt w vb sz s s1 v e0 hs hgl HP
  · exact sput_true_false f1 f2 f3 f4 f5 f6 f7 f8 f9 f10 f11 f12 f13 h g k vi vs p n b f fi fs bb bi bs wt w vb sz s s1 v e0 hs hgl HP
  · exact sput_true_true f1 f2 f3 f4 f5 f6 f7 f8 f9 f10 f11 f12 f13 h g k vi vs p n b f fi fs bb bi bs wt w vb sz s s1 v e0 hs hgl HP

/-- A first value, made as long as a value is. -/
def padB (v : ByteArray) (n : Nat) : ByteArray := (v ++ ⟨(List.replicate n 0).toArray⟩).extract 0 n
theorem newSub_out (n : Int) (v : ByteArray) (hn : n < 1 ∨ 64 < n) (w : World) : Calls Try.prog 9 #[.int .i64 n, .string v] w fun e w' => e = .returned (.pointer none) ∧ w = w' := by
  go_enter Try.func9, Try.ntmps9
  go_wp2_with (go_at_call 27; refine (glueNew_out _ hn _).mono ?_; rintro e w' ⟨rfl, rfl⟩)
  go_ret
  exact ⟨rfl, rfl⟩
theorem rep0 (n : Nat) : Lib.repeatL [0] n = List.replicate n 0 := by
  induction n with
  | zero => rfl
  | succ n ih => simp [Lib.repeatL, List.replicate_succ] at ih ⊢; exact ih
theorem newSub_in (n : Nat) (v : ByteArray) (h1 : 1 ≤ n) (h2 : n ≤ 64) (hv : v.size ≤ 100) (w : World) : Calls Try.prog 9 #[.int .i64 n, .string v] w fun e w' => ∃ h g vb, e = .returned (.pointer (some ⟨h, 0, none⟩)) ∧
    w'.heap[h]? = some (.cells #[.pointer (some ⟨g, 0, none⟩), .string (padB v n), .int .u16 0, .int .u32 0, .string ⟨#[]⟩, .int .u16 0, .int .u32 0, .bool false, .bool false] 85 (0, 0)) ∧ GlueAt g vb n ⟨List.replicate n 0, 0, 0, false, 0, 0⟩ w' ∧ Fr w w' [] ∧ w.heap.size ≤ h ∧ w.heap.size ≤ g ∧ w.heap.size ≤ vb := by
  have HR : ∀ w1 : World, Calls Try.prog 28 #[.string ⟨#[0]⟩, .int .i64 n] w1 fun e w' => e = .returned (.string ⟨(List.replicate n 0).toArray⟩) ∧ Below w1.heap.size w1 w' := fun w1 => by
    have hr : Lib.repeatL [0] n = List.replicate n 0 := rep0 n
    rw [← hr]
    exact Try.strings_Repeat ⟨#[0]⟩ n w1 (by omega) (by simp [ByteArray.size]; omega)
  have HRH := Lib.hid HR
  have HZ : (⟨(List.replicate n 0).toArray⟩ : ByteArray).size = n := by simp [ByteArray.size]
  have HP := Lib.hid (show (v ++ (⟨(List.replicate n 0).toArray⟩ : ByteArray)).extract 0 n = padB v n from rfl)
  clear HR
  revert HRH HZ HP
  generalize (⟨(List.replicate n 0).toArray⟩ : ByteArray) = z
  intro HRH HZ HP
  have hh1 : ¬ 9223372036854775807 < v.size + z.size := by omega
  have hh2 : (n : Int) ≤ v.size + z.size := by omega
  have hh3 : n ≤ v.size + z.size := by omega
  go_enter Try.func9, Try.ntmps9
  go_wp2_with (first | (go_at_call 27; refine (glueNew_in n h1 h2 _).mono ?_; rintro e w1 ⟨rfl, hg, hvb, hf1⟩) | (go_at_call 28; refine (HRH.out _).mono ?_; rintro e w2 ⟨rfl, hf2⟩))
  go_ret
  rw [HP.out]
  have hb1 : w.heap.size + 1 < w1.heap.size := bk_lt hg
  have hb2 : w.heap.size < w1.heap.size := bk_lt hvb
  have hf3 : Fr w1 w2 [] := Fr.of_below hf2
  exact ⟨_, _, _, rfl, bk_new _ _, ⟨bk_alloc (bk_keep hg hf3 (by simp)) _, bk_alloc (bk_keep hvb hf3 (by simp)) _⟩, (hf1.step hf3).alloc _, by have := hf3.size; omega, by omega, Nat.le_refl _⟩
end Go.Proofs.Ytpfabaoefkokjaa
