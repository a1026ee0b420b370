/-
  The document's glue: what Put refuses of frames that fit.
-/
import Derived.Test.YtpfabaoefkokjaaGRefB
import Derived.Test.YtpfabaoefkokjaaBase4
namespace Go.Proofs.Ytpfabaoefkokjaa
open Go.RowKit Go.Proofs.YtpfabaoefkokjaaW.PrintLast
set_option linter.unusedVariables false
set_option linter.unusedSimpArgs false
section
variable (f1 f2 f3 f4 f5 f6 f7 f8 f9 f10 f11 : Int) (f12 : Bool) (f13 : Int)
variable (h sz : Nat) (is : Bool) (gi gs : Int) (came : Value) (f bb : ByteArray) (ai av ti ts : Int) (wt ft : Bool) (vi vs : Int) (p : Nat) (n : Int) (b : ByteArray) (cb cc : Nat) (w : World)
variable (hv0 : 0 ≤ vi) (hv1 : vi ≤ 65535) (hv2 : 0 ≤ vs) (hv3 : vs ≤ 4294967295) (hg0 : 0 ≤ gi) (hg1 : gi ≤ 65535) (hg2 : 0 ≤ gs) (hg3 : gs ≤ 4294967295)
include hv0 hv1 hv2 hv3 hg0 hg1 hg2 hg3

set_option maxRecDepth 100000 in
set_option maxHeartbeats 4000000 in
theorem rput_old (hs : w.heap[h]? = some (.cells #[.int .i64 sz, .bool true, .int .u16 gi, .int .u32 gs, came, .string f, .string bb, .int .u16 ai, .int .u32 av, .int .u16 ti, .int .u32 ts, .bool wt, .bool ft] 60 (0, 0))) (h1 : 1 ≤ sz) (h2 : sz ≤ 64) (hp : p ≤ 255) (hn0 : 0 ≤ n) (hn1 : n ≤ 255) (hn : n = (((sz + 15) / 16 : Nat) : Int)) (hps : 16 * p < sz) (hbs : b.size = min 16 (sz - 16 * p)) (ord : numV vi vs < numV gi gs) :
    Calls Try.prog 32 #[.pointer (some ⟨h, 0, none⟩), .agg #[.int .i64 4, .int .u8 f1, .int .u8 f2, .int .u16 f3, .int .u16 f4, .int .u16 f5, .int .u8 f6, .int .u16 f7, .int .u16 f8, .int .u16 f9, .int .u8 f10, .int .u16 f11, .bool f12, .int .u8 f13, .int .u16 vi, .int .u32 vs, .int .u8 p, .int .u8 n, .string b]] w fun e w' => e = .returned (.tuple #[.string ⟨#[]⟩, .bool false, .int .i64 1]) ∧ Fr w w' [] := by
  have HB := Lib.hid (bk_alloc hs (.cells #[.int .i64 4, .int .u8 f1, .int .u8 f2, .int .u16 f3, .int .u16 f4, .int .u16 f5, .int .u8 f6, .int .u16 f7, .int .u16 f8, .int .u16 f9, .int .u8 f10, .int .u16 f11, .bool f12, .int .u8 f13, .int .u16 vi, .int .u32 vs, .int .u8 p, .int .u8 n, .string b] 36))
  have HX := Lib.hid (bk_new w (.cells #[.int .i64 4, .int .u8 f1, .int .u8 f2, .int .u16 f3, .int .u16 f4, .int .u16 f5, .int .u8 f6, .int .u16 f7, .int .u16 f8, .int .u16 f9, .int .u8 f10, .int .u16 f11, .bool f12, .int .u8 f13, .int .u16 vi, .int .u32 vs, .int .u8 p, .int .u8 n, .string b] 36))
  have HF := Lib.hid ((Fr.refl w []).alloc (.cells #[.int .i64 4, .int .u8 f1, .int .u8 f2, .int .u16 f3, .int .u16 f4, .int .u16 f5, .int .u8 f6, .int .u16 f7, .int .u16 f8, .int .u16 f9, .int .u8 f10, .int .u16 f11, .bool f12, .int .u8 f13, .int .u16 vi, .int .u32 vs, .int .u8 p, .int .u8 n, .string b] 36))
  have hxh := Lib.hid (show h ≠ w.heap.size by have := bk_lt hs; omega)
  obtain ⟨N, hN⟩ : ∃ N, N = (sz + 15) / 16 := ⟨_, rfl⟩
  have HN := Lib.hid hN
  have hw1 : IntKind.i64.wrap (p : Int) = p := IntWalk.i64_in _ (by omega)
  have hw2 : IntKind.i64.wrap n = n := IntWalk.i64_in _ (by omega)
  have hpN : p < N := by omega
  have hpN' : (p : Int) < N := by omega
  have hpN2 : ¬ (N : Int) ≤ p := by omega
  have hnN : (n != (N : Int)) = false := by rw [bne_eq_false_iff_eq]; omega
  have hnN2 : (n == (N : Int)) = true := by rw [beq_iff_eq]; omega
  have hN4 : N ≤ 4 := by omega
  have HBS := Lib.hid hbs
  have HPS := Lib.hid hps
  clear hn hbs hps
  have ho1 : decide (numV vi vs < numV gi gs) = true := by simpa using ord
  clear ord
  clear hs hN
  go_enter Try.func32, Try.ntmps32
  have hch := bk_cell HB.out
  have hcx := bk_cell HX.out
  have hhl := bk_lt HB.out
  go_wp2_with (go_at_call 44; refine (lengths_any sz h1 h2 _).mono ?_; rintro e w1 ⟨lg, lc, rfl, hlg, hlr, hf1⟩; rw [← HN.out])
  have HB1 := Lib.hid (bk_keep HB.out hf1 (by simp))
  have HX1 := Lib.hid (bk_keep HX.out hf1 (by simp))
  have HF1 := Lib.hid (HF.out.step hf1)
  have HL := Lib.hid hlr
  have HLG := Lib.hid hlg
  clear hch hcx hhl hf1 hlr hlg
  have hch := bk_cell HB1.out
  have hcx := bk_cell HX1.out
  obtain ⟨lp, hlp, hls⟩ := lp_at sz p (by have := HPS.out; omega)
  have hlc : w1.cell? ⟨lg, p, none⟩ = some (.string lp) := by
    have := HL.out p (.string lp) hlp
    rwa [Nat.zero_add] at this
  have hbl1 : ((b.size : Int) != (lp.size : Int)) = false := by rw [bne_eq_false_iff_eq, hls]; have := HBS.out; omega
  have hbl2 : (b.size == lp.size) = true := by rw [beq_iff_eq, hls]; have := HBS.out; omega
  have hbl3 : (b.size != lp.size) = false := by rw [bne_eq_false_iff_eq, hls]; have := HBS.out; omega
  clear hlp hls
  go_quiet (fail)
  clear hlc hbl1 hbl2 hbl3
  go_wp2_with fail
  clear hch hcx
  refine start_ (n := 15) (S := fun w' => w'.cell? ⟨h, 1, none⟩ = some (.bool true) ∧ w'.cell? ⟨h, 2, none⟩ = some (.int .u16 gi) ∧ w'.cell? ⟨h, 3, none⟩ = some (.int .u32 gs) ∧ w'.cell? ⟨w.heap.size, 14, none⟩ = some (.int .u16 vi) ∧ w'.cell? ⟨w.heap.size, 15, none⟩ = some (.int .u32 vs)) (ds := []) #[false, false, false, false, false, false, false, false, false, false, false, false, false, false, false] (by kernel_rfl) rfl rfl ⟨(bk_cell HB1.out 1).trans rfl, (bk_cell HB1.out 2).trans rfl, (bk_cell HB1.out 3).trans rfl, (bk_cell HX1.out 14).trans rfl, (bk_cell HX1.out 15).trans rfl⟩ (fun hHeld => ?_)
  refine pure_ (i := 0) (N := some 44) (v := ?_) (a' := ?_) #[true, false, false, false, false, false, false, false, false, false, false, false, false, false, false] rfl rfl (by kernel_rfl) (fun _ _ _ h => h) (Or.inl ⟨by rfl, ?_⟩) ?_ ?_
  rotate_left
  · intro w'
    go_simp
    with_reducible rfl
  rotate_left
  · simp only [Act.put, List.setIfInBounds_toArray, List.set_cons_zero, List.set_cons_succ, i64_w, i32_w]
    rfl
  refine pure_ (i := 1) (N := some 45) (v := ?_) (a' := ?_) #[true, true, false, false, false, false, false, false, false, false, false, false, false, false, false] rfl rfl (by kernel_rfl) (fun _ _ _ h => h) (Or.inl ⟨by rfl, ?_⟩) ?_ ?_
  rotate_left
  · intro w'
    go_simp
    with_reducible rfl
  rotate_left
  · simp only [Act.put, List.setIfInBounds_toArray, List.set_cons_zero, List.set_cons_succ, i64_w, i32_w]
    rfl
  refine pure_ (i := 2) (N := some 46) (v := ?_) (a' := ?_) #[true, true, true, false, false, false, false, false, false, false, false, false, false, false, false] rfl rfl (by kernel_rfl) (fun _ _ _ h => h) (Or.inl ⟨by rfl, ?_⟩) ?_ ?_
  rotate_left
  · intro w'
    go_simp
    with_reducible rfl
  rotate_left
  · simp only [Act.put, List.setIfInBounds_toArray, List.set_cons_zero, List.set_cons_succ, i64_w, i32_w]
    rfl
  refine take_ (i := 3) (N := some 47) (v := ?_) (a' := ?_) #[true, true, true, true, false, false, false, false, false, false, false, false, false, false, false] rfl rfl (by kernel_rfl) (fun _ _ _ h => h) (Or.inl ⟨by rfl, ?_⟩) hHeld ?_ ?_
  rotate_left
  · rintro w' ⟨s0, s1, s2, s3, s4⟩
    go_simp
    with_reducible rfl
  rotate_left
  · simp only [Act.put, List.setIfInBounds_toArray, List.set_cons_zero, List.set_cons_succ, i64_w, i32_w]
    rfl
  refine pure_ (i := 4) (N := some 48) (v := ?_) (a' := ?_) #[true, true, true, true, true, false, false, false, false, false, false, false, false, false, false] rfl rfl (by kernel_rfl) (fun _ _ _ h => h) (Or.inl ⟨by rfl, ?_⟩) ?_ ?_
  rotate_left
  · intro w'
    go_simp
    with_reducible rfl
  rotate_left
  · simp only [Act.put, List.setIfInBounds_toArray, List.set_cons_zero, List.set_cons_succ, i64_w, i32_w]
    rfl
  refine pure_ (i := 5) (N := some 49) (v := ?_) (a' := ?_) #[true, true, true, true, true, true, false, false, false, false, false, false, false, false, false] rfl rfl (by kernel_rfl) (fun _ _ _ h => h) (Or.inl ⟨by rfl, ?_⟩) ?_ ?_
  rotate_left
  · intro w'
    go_simp
    with_reducible rfl
  rotate_left
  · simp only [Act.put, List.setIfInBounds_toArray, List.set_cons_zero, List.set_cons_succ, i64_w, i32_w]
    rfl
  refine pure_ (i := 8) (N := some 52) (v := ?_) (a' := ?_) #[true, true, true, true, true, true, false, false, true, false, false, false, false, false, false] rfl rfl (by kernel_rfl) (fun _ _ _ h => h) (Or.inl ⟨by rfl, ?_⟩) ?_ ?_
  rotate_left
  · intro w'
    go_simp
    with_reducible rfl
  rotate_left
  · simp only [Act.put, List.setIfInBounds_toArray, List.set_cons_zero, List.set_cons_succ, i64_w, i32_w]
    rfl
  refine pure_ (i := 9) (N := some 53) (v := ?_) (a' := ?_) #[true, true, true, true, true, true, false, false, true, true, false, false, false, false, false] rfl rfl (by kernel_rfl) (fun _ _ _ h => h) (Or.inl ⟨by rfl, ?_⟩) ?_ ?_
  rotate_left
  · intro w'
    go_simp
    with_reducible rfl
  rotate_left
  · simp only [Act.put, List.setIfInBounds_toArray, List.set_cons_zero, List.set_cons_succ, i64_w, i32_w]
    rfl
  refine pure_ (i := 10) (N := some 54) (v := ?_) (a' := ?_) #[true, true, true, true, true, true, false, false, true, true, true, false, false, false, false] rfl rfl (by kernel_rfl) (fun _ _ _ h => h) (Or.inl ⟨by rfl, ?_⟩) ?_ ?_
  rotate_left
  · intro w'
    go_simp
    with_reducible rfl
  rotate_left
  · simp only [Act.put, List.setIfInBounds_toArray, List.set_cons_zero, List.set_cons_succ, i64_w, i32_w]
    rfl
  refine take_ (i := 6) (N := some 50) (v := ?_) (a' := ?_) #[true, true, true, true, true, true, true, false, true, true, true, false, false, false, false] rfl rfl (by kernel_rfl) (fun _ _ _ h => h) (Or.inl ⟨by rfl, ?_⟩) hHeld ?_ ?_
  rotate_left
  · rintro w' ⟨s0, s1, s2, s3, s4⟩
    go_simp
    with_reducible rfl
  rotate_left
  · simp only [Act.put, List.setIfInBounds_toArray, List.set_cons_zero, List.set_cons_succ, i64_w, i32_w]
    rfl
  refine take_ (i := 11) (N := some 55) (v := ?_) (a' := ?_) #[true, true, true, true, true, true, true, false, true, true, true, true, false, false, false] rfl rfl (by kernel_rfl) (fun _ _ _ h => h) (Or.inl ⟨by rfl, ?_⟩) hHeld ?_ ?_
  rotate_left
  · rintro w' ⟨s0, s1, s2, s3, s4⟩
    go_simp
    with_reducible rfl
  rotate_left
  · simp only [Act.put, List.setIfInBounds_toArray, List.set_cons_zero, List.set_cons_succ, i64_w, i32_w]
    rfl
  refine one_ (i := 7) (N := some 51) #[true, true, true, true, true, true, true, true, true, true, true, true, false, false, false] rfl rfl (by kernel_rfl) (by decide) (fun K hK => ?_)
  refine goes_ Try.func23 (by kernel_rfl) rfl #[.agg #[.int .u16 vi, .int .u32 vs]] (by rfl) rfl rfl (by simp only [List.map_toArray, List.map_cons, List.map_nil]; rfl) ?_
  with_reducible refine (number_any _ _ hv0 hv1 hv2 hv3 _).mono ?_
  rintro e wq ⟨rfl, hfq⟩
  refine ⟨_, rfl, ?_⟩
  have HB2 := Lib.hid (Fr.at hfq HB1.out (by simp))
  have HX2 := Lib.hid (Fr.at hfq HX1.out (by simp))
  have HF2 := Lib.hid (Fr.via (S := []) hfq HF1.out rfl rfl rfl rfl (by simp))
  clear hfq
  refine hK.out _ _ ⟨(bk_cell HB2.out 1).trans rfl, (bk_cell HB2.out 2).trans rfl, (bk_cell HB2.out 3).trans rfl, (bk_cell HX2.out 14).trans rfl, (bk_cell HX2.out 15).trans rfl⟩ (fun hHeld => ?_)
  clear hK K
  refine norm_ (a' := ?_) ?_ ?_
  rotate_left
  · show Act.put _ (some 51) _ = _
    simp only [Act.put, List.setIfInBounds_toArray, List.set_cons_zero, List.set_cons_succ, i64_w, i32_w]
    rfl
  refine one_ (i := 12) (N := some 56) #[true, true, true, true, true, true, true, true, true, true, true, true, true, false, false] rfl rfl (by kernel_rfl) (by decide) (fun K hK => ?_)
  refine goes_ Try.func23 (by kernel_rfl) rfl #[.agg #[.int .u16 gi, .int .u32 gs]] (by rfl) rfl rfl (by simp only [List.map_toArray, List.map_cons, List.map_nil]; rfl) ?_
  with_reducible refine (number_any _ _ hg0 hg1 hg2 hg3 _).mono ?_
  rintro e wq ⟨rfl, hfq⟩
  refine ⟨_, rfl, ?_⟩
  have HB3 := Lib.hid (Fr.at hfq HB2.out (by simp))
  have HX3 := Lib.hid (Fr.at hfq HX2.out (by simp))
  have HF3 := Lib.hid (Fr.via (S := []) hfq HF2.out rfl rfl rfl rfl (by simp))
  clear hfq
  refine hK.out _ _ ⟨(bk_cell HB3.out 1).trans rfl, (bk_cell HB3.out 2).trans rfl, (bk_cell HB3.out 3).trans rfl, (bk_cell HX3.out 14).trans rfl, (bk_cell HX3.out 15).trans rfl⟩ (fun hHeld => ?_)
  clear hK K
  refine norm_ (a' := ?_) ?_ ?_
  rotate_left
  · show Act.put _ (some 56) _ = _
    simp only [Act.put, List.setIfInBounds_toArray, List.set_cons_zero, List.set_cons_succ, i64_w, i32_w]
    rfl
  refine pure_ (i := 13) (N := some 57) (v := ?_) (a' := ?_) #[true, true, true, true, true, true, true, true, true, true, true, true, true, true, false] rfl rfl (by kernel_rfl) (fun _ _ _ h => h) (Or.inl ⟨by rfl, ?_⟩) ?_ ?_
  rotate_left
  · intro w'
    go_simp
    with_reducible rfl
  rotate_left
  · simp only [Act.put, List.setIfInBounds_toArray, List.set_cons_zero, List.set_cons_succ, i64_w, i32_w]
    rfl
  refine pure_ (i := 14) (N := some 58) (v := ?_) (a' := ?_) #[true, true, true, true, true, true, true, true, true, true, true, true, true, true, true] rfl rfl (by kernel_rfl) (fun _ _ _ h => h) (Or.inl ⟨by rfl, ?_⟩) ?_ ?_
  rotate_left
  · intro w'
    go_simp
    with_reducible rfl
  rotate_left
  · simp only [Act.put, List.setIfInBounds_toArray, List.set_cons_zero, List.set_cons_succ, i64_w, i32_w]
    rfl
  refine done_ (by kernel_rfl) ?_
  clear hHeld
  have hch := bk_cell HB3.out
  have hcx := bk_cell HX3.out
  go_wp2
  go_ret3
  exact ⟨rfl, HF3.out⟩

set_option maxRecDepth 100000 in
set_option maxHeartbeats 4000000 in
theorem rput_dup (hs : w.heap[h]? = some (.cells #[.int .i64 sz, .bool true, .int .u16 gi, .int .u32 gs, (.slice (some ⟨cb, 0, none⟩) ((sz + 15) / 16) cc), .string f, .string bb, .int .u16 ai, .int .u32 av, .int .u16 ti, .int .u32 ts, .bool wt, .bool ft] 60 (0, 0))) (h1 : 1 ≤ sz) (h2 : sz ≤ 64) (hp : p ≤ 255) (hn0 : 0 ≤ n) (hn1 : n ≤ 255) (hn : n = (((sz + 15) / 16 : Nat) : Int)) (hps : 16 * p < sz) (hbs : b.size = min 16 (sz - 16 * p)) (cl : List ByteArray) (hC : w.heap[cb]? = some (.cells (sC cl) 9 (0, 0))) (hcb : cb ≠ h) (ord : numV vi vs = numV gi gs) (cp : ByteArray) (hcp : cl[p]? = some cp) (hce : cp.toList ≠ []) :
    Calls Try.prog 32 #[.pointer (some ⟨h, 0, none⟩), .agg #[.int .i64 4, .int .u8 f1, .int .u8 f2, .int .u16 f3, .int .u16 f4, .int .u16 f5, .int .u8 f6, .int .u16 f7, .int .u16 f8, .int .u16 f9, .int .u8 f10, .int .u16 f11, .bool f12, .int .u8 f13, .int .u16 vi, .int .u32 vs, .int .u8 p, .int .u8 n, .string b]] w fun e w' => e = .returned (.tuple #[.string ⟨#[]⟩, .bool false, .int .i64 14]) ∧ w'.heap[h]? = some (.cells #[.int .i64 sz, .bool true, .int .u16 gi, .int .u32 gs, (.slice (some ⟨cb, 0, none⟩) ((sz + 15) / 16) cc), .string f, .string bb, .int .u16 ai, .int .u32 av, .int .u16 ti, .int .u32 ts, .bool wt, .bool ft] 60 (0, 0)) ∧ w'.heap[cb]? = some (.cells (sC cl) 9 (0, 0)) ∧ Fr w w' [h] := by
  have HB := Lib.hid (bk_alloc hs (.cells #[.int .i64 4, .int .u8 f1, .int .u8 f2, .int .u16 f3, .int .u16 f4, .int .u16 f5, .int .u8 f6, .int .u16 f7, .int .u16 f8, .int .u16 f9, .int .u8 f10, .int .u16 f11, .bool f12, .int .u8 f13, .int .u16 vi, .int .u32 vs, .int .u8 p, .int .u8 n, .string b] 36))
  have HX := Lib.hid (bk_new w (.cells #[.int .i64 4, .int .u8 f1, .int .u8 f2, .int .u16 f3, .int .u16 f4, .int .u16 f5, .int .u8 f6, .int .u16 f7, .int .u16 f8, .int .u16 f9, .int .u8 f10, .int .u16 f11, .bool f12, .int .u8 f13, .int .u16 vi, .int .u32 vs, .int .u8 p, .int .u8 n, .string b] 36))
  have HF := Lib.hid ((Fr.refl w []).alloc (.cells #[.int .i64 4, .int .u8 f1, .int .u8 f2, .int .u16 f3, .int .u16 f4, .int .u16 f5, .int .u8 f6, .int .u16 f7, .int .u16 f8, .int .u16 f9, .int .u8 f10, .int .u16 f11, .bool f12, .int .u8 f13, .int .u16 vi, .int .u32 vs, .int .u8 p, .int .u8 n, .string b] 36))
  have hxh := Lib.hid (show h ≠ w.heap.size by have := bk_lt hs; omega)
  have HC := Lib.hid (bk_alloc hC (.cells #[.int .i64 4, .int .u8 f1, .int .u8 f2, .int .u16 f3, .int .u16 f4, .int .u16 f5, .int .u8 f6, .int .u16 f7, .int .u16 f8, .int .u16 f9, .int .u8 f10, .int .u16 f11, .bool f12, .int .u8 f13, .int .u16 vi, .int .u32 vs, .int .u8 p, .int .u8 n, .string b] 36))
  have hxc := Lib.hid (show cb ≠ w.heap.size by have := bk_lt hC; omega)
  obtain ⟨N, hN⟩ : ∃ N, N = (sz + 15) / 16 := ⟨_, rfl⟩
  have HN := Lib.hid hN
  have hw1 : IntKind.i64.wrap (p : Int) = p := IntWalk.i64_in _ (by omega)
  have hw2 : IntKind.i64.wrap n = n := IntWalk.i64_in _ (by omega)
  have hpN : p < N := by omega
  have hpN' : (p : Int) < N := by omega
  have hpN2 : ¬ (N : Int) ≤ p := by omega
  have hnN : (n != (N : Int)) = false := by rw [bne_eq_false_iff_eq]; omega
  have hnN2 : (n == (N : Int)) = true := by rw [beq_iff_eq]; omega
  have hN4 : N ≤ 4 := by omega
  have HBS := Lib.hid hbs
  have HPS := Lib.hid hps
  clear hn hbs hps
  have ho1 : decide (numV vi vs < numV gi gs) = false := by simp; omega
  have ho2 : decide (numV gi gs < numV vi vs) = false := by simp; omega
  have HCP := Lib.hid hcp
  have HCE := Lib.hid hce
  clear ord hcp hce
  clear hs hN hC
  go_enter Try.func32, Try.ntmps32
  have hch := bk_cell HB.out
  have hcx := bk_cell HX.out
  have hhl := bk_lt HB.out
  go_wp2_with (go_at_call 44; refine (lengths_any sz h1 h2 _).mono ?_; rintro e w1 ⟨lg, lc, rfl, hlg, hlr, hf1⟩; rw [← HN.out])
  have HB1 := Lib.hid (bk_keep HB.out hf1 (by simp))
  have HX1 := Lib.hid (bk_keep HX.out hf1 (by simp))
  have HF1 := Lib.hid (HF.out.step hf1)
  have HC1 := Lib.hid (bk_keep HC.out hf1 (by simp))
  have HL := Lib.hid hlr
  have HLG := Lib.hid hlg
  clear hch hcx hhl hf1 hlr hlg
  have hch := bk_cell HB1.out
  have hcx := bk_cell HX1.out
  rw [← HN.out] at HB1
  obtain ⟨lp, hlp, hls⟩ := lp_at sz p (by have := HPS.out; omega)
  have hlc : w1.cell? ⟨lg, p, none⟩ = some (.string lp) := by
    have := HL.out p (.string lp) hlp
    rwa [Nat.zero_add] at this
  have hbl1 : ((b.size : Int) != (lp.size : Int)) = false := by rw [bne_eq_false_iff_eq, hls]; have := HBS.out; omega
  have hbl2 : (b.size == lp.size) = true := by rw [beq_iff_eq, hls]; have := HBS.out; omega
  have hbl3 : (b.size != lp.size) = false := by rw [bne_eq_false_iff_eq, hls]; have := HBS.out; omega
  clear hlp hls
  go_quiet (fail)
  clear hlc hbl1 hbl2 hbl3
  go_wp2_with fail
  clear hch hcx
  refine start_ (n := 15) (S := fun w' => w'.cell? ⟨h, 1, none⟩ = some (.bool true) ∧ w'.cell? ⟨h, 2, none⟩ = some (.int .u16 gi) ∧ w'.cell? ⟨h, 3, none⟩ = some (.int .u32 gs) ∧ w'.cell? ⟨w.heap.size, 14, none⟩ = some (.int .u16 vi) ∧ w'.cell? ⟨w.heap.size, 15, none⟩ = some (.int .u32 vs)) (ds := []) #[false, false, false, false, false, false, false, false, false, false, false, false, false, false, false] (by kernel_rfl) rfl rfl ⟨(bk_cell HB1.out 1).trans rfl, (bk_cell HB1.out 2).trans rfl, (bk_cell HB1.out 3).trans rfl, (bk_cell HX1.out 14).trans rfl, (bk_cell HX1.out 15).trans rfl⟩ (fun hHeld => ?_)
  refine pure_ (i := 0) (N := some 44) (v := ?_) (a' := ?_) #[true, false, false, false, false, false, false, false, false, false, false, false, false, false, false] rfl rfl (by kernel_rfl) (fun _ _ _ h => h) (Or.inl ⟨by rfl, ?_⟩) ?_ ?_
  rotate_left
  · intro w'
    go_simp
    with_reducible rfl
  rotate_left
  · simp only [Act.put, List.setIfInBounds_toArray, List.set_cons_zero, List.set_cons_succ, i64_w, i32_w]
    rfl
  refine pure_ (i := 1) (N := some 45) (v := ?_) (a' := ?_) #[true, true, false, false, false, false, false, false, false, false, false, false, false, false, false] rfl rfl (by kernel_rfl) (fun _ _ _ h => h) (Or.inl ⟨by rfl, ?_⟩) ?_ ?_
  rotate_left
  · intro w'
    go_simp
    with_reducible rfl
  rotate_left
  · simp only [Act.put, List.setIfInBounds_toArray, List.set_cons_zero, List.set_cons_succ, i64_w, i32_w]
    rfl
  refine pure_ (i := 2) (N := some 46) (v := ?_) (a' := ?_) #[true, true, true, false, false, false, false, false, false, false, false, false, false, false, false] rfl rfl (by kernel_rfl) (fun _ _ _ h => h) (Or.inl ⟨by rfl, ?_⟩) ?_ ?_
  rotate_left
  · intro w'
    go_simp
    with_reducible rfl
  rotate_left
  · simp only [Act.put, List.setIfInBounds_toArray, List.set_cons_zero, List.set_cons_succ, i64_w, i32_w]
    rfl
  refine take_ (i := 3) (N := some 47) (v := ?_) (a' := ?_) #[true, true, true, true, false, false, false, false, false, false, false, false, false, false, false] rfl rfl (by kernel_rfl) (fun _ _ _ h => h) (Or.inl ⟨by rfl, ?_⟩) hHeld ?_ ?_
  rotate_left
  · rintro w' ⟨s0, s1, s2, s3, s4⟩
    go_simp
    with_reducible rfl
  rotate_left
  · simp only [Act.put, List.setIfInBounds_toArray, List.set_cons_zero, List.set_cons_succ, i64_w, i32_w]
    rfl
  refine pure_ (i := 4) (N := some 48) (v := ?_) (a' := ?_) #[true, true, true, true, true, false, false, false, false, false, false, false, false, false, false] rfl rfl (by kernel_rfl) (fun _ _ _ h => h) (Or.inl ⟨by rfl, ?_⟩) ?_ ?_
  rotate_left
  · intro w'
    go_simp
    with_reducible rfl
  rotate_left
  · simp only [Act.put, List.setIfInBounds_toArray, List.set_cons_zero, List.set_cons_succ, i64_w, i32_w]
    rfl
  refine pure_ (i := 5) (N := some 49) (v := ?_) (a' := ?_) #[true, true, true, true, true, true, false, false, false, false, false, false, false, false, false] rfl rfl (by kernel_rfl) (fun _ _ _ h => h) (Or.inl ⟨by rfl, ?_⟩) ?_ ?_
  rotate_left
  · intro w'
    go_simp
    with_reducible rfl
  rotate_left
  · simp only [Act.put, List.setIfInBounds_toArray, List.set_cons_zero, List.set_cons_succ, i64_w, i32_w]
    rfl
  refine pure_ (i := 8) (N := some 52) (v := ?_) (a' := ?_) #[true, true, true, true, true, true, false, false, true, false, false, false, false, false, false] rfl rfl (by kernel_rfl) (fun _ _ _ h => h) (Or.inl ⟨by rfl, ?_⟩) ?_ ?_
  rotate_left
  · intro w'
    go_simp
    with_reducible rfl
  rotate_left
  · simp only [Act.put, List.setIfInBounds_toArray, List.set_cons_zero, List.set_cons_succ, i64_w, i32_w]
    rfl
  refine pure_ (i := 9) (N := some 53) (v := ?_) (a' := ?_) #[true, true, true, true, true, true, false, false, true, true, false, false, false, false, false] rfl rfl (by kernel_rfl) (fun _ _ _ h => h) (Or.inl ⟨by rfl, ?_⟩) ?_ ?_
  rotate_left
  · intro w'
    go_simp
    with_reducible rfl
  rotate_left
  · simp only [Act.put, List.setIfInBounds_toArray, List.set_cons_zero, List.set_cons_succ, i64_w, i32_w]
    rfl
  refine pure_ (i := 10) (N := some 54) (v := ?_) (a' := ?_) #[true, true, true, true, true, true, false, false, true, true, true, false, false, false, false] rfl rfl (by kernel_rfl) (fun _ _ _ h => h) (Or.inl ⟨by rfl, ?_⟩) ?_ ?_
  rotate_left
  · intro w'
    go_simp
    with_reducible rfl
  rotate_left
  · simp only [Act.put, List.setIfInBounds_toArray, List.set_cons_zero, List.set_cons_succ, i64_w, i32_w]
    rfl
  refine take_ (i := 6) (N := some 50) (v := ?_) (a' := ?_) #[true, true, true, true, true, true, true, false, true, true, true, false, false, false, false] rfl rfl (by kernel_rfl) (fun _ _ _ h => h) (Or.inl ⟨by rfl, ?_⟩) hHeld ?_ ?_
  rotate_left
  · rintro w' ⟨s0, s1, s2, s3, s4⟩
    go_simp
    with_reducible rfl
  rotate_left
  · simp only [Act.put, List.setIfInBounds_toArray, List.set_cons_zero, List.set_cons_succ, i64_w, i32_w]
    rfl
  refine take_ (i := 11) (N := some 55) (v := ?_) (a' := ?_) #[true, true, true, true, true, true, true, false, true, true, true, true, false, false, false] rfl rfl (by kernel_rfl) (fun _ _ _ h => h) (Or.inl ⟨by rfl, ?_⟩) hHeld ?_ ?_
  rotate_left
  · rintro w' ⟨s0, s1, s2, s3, s4⟩
    go_simp
    with_reducible rfl
  rotate_left
  · simp only [Act.put, List.setIfInBounds_toArray, List.set_cons_zero, List.set_cons_succ, i64_w, i32_w]
    rfl
  refine one_ (i := 7) (N := some 51) #[true, true, true, true, true, true, true, true, true, true, true, true, false, false, false] rfl rfl (by kernel_rfl) (by decide) (fun K hK => ?_)
  refine goes_ Try.func23 (by kernel_rfl) rfl #[.agg #[.int .u16 vi, .int .u32 vs]] (by rfl) rfl rfl (by simp only [List.map_toArray, List.map_cons, List.map_nil]; rfl) ?_
  with_reducible refine (number_any _ _ hv0 hv1 hv2 hv3 _).mono ?_
  rintro e wq ⟨rfl, hfq⟩
  refine ⟨_, rfl, ?_⟩
  have HB2 := Lib.hid (Fr.at hfq HB1.out (by simp))
  have HX2 := Lib.hid (Fr.at hfq HX1.out (by simp))
  have HF2 := Lib.hid (Fr.via (S := []) hfq HF1.out rfl rfl rfl rfl (by simp))
  have HC2 := Lib.hid (Fr.at hfq HC1.out (by simp))
  clear hfq
  refine hK.out _ _ ⟨(bk_cell HB2.out 1).trans rfl, (bk_cell HB2.out 2).trans rfl, (bk_cell HB2.out 3).trans rfl, (bk_cell HX2.out 14).trans rfl, (bk_cell HX2.out 15).trans rfl⟩ (fun hHeld => ?_)
  clear hK K
  refine norm_ (a' := ?_) ?_ ?_
  rotate_left
  · show Act.put _ (some 51) _ = _
    simp only [Act.put, List.setIfInBounds_toArray, List.set_cons_zero, List.set_cons_succ, i64_w, i32_w]
    rfl
  refine one_ (i := 12) (N := some 56) #[true, true, true, true, true, true, true, true, true, true, true, true, true, false, false] rfl rfl (by kernel_rfl) (by decide) (fun K hK => ?_)
  refine goes_ Try.func23 (by kernel_rfl) rfl #[.agg #[.int .u16 gi, .int .u32 gs]] (by rfl) rfl rfl (by simp only [List.map_toArray, List.map_cons, List.map_nil]; rfl) ?_
  with_reducible refine (number_any _ _ hg0 hg1 hg2 hg3 _).mono ?_
  rintro e wq ⟨rfl, hfq⟩
  refine ⟨_, rfl, ?_⟩
  have HB3 := Lib.hid (Fr.at hfq HB2.out (by simp))
  have HX3 := Lib.hid (Fr.at hfq HX2.out (by simp))
  have HF3 := Lib.hid (Fr.via (S := []) hfq HF2.out rfl rfl rfl rfl (by simp))
  have HC3 := Lib.hid (Fr.at hfq HC2.out (by simp))
  clear hfq
  refine hK.out _ _ ⟨(bk_cell HB3.out 1).trans rfl, (bk_cell HB3.out 2).trans rfl, (bk_cell HB3.out 3).trans rfl, (bk_cell HX3.out 14).trans rfl, (bk_cell HX3.out 15).trans rfl⟩ (fun hHeld => ?_)
  clear hK K
  refine norm_ (a' := ?_) ?_ ?_
  rotate_left
  · show Act.put _ (some 56) _ = _
    simp only [Act.put, List.setIfInBounds_toArray, List.set_cons_zero, List.set_cons_succ, i64_w, i32_w]
    rfl
  refine pure_ (i := 13) (N := some 57) (v := ?_) (a' := ?_) #[true, true, true, true, true, true, true, true, true, true, true, true, true, true, false] rfl rfl (by kernel_rfl) (fun _ _ _ h => h) (Or.inl ⟨by rfl, ?_⟩) ?_ ?_
  rotate_left
  · intro w'
    go_simp
    with_reducible rfl
  rotate_left
  · simp only [Act.put, List.setIfInBounds_toArray, List.set_cons_zero, List.set_cons_succ, i64_w, i32_w]
    rfl
  refine pure_ (i := 14) (N := some 58) (v := ?_) (a' := ?_) #[true, true, true, true, true, true, true, true, true, true, true, true, true, true, true] rfl rfl (by kernel_rfl) (fun _ _ _ h => h) (Or.inl ⟨by rfl, ?_⟩) ?_ ?_
  rotate_left
  · intro w'
    go_simp
    with_reducible rfl
  rotate_left
  · simp only [Act.put, List.setIfInBounds_toArray, List.set_cons_zero, List.set_cons_succ, i64_w, i32_w]
    rfl
  refine done_ (by kernel_rfl) ?_
  clear hHeld
  have hch := bk_cell HB3.out
  have hcx := bk_cell HX3.out
  go_wp2_with fail
  clear hch hcx
  refine start_ (n := 16) (S := fun w' => w'.cell? ⟨h, 1, none⟩ = some (.bool true) ∧ w'.cell? ⟨h, 2, none⟩ = some (.int .u16 gi) ∧ w'.cell? ⟨h, 3, none⟩ = some (.int .u32 gs) ∧ w'.cell? ⟨w.heap.size, 14, none⟩ = some (.int .u16 vi) ∧ w'.cell? ⟨w.heap.size, 15, none⟩ = some (.int .u32 vs)) (ds := []) #[false, false, false, false, false, false, false, false, false, false, false, false, false, false, false, false] (by kernel_rfl) rfl rfl ⟨(bk_cell HB3.out 1).trans rfl, (bk_cell HB3.out 2).trans rfl, (bk_cell HB3.out 3).trans rfl, (bk_cell HX3.out 14).trans rfl, (bk_cell HX3.out 15).trans rfl⟩ (fun hHeld => ?_)
  refine pure_ (i := 0) (N := some 59) (v := ?_) (a' := ?_) #[true, false, false, false, false, false, false, false, false, false, false, false, false, false, false, false] rfl rfl (by kernel_rfl) (fun _ _ _ h => h) (Or.inl ⟨by rfl, ?_⟩) ?_ ?_
  rotate_left
  · intro w'
    go_simp
    with_reducible rfl
  rotate_left
  · simp only [Act.put, List.setIfInBounds_toArray, List.set_cons_zero, List.set_cons_succ, i64_w, i32_w]
    rfl
  refine pure_ (i := 1) (N := some 60) (v := ?_) (a' := ?_) #[true, true, false, false, false, false, false, false, false, false, false, false, false, false, false, false] rfl rfl (by kernel_rfl) (fun _ _ _ h => h) (Or.inl ⟨by rfl, ?_⟩) ?_ ?_
  rotate_left
  · intro w'
    go_simp
    with_reducible rfl
  rotate_left
  · simp only [Act.put, List.setIfInBounds_toArray, List.set_cons_zero, List.set_cons_succ, i64_w, i32_w]
    rfl
  refine pure_ (i := 2) (N := some 61) (v := ?_) (a' := ?_) #[true, true, true, false, false, false, false, false, false, false, false, false, false, false, false, false] rfl rfl (by kernel_rfl) (fun _ _ _ h => h) (Or.inl ⟨by rfl, ?_⟩) ?_ ?_
  rotate_left
  · intro w'
    go_simp
    with_reducible rfl
  rotate_left
  · simp only [Act.put, List.setIfInBounds_toArray, List.set_cons_zero, List.set_cons_succ, i64_w, i32_w]
    rfl
  refine take_ (i := 3) (N := some 62) (v := ?_) (a' := ?_) #[true, true, true, true, false, false, false, false, false, false, false, false, false, false, false, false] rfl rfl (by kernel_rfl) (fun _ _ _ h => h) (Or.inl ⟨by rfl, ?_⟩) hHeld ?_ ?_
  rotate_left
  · rintro w' ⟨s0, s1, s2, s3, s4⟩
    go_simp
    with_reducible rfl
  rotate_left
  · simp only [Act.put, List.setIfInBounds_toArray, List.set_cons_zero, List.set_cons_succ, i64_w, i32_w]
    rfl
  refine pure_ (i := 4) (N := some 63) (v := ?_) (a' := ?_) #[true, true, true, true, true, false, false, false, false, false, false, false, false, false, false, false] rfl rfl (by kernel_rfl) (fun _ _ _ h => h) (Or.inl ⟨by rfl, ?_⟩) ?_ ?_
  rotate_left
  · intro w'
    go_simp
    with_reducible rfl
  rotate_left
  · simp only [Act.put, List.setIfInBounds_toArray, List.set_cons_zero, List.set_cons_succ, i64_w, i32_w]
    rfl
  refine pure_ (i := 5) (N := some 64) (v := ?_) (a' := ?_) #[true, true, true, true, true, true, false, false, false, false, false, false, false, false, false, false] rfl rfl (by kernel_rfl) (fun _ _ _ h => h) (Or.inl ⟨by rfl, ?_⟩) ?_ ?_
  rotate_left
  · intro w'
    go_simp
    with_reducible rfl
  rotate_left
  · simp only [Act.put, List.setIfInBounds_toArray, List.set_cons_zero, List.set_cons_succ, i64_w, i32_w]
    rfl
  refine pure_ (i := 6) (N := some 65) (v := ?_) (a' := ?_) #[true, true, true, true, true, true, true, false, false, false, false, false, false, false, false, false] rfl rfl (by kernel_rfl) (fun _ _ _ h => h) (Or.inl ⟨by rfl, ?_⟩) ?_ ?_
  rotate_left
  · intro w'
    go_simp
    with_reducible rfl
  rotate_left
  · simp only [Act.put, List.setIfInBounds_toArray, List.set_cons_zero, List.set_cons_succ, i64_w, i32_w]
    rfl
  refine pure_ (i := 9) (N := some 68) (v := ?_) (a' := ?_) #[true, true, true, true, true, true, true, false, false, true, false, false, false, false, false, false] rfl rfl (by kernel_rfl) (fun _ _ _ h => h) (Or.inl ⟨by rfl, ?_⟩) ?_ ?_
  rotate_left
  · intro w'
    go_simp
    with_reducible rfl
  rotate_left
  · simp only [Act.put, List.setIfInBounds_toArray, List.set_cons_zero, List.set_cons_succ, i64_w, i32_w]
    rfl
  refine pure_ (i := 10) (N := some 69) (v := ?_) (a' := ?_) #[true, true, true, true, true, true, true, false, false, true, true, false, false, false, false, false] rfl rfl (by kernel_rfl) (fun _ _ _ h => h) (Or.inl ⟨by rfl, ?_⟩) ?_ ?_
  rotate_left
  · intro w'
    go_simp
    with_reducible rfl
  rotate_left
  · simp only [Act.put, List.setIfInBounds_toArray, List.set_cons_zero, List.set_cons_succ, i64_w, i32_w]
    rfl
  refine pure_ (i := 11) (N := some 70) (v := ?_) (a' := ?_) #[true, true, true, true, true, true, true, false, false, true, true, true, false, false, false, false] rfl rfl (by kernel_rfl) (fun _ _ _ h => h) (Or.inl ⟨by rfl, ?_⟩) ?_ ?_
  rotate_left
  · intro w'
    go_simp
    with_reducible rfl
  rotate_left
  · simp only [Act.put, List.setIfInBounds_toArray, List.set_cons_zero, List.set_cons_succ, i64_w, i32_w]
    rfl
  refine take_ (i := 7) (N := some 66) (v := ?_) (a' := ?_) #[true, true, true, true, true, true, true, true, false, true, true, true, false, false, false, false] rfl rfl (by kernel_rfl) (fun _ _ _ h => h) (Or.inl ⟨by rfl, ?_⟩) hHeld ?_ ?_
  rotate_left
  · rintro w' ⟨s0, s1, s2, s3, s4⟩
    go_simp
    with_reducible rfl
  rotate_left
  · simp only [Act.put, List.setIfInBounds_toArray, List.set_cons_zero, List.set_cons_succ, i64_w, i32_w]
    rfl
  refine take_ (i := 12) (N := some 71) (v := ?_) (a' := ?_) #[true, true, true, true, true, true, true, true, false, true, true, true, true, false, false, false] rfl rfl (by kernel_rfl) (fun _ _ _ h => h) (Or.inl ⟨by rfl, ?_⟩) hHeld ?_ ?_
  rotate_left
  · rintro w' ⟨s0, s1, s2, s3, s4⟩
    go_simp
    with_reducible rfl
  rotate_left
  · simp only [Act.put, List.setIfInBounds_toArray, List.set_cons_zero, List.set_cons_succ, i64_w, i32_w]
    rfl
  refine one_ (i := 8) (N := some 67) #[true, true, true, true, true, true, true, true, true, true, true, true, true, false, false, false] rfl rfl (by kernel_rfl) (by decide) (fun K hK => ?_)
  refine goes_ Try.func23 (by kernel_rfl) rfl #[.agg #[.int .u16 vi, .int .u32 vs]] (by rfl) rfl rfl (by simp only [List.map_toArray, List.map_cons, List.map_nil]; rfl) ?_
  with_reducible refine (number_any _ _ hv0 hv1 hv2 hv3 _).mono ?_
  rintro e wq ⟨rfl, hfq⟩
  refine ⟨_, rfl, ?_⟩
  have HB4 := Lib.hid (Fr.at hfq HB3.out (by simp))
  have HX4 := Lib.hid (Fr.at hfq HX3.out (by simp))
  have HF4 := Lib.hid (Fr.via (S := []) hfq HF3.out rfl rfl rfl rfl (by simp))
  have HC4 := Lib.hid (Fr.at hfq HC3.out (by simp))
  clear hfq
  refine hK.out _ _ ⟨(bk_cell HB4.out 1).trans rfl, (bk_cell HB4.out 2).trans rfl, (bk_cell HB4.out 3).trans rfl, (bk_cell HX4.out 14).trans rfl, (bk_cell HX4.out 15).trans rfl⟩ (fun hHeld => ?_)
  clear hK K
  refine norm_ (a' := ?_) ?_ ?_
  rotate_left
  · show Act.put _ (some 67) _ = _
    simp only [Act.put, List.setIfInBounds_toArray, List.set_cons_zero, List.set_cons_succ, i64_w, i32_w]
    rfl
  refine one_ (i := 13) (N := some 72) #[true, true, true, true, true, true, true, true, true, true, true, true, true, true, false, false] rfl rfl (by kernel_rfl) (by decide) (fun K hK => ?_)
  refine goes_ Try.func23 (by kernel_rfl) rfl #[.agg #[.int .u16 gi, .int .u32 gs]] (by rfl) rfl rfl (by simp only [List.map_toArray, List.map_cons, List.map_nil]; rfl) ?_
  with_reducible refine (number_any _ _ hg0 hg1 hg2 hg3 _).mono ?_
  rintro e wq ⟨rfl, hfq⟩
  refine ⟨_, rfl, ?_⟩
  have HB5 := Lib.hid (Fr.at hfq HB4.out (by simp))
  have HX5 := Lib.hid (Fr.at hfq HX4.out (by simp))
  have HF5 := Lib.hid (Fr.via (S := []) hfq HF4.out rfl rfl rfl rfl (by simp))
  have HC5 := Lib.hid (Fr.at hfq HC4.out (by simp))
  clear hfq
  refine hK.out _ _ ⟨(bk_cell HB5.out 1).trans rfl, (bk_cell HB5.out 2).trans rfl, (bk_cell HB5.out 3).trans rfl, (bk_cell HX5.out 14).trans rfl, (bk_cell HX5.out 15).trans rfl⟩ (fun hHeld => ?_)
  clear hK K
  refine norm_ (a' := ?_) ?_ ?_
  rotate_left
  · show Act.put _ (some 72) _ = _
    simp only [Act.put, List.setIfInBounds_toArray, List.set_cons_zero, List.set_cons_succ, i64_w, i32_w]
    rfl
  refine pure_ (i := 14) (N := some 73) (v := ?_) (a' := ?_) #[true, true, true, true, true, true, true, true, true, true, true, true, true, true, true, false] rfl rfl (by kernel_rfl) (fun _ _ _ h => h) (Or.inl ⟨by rfl, ?_⟩) ?_ ?_
  rotate_left
  · intro w'
    go_simp
    with_reducible rfl
  rotate_left
  · simp only [Act.put, List.setIfInBounds_toArray, List.set_cons_zero, List.set_cons_succ, i64_w, i32_w]
    rfl
  refine pure_ (i := 15) (N := some 74) (v := ?_) (a' := ?_) #[true, true, true, true, true, true, true, true, true, true, true, true, true, true, true, true] rfl rfl (by kernel_rfl) (fun _ _ _ h => h) (Or.inl ⟨by rfl, ?_⟩) ?_ ?_
  rotate_left
  · intro w'
    go_simp
    with_reducible rfl
  rotate_left
  · simp only [Act.put, List.setIfInBounds_toArray, List.set_cons_zero, List.set_cons_succ, i64_w, i32_w]
    rfl
  refine done_ (by kernel_rfl) ?_
  clear hHeld
  have hch := bk_cell HB5.out
  have hcx := bk_cell HX5.out
  go_wp2_with fail
  refine wp_gen (fun W' => W'.heap[h]? = some (.cells #[.int .i64 sz, .bool true, .int .u16 gi, .int .u32 gs, (.slice (some ⟨cb, 0, none⟩) N cc), .string f, .string bb, .int .u16 ai, .int .u32 av, .int .u16 ti, .int .u32 ts, .bool wt, .bool ft] 60 (0, 0)) ∧ W'.heap[w.heap.size]? = some (.cells #[.int .i64 4, .int .u8 f1, .int .u8 f2, .int .u16 f3, .int .u16 f4, .int .u16 f5, .int .u8 f6, .int .u16 f7, .int .u16 f8, .int .u16 f9, .int .u8 f10, .int .u16 f11, .bool f12, .int .u8 f13, .int .u16 vi, .int .u32 vs, .int .u8 p, .int .u8 n, .string b] 36 (0, 0)) ∧ W'.heap[cb]? = some (.cells (sC cl) 9 (0, 0)) ∧ Fr w W' [h]) ⟨HB5.out, HX5.out, HC5.out, HF5.out.mono (by simp)⟩ ?_
  rintro W9 ⟨q1, q2, q3, q4⟩
  have HB9 := Lib.hid q1
  have HX9 := Lib.hid q2
  have HC9 := Lib.hid q3
  have HF9 := Lib.hid q4
  clear q1 q2 q3 q4
  have hcbh := Lib.hid hcb
  have hch := bk_cell HB9.out
  have hcx := bk_cell HX9.out
  have hcc : W9.cell? ⟨cb, p, none⟩ = some (.string cp) := (bk_cell HC9.out p).trans (sC_at HCP.out)
  have hce1 : (cp.toList != ([] : List UInt8)) = true := by rw [bne_iff_ne]; exact HCE.out
  have hce2 : (cp.toList == ([] : List UInt8)) = false := by rw [beq_eq_false_iff_ne]; exact HCE.out
  go_quiet (fail)
  clear hcc hce1 hce2
  go_wp2
  go_ret3
  exact ⟨rfl, HN.out ▸ HB9.out, HC9.out, HF9.out.drewN _⟩
end
end Go.Proofs.Ytpfabaoefkokjaa
