/-
  The document's glue: frames that Put takes (of a newer one).
-/
import Derived.Test.YtpfabaoefkokjaaGRefD
namespace Go.Proofs.Ytpfabaoefkokjaa
open Go.RowKit Go.Proofs.YtpfabaoefkokjaaW.PrintLast
set_option linter.unusedVariables false
set_option linter.unusedSimpArgs false
section
variable (f1 f2 f3 f4 f5 f6 f7 f8 f9 f10 f11 : Int) (f12 : Bool) (f13 : Int)
variable (h sz : Nat) (is : Bool) (gi gs : Int) (came : Value) (f bb : ByteArray) (ai av ti ts : Int) (wt ft : Bool) (vi vs : Int) (p : Nat) (n : Int) (b : ByteArray) (cb cc : Nat) (w : World)
variable (hv0 : 0 ≤ vi) (hv1 : vi ≤ 65535) (hv2 : 0 ≤ vs) (hv3 : vs ≤ 4294967295) (hg0 : 0 ≤ gi) (hg1 : gi ≤ 65535) (hg2 : 0 ≤ gs) (hg3 : gs ≤ 4294967295)
include hv0 hv1 hv2 hv3 hg0 hg1 hg2 hg3

set_option maxRecDepth 100000 in
set_option maxHeartbeats 4000000 in
theorem rput_newT (hs : w.heap[h]? = some (.cells #[.int .i64 sz, .bool true, .int .u16 gi, .int .u32 gs, came, .string f, .string bb, .int .u16 ai, .int .u32 av, .int .u16 ti, .int .u32 ts, .bool wt, .bool ft] 60 (0, 0))) (h1 : 1 ≤ sz) (h2 : sz ≤ 64) (hp : p ≤ 255) (hn0 : 0 ≤ n) (hn1 : n ≤ 255) (hn : n = (((sz + 15) / 16 : Nat) : Int)) (hps : 16 * p < sz) (hbs : b.size = min 16 (sz - 16 * p)) (ord : numV gi gs < numV vi vs) :
    Calls Try.prog 32 #[.pointer (some ⟨h, 0, none⟩), .agg #[.int .i64 4, .int .u8 f1, .int .u8 f2, .int .u16 f3, .int .u16 f4, .int .u16 f5, .int .u8 f6, .int .u16 f7, .int .u16 f8, .int .u16 f9, .int .u8 f10, .int .u16 f11, .bool f12, .int .u8 f13, .int .u16 vi, .int .u32 vs, .int .u8 p, .int .u8 n, .string b]] w fun e w' => e = .returned (.tuple #[.string (catIf ((List.replicate ((sz + 15) / 16) ⟨#[]⟩).set p b) ((sz + 15) / 16)), .bool (rdone ((List.replicate ((sz + 15) / 16) ⟨#[]⟩).set p b)), .int .i64 0]) ∧ ExBC (fun cb cc => w'.heap[h]? = some (.cells #[.int .i64 sz, .bool true, .int .u16 vi, .int .u32 vs, (.slice (some ⟨cb, 0, none⟩) ((sz + 15) / 16) cc), .string f, .string bb, .int .u16 ai, .int .u32 av, .int .u16 ti, .int .u32 ts, .bool wt, .bool ft] 60 (0, 0)) ∧ w'.heap[cb]? = some (.cells (sC ((List.replicate ((sz + 15) / 16) ⟨#[]⟩).set p b)) 9 (0, 0)) ∧ Fr w w' [h, cb] ∧ w.heap.size ≤ cb) := by
  have HB := Lib.hid (bk_alloc hs (.cells #[.int .i64 4, .int .u8 f1, .int .u8 f2, .int .u16 f3, .int .u16 f4, .int .u16 f5, .int .u8 f6, .int .u16 f7, .int .u16 f8, .int .u16 f9, .int .u8 f10, .int .u16 f11, .bool f12, .int .u8 f13, .int .u16 vi, .int .u32 vs, .int .u8 p, .int .u8 n, .string b] 36))
  have HX := Lib.hid (bk_new w (.cells #[.int .i64 4, .int .u8 f1, .int .u8 f2, .int .u16 f3, .int .u16 f4, .int .u16 f5, .int .u8 f6, .int .u16 f7, .int .u16 f8, .int .u16 f9, .int .u8 f10, .int .u16 f11, .bool f12, .int .u8 f13, .int .u16 vi, .int .u32 vs, .int .u8 p, .int .u8 n, .string b] 36))
  have HF := Lib.hid ((Fr.refl w []).alloc (.cells #[.int .i64 4, .int .u8 f1, .int .u8 f2, .int .u16 f3, .int .u16 f4, .int .u16 f5, .int .u8 f6, .int .u16 f7, .int .u16 f8, .int .u16 f9, .int .u8 f10, .int .u16 f11, .bool f12, .int .u8 f13, .int .u16 vi, .int .u32 vs, .int .u8 p, .int .u8 n, .string b] 36))
  have hxh := Lib.hid (show h ≠ w.heap.size by have := bk_lt hs; omega)
  obtain ⟨N, hN⟩ : ∃ N, N = (sz + 15) / 16 := ⟨_, rfl⟩
  have HN := Lib.hid hN
  have hw1 : IntKind.i64.wrap (p : Int) = p := IntWalk.i64_in _ (by omega)
  have hw2 : IntKind.i64.wrap n = n := IntWalk.i64_in _ (by omega)
  have hpN : p < N := by omega
  have hpN' : (p : Int) < N := by omega
  have hpN2 : ¬ (N : Int) ≤ p := by omega
  have hnN : (n != (N : Int)) = false := by rw [bne_eq_false_iff_eq]; omega
  have hnN2 : (n == (N : Int)) = true := by rw [beq_iff_eq]; omega
  have hN4 : N ≤ 4 := by omega
  have HBS := Lib.hid hbs
  have HPS := Lib.hid hps
  clear hn hbs hps
  have ho1 : decide (numV vi vs < numV gi gs) = false := by simp; omega
  have ho2 : decide (numV gi gs < numV vi vs) = true := by simp; omega
  clear ord
  rw [← hN]
  have hs0 := Lib.hid hs
  clear hs hN
  go_enter Try.func32, Try.ntmps32
  have hch := bk_cell HB.out
  have hcx := bk_cell HX.out
  have hhl := bk_lt HB.out
  go_wp2_with (go_at_call 44; refine (lengths_any sz h1 h2 _).mono ?_; rintro e w1 ⟨lg, lc, rfl, hlg, hlr, hf1⟩; rw [← HN.out])
  have HB1 := Lib.hid (bk_keep HB.out hf1 (by simp))
  have HX1 := Lib.hid (bk_keep HX.out hf1 (by simp))
  have HF1 := Lib.hid (HF.out.step hf1)
  have HL := Lib.hid hlr
  have HLG := Lib.hid hlg
  clear hch hcx hhl hf1 hlr hlg
  have hch := bk_cell HB1.out
  have hcx := bk_cell HX1.out
  obtain ⟨lp, hlp, hls⟩ := lp_at sz p (by have := HPS.out; omega)
  have hlc : w1.cell? ⟨lg, p, none⟩ = some (.string lp) := by
    have := HL.out p (.string lp) hlp
    rwa [Nat.zero_add] at this
  have hbl1 : ((b.size : Int) != (lp.size : Int)) = false := by rw [bne_eq_false_iff_eq, hls]; have := HBS.out; omega
  have hbl2 : (b.size == lp.size) = true := by rw [beq_iff_eq, hls]; have := HBS.out; omega
  have hbl3 : (b.size != lp.size) = false := by rw [bne_eq_false_iff_eq, hls]; have := HBS.out; omega
  clear hlp hls
  go_quiet (fail)
  clear hlc hbl1 hbl2 hbl3
  go_wp2_with fail
  clear hch hcx
  refine start_ (n := 15) (S := fun w' => w'.cell? ⟨h, 1, none⟩ = some (.bool true) ∧ w'.cell? ⟨h, 2, none⟩ = some (.int .u16 gi) ∧ w'.cell? ⟨h, 3, none⟩ = some (.int .u32 gs) ∧ w'.cell? ⟨w.heap.size, 14, none⟩ = some (.int .u16 vi) ∧ w'.cell? ⟨w.heap.size, 15, none⟩ = some (.int .u32 vs)) (ds := []) #[false, false, false, false, false, false, false, false, false, false, false, false, false, false, false] (by kernel_rfl) rfl rfl ⟨(bk_cell HB1.out 1).trans rfl, (bk_cell HB1.out 2).trans rfl, (bk_cell HB1.out 3).trans rfl, (bk_cell HX1.out 14).trans rfl, (bk_cell HX1.out 15).trans rfl⟩ (fun hHeld => ?_)
  refine pure_ (i := 0) (N := some 44) (v := ?_) (a' := ?_) #[true, false, false, false, false, false, false, false, false, false, false, false, false, false, false] rfl rfl (by kernel_rfl) (fun _ _ _ h => h) (Or.inl ⟨by rfl, ?_⟩) ?_ ?_
  rotate_left
  · intro w'
    go_simp
    with_reducible rfl
  rotate_left
  · simp only [Act.put, List.setIfInBounds_toArray, List.set_cons_zero, List.set_cons_succ, i64_w, i32_w]
    rfl
  refine pure_ (i := 1) (N := some 45) (v := ?_) (a' := ?_) #[true, true, false, false, false, false, false, false, false, false, false, false, false, false, false] rfl rfl (by kernel_rfl) (fun _ _ _ h => h) (Or.inl ⟨by rfl, ?_⟩) ?_ ?_
  rotate_left
  · intro w'
    go_simp
    with_reducible rfl
  rotate_left
  · simp only [Act.put, List.setIfInBounds_toArray, List.set_cons_zero, List.set_cons_succ, i64_w, i32_w]
    rfl
  refine pure_ (i := 2) (N := some 46) (v := ?_) (a' := ?_) #[true, true, true, false, false, false, false, false, false, false, false, false, false, false, false] rfl rfl (by kernel_rfl) (fun _ _ _ h => h) (Or.inl ⟨by rfl, ?_⟩) ?_ ?_
  rotate_left
  · intro w'
    go_simp
    with_reducible rfl
  rotate_left
  · simp only [Act.put, List.setIfInBounds_toArray, List.set_cons_zero, List.set_cons_succ, i64_w, i32_w]
    rfl
  refine take_ (i := 3) (N := some 47) (v := ?_) (a' := ?_) #[true, true, true, true, false, false, false, false, false, false, false, false, false, false, false] rfl rfl (by kernel_rfl) (fun _ _ _ h => h) (Or.inl ⟨by rfl, ?_⟩) hHeld ?_ ?_
  rotate_left
  · rintro w' ⟨s0, s1, s2, s3, s4⟩
    go_simp
    with_reducible rfl
  rotate_left
  · simp only [Act.put, List.setIfInBounds_toArray, List.set_cons_zero, List.set_cons_succ, i64_w, i32_w]
    rfl
  refine pure_ (i := 4) (N := some 48) (v := ?_) (a' := ?_) #[true, true, true, true, true, false, false, false, false, false, false, false, false, false, false] rfl rfl (by kernel_rfl) (fun _ _ _ h => h) (Or.inl ⟨by rfl, ?_⟩) ?_ ?_
  rotate_left
  · intro w'
    go_simp
    with_reducible rfl
  rotate_left
  · simp only [Act.put, List.setIfInBounds_toArray, List.set_cons_zero, List.set_cons_succ, i64_w, i32_w]
    rfl
  refine pure_ (i := 5) (N := some 49) (v := ?_) (a' := ?_) #[true, true, true, true, true, true, false, false, false, false, false, false, false, false, false] rfl rfl (by kernel_rfl) (fun _ _ _ h => h) (Or.inl ⟨by rfl, ?_⟩) ?_ ?_
  rotate_left
  · intro w'
    go_simp
    with_reducible rfl
  rotate_left
  · simp only [Act.put, List.setIfInBounds_toArray, List.set_cons_zero, List.set_cons_succ, i64_w, i32_w]
    rfl
  refine pure_ (i := 8) (N := some 52) (v := ?_) (a' := ?_) #[true, true, true, true, true, true, false, false, true, false, false, false, false, false, false] rfl rfl (by kernel_rfl) (fun _ _ _ h => h) (Or.inl ⟨by rfl, ?_⟩) ?_ ?_
  rotate_left
  · intro w'
    go_simp
    with_reducible rfl
  rotate_left
  · simp only [Act.put, List.setIfInBounds_toArray, List.set_cons_zero, List.set_cons_succ, i64_w, i32_w]
    rfl
  refine pure_ (i := 9) (N := some 53) (v := ?_) (a' := ?_) #[true, true, true, true, true, true, false, false, true, true, false, false, false, false, false] rfl rfl (by kernel_rfl) (fun _ _ _ h => h) (Or.inl ⟨by rfl, ?_⟩) ?_ ?_
  rotate_left
  · intro w'
    go_simp
    with_reducible rfl
  rotate_left
  · simp only [Act.put, List.setIfInBounds_toArray, List.set_cons_zero, List.set_cons_succ, i64_w, i32_w]
    rfl
  refine pure_ (i := 10) (N := some 54) (v := ?_) (a' := ?_) #[true, true, true, true, true, true, false, false, true, true, true, false, false, false, false] rfl rfl (by kernel_rfl) (fun _ _ _ h => h) (Or.inl ⟨by rfl, ?_⟩) ?_ ?_
  rotate_left
  · intro w'
    go_simp
    with_reducible rfl
  rotate_left
  · simp only [Act.put, List.setIfInBounds_toArray, List.set_cons_zero, List.set_cons_succ, i64_w, i32_w]
    rfl
  refine take_ (i := 6) (N := some 50) (v := ?_) (a' := ?_) #[true, true, true, true, true, true, true, false, true, true, true, false, false, false, false] rfl rfl (by kernel_rfl) (fun _ _ _ h => h) (Or.inl ⟨by rfl, ?_⟩) hHeld ?_ ?_
  rotate_left
  · rintro w' ⟨s0, s1, s2, s3, s4⟩
    go_simp
    with_reducible rfl
  rotate_left
  · simp only [Act.put, List.setIfInBounds_toArray, List.set_cons_zero, List.set_cons_succ, i64_w, i32_w]
    rfl
  refine take_ (i := 11) (N := some 55) (v := ?_) (a' := ?_) #[true, true, true, true, true, true, true, false, true, true, true, true, false, false, false] rfl rfl (by kernel_rfl) (fun _ _ _ h => h) (Or.inl ⟨by rfl, ?_⟩) hHeld ?_ ?_
  rotate_left
  · rintro w' ⟨s0, s1, s2, s3, s4⟩
    go_simp
    with_reducible rfl
  rotate_left
  · simp only [Act.put, List.setIfInBounds_toArray, List.set_cons_zero, List.set_cons_succ, i64_w, i32_w]
    rfl
  refine one_ (i := 7) (N := some 51) #[true, true, true, true, true, true, true, true, true, true, true, true, false, false, false] rfl rfl (by kernel_rfl) (by decide) (fun K hK => ?_)
  refine goes_ Try.func23 (by kernel_rfl) rfl #[.agg #[.int .u16 vi, .int .u32 vs]] (by rfl) rfl rfl (by simp only [List.map_toArray, List.map_cons, List.map_nil]; rfl) ?_
  with_reducible refine (number_any _ _ hv0 hv1 hv2 hv3 _).mono ?_
  rintro e wq ⟨rfl, hfq⟩
  refine ⟨_, rfl, ?_⟩
  have HB2 := Lib.hid (Fr.at hfq HB1.out (by simp))
  have HX2 := Lib.hid (Fr.at hfq HX1.out (by simp))
  have HF2 := Lib.hid (Fr.via (S := []) hfq HF1.out rfl rfl rfl rfl (by simp))
  clear hfq
  refine hK.out _ _ ⟨(bk_cell HB2.out 1).trans rfl, (bk_cell HB2.out 2).trans rfl, (bk_cell HB2.out 3).trans rfl, (bk_cell HX2.out 14).trans rfl, (bk_cell HX2.out 15).trans rfl⟩ (fun hHeld => ?_)
  clear hK K
  refine norm_ (a' := ?_) ?_ ?_
  rotate_left
  · show Act.put _ (some 51) _ = _
    simp only [Act.put, List.setIfInBounds_toArray, List.set_cons_zero, List.set_cons_succ, i64_w, i32_w]
    rfl
  refine one_ (i := 12) (N := some 56) #[true, true, true, true, true, true, true, true, true, true, true, true, true, false, false] rfl rfl (by kernel_rfl) (by decide) (fun K hK => ?_)
  refine goes_ Try.func23 (by kernel_rfl) rfl #[.agg #[.int .u16 gi, .int .u32 gs]] (by rfl) rfl rfl (by simp only [List.map_toArray, List.map_cons, List.map_nil]; rfl) ?_
  with_reducible refine (number_any _ _ hg0 hg1 hg2 hg3 _).mono ?_
  rintro e wq ⟨rfl, hfq⟩
  refine ⟨_, rfl, ?_⟩
  have HB3 := Lib.hid (Fr.at hfq HB2.out (by simp))
  have HX3 := Lib.hid (Fr.at hfq HX2.out (by simp))
  have HF3 := Lib.hid (Fr.via (S := []) hfq HF2.out rfl rfl rfl rfl (by simp))
  clear hfq
  refine hK.out _ _ ⟨(bk_cell HB3.out 1).trans rfl, (bk_cell HB3.out 2).trans rfl, (bk_cell HB3.out 3).trans rfl, (bk_cell HX3.out 14).trans rfl, (bk_cell HX3.out 15).trans rfl⟩ (fun hHeld => ?_)
  clear hK K
  refine norm_ (a' := ?_) ?_ ?_
  rotate_left
  · show Act.put _ (some 56) _ = _
    simp only [Act.put, List.setIfInBounds_toArray, List.set_cons_zero, List.set_cons_succ, i64_w, i32_w]
    rfl
  refine pure_ (i := 13) (N := some 57) (v := ?_) (a' := ?_) #[true, true, true, true, true, true, true, true, true, true, true, true, true, true, false] rfl rfl (by kernel_rfl) (fun _ _ _ h => h) (Or.inl ⟨by rfl, ?_⟩) ?_ ?_
  rotate_left
  · intro w'
    go_simp
    with_reducible rfl
  rotate_left
  · simp only [Act.put, List.setIfInBounds_toArray, List.set_cons_zero, List.set_cons_succ, i64_w, i32_w]
    rfl
  refine pure_ (i := 14) (N := some 58) (v := ?_) (a' := ?_) #[true, true, true, true, true, true, true, true, true, true, true, true, true, true, true] rfl rfl (by kernel_rfl) (fun _ _ _ h => h) (Or.inl ⟨by rfl, ?_⟩) ?_ ?_
  rotate_left
  · intro w'
    go_simp
    with_reducible rfl
  rotate_left
  · simp only [Act.put, List.setIfInBounds_toArray, List.set_cons_zero, List.set_cons_succ, i64_w, i32_w]
    rfl
  refine done_ (by kernel_rfl) ?_
  clear hHeld
  have hch := bk_cell HB3.out
  have hcx := bk_cell HX3.out
  go_wp2_with fail
  clear hch hcx
  refine start_ (n := 16) (S := fun w' => w'.cell? ⟨h, 1, none⟩ = some (.bool true) ∧ w'.cell? ⟨h, 2, none⟩ = some (.int .u16 gi) ∧ w'.cell? ⟨h, 3, none⟩ = some (.int .u32 gs) ∧ w'.cell? ⟨w.heap.size, 14, none⟩ = some (.int .u16 vi) ∧ w'.cell? ⟨w.heap.size, 15, none⟩ = some (.int .u32 vs)) (ds := []) #[false, false, false, false, false, false, false, false, false, false, false, false, false, false, false, false] (by kernel_rfl) rfl rfl ⟨(bk_cell HB3.out 1).trans rfl, (bk_cell HB3.out 2).trans rfl, (bk_cell HB3.out 3).trans rfl, (bk_cell HX3.out 14).trans rfl, (bk_cell HX3.out 15).trans rfl⟩ (fun hHeld => ?_)
  refine pure_ (i := 0) (N := some 59) (v := ?_) (a' := ?_) #[true, false, false, false, false, false, false, false, false, false, false, false, false, false, false, false] rfl rfl (by kernel_rfl) (fun _ _ _ h => h) (Or.inl ⟨by rfl, ?_⟩) ?_ ?_
  rotate_left
  · intro w'
    go_simp
    with_reducible rfl
  rotate_left
  · simp only [Act.put, List.setIfInBounds_toArray, List.set_cons_zero, List.set_cons_succ, i64_w, i32_w]
    rfl
  refine pure_ (i := 1) (N := some 60) (v := ?_) (a' := ?_) #[true, true, false, false, false, false, false, false, false, false, false, false, false, false, false, false] rfl rfl (by kernel_rfl) (fun _ _ _ h => h) (Or.inl ⟨by rfl, ?_⟩) ?_ ?_
  rotate_left
  · intro w'
    go_simp
    with_reducible rfl
  rotate_left
  · simp only [Act.put, List.setIfInBounds_toArray, List.set_cons_zero, List.set_cons_succ, i64_w, i32_w]
    rfl
  refine pure_ (i := 2) (N := some 61) (v := ?_) (a' := ?_) #[true, true, true, false, false, false, false, false, false, false, false, false, false, false, false, false] rfl rfl (by kernel_rfl) (fun _ _ _ h => h) (Or.inl ⟨by rfl, ?_⟩) ?_ ?_
  rotate_left
  · intro w'
    go_simp
    with_reducible rfl
  rotate_left
  · simp only [Act.put, List.setIfInBounds_toArray, List.set_cons_zero, List.set_cons_succ, i64_w, i32_w]
    rfl
  refine take_ (i := 3) (N := some 62) (v := ?_) (a' := ?_) #[true, true, true, true, false, false, false, false, false, false, false, false, false, false, false, false] rfl rfl (by kernel_rfl) (fun _ _ _ h => h) (Or.inl ⟨by rfl, ?_⟩) hHeld ?_ ?_
  rotate_left
  · rintro w' ⟨s0, s1, s2, s3, s4⟩
    go_simp
    with_reducible rfl
  rotate_left
  · simp only [Act.put, List.setIfInBounds_toArray, List.set_cons_zero, List.set_cons_succ, i64_w, i32_w]
    rfl
  refine pure_ (i := 4) (N := some 63) (v := ?_) (a' := ?_) #[true, true, true, true, true, false, false, false, false, false, false, false, false, false, false, false] rfl rfl (by kernel_rfl) (fun _ _ _ h => h) (Or.inl ⟨by rfl, ?_⟩) ?_ ?_
  rotate_left
  · intro w'
    go_simp
    with_reducible rfl
  rotate_left
  · simp only [Act.put, List.setIfInBounds_toArray, List.set_cons_zero, List.set_cons_succ, i64_w, i32_w]
    rfl
  refine pure_ (i := 5) (N := some 64) (v := ?_) (a' := ?_) #[true, true, true, true, true, true, false, false, false, false, false, false, false, false, false, false] rfl rfl (by kernel_rfl) (fun _ _ _ h => h) (Or.inl ⟨by rfl, ?_⟩) ?_ ?_
  rotate_left
  · intro w'
    go_simp
    with_reducible rfl
  rotate_left
  · simp only [Act.put, List.setIfInBounds_toArray, List.set_cons_zero, List.set_cons_succ, i64_w, i32_w]
    rfl
  refine pure_ (i := 6) (N := some 65) (v := ?_) (a' := ?_) #[true, true, true, true, true, true, true, false, false, false, false, false, false, false, false, false] rfl rfl (by kernel_rfl) (fun _ _ _ h => h) (Or.inl ⟨by rfl, ?_⟩) ?_ ?_
  rotate_left
  · intro w'
    go_simp
    with_reducible rfl
  rotate_left
  · simp only [Act.put, List.setIfInBounds_toArray, List.set_cons_zero, List.set_cons_succ, i64_w, i32_w]
    rfl
  refine pure_ (i := 9) (N := some 68) (v := ?_) (a' := ?_) #[true, true, true, true, true, true, true, false, false, true, false, false, false, false, false, false] rfl rfl (by kernel_rfl) (fun _ _ _ h => h) (Or.inl ⟨by rfl, ?_⟩) ?_ ?_
  rotate_left
  · intro w'
    go_simp
    with_reducible rfl
  rotate_left
  · simp only [Act.put, List.setIfInBounds_toArray, List.set_cons_zero, List.set_cons_succ, i64_w, i32_w]
    rfl
  refine pure_ (i := 10) (N := some 69) (v := ?_) (a' := ?_) #[true, true, true, true, true, true, true, false, false, true, true, false, false, false, false, false] rfl rfl (by kernel_rfl) (fun _ _ _ h => h) (Or.inl ⟨by rfl, ?_⟩) ?_ ?_
  rotate_left
  · intro w'
    go_simp
    with_reducible rfl
  rotate_left
  · simp only [Act.put, List.setIfInBounds_toArray, List.set_cons_zero, List.set_cons_succ, i64_w, i32_w]
    rfl
  refine pure_ (i := 11) (N := some 70) (v := ?_) (a' := ?_) #[true, true, true, true, true, true, true, false, false, true, true, true, false, false, false, false] rfl rfl (by kernel_rfl) (fun _ _ _ h => h) (Or.inl ⟨by rfl, ?_⟩) ?_ ?_
  rotate_left
  · intro w'
    go_simp
    with_reducible rfl
  rotate_left
  · simp only [Act.put, List.setIfInBounds_toArray, List.set_cons_zero, List.set_cons_succ, i64_w, i32_w]
    rfl
  refine take_ (i := 7) (N := some 66) (v := ?_) (a' := ?_) #[true, true, true, true, true, true, true, true, false, true, true, true, false, false, false, false] rfl rfl (by kernel_rfl) (fun _ _ _ h => h) (Or.inl ⟨by rfl, ?_⟩) hHeld ?_ ?_
  rotate_left
  · rintro w' ⟨s0, s1, s2, s3, s4⟩
    go_simp
    with_reducible rfl
  rotate_left
  · simp only [Act.put, List.setIfInBounds_toArray, List.set_cons_zero, List.set_cons_succ, i64_w, i32_w]
    rfl
  refine take_ (i := 12) (N := some 71) (v := ?_) (a' := ?_) #[true, true, true, true, true, true, true, true, false, true, true, true, true, false, false, false] rfl rfl (by kernel_rfl) (fun _ _ _ h => h) (Or.inl ⟨by rfl, ?_⟩) hHeld ?_ ?_
  rotate_left
  · rintro w' ⟨s0, s1, s2, s3, s4⟩
    go_simp
    with_reducible rfl
  rotate_left
  · simp only [Act.put, List.setIfInBounds_toArray, List.set_cons_zero, List.set_cons_succ, i64_w, i32_w]
    rfl
  refine one_ (i := 8) (N := some 67) #[true, true, true, true, true, true, true, true, true, true, true, true, true, false, false, false] rfl rfl (by kernel_rfl) (by decide) (fun K hK => ?_)
  refine goes_ Try.func23 (by kernel_rfl) rfl #[.agg #[.int .u16 vi, .int .u32 vs]] (by rfl) rfl rfl (by simp only [List.map_toArray, List.map_cons, List.map_nil]; rfl) ?_
  with_reducible refine (number_any _ _ hv0 hv1 hv2 hv3 _).mono ?_
  rintro e wq ⟨rfl, hfq⟩
  refine ⟨_, rfl, ?_⟩
  have HB4 := Lib.hid (Fr.at hfq HB3.out (by simp))
  have HX4 := Lib.hid (Fr.at hfq HX3.out (by simp))
  have HF4 := Lib.hid (Fr.via (S := []) hfq HF3.out rfl rfl rfl rfl (by simp))
  clear hfq
  refine hK.out _ _ ⟨(bk_cell HB4.out 1).trans rfl, (bk_cell HB4.out 2).trans rfl, (bk_cell HB4.out 3).trans rfl, (bk_cell HX4.out 14).trans rfl, (bk_cell HX4.out 15).trans rfl⟩ (fun hHeld => ?_)
  clear hK K
  refine norm_ (a' := ?_) ?_ ?_
  rotate_left
  · show Act.put _ (some 67) _ = _
    simp only [Act.put, List.setIfInBounds_toArray, List.set_cons_zero, List.set_cons_succ, i64_w, i32_w]
    rfl
  refine one_ (i := 13) (N := some 72) #[true, true, true, true, true, true, true, true, true, true, true, true, true, true, false, false] rfl rfl (by kernel_rfl) (by decide) (fun K hK => ?_)
  refine goes_ Try.func23 (by kernel_rfl) rfl #[.agg #[.int .u16 gi, .int .u32 gs]] (by rfl) rfl rfl (by simp only [List.map_toArray, List.map_cons, List.map_nil]; rfl) ?_
  with_reducible refine (number_any _ _ hg0 hg1 hg2 hg3 _).mono ?_
  rintro e wq ⟨rfl, hfq⟩
  refine ⟨_, rfl, ?_⟩
  have HB5 := Lib.hid (Fr.at hfq HB4.out (by simp))
  have HX5 := Lib.hid (Fr.at hfq HX4.out (by simp))
  have HF5 := Lib.hid (Fr.via (S := []) hfq HF4.out rfl rfl rfl rfl (by simp))
  clear hfq
  refine hK.out _ _ ⟨(bk_cell HB5.out 1).trans rfl, (bk_cell HB5.out 2).trans rfl, (bk_cell HB5.out 3).trans rfl, (bk_cell HX5.out 14).trans rfl, (bk_cell HX5.out 15).trans rfl⟩ (fun hHeld => ?_)
  clear hK K
  refine norm_ (a' := ?_) ?_ ?_
  rotate_left
  · show Act.put _ (some 72) _ = _
    simp only [Act.put, List.setIfInBounds_toArray, List.set_cons_zero, List.set_cons_succ, i64_w, i32_w]
    rfl
  refine pure_ (i := 14) (N := some 73) (v := ?_) (a' := ?_) #[true, true, true, true, true, true, true, true, true, true, true, true, true, true, true, false] rfl rfl (by kernel_rfl) (fun _ _ _ h => h) (Or.inl ⟨by rfl, ?_⟩) ?_ ?_
  rotate_left
  · intro w'
    go_simp
    with_reducible rfl
  rotate_left
  · simp only [Act.put, List.setIfInBounds_toArray, List.set_cons_zero, List.set_cons_succ, i64_w, i32_w]
    rfl
  refine pure_ (i := 15) (N := some 74) (v := ?_) (a' := ?_) #[true, true, true, true, true, true, true, true, true, true, true, true, true, true, true, true] rfl rfl (by kernel_rfl) (fun _ _ _ h => h) (Or.inl ⟨by rfl, ?_⟩) ?_ ?_
  rotate_left
  · intro w'
    go_simp
    with_reducible rfl
  rotate_left
  · simp only [Act.put, List.setIfInBounds_toArray, List.set_cons_zero, List.set_cons_succ, i64_w, i32_w]
    rfl
  refine done_ (by kernel_rfl) ?_
  clear hHeld
  have hch := bk_cell HB5.out
  have hcx := bk_cell HX5.out
  have hfh := bk_free HB5.out
  have hhl := bk_lt HB5.out
  go_wp2_with ((with_reducible refine gate_op (.makeSlice 22 (.tmp 85) (.tmp 85)) rfl ?_); go_must (refine ev_make 22 (.tmp 85) (.tmp 85) rfl rfl rfl (z := .string ⟨#[]⟩) (size := 1) (bytes := 16) Try.underlying22 (by kernel_rfl) (n := N) rfl rfl (by omega) (by omega) (cs := sC (List.replicate N ⟨#[]⟩)) (by rw [show (Value.string ⟨#[]⟩).cells = #[Value.string ⟨#[]⟩] from rfl, Nat.mul_one, made_one]; simp [sC]) ?_))
  refine wp_gen (fun W' => ∃ cb cc, W'.heap[h]? = some (.cells #[.int .i64 sz, .bool true, .int .u16 vi, .int .u32 vs, (.slice (some ⟨cb, 0, none⟩) N cc), .string f, .string bb, .int .u16 ai, .int .u32 av, .int .u16 ti, .int .u32 ts, .bool wt, .bool ft] 60 (0, 0)) ∧ W'.heap[w.heap.size]? = some (.cells #[.int .i64 4, .int .u8 f1, .int .u8 f2, .int .u16 f3, .int .u16 f4, .int .u16 f5, .int .u8 f6, .int .u16 f7, .int .u16 f8, .int .u16 f9, .int .u8 f10, .int .u16 f11, .bool f12, .int .u8 f13, .int .u16 vi, .int .u32 vs, .int .u8 p, .int .u8 n, .string b] 36 (0, 0)) ∧ W'.heap[cb]? = some (.cells (sC (List.replicate N ⟨#[]⟩)) 9 (0, 0)) ∧ Fr w W' [h] ∧ w.heap.size < cb) ⟨wq.heap.size, N, (by first | exact bk_alloc (bk_put (bk_put (bk_put (bk_put HB5.out 1 _ rfl) 2 _ rfl) 3 _ rfl) 4 _ rfl) _ | exact bk_drewN (bk_alloc (bk_put (bk_put (bk_put (bk_put HB5.out 1 _ rfl) 2 _ rfl) 3 _ rfl) 4 _ rfl) _) _), (by first | exact bk_alloc (bk_far (bk_far (bk_far (bk_far HX5.out (by simpa using hxh.out.symm) _) (by simpa using hxh.out.symm) _) (by simpa using hxh.out.symm) _) (by simpa using hxh.out.symm) _) _ | exact bk_drewN (bk_alloc (bk_far (bk_far (bk_far (bk_far HX5.out (by simpa using hxh.out.symm) _) (by simpa using hxh.out.symm) _) (by simpa using hxh.out.symm) _) (by simpa using hxh.out.symm) _) _) _), (by first | exact bk_newAt (by simp) | exact bk_drewN (bk_newAt (by simp)) _), ?_, ?_⟩ ?_
  · first | exact ((((HF5.out.mono (S := [h]) (by simp)).setIn (by simp) _).setIn (by simp) _).setIn (by simp) _ |>.setIn (by simp) _).alloc _ | exact Fr.drewN (((((HF5.out.mono (S := [h]) (by simp)).setIn (by simp) _).setIn (by simp) _).setIn (by simp) _ |>.setIn (by simp) _).alloc _) _
  · have := bk_lt HX5.out; omega
  rintro W9 ⟨cb, cc, q1, q2, q3, q4, q5⟩
  have HB9 := Lib.hid q1
  have HX9 := Lib.hid q2
  have HC9 := Lib.hid q3
  have HF9 := Lib.hid q4
  clear q1 q2 q3 q4
  have hcbh := Lib.hid (show cb ≠ h by have := bk_lt hs0.out; omega)
  have hxc := Lib.hid (show cb ≠ w.heap.size by omega)
  have hcbn := Lib.hid q5
  clear q5
  have hch := bk_cell HB9.out
  have hcx := bk_cell HX9.out
  have HCP := Lib.hid (show (List.replicate N (⟨#[]⟩ : ByteArray))[p]? = some ⟨#[]⟩ by simp [hpN])
  have HCE := Lib.hid (show (⟨#[]⟩ : ByteArray).toList = [] by rw [ByteArray.toList_eq])
  have HCL := Lib.hid (show (List.replicate N (⟨#[]⟩ : ByteArray)).length = N by simp)
  have HC16 := Lib.hid (show ∀ s, s ∈ (List.replicate N (⟨#[]⟩ : ByteArray)) → s.size ≤ 16 by intro s hs; rw [(List.mem_replicate.1 hs).2]; decide)
  have hcc : W9.cell? ⟨cb, p, none⟩ = some (.string (⟨#[]⟩ : ByteArray)) := (bk_cell HC9.out p).trans (sC_at HCP.out)
  have hce1 : ((⟨#[]⟩ : ByteArray).toList != ([] : List UInt8)) = false := by rw [bne_eq_false_iff_eq]; exact HCE.out
  have hce2 : ((⟨#[]⟩ : ByteArray).toList == ([] : List UInt8)) = true := by rw [beq_iff_eq]; exact HCE.out
  go_quiet (fail)
  clear hcc hce1 hce2
  go_wp2_with fail
  clear hch hcx
  have hccp : W9.cell? ⟨cb, p, none⟩ = some (.string (⟨#[]⟩ : ByteArray)) := (bk_cell HC9.out p).trans (sC_at HCP.out)
  have hfc := bk_free HC9.out
  refine start_ (n := 10) (S := fun w' => w'.cell? ⟨h, 4, none⟩ = some (.slice (some ⟨cb, 0, none⟩) N cc) ∧ w'.cell? ⟨w.heap.size, 16, none⟩ = some (.int .u8 p) ∧ w'.cell? ⟨w.heap.size, 18, none⟩ = some (.string b)) (ds := [9]) #[false, false, false, false, false, false, false, false, false, false] (by kernel_rfl) rfl rfl ⟨(bk_cell HB9.out 4).trans rfl, (bk_cell HX9.out 16).trans rfl, (bk_cell HX9.out 18).trans rfl⟩ (fun hHeld => ?_)
  refine pure_ (i := 0) (N := some 98) (v := ?_) (a' := ?_) #[true, false, false, false, false, false, false, false, false, false] rfl rfl (by kernel_rfl) (fun _ _ _ h => h) (Or.inl ⟨by rfl, ?_⟩) ?_ ?_
  rotate_left
  · intro w'
    go_simp
    with_reducible rfl
  rotate_left
  · simp only [Act.put, List.setIfInBounds_toArray, List.set_cons_zero, List.set_cons_succ, i64_w, i32_w]
    rfl
  refine pure_ (i := 1) (N := some 99) (v := ?_) (a' := ?_) #[true, true, false, false, false, false, false, false, false, false] rfl rfl (by kernel_rfl) (fun _ _ _ h => h) (Or.inl ⟨by rfl, ?_⟩) ?_ ?_
  rotate_left
  · intro w'
    go_simp
    with_reducible rfl
  rotate_left
  · simp only [Act.put, List.setIfInBounds_toArray, List.set_cons_zero, List.set_cons_succ, i64_w, i32_w]
    rfl
  refine pure_ (i := 2) (N := some 100) (v := ?_) (a' := ?_) #[true, true, true, false, false, false, false, false, false, false] rfl rfl (by kernel_rfl) (fun _ _ _ h => h) (Or.inl ⟨by rfl, ?_⟩) ?_ ?_
  rotate_left
  · intro w'
    go_simp
    with_reducible rfl
  rotate_left
  · simp only [Act.put, List.setIfInBounds_toArray, List.set_cons_zero, List.set_cons_succ, i64_w, i32_w]
    rfl
  refine pure_ (i := 4) (N := some 102) (v := ?_) (a' := ?_) #[true, true, true, false, true, false, false, false, false, false] rfl rfl (by kernel_rfl) (fun _ _ _ h => h) (Or.inl ⟨by rfl, ?_⟩) ?_ ?_
  rotate_left
  · intro w'
    go_simp
    with_reducible rfl
  rotate_left
  · simp only [Act.put, List.setIfInBounds_toArray, List.set_cons_zero, List.set_cons_succ, i64_w, i32_w]
    rfl
  refine pure_ (i := 6) (N := some 104) (v := ?_) (a' := ?_) #[true, true, true, false, true, false, true, false, false, false] rfl rfl (by kernel_rfl) (fun _ _ _ h => h) (Or.inl ⟨by rfl, ?_⟩) ?_ ?_
  rotate_left
  · intro w'
    go_simp
    with_reducible rfl
  rotate_left
  · simp only [Act.put, List.setIfInBounds_toArray, List.set_cons_zero, List.set_cons_succ, i64_w, i32_w]
    rfl
  refine take_ (i := 3) (N := some 101) (v := ?_) (a' := ?_) #[true, true, true, true, true, false, true, false, false, false] rfl rfl (by kernel_rfl) (fun _ _ _ h => h) (Or.inl ⟨by rfl, ?_⟩) hHeld ?_ ?_
  rotate_left
  · rintro w' ⟨s0, s1, s2⟩
    go_simp
    with_reducible rfl
  rotate_left
  · simp only [Act.put, List.setIfInBounds_toArray, List.set_cons_zero, List.set_cons_succ, i64_w, i32_w]
    rfl
  refine take_ (i := 5) (N := some 103) (v := ?_) (a' := ?_) #[true, true, true, true, true, true, true, false, false, false] rfl rfl (by kernel_rfl) (fun _ _ _ h => h) (Or.inl ⟨by rfl, ?_⟩) hHeld ?_ ?_
  rotate_left
  · rintro w' ⟨s0, s1, s2⟩
    go_simp
    with_reducible rfl
  rotate_left
  · simp only [Act.put, List.setIfInBounds_toArray, List.set_cons_zero, List.set_cons_succ, i64_w, i32_w]
    rfl
  refine take_ (i := 7) (N := some 105) (v := ?_) (a' := ?_) #[true, true, true, true, true, true, true, true, false, false] rfl rfl (by kernel_rfl) (fun _ _ _ h => h) (Or.inl ⟨by rfl, ?_⟩) hHeld ?_ ?_
  rotate_left
  · rintro w' ⟨s0, s1, s2⟩
    go_simp
    with_reducible rfl
  rotate_left
  · simp only [Act.put, List.setIfInBounds_toArray, List.set_cons_zero, List.set_cons_succ, i64_w, i32_w]
    rfl
  refine pure_ (i := 8) (N := some 106) (v := ?_) (a' := ?_) #[true, true, true, true, true, true, true, true, true, false] rfl rfl (by kernel_rfl) (fun _ _ _ h => h) (Or.inl ⟨by rfl, ?_⟩) ?_ ?_
  rotate_left
  · intro w'
    go_simp
    with_reducible rfl
  rotate_left
  · simp only [Act.put, List.setIfInBounds_toArray, List.set_cons_zero, List.set_cons_succ, i64_w, i32_w]
    rfl
  refine last_ (i := 9) (N := none) #[true, true, true, true, true, true, true, true, true, true] rfl rfl (by kernel_rfl) (by decide) (fun K hK => ?_)
  refine skip_ (w1 := ?_) (by rfl) rfl ?_ ?_
  rotate_left
  · go_simp
    rfl
  refine hK.out _ _ ?_
  clear hK K
  refine done_ (by kernel_rfl) ?_
  clear hHeld
  refine then_gen (fun W' => W'.heap[h]? = some (.cells #[.int .i64 sz, .bool true, .int .u16 vi, .int .u32 vs, (.slice (some ⟨cb, 0, none⟩) N cc), .string f, .string bb, .int .u16 ai, .int .u32 av, .int .u16 ti, .int .u32 ts, .bool wt, .bool ft] 60 (0, 0)) ∧ W'.heap[cb]? = some (.cells (sC ((List.replicate N ⟨#[]⟩).set p b)) 9 (0, 0)) ∧ Fr w W' [h, cb]) ⟨bk_far HB9.out hcbh.out.symm _, bk_put HC9.out p _ (sC_set _ _ _), ((HF9.out.mono (by simp)).drewN _).setIn (by simp) _⟩ ?_
  rintro W10 ⟨q1, q2, q3⟩
  have HB10 := Lib.hid q1
  have HC10 := Lib.hid q2
  have HF10 := Lib.hid q3
  have HL10 := Lib.hid (show ((List.replicate N ⟨#[]⟩).set p b).length = N by rw [List.length_set]; exact HCL.out)
  have HS10 := Lib.hid (show ∀ s, s ∈ (List.replicate N ⟨#[]⟩).set p b → s.size ≤ 16 from fun s hs => (List.mem_or_eq_of_mem_set hs).elim (HC16.out s) (fun e => by rw [e, HBS.out]; omega))
  clear q1 q2 q3 HC16 HCL HCP HCE HC9 HB9 HX9 HF9
  generalize hcl2 : (List.replicate N ⟨#[]⟩).set p b = cl2 at HC10 HL10 HS10 ⊢
  have HCL2 := Lib.hid hcl2
  clear hcl2
  have hch4 : W10.cell? ⟨h, 4, none⟩ = some (.slice (some ⟨cb, 0, none⟩) N cc) := (bk_cell HB10.out 4).trans rfl
  go_wp2
  go_loop [8, 9] (fun x i => ∃ j : Nat, j ≤ N ∧ i = .int .i64 j ∧ x = .string (catB cl2 j) ∧ Hid (∀ k, k < j → ∀ s, cl2[k]? = some s → s.toList ≠ [])) (fun _ i => N - (intOf i).toNat)
  case atStart => exact ⟨0, Nat.zero_le _, rfl, rfl, fun k hk => by omega⟩
  case round =>
    obtain ⟨j, hj, rfl, rfl, HD⟩ := hrel
    by_cases hlt : j < N
    · obtain ⟨ci, hci⟩ : ∃ ci, cl2[j]? = some ci := ⟨_, List.getElem?_eq_getElem (by have := HL10.out; omega)⟩
      have hcj : W10.cell? ⟨cb, j, none⟩ = some (.string ci) := (bk_cell HC10.out j).trans (sC_at hci)
      have hsz1 := catB_le cl2 HS10.out j
      have hsz2 := HS10.out ci (List.mem_of_getElem? hci)
      have HST := Lib.hid (catB_succ cl2 j ci hci)
      have HCI := Lib.hid hci
      clear hci
      generalize hac : catB cl2 j = acc at *
      have HAC := Lib.hid hac
      clear hac
      have hov : ¬ 9223372036854775807 < acc.size + ci.size := by omega
      have hov2 : acc.size + ci.size ≤ 9223372036854775807 := by omega
      clear hsz1 hsz2
      have hlt' : (j : Int) < N := by omega
      by_cases hce : ci.toList = []
      · have hce1 : (ci.toList == ([] : List UInt8)) = true := beq_iff_eq.mpr hce
        have HD0 := Lib.hid (rdone_no cl2 j ci HCI.out hce)
        clear hce
        go_wp2
        go_ret3
        rw [HCL2.out, catIf_no _ HD0.out, HD0.out]
        exact ⟨rfl, cb, cc, HB10.out, HCL2.out ▸ HC10.out, HF10.out, by have := hcbn.out; omega⟩
      · have hce1 : (ci.toList == ([] : List UInt8)) = false := beq_eq_false_iff_ne.mpr hce
        have HCE2 := Lib.hid hce
        clear hce
        go_wp2
        go_round
        case rel => exact ⟨j + 1, by omega, by go_num, by rw [HST.out], fun k hk s hs => by
          by_cases e : k = j
          · subst e
            rw [HCI.out] at hs
            obtain rfl := Option.some.inj hs
            exact HCE2.out
          · exact HD.out k (by omega) s hs⟩
        case measure => simp [intOf]; omega
    · have hge : ¬ (j : Int) < N := by omega
      obtain rfl : j = N := by omega
      have HD1 := Lib.hid (rdone_yes cl2 (by rw [HL10.out]; exact HD.out))
      go_wp2
      go_ret3
      rw [HCL2.out, catIf_yes _ HD1.out, HD1.out]
      exact ⟨rfl, cb, cc, HB10.out, HCL2.out ▸ HC10.out, HF10.out, by have := hcbn.out; omega⟩
end
end Go.Proofs.Ytpfabaoefkokjaa
