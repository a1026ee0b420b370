/-
  The document's glue: what Put refuses.
-/
import Derived.Test.YtpfabaoefkokjaaGRefA
import Derived.Test.YtpfabaoefkokjaaWLast
namespace Go.Proofs.Ytpfabaoefkokjaa
open Go.RowKit Go.Proofs.YtpfabaoefkokjaaW.PrintLast
set_option linter.unusedVariables false
set_option linter.unusedSimpArgs false
theorem cutB_size (v : ByteArray) (p : Nat) (h : 16 * p < v.size) : (cutB v p).size = min 16 (v.size - 16 * p) := by
  unfold cutB
  rw [ba_size_extract]
  omega
theorem lp_at (sz p : Nat) (h : 16 * p < sz) : ∃ lp : ByteArray, ((partsL ⟨(List.replicate sz 0).toArray⟩).map Value.string)[p]? = some (.string lp) ∧ lp.size = min 16 (sz - 16 * p) := by
  refine ⟨cutB ⟨(List.replicate sz 0).toArray⟩ p, ?_, ?_⟩
  · unfold partsL
    rw [zeros_any]
    rw [List.getElem?_map, List.getElem?_map, List.getElem?_range (by omega)]
    rfl
  · rw [cutB_size _ _ (by rw [zeros_any]; exact h), zeros_any]
section
variable (f1 f2 f3 f4 f5 f6 f7 f8 f9 f10 f11 : Int) (f12 : Bool) (f13 : Int)
variable (h sz : Nat) (is : Bool) (gi gs : Int) (came : Value) (f bb : ByteArray) (ai av ti ts : Int) (wt ft : Bool) (vi vs : Int) (p : Nat) (n : Int) (b : ByteArray) (w : World)
set_option maxRecDepth 100000 in
set_option maxHeartbeats 400000 in
theorem rput_kind (k : Int) (hk : (k == 4) = false) :
    Calls Try.prog 32 #[.pointer (some ⟨h, 0, none⟩), .agg #[.int .i64 k, .int .u8 f1, .int .u8 f2, .int .u16 f3, .int .u16 f4, .int .u16 f5, .int .u8 f6, .int .u16 f7, .int .u16 f8, .int .u16 f9, .int .u8 f10, .int .u16 f11, .bool f12, .int .u8 f13, .int .u16 vi, .int .u32 vs, .int .u8 p, .int .u8 n, .string b]] w fun e w' => e = .returned (.tuple #[.string ⟨#[]⟩, .bool false, .int .i64 11]) ∧ Fr w w' [] := by
  have hk2 : (k != 4) = true := by simpa [bne] using hk
  go_enter Try.func32, Try.ntmps32
  go_wp2
  go_ret3
  exact ⟨rfl, (Fr.refl _ _).alloc _⟩

set_option maxRecDepth 100000 in
set_option maxHeartbeats 4000000 in
theorem rput_form1 (hs : w.heap[h]? = some (.cells #[.int .i64 sz, .bool is, .int .u16 gi, .int .u32 gs, came, .string f, .string bb, .int .u16 ai, .int .u32 av, .int .u16 ti, .int .u32 ts, .bool wt, .bool ft] 60 (0, 0))) (h1 : 1 ≤ sz) (h2 : sz ≤ 64) (hp : p ≤ 255) (hn0 : 0 ≤ n) (hn1 : n ≤ 255) (hn : n ≠ (((sz + 15) / 16 : Nat) : Int)) :
    Calls Try.prog 32 #[.pointer (some ⟨h, 0, none⟩), .agg #[.int .i64 4, .int .u8 f1, .int .u8 f2, .int .u16 f3, .int .u16 f4, .int .u16 f5, .int .u8 f6, .int .u16 f7, .int .u16 f8, .int .u16 f9, .int .u8 f10, .int .u16 f11, .bool f12, .int .u8 f13, .int .u16 vi, .int .u32 vs, .int .u8 p, .int .u8 n, .string b]] w fun e w' => e = .returned (.tuple #[.string ⟨#[]⟩, .bool false, .int .i64 3]) ∧ Fr w w' [] := by
  have HB := Lib.hid (bk_alloc hs (.cells #[.int .i64 4, .int .u8 f1, .int .u8 f2, .int .u16 f3, .int .u16 f4, .int .u16 f5, .int .u8 f6, .int .u16 f7, .int .u16 f8, .int .u16 f9, .int .u8 f10, .int .u16 f11, .bool f12, .int .u8 f13, .int .u16 vi, .int .u32 vs, .int .u8 p, .int .u8 n, .string b] 36))
  have HX := Lib.hid (bk_new w (.cells #[.int .i64 4, .int .u8 f1, .int .u8 f2, .int .u16 f3, .int .u16 f4, .int .u16 f5, .int .u8 f6, .int .u16 f7, .int .u16 f8, .int .u16 f9, .int .u8 f10, .int .u16 f11, .bool f12, .int .u8 f13, .int .u16 vi, .int .u32 vs, .int .u8 p, .int .u8 n, .string b] 36))
  have HF := Lib.hid ((Fr.refl w []).alloc (.cells #[.int .i64 4, .int .u8 f1, .int .u8 f2, .int .u16 f3, .int .u16 f4, .int .u16 f5, .int .u8 f6, .int .u16 f7, .int .u16 f8, .int .u16 f9, .int .u8 f10, .int .u16 f11, .bool f12, .int .u8 f13, .int .u16 vi, .int .u32 vs, .int .u8 p, .int .u8 n, .string b] 36))
  have hxh := Lib.hid (show h ≠ w.heap.size by have := bk_lt hs; omega)
  obtain ⟨N, hN⟩ : ∃ N, N = (sz + 15) / 16 := ⟨_, rfl⟩
  have HN := Lib.hid hN
  have hw1 : IntKind.i64.wrap (p : Int) = p := IntWalk.i64_in _ (by omega)
  have hw2 : IntKind.i64.wrap n = n := IntWalk.i64_in _ (by omega)
  have hnN : (n != (N : Int)) = true := by rw [bne_iff_ne]; omega
  have hnN2 : (n == (N : Int)) = false := by rw [beq_eq_false_iff_ne]; omega
  clear hn
  clear hs hN
  go_enter Try.func32, Try.ntmps32
  have hch := bk_cell HB.out
  have hcx := bk_cell HX.out
  have hhl := bk_lt HB.out
  go_wp2_with (go_at_call 44; refine (lengths_any sz h1 h2 _).mono ?_; rintro e w1 ⟨lg, lc, rfl, hlg, hlr, hf1⟩; rw [← HN.out])
  have HB1 := Lib.hid (bk_keep HB.out hf1 (by simp))
  have HX1 := Lib.hid (bk_keep HX.out hf1 (by simp))
  have HF1 := Lib.hid (HF.out.step hf1)
  have HL := Lib.hid hlr
  have HLG := Lib.hid hlg
  clear hch hcx hhl hf1 hlr hlg
  have hch := bk_cell HB1.out
  have hcx := bk_cell HX1.out
  go_quiet (fail)
  go_wp2
  go_ret3
  exact ⟨rfl, HF1.out.drewN _⟩

set_option maxRecDepth 100000 in
set_option maxHeartbeats 4000000 in
theorem rput_form2 (hs : w.heap[h]? = some (.cells #[.int .i64 sz, .bool is, .int .u16 gi, .int .u32 gs, came, .string f, .string bb, .int .u16 ai, .int .u32 av, .int .u16 ti, .int .u32 ts, .bool wt, .bool ft] 60 (0, 0))) (h1 : 1 ≤ sz) (h2 : sz ≤ 64) (hp : p ≤ 255) (hn0 : 0 ≤ n) (hn1 : n ≤ 255) (hn : n = (((sz + 15) / 16 : Nat) : Int)) (hps : ¬ 16 * p < sz) :
    Calls Try.prog 32 #[.pointer (some ⟨h, 0, none⟩), .agg #[.int .i64 4, .int .u8 f1, .int .u8 f2, .int .u16 f3, .int .u16 f4, .int .u16 f5, .int .u8 f6, .int .u16 f7, .int .u16 f8, .int .u16 f9, .int .u8 f10, .int .u16 f11, .bool f12, .int .u8 f13, .int .u16 vi, .int .u32 vs, .int .u8 p, .int .u8 n, .string b]] w fun e w' => e = .returned (.tuple #[.string ⟨#[]⟩, .bool false, .int .i64 3]) ∧ Fr w w' [] := by
  have HB := Lib.hid (bk_alloc hs (.cells #[.int .i64 4, .int .u8 f1, .int .u8 f2, .int .u16 f3, .int .u16 f4, .int .u16 f5, .int .u8 f6, .int .u16 f7, .int .u16 f8, .int .u16 f9, .int .u8 f10, .int .u16 f11, .bool f12, .int .u8 f13, .int .u16 vi, .int .u32 vs, .int .u8 p, .int .u8 n, .string b] 36))
  have HX := Lib.hid (bk_new w (.cells #[.int .i64 4, .int .u8 f1, .int .u8 f2, .int .u16 f3, .int .u16 f4, .int .u16 f5, .int .u8 f6, .int .u16 f7, .int .u16 f8, .int .u16 f9, .int .u8 f10, .int .u16 f11, .bool f12, .int .u8 f13, .int .u16 vi, .int .u32 vs, .int .u8 p, .int .u8 n, .string b] 36))
  have HF := Lib.hid ((Fr.refl w []).alloc (.cells #[.int .i64 4, .int .u8 f1, .int .u8 f2, .int .u16 f3, .int .u16 f4, .int .u16 f5, .int .u8 f6, .int .u16 f7, .int .u16 f8, .int .u16 f9, .int .u8 f10, .int .u16 f11, .bool f12, .int .u8 f13, .int .u16 vi, .int .u32 vs, .int .u8 p, .int .u8 n, .string b] 36))
  have hxh := Lib.hid (show h ≠ w.heap.size by have := bk_lt hs; omega)
  obtain ⟨N, hN⟩ : ∃ N, N = (sz + 15) / 16 := ⟨_, rfl⟩
  have HN := Lib.hid hN
  have hw1 : IntKind.i64.wrap (p : Int) = p := IntWalk.i64_in _ (by omega)
  have hw2 : IntKind.i64.wrap n = n := IntWalk.i64_in _ (by omega)
  have hnN : (n != (N : Int)) = false := by rw [bne_eq_false_iff_eq]; omega
  have hnN2 : (n == (N : Int)) = true := by rw [beq_iff_eq]; omega
  have hpN : (N : Int) ≤ p := by omega
  have hpN2 : decide ((N : Int) ≤ p) = true := by simp; omega
  have hpN3 : N ≤ p := by omega
  clear hn hps
  clear hs hN
  go_enter Try.func32, Try.ntmps32
  have hch := bk_cell HB.out
  have hcx := bk_cell HX.out
  have hhl := bk_lt HB.out
  go_wp2_with (go_at_call 44; refine (lengths_any sz h1 h2 _).mono ?_; rintro e w1 ⟨lg, lc, rfl, hlg, hlr, hf1⟩; rw [← HN.out])
  have HB1 := Lib.hid (bk_keep HB.out hf1 (by simp))
  have HX1 := Lib.hid (bk_keep HX.out hf1 (by simp))
  have HF1 := Lib.hid (HF.out.step hf1)
  have HL := Lib.hid hlr
  have HLG := Lib.hid hlg
  clear hch hcx hhl hf1 hlr hlg
  have hch := bk_cell HB1.out
  have hcx := bk_cell HX1.out
  go_quiet (fail)
  go_wp2
  go_ret3
  exact ⟨rfl, HF1.out.drewN _⟩

set_option maxRecDepth 100000 in
set_option maxHeartbeats 4000000 in
theorem rput_form3 (hs : w.heap[h]? = some (.cells #[.int .i64 sz, .bool is, .int .u16 gi, .int .u32 gs, came, .string f, .string bb, .int .u16 ai, .int .u32 av, .int .u16 ti, .int .u32 ts, .bool wt, .bool ft] 60 (0, 0))) (h1 : 1 ≤ sz) (h2 : sz ≤ 64) (hp : p ≤ 255) (hn0 : 0 ≤ n) (hn1 : n ≤ 255) (hn : n = (((sz + 15) / 16 : Nat) : Int)) (hps : 16 * p < sz) (hbs : b.size ≠ min 16 (sz - 16 * p)) :
    Calls Try.prog 32 #[.pointer (some ⟨h, 0, none⟩), .agg #[.int .i64 4, .int .u8 f1, .int .u8 f2, .int .u16 f3, .int .u16 f4, .int .u16 f5, .int .u8 f6, .int .u16 f7, .int .u16 f8, .int .u16 f9, .int .u8 f10, .int .u16 f11, .bool f12, .int .u8 f13, .int .u16 vi, .int .u32 vs, .int .u8 p, .int .u8 n, .string b]] w fun e w' => e = .returned (.tuple #[.string ⟨#[]⟩, .bool false, .int .i64 3]) ∧ Fr w w' [] := by
  have HB := Lib.hid (bk_alloc hs (.cells #[.int .i64 4, .int .u8 f1, .int .u8 f2, .int .u16 f3, .int .u16 f4, .int .u16 f5, .int .u8 f6, .int .u16 f7, .int .u16 f8, .int .u16 f9, .int .u8 f10, .int .u16 f11, .bool f12, .int .u8 f13, .int .u16 vi, .int .u32 vs, .int .u8 p, .int .u8 n, .string b] 36))
  have HX := Lib.hid (bk_new w (.cells #[.int .i64 4, .int .u8 f1, .int .u8 f2, .int .u16 f3, .int .u16 f4, .int .u16 f5, .int .u8 f6, .int .u16 f7, .int .u16 f8, .int .u16 f9, .int .u8 f10, .int .u16 f11, .bool f12, .int .u8 f13, .int .u16 vi, .int .u32 vs, .int .u8 p, .int .u8 n, .string b] 36))
  have HF := Lib.hid ((Fr.refl w []).alloc (.cells #[.int .i64 4, .int .u8 f1, .int .u8 f2, .int .u16 f3, .int .u16 f4, .int .u16 f5, .int .u8 f6, .int .u16 f7, .int .u16 f8, .int .u16 f9, .int .u8 f10, .int .u16 f11, .bool f12, .int .u8 f13, .int .u16 vi, .int .u32 vs, .int .u8 p, .int .u8 n, .string b] 36))
  have hxh := Lib.hid (show h ≠ w.heap.size by have := bk_lt hs; omega)
  obtain ⟨N, hN⟩ : ∃ N, N = (sz + 15) / 16 := ⟨_, rfl⟩
  have HN := Lib.hid hN
  have hw1 : IntKind.i64.wrap (p : Int) = p := IntWalk.i64_in _ (by omega)
  have hw2 : IntKind.i64.wrap n = n := IntWalk.i64_in _ (by omega)
  have hpN : p < N := by omega
  have hpN' : (p : Int) < N := by omega
  have hpN2 : ¬ (N : Int) ≤ p := by omega
  have hnN : (n != (N : Int)) = false := by rw [bne_eq_false_iff_eq]; omega
  have hnN2 : (n == (N : Int)) = true := by rw [beq_iff_eq]; omega
  have hN4 : N ≤ 4 := by omega
  have HBS := Lib.hid hbs
  have HPS := Lib.hid hps
  clear hn hbs hps
  clear hs hN
  go_enter Try.func32, Try.ntmps32
  have hch := bk_cell HB.out
  have hcx := bk_cell HX.out
  have hhl := bk_lt HB.out
  go_wp2_with (go_at_call 44; refine (lengths_any sz h1 h2 _).mono ?_; rintro e w1 ⟨lg, lc, rfl, hlg, hlr, hf1⟩; rw [← HN.out])
  have HB1 := Lib.hid (bk_keep HB.out hf1 (by simp))
  have HX1 := Lib.hid (bk_keep HX.out hf1 (by simp))
  have HF1 := Lib.hid (HF.out.step hf1)
  have HL := Lib.hid hlr
  have HLG := Lib.hid hlg
  clear hch hcx hhl hf1 hlr hlg
  have hch := bk_cell HB1.out
  have hcx := bk_cell HX1.out
  obtain ⟨lp, hlp, hls⟩ := lp_at sz p (by have := HPS.out; omega)
  have hlc : w1.cell? ⟨lg, p, none⟩ = some (.string lp) := by
    have := HL.out p (.string lp) hlp
    rwa [Nat.zero_add] at this
  have hbl1 : ((b.size : Int) != (lp.size : Int)) = true := by rw [bne_iff_ne, hls]; have := HBS.out; omega
  have hbl2 : (b.size == lp.size) = false := by rw [beq_eq_false_iff_ne, hls]; have := HBS.out; omega
  have hbl3 : (b.size != lp.size) = true := by rw [bne_iff_ne, hls]; have := HBS.out; omega
  clear hlp hls
  go_quiet (fail)
  clear hlc hbl1 hbl2 hbl3
  go_wp2
  go_ret3
  exact ⟨rfl, HF1.out.drewN _⟩
end
end Go.Proofs.Ytpfabaoefkokjaa
