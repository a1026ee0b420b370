/-
  What a glue's Put does (first part: frames that it refuses; how two versions compare).
-/
import Derived.Test.YtpfabaoefkokjaaGGlueB
import Derived.Test.YtpfabaoefkokjaaPGdataComesx1
namespace Go.Proofs.Ytpfabaoefkokjaa
open Go.RowKit Go.Proofs.YtpfabaoefkokjaaW.PrintLast
set_option linter.unusedVariables false
set_option linter.unusedSimpArgs false

/-- How two versions compare. -/
def cmpV (a b c d : Int) : Int := if a < c then -1 else if c < a then 1 else if b < d then -1 else if d < b then 1 else 0

theorem or_two (x y : Int) : PGdataComes.cmp_Or_int.f 4 [x, y] = some (if x = 0 then y else x) := by
  have r0 : Go.Proofs.YtpfabaoefkokjaaW.PrintWords.rd [x, y] 0 = x := rfl
  have r1 : Go.Proofs.YtpfabaoefkokjaaW.PrintWords.rd [x, y] 1 = y := rfl
  have w1 : wrap64 1 = 1 := by unfold wrap64; omega
  have w2 : wrap64 2 = 2 := by unfold wrap64; omega
  by_cases h1 : x = 0
  · by_cases h2 : y = 0
    · simp [PGdataComes.cmp_Or_int.f, PGdataComes.cmp_Or_int.l0, r0, r1, w1, w2, h1, h2]
      subst h1 h2
      simp [r0, r1, w2]
    · simp [PGdataComes.cmp_Or_int.f, PGdataComes.cmp_Or_int.l0, r0, r1, w1, w2, h1, h2]
      subst h1
      simp [r0, r1, h2]
  · simp [PGdataComes.cmp_Or_int.f, PGdataComes.cmp_Or_int.l0, r0, r1, w1, w2, h1]

theorem compare_f (a b c d : Int) : PGdataComes.parts_Compare.f 4 a b c d = some (cmpV a b c d) := by
  have e1 : PGdataComes.cmp_Compare_uint16.f a c = some (if a < c then -1 else if c < a then 1 else 0) := by
    simp only [PGdataComes.cmp_Compare_uint16.f, PGdataComes.cmp_isNaN_uint16.f, Option.bind_some]
    simp
    split
    · rfl
    · split <;> rfl
  have e2 : PGdataComes.cmp_Compare_uint32.f b d = some (if b < d then -1 else if d < b then 1 else 0) := by
    simp only [PGdataComes.cmp_Compare_uint32.f, PGdataComes.cmp_isNaN_uint32.f, Option.bind_some]
    simp
    split
    · rfl
    · split <;> rfl
  unfold PGdataComes.parts_Compare.f
  rw [e1, Option.bind_some, e2, Option.bind_some, or_two, Option.bind_some]
  unfold cmpV
  congr 1
  split
  · rfl
  · split <;> rfl

theorem compare_any (a b c d : Int) (w : World) :
    Calls Try.prog 42 #[.agg #[.int .u16 a, .int .u32 b], .agg #[.int .u16 c, .int .u32 d]] w fun e w' => e = .returned (.int .i64 (cmpV a b c d)) ∧ Fr w w' [] :=
  (PGdataComes.parts_Compare.calls 4 a b c d _ w (compare_f a b c d)).mono fun _ _ h => ⟨h.1, Fr.of_below h.2⟩

section
variable (f1 f2 f3 f4 f5 f6 f7 f8 f9 f10 f11 : Int) (f12 : Bool) (f13 : Int)
variable (g vb sz : Nat) (gi gs : Int) (is : Bool) (cm gn : Int) (k vi vs p n : Int) (b : ByteArray) (w : World)

set_option maxRecDepth 100000 in
set_option maxHeartbeats 400000 in
theorem put_kind (hk : (k == 4) = false) :
    Calls Try.prog 31 #[.pointer (some ⟨g, 0, none⟩), .agg #[.int .i64 k, .int .u8 f1, .int .u8 f2, .int .u16 f3, .int .u16 f4, .int .u16 f5, .int .u8 f6, .int .u16 f7, .int .u16 f8, .int .u16 f9, .int .u8 f10, .int .u16 f11, .bool f12, .int .u8 f13, .int .u16 vi, .int .u32 vs, .int .u8 p, .int .u8 n, .string b]] w fun e w' => e = .returned (.tuple #[.string ⟨#[]⟩, .bool false, .int .i64 11]) ∧ Fr w w' [] := by
  have hk2 : (k != 4) = true := by simpa [bne] using hk
  have hk3 : (k == 4) = false := hk
  go_enter Try.func31, Try.ntmps31
  go_wp2
  go_ret3
  exact ⟨rfl, (Fr.refl _ _).alloc _⟩

set_option maxRecDepth 100000 in
set_option maxHeartbeats 400000 in
theorem put_form (h : w.heap[g]? = some (.cells #[.slice (some ⟨vb, 0, none⟩) sz sz, .int .u16 gi, .int .u32 gs, .bool is, .int .u8 cm, .int .i64 gn] 92 (0, 0)))
    (hfit : ∀ w1 : World, w1.heap[g]? = some (.cells #[.slice (some ⟨vb, 0, none⟩) sz sz, .int .u16 gi, .int .u32 gs, .bool is, .int .u8 cm, .int .i64 gn] 92 (0, 0)) → Calls Try.prog 41 #[.pointer (some ⟨g, 0, none⟩), .agg #[.int .i64 4, .int .u8 f1, .int .u8 f2, .int .u16 f3, .int .u16 f4, .int .u16 f5, .int .u8 f6, .int .u16 f7, .int .u16 f8, .int .u16 f9, .int .u8 f10, .int .u16 f11, .bool f12, .int .u8 f13, .int .u16 vi, .int .u32 vs, .int .u8 p, .int .u8 n, .string b]] w1 fun e w' => e = .returned (.bool false) ∧ Fr w1 w' []) :
    Calls Try.prog 31 #[.pointer (some ⟨g, 0, none⟩), .agg #[.int .i64 4, .int .u8 f1, .int .u8 f2, .int .u16 f3, .int .u16 f4, .int .u16 f5, .int .u8 f6, .int .u16 f7, .int .u16 f8, .int .u16 f9, .int .u8 f10, .int .u16 f11, .bool f12, .int .u8 f13, .int .u16 vi, .int .u32 vs, .int .u8 p, .int .u8 n, .string b]] w fun e w' => e = .returned (.tuple #[.string ⟨#[]⟩, .bool false, .int .i64 3]) ∧ Fr w w' [] := by
  have HT := Lib.hid hfit
  have HB := Lib.hid (bk_alloc h (.cells #[.int .i64 4, .int .u8 f1, .int .u8 f2, .int .u16 f3, .int .u16 f4, .int .u16 f5, .int .u8 f6, .int .u16 f7, .int .u16 f8, .int .u16 f9, .int .u8 f10, .int .u16 f11, .bool f12, .int .u8 f13, .int .u16 vi, .int .u32 vs, .int .u8 p, .int .u8 n, .string b] 36))
  clear hfit h
  go_enter Try.func31, Try.ntmps31
  go_wp2_with (first | ((with_reducible refine gate_op (.load 36 (.tmp 3)) rfl ?_); go_must (refine ev_load 36 (.tmp 3) rfl rfl rfl rfl (bk_new _ _) Try.underlying36 rfl sizeF rfl ?_)) | (go_at_call 41; refine (HT.out _ HB.out).mono ?_; rintro e w1 ⟨rfl, hf1⟩))
  go_ret3
  exact ⟨rfl, ((Fr.refl _ _).alloc _).step hf1⟩
end
end Go.Proofs.Ytpfabaoefkokjaa
