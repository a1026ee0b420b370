/-
  GdataWhole: what is in front is a value that was committed, with the version that it had, or the first one, and its version never goes down. No condition beyond the statement's own.
-/
import Derived.Test.YtpfabaoefkokjaaRows
import Derived.Test.YtpfabaoefkokjaaGWholeM
import Derived.Test.YtpfabaoefkokjaaOpen2
import Derived.ProofKit
import Derived.OpenShut
import Derived.ShutString
import Derived.ChangeOld
import Derived.SizedLaws
namespace Go.Proofs.Ytpfabaoefkokjaa
open Go.ChangeShapes Go.WideShapes Go.ChangeAt Go.RowKit
open Go.ChangeMaps (open_string shut_string)
set_option linter.unusedVariables false

theorem layT : lay Try.prog 10 66 = some [.i .u8, .i .u16, .s] := by kernel_rfl
theorem tc_of {H : Type} {enc : TypeId × Value → H} {w : World} {base : Nat} {spare : Nat → Bool} {held : Bool} {n : Nat} {cs : List Value} {y : DataW H × List MemPlace}
    (h : DataW.trod enc Try.prog w base spare held n 66 cs = some y) : ∃ x : TC, cs = x.c ∧ x.ix ≤ 65535 := by
  have h := lay_ok enc Try.prog w base spare held 10 _ _ layT n cs y h
  obtain ⟨a0, cs0, rfl, k0, h0⟩ := okL_i h
  obtain ⟨a1, cs1, rfl, k1, h1⟩ := okL_i h0
  obtain ⟨a2, cs2, rfl, k2, h2⟩ := okL_s h1
  obtain rfl := okL_nil h2
  have r0 := u8_rng k0
  have r1 := u16_rng k1
  obtain ⟨p, rfl⟩ := Int.eq_ofNat_of_zero_le r0.1
  obtain ⟨q, rfl⟩ := Int.eq_ofNat_of_zero_le r1.1
  exact ⟨⟨p, q, a2⟩, rfl, by show q ≤ 65535; omega⟩
theorem tcs_of {H : Type} {enc : TypeId × Value → H} {w : World} {base : Nat} {spare : Nat → Bool} {held : Bool} {n : Nat} : ∀ (L : List (List Value)), (∀ r, r ∈ L → ∃ y, DataW.trod enc Try.prog w base spare held n 66 r = some y) → ∃ ts : List TC, L = ts.map TC.c ∧ ∀ x, x ∈ ts → x.ix ≤ 65535
  | [], _ => ⟨[], rfl, fun x h => by simp at h⟩
  | r :: L, h => by
    obtain ⟨fs, h1, h2⟩ := tcs_of L (fun r hr => h r (by simp [hr]))
    obtain ⟨y, hy⟩ := h r (by simp)
    obtain ⟨x, h3, h4⟩ := tc_of hy
    exact ⟨x :: fs, by rw [h1, h3]; rfl, fun z hz => by
      rcases List.mem_cons.1 hz with rfl | hz
      · exact h4
      · exact h2 z hz⟩
theorem whole_all (size : Int) (first : ByteArray) (A : Option Addr) (n c : Nat) (W : World) (hs : 0 ≤ size ∧ size ≤ 255) {H : Type} {enc : TypeId × Value → H} {base : Nat} {spare : Nat → Bool} {held : Bool} {fuel : Nat} {y : DataW H × List MemPlace}
    (hf : DataW.trod enc Try.prog W base spare held fuel 62 [.slice A n c] = some y) :
    Calls Try.prog 5 #[.int .u8 size, .string first, .slice A n c] W fun e w' => e = .returned (.bool true) ∧ Below W.heap.size W w' := by
  obtain ⟨A', n', c', m, L, hcs, hl, hc, hm, hA, hL⟩ := open_flat Try.underlying62 (by rw [show Try.prog.cellsOf 66 = 3 by kernel_rfl]; decide) hf
  simp only [List.cons.injEq, Value.slice.injEq, and_true] at hcs
  obtain ⟨rfl, rfl, rfl⟩ := hcs
  obtain ⟨ts, rfl, hok⟩ := tcs_of L (fun r hr => (hL r hr).2)
  rw [List.length_map] at hl
  have hw : ∀ (e : Ending) (w' : World), e = .returned (.bool true) ∧ Fr W w' [] → e = .returned (.bool true) ∧ Below W.heap.size W w' := fun e w' h => ⟨h.1, h.2.below⟩
  unfold maxLen at hm
  by_cases h80 : 100 < first.size ∨ 120 < n
  · exact (whole_long size first W A n c h80 hs.1 hs.2).mono hw
  · exact (whole_in size first W A n c ts hl hok hA (by omega) (by omega) hs.1 hs.2).mono hw
theorem laidOut : laidOutB Try.prog = true := by kernel_rfl
theorem own : ownKnob Try.prog.godebug = none := by kernel_rfl
set_option maxRecDepth 100000 in
theorem gdataWhole_lifted (os : Os) (started : os.Started) (H : Type) (enc : TypeId × Value → H) :
    ReturnsInHanded {} Try.checked os 5 .any (Rows.gdataWholeSpec.pre6 enc Try.prog Try.f5 Rows.gdataWholeRow.domain false) (Rows.gdataWholeSpec.post enc Try.prog Try.f5 false true false false) := by
  refine returnsInHanded_of_change_sized (C := Try.checked) own started (by kernel_rfl) Try.func5
    (ChangeSpec.witness6 (enc := enc) (C := Try.checked) false ⟨#[], #[.int .u8 0, .string ByteArray.empty, .slice none 0 0], []⟩ 8 (by kernel_rfl) (by kernel_rfl) (by kernel_rfl) (by kernel_rfl)) ?_
  intro W base args ds gs before hval0 hW hcnd hsz0 _
  have hsz : (DataW.weightsEach Try.prog (Try.f5.params.toList ++ Rows.gdataWholeSpec.plain.varTypes Try.prog) (ds ++ gs)).all (· ≤ reachBytes) = true := hsz0
  have hval : ∀ (j : Nat) t v, Try.f5.params[j]? = some t → args[j]? = some v → Value.okWide Try.prog W .any base t v := hval0
  have hW' := hW
  obtain ⟨p, q, hA0, hV, rfl, hfz, hnd⟩ := hW
  have hA : DataW.TrodAll enc Try.prog W 0 (fun _ => true) true Try.f5.params.toList args.toList ds p := hA0
  rw [Try.params5] at hA hval hsz
  obtain ⟨v0, vs0, d0, ds0, p0, q0, hargs, rfl, rfl, h0, r0⟩ := trodAll_cons hA
  obtain ⟨v1, vs1, d1, ds1, p1, q1, rfl, rfl, rfl, h1, r1⟩ := trodAll_cons r0
  obtain ⟨v2, vs2, d2, ds2, p2, q2, rfl, rfl, rfl, h2, r2⟩ := trodAll_cons r1
  obtain ⟨rfl, rfl, rfl⟩ := trodAll_nil r2
  obtain rfl : args = #[v0, v1, v2] := by cases args; simp_all
  obtain ⟨rfl, rfl⟩ := trodVars_none hV
  obtain ⟨a0, rfl, rfl, rfl, w0⟩ := open_int Try.underlying5 (hval 0 5 v0 rfl rfl) h0
  obtain ⟨a1, rfl, rfl, rfl, y1⟩ := open_string Try.underlying9 (hval 1 9 v1 rfl rfl) h1
  obtain ⟨A2, n2, c2, rfl⟩ := okWide_slice Try.underlying62 (hval 2 62 v2 rfl rfl)
  have k2 := h2
  have lt2 : ∀ x ∈ p2, x.block < W.heap.size := by obtain ⟨m, hm⟩ := k2; exact DataW.trod_lt m _ _ _ hm
  obtain ⟨fuel2, hf2⟩ := h2
  clear hA0 hval0 hsz0 hsz
  refine (whole_all a0 a1 A2 n2 c2 W (u8_rng w0) hf2).mono fun e W' ⟨he, bel⟩ => ?_
  subst he
  exact ⟨_, rfl, _, _, _, [], _, [], hW', trodAll_mk1 (shut_bool Try.underlying4 _), (trodAll_cons_mk (shut_int Try.underlying5 w0) (trodAll_cons_mk (shut_string Try.underlying9 y1) (trodAll_cons_mk (Below.trod laidOut (by kernel_rfl) (of_decide_eq_true (by kernel_rfl)) k2 bel lt2) trodAll_mk0))), rfl, bel.frame _, fun h => by cases h⟩
theorem gdataWhole_holds : Rows.GdataWholeSaid :=
  OpenClaim.holds_of_wide 5 Try.f5 rfl rfl rfl rfl rfl rfl rfl ⟨rfl, rfl, rfl, rfl, rfl⟩ rfl rfl rfl rfl rfl (by kernel_rfl) Try.func5 (by kernel_rfl)
    (of_decide_eq_true (by kernel_rfl)) (by unfold Func.isWrapper; first | (rw [if_pos (by decide +kernel)]; kernel_rfl) | (rw [if_neg (by decide +kernel)]; exact ⟨rfl, rfl⟩))
    (fun os started H enc _ => gdataWhole_lifted os started H enc)
#print axioms gdataWhole_holds
end Go.Proofs.Ytpfabaoefkokjaa
