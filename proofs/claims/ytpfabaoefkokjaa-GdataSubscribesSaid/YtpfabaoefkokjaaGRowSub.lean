/-
  GdataSubscribes: whatever frames come, and whenever it is latched, a subscriber answers as the document says. No condition beyond the statement's own.
-/
import Derived.Test.YtpfabaoefkokjaaRows
import Derived.Test.YtpfabaoefkokjaaGSubLawM
import Derived.ProofKit
import Derived.OpenShut
import Derived.ShutString
import Derived.ChangeOld
import Derived.SizedLaws
namespace Go.Proofs.Ytpfabaoefkokjaa
open Go.ChangeShapes Go.WideShapes Go.ChangeAt Go.RowKit
open Go.ChangeMaps (open_string shut_string)
set_option linter.unusedVariables false

theorem fcs_of {H : Type} {enc : TypeId × Value → H} {w : World} {base : Nat} {spare : Nat → Bool} {held : Bool} {n : Nat} : ∀ (L : List (List Value)), (∀ r, r ∈ L → ∃ y, DataW.trod enc Try.prog w base spare held n 52 r = some y) → ∃ fs : List FC, L = fs.map (fun x => x.c.toList) ∧ ∀ x, x ∈ fs → x.ok
  | [], _ => ⟨[], rfl, fun x h => by simp at h⟩
  | r :: L, h => by
    obtain ⟨fs, h1, h2⟩ := fcs_of L (fun r hr => h r (by simp [hr]))
    obtain ⟨y, hy⟩ := h r (by simp)
    obtain ⟨x, h3, h4⟩ := fc_of hy
    exact ⟨x :: fs, by rw [h1, h3]; rfl, fun z hz => by
      rcases List.mem_cons.1 hz with rfl | hz
      · exact h4
      · exact h2 z hz⟩
theorem subscribes_all (size : Int) (first : ByteArray) (A : Option Addr) (n c : Nat) (W : World) {H : Type} {enc : TypeId × Value → H} {base : Nat} {spare : Nat → Bool} {held : Bool} {fuel : Nat} {y : DataW H × List MemPlace}
    (hf : DataW.trod enc Try.prog W base spare held fuel 48 [.slice A n c] = some y) :
    Calls Try.prog 4 #[.int .i64 size, .string first, .slice A n c] W fun e w' => e = .returned (.bool true) ∧ Below W.heap.size W w' := by
  obtain ⟨A', n', c', m, L, hcs, hl, hc, hm, hA, hL⟩ := open_flat Try.underlying48 (by rw [show Try.prog.cellsOf 52 = 19 by kernel_rfl]; decide) hf
  simp only [List.cons.injEq, Value.slice.injEq, and_true] at hcs
  obtain ⟨rfl, rfl, rfl⟩ := hcs
  obtain ⟨fs, rfl, hok⟩ := fcs_of L (fun r hr => (hL r hr).2)
  rw [List.length_map] at hl
  have hw : ∀ (e : Ending) (w' : World), e = .returned (.bool true) ∧ Fr W w' [] → e = .returned (.bool true) ∧ Below W.heap.size W w' := fun e w' h => ⟨h.1, h.2.below⟩
  unfold maxLen at hm
  by_cases h80 : 100 < first.size ∨ 80 < n
  · exact (subscribes_long size first W A n c h80 (by omega)).mono hw
  · by_cases hs : size < 1 ∨ 64 < size
    · exact (subscribes_out size first W A n c (by omega) (by omega) hs).mono hw
    · obtain ⟨sz, rfl⟩ := Int.eq_ofNat_of_zero_le (show 0 ≤ size by omega)
      exact (subscribes_in sz first W A n c fs hl hok hA (by omega) (by omega) (by omega) (by omega)).mono hw
theorem laidOut : laidOutB Try.prog = true := by kernel_rfl
theorem own : ownKnob Try.prog.godebug = none := by kernel_rfl
set_option maxRecDepth 100000 in
theorem gdataSubscribes_lifted (os : Os) (started : os.Started) (H : Type) (enc : TypeId × Value → H) :
    ReturnsInHanded {} Try.checked os 4 .any (Rows.gdataSubscribesSpec.pre6 enc Try.prog Try.f4 Rows.gdataSubscribesRow.domain false) (Rows.gdataSubscribesSpec.post enc Try.prog Try.f4 false true false false) := by
  refine returnsInHanded_of_change_sized (C := Try.checked) own started (by kernel_rfl) Try.func4
    (ChangeSpec.witness6 (enc := enc) (C := Try.checked) false ⟨#[], #[.int .i64 0, .string ByteArray.empty, .slice none 0 0], []⟩ 8 (by kernel_rfl) (by kernel_rfl) (by kernel_rfl) (by kernel_rfl)) ?_
  intro W base args ds gs before hval0 hW hcnd hsz0 _
  have hsz : (DataW.weightsEach Try.prog (Try.f4.params.toList ++ Rows.gdataSubscribesSpec.plain.varTypes Try.prog) (ds ++ gs)).all (· ≤ reachBytes) = true := hsz0
  have hval : ∀ (j : Nat) t v, Try.f4.params[j]? = some t → args[j]? = some v → Value.okWide Try.prog W .any base t v := hval0
  have hW' := hW
  obtain ⟨p, q, hA0, hV, rfl, hfz, hnd⟩ := hW
  have hA : DataW.TrodAll enc Try.prog W 0 (fun _ => true) true Try.f4.params.toList args.toList ds p := hA0
  rw [Try.params4] at hA hval hsz
  obtain ⟨v0, vs0, d0, ds0, p0, q0, hargs, rfl, rfl, h0, r0⟩ := trodAll_cons hA
  obtain ⟨v1, vs1, d1, ds1, p1, q1, rfl, rfl, rfl, h1, r1⟩ := trodAll_cons r0
  obtain ⟨v2, vs2, d2, ds2, p2, q2, rfl, rfl, rfl, h2, r2⟩ := trodAll_cons r1
  obtain ⟨rfl, rfl, rfl⟩ := trodAll_nil r2
  obtain rfl : args = #[v0, v1, v2] := by cases args; simp_all
  obtain ⟨rfl, rfl⟩ := trodVars_none hV
  obtain ⟨a0, rfl, rfl, rfl, w0⟩ := open_int Try.underlying3 (hval 0 3 v0 rfl rfl) h0
  obtain ⟨a1, rfl, rfl, rfl, y1⟩ := open_string Try.underlying9 (hval 1 9 v1 rfl rfl) h1
  obtain ⟨A2, n2, c2, rfl⟩ := okWide_slice Try.underlying48 (hval 2 48 v2 rfl rfl)
  have k2 := h2
  have lt2 : ∀ x ∈ p2, x.block < W.heap.size := by obtain ⟨m, hm⟩ := k2; exact DataW.trod_lt m _ _ _ hm
  obtain ⟨fuel2, hf2⟩ := h2
  clear hA0 hval0 hsz0 hsz
  refine (subscribes_all a0 a1 A2 n2 c2 W hf2).mono fun e W' ⟨he, bel⟩ => ?_
  subst he
  exact ⟨_, rfl, _, _, _, [], _, [], hW', trodAll_mk1 (shut_bool Try.underlying4 _), (trodAll_cons_mk (shut_int Try.underlying3 w0) (trodAll_cons_mk (shut_string Try.underlying9 y1) (trodAll_cons_mk (Below.trod laidOut (by kernel_rfl) (of_decide_eq_true (by kernel_rfl)) k2 bel lt2) trodAll_mk0))), rfl, bel.frame _, fun h => by cases h⟩
theorem gdataSubscribes_holds : Rows.GdataSubscribesSaid :=
  OpenClaim.holds_of_wide 4 Try.f4 rfl rfl rfl rfl rfl rfl rfl ⟨rfl, rfl, rfl, rfl, rfl⟩ rfl rfl rfl rfl rfl (by kernel_rfl) Try.func4 (by kernel_rfl)
    (of_decide_eq_true (by kernel_rfl)) (by unfold Func.isWrapper; first | (rw [if_pos (by decide +kernel)]; kernel_rfl) | (rw [if_neg (by decide +kernel)]; exact ⟨rfl, rfl⟩))
    (fun os started H enc _ => gdataSubscribes_lifted os started H enc)
#print axioms gdataSubscribes_holds
end Go.Proofs.Ytpfabaoefkokjaa
