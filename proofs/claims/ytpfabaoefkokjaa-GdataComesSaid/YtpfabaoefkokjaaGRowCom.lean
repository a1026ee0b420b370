/-
  GdataComes: if all parts come, one behind the other, a subscriber has, behind as many parts as are left and as many as a value has, what was committed last. No condition beyond the statement's own.
-/
import Derived.Test.YtpfabaoefkokjaaRows
import Derived.Test.YtpfabaoefkokjaaGComesL
import Derived.Test.YtpfabaoefkokjaaOpen2
import Derived.ProofKit
import Derived.OpenShut
import Derived.ShutString
import Derived.ChangeOld
import Derived.SizedLaws
namespace Go.Proofs.Ytpfabaoefkokjaa
open Go.ChangeShapes Go.WideShapes Go.ChangeAt Go.RowKit
open Go.ChangeMaps (open_string shut_string)
set_option linter.unusedVariables false

theorem open_bytes_flat {H : Type} {enc : TypeId × Value → H} {w : World} {base : Nat} {spare : Nat → Bool} {held : Bool} {fuel : Nat} {cs : List Value} {x : DataW H × List MemPlace} (h : DataW.trod enc Try.prog w base spare held fuel 23 cs = some x) :
    ∃ (A : Option Addr) (len cap : Nat) (ps : List Nat), cs = [.slice A len cap] ∧ ps.length = len ∧ len ≤ cap ∧ cap ≤ maxLen ∧ (∀ p, p ∈ ps → p ≤ 255) ∧ (0 < len → ∃ b o, A = some ⟨b, o, none⟩ ∧ w.rangeAt b o (ps.map (fun (p : Nat) => Value.int .u8 (p : Int)))) := by
  obtain ⟨A, len, cap, n, L, hcs, hL, h1, h2, h3, h4⟩ := open_flat Try.underlying23 (by rw [show Try.prog.cellsOf 5 = 1 by kernel_rfl]; decide) h
  obtain ⟨ps, hps⟩ : ∃ ps : List Nat, L.flatten = ps.map (fun (p : Nat) => Value.int .u8 (p : Int)) ∧ ps.length = L.length ∧ ∀ p, p ∈ ps → p ≤ 255 := by
    clear h3 hL
    induction L with
    | nil => exact ⟨[], rfl, rfl, fun p h => by simp at h⟩
    | cons r L ih =>
      obtain ⟨ps, i1, i2, i3⟩ := ih (fun r hr => h4 r (by simp [hr]))
      obtain ⟨q1, y, q2⟩ := h4 r (by simp)
      obtain ⟨k, p1, p2, p3⟩ := DataW.trod_int Try.underlying5 q2
      have hr := u8_rng p3
      obtain ⟨m, rfl⟩ := Int.eq_ofNat_of_zero_le hr.1
      exact ⟨m :: ps, by rw [List.flatten_cons, p1, i1]; rfl, by simp [i2], fun p hp => by
        rcases List.mem_cons.1 hp with rfl | hp
        · omega
        · exact i3 p hp⟩
  exact ⟨A, len, cap, ps, hcs, by omega, h1, h2, hps.2.2, fun hp => by
    obtain ⟨b, o, e1, e2⟩ := h3 hp
    exact ⟨b, o, e1, hps.1 ▸ e2⟩⟩
theorem comes_all (size : Int) (A1 A2 : Option Addr) (n1 c1 n2 c2 : Nat) (W : World) (hs : 0 ≤ size ∧ size ≤ 255) {H : Type} {enc : TypeId × Value → H} {base : Nat} {spare : Nat → Bool} {held : Bool} {fuel fuel2 : Nat} {y y2 : DataW H × List MemPlace}
    (hf : DataW.trod enc Try.prog W base spare held fuel 22 [.slice A1 n1 c1] = some y) (hf2 : DataW.trod enc Try.prog W base spare held fuel2 23 [.slice A2 n2 c2] = some y2) :
    Calls Try.prog 3 #[.int .u8 size, .slice A1 n1 c1, .slice A2 n2 c2] W fun e w' => e = .returned (.bool true) ∧ Below W.heap.size W w' := by
  obtain ⟨A', n', c', ss, hcs, hl, hc, hm, hA⟩ := open_strs_flat Try.underlying22 Try.underlying9 (by kernel_rfl) hf
  simp only [List.cons.injEq, Value.slice.injEq, and_true] at hcs
  obtain ⟨rfl, rfl, rfl⟩ := hcs
  obtain ⟨A', n', c', ps, hcs, hl2, hc2, hm2, h8, hA2⟩ := open_bytes_flat hf2
  simp only [List.cons.injEq, Value.slice.injEq, and_true] at hcs
  obtain ⟨rfl, rfl, rfl⟩ := hcs
  have hw : ∀ (e : Ending) (w' : World), e = .returned (.bool true) ∧ Fr W w' [] → e = .returned (.bool true) ∧ Below W.heap.size W w' := fun e w' h => ⟨h.1, h.2.below⟩
  unfold maxLen at hm hm2
  by_cases h80 : n1 < 1 ∨ 20 < n1 ∨ n2 < n1
  · exact (comes_long size W A1 A2 n1 c1 n2 c2 h80 (by omega) (by omega) hs.1 hs.2).mono hw
  · exact (comes_in size W A1 A2 n1 c1 n2 c2 ss ps hl hl2 h8 hA hA2 (by omega) (by omega) (by omega) hs.1 hs.2).mono hw
theorem laidOut : laidOutB Try.prog = true := by kernel_rfl
theorem own : ownKnob Try.prog.godebug = none := by kernel_rfl
set_option maxRecDepth 100000 in
theorem gdataComes_lifted (os : Os) (started : os.Started) (H : Type) (enc : TypeId × Value → H) :
    ReturnsInHanded {} Try.checked os 3 .any (Rows.gdataComesSpec.pre6 enc Try.prog Try.f3 Rows.gdataComesRow.domain false) (Rows.gdataComesSpec.post enc Try.prog Try.f3 false true false false) := by
  refine returnsInHanded_of_change_sized (C := Try.checked) own started (by kernel_rfl) Try.func3
    (ChangeSpec.witness6 (enc := enc) (C := Try.checked) false ⟨#[], #[.int .u8 0, .slice none 0 0, .slice none 0 0], []⟩ 8 (by kernel_rfl) (by kernel_rfl) (by kernel_rfl) (by kernel_rfl)) ?_
  intro W base args ds gs before hval0 hW hcnd hsz0 _
  have hsz : (DataW.weightsEach Try.prog (Try.f3.params.toList ++ Rows.gdataComesSpec.plain.varTypes Try.prog) (ds ++ gs)).all (· ≤ reachBytes) = true := hsz0
  have hval : ∀ (j : Nat) t v, Try.f3.params[j]? = some t → args[j]? = some v → Value.okWide Try.prog W .any base t v := hval0
  have hW' := hW
  obtain ⟨p, q, hA0, hV, rfl, hfz, hnd⟩ := hW
  have hA : DataW.TrodAll enc Try.prog W 0 (fun _ => true) true Try.f3.params.toList args.toList ds p := hA0
  rw [Try.params3] at hA hval hsz
  obtain ⟨v0, vs0, d0, ds0, p0, q0, hargs, rfl, rfl, h0, r0⟩ := trodAll_cons hA
  obtain ⟨v1, vs1, d1, ds1, p1, q1, rfl, rfl, rfl, h1, r1⟩ := trodAll_cons r0
  obtain ⟨v2, vs2, d2, ds2, p2, q2, rfl, rfl, rfl, h2, r2⟩ := trodAll_cons r1
  obtain ⟨rfl, rfl, rfl⟩ := trodAll_nil r2
  obtain rfl : args = #[v0, v1, v2] := by cases args; simp_all
  obtain ⟨rfl, rfl⟩ := trodVars_none hV
  obtain ⟨a0, rfl, rfl, rfl, w0⟩ := open_int Try.underlying5 (hval 0 5 v0 rfl rfl) h0
  obtain ⟨A1, n1, c1, rfl⟩ := okWide_slice Try.underlying22 (hval 1 22 v1 rfl rfl)
  have k1 := h1
  have lt1 : ∀ x ∈ p1, x.block < W.heap.size := by obtain ⟨m, hm⟩ := k1; exact DataW.trod_lt m _ _ _ hm
  obtain ⟨fuel1, hf1⟩ := h1
  obtain ⟨A2, n2, c2, rfl⟩ := okWide_slice Try.underlying23 (hval 2 23 v2 rfl rfl)
  have k2 := h2
  have lt2 : ∀ x ∈ p2, x.block < W.heap.size := by obtain ⟨m, hm⟩ := k2; exact DataW.trod_lt m _ _ _ hm
  obtain ⟨fuel2, hf2⟩ := h2
  clear hA0 hval0 hsz0 hsz
  refine (comes_all a0 A1 A2 n1 c1 n2 c2 W (u8_rng w0) hf1 hf2).mono fun e W' ⟨he, bel⟩ => ?_
  subst he
  exact ⟨_, rfl, _, _, _, [], _, [], hW', trodAll_mk1 (shut_bool Try.underlying4 _), (trodAll_cons_mk (shut_int Try.underlying5 w0) (trodAll_cons_mk (Below.trod laidOut (by kernel_rfl) (of_decide_eq_true (by kernel_rfl)) k1 bel lt1) (trodAll_cons_mk (Below.trod laidOut (by kernel_rfl) (of_decide_eq_true (by kernel_rfl)) k2 bel lt2) trodAll_mk0))), rfl, bel.frame _, fun h => by cases h⟩
theorem gdataComes_holds : Rows.GdataComesSaid :=
  OpenClaim.holds_of_wide 3 Try.f3 rfl rfl rfl rfl rfl rfl rfl ⟨rfl, rfl, rfl, rfl, rfl⟩ rfl rfl rfl rfl rfl (by kernel_rfl) Try.func3 (by kernel_rfl)
    (of_decide_eq_true (by kernel_rfl)) (by unfold Func.isWrapper; first | (rw [if_pos (by decide +kernel)]; kernel_rfl) | (rw [if_neg (by decide +kernel)]; exact ⟨rfl, rfl⟩))
    (fun os started H enc _ => gdataComes_lifted os started H enc)
#print axioms gdataComes_holds
end Go.Proofs.Ytpfabaoefkokjaa
