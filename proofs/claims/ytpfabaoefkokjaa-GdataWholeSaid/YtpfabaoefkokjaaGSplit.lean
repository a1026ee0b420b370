/-
  What the document's Split does: a value's frames, in a list of their own.
-/
import Derived.Test.YtpfabaoefkokjaaGAll
namespace Go.Proofs.Ytpfabaoefkokjaa
open Go.RowKit
set_option linter.unusedVariables false
set_option linter.unusedSimpArgs false

/-- A frame's cells. -/
def frL (vi vs p n : Int) (b : ByteArray) : List Value := (#[.int .i64 4, .int .u8 0, .int .u8 0, .int .u16 0, .int .u16 0, .int .u16 0, .int .u8 0, .int .u16 0, .int .u16 0, .int .u16 0, .int .u8 0, .int .u16 0, .bool false, .int .u8 0, .int .u16 vi, .int .u32 vs, .int .u8 p, .int .u8 n, .string b] : Array Value).toList
/-- The cells of the first j frames of a value. -/
def framesTo (vi vs : Int) (v : ByteArray) (j : Nat) : List Value := (List.range j).flatMap (fun (i : Nat) => frL vi vs i ((v.size + 15) / 16 : Nat) (cutB v i))
theorem framesTo_succ (vi vs : Int) (v : ByteArray) (j : Nat) : framesTo vi vs v (j + 1) = framesTo vi vs v j ++ frL vi vs j ((v.size + 15) / 16 : Nat) (cutB v j) := by
  simp [framesTo, List.range_succ]

theorem infoF : (Try.prog.info? 36).map (fun i => (i.zero, i.size, i.bytes)) = some (some (.agg #[.int .i64 0, .int .u8 0, .int .u8 0, .int .u16 0, .int .u16 0, .int .u16 0, .int .u8 0, .int .u16 0, .int .u16 0, .int .u16 0, .int .u8 0, .int .u16 0, .bool false, .int .u8 0, .int .u16 0, .int .u32 0, .int .u8 0, .int .u8 0, .string ⟨#[]⟩]), 19, 64) := by kernel_rfl
theorem infoF2 : (Try.prog.info? 36).map (fun i => (i.zero, i.size)) = some (some (.agg #[.int .i64 0, .int .u8 0, .int .u8 0, .int .u16 0, .int .u16 0, .int .u16 0, .int .u8 0, .int .u16 0, .int .u16 0, .int .u16 0, .int .u8 0, .int .u16 0, .bool false, .int .u8 0, .int .u16 0, .int .u32 0, .int .u8 0, .int .u8 0, .string ⟨#[]⟩]), 19) := by kernel_rfl
theorem sizeF : (Try.prog.info? 36).map (·.size) = some 19 := by kernel_rfl

set_option maxRecDepth 100000 in
set_option maxHeartbeats 2000000 in
theorem split_any (vi vs : Int) (v : ByteArray) (hv : v.size ≤ 64) (w : World) :
    Calls Try.prog 33 #[.agg #[.int .i64 0, .int .u8 0, .int .u8 0, .int .u16 0, .int .u16 0, .int .u16 0, .int .u8 0, .int .u16 0, .int .u16 0, .int .u16 0, .int .u8 0, .int .u16 0, .bool false, .int .u8 0, .int .u16 vi, .int .u32 vs, .int .u8 0, .int .u8 0, .string ⟨#[]⟩], .string v] w fun e w' => ∃ x, e = .returned x ∧ w'.ownsRow w.heap.size 36 19 x ((v.size + 15) / 16) (framesTo vi vs v ((v.size + 15) / 16)) ∧ Fr w w' [] := by
  have hv2 : ¬ 64 < v.size := by omega
  obtain ⟨n, hn⟩ : ∃ n, n = (v.size + 15) / 16 := ⟨_, rfl⟩
  have hn4 : n ≤ 4 := by omega
  have HN := Lib.hid hn
  go_enter Try.func33, Try.ntmps33
  go_wp2_with (first | ((with_reducible refine gate_op (.box 36 (.tmp 0)) rfl ?_); go_must (refine ev_new (N := 2) rfl rfl (cs := #[.int .i64 0, .int .u8 0, .int .u8 0, .int .u16 0, .int .u16 0, .int .u16 0, .int .u8 0, .int .u16 0, .int .u16 0, .int .u16 0, .int .u8 0, .int .u16 0, .bool false, .int .u8 0, .int .u16 vi, .int .u32 vs, .int .u8 0, .int .u8 0, .string ⟨#[]⟩]) (t := 36) (by go_simp) ?_); intro g hg w1 hb1 hf1; subst hg) | (go_at_call 45; refine (all_any v hv _).mono ?_; rintro e w2 ⟨x5, rfl, ho2, hf2⟩))
  have HB := Lib.hid (bk_keep hb1 hf2 (by simp))
  have HF := Lib.hid (show Fr w w2 [] from hf1.step hf2)
  have HO := Lib.hid (own_lower ho2 hf1.size)
  have HX := Lib.hid (own_ge ho2 (Nat.succ_le_of_lt (bk_lt hb1)))
  clear hb1 hf1 ho2 hf2 hn
  rw [← HN.out] at HO
  obtain ⟨A5, c5, rfl, hA⟩ := own_slice HO.out
  have hA' := Lib.hid hA
  clear hA
  go_loopg [6, 7] 5 (fun kq x6 i wr => ∃ (j : Nat) (k p q : Int) (b : ByteArray), Hid (j + kq = 5) ∧ j ≤ n ∧ i = .int .i64 j ∧ Hid (wr.heap[w.heap.size]? = some (.cells #[.int .i64 k, .int .u8 0, .int .u8 0, .int .u16 0, .int .u16 0, .int .u16 0, .int .u8 0, .int .u16 0, .int .u16 0, .int .u16 0, .int .u8 0, .int .u16 0, .bool false, .int .u8 0, .int .u16 vi, .int .u32 vs, .int .u8 p, .int .u8 q, .string b] 36 (0, 0))) ∧ Hid (wr.ownsRow w2.heap.size 36 19 x6 j (framesTo vi vs v j)) ∧ Hid (Fr w2 wr [w.heap.size]))
  case atStart => exact ⟨0, _, _, _, _, rfl, by omega, rfl, HB.out, World.ownsRow_nil _ _ _ _, Fr.refl _ _⟩
  case round =>
    obtain ⟨j, k, p, q, b, HJ, hjn, rfl, HBr, HOr, HFr⟩ := hrel
    by_cases hlt : j < n
    · obtain ⟨gp, rfl⟩ := hA'.out (by omega)
      have hxp := HX.out gp rfl
      have hgp := (HO.out.lt gp rfl).2
      have hg2 := bk_lt HB.out
      have hne : ¬ gp = w.heap.size := by omega
      have hne2 : ¬ w.heap.size = gp := by omega
      have HO5 := Lib.hid (own_keep HO.out HFr.out (fun i hi => by have : i = gp := (by simpa [Value.ownBlock] using hi.symm); simp; omega))
      have hcp : wr.cell? ⟨gp, j, none⟩ = some (.string (cutB v j)) := by
        rw [HO5.out.cellAt j (by omega)]
        unfold partsL
        rw [← HN.out]
        simp [hlt]
      have hcb := bk_cell HBr.out
      have hfb := bk_free HBr.out
      have hw1 : IntKind.u8.wrap (j : Int) = j := IntWalk.u8_in _ (by omega)
      have hw2 : IntKind.u8.wrap (n : Int) = n := IntWalk.u8_in _ (by omega)
      generalize hcut : cutB v j = cb at *
      have HC := Lib.hid hcut
      clear hcut
      have g2 := HF.out.size
      go_wp2_with (first | ((with_reducible refine gate_op (.load 36 (.tmp 2)) rfl ?_); go_must (refine ev_load 36 (.tmp 2) rfl rfl rfl rfl (bk_put (bk_put (bk_put (bk_put HBr.out 0 _ rfl) 16 _ rfl) 17 _ rfl) 18 _ rfl) Try.underlying36 rfl sizeF rfl ?_)) | ((with_reducible refine gate_op (.buildSlice 64 1 #[(0, .tmp 33)]) rfl ?_); go_must (refine ev_build1 64 (.tmp 33) rfl rfl rfl Try.underlying64 infoF2 rfl (by decide) (by decide) rfl rfl rfl ?_)) | ((with_reducible refine gate_op (.call { callee := .builtin .append, args := #[.tmp 32, .tmp 34], argTypes := #[64, 64] }) rfl ?_); go_must (refine ev_append rfl (.tmp 32) (.tmp 34) 64 rfl rfl w2.heap.size 36 (.agg #[.int .i64 0, .int .u8 0, .int .u8 0, .int .u16 0, .int .u16 0, .int .u16 0, .int .u8 0, .int .u16 0, .int .u16 0, .int .u16 0, .int .u8 0, .int .u16 0, .bool false, .int .u8 0, .int .u16 0, .int .u32 0, .int .u8 0, .int .u8 0, .string ⟨#[]⟩]) 19 64 Try.underlying64 infoF rfl (by decide) rfl (own_keep HOr.out ((((((Fr.refl _ [w.heap.size]).setIn (by simp) _).setIn (by simp) _).setIn (by simp) _).setIn (by simp) _).alloc _) ?hne) (news := frL vi vs j n cb) rfl rfl (cells_new _ _ _) rfl (by unfold maxLen; omega) (by omega) (by have := HFr.out.size; simp; omega) ?_); (case hne => intro i hi; have := (HOr.out.lt i hi).1; simp; omega); intro x1 w3 ho hg))
      have hj := HJ.out
      go_roundg (gk - 1)
      case measure => omega
      case rel =>
        refine ⟨j + 1, 4, (j : Int), (n : Int), cb, by unfold Hid; omega, by omega, by go_num, ?_, ?_, ?_⟩
        · refine (hg.block _ ?_ ?_).trans (bk_alloc (bk_put (bk_put (bk_put (bk_put HBr.out 0 _ rfl) 16 _ rfl) 17 _ rfl) 18 _ rfl) _)
          · have := bk_lt HBr.out
            simp
            omega
          · intro he
            have := (HOr.out.lt _ he.symm).1
            omega
        · rw [framesTo_succ, ← HN.out, HC.out]
          exact ho
        · exact ((((((HFr.out.setIn (by simp) _).setIn (by simp) _).setIn (by simp) _).setIn (by simp) _).alloc _).grown hg (fun i hi => .inr ((HOr.out.lt i hi).1)))
    · have e : j = n := by omega
      subst e
      go_wp2
      go_ret
      refine ⟨_, rfl, ?_, HF.out.trans HFr.out (by intro i hi; right; have e2 : i = w.heap.size := (by simpa using hi); omega)⟩
      rw [← HN.out]
      exact own_lower HOr.out HF.out.size
end Go.Proofs.Ytpfabaoefkokjaa
