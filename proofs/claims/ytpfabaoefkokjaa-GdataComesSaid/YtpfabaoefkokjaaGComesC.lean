/-
  GdataComes: so many parts go, and come.
-/
import Derived.Test.YtpfabaoefkokjaaGComesP
import Derived.Test.YtpfabaoefkokjaaGPubLawA
import Derived.Test.YtpfabaoefkokjaaBase4
namespace Go.Proofs.Ytpfabaoefkokjaa
open Go.RowKit
set_option linter.unusedVariables false
set_option linter.unusedSimpArgs false

theorem next_ci {sz : Nat} {lv : ByteArray} {ls : Int} {q : PW} {x : Sb} {r : RG} (P : Nat) (w : World) (h : CI sz lv ls q x r) (hl : 1 ≤ ls) (h1 : 1 ≤ sz) (h2 : sz ≤ 64) (hp : w.heap[P]? = some (.cells #[.int .i64 sz, .string lv, .int .u16 1, .int .u32 ls, .string q.wv, .int .u16 q.wi, .int .u32 q.ws, .int .i64 q.nx, .int .i64 q.m] 80 (0, 0))) :
    Calls Try.prog 11 #[.pointer (some ⟨P, 0, none⟩)] w fun e w' => e = .returned (.tuple #[.agg #[.int .i64 4, .int .u8 0, .int .u8 0, .int .u16 0, .int .u16 0, .int .u16 0, .int .u8 0, .int .u16 0, .int .u16 0, .int .u16 0, .int .u8 0, .int .u16 0, .bool false, .int .u8 0, .int .u16 1, .int .u32 (nextS sz lv ls q).ws, .int .u8 (((nextS sz lv ls q).nx - 1 : Nat) : Int), .int .u8 (((sz + 15) / 16 : Nat) : Int), .string (cutB (nextS sz lv ls q).wv ((nextS sz lv ls q).nx - 1))], .bool true]) ∧
      w'.heap[P]? = some (.cells #[.int .i64 sz, .string lv, .int .u16 1, .int .u32 ls, .string (nextS sz lv ls q).wv, .int .u16 (nextS sz lv ls q).wi, .int .u32 (nextS sz lv ls q).ws, .int .i64 (nextS sz lv ls q).nx, .int .i64 (nextS sz lv ls q).m] 80 (0, 0)) ∧ Fr w w' [P] := by
  obtain ⟨wv, wi, ws, nx, m⟩ := q
  dsimp only at hp
  cases m with
  | zero => exact nextStart2 P sz lv 1 ls wv wi ws nx ((sz + 15) / 16 - 1) w _ (cutB lv 0) hp (by omega) h1 h2 (h.lv1 hl) rfl (by omega) rfl
  | succ m =>
    obtain ⟨c1, c2, c3, c4, c5⟩ := h.way (by show 0 < m + 1; omega)
    dsimp only at c2 c3 c4
    subst c2
    exact nextOn2 P sz lv 1 ls wv 1 ws nx m w _ (cutB wv nx) hp (by omega) h1 h2 c3 (by omega) rfl rfl
/-- One part goes, and comes. -/
theorem step_all {sz : Nat} {lv : ByteArray} {ls : Int} {q : PW} {x : Sb} {s : G} {r : RG} (P h g vb : Nat) (hsm : Sim sz s r) (hci : CI sz lv ls q x r) (hl : 1 ≤ ls) (hl2 : ls ≤ 4294967295) (h1 : 1 ≤ sz) (h2 : sz ≤ 64) :
    ∃ (ws : Int) (p : Nat) (b : ByteArray) (o : Bool) (e0 : Int) (x1 : Sb) (s1 : G) (r1 : RG), (e0 = 0 ∨ e0 = 14) ∧
      (∀ w : World, w.heap[P]? = some (.cells #[.int .i64 sz, .string lv, .int .u16 1, .int .u32 ls, .string q.wv, .int .u16 q.wi, .int .u32 q.ws, .int .i64 q.nx, .int .i64 q.m] 80 (0, 0)) → Calls Try.prog 11 #[.pointer (some ⟨P, 0, none⟩)] w fun e w' => e = .returned (.tuple #[.agg #[.int .i64 4, .int .u8 0, .int .u8 0, .int .u16 0, .int .u16 0, .int .u16 0, .int .u8 0, .int .u16 0, .int .u16 0, .int .u16 0, .int .u8 0, .int .u16 0, .bool false, .int .u8 0, .int .u16 1, .int .u32 ws, .int .u8 (p : Int), .int .u8 (((sz + 15) / 16 : Nat) : Int), .string b], .bool true]) ∧
        w'.heap[P]? = some (.cells #[.int .i64 sz, .string lv, .int .u16 1, .int .u32 ls, .string (nextS sz lv ls q).wv, .int .u16 (nextS sz lv ls q).wi, .int .u32 (nextS sz lv ls q).ws, .int .i64 (nextS sz lv ls q).nx, .int .i64 (nextS sz lv ls q).m] 80 (0, 0)) ∧ Fr w w' [P]) ∧
      (∀ w : World, SubAt h g x w → GlueAt g vb sz s w → Calls Try.prog 12 #[.pointer (some ⟨h, 0, none⟩), .agg #[.int .i64 4, .int .u8 0, .int .u8 0, .int .u16 0, .int .u16 0, .int .u16 0, .int .u8 0, .int .u16 0, .int .u16 0, .int .u16 0, .int .u8 0, .int .u16 0, .bool false, .int .u8 0, .int .u16 1, .int .u32 ws, .int .u8 (p : Int), .int .u8 (((sz + 15) / 16 : Nat) : Int), .string b]] w fun e w' => e = .returned (.tuple #[.bool o, .int .i64 e0]) ∧ SubAt h g x1 w' ∧ GlueAt g vb sz s1 w' ∧ Fr w w' [g, vb, h]) ∧
      Sim sz s1 r1 ∧ CI sz lv ls (nextS sz lv ls q) x1 r1 := by
  obtain ⟨e01, hci2⟩ := ci_step hci hl h1 h2
  have hws : 0 ≤ (nextS sz lv ls q).ws ∧ (nextS sz lv ls q).ws ≤ ls := by
    unfold nextS
    split
    · exact ⟨by show 0 ≤ ls; omega, Int.le_refl _⟩
    · rename_i hm
      obtain ⟨_, _, _, _, c5⟩ := hci.way (by omega)
      obtain ⟨_, _, a3, a4, _⟩ := hci.st c5
      exact ⟨a4, a3⟩
  have hnx : (nextS sz lv ls q).nx - 1 ≤ 255 := by
    unfold nextS
    split
    · show 1 - 1 ≤ 255; omega
    · rename_i hm
      obtain ⟨_, _, _, c4, _⟩ := hci.way (by omega)
      show q.nx + 1 - 1 ≤ 255
      omega
  have C0 := fun w hp => next_ci P w hci hl h1 h2 hp
  revert C0 e01 hci2 hws hnx
  generalize nextS sz lv ls q = q1
  intro e01 hci2 hws hnx C0
  obtain ⟨p1, p2⟩ := put_sim hsm 4 1 q1.ws (q1.nx - 1) (((sz + 15) / 16 : Nat) : Int) (cutB q1.wv (q1.nx - 1)) ⟨by omega, by omega, hws.1, by omega⟩
  have C1 := fun w a b => sput_any 0 0 0 0 0 0 0 0 0 0 0 false 0 h g vb sz x s 4 1 q1.ws (q1.nx - 1) (((sz + 15) / 16 : Nat) : Int) (cutB q1.wv (q1.nx - 1)) w a b hsm.ok hnx (by omega) (by omega)
  refine ⟨q1.ws, q1.nx - 1, cutB q1.wv (q1.nx - 1), _, _, _, _, _, ?_, C0, C1, p2, ?_⟩
  · unfold sput
    rw [p1]
    exact e01
  · have : (sput sz x s 4 1 q1.ws (q1.nx - 1) (((sz + 15) / 16 : Nat) : Int) (cutB q1.wv (q1.nx - 1))).2.1 = xput x (rput sz r 4 1 q1.ws (q1.nx - 1) (((sz + 15) / 16 : Nat) : Int) (cutB q1.wv (q1.nx - 1))).1 1 q1.ws := by
      rw [← p1]
      rfl
    rw [this]
    exact hci2
section
variable (P T8 T9 h g vb sz : Nat) (lv : ByteArray) (ls : Int)
/-- What stands behind so many parts. -/
def AllTo (q : PW) (w' : World) : Prop := w'.heap[P]? = some (.cells #[.int .i64 sz, .string lv, .int .u16 1, .int .u32 ls, .string q.wv, .int .u16 q.wi, .int .u32 q.ws, .int .i64 q.nx, .int .i64 q.m] 80 (0, 0)) ∧ ∃ x s r, SubAt h g x w' ∧ GlueAt g vb sz s w' ∧ Sim sz s r ∧ CI sz lv ls q x r
set_option maxRecDepth 100000 in
set_option maxHeartbeats 4000000 in
theorem all_parts (c : Nat) (hc : c ≤ 100) (q : PW) (w : World) (hT8 : w.heap[T8]? = some (.cells #[.pointer (some ⟨P, 0, none⟩)] 25 (0, 0))) (hT9 : w.heap[T9]? = some (.cells #[.pointer (some ⟨h, 0, none⟩)] 28 (0, 0))) (hq : AllTo P h g vb sz lv ls q w) (hl : 1 ≤ ls) (hl2 : ls ≤ 4294967295) (h1 : 1 ≤ sz) (h2 : sz ≤ 64) :
    Calls Try.prog 10 #[.int .i64 c, .pointer (some ⟨T8, 0, none⟩), .pointer (some ⟨T9, 0, none⟩)] w fun e w' => e = .returned (.bool true) ∧ AllTo P h g vb sz lv ls (runS sz lv ls c q) w' ∧ Fr w w' [P, g, vb, h] := by
  have HT8 := Lib.hid hT8
  have HT9 := Lib.hid hT9
  have HQ := Lib.hid hq
  have HD := Lib.hid (show (T8 ≠ P ∧ T8 ≠ g ∧ T8 ≠ vb ∧ T8 ≠ h) ∧ (T9 ≠ P ∧ T9 ≠ g ∧ T9 ≠ vb ∧ T9 ≠ h) ∧ (P ≠ g ∧ P ≠ vb ∧ P ≠ h) from by
    obtain ⟨a, x, s, r, b, c, _⟩ := hq
    exact ⟨⟨bk_ne hT8 a (by decide), bk_ne hT8 c.1 (by decide), bk_ne hT8 c.2 (by decide), bk_ne hT8 b (by decide)⟩, ⟨bk_ne hT9 a (by decide), bk_ne hT9 c.1 (by decide), bk_ne hT9 c.2 (by decide), bk_ne hT9 b (by decide)⟩, bk_ne a c.1 (by decide), bk_ne a c.2 (by decide), bk_ne a b (by decide)⟩)
  clear hT8 hT9 hq
  go_enter Try.func10, Try.ntmps10
  go_wp2
  go_loopg [10] (c + 1) (fun kq i wr => ∃ k : Nat, Hid (k + kq = c + 1) ∧ k ≤ c ∧ i = .int .i64 k ∧ Hid (AllTo P h g vb sz lv ls (runS sz lv ls k q) wr) ∧ Hid (Fr w wr [P, g, vb, h]))
  case atStart => exact ⟨0, Lib.hid (by omega), by omega, rfl, HQ, Lib.hid (Fr.refl _ _)⟩
  case round =>
    obtain ⟨k, HK, hkc, rfl, HA, HFr⟩ := hrel
    by_cases hlt : k < c
    · obtain ⟨hp, x, s, r, hs, hg, hsm, hci⟩ := HA.out
      obtain ⟨ws, p, b, o, e0, x1, s1, r1, he, C0, C1, C2, C3⟩ := step_all P h g vb hsm hci hl hl2 h1 h2
      have H0 := Lib.hid (C0 wr hp)
      have H1 := Lib.hid C1
      have H2 := Lib.hid C2
      have H3 := Lib.hid (runS_succ sz lv ls k q ▸ C3)
      have HP := Lib.hid hp
      have HS := Lib.hid hs
      have HG := Lib.hid hg
      have hlt' : (k : Int) < c := by omega
      have h8 := bk_keep HT8.out HFr.out (by simp [HD.out.1.1, HD.out.1.2.1, HD.out.1.2.2.1, HD.out.1.2.2.2])
      have h9 := Lib.hid (bk_keep HT9.out HFr.out (by simp [HD.out.2.1.1, HD.out.2.1.2.1, HD.out.2.1.2.2.1, HD.out.2.1.2.2.2]))
      have hc8 : wr.cell? ⟨T8, 0, none⟩ = some (.pointer (some ⟨P, 0, none⟩)) := (bk_cell h8 0).trans rfl
      clear C0 C1 C2 C3 hp hs hg hsm hci HA h8
      rcases he with rfl | rfl
      all_goals
        go_wp2_with (first
          | (go_at_call 11; refine H0.out.mono ?_; rintro e w3 ⟨rfl, hp3, hf3⟩)
          | ((with_reducible refine gate_op (.store 36 (.tmp 5) (.tmp 15)) rfl ?_); go_must (refine ev_store 36 (.tmp 5) (.tmp 15) rfl rfl rfl rfl rfl (bk_new _ _) size36 rfl rfl rfl ?_); intro w4 hb4 hf4; go_must (have F4 := Lib.hid ((hf3.alloc _).trans hf4 (by have h3 := hf3.size; simp; omega)); have HS4 := Lib.hid (bk_keep HS.out F4.out (by simpa using HD.out.2.2.2.2.symm)); have HG4 := Lib.hid (gl_keep HG.out F4.out (by simpa using HD.out.2.2.1.symm) (by simpa using HD.out.2.2.2.1.symm)); have HP4 := Lib.hid (bk_keep (bk_alloc hp3 _) hf4 (by have := bk_lt hp3; simp; omega)); have hc9 : w4.cell? ⟨T9, 0, none⟩ = some (.pointer (some ⟨h, 0, none⟩)) := (bk_cell (bk_keep h9.out F4.out (by simpa using HD.out.2.1.1)) 0).trans rfl; clear hp3 hf3 hf4))
          | ((with_reducible refine gate_op (.load 36 (.tmp 5)) rfl ?_); go_must (refine ev_load 36 (.tmp 5) rfl rfl rfl rfl hb4 Try.underlying36 rfl size36 rfl ?_))
          | (go_at_call 12; refine (H1.out _ HS4.out HG4.out).mono ?_; rintro e w5 ⟨rfl, hs5, hg5, hf5⟩))
        go_roundg (gk - 1)
        case measure => have := HK.out; omega
        case rel => exact ⟨k + 1, Lib.hid (by have := HK.out; omega), by omega, by go_num, Lib.hid ⟨by rw [runS_succ]; exact bk_keep HP4.out hf5 (by simp [HD.out.2.2.1, HD.out.2.2.2.1, HD.out.2.2.2.2]), x1, s1, r1, hs5, hg5, H2.out, H3.out⟩, Lib.hid ((HFr.out.trans (F4.out.mono (S := [P, g, vb, h]) (by simp)) (by intro i hi; exact .inl hi)).trans hf5 (by intro i hi; left; simp at hi ⊢; exact .inr hi))⟩
    · have hge : ¬ (k : Int) < c := by omega
      obtain rfl : k = c := by omega
      go_wp2
      go_ret
      exact ⟨rfl, HA.out, HFr.out⟩
end
end Go.Proofs.Ytpfabaoefkokjaa
