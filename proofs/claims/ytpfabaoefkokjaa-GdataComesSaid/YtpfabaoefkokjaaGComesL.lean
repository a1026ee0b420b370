/-
  GdataComes: the walk.
-/
import Derived.Test.YtpfabaoefkokjaaGComesC
import Derived.Test.YtpfabaoefkokjaaGAwake
import Derived.Test.YtpfabaoefkokjaaBase5
namespace Go.Proofs.Ytpfabaoefkokjaa
open Go.RowKit
set_option linter.unusedVariables false
set_option linter.unusedSimpArgs false
theorem cell_keep {w w1 : World} {S : List Nat} {b o : Nat} {v : Value} (h : w.cell? ⟨b, o, none⟩ = some v) (k : Fr w w1 S) (hn : b ∉ S) : w1.cell? ⟨b, o, none⟩ = some v := (World.cell?_of_block (w := w) (k.block b (World.block_lt_of_cell? w _ h) hn)).trans h
theorem fr_new {w w1 : World} {S : List Nat} (h : Fr w w1 S) (hs : ∀ i, i ∈ S → w.heap.size ≤ i) : Fr w w1 [] := Fr.trans (S := []) (Fr.refl w []) h (fun i hi => .inr (hs i hi))
theorem size5b : (Try.prog.info? 5).map (·.size) = some 1 := by kernel_rfl
section
variable (size : Int) (w : World)
set_option maxRecDepth 100000 in
set_option maxHeartbeats 2000000 in
theorem comes_long (A1 A2 : Option Addr) (n1 c1 n2 c2 : Nat) (hn : n1 < 1 ∨ 20 < n1 ∨ n2 < n1) (hn1 : n1 ≤ 9223372036854775807) (hn2 : n2 ≤ 9223372036854775807) (hs : 0 ≤ size) (hs2 : size ≤ 255) :
    Calls Try.prog 3 #[.int .u8 size, .slice A1 n1 c1, .slice A2 n2 c2] w fun e w' => e = .returned (.bool true) ∧ Fr w w' [] := by
  rcases (show (n1 < 1) ∨ (¬ n1 < 1 ∧ 20 < n1) ∨ (¬ n1 < 1 ∧ ¬ 20 < n1 ∧ n2 < n1) by omega) with hx | ⟨hx, hy⟩ | ⟨hx, hy, hz⟩
  · have d1 : (n1 : Int) < 1 := by omega
    clear hn hx
    go_enter Try.func3, Try.ntmps3
    go_wp2_with (go_at_call 7; refine (awake_true _).mono ?_; rintro e w1 ⟨rfl, hf1⟩)
    go_ret
    exact ⟨rfl, hf1⟩
  · have d1 : ¬ (n1 : Int) < 1 := by omega
    have d2 : (20 : Int) < n1 := by omega
    clear hn hx hy
    go_enter Try.func3, Try.ntmps3
    go_wp2_with (go_at_call 7; refine (awake_true _).mono ?_; rintro e w1 ⟨rfl, hf1⟩)
    go_ret
    exact ⟨rfl, hf1⟩
  · have d1 : ¬ (n1 : Int) < 1 := by omega
    have d2 : ¬ (20 : Int) < n1 := by omega
    have d3 : (n2 : Int) < n1 := by omega
    have d4 : decide (n2 < n1) = true := by simpa using hz
    clear hn hx hy
    go_enter Try.func3, Try.ntmps3
    go_wp2_with (go_at_call 7; refine (awake_true _).mono ?_; rintro e w1 ⟨rfl, hf1⟩)
    go_ret
    exact ⟨rfl, hf1⟩
set_option maxRecDepth 100000 in
set_option maxHeartbeats 4000000 in
theorem comes_in (A1 A2 : Option Addr) (n1 c1 n2 c2 : Nat) (ss : List ByteArray) (ps : List Nat) (hl : ss.length = n1) (hps : ps.length = n2) (hp8 : ∀ x, x ∈ ps → x ≤ 255) (hA1 : 0 < n1 → ∃ b o, A1 = some ⟨b, o, none⟩ ∧ w.rangeAt b o (ss.map Value.string)) (hA2 : 0 < n2 → ∃ b o, A2 = some ⟨b, o, none⟩ ∧ w.rangeAt b o (ps.map (fun (p : Nat) => Value.int .u8 (p : Int))))
    (hn1 : 1 ≤ n1) (hn2 : n1 ≤ 20) (hn3 : n1 ≤ n2) (hs : 0 ≤ size) (hs2 : size ≤ 255) :
    Calls Try.prog 3 #[.int .u8 size, .slice A1 n1 c1, .slice A2 n2 c2] w fun e w' => e = .returned (.bool true) ∧ Fr w w' [] := by
  obtain ⟨sz, hsz⟩ := Int.eq_ofNat_of_zero_le (show 0 ≤ 1 + size % 64 by omega)
  have h1 : 1 ≤ sz := by omega
  have h2 : sz ≤ 64 := by omega
  have d1 : ¬ (n1 : Int) < 1 := by omega
  have d2 : ¬ (20 : Int) < n1 := by omega
  have d3 : ¬ (n2 : Int) < n1 := by omega
  have d4 : decide (n2 < n1) = false := by simp; omega
  go_enter Try.func3, Try.ntmps3
  go_wp2_with (first
      | (go_at_call 7; refine (awake_true _).mono ?_; rintro e w1 ⟨rfl, hf1⟩)
      | (go_at_call 8; refine (newPub_in sz 1 (by omega) (by omega) _).mono ?_; rintro e w2 ⟨rfl, hp2, hf2⟩)
      | (go_at_call 9; refine (newSub_in sz _ h1 h2 (by decide) _).mono ?_; rintro e w3 ⟨h, g, vb, rfl, hs3, hg3, hf3, hh, hg, hvb⟩))
  have L0 := Lib.hid (show w.heap.size ≤ w1.heap.size ∧ w.heap.size ≤ h ∧ w.heap.size ≤ g ∧ w.heap.size ≤ vb ∧ w.heap.size ≤ w3.heap.size from by
    have a := hf1.size
    have b := hf2.size
    have c := hf3.size
    exact ⟨a, by omega, by omega, by omega, by omega⟩)
  refine wp_gen (fun W' => W'.heap[w3.heap.size]? = some (.cells #[.pointer (some ⟨w1.heap.size, 0, none⟩)] 25 (0, 0)) ∧ W'.heap[w3.heap.size + 1]? = some (.cells #[.pointer (some ⟨h, 0, none⟩)] 28 (0, 0)) ∧
    AllTo w1.heap.size h g vb sz ⟨#[]⟩ 0 ⟨⟨#[]⟩, 0, 0, 0, 0⟩ W' ∧ Fr w W' []) ⟨bk_alloc (bk_new _ _) _, bk_newAt (by simp), ⟨bk_alloc (bk_alloc (bk_keep hp2 hf3 (by simp)) _) _, ⟨padB ⟨#[]⟩ sz, 0, 0, ⟨#[]⟩, 0, 0, false, false⟩, ⟨List.replicate sz 0, 0, 0, false, 0, 0⟩, ⟨false, 0, 0, []⟩, bk_alloc (bk_alloc hs3 _) _, ⟨bk_alloc (bk_alloc hg3.1 _) _, bk_alloc (bk_alloc hg3.2 _) _⟩,
      ⟨⟨by simp, h1, h2, Int.le_refl 0, (by show (0 : Int) ≤ 15; omega), Int.le_refl 0, (by show (0 : Int) ≤ 4; omega)⟩, rfl, fun q => (by cases q), fun q => (by cases q), fun q => (by cases q), fun q => (by cases q), fun q => (by cases q), fun q => (by cases q), ⟨by decide, by decide, by decide, by decide⟩, fun q => (by cases q), fun q => (by cases q)⟩,
      ⟨fun q => absurd q (by omega), Int.le_refl 0, fun q => absurd q (Nat.lt_irrefl 0), fun q => absurd q (Int.lt_irrefl 0), fun q => (by cases q)⟩⟩, (((hf1.step hf2).step hf3).alloc _).alloc _⟩ ?_
  rintro WB ⟨b1, b2, b3, b4⟩
  have HT8 := Lib.hid b1
  have HT9 := Lib.hid b2
  have HA := Lib.hid b3
  have HFB := Lib.hid b4
  clear b1 b2 b3 b4 hp2 hs3 hg3 hf1 hf2 hf3 hh hg hvb
  generalize w1.heap.size = P at *
  obtain ⟨T8, hT8⟩ : ∃ T8, w3.heap.size = T8 := ⟨_, rfl⟩
  obtain ⟨T9, hT9⟩ : ∃ T9, w3.heap.size + 1 = T9 := ⟨_, rfl⟩
  rw [hT8] at HT8 L0
  rw [hT9] at HT9
  have L9 := Lib.hid (show T8 < T9 by omega)
  rw [hT9, hT8]
  clear hT8 hT9
  have HD := Lib.hid (show (T8 ≠ P ∧ T8 ≠ g ∧ T8 ≠ vb ∧ T8 ≠ h) ∧ (T9 ≠ P ∧ T9 ≠ g ∧ T9 ≠ vb ∧ T9 ≠ h) ∧ (P ≠ g ∧ P ≠ vb ∧ P ≠ h) from by
    obtain ⟨a, x, s, r, b, c, _⟩ := HA.out
    exact ⟨⟨bk_ne HT8.out a (by decide), bk_ne HT8.out c.1 (by decide), bk_ne HT8.out c.2 (by decide), bk_ne HT8.out b (by decide)⟩, ⟨bk_ne HT9.out a (by decide), bk_ne HT9.out c.1 (by decide), bk_ne HT9.out c.2 (by decide), bk_ne HT9.out b (by decide)⟩, bk_ne a c.1 (by decide), bk_ne a c.2 (by decide), bk_ne a b (by decide)⟩)
  go_loopg [10, 45] (n1 + 1) (fun kq xl xi wr => ∃ (k : Nat) (lv : ByteArray) (q : PW), Hid (k + kq = n1 + 1) ∧ k ≤ n1 ∧ xi = .int .i64 k ∧ xl = .string lv ∧ Hid (AllTo P h g vb sz lv k q wr) ∧ Hid (Fr WB wr [P, g, vb, h]))
  case atStart => exact ⟨0, ⟨#[]⟩, ⟨⟨#[]⟩, 0, 0, 0, 0⟩, Lib.hid (by omega), by omega, rfl, rfl, HA, Lib.hid (Fr.refl _ _)⟩
  case round =>
    obtain ⟨k, lv, q, HK, hkn, rfl, rfl, HR, HFr⟩ := hrel
    have h8 := bk_keep HT8.out HFr.out (by simp [HD.out.1.1, HD.out.1.2.1, HD.out.1.2.2.1, HD.out.1.2.2.2])
    have h9 := bk_keep HT9.out HFr.out (by simp [HD.out.2.1.1, HD.out.2.1.2.1, HD.out.2.1.2.2.1, HD.out.2.1.2.2.2])
    have H8 := Lib.hid h8
    have H9 := Lib.hid h9
    clear h8 h9
    by_cases hlt : k < n1
    · have hlt' : (k : Int) < n1 := by omega
      have hlt2 : (k : Int) < n2 := by omega
      obtain ⟨b1, o1, rfl, hr1⟩ := hA1 (by omega)
      obtain ⟨b2, o2, rfl, hr2⟩ := hA2 (by omega)
      obtain ⟨v, hv⟩ : ∃ v, ss[k]? = some v := ⟨_, List.getElem?_eq_getElem (by omega)⟩
      obtain ⟨pp, hpp⟩ : ∃ pp, ps[k]? = some pp := ⟨_, List.getElem?_eq_getElem (by omega)⟩
      have hpp8 := hp8 pp (List.mem_of_getElem? hpp)
      have fwb : Fr w wr [] := HFB.out.trans HFr.out (by intro i hi; right; have := L0.out; simp at hi; omega)
      have hv0 : w.cell? ⟨b1, o1 + k, none⟩ = some (.string v) := hr1 k _ (by rw [List.getElem?_map, hv]; rfl)
      have hp0 : w.cell? ⟨b2, o2 + k, none⟩ = some (.int .u8 pp) := hr2 k _ (by rw [List.getElem?_map, hpp]; rfl)
      have hv1 : wr.cell? ⟨b1, o1 + k, none⟩ = some (.string v) := by
        have := range_keep hr1 fwb (by simp) k _ (by rw [List.getElem?_map, hv]; rfl)
        exact this
      have hbk2 : b2 < w.heap.size := World.block_lt_of_cell? w _ hp0
      have HP2 := Lib.hid (range_keep hr2 fwb (by simp) k (.int .u8 pp) (by rw [List.getElem?_map, hpp]; rfl))
      have HB2 := Lib.hid (show b2 < wr.heap.size by have := fwb.size; omega)
      obtain ⟨c, hc⟩ : ∃ c : Nat, (pp : Int) % 10 = c := ⟨pp % 10, by omega⟩
      have hc100 : c ≤ 100 := by omega
      have HFW := Lib.hid fwb
      clear hv0 hp0 hr1 hr2 hv hpp hA1 hA2 hl hps hp8 fwb
      have HBK := Lib.hid hbk2
      clear hbk2
      have HFIT := Lib.hid (show (⟨(splB (List.replicate sz 0) 0 (v.toList.take sz)).toArray⟩ : ByteArray) = fitB sz v from rfl)
      have HSZ := Lib.hid (show (((fitB sz v).size : Int) == (sz : Int)) = true by rw [fitB_size]; simp)
      have HAll := HR.out
      obtain ⟨hpub, x, s, r, hs1, hg1, hsm, hci⟩ := HAll
      have HPub := Lib.hid hpub
      have HRest := Lib.hid (show ∀ W W' : World, Fr wr W [P] → W.heap[P]? = some (.cells #[.int .i64 sz, .string (fitB sz v), .int .u16 1, .int .u32 ((k : Int) + 1), .string q.wv, .int .u16 q.wi, .int .u32 q.ws, .int .i64 q.nx, .int .i64 q.m] 80 (0, 0)) → AllTo P h g vb sz (fitB sz v) ((k : Int) + 1) q W from fun W _ f e => ⟨e, x, s, r, bk_keep hs1 f (by simpa using HD.out.2.2.2.2.symm), gl_keep hg1 f (by simpa using HD.out.2.2.1.symm) (by simpa using HD.out.2.2.2.1.symm), hsm, ci_commit hci _ (fitB_size sz v)⟩)
      clear hpub hs1 hg1 hsm hci HR
      go_wp2_with (first
        | ((with_reducible refine gate_op (.makeSlice 23 (.tmp 50) (.tmp 50)) rfl ?_); go_must (refine ev_make 23 (.tmp 50) (.tmp 50) rfl rfl rfl (z := .int .u8 0) (size := 1) (bytes := 1) Try.underlying23 (by kernel_rfl) (n := sz) rfl rfl (by omega) (by omega) (cs := bC (List.replicate sz 0)) (by rw [show (Value.int .u8 0).cells = #[Value.int .u8 0] from rfl, Nat.mul_one, made_one]; simp [bC]) ?_))
        | ((with_reducible refine gate_op (.call { callee := .builtin .copy, args := #[.tmp 52, .tmp 53], argTypes := #[23, 9] }) rfl ?_); go_must (refine ev_copyMin (.tmp 52) (.tmp 53) 23 9 rfl rfl rfl Try.underlying23 size5b rfl rfl (bk_new _ _) (by simp) ?_); intro w4 hb4 hf4; go_must (have F4 := Lib.hid (((Fr.refl wr []).alloc _).trans hf4 (by simp)); have hc8 : w4.cell? ⟨T8, 0, none⟩ = some (.pointer (some ⟨P, 0, none⟩)) := (bk_cell (bk_keep H8.out F4.out (by simp)) 0).trans rfl; have HPub4 := Lib.hid (bk_keep HPub.out F4.out (by simp)); have HB4 := Lib.hid hb4; clear hb4 hf4))
        | ((with_reducible refine gate_op (.convert 23 9 (.tmp 55)) rfl ?_); go_must (refine ev_bytes 23 9 (.tmp 55) rfl rfl rfl Try.underlying23 Try.underlying5 Try.underlying9 rfl HB4.out (splB_len (by simp) (by rw [List.length_take]; omega)) ?_; rw [HFIT.out]))
        | (go_at_call 13; refine (commit_ok _ _ _ _ _ _ _ _ _ _ _ HPub4.out _ HSZ.out (by omega) (by omega)).mono ?_; rintro e w5 ⟨rfl, hp5, hf5⟩; go_must (have F5 := Lib.hid ((F4.out.mono (S := [P]) (by simp)).trans hf5 (by simp)); have hcp : w5.cell? ⟨b2, o2 + k, none⟩ = some (.int .u8 pp) := cell_keep HP2.out F5.out (by have a := HBK.out; have b := L0.out; simp; omega); have HA5 := Lib.hid (HRest.out w5 w5 F5.out hp5); have H85 := Lib.hid (bk_keep H8.out F5.out (by simpa using HD.out.1.1)); have H95 := Lib.hid (bk_keep H9.out F5.out (by simpa using HD.out.2.1.1)); clear hp5 hf5))
        | (go_at_call 10; refine (all_parts P T8 T9 h g vb sz (fitB sz v) ((k : Int) + 1) c hc100 q _ H85.out H95.out HA5.out (by omega) (by omega) h1 h2).mono ?_; rintro e w6 ⟨rfl, ha6, hf6⟩))
      go_roundg (gk - 1)
      case measure => have := HK.out; omega
      case rel => exact ⟨k + 1, fitB sz v, runS sz (fitB sz v) ((k : Int) + 1) c q, Lib.hid (by have := HK.out; omega), by omega, by go_num, rfl, Lib.hid (by rw [show ((k + 1 : Nat) : Int) = (k : Int) + 1 by omega]; exact ha6), Lib.hid ((HFr.out.trans (F5.out.mono (S := [P, g, vb, h]) (by simp)) (fun i hi => .inl hi)).trans hf6 (fun i hi => .inl hi))⟩
    · have hge : ¬ (k : Int) < n1 := by omega
      obtain rfl : k = n1 := by omega
      obtain ⟨hpub, x, s, r, hs1, hg1, hsm, hci⟩ := HR.out
      have hm4 : q.m ≤ 100 := by
        by_cases hm : q.m = 0
        · omega
        · have := (hci.way (by omega)).2.2.2.1
          omega
      have HPub := Lib.hid hpub
      have HLV := Lib.hid (hci.lv1 (by omega))
      clear hpub hs1 hg1 hsm hci
      obtain ⟨N, hN, hN2⟩ : ∃ N : Nat, ((sz : Int) + 15) / 16 = N ∧ N = (sz + 15) / 16 := ⟨(sz + 15) / 16, by omega, rfl⟩
      have HN2 := Lib.hid hN2
      have hN4 : N ≤ 100 := by omega
      clear hN2
      have hc8 : wr.cell? ⟨T8, 0, none⟩ = some (.pointer (some ⟨P, 0, none⟩)) := (bk_cell H8.out 0).trans rfl
      have hge2 : (1 : Int) ≤ k := by omega
      have HM := Lib.hid (runS_on sz lv k q.m q (Nat.le_refl _))
      go_wp2_with (first
        | (go_at_call 14; refine (left_some _ _ _ _ _ _ _ _ _ _ _ HPub.out).mono ?_; rintro e w' ⟨rfl, rfl⟩)
        | (go_at_call 10; (with_reducible refine (all_parts P T8 T9 h g vb sz lv (k : Int) q.m hm4 q _ H8.out H9.out HR.out (by omega) (by omega) h1 h2).mono ?_); rintro e w6 ⟨rfl, ha6, hf6⟩; go_must (have HA6 := Lib.hid ha6; have F6 := Lib.hid hf6; have H86 := Lib.hid (bk_keep H8.out hf6 (by simp [HD.out.1.1, HD.out.1.2.1, HD.out.1.2.2.1, HD.out.1.2.2.2])); have H96 := Lib.hid (bk_keep H9.out hf6 (by simp [HD.out.2.1.1, HD.out.2.1.2.1, HD.out.2.1.2.2.1, HD.out.2.1.2.2.2])); clear ha6 hf6 hc8)))
      go_wp2_with (go_at_call 10; (with_reducible refine (all_parts P T8 T9 h g vb sz lv (k : Int) N hN4 (runS sz lv (k : Int) q.m q) _ H86.out H96.out HA6.out (by omega) (by omega) h1 h2).mono ?_); rintro e w7 ⟨rfl, ha7, hf7⟩; go_must (have hc9 : w7.cell? ⟨T9, 0, none⟩ = some (.pointer (some ⟨h, 0, none⟩)) := (bk_cell (bk_keep H96.out hf7 (by simp [HD.out.2.1.1, HD.out.2.1.2.1, HD.out.2.1.2.2.1, HD.out.2.1.2.2.2])) 0).trans rfl; have HA7 := Lib.hid ha7; have F7 := Lib.hid hf7; clear ha7 hf7))
      have HE := Lib.hid (runS_all sz lv k h1 (runS sz lv (k : Int) q.m q) (by rw [HM.out]; exact Nat.sub_self _))
      obtain ⟨_, x7, s7, r7, hs7, hg7, hsm7, hci7⟩ := HA7.out
      rw [HN2.out, HE.out] at hci7
      have hi7 := hci7.on (by show (0 : Int) < k; omega)
      obtain ⟨_, _, _, _, _, _, j, _, _, _, j4, j5⟩ := hci7.st hi7
      obtain ⟨e1, e2, e3, e4⟩ := j5 (j4 rfl)
      dsimp only at e1 e2 e3
      obtain ⟨xf, xfi, xfs, xb, xbi, xbs, xwt, xft⟩ := x7
      dsimp only at e1 e2 e3 e4
      subst e1
      subst e2
      subst e3
      subst e4
      have HS7 := Lib.hid hs7
      have hkw : IntKind.u32.wrap (k : Int) = k := IntWalk.u32_in _ (by omega)
      have q1 : (xb.toList == xb.toList) = true := by simp
      have q2 : ((k : Int) == k) = true := by simp
      have HFA := Lib.hid ((((HFB.out.mono (S := [P, g, vb, h]) (by simp)).trans HFr.out (fun i hi => .inl hi)).trans F6.out (fun i hi => .inl hi)).trans F7.out (fun i hi => .inl hi))
      clear hs7 hg7 hsm7 hci7 hi7 j4 j5
      go_wp2_with (first
        | (go_at_call 15; refine (latch_yes h g _ _ _ _ _ _ _ _ HS7.out).mono ?_; rintro e w8 ⟨rfl, hs8, hf8⟩; go_must (have hc9b : w8.cell? ⟨T9, 0, none⟩ = some (.pointer (some ⟨h, 0, none⟩)) := cell_keep hc9 hf8 (by simpa using HD.out.2.1.2.2.2); clear hc9))
        | (go_at_call 16; refine (sfront_any h g _ _ _ _ _ _ _ _ _ hs8).mono ?_; rintro e w9 ⟨rfl, hf9⟩))
      go_ret
      refine ⟨rfl, ?_⟩
      have FZ : Fr w w9 [] := fr_new ((HFA.out.trans (hf8.mono (S := [P, g, vb, h]) (by simp)) (fun i hi => .inl hi)).trans hf9 (by simp)) (by intro i hi; have := L0.out; simp at hi; omega)
      first
        | exact FZ.alloc _
        | exact (FZ.alloc _).drew
        | exact (FZ.alloc _).drewN _
end
end Go.Proofs.Ytpfabaoefkokjaa
