/-
  GdataComes, in plain words: how a publisher and a subscriber stand that are told of all parts, one behind the other.
-/
import Derived.Test.YtpfabaoefkokjaaGSubB
import Derived.Test.YtpfabaoefkokjaaGSim
namespace Go.Proofs.Ytpfabaoefkokjaa
open Go.RowKit
set_option linter.unusedVariables false
set_option linter.unusedSimpArgs false

/-- The parts of a value that came, the first j of them. -/
def cuts (sz : Nat) (v : ByteArray) (j : Nat) : List ByteArray := (List.range ((sz + 15) / 16)).map (fun q => if q < j then cutB v q else ⟨#[]⟩)
theorem cuts_len (sz : Nat) (v : ByteArray) (j : Nat) : (cuts sz v j).length = (sz + 15) / 16 := by simp [cuts]
theorem cuts_get (sz : Nat) (v : ByteArray) (j q : Nat) (h : q < (sz + 15) / 16) : (cuts sz v j)[q]? = some (if q < j then cutB v q else ⟨#[]⟩) := by
  unfold cuts
  rw [List.getElem?_map, List.getElem?_range h]
  rfl
theorem cuts_zero (sz : Nat) (v : ByteArray) : cuts sz v 0 = List.replicate ((sz + 15) / 16) ⟨#[]⟩ := by
  unfold cuts
  simp [List.map_const']
theorem cuts_set (sz : Nat) (v : ByteArray) (j : Nat) (h : j < (sz + 15) / 16) : (cuts sz v j).set j (cutB v j) = cuts sz v (j + 1) := by
  apply List.ext_getElem?
  intro q
  rw [List.getElem?_set, cuts_len]
  by_cases hq : q < (sz + 15) / 16
  · rw [cuts_get _ _ _ _ hq, cuts_get _ _ _ _ hq]
    by_cases e : j = q
    · subst e
      rw [if_pos rfl, if_pos h, if_pos (by omega)]
    · rw [if_neg e]
      by_cases hj : q < j
      · rw [if_pos hj, if_pos (by omega)]
      · rw [if_neg hj, if_neg (by omega)]
  · rw [List.getElem?_eq_none (by rw [cuts_len]; omega), List.getElem?_eq_none (by rw [cuts_len]; omega), if_neg (by omega)]
theorem cutB_ne (v : ByteArray) (q : Nat) (h : 16 * q < v.size) : (cutB v q).toList ≠ [] := fun e => by
  have h1 := ba_len (cutB v q)
  have h2 : (cutB v q).size = min (q * 16 + min 16 (v.size - q * 16)) v.size - q * 16 := by unfold cutB; rw [ba_size_extract]
  rw [e] at h1
  simp at h1
  omega
theorem cutB_siz (v : ByteArray) (q : Nat) (h : 16 * q < v.size) : (cutB v q).size = min 16 (v.size - 16 * q) := by
  unfold cutB
  rw [ba_size_extract]
  omega
theorem cutB_chunk (v : ByteArray) (q : Nat) : (cutB v q).toList = chunk v.toList q := by
  unfold cutB chunk
  rw [ByteArray.toList_eq, ByteArray.toList_eq, ByteArray.data_extract, Array.toList_extract, List.extract_eq_take_drop]
  have hs : v.size = v.data.toList.length := by rw [Array.length_toList]; rfl
  rw [show q * 16 = 16 * q by omega, show 16 * q + min 16 (v.size - 16 * q) - 16 * q = min 16 (v.size - 16 * q) by omega, hs]
  rw [← List.length_drop, List.take_eq_take_iff]
  simp
theorem cuts_cat (sz : Nat) (v : ByteArray) (hv : v.size = sz) : catB (cuts sz v ((sz + 15) / 16)) ((sz + 15) / 16) = v := by
  apply ba_ext
  rw [cat_take _ v.toList ((sz + 15) / 16) (fun q hq => ⟨_, cuts_get _ _ _ _ hq, by rw [if_pos hq]; exact cutB_chunk v q⟩) _ (Nat.le_refl _)]
  exact List.take_of_length_le (by rw [ba_len]; omega)
theorem cuts_done (sz : Nat) (v : ByteArray) (hv : v.size = sz) : rdone (cuts sz v ((sz + 15) / 16)) = true :=
  rdone_yes _ (fun k hk s hs => by
    rw [cuts_len] at hk
    rw [cuts_get _ _ _ _ hk, if_pos hk] at hs
    obtain rfl := Option.some.inj hs
    exact cutB_ne v k (by omega))
theorem cuts_part (sz : Nat) (v : ByteArray) (j : Nat) (h : j < (sz + 15) / 16) : rdone (cuts sz v j) = false :=
  rdone_no _ j ⟨#[]⟩ (by rw [cuts_get _ _ _ _ h, if_neg (by omega)]) (by rw [ByteArray.toList_eq])
/-- A publisher's way. -/
structure PW where
  wv : ByteArray
  wi : Int
  ws : Int
  nx : Nat
  m : Nat
def nextS (sz : Nat) (lv : ByteArray) (ls : Int) (q : PW) : PW := if q.m = 0 then ⟨lv, 1, ls, 1, (sz + 15) / 16 - 1⟩ else ⟨q.wv, q.wi, q.ws, q.nx + 1, q.m - 1⟩
/-- How all stand. -/
structure CI (sz : Nat) (lv : ByteArray) (ls : Int) (q : PW) (x : Sb) (r : RG) : Prop where
  lv1 : 1 ≤ ls → lv.size = sz
  ls0 : 0 ≤ ls
  way : 0 < q.m → 1 ≤ ls ∧ q.wi = 1 ∧ q.wv.size = sz ∧ q.nx + q.m = (sz + 15) / 16 ∧ r.is = true
  on : 0 < q.ws → r.is = true
  st : r.is = true → r.vi = 1 ∧ r.vs = q.ws ∧ q.ws ≤ ls ∧ 0 ≤ q.ws ∧ q.wv.size = sz ∧ (q.ws = ls → q.wv = lv) ∧ ∃ j, j ≤ (sz + 15) / 16 ∧ r.cl = cuts sz q.wv j ∧ (0 < q.m → j = q.nx ∨ j = (sz + 15) / 16) ∧ (q.m = 0 → j = (sz + 15) / 16) ∧
    (j = (sz + 15) / 16 → x.b = q.wv ∧ x.bi = 1 ∧ x.bs = q.ws ∧ x.wt = true)
theorem ci_commit {sz : Nat} {lv : ByteArray} {ls : Int} {q : PW} {x : Sb} {r : RG} (h : CI sz lv ls q x r) (v : ByteArray) (hv : v.size = sz) : CI sz v (ls + 1) q x r := by
  refine ⟨fun _ => hv, by have := h.ls0; omega, fun hm => ?_, h.on, fun hi => ?_⟩
  · obtain ⟨a1, a2⟩ := h.way hm
    exact ⟨by omega, a2⟩
  · obtain ⟨a1, a2, a3, a4, a5, a6, a7⟩ := h.st hi
    exact ⟨a1, a2, by omega, a4, a5, fun e => by omega, a7⟩
/-- What a subscriber's Put makes of it. -/
def xput (x : Sb) (o : ByteArray × Bool × Int) (vi vs : Int) : Sb := if o.2.1 = true then { x with b := o.1, bi := vi, bs := vs, wt := true, ft := x.ft || o.2.2 == 3 } else { x with ft := x.ft || o.2.2 == 3 }
theorem ci_step {sz : Nat} {lv : ByteArray} {ls : Int} {q : PW} {x : Sb} {r : RG} (h : CI sz lv ls q x r) (hl : 1 ≤ ls) (h1 : 1 ≤ sz) (h2 : sz ≤ 64) :
    ((rput sz r 4 1 (nextS sz lv ls q).ws ((nextS sz lv ls q).nx - 1) (((sz + 15) / 16 : Nat) : Int) (cutB (nextS sz lv ls q).wv ((nextS sz lv ls q).nx - 1))).1.2.2 = 0 ∨ (rput sz r 4 1 (nextS sz lv ls q).ws ((nextS sz lv ls q).nx - 1) (((sz + 15) / 16 : Nat) : Int) (cutB (nextS sz lv ls q).wv ((nextS sz lv ls q).nx - 1))).1.2.2 = 14) ∧
    CI sz lv ls (nextS sz lv ls q) (xput x (rput sz r 4 1 (nextS sz lv ls q).ws ((nextS sz lv ls q).nx - 1) (((sz + 15) / 16 : Nat) : Int) (cutB (nextS sz lv ls q).wv ((nextS sz lv ls q).nx - 1))).1 1 (nextS sz lv ls q).ws)
      (rput sz r 4 1 (nextS sz lv ls q).ws ((nextS sz lv ls q).nx - 1) (((sz + 15) / 16 : Nat) : Int) (cutB (nextS sz lv ls q).wv ((nextS sz lv ls q).nx - 1))).2 := by
  have hlv := h.lv1 hl
  obtain ⟨ris, ri, rs, cl⟩ := r
  have hway := h.way
  have hst := h.st
  dsimp only at hway hst
  -- a value's parts, from the first j on, or a part that came already
  have first : ∀ (wv : ByteArray) (ws : Int) (nx m : Nat), wv.size = sz → 0 ≤ ws → ws ≤ ls → (ws = ls → wv = lv) → nx + m = (sz + 15) / 16 → 1 ≤ nx →
      ∀ (R : (ByteArray × Bool × Int) × RG), R = ((catIf ((cuts sz wv (nx - 1)).set (nx - 1) (cutB wv (nx - 1))) ((sz + 15) / 16), rdone ((cuts sz wv (nx - 1)).set (nx - 1) (cutB wv (nx - 1))), 0), ⟨true, 1, ws, (cuts sz wv (nx - 1)).set (nx - 1) (cutB wv (nx - 1))⟩) →
      (R.1.2.2 = 0 ∨ R.1.2.2 = 14) ∧ CI sz lv ls ⟨wv, 1, ws, nx, m⟩ (xput x R.1 1 ws) R.2 := by
    intro wv ws nx m hw hws hle heq hsum hnx R hR
    rw [cuts_set sz wv (nx - 1) (by omega), show nx - 1 + 1 = nx by omega] at hR
    subst hR
    refine ⟨.inl rfl, ⟨h.lv1, h.ls0, fun hm => ⟨hl, rfl, hw, hsum, rfl⟩, fun _ => rfl, fun _ => ⟨rfl, rfl, hle, hws, hw, heq, nx, by show nx ≤ _; omega, rfl, fun _ => .inl rfl, fun hm => by have hm' : m = 0 := hm; omega, fun hj => ?_⟩⟩⟩
    subst hj
    unfold xput
    dsimp only
    rw [cuts_done sz wv hw, if_pos rfl, catIf_yes _ (cuts_done sz wv hw), cuts_cat sz wv hw]
    exact ⟨rfl, rfl, rfl, rfl⟩
  have dup : ∀ (wv : ByteArray) (ws : Int) (nx m : Nat), ris = true → q.wv = wv → q.ws = ws → nx + m = (sz + 15) / 16 → cl = cuts sz wv ((sz + 15) / 16) → (x.b = wv ∧ x.bi = 1 ∧ x.bs = ws ∧ x.wt = true) →
      ∀ (R : (ByteArray × Bool × Int) × RG), R = ((⟨#[]⟩, false, 14), ⟨ris, ri, rs, cl⟩) → (R.1.2.2 = 0 ∨ R.1.2.2 = 14) ∧ CI sz lv ls ⟨wv, 1, ws, nx, m⟩ (xput x R.1 1 ws) R.2 := by
    intro wv ws nx m hi hw hws hsum hcl hx R hR
    subst hR
    subst hw
    subst hws
    obtain ⟨a1, a2, a3, a4, a5, a6, _⟩ := hst hi
    exact ⟨.inr rfl, ⟨h.lv1, h.ls0, fun hm => ⟨hl, rfl, a5, hsum, hi⟩, fun _ => hi, fun _ => ⟨a1, a2, a3, a4, a5, a6, _, Nat.le_refl _, hcl, fun _ => .inr rfl, fun _ => rfl, fun _ => hx⟩⟩⟩
  have fits : ∀ (wv : ByteArray) (nx : Nat), wv.size = sz → 1 ≤ nx → nx ≤ (sz + 15) / 16 → gfits sz (nx - 1) (((sz + 15) / 16 : Nat) : Int) (cutB wv (nx - 1)) := by
    intro wv nx hw h3 h4
    refine ⟨rfl, by omega, ?_⟩
    rw [cutB_siz wv (nx - 1) (by omega), hw]
    omega
  unfold nextS
  by_cases hm : q.m = 0
  · rw [if_pos hm]
    dsimp only
    unfold rput
    dsimp only
    rw [if_neg (show ¬ ((4 : Int) == 4) = false by decide), if_neg (show ¬ ¬ gfits sz (1 - 1) (((sz + 15) / 16 : Nat) : Int) (cutB lv (1 - 1)) from fun z => z (fits lv 1 hlv (by omega) (by omega)))]
    cases hi : ris with
    | false =>
      subst hi
      have F : ∀ P : Prop, ¬ (false = true ∧ P) := fun P h => by cases h.1
      rw [if_neg (F _), if_neg (F _)]
      exact first lv ls 1 ((sz + 15) / 16 - 1) hlv (by omega) (by omega) (fun _ => rfl) (by omega) (by omega) _ (by rw [cuts_zero])
    | true =>
      subst hi
      obtain ⟨a1, a2, a3, a4, a5, a6, j, b1, b2, b3, b4, b5⟩ := hst rfl
      have hj := b4 hm
      subst hj
      subst a1
      subst a2
      rw [if_neg (show ¬ (true = true ∧ numV 1 ls < numV 1 q.ws) from fun z => by have := z.2; unfold numV at this; omega)]
      by_cases e : q.ws = ls
      · rw [if_pos (show true = true ∧ numV 1 ls = numV 1 q.ws from ⟨rfl, by rw [e]⟩)]
        have hne : (cl.getD (1 - 1) ⟨#[]⟩).toList ≠ [] := by
          rw [b2]
          have := cuts_get sz q.wv ((sz + 15) / 16) (1 - 1) (by omega)
          rw [List.getD, this, if_pos (by omega)]
          exact cutB_ne q.wv (1 - 1) (by omega)
        rw [if_pos hne]
        have hw := a6 e
        exact dup lv ls 1 ((sz + 15) / 16 - 1) rfl hw e (by omega) (by rw [b2, hw]) (by have := b5 rfl; rw [hw, e] at this; exact this) _ rfl
      · rw [if_neg (show ¬ (true = true ∧ numV 1 ls = numV 1 q.ws) from fun z => by have := z.2; unfold numV at this; omega)]
        exact first lv ls 1 ((sz + 15) / 16 - 1) hlv (by omega) (by omega) (fun _ => rfl) (by omega) (by omega) _ (by rw [cuts_zero])
  · rw [if_neg hm]
    obtain ⟨c1, c2, c3, c4, c5⟩ := hway (by omega)
    subst c5
    obtain ⟨a1, a2, a3, a4, a5, a6, j, b1, b2, b3, b4, b5⟩ := hst rfl
    subst a1
    subst a2
    dsimp only
    have e1 : q.nx + 1 - 1 = q.nx := by omega
    rw [e1]
    unfold rput
    dsimp only
    have ff := fits q.wv (q.nx + 1) c3 (by omega) (by omega)
    rw [e1] at ff
    rw [if_neg (show ¬ ((4 : Int) == 4) = false by decide), if_neg (show ¬ ¬ gfits sz q.nx (((sz + 15) / 16 : Nat) : Int) (cutB q.wv q.nx) from fun z => z ff)]
    rw [if_neg (show ¬ (true = true ∧ numV 1 q.ws < numV 1 q.ws) from fun z => by have := z.2; omega), if_pos (show true = true ∧ numV 1 q.ws = numV 1 q.ws from ⟨rfl, rfl⟩)]
    rw [c2]
    rcases b3 (by omega) with hj | hj
    · subst hj
      have he : ¬ (cl.getD q.nx ⟨#[]⟩).toList ≠ [] := by
        rw [b2]
        have := cuts_get sz q.wv q.nx q.nx (by omega)
        rw [List.getD, this, if_neg (by omega)]
        simp [ByteArray.toList_eq]
      rw [if_neg he, b2]
      exact first q.wv q.ws (q.nx + 1) (q.m - 1) c3 a4 a3 a6 (by omega) (by omega) _ (by rw [e1])
    · subst hj
      have hne : (cl.getD q.nx ⟨#[]⟩).toList ≠ [] := by
        rw [b2]
        have := cuts_get sz q.wv ((sz + 15) / 16) q.nx (by omega)
        rw [List.getD, this, if_pos (by omega)]
        exact cutB_ne q.wv q.nx (by omega)
      rw [if_pos hne]
      exact dup q.wv q.ws (q.nx + 1) (q.m - 1) rfl rfl rfl (by omega) b2 (b5 rfl) _ rfl
/-- So many parts on. -/
def runS (sz : Nat) (lv : ByteArray) (ls : Int) : Nat → PW → PW
  | 0, q => q
  | k + 1, q => runS sz lv ls k (nextS sz lv ls q)
theorem runS_succ (sz : Nat) (lv : ByteArray) (ls : Int) : ∀ (k : Nat) (q : PW), runS sz lv ls (k + 1) q = nextS sz lv ls (runS sz lv ls k q)
  | 0, q => rfl
  | k + 1, q => runS_succ sz lv ls k (nextS sz lv ls q)
theorem runS_on (sz : Nat) (lv : ByteArray) (ls : Int) : ∀ (k : Nat) (q : PW), k ≤ q.m → runS sz lv ls k q = ⟨q.wv, q.wi, q.ws, q.nx + k, q.m - k⟩
  | 0, q, _ => rfl
  | k + 1, q, h => by
    rw [runS_succ, runS_on sz lv ls k q (by omega)]
    unfold nextS
    rw [if_neg (by show ¬ q.m - k = 0; omega)]
    rfl
theorem runS_all (sz : Nat) (lv : ByteArray) (ls : Int) (h1 : 1 ≤ sz) (q : PW) (hq : q.m = 0) : runS sz lv ls ((sz + 15) / 16) q = ⟨lv, 1, ls, (sz + 15) / 16, 0⟩ := by
  obtain ⟨k, hk⟩ : ∃ k, (sz + 15) / 16 = k + 1 := ⟨(sz + 15) / 16 - 1, by omega⟩
  rw [hk]
  show runS sz lv ls k (nextS sz lv ls q) = _
  unfold nextS
  rw [if_pos hq, runS_on _ _ _ _ _ (by show k ≤ (sz + 15) / 16 - 1; omega)]
  simp only [hk]
  congr 1 <;> omega
end Go.Proofs.Ytpfabaoefkokjaa
