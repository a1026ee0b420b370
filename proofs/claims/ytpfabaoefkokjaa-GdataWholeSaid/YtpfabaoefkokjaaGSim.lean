/-
  The program's glue and the document's answer alike: in plain words.
-/
import Derived.Test.YtpfabaoefkokjaaGRefD
import Derived.Test.YtpfabaoefkokjaaGPutD
namespace Go.Proofs.Ytpfabaoefkokjaa
open Go.RowKit
set_option linter.unusedVariables false
set_option linter.unusedSimpArgs false

/-- What the document's glue holds. -/
structure RG where
  is : Bool
  vi : Int
  vs : Int
  cl : List ByteArray
/-- What it answers and leaves. -/
def rput (sz : Nat) (r : RG) (k vi vs : Int) (p : Nat) (n : Int) (b : ByteArray) : (ByteArray × Bool × Int) × RG :=
  if (k == 4) = false then ((⟨#[]⟩, false, 11), r)
  else if ¬ gfits sz p n b then ((⟨#[]⟩, false, 3), r)
  else if r.is = true ∧ numV vi vs < numV r.vi r.vs then ((⟨#[]⟩, false, 1), r)
  else if r.is = true ∧ numV vi vs = numV r.vi r.vs then
    if (r.cl.getD p ⟨#[]⟩).toList ≠ [] then ((⟨#[]⟩, false, 14), r)
    else ((catIf (r.cl.set p b) ((sz + 15) / 16), rdone (r.cl.set p b), 0), ⟨true, r.vi, r.vs, r.cl.set p b⟩)
  else ((catIf ((List.replicate ((sz + 15) / 16) ⟨#[]⟩).set p b) ((sz + 15) / 16), rdone ((List.replicate ((sz + 15) / 16) ⟨#[]⟩).set p b), 0), ⟨true, vi, vs, (List.replicate ((sz + 15) / 16) ⟨#[]⟩).set p b⟩)

def chunk (l : List UInt8) (q : Nat) : List UInt8 := (l.drop (16 * q)).take 16
theorem chunk_get (l : List UInt8) (q j : Nat) : (chunk l q)[j]? = if j < 16 then l[16 * q + j]? else none := by
  unfold chunk
  rw [List.getElem?_take]
  split
  · rw [List.getElem?_drop]
  · rfl
theorem splB_get (l : List UInt8) (off : Nat) (m : List UInt8) (h : off + m.length ≤ l.length) (i : Nat) : (splB l off m)[i]? = if i < off then l[i]? else if i < off + m.length then m[i - off]? else l[i]? := by
  unfold splB
  by_cases h1 : i < off
  · rw [if_pos h1, List.append_assoc, List.getElem?_append_left (by simp; omega), List.getElem?_take, if_pos h1]
  · rw [if_neg h1]
    by_cases h2 : i < off + m.length
    · rw [if_pos h2, List.append_assoc, List.getElem?_append_right (by simp; omega), List.getElem?_append_left (by simp; omega)]
      congr 1
      simp
      omega
    · rw [if_neg h2, List.getElem?_append_right (by simp; omega), List.getElem?_drop]
      congr 1
      simp
      omega
theorem chunk_same (l : List UInt8) (p : Nat) (m : List UInt8) (hm : m.length = min 16 (l.length - 16 * p)) (hp : 16 * p < l.length) : chunk (splB l (p * 16) m) p = m := by
  apply List.ext_getElem?
  intro j
  rw [chunk_get]
  by_cases hj : j < 16
  · rw [if_pos hj, splB_get _ _ _ (by omega), if_neg (by omega)]
    by_cases h2 : 16 * p + j < p * 16 + m.length
    · rw [if_pos h2]
      congr 1
      omega
    · rw [if_neg h2, List.getElem?_eq_none (by omega), List.getElem?_eq_none (by omega)]
  · rw [if_neg hj, List.getElem?_eq_none (by omega)]
theorem chunk_other (l : List UInt8) (p q : Nat) (m : List UInt8) (hm : m.length = min 16 (l.length - 16 * p)) (hp : 16 * p < l.length) (hq : q ≠ p) : chunk (splB l (p * 16) m) q = chunk l q := by
  apply List.ext_getElem?
  intro j
  rw [chunk_get, chunk_get]
  by_cases hj : j < 16
  · rw [if_pos hj, if_pos hj, splB_get _ _ _ (by omega)]
    by_cases h1 : 16 * q + j < p * 16
    · rw [if_pos h1]
    · rw [if_neg h1, if_neg (by omega)]
  · rw [if_neg hj, if_neg hj]
theorem take_chunk (l : List UInt8) (q : Nat) : l.take (16 * (q + 1)) = l.take (16 * q) ++ chunk l q := by
  unfold chunk
  rw [show 16 * (q + 1) = 16 * q + 16 by omega, List.take_add]
theorem cat_take (cl : List ByteArray) (l : List UInt8) (N : Nat) (h : ∀ q, q < N → ∃ s, cl[q]? = some s ∧ s.toList = chunk l q) : ∀ i, i ≤ N → (catB cl i).toList = l.take (16 * i)
  | 0, _ => by
    unfold catB
    rw [ByteArray.toList_eq]
    rfl
  | i + 1, hi => by
    obtain ⟨s, h1, h2⟩ := h i (by omega)
    rw [catB_succ cl i s h1, take_chunk, ← cat_take cl l N h i (by omega), ← h2]
    rw [ByteArray.toList_eq, ByteArray.toList_eq, ByteArray.toList_eq, ByteArray.data_append, Array.toList_append]
/-- Bit p of the parts that came. -/
def hasP (cm : Int) (p : Nat) : Bool := Go.bits .and .u8 (cm / 2 ^ p) 1 == 1
theorem has_or_fin : ∀ c : Fin 16, ∀ p : Fin 4, ∀ q : Fin 4, hasP (Go.bits .or .u8 (c.val : Int) (2 ^ p.val % 256)) q.val = (hasP (c.val : Int) q.val || q == p) ∧ 0 ≤ Go.bits .or .u8 (c.val : Int) (2 ^ p.val % 256) ∧ Go.bits .or .u8 (c.val : Int) (2 ^ p.val % 256) ≤ 15 := by decide +kernel
theorem has_or (c : Int) (h0 : 0 ≤ c) (h1 : c ≤ 15) (p q : Nat) (hp : p < 4) (hq : q < 4) : hasP (Go.bits .or .u8 c (2 ^ p % 256)) q = (hasP c q || q == p) ∧ 0 ≤ Go.bits .or .u8 c (2 ^ p % 256) ∧ Go.bits .or .u8 c (2 ^ p % 256) ≤ 15 := by
  obtain ⟨n, rfl⟩ := Int.eq_ofNat_of_zero_le h0
  have := has_or_fin ⟨n, by omega⟩ ⟨p, hp⟩ ⟨q, hq⟩
  refine ⟨this.1.trans ?_, this.2⟩
  congr 1
  rw [Bool.eq_iff_iff]
  simp
theorem has_zero (p : Nat) (hp : p < 4) : hasP 0 p = false := by
  have : ∀ p : Fin 4, hasP 0 p.val = false := by decide +kernel
  exact this ⟨p, hp⟩
/-- How many came. -/
def cnt (l : List ByteArray) : Nat := (l.filter (fun s => !s.toList.isEmpty)).length
theorem cnt_le (l : List ByteArray) : cnt l ≤ l.length := List.length_filter_le _ _
theorem cnt_done (l : List ByteArray) : rdone l = true ↔ cnt l = l.length := by
  unfold rdone cnt
  rw [List.length_filter_eq_length_iff, List.all_eq_true]
theorem cnt_set : ∀ (l : List ByteArray) (p : Nat) (s b : ByteArray), l[p]? = some s → s.toList = [] → b.toList ≠ [] → cnt (l.set p b) = cnt l + 1
  | [], p, s, b, h, _, _ => by simp at h
  | x :: l, 0, s, b, h, hs, hb => by
    simp only [List.getElem?_cons_zero, Option.some.injEq] at h
    subst h
    unfold cnt
    have hb' : b.toList.isEmpty = false := by simpa using hb
    simp [List.set, List.filter_cons, hs, hb']
  | x :: l, p + 1, s, b, h, hs, hb => by
    have ih := cnt_set l p s b (by simpa using h) hs hb
    unfold cnt at ih ⊢
    simp only [List.set_cons_succ, List.filter_cons]
    split <;> simp [ih]
theorem cnt_rep (n : Nat) : cnt (List.replicate n ⟨#[]⟩) = 0 := by
  unfold cnt
  rw [List.filter_eq_nil_iff.2]
  · rfl
  · intro s hs
    rw [(List.mem_replicate.1 hs).2, ByteArray.toList_eq]
    simp
theorem num_lt (a b c d : Int) (h2 : 0 ≤ b) (h3 : b ≤ 4294967295) (h6 : 0 ≤ d) (h7 : d ≤ 4294967295) : (numV a b < numV c d ↔ cmpV a b c d < 0) ∧ (numV a b = numV c d ↔ cmpV a b c d = 0) ∧ (numV a b = numV c d → a = c ∧ b = d) := by
  unfold numV cmpV
  refine ⟨?_, ?_, ?_⟩
  · split <;> (try split) <;> (try split) <;> (try split) <;> omega
  · split <;> (try split) <;> (try split) <;> (try split) <;> omega
  · intro h; omega
/-- The two glues alike. -/
structure Sim (sz : Nat) (s : G) (r : RG) : Prop where
  ok : GOk sz s
  is : s.is = r.is
  vi : r.is = true → s.vi = r.vi
  vs : r.is = true → s.vs = r.vs
  len : r.is = true → r.cl.length = (sz + 15) / 16
  has : r.is = true → ∀ q t, r.cl[q]? = some t → hasP s.cm q = !t.toList.isEmpty
  eq : r.is = true → ∀ q t, r.cl[q]? = some t → t.toList ≠ [] → t.toList = chunk s.l q
  cnt : r.is = true → s.gn = cnt r.cl
  r0 : 0 ≤ r.vi ∧ r.vi ≤ 65535 ∧ 0 ≤ r.vs ∧ r.vs ≤ 4294967295
  s0 : s.is = true → 0 ≤ s.vs ∧ s.vs ≤ 4294967295
  le : r.is = true → ∀ t, t ∈ r.cl → t.size ≤ 16
theorem chunk_le (l : List UInt8) (q : Nat) : (chunk l q).length ≤ 16 := by unfold chunk; rw [List.length_take]; omega
theorem ba_list (s : ByteArray) : (⟨s.toList.toArray⟩ : ByteArray) = s := by apply ba_ext; rw [ByteArray.toList_eq]
/-- A part is taken: both glues behind it. -/
theorem sim_take {sz : Nat} {l : List UInt8} {vi vs cm gn : Int} {cl : List ByteArray} {p : Nat} {n : Int} {b s : ByteArray} (hl : l.length = sz) (h1 : 1 ≤ sz) (h2 : sz ≤ 64) (hf : gfits sz p n b) (hlen : cl.length = (sz + 15) / 16)
    (hs : cl[p]? = some s) (he : s.toList = []) (hhas : ∀ q t, cl[q]? = some t → hasP cm q = !t.toList.isEmpty) (heq : ∀ q t, cl[q]? = some t → t.toList ≠ [] → t.toList = chunk l q) (hcnt : gn = cnt cl) (hle : ∀ t, t ∈ cl → t.size ≤ 16)
    (hc0 : 0 ≤ cm) (hc1 : cm ≤ 15) (hv : 0 ≤ vi ∧ vi ≤ 65535 ∧ 0 ≤ vs ∧ vs ≤ 4294967295) :
    Sim sz ⟨splB l (p * 16) b.toList, vi, vs, true, Go.bits .or .u8 cm (2 ^ p % 256), gn + 1⟩ ⟨true, vi, vs, cl.set p b⟩ ∧ (gn + 1 < n ↔ rdone (cl.set p b) = false) ∧ (rdone (cl.set p b) = true → catB (cl.set p b) ((sz + 15) / 16) = ⟨(splB l (p * 16) b.toList).toArray⟩) := by
  obtain ⟨hn, hps, hb⟩ := hf
  have hbl : b.toList.length = min 16 (sz - 16 * p) := by rw [ba_len]; omega
  have hbn : b.toList ≠ [] := fun h => by rw [h] at hbl; simp at hbl; omega
  have hp4 : p < 4 := by omega
  have hcs := cnt_set cl p s b hs he hbn
  have hcl := cnt_le (cl.set p b)
  rw [List.length_set, hlen] at hcl
  have hget : ∀ q t, (cl.set p b)[q]? = some t → (q = p ∧ t = b) ∨ (q ≠ p ∧ cl[q]? = some t) := by
    intro q t h
    rw [List.getElem?_set] at h
    by_cases e : p = q
    · subst e
      rw [if_pos rfl] at h
      split at h
      · exact .inl ⟨rfl, (Option.some.inj h).symm⟩
      · cases h
    · rw [if_neg e] at h
      exact .inr ⟨fun h => e h.symm, h⟩
  have hlt : ∀ q t, (cl.set p b)[q]? = some t → q < 4 := fun q t h => by
    have := (List.getElem?_eq_some_iff.1 h).1
    rw [List.length_set] at this
    omega
  have heq2 : ∀ q t, (cl.set p b)[q]? = some t → t.toList ≠ [] → t.toList = chunk (splB l (p * 16) b.toList) q := fun q t h hne => by
    rcases hget q t h with ⟨rfl, rfl⟩ | ⟨hq, h'⟩
    · exact (chunk_same l _ _ (by rw [hbl, hl]) (by omega)).symm
    · rw [chunk_other l p q _ (by rw [hbl, hl]) (by omega) hq]
      exact heq q t h' hne
  refine ⟨⟨⟨by simp [splB]; omega, h1, h2, (has_or cm hc0 hc1 p 0 hp4 (by omega)).2.1, (has_or cm hc0 hc1 p 0 hp4 (by omega)).2.2, by show 0 ≤ gn + 1; omega, by show gn + 1 ≤ 4; omega⟩, rfl, fun _ => rfl, fun _ => rfl, fun _ => by rw [List.length_set, hlen], ?_, fun _ => heq2, ?_, hv, fun _ => hv.2.2, ?_⟩, ?_, ?_⟩
  · intro _ q t h
    rw [(has_or cm hc0 hc1 p q hp4 (hlt q t h)).1]
    rcases hget q t h with ⟨rfl, rfl⟩ | ⟨hq, h'⟩
    · have : t.toList.isEmpty = false := by simpa using hbn
      simp [this]
    · rw [hhas q t h']
      simp [hq]
  · intro _
    show gn + 1 = _
    rw [hcs, hcnt]
    rfl
  · intro _ t ht
    rcases List.mem_or_eq_of_mem_set ht with h | h
    · exact hle t h
    · subst h; rw [← ba_len]; omega
  · rw [← Bool.not_eq_true, cnt_done, List.length_set, hlen]
    omega
  · intro hd
    apply ba_ext
    have hall := List.all_eq_true.1 hd
    rw [cat_take (cl.set p b) (splB l (p * 16) b.toList) ((sz + 15) / 16) (fun q hq => by
      have hq' : q < (cl.set p b).length := by rw [List.length_set, hlen]; exact hq
      refine ⟨_, List.getElem?_eq_getElem hq', heq2 q _ (List.getElem?_eq_getElem hq') ?_⟩
      have := hall _ (List.getElem_mem hq')
      simpa using this) _ (Nat.le_refl _)]
    rw [List.take_of_length_le (by simp [splB]; omega), ByteArray.toList_eq]
    simp
theorem put_sim {sz : Nat} {s : G} {r : RG} (h : Sim sz s r) (k vi vs : Int) (p : Nat) (n : Int) (b : ByteArray) (hv : 0 ≤ vi ∧ vi ≤ 65535 ∧ 0 ≤ vs ∧ vs ≤ 4294967295) :
    (gput sz s k vi vs p n b).1 = (rput sz r k vi vs p n b).1 ∧ Sim sz (gput sz s k vi vs p n b).2 (rput sz r k vi vs p n b).2 := by
  unfold gput rput catIf
  by_cases hk : (k == 4) = false
  · rw [if_pos hk, if_pos hk]
    exact ⟨rfl, h⟩
  rw [if_neg hk, if_neg hk]
  by_cases hf : gfits sz p n b
  · have hf' : ¬ ¬ gfits sz p n b := fun h => h hf
    rw [if_neg hf', if_neg hf']
    obtain ⟨l, gi, gs, is, cm, gn⟩ := s
    obtain ⟨ris, ri, rs, cl⟩ := r
    have his : is = ris := h.is
    subst his
    have hvi := h.vi
    have hvs := h.vs
    have hr0 := h.r0
    obtain ⟨hl, h1, h2, hc0, hc1, hg0, hg4⟩ := h.ok
    dsimp only at hvi hvs hr0 hl hc0 hc1 hg0 hg4 ⊢
    have hnew : ∀ (hl : l.length = sz), (if (1 : Int) < n then ((((⟨#[]⟩ : ByteArray), false, (0 : Int)) : ByteArray × Bool × Int), (⟨splB l (p * 16) b.toList, vi, vs, true, Go.bits .or .u8 0 (2 ^ p % 256), 1⟩ : G)) else ((⟨(splB l (p * 16) b.toList).toArray⟩, true, 0), ⟨splB l (p * 16) b.toList, vi, vs, true, Go.bits .or .u8 0 (2 ^ p % 256), 1⟩)).1 =
        ((if rdone ((List.replicate ((sz + 15) / 16) ⟨#[]⟩).set p b) = true then catB ((List.replicate ((sz + 15) / 16) ⟨#[]⟩).set p b) ((sz + 15) / 16) else ⟨#[]⟩), rdone ((List.replicate ((sz + 15) / 16) ⟨#[]⟩).set p b), 0) ∧
        Sim sz (if (1 : Int) < n then ((((⟨#[]⟩ : ByteArray), false, (0 : Int)) : ByteArray × Bool × Int), (⟨splB l (p * 16) b.toList, vi, vs, true, Go.bits .or .u8 0 (2 ^ p % 256), 1⟩ : G)) else ((⟨(splB l (p * 16) b.toList).toArray⟩, true, 0), ⟨splB l (p * 16) b.toList, vi, vs, true, Go.bits .or .u8 0 (2 ^ p % 256), 1⟩)).2 ⟨true, vi, vs, (List.replicate ((sz + 15) / 16) ⟨#[]⟩).set p b⟩ := fun hl => by
      have hpN : p < (sz + 15) / 16 := by have := hf.2.1; omega
      have hrep : ∀ q t, (List.replicate ((sz + 15) / 16) (⟨#[]⟩ : ByteArray))[q]? = some t → t.toList = [] ∧ q < 4 := fun q t ht => by
        rw [List.getElem?_replicate] at ht
        split at ht
        · obtain rfl := Option.some.inj ht
          exact ⟨by rw [ByteArray.toList_eq], by omega⟩
        · cases ht
      have hz := List.getElem?_eq_getElem (l := List.replicate ((sz + 15) / 16) (⟨#[]⟩ : ByteArray)) (i := p) (by simpa using hpN)
      have T := sim_take (vi := vi) (vs := vs) (cm := 0) (gn := 0) (cl := List.replicate ((sz + 15) / 16) ⟨#[]⟩) hl h1 h2 hf (by simp) hz (hrep p _ hz).1 (fun q t ht => by rw [has_zero q (hrep q t ht).2, (hrep q t ht).1]; rfl) (fun q t ht hne => absurd (hrep q t ht).1 hne) (by rw [cnt_rep]; rfl) (fun t ht => by rw [(List.mem_replicate.1 ht).2]; decide) (by omega) (by omega) hv
      obtain ⟨T1, T2, T3⟩ := T
      rw [show (0 : Int) + 1 = 1 from rfl] at T1 T2
      cases hd : rdone ((List.replicate ((sz + 15) / 16) ⟨#[]⟩).set p b) with
      | true =>
        rw [if_neg (fun h => by rw [T2.1 h] at hd; cases hd), T3 hd]
        exact ⟨rfl, T1⟩
      | false =>
        rw [if_pos (T2.2 hd)]
        exact ⟨rfl, T1⟩
    cases hi : is with
    | false =>
      subst hi
      have F : ∀ P : Prop, ¬ (false = true ∧ P) := fun P h => by cases h.1
      rw [if_neg (F _), if_neg (F _), if_neg (F _), if_neg (F _)]
      exact hnew hl
    | true =>
      subst hi
      obtain rfl := hvi rfl
      obtain rfl := hvs rfl
      obtain ⟨N1, N2, N3⟩ := num_lt vi vs gi gs hv.2.2.1 hv.2.2.2 hr0.2.2.1 hr0.2.2.2
      by_cases o1 : numV vi vs < numV gi gs
      · rw [if_pos (show true = true ∧ cmpV vi vs gi gs < 0 from ⟨rfl, N1.1 o1⟩), if_pos (show true = true ∧ numV vi vs < numV gi gs from ⟨rfl, o1⟩)]
        exact ⟨rfl, h⟩
      rw [if_neg (show ¬ (true = true ∧ cmpV vi vs gi gs < 0) from fun x => o1 (N1.2 x.2)), if_neg (show ¬ (true = true ∧ numV vi vs < numV gi gs) from fun x => o1 x.2)]
      by_cases o2 : numV vi vs = numV gi gs
      · rw [if_pos (show true = true ∧ cmpV vi vs gi gs = 0 from ⟨rfl, N2.1 o2⟩), if_pos (show true = true ∧ numV vi vs = numV gi gs from ⟨rfl, o2⟩)]
        have hlen : cl.length = (sz + 15) / 16 := h.len rfl
        have hp : p < cl.length := by have := hf.2.1; omega
        have hg := List.getElem?_eq_getElem hp
        have hgd : cl.getD p ⟨#[]⟩ = cl[p] := by simp [List.getD, hg]
        have hh : hasP cm p = !cl[p].toList.isEmpty := h.has rfl p _ hg
        rw [hgd]
        by_cases hne : cl[p].toList ≠ []
        · have e : cl[p].toList.isEmpty = false := by simpa using hne
          rw [if_pos (show (Go.bits .and .u8 (cm / 2 ^ p) 1 == 1) = true by have := hh; rw [e] at this; exact this), if_pos hne]
          exact ⟨rfl, h⟩
        · have e0 : cl[p].toList = [] := by simpa using hne
          rw [if_neg (show ¬ (Go.bits .and .u8 (cm / 2 ^ p) 1 == 1) = true by have := hh; rw [e0] at this; unfold hasP at this; rw [this]; simp), if_neg hne]
          obtain ⟨e1, e2⟩ := N3 o2
          subst e1
          subst e2
          have T := sim_take (vi := vi) (vs := vs) hl h1 h2 hf hlen hg e0 (fun q t => h.has rfl q t) (fun q t => h.eq rfl q t) (h.cnt rfl) (h.le rfl) hc0 hc1 hv
          obtain ⟨T1, T2, T3⟩ := T
          cases hd : rdone (cl.set p b) with
          | true =>
            rw [if_neg (fun h => by rw [T2.1 h] at hd; cases hd), if_pos rfl, T3 hd]
            exact ⟨rfl, T1⟩
          | false =>
            rw [if_pos (T2.2 hd), if_neg (by simp)]
            exact ⟨rfl, T1⟩
      · rw [if_neg (show ¬ (true = true ∧ cmpV vi vs gi gs = 0) from fun x => o2 (N2.2 x.2)), if_neg (show ¬ (true = true ∧ numV vi vs = numV gi gs) from fun x => o2 x.2)]
        exact hnew hl
  · rw [if_pos hf, if_pos hf]
    exact ⟨rfl, h⟩
end Go.Proofs.Ytpfabaoefkokjaa
