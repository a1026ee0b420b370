/-
  What a struct's own reading tells of its cells, however deep it is laid.
-/
import Derived.Test.YtpfabaoefkokjaaOpen
namespace Go.Proofs.Ytpfabaoefkokjaa
open Go.ChangeShapes Go.WideShapes Go.Deep

theorem wf_rng {k : IntKind} {n : Int} (h : (Lit.int k n).wf = true) : k.min ≤ n ∧ n ≤ k.max := by
  have h' : (decide (k.min ≤ n) && decide (n ≤ k.max)) = true := h
  rw [Bool.and_eq_true_iff] at h'
  exact ⟨of_decide_eq_true h'.1, of_decide_eq_true h'.2⟩
theorem u8_rng {n : Int} (h : (Lit.int .u8 n).wf = true) : 0 ≤ n ∧ n ≤ 255 := wf_rng h
theorem u16_rng {n : Int} (h : (Lit.int .u16 n).wf = true) : 0 ≤ n ∧ n ≤ 65535 := wf_rng h
theorem u32_rng {n : Int} (h : (Lit.int .u32 n).wf = true) : 0 ≤ n ∧ n ≤ 4294967295 := wf_rng h
theorem i64_rng {n : Int} (h : (Lit.int .i64 n).wf = true) : -9223372036854775808 ≤ n ∧ n ≤ 9223372036854775807 := wf_rng h
/-- What a cell may be. -/
inductive CK where
  | i (k : IntKind)
  | b
  | s
  | raw (t : TypeId)
def layF (P : Program) (g : TypeId → Option (List CK)) : Nat → List Field → Option (List CK)
  | _, [] => some []
  | off, f :: rest =>
    if f.offset = off then
      match g f.type with
      | some ks => if ks.length = P.cellsOf f.type then (layF P g (off + ks.length) rest).map (ks ++ ·) else none
      | none => none
    else none
/-- A type's cells. -/
def lay (P : Program) : Nat → TypeId → Option (List CK)
  | 0, _ => none
  | n + 1, t =>
    match P.underlying t with
    | some (.int k) => some [.i k]
    | some .bool => some [.b]
    | some .string => some [.s]
    | some (.slice _) => some [.raw t]
    | some (.struct fs) => (layF P (lay P n) 0 fs.toList).bind fun ks => if ks.length = P.cellsOf t then some ks else none
    | _ => none
section
variable {H : Type} (enc : TypeId × Value → H) (P : Program) (w : World) (base : Nat) (spare : Nat → Bool) (held : Bool)
def CK.ok : CK → Value → Prop
  | .i k, v => ∃ n, v = .int k n ∧ (Lit.int k n).wf = true
  | .b, v => ∃ x, v = .bool x
  | .s, v => ∃ x : ByteArray, v = .string x ∧ x.size ≤ maxLen
  | .raw t, v => ∃ n y, DataW.trod enc P w base spare held n t [v] = some y
def okL : List CK → List Value → Prop
  | [], [] => True
  | k :: ks, v :: vs => k.ok enc P w base spare held v ∧ okL ks vs
  | _, _ => False
theorem okL_len : ∀ (ks : List CK) (cs : List Value), okL enc P w base spare held ks cs → ks.length = cs.length
  | [], [], _ => rfl
  | _ :: ks, _ :: vs, h => by simp [okL_len ks vs h.2]
  | [], _ :: _, h => h.elim
  | _ :: _, [], h => h.elim
variable {enc P w base spare held} in
theorem okL_i {k : IntKind} {ks : List CK} {cs : List Value} (h : okL enc P w base spare held (.i k :: ks) cs) : ∃ n vs, cs = .int k n :: vs ∧ (Lit.int k n).wf = true ∧ okL enc P w base spare held ks vs := by
  cases cs with
  | nil => exact h.elim
  | cons v vs =>
    obtain ⟨⟨n, rfl, hn⟩, h2⟩ := h
    exact ⟨n, vs, rfl, hn, h2⟩
variable {enc P w base spare held} in
theorem okL_b {ks : List CK} {cs : List Value} (h : okL enc P w base spare held (.b :: ks) cs) : ∃ x vs, cs = .bool x :: vs ∧ okL enc P w base spare held ks vs := by
  cases cs with
  | nil => exact h.elim
  | cons v vs =>
    obtain ⟨⟨n, rfl⟩, h2⟩ := h
    exact ⟨n, vs, rfl, h2⟩
variable {enc P w base spare held} in
theorem okL_s {ks : List CK} {cs : List Value} (h : okL enc P w base spare held (.s :: ks) cs) : ∃ (x : ByteArray) (vs : List Value), cs = .string x :: vs ∧ x.size ≤ maxLen ∧ okL enc P w base spare held ks vs := by
  cases cs with
  | nil => exact h.elim
  | cons v vs =>
    obtain ⟨⟨n, rfl, hn⟩, h2⟩ := h
    exact ⟨n, vs, rfl, hn, h2⟩
variable {enc P w base spare held} in
theorem okL_raw {t : TypeId} {ks : List CK} {cs : List Value} (h : okL enc P w base spare held (.raw t :: ks) cs) : ∃ v vs n y, cs = v :: vs ∧ DataW.trod enc P w base spare held n t [v] = some y ∧ okL enc P w base spare held ks vs := by
  cases cs with
  | nil => exact h.elim
  | cons v vs =>
    obtain ⟨⟨n, y, hn⟩, h2⟩ := h
    exact ⟨v, vs, n, y, rfl, hn, h2⟩
variable {enc P w base spare held} in
theorem okL_nil {cs : List Value} (h : okL enc P w base spare held [] cs) : cs = [] := by
  cases cs with
  | nil => rfl
  | cons v vs => exact h.elim
theorem okL_app : ∀ (ks ks' : List CK) (cs cs' : List Value), okL enc P w base spare held ks cs → okL enc P w base spare held ks' cs' → okL enc P w base spare held (ks ++ ks') (cs ++ cs')
  | [], _, [], _, _, h' => h'
  | _ :: ks, ks', _ :: vs, cs', h, h' => ⟨h.1, okL_app ks ks' vs cs' h.2 h'⟩
  | [], _, _ :: _, _, h, _ => h.elim
  | _ :: _, _, [], _, h, _ => h.elim
theorem layF_ok (g : TypeId → Option (List CK)) (hg : ∀ t ks, g t = some ks → ∀ n cs y, DataW.trod enc P w base spare held n t cs = some y → okL enc P w base spare held ks cs) (n : Nat) (cs : List Value) :
    ∀ (fs : List Field) (off : Nat) (ks : List CK), layF P g off fs = some ks → (∀ f, f ∈ fs → ∃ y, DataW.trod enc P w base spare held n f.type ((cs.drop f.offset).take (P.cellsOf f.type)) = some y) →
      okL enc P w base spare held ks ((cs.drop off).take ks.length)
  | [], off, ks, h, _ => by
    simp only [layF, Option.some.injEq] at h
    subst h
    simp [okL]
  | f :: rest, off, ks, h, hf => by
    unfold layF at h
    split at h
    case isFalse => cases h
    rename_i ho
    split at h
    case h_2 => cases h
    rename_i k1 hk1
    split at h
    case isFalse => cases h
    rename_i hl
    obtain ⟨k2, hk2, rfl⟩ := Option.map_eq_some_iff.1 h
    obtain ⟨y, hy⟩ := hf f (by simp)
    have h1 := hg _ _ hk1 _ _ _ hy
    rw [ho, ← hl] at h1
    have h2 := layF_ok g hg n cs rest (off + k1.length) k2 hk2 (fun f' hf' => hf f' (by simp [hf']))
    have := okL_app enc P w base spare held _ _ _ _ h1 h2
    rw [List.length_append, List.take_add, List.drop_drop]
    exact this
theorem lay_ok : ∀ (m : Nat) (t : TypeId) (ks : List CK), lay P m t = some ks → ∀ n cs y, DataW.trod enc P w base spare held n t cs = some y → okL enc P w base spare held ks cs
  | 0, t, ks, h => by simp [lay] at h
  | m + 1, t, ks, h => by
    intro n cs y hy
    unfold lay at h
    split at h
    · rename_i k hk
      obtain ⟨q, rfl, _, hq⟩ := DataW.trod_int hk hy
      simp only [Option.some.injEq] at h
      subst h
      exact ⟨⟨q, rfl, hq⟩, trivial⟩
    · rename_i hk
      obtain ⟨q, rfl, _⟩ := DataW.trod_bool hk hy
      simp only [Option.some.injEq] at h
      subst h
      exact ⟨⟨q, rfl⟩, trivial⟩
    · rename_i hk
      obtain ⟨q, rfl, _, hq⟩ := DataW.trod_string hk hy
      simp only [Option.some.injEq] at h
      subst h
      exact ⟨⟨q, rfl, hq⟩, trivial⟩
    · rename_i e hk
      simp only [Option.some.injEq] at h
      subst h
      rcases open_slice hk hy with ⟨rfl, _⟩ | ⟨a, len, cap, m', n', D, Pl, rfl, _⟩
      · exact ⟨⟨_, _, hy⟩, trivial⟩
      · exact ⟨⟨_, _, hy⟩, trivial⟩
    · rename_i fs hk
      obtain ⟨xs, n', _, _, hcl, hxl, hf⟩ := DataW.trod_struct hk hy
      obtain ⟨ks', hks, h'⟩ := Option.bind_eq_some_iff.1 h
      split at h'
      case isFalse => cases h'
      rename_i hlen
      simp only [Option.some.injEq] at h'
      subst h'
      have := layF_ok enc P w base spare held (lay P m) (fun t ks hk => lay_ok m t ks hk) n' cs fs.toList 0 ks' hks (fun f hf' => by
        obtain ⟨i, hi, rfl⟩ := List.getElem_of_mem hf'
        have hi' : i < fs.size := by simpa using hi
        have h1 := hf i fs[i] (by simp [hi'])
        have h2 : xs[i]? = some (xs[i]'(by omega)) := List.getElem?_eq_getElem _
        rw [h2] at h1
        exact ⟨_, by simpa using h1⟩)
      rw [List.drop_zero, List.take_of_length_le (by omega)] at this
      exact this
    · cases h
end
end Go.Proofs.Ytpfabaoefkokjaa
