/-
  What a glue's Put does (the whole of it).
-/
import Derived.Test.YtpfabaoefkokjaaGPutC
namespace Go.Proofs.Ytpfabaoefkokjaa
open Go.RowKit
set_option linter.unusedVariables false
set_option linter.unusedSimpArgs false

/-- What a glue holds. -/
structure G where
  l : List UInt8
  vi : Int
  vs : Int
  is : Bool
  cm : Int
  gn : Int

def GlueAt (g vb sz : Nat) (s : G) (w : World) : Prop :=
  w.heap[g]? = some (.cells #[.slice (some ⟨vb, 0, none⟩) sz sz, .int .u16 s.vi, .int .u32 s.vs, .bool s.is, .int .u8 s.cm, .int .i64 s.gn] 92 (0, 0)) ∧ w.heap[vb]? = some (.cells (bC s.l) 5 (0, 0))
def GOk (sz : Nat) (s : G) : Prop := s.l.length = sz ∧ 1 ≤ sz ∧ sz ≤ 64 ∧ 0 ≤ s.cm ∧ s.cm ≤ 15 ∧ 0 ≤ s.gn ∧ s.gn ≤ 4
def gfits (sz p : Nat) (n : Int) (b : ByteArray) : Prop := n = (((sz + 15) / 16 : Nat) : Int) ∧ 16 * p < sz ∧ (b.size : Int) = min 16 ((sz : Int) - p * 16)
instance (sz p : Nat) (n : Int) (b : ByteArray) : Decidable (gfits sz p n b) := by unfold gfits; exact inferInstance
/-- What Put answers and leaves. -/
def gput (sz : Nat) (s : G) (k vi vs : Int) (p : Nat) (n : Int) (b : ByteArray) : (ByteArray × Bool × Int) × G :=
  if (k == 4) = false then ((⟨#[]⟩, false, 11), s)
  else if ¬ gfits sz p n b then ((⟨#[]⟩, false, 3), s)
  else if s.is = true ∧ cmpV vi vs s.vi s.vs < 0 then ((⟨#[]⟩, false, 1), s)
  else if s.is = true ∧ cmpV vi vs s.vi s.vs = 0 then
    if (Go.bits .and .u8 (s.cm / 2 ^ p) 1 == 1) = true then ((⟨#[]⟩, false, 14), s)
    else if s.gn + 1 < n then ((⟨#[]⟩, false, 0), { s with l := splB s.l (p * 16) b.toList, cm := Go.bits .or .u8 s.cm (2 ^ p % 256), gn := s.gn + 1 })
    else ((⟨(splB s.l (p * 16) b.toList).toArray⟩, true, 0), { s with l := splB s.l (p * 16) b.toList, cm := Go.bits .or .u8 s.cm (2 ^ p % 256), gn := s.gn + 1 })
  else if 1 < n then ((⟨#[]⟩, false, 0), ⟨splB s.l (p * 16) b.toList, vi, vs, true, Go.bits .or .u8 0 (2 ^ p % 256), 1⟩)
  else ((⟨(splB s.l (p * 16) b.toList).toArray⟩, true, 0), ⟨splB s.l (p * 16) b.toList, vi, vs, true, Go.bits .or .u8 0 (2 ^ p % 256), 1⟩)
def outV (r : ByteArray × Bool × Int) : Value := .tuple #[.string r.1, .bool r.2.1, .int .i64 r.2.2]

section
variable (f1 f2 f3 f4 f5 f6 f7 f8 f9 f10 f11 : Int) (f12 : Bool) (f13 : Int)

theorem gl_keep {g vb sz : Nat} {s : G} {w w1 : World} {S : List Nat} (h : GlueAt g vb sz s w) (k : Fr w w1 S) (h1 : g ∉ S) (h2 : vb ∉ S) : GlueAt g vb sz s w1 := ⟨bk_keep h.1 k h1, bk_keep h.2 k h2⟩

theorem cmpV_cases (a b c d : Int) : cmpV a b c d < 0 ∨ cmpV a b c d = 0 ∨ cmpV a b c d > 0 := by omega

theorem put_any (g vb sz : Nat) (s : G) (k vi vs : Int) (p : Nat) (n : Int) (b : ByteArray) (w : World) (h : GlueAt g vb sz s w) (ok : GOk sz s) (hp : p ≤ 255) (hn0 : 0 ≤ n) (hn1 : n ≤ 255) :
    Calls Try.prog 31 #[.pointer (some ⟨g, 0, none⟩), .agg #[.int .i64 k, .int .u8 f1, .int .u8 f2, .int .u16 f3, .int .u16 f4, .int .u16 f5, .int .u8 f6, .int .u16 f7, .int .u16 f8, .int .u16 f9, .int .u8 f10, .int .u16 f11, .bool f12, .int .u8 f13, .int .u16 vi, .int .u32 vs, .int .u8 p, .int .u8 n, .string b]] w fun e w' =>
      e = .returned (outV (gput sz s k vi vs p n b).1) ∧ GlueAt g vb sz (gput sz s k vi vs p n b).2 w' ∧ Fr w w' [g, vb] := by
  obtain ⟨l, gi, gs, is, cm, gn⟩ := s
  obtain ⟨hl, h1, h2, hc0, hc1, hg0, hg4⟩ := ok
  obtain ⟨hB, hV⟩ := h
  dsimp only at hl hc0 hc1 hg0 hg4 hB hV
  have hp1 : (p : Int) ≤ 255 := by omega
  have hp0 : (0 : Int) ≤ p := by omega
  unfold gput
  dsimp only
  by_cases hk : (k == 4) = false
  · rw [if_pos hk]
    exact (put_kind f1 f2 f3 f4 f5 f6 f7 f8 f9 f10 f11 f12 f13 g k vi vs p n b w hk).mono fun e w' h => ⟨h.1, gl_keep ⟨hB, hV⟩ h.2 (by simp) (by simp), h.2.mono (by simp)⟩
  rw [if_neg hk]
  have hk4 : k = 4 := by simpa using hk
  subst hk4
  have same : ∀ (x : Int) (e : Ending) (w' : World), e = .returned (.tuple #[.string ⟨#[]⟩, .bool false, .int .i64 x]) ∧ Fr w w' [] → e = .returned (outV (⟨#[]⟩, false, x)) ∧ GlueAt g vb sz ⟨l, gi, gs, is, cm, gn⟩ w' ∧ Fr w w' [g, vb] :=
    fun x e w' h => ⟨h.1, gl_keep ⟨hB, hV⟩ h.2 (by simp) (by simp), h.2.mono (by simp)⟩
  by_cases hf : gfits sz p n b
  · rw [if_neg (by simpa using hf)]
    obtain ⟨hn, hps, hb⟩ := hf
    have hp3 : p ≤ 3 := by omega
    have hn4 : n ≤ 4 := by omega
    have hps' : 16 * (p : Int) < sz := by omega
    have hfit : ∀ w1 : World, w1.heap[g]? = some (.cells #[.slice (some ⟨vb, 0, none⟩) sz sz, .int .u16 gi, .int .u32 gs, .bool is, .int .u8 cm, .int .i64 gn] 92 (0, 0)) → Calls Try.prog 41 #[.pointer (some ⟨g, 0, none⟩), .agg #[.int .i64 4, .int .u8 f1, .int .u8 f2, .int .u16 f3, .int .u16 f4, .int .u16 f5, .int .u8 f6, .int .u16 f7, .int .u16 f8, .int .u16 f9, .int .u8 f10, .int .u16 f11, .bool f12, .int .u8 f13, .int .u16 vi, .int .u32 vs, .int .u8 p, .int .u8 n, .string b]] w1 fun e w' => e = .returned (.bool true) ∧ Fr w1 w' [] :=
      fun w1 hw1 => fits_yes f1 f2 f3 f4 f5 f6 f7 f8 f9 f10 f11 f12 f13 g vb sz gi gs is cm gn 4 vi vs p n b w1 hw1 h1 h2 hp0 hp1 hn0 hn1 hps' hn hb
    cases hi : is with
    | false =>
      subst hi
      rw [if_neg (by simp), if_neg (by simp)]
      by_cases hlast : 1 < n
      · rw [if_pos hlast]
        exact (putF_part f1 f2 f3 f4 f5 f6 f7 f8 f9 f10 f11 f12 f13 g vb sz gi gs false cm gn vi vs p n b l w hB hfit hp3 hc0 hc1 hV hl h1 h2 hps hb hn0 hn4 hg0 hg4 rfl (by simpa using hlast)).mono fun e w' h => ⟨h.1, ⟨h.2.1, h.2.2.1⟩, h.2.2.2⟩
      · rw [if_neg hlast]
        exact (putF_whole f1 f2 f3 f4 f5 f6 f7 f8 f9 f10 f11 f12 f13 g vb sz gi gs false cm gn vi vs p n b l w hB hfit hp3 hc0 hc1 hV hl h1 h2 hps hb hn0 hn4 hg0 hg4 rfl (by simpa using hlast)).mono fun e w' h => ⟨h.1, ⟨h.2.1, h.2.2.1⟩, h.2.2.2⟩
    | true =>
      subst hi
      rcases cmpV_cases vi vs gi gs with ho | ho | ho
      · rw [if_pos ⟨rfl, ho⟩]
        exact (put_old f1 f2 f3 f4 f5 f6 f7 f8 f9 f10 f11 f12 f13 g vb sz gi gs true cm gn vi vs p n b w hB hfit rfl ho).mono (same _)
      · rw [if_neg (by omega), if_pos ⟨rfl, ho⟩]
        cases hbit : (Go.bits .and .u8 (cm / 2 ^ p) 1 == 1) with
        | true =>
          rw [if_pos rfl]
          exact (put_dup f1 f2 f3 f4 f5 f6 f7 f8 f9 f10 f11 f12 f13 g vb sz gi gs true cm gn vi vs p n b w hB hfit rfl ho hp3 hc0 hc1 hbit).mono (same _)
        | false =>
          rw [if_neg (by simp)]
          by_cases hlast : gn + 1 < n
          · rw [if_pos hlast]
            exact (put_part f1 f2 f3 f4 f5 f6 f7 f8 f9 f10 f11 f12 f13 g vb sz gi gs true cm gn vi vs p n b l w hB hfit hp3 hc0 hc1 hV hl h1 h2 hps hb hn0 hn4 hg0 hg4 rfl ho hbit (by simpa using hlast)).mono fun e w' h => ⟨h.1, ⟨h.2.1, h.2.2.1⟩, h.2.2.2⟩
          · rw [if_neg hlast]
            exact (put_whole f1 f2 f3 f4 f5 f6 f7 f8 f9 f10 f11 f12 f13 g vb sz gi gs true cm gn vi vs p n b l w hB hfit hp3 hc0 hc1 hV hl h1 h2 hps hb hn0 hn4 hg0 hg4 rfl ho hbit (by simpa using hlast)).mono fun e w' h => ⟨h.1, ⟨h.2.1, h.2.2.1⟩, h.2.2.2⟩
      · rw [if_neg (by omega), if_neg (by omega)]
        by_cases hlast : 1 < n
        · rw [if_pos hlast]
          exact (putN_part f1 f2 f3 f4 f5 f6 f7 f8 f9 f10 f11 f12 f13 g vb sz gi gs true cm gn vi vs p n b l w hB hfit hp3 hc0 hc1 hV hl h1 h2 hps hb hn0 hn4 hg0 hg4 rfl ho (by simpa using hlast)).mono fun e w' h => ⟨h.1, ⟨h.2.1, h.2.2.1⟩, h.2.2.2⟩
        · rw [if_neg hlast]
          exact (putN_whole f1 f2 f3 f4 f5 f6 f7 f8 f9 f10 f11 f12 f13 g vb sz gi gs true cm gn vi vs p n b l w hB hfit hp3 hc0 hc1 hV hl h1 h2 hps hb hn0 hn4 hg0 hg4 rfl ho (by simpa using hlast)).mono fun e w' h => ⟨h.1, ⟨h.2.1, h.2.2.1⟩, h.2.2.2⟩
  · rw [if_pos hf]
    refine (put_form f1 f2 f3 f4 f5 f6 f7 f8 f9 f10 f11 f12 f13 g vb sz gi gs is cm gn vi vs p n b w hB ?_).mono (same _)
    intro w1 hw1
    by_cases hn : n = (((sz + 15) / 16 : Nat) : Int)
    · by_cases hps : 16 * p < sz
      · exact fits_no3 f1 f2 f3 f4 f5 f6 f7 f8 f9 f10 f11 f12 f13 g vb sz gi gs is cm gn 4 vi vs p n b w1 hw1 h1 h2 hp0 hp1 hn0 hn1 hn (by omega) (fun hb => hf ⟨hn, hps, hb⟩)
      · exact fits_no2 f1 f2 f3 f4 f5 f6 f7 f8 f9 f10 f11 f12 f13 g vb sz gi gs is cm gn 4 vi vs p n b w1 hw1 h1 h2 hp0 hp1 hn0 hn1 hn (by omega)
    · exact fits_no1 f1 f2 f3 f4 f5 f6 f7 f8 f9 f10 f11 f12 f13 g vb sz gi gs is cm gn 4 vi vs p n b w1 hw1 h1 h2 hp0 hp1 hn0 hn1 hn
end
end Go.Proofs.Ytpfabaoefkokjaa
