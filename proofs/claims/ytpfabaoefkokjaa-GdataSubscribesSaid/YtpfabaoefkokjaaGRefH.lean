/-
  The document's subscriber: Put.
-/
import Derived.Test.YtpfabaoefkokjaaGRefC
import Derived.Test.YtpfabaoefkokjaaGRefE
import Derived.Test.YtpfabaoefkokjaaGRefF
import Derived.Test.YtpfabaoefkokjaaGRefG
import Derived.Test.YtpfabaoefkokjaaGSim
import Derived.Test.YtpfabaoefkokjaaGSub
namespace Go.Proofs.Ytpfabaoefkokjaa
open Go.RowKit Go.Proofs.YtpfabaoefkokjaaW.PrintLast
set_option linter.unusedVariables false
set_option linter.unusedSimpArgs false

/-- The document's subscriber in memory: its block, and that of the parts that came. -/
def RefAt (h cb sz : Nat) (r : RG) (x : Sb) (w : World) : Prop :=
  ∃ came, w.heap[h]? = some (.cells #[.int .i64 sz, .bool r.is, .int .u16 r.vi, .int .u32 r.vs, came, .string x.f, .string x.b, .int .u16 x.fi, .int .u32 x.fs, .int .u16 x.bi, .int .u32 x.bs, .bool x.wt, .bool x.ft] 60 (0, 0)) ∧ (r.is = true → ∃ cc, came = .slice (some ⟨cb, 0, none⟩) ((sz + 15) / 16) cc ∧ w.heap[cb]? = some (.cells (sC r.cl) 9 (0, 0)) ∧ cb ≠ h)
theorem ra_keep {h cb sz : Nat} {r : RG} {x : Sb} {w w1 : World} {S : List Nat} (q : RefAt h cb sz r x w) (k : Fr w w1 S) (h1 : h ∉ S) (h2 : r.is = true → cb ∉ S) : RefAt h cb sz r x w1 := by
  obtain ⟨came, q1, q2⟩ := q
  exact ⟨came, bk_keep q1 k h1, fun hi => by
    obtain ⟨cc, e1, e2, e3⟩ := q2 hi
    exact ⟨cc, e1, bk_keep e2 k (h2 hi), e3⟩⟩
theorem ra_alloc {h cb sz : Nat} {r : RG} {x : Sb} {w : World} (q : RefAt h cb sz r x w) (o : Obj) : RefAt h cb sz r x (w.alloc o) := ra_keep q ((Fr.refl w []).alloc o) (by simp) (by simp)
theorem ra_of {h cb sz : Nat} {r : RG} {x : Sb} {w w1 : World} (q : RefAt h cb sz r x w) (e : w1.heap = w.heap) : RefAt h cb sz r x w1 := by
  unfold RefAt at q ⊢
  rw [e]
  exact q
theorem ra_lt {h cb sz : Nat} {r : RG} {x : Sb} {w : World} (q : RefAt h cb sz r x w) : h < w.heap.size := by obtain ⟨_, q1, _⟩ := q; exact bk_lt q1
section
variable (f1 f2 f3 f4 f5 f6 f7 f8 f9 f10 f11 : Int) (f12 : Bool) (f13 : Int)

theorem rput_any (h cb sz : Nat) (r : RG) (x : Sb) (s : G) (hS : Sim sz s r) (k vi vs : Int) (p : Nat) (n : Int) (b : ByteArray) (w : World) (hR : RefAt h cb sz r x w) (hp : p ≤ 255) (hn0 : 0 ≤ n) (hn1 : n ≤ 255) (hv : 0 ≤ vi ∧ vi ≤ 65535 ∧ 0 ≤ vs ∧ vs ≤ 4294967295) :
    Calls Try.prog 32 #[.pointer (some ⟨h, 0, none⟩), .agg #[.int .i64 k, .int .u8 f1, .int .u8 f2, .int .u16 f3, .int .u16 f4, .int .u16 f5, .int .u8 f6, .int .u16 f7, .int .u16 f8, .int .u16 f9, .int .u8 f10, .int .u16 f11, .bool f12, .int .u8 f13, .int .u16 vi, .int .u32 vs, .int .u8 p, .int .u8 n, .string b]] w fun e w' =>
      e = .returned (outV (rput sz r k vi vs p n b).1) ∧ (∃ cb', RefAt h cb' sz (rput sz r k vi vs p n b).2 x w' ∧ (cb' = cb ∨ w.heap.size ≤ cb')) ∧ Fr w w' (if r.is = true then [h, cb] else [h]) := by
  obtain ⟨_, h1, h2, _⟩ := hS.ok
  have hlen := hS.len
  have hle := hS.le
  have hr0 := hS.r0
  clear hS
  obtain ⟨v0, v1, v2, v3⟩ := hv
  obtain ⟨g0, g1, g2, g3⟩ := hr0
  obtain ⟨ris, ri, rs, cl⟩ := r
  dsimp only at hlen hle g0 g1 g2 g3 ⊢
  have same : ∀ (y : Int) (e : Ending) (w' : World) (S : List Nat), (e = .returned (.tuple #[.string ⟨#[]⟩, .bool false, .int .i64 y]) ∧ Fr w w' []) → e = .returned (outV (⟨#[]⟩, false, y)) ∧ (∃ cb', RefAt h cb' sz ⟨ris, ri, rs, cl⟩ x w' ∧ (cb' = cb ∨ w.heap.size ≤ cb')) ∧ Fr w w' S :=
    fun y e w' S q => ⟨q.1, ⟨cb, ra_keep hR q.2 (by simp) (by simp), .inl rfl⟩, q.2.mono (by simp)⟩
  unfold rput
  dsimp only
  by_cases hk : (k == 4) = false
  · rw [if_pos hk]
    exact (rput_kind f1 f2 f3 f4 f5 f6 f7 f8 f9 f10 f11 f12 f13 h vi vs p n b w k hk).mono fun e w' q => same 11 e w' _ q
  rw [if_neg hk]
  have hk4 : k = 4 := by simpa using hk
  subst hk4
  obtain ⟨came, hB, hC⟩ := hR
  by_cases hf : gfits sz p n b
  · rw [if_neg (show ¬ ¬ gfits sz p n b from fun q => q hf)]
    obtain ⟨hn, hps, hb⟩ := hf
    have hbs : b.size = min 16 (sz - 16 * p) := by omega
    cases hi : ris with
    | false =>
      subst hi
      have F : ∀ P : Prop, ¬ (false = true ∧ P) := fun P h => by cases h.1
      rw [if_neg (F _), if_neg (F _)]
      refine (rput_newF f1 f2 f3 f4 f5 f6 f7 f8 f9 f10 f11 f12 f13 h sz ri rs came x.f x.b x.fi x.fs x.bi x.bs x.wt x.ft vi vs p n b w hB h1 h2 hp hn0 hn1 hn hps hbs).mono fun e w' q => ?_
      obtain ⟨q1, cb', cc', q2, q3, q4, q5⟩ := q
      refine ⟨q1, ⟨cb', ⟨_, q2, fun _ => ⟨cc', rfl, q3, fun e => ?_⟩⟩, .inr q5⟩, ?_⟩
      · subst e; have := bk_lt hB; omega
      · rw [if_neg (by simp)]
        exact Fr.trans (S := [h]) (Fr.refl w _) q4 (fun i hi => by
          simp only [List.mem_cons, List.not_mem_nil, or_false] at hi ⊢
          rcases hi with rfl | rfl
          · exact .inl rfl
          · exact .inr q5)
    | true =>
      subst hi
      obtain ⟨cc, rfl, hC2, hne⟩ := hC rfl
      by_cases o1 : numV vi vs < numV ri rs
      · rw [if_pos (show true = true ∧ numV vi vs < numV ri rs from ⟨rfl, o1⟩)]
        exact (rput_old f1 f2 f3 f4 f5 f6 f7 f8 f9 f10 f11 f12 f13 h sz ri rs _ x.f x.b x.fi x.fs x.bi x.bs x.wt x.ft vi vs p n b w v0 v1 v2 v3 g0 g1 g2 g3 hB h1 h2 hp hn0 hn1 hn hps hbs o1).mono fun e w' q => same 1 e w' _ q
      rw [if_neg (show ¬ (true = true ∧ numV vi vs < numV ri rs) from fun q => o1 q.2)]
      by_cases o2 : numV vi vs = numV ri rs
      · rw [if_pos (show true = true ∧ numV vi vs = numV ri rs from ⟨rfl, o2⟩)]
        have hpl : p < cl.length := by rw [hlen rfl]; omega
        have hg := List.getElem?_eq_getElem hpl
        have hgd : cl.getD p ⟨#[]⟩ = cl[p] := by simp [List.getD, hg]
        rw [hgd]
        by_cases hne2 : cl[p].toList ≠ []
        · rw [if_pos hne2]
          refine (rput_dup f1 f2 f3 f4 f5 f6 f7 f8 f9 f10 f11 f12 f13 h sz ri rs x.f x.b x.fi x.fs x.bi x.bs x.wt x.ft vi vs p n b cb cc w v0 v1 v2 v3 g0 g1 g2 g3 hB h1 h2 hp hn0 hn1 hn hps hbs cl hC2 hne o2 _ hg hne2).mono fun e w' q => ?_
          obtain ⟨q1, q2, q3, q4⟩ := q
          exact ⟨q1, ⟨cb, ⟨_, q2, fun _ => ⟨cc, rfl, q3, hne⟩⟩, .inl rfl⟩, q4.mono (by simp)⟩
        · rw [if_neg hne2]
          have e0 : cl[p].toList = [] := by simpa using hne2
          refine (rput_same f1 f2 f3 f4 f5 f6 f7 f8 f9 f10 f11 f12 f13 h sz ri rs x.f x.b x.fi x.fs x.bi x.bs x.wt x.ft vi vs p n b cb cc w v0 v1 v2 v3 g0 g1 g2 g3 hB h1 h2 hp hn0 hn1 hn hps hbs cl hC2 hne (hlen rfl) (hle rfl) o2 _ hg e0).mono fun e w' q => ?_
          obtain ⟨q1, q2, q3, q4⟩ := q
          exact ⟨q1, ⟨cb, ⟨_, q2, fun _ => ⟨cc, rfl, q3, hne⟩⟩, .inl rfl⟩, by rw [if_pos rfl]; exact q4⟩
      · rw [if_neg (show ¬ (true = true ∧ numV vi vs = numV ri rs) from fun q => o2 q.2)]
        refine (rput_newT f1 f2 f3 f4 f5 f6 f7 f8 f9 f10 f11 f12 f13 h sz ri rs _ x.f x.b x.fi x.fs x.bi x.bs x.wt x.ft vi vs p n b w v0 v1 v2 v3 g0 g1 g2 g3 hB h1 h2 hp hn0 hn1 hn hps hbs (by omega)).mono fun e w' q => ?_
        obtain ⟨q1, cb', cc', q2, q3, q4, q5⟩ := q
        refine ⟨q1, ⟨cb', ⟨_, q2, fun _ => ⟨cc', rfl, q3, fun e => ?_⟩⟩, .inr q5⟩, ?_⟩
        · subst e; have := bk_lt hB; omega
        · rw [if_pos rfl]
          exact Fr.trans (S := [h, cb]) (Fr.refl w _) q4 (fun i hi => by
            simp only [List.mem_cons, List.not_mem_nil, or_false] at hi ⊢
            rcases hi with rfl | rfl
            · exact .inl (.inl rfl)
            · exact .inr q5)
  · rw [if_pos hf]
    by_cases hn : n = (((sz + 15) / 16 : Nat) : Int)
    · by_cases hps : 16 * p < sz
      · exact (rput_form3 f1 f2 f3 f4 f5 f6 f7 f8 f9 f10 f11 f12 f13 h sz ris ri rs came x.f x.b x.fi x.fs x.bi x.bs x.wt x.ft vi vs p n b w hB h1 h2 hp hn0 hn1 hn hps (fun q => hf ⟨hn, hps, by omega⟩)).mono fun e w' q => same 3 e w' _ q
      · exact (rput_form2 f1 f2 f3 f4 f5 f6 f7 f8 f9 f10 f11 f12 f13 h sz ris ri rs came x.f x.b x.fi x.fs x.bi x.bs x.wt x.ft vi vs p n b w hB h1 h2 hp hn0 hn1 hn hps).mono fun e w' q => same 3 e w' _ q
    · exact (rput_form1 f1 f2 f3 f4 f5 f6 f7 f8 f9 f10 f11 f12 f13 h sz ris ri rs came x.f x.b x.fi x.fs x.bi x.bs x.wt x.ft vi vs p n b w hB h1 h2 hp hn0 hn1 hn).mono fun e w' q => same 3 e w' _ q
end
end Go.Proofs.Ytpfabaoefkokjaa
