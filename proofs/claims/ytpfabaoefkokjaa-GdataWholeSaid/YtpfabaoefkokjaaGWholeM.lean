/-
  Several texts in one: GMap, GWholeP, GWholeC, GWholeL.
-/
import Derived.Test.YtpfabaoefkokjaaBase5
import Derived.Test.YtpfabaoefkokjaaWEqStruct
import Derived.Test.YtpfabaoefkokjaaProg
import Derived.ChangeMaps5
import Derived.WideKeyRuns
import Derived.Test.YtpfabaoefkokjaaGComesP
import Derived.Test.YtpfabaoefkokjaaGPubLawA
import Derived.Test.YtpfabaoefkokjaaGAwake
import Derived.Test.YtpfabaoefkokjaaWLast

/-
  A map from versions to texts: what is stored in it, and found.
-/
namespace Go.Proofs.Ytpfabaoefkokjaa
open Go.RowKit Go.Proofs.YtpfabaoefkokjaaW.PrintWords Go.ChangeMaps Go.MapKept
set_option linter.unusedVariables false
set_option linter.unusedSimpArgs false

def vKey (a b : Int) : Value := .agg #[.int .u16 a, .int .u32 b]
theorem eqA34 (d : Nat) (w : World) (x0 y0 : Int) (x1 y1 : Int) :
    (Op.equalIn (d + 2) 34 (.agg #[.int .u16 x0, .int .u32 x1]) (.agg #[.int .u16 y0, .int .u32 y1])).run Try.prog w = .ok (x0 == y0 && (x1 == y1)) w := by
  refine eqA_of Try.underlying34 (by kernel_rfl) ?_
  refine eqf_cons (by rfl) (by go_simp; rfl) (by go_simp; rfl) (by go_simp) ?_
  exact eqf_last (by rfl) (by go_simp; rfl) (by go_simp; rfl) (by go_simp)
theorem run_eqV (w : World) (a b c d : Int) : (Op.equal 34 (vKey a b) (vKey c d)).run Try.prog w = .ok (a == c && (b == d)) w := eqA34 9998 w a c b d
theorem run_checkV (em : Bool) (w : World) (a b : Int) : (Instr.checkKey em 10000 34 (vKey a b)).run Try.prog w = .ok () w := by
  cases em <;> kernel_rfl

/-- Entries of such a map. -/
structure VE where
  a : Int
  b : Int
  s : ByteArray
def VE.e (x : VE) (n : Nat) : MapEntry := { key := vKey x.a x.b, val := .string x.s, born := n }
/-- All entries, in the order in which they were made. -/
def vEs : Nat → List VE → List MapEntry
  | _, [] => []
  | n, x :: l => x.e n :: vEs (n + 1) l
theorem vEs_snoc (l : List VE) (x : VE) : ∀ n, vEs n (l ++ [x]) = vEs n l ++ [x.e (n + l.length)] := by
  induction l with
  | nil => intro n; rfl
  | cons y l ih =>
    intro n
    show y.e n :: vEs (n + 1) (l ++ [x]) = y.e n :: (vEs (n + 1) l ++ _)
    rw [ih (n + 1), List.length_cons, show n + 1 + l.length = n + (l.length + 1) by omega]
def MapAt (g : Nat) (l : List VE) (w : World) : Prop := w.heap[g]? = some (.map (vEs 0 l).toArray l.length)
theorem mp_keep {g : Nat} {l : List VE} {w w1 : World} {S : List Nat} (h : MapAt g l w) (k : Fr w w1 S) (hn : g ∉ S) : MapAt g l w1 := bk_keep h k hn
theorem mp_lt {g : Nat} {l : List VE} {w : World} (h : MapAt g l w) : g < w.heap.size := bk_lt h
/-- The first entry of a key. -/
def vFind (a b : Int) : List VE → Option VE
  | [] => none
  | x :: l => if a == x.a && (b == x.b) then some x else vFind a b l
theorem find_asks (w : World) (a b : Int) : ∀ (l : List VE) (n i : Nat), ∃ j, (Instr.findAsking 34 (vKey a b) (vEs n l) i).run Try.prog w = .ok ((vFind a b l).map fun x => (j, .string x.s)) w
  | [], n, i => ⟨0, by simp [vEs, Instr.findAsking, vFind]⟩
  | x :: l, n, i => by
    unfold vEs Instr.findAsking vFind
    have he := run_eqV w a b x.a x.b
    cases hc : (a == x.a && (b == x.b)) with
    | true =>
      refine ⟨i, ?_⟩
      rw [hc] at he
      simp only [VE.e, Sem.run_bind, he, Result.andThen_ok, if_true]
      rfl
    | false =>
      obtain ⟨j, hj⟩ := find_asks w a b l (n + 1) (i + 1)
      refine ⟨j, ?_⟩
      rw [hc] at he
      simp only [VE.e, Sem.run_bind, he, Result.andThen_ok]
      exact hj
theorem run_find (w : World) (a b : Int) (l : List VE) : ∃ j, (Instr.findKey 34 (vKey a b) (vEs 0 l)).run Try.prog w = .ok ((vFind a b l).map fun x => (j, .string x.s)) w := by
  obtain ⟨j, hj⟩ := find_asks w a b l 0 0
  exact ⟨j, by rw [run_findKey_eq w (by rw [Try.underlying34])]; exact hj⟩
theorem run_vlook (w : World) (g : Nat) (l : List VE) (a b : Int) (x : VE) (h : MapAt g l w) (hx : vFind a b l = some x) :
    (Instr.lookup 63 (.map (some g)) (vKey a b) true).run Try.prog w = .ok (.tuple #[.string x.s, .bool true]) w := by
  obtain ⟨j, hj⟩ := run_find w a b l
  rw [hx] at hj
  unfold Instr.lookup
  simp [Sem.run_bind, run_underlying Try.underlying63, Go.MapKept.run_getObj_map h, run_checkV, hj, Result.andThen]
theorem run_vput (w : World) (g : Nat) (l : List VE) (x : VE) (h : MapAt g l w) (hx : vFind x.a x.b l = none) :
    ∃ w1, (Instr.mapUpdate 63 (.map (some g)) (vKey x.a x.b) (.string x.s)).run Try.prog w = .ok () w1 ∧ MapAt g (l ++ [x]) w1 ∧ Fr w w1 [g] := by
  obtain ⟨j, hj⟩ := run_find w x.a x.b l
  rw [hx] at hj
  refine ⟨setBlock w g (.map (vEs 0 (l ++ [x])).toArray (l ++ [x]).length), ?_, heap_setBlock_same h _, ⟨rfl, rfl, rfl, by simp [setBlock], fun k hk hn => heap_setBlock_other h _ (by simpa using hn)⟩⟩
  unfold Instr.mapUpdate
  have hso := fun o => Go.MapKept.run_setObj_map (P := Try.prog) o h
  simp [Sem.run_bind, run_underlying Try.underlying63, Go.MapKept.run_getObj_map h, run_checkV, hj, Result.andThen, hso]
  rw [vEs_snoc]
  simp [setBlock, VE.e]
section
variable {ops : Array Oper} {rest : List Oper} {o : Oper} {a : Act} {Q : Exit → Act → World → Prop} {W : World}
theorem ev_vlook (m k : Operand) (ho : o.op = .lookup 63 m k true) (hgd : o.guard = none) {N : Tmp} (hd : o.dst = some N) {g : Nat} {l : List VE} {p q : Int} {x : VE} (hm : a.eval m = .map (some g)) (hk : a.eval k = .agg #[.int .u16 p, .int .u32 q])
    (h : MapAt g l W) (hx : vFind p q l = some x) (hK : wpList Try.prog ops Q rest (a.put (some N) (.tuple #[.string x.s, .bool true])) W) : wpList Try.prog ops Q (o :: rest) a W := by
  have hr := run_vlook W g l p q x h hx
  unfold vKey at hr
  refine wpList_plain hgd fun K hh => ?_
  have hq := hh _ _ hK
  rw [← hd] at hq
  unfold Oper.wp
  simp [execOp, ho, hm, hk, hr, Result.andThen]
  exact hq
theorem ev_vput (m k v : Operand) (ho : o.op = .mapUpdate 63 m k v ∨ o.op = .insert 63 m k v) (hgd : o.guard = none) (hd : o.dst = none) {g : Nat} {l : List VE} (x : VE) (hm : a.eval m = .map (some g)) (hk : a.eval k = .agg #[.int .u16 x.a, .int .u32 x.b]) (hv : a.eval v = .string x.s)
    (h : MapAt g l W) (hx : vFind x.a x.b l = none) (hK : ∀ w1, MapAt g (l ++ [x]) w1 → Fr W w1 [g] → wpList Try.prog ops Q rest a w1) : wpList Try.prog ops Q (o :: rest) a W := by
  obtain ⟨w1, hr, h1, h2⟩ := run_vput W g l x h hx
  unfold vKey at hr
  refine wpList_plain hgd fun K hh => ?_
  have hq := hh (a.put o.dst undef) _ (by rw [hd]; exact hK w1 h1 h2)
  unfold Oper.wp
  rcases ho with ho | ho
  · simp [execOp, ho, hm, hk, hv, hr, Result.andThen]
    exact hq
  · simp [execOp, ho, hm, hk, hv, hr, Result.andThen]
    exact hq
end
end Go.Proofs.Ytpfabaoefkokjaa

/-
  GdataWhole, in plain words: what was committed, what went, and what stands in front.
-/
namespace Go.Proofs.Ytpfabaoefkokjaa
open Go.RowKit
set_option linter.unusedVariables false
set_option linter.unusedSimpArgs false

theorem vFind_app (a b : Int) (x : VE) : ∀ l : List VE, vFind a b (l ++ [x]) = match vFind a b l with | some y => some y | none => if a == x.a && (b == x.b) then some x else none
  | [] => rfl
  | y :: l => by
    show (if a == y.a && (b == y.b) then some y else vFind a b (l ++ [x])) = _
    rw [vFind_app a b x l]
    show _ = match (if a == y.a && (b == y.b) then some y else vFind a b l) with | some y => some y | none => if a == x.a && (b == x.b) then some x else none
    cases a == y.a && (b == y.b) <;> rfl
theorem vFind_none (a b : Int) : ∀ l : List VE, (∀ y, y ∈ l → ¬ (y.a = a ∧ y.b = b)) → vFind a b l = none
  | [], _ => rfl
  | y :: l, h => by
    show (if a == y.a && (b == y.b) then some y else vFind a b l) = none
    have h1 := h y (by simp)
    rw [if_neg (by
      intro q
      rw [Bool.and_eq_true, beq_iff_eq, beq_iff_eq] at q
      exact h1 ⟨q.1.symm, q.2.symm⟩)]
    exact vFind_none a b l (fun z hz => h z (by simp [hz]))
/-- A publisher's way behind one more part. -/
def nextW (sz : Nat) (lv : ByteArray) (inc ls : Int) (q : PW) : PW := if q.m = 0 then ⟨lv, inc, ls, 1, (sz + 15) / 16 - 1⟩ else ⟨q.wv, q.wi, q.ws, q.nx + 1, q.m - 1⟩
/-- How all stand. -/
structure WI (sz : Nat) (M : List VE) (inc ls : Int) (lv : ByteArray) (q : PW) (wn : List (VE × Nat)) (x : Sb) (r : RG) : Prop where
  szs : ∀ y, y ∈ M → y.s.size = sz
  rng : ∀ y, y ∈ M → 0 ≤ y.a ∧ y.a ≤ 65535 ∧ 0 ≤ y.b ∧ y.b ≤ 4294967295
  uniq : ∀ y, y ∈ M → vFind y.a y.b M = some y
  top : ∀ y, y ∈ M → y.a ≤ inc ∧ (y.a = inc → y.b ≤ ls)
  ls0 : 0 ≤ ls
  lv1 : 0 < ls → ⟨inc, ls, lv⟩ ∈ M
  way : 0 < q.m → ⟨q.wi, q.ws, q.wv⟩ ∈ M ∧ q.nx + q.m = (sz + 15) / 16 ∧ 0 < ls
  wnt : ∀ e, e ∈ wn → e.1 ∈ M ∧ e.2 < (sz + 15) / 16
  front : ⟨x.fi, x.fs, x.f⟩ ∈ M
  fault : x.ft = false
  beh : x.wt = true → ⟨x.bi, x.bs, x.b⟩ ∈ M ∧ numV x.fi x.fs ≤ numV x.bi x.bs ∧ r.is = true ∧ numV x.bi x.bs ≤ numV r.vi r.vs
  gl : r.is = true → numV x.fi x.fs ≤ numV r.vi r.vs ∧ ∃ y, y ∈ M ∧ y.a = r.vi ∧ y.b = r.vs ∧ ∀ q t, r.cl[q]? = some t → t.toList ≠ [] → t = cutB y.s q
  gl0 : r.is = false → x.fi = 0 ∧ x.fs = 0
section
variable {sz : Nat} {M : List VE} {inc ls : Int} {lv : ByteArray} {q : PW} {wn : List (VE × Nat)} {x : Sb} {r : RG}
theorem wi_fresh (h : WI sz M inc ls lv q wn x r) : vFind inc (ls + 1) M = none := vFind_none _ _ _ (fun y hy e => by
  have := (h.top y hy).2 e.1
  omega)
theorem wi_commit (h : WI sz M inc ls lv q wn x r) (v : ByteArray) (hv : v.size = sz) (hi : 0 ≤ inc ∧ inc ≤ 65535) (hl : ls + 1 ≤ 4294967295) : WI sz (M ++ [⟨inc, ls + 1, v⟩]) inc (ls + 1) v q wn x r := by
  have hs := h.ls0
  have hm : ∀ y, y ∈ M → y ∈ M ++ [⟨inc, ls + 1, v⟩] := fun y hy => List.mem_append_left _ hy
  have hc : ∀ y, y ∈ M ++ [(⟨inc, ls + 1, v⟩ : VE)] → y ∈ M ∨ y = ⟨inc, ls + 1, v⟩ := fun y hy => by simpa using hy
  refine ⟨fun y hy => ?_, fun y hy => ?_, fun y hy => ?_, fun y hy => ?_, by omega, fun _ => by simp, fun hq => ?_, fun e he => ?_, hm _ h.front, h.fault, fun hw => ?_, fun hg => ?_, h.gl0⟩
  · rcases hc y hy with q | rfl
    · exact h.szs y q
    · exact hv
  · rcases hc y hy with q | rfl
    · exact h.rng y q
    · exact ⟨hi.1, hi.2, by show 0 ≤ ls + 1; omega, hl⟩
  · rw [vFind_app]
    rcases hc y hy with q | rfl
    · rw [h.uniq y q]
    · rw [wi_fresh h]
      simp
  · rcases hc y hy with q | rfl
    · exact ⟨(h.top y q).1, fun e => by have := (h.top y q).2 e; omega⟩
    · exact ⟨Int.le_refl _, fun _ => Int.le_refl _⟩
  · obtain ⟨a, b, c⟩ := h.way hq
    exact ⟨hm _ a, b, by omega⟩
  · exact ⟨hm _ (h.wnt e he).1, (h.wnt e he).2⟩
  · obtain ⟨a, b⟩ := h.beh hw
    exact ⟨hm _ a, b⟩
  · obtain ⟨a, y, b, c⟩ := h.gl hg
    exact ⟨a, y, hm _ b, c⟩
theorem wi_next (h : WI sz M inc ls lv q wn x r) (hl : 0 < ls) (h1 : 1 ≤ sz) : WI sz M inc ls lv (nextW sz lv inc ls q) (wn ++ [(⟨(nextW sz lv inc ls q).wi, (nextW sz lv inc ls q).ws, (nextW sz lv inc ls q).wv⟩, (nextW sz lv inc ls q).nx - 1)]) x r := by
  have hk : ⟨(nextW sz lv inc ls q).wi, (nextW sz lv inc ls q).ws, (nextW sz lv inc ls q).wv⟩ ∈ M ∧ (nextW sz lv inc ls q).nx + (nextW sz lv inc ls q).m = (sz + 15) / 16 ∧ 1 ≤ (nextW sz lv inc ls q).nx := by
    unfold nextW
    split
    · exact ⟨h.lv1 hl, by show 1 + ((sz + 15) / 16 - 1) = _; omega, Nat.le_refl 1⟩
    · rename_i hm
      obtain ⟨a, b, c⟩ := h.way (by omega)
      exact ⟨a, by show q.nx + 1 + (q.m - 1) = _; omega, by show 1 ≤ q.nx + 1; omega⟩
  revert hk
  generalize nextW sz lv inc ls q = q1
  intro hk
  refine ⟨h.szs, h.rng, h.uniq, h.top, h.ls0, h.lv1, fun _ => ⟨hk.1, hk.2.1, hl⟩, fun e he => ?_, h.front, h.fault, h.beh, h.gl, h.gl0⟩
  rcases List.mem_append.1 he with q | q
  · exact h.wnt e q
  · obtain rfl : e = _ := by simpa using q
    exact ⟨hk.1, by show q1.nx - 1 < _; omega⟩
theorem wi_inc (h : WI sz M inc ls lv q wn x r) : WI sz M (inc + 1) 0 ⟨#[]⟩ ⟨⟨#[]⟩, 0, 0, 0, 0⟩ wn x r :=
  ⟨h.szs, h.rng, h.uniq, fun y hy => by have := (h.top y hy).1; exact ⟨by omega, fun e => by omega⟩, Int.le_refl 0, fun q => absurd q (by omega), fun q => absurd q (Nat.lt_irrefl 0), h.wnt, h.front, h.fault, h.beh, h.gl, h.gl0⟩
/-- Behind a latch. -/
def latchX (x : Sb) : Sb := if x.wt = true then ⟨x.b, x.bi, x.bs, ⟨#[]⟩, 0, 0, false, x.ft⟩ else x
theorem wi_latch (h : WI sz M inc ls lv q wn x r) : WI sz M inc ls lv q wn (latchX x) r ∧ numV x.fi x.fs ≤ numV (latchX x).fi (latchX x).fs := by
  unfold latchX
  split
  · rename_i hw
    obtain ⟨a, b, c, d⟩ := h.beh hw
    obtain ⟨e, f⟩ := h.gl c
    exact ⟨⟨h.szs, h.rng, h.uniq, h.top, h.ls0, h.lv1, h.way, h.wnt, a, h.fault, fun q => (by cases q), fun _ => ⟨d, f⟩, fun q => (by rw [c] at q; cases q)⟩, b⟩
  · exact ⟨h, Int.le_refl _⟩
theorem cuts_all (sz : Nat) (v : ByteArray) (cl : List ByteArray) (hl : cl.length = (sz + 15) / 16) (hc : ∀ q t, cl[q]? = some t → t.toList ≠ [] → t = cutB v q) (hd : rdone cl = true) : cl = cuts sz v ((sz + 15) / 16) := by
  apply List.ext_getElem?
  intro q
  by_cases hq : q < (sz + 15) / 16
  · rw [cuts_get _ _ _ _ hq, if_pos hq]
    have hg := List.getElem?_eq_getElem (l := cl) (i := q) (by omega)
    have hn : cl[q].toList ≠ [] := by
      have := List.all_eq_true.1 hd _ (List.getElem_mem (l := cl) (n := q) (by omega))
      simpa using this
    rw [hg, ← hc q _ hg hn]
  · rw [List.getElem?_eq_none (by omega), List.getElem?_eq_none (by rw [cuts_len]; omega)]
/-- One of the parts that went, comes. -/
theorem wi_put (h : WI sz M inc ls lv q wn x r) (h1 : 1 ≤ sz) (h2 : sz ≤ 64) (hr : r.is = true → r.cl.length = (sz + 15) / 16) (hrv : 0 ≤ r.vs ∧ r.vs ≤ 4294967295) (e : VE × Nat) (he : e ∈ wn) :
    WI sz M inc ls lv q wn (xput x (rput sz r 4 e.1.a e.1.b e.2 (((sz + 15) / 16 : Nat) : Int) (cutB e.1.s e.2)).1 e.1.a e.1.b) (rput sz r 4 e.1.a e.1.b e.2 (((sz + 15) / 16 : Nat) : Int) (cutB e.1.s e.2)).2 ∧
    (xput x (rput sz r 4 e.1.a e.1.b e.2 (((sz + 15) / 16 : Nat) : Int) (cutB e.1.s e.2)).1 e.1.a e.1.b).fi = x.fi ∧ (xput x (rput sz r 4 e.1.a e.1.b e.2 (((sz + 15) / 16 : Nat) : Int) (cutB e.1.s e.2)).1 e.1.a e.1.b).fs = x.fs := by
  obtain ⟨y, p⟩ := e
  obtain ⟨hy, hp⟩ := h.wnt _ he
  dsimp only at hy hp ⊢
  have hys := h.szs y hy
  have hyr := h.rng y hy
  have ff : gfits sz p (((sz + 15) / 16 : Nat) : Int) (cutB y.s p) := ⟨rfl, by omega, by rw [cutB_siz y.s p (by omega), hys]; omega⟩
  have same : ∀ c : Int, c ≠ 3 → xput x (⟨#[]⟩, false, c) y.a y.b = x := fun c hc => by
    have : (c == 3) = false := by simpa using hc
    unfold xput
    simp [this]
  -- a part is taken: the glue has this value's version, and only parts of it
  have take : ∀ (cl : List ByteArray), cl.length = (sz + 15) / 16 → (∀ q t, cl[q]? = some t → t.toList ≠ [] → t = cutB y.s q) → numV x.fi x.fs ≤ numV y.a y.b → (r.is = true → numV r.vi r.vs ≤ numV y.a y.b) →
      ∀ R : (ByteArray × Bool × Int) × RG, R = ((catIf (cl.set p (cutB y.s p)) ((sz + 15) / 16), rdone (cl.set p (cutB y.s p)), 0), ⟨true, y.a, y.b, cl.set p (cutB y.s p)⟩) →
      WI sz M inc ls lv q wn (xput x R.1 y.a y.b) R.2 ∧ (xput x R.1 y.a y.b).fi = x.fi ∧ (xput x R.1 y.a y.b).fs = x.fs := by
    intro cl hl hc hn hrn R hR
    subst hR
    have hc2 : ∀ q t, (cl.set p (cutB y.s p))[q]? = some t → t.toList ≠ [] → t = cutB y.s q := fun q t hq hne => by
      rw [List.getElem?_set] at hq
      split at hq
      · rename_i e
        subst e
        split at hq
        · exact (Option.some.inj hq).symm
        · cases hq
      · exact hc q t hq hne
    have hgl : numV x.fi x.fs ≤ numV y.a y.b ∧ ∃ y', y' ∈ M ∧ y'.a = y.a ∧ y'.b = y.b ∧ ∀ q t, (cl.set p (cutB y.s p))[q]? = some t → t.toList ≠ [] → t = cutB y'.s q := ⟨hn, y, hy, rfl, rfl, hc2⟩
    unfold xput
    dsimp only
    cases hd : rdone (cl.set p (cutB y.s p)) with
    | true =>
      rw [if_pos rfl]
      have hv : catIf (cl.set p (cutB y.s p)) ((sz + 15) / 16) = y.s := by
        unfold catIf
        rw [if_pos hd, cuts_all sz y.s _ (by rw [List.length_set, hl]) hc2 hd]
        exact cuts_cat sz y.s hys
      rw [hv]
      exact ⟨⟨h.szs, h.rng, h.uniq, h.top, h.ls0, h.lv1, h.way, h.wnt, h.front, by simp [h.fault], fun _ => ⟨hy, hn, rfl, Int.le_refl _⟩, fun _ => hgl, fun q => (by cases q)⟩, rfl, rfl⟩
    | false =>
      rw [if_neg (by simp)]
      exact ⟨⟨h.szs, h.rng, h.uniq, h.top, h.ls0, h.lv1, h.way, h.wnt, h.front, by simp [h.fault], fun hw => by
        obtain ⟨b1, b2, b3, b4⟩ := h.beh hw
        exact ⟨b1, b2, rfl, Int.le_trans b4 (hrn b3)⟩, fun _ => hgl, fun q => (by cases q)⟩, rfl, rfl⟩
  obtain ⟨ris, ri, rs, cl⟩ := r
  unfold rput
  dsimp only at hr hrv take ⊢
  rw [if_neg (show ¬ ((4 : Int) == 4) = false by decide), if_neg (show ¬ ¬ gfits sz p (((sz + 15) / 16 : Nat) : Int) (cutB y.s p) from fun z => z ff)]
  by_cases c1 : ris = true ∧ numV y.a y.b < numV ri rs
  · rw [if_pos c1]
    dsimp only
    rw [same 1 (by decide)]
    exact ⟨h, rfl, rfl⟩
  rw [if_neg c1]
  by_cases c2 : ris = true ∧ numV y.a y.b = numV ri rs
  · rw [if_pos c2]
    obtain ⟨rfl, he2⟩ := c2
    obtain ⟨e1, e2⟩ := (num_lt y.a y.b ri rs hyr.2.2.1 hyr.2.2.2 hrv.1 hrv.2).2.2 he2
    obtain ⟨g1, y2, g2, g3, g4, g5⟩ := h.gl rfl
    dsimp only at g1 g3 g4 g5
    have hyy : y2 = y := by
      have u1 := h.uniq y hy
      have u2 := h.uniq y2 g2
      rw [g3, g4, ← e1, ← e2, u1] at u2
      exact (Option.some.inj u2).symm
    subst hyy
    by_cases hne : (cl.getD p ⟨#[]⟩).toList ≠ []
    · rw [if_pos hne]
      dsimp only
      rw [same 14 (by decide)]
      exact ⟨h, rfl, rfl⟩
    · rw [if_neg hne]
      exact take cl (hr rfl) g5 (by rw [he2]; exact g1) (fun _ => by rw [he2]; exact Int.le_refl _) _ (by rw [g3, g4])
  · rw [if_neg c2]
    refine take (List.replicate ((sz + 15) / 16) ⟨#[]⟩) (by simp) (fun q t ht hne => ?_) ?_ (fun hi => ?_) _ rfl
    · rw [List.getElem?_replicate] at ht
      split at ht
      · obtain rfl := Option.some.inj ht
        exact absurd (by rw [ByteArray.toList_eq]) hne
      · cases ht
    · cases hi : ris with
      | true =>
        have g1 := (h.gl hi).1
        dsimp only at g1
        have n1 : ¬ numV y.a y.b < numV ri rs := fun z => c1 ⟨hi, z⟩
        omega
      | false =>
        obtain ⟨z1, z2⟩ := h.gl0 hi
        rw [z1, z2]
        unfold numV
        omega
    · have n1 : ¬ numV y.a y.b < numV ri rs := fun z => c1 ⟨hi, z⟩
      omega
end
/-- How all stand at first. -/
theorem wi_first (sz : Nat) (v : ByteArray) (hv : v.size = sz) : WI sz [⟨0, 0, v⟩] 1 0 ⟨#[]⟩ ⟨⟨#[]⟩, 0, 0, 0, 0⟩ [] ⟨v, 0, 0, ⟨#[]⟩, 0, 0, false, false⟩ ⟨false, 0, 0, []⟩ := by
  have hc : ∀ y, y ∈ [(⟨0, 0, v⟩ : VE)] → y = ⟨0, 0, v⟩ := fun y hy => by simpa using hy
  refine ⟨fun y hy => ?_, fun y hy => ?_, fun y hy => ?_, fun y hy => ?_, Int.le_refl 0, fun q => absurd q (by omega), fun q => absurd q (Nat.lt_irrefl 0), fun e he => by simp at he, by simp, rfl, fun q => (by cases q), fun q => (by cases q), fun _ => ⟨rfl, rfl⟩⟩
  · rw [hc y hy]; exact hv
  · rw [hc y hy]; show (0 : Int) ≤ 0 ∧ (0 : Int) ≤ 65535 ∧ (0 : Int) ≤ 0 ∧ (0 : Int) ≤ 4294967295; decide
  · rw [hc y hy]; rfl
  · rw [hc y hy]; exact ⟨by show (0 : Int) ≤ 1; omega, fun _ => Int.le_refl 0⟩
theorem padB_size (v : ByteArray) (n : Nat) : (padB v n).size = n := by
  unfold padB
  rw [ba_size_extract]
  have : ((⟨(List.replicate n 0).toArray⟩ : ByteArray)).size = n := by simp [ByteArray.size]
  rw [ByteArray.size_append, this]
  omega
end Go.Proofs.Ytpfabaoefkokjaa

/-
  GdataWhole: what lies in memory, and what a round's calls make of it.
-/
namespace Go.Proofs.Ytpfabaoefkokjaa
open Go.RowKit
set_option linter.unusedVariables false
set_option linter.unusedSimpArgs false

theorem size34 : (Try.prog.info? 34).map (·.size) = some 2 := by kernel_rfl
theorem size66 : (Try.prog.info? 66).map (·.size) = some 3 := by kernel_rfl
theorem bk_nemap {w : World} {g g' : Nat} {t : TypeId} {f : Nat × Nat} {cs : Array Value} {M : List VE} (h : w.heap[g]? = some (.cells cs t f)) (h' : MapAt g' M w) : g ≠ g' := by
  rintro rfl
  unfold MapAt at h'
  rw [h] at h'
  injection h' with h'
  cases h'
theorem rng_flat {w : World} {b c : Nat} : ∀ (L : List (List Value)) (k o : Nat) (r : List Value), (∀ x, x ∈ L → x.length = c) → w.rangeAt b o L.flatten → L[k]? = some r → w.rangeAt b (o + k * c) r
  | [], k, o, r, _, _, hk => by simp at hk
  | x :: L, 0, o, r, hc, h, hk => by
    rw [List.flatten_cons] at h
    simp only [List.getElem?_cons_zero, Option.some.injEq] at hk
    subst hk
    rw [Nat.zero_mul, Nat.add_zero]
    exact range_left h
  | x :: L, k + 1, o, r, hc, h, hk => by
    rw [List.flatten_cons] at h
    have := rng_flat L k (o + c) r (fun x hx => hc x (by simp [hx])) (range_right h (hc x (by simp))) (by simpa using hk)
    rw [show o + (k + 1) * c = o + c + k * c by rw [Nat.add_mul]; omega]
    exact this
/-- The cells of what went. -/
def wnR (sz : Nat) (e : VE × Nat) : List Value := frL e.1.a e.1.b e.2 (((sz + 15) / 16 : Nat) : Int) (cutB e.1.s e.2)
def wnL (sz : Nat) (wn : List (VE × Nat)) : List Value := (wn.map (wnR sz)).flatten
theorem wnL_snoc (sz : Nat) (wn : List (VE × Nat)) (e : VE × Nat) : wnL sz (wn ++ [e]) = wnL sz wn ++ wnR sz e := by simp [wnL]
/-- What lies in memory. -/
structure WAt (B P h g vb L mp sz : Nat) (inc ls : Int) (lv : ByteArray) (q : PW) (x : Sb) (s : G) (li lS : Int) (M : List VE) (xw : Value) (wn : List (VE × Nat)) (w : World) : Prop where
  pub : w.heap[P]? = some (.cells #[.int .i64 sz, .string lv, .int .u16 inc, .int .u32 ls, .string q.wv, .int .u16 q.wi, .int .u32 q.ws, .int .i64 q.nx, .int .i64 q.m] 80 (0, 0))
  sub : SubAt h g x w
  glue : GlueAt g vb sz s w
  last : w.heap[L]? = some (.cells #[.int .u16 li, .int .u32 lS] 34 (0, 0))
  map : MapAt mp M w
  row : w.ownsRow B 36 19 xw wn.length (wnL sz wn)
  lb : B ≤ P ∧ B ≤ h ∧ B ≤ g ∧ B ≤ vb ∧ B ≤ L ∧ B ≤ mp
section
variable {B P h g vb L mp sz : Nat} {inc ls : Int} {lv : ByteArray} {q : PW} {x : Sb} {s : G} {li lS : Int} {M : List VE} {xw : Value} {wn : List (VE × Nat)} {w w1 : World}
theorem own_blk {base : Nat} {e : TypeId} {size n : Nat} {v : Value} {xs : List Value} (h : w.ownsRow base e size v n xs) (i : Nat) (hi : v.ownBlock = some i) : ∃ cs, w.heap[i]? = some (.cells cs e (0, 0)) := by
  rcases h.2 with ⟨rfl, _⟩ | ⟨g, cap, cur, rfl, _, hg, _⟩
  · cases hi
  · simp only [Value.ownBlock, Option.some.injEq] at hi
    subst hi
    exact ⟨_, hg⟩
/-- What of it may turn. -/
structure Far (P h g vb L mp : Nat) (xw : Value) : Prop where
  Ph : P ≠ h
  Pg : P ≠ g
  Pv : P ≠ vb
  PL : P ≠ L
  Pm : P ≠ mp
  hL : h ≠ L
  hm : h ≠ mp
  gL : g ≠ L
  gm : g ≠ mp
  vL : vb ≠ L
  vm : vb ≠ mp
  Lm : L ≠ mp
  x : ∀ i, xw.ownBlock = some i → P ≠ i ∧ h ≠ i ∧ g ≠ i ∧ vb ≠ i ∧ L ≠ i ∧ mp ≠ i
theorem wat_far (k : WAt B P h g vb L mp sz inc ls lv q x s li lS M xw wn w) : Far P h g vb L mp xw := by
  refine ⟨bk_ne k.pub k.sub (by decide), bk_ne k.pub k.glue.1 (by decide), bk_ne k.pub k.glue.2 (by decide), bk_ne k.pub k.last (by decide), bk_nemap k.pub k.map, bk_ne k.sub k.last (by decide), bk_nemap k.sub k.map, bk_ne k.glue.1 k.last (by decide), bk_nemap k.glue.1 k.map, bk_ne k.glue.2 k.last (by decide), bk_nemap k.glue.2 k.map, bk_nemap k.last k.map, fun i hi => ?_⟩
  obtain ⟨cs, hc⟩ := own_blk k.row i hi
  exact ⟨bk_ne k.pub hc (by decide), bk_ne k.sub hc (by decide), bk_ne k.glue.1 hc (by decide), bk_ne k.glue.2 hc (by decide), bk_ne k.last hc (by decide), (bk_nemap hc k.map).symm⟩
theorem wat_keep (k : WAt B P h g vb L mp sz inc ls lv q x s li lS M xw wn w) (f : Fr w w1 []) : WAt B P h g vb L mp sz inc ls lv q x s li lS M xw wn w1 :=
  ⟨bk_keep k.pub f (by simp), bk_keep k.sub f (by simp), gl_keep k.glue f (by simp) (by simp), bk_keep k.last f (by simp), mp_keep k.map f (by simp), own_keep k.row f (by simp), k.lb⟩
theorem wat_pub (k : WAt B P h g vb L mp sz inc ls lv q x s li lS M xw wn w) (f : Fr w w1 [P]) {ls' : Int} {lv' : ByteArray} {q' : PW} (hp : w1.heap[P]? = some (.cells #[.int .i64 sz, .string lv', .int .u16 inc, .int .u32 ls', .string q'.wv, .int .u16 q'.wi, .int .u32 q'.ws, .int .i64 q'.nx, .int .i64 q'.m] 80 (0, 0))) : WAt B P h g vb L mp sz inc ls' lv' q' x s li lS M xw wn w1 := by
  have d := wat_far k
  exact ⟨hp, bk_keep k.sub f (by simpa using d.Ph.symm), gl_keep k.glue f (by simpa using d.Pg.symm) (by simpa using d.Pv.symm), bk_keep k.last f (by simpa using d.PL.symm), mp_keep k.map f (by simpa using d.Pm.symm), own_keep k.row f (fun i hi => by simpa using (d.x i hi).1.symm), k.lb⟩
theorem wat_newpub (k : WAt B P h g vb L mp sz inc ls lv q x s li lS M xw wn w) (f : Fr w w1 []) {P' : Nat} {inc' ls' : Int} {lv' : ByteArray} {q' : PW} (hp : w1.heap[P']? = some (.cells #[.int .i64 sz, .string lv', .int .u16 inc', .int .u32 ls', .string q'.wv, .int .u16 q'.wi, .int .u32 q'.ws, .int .i64 q'.nx, .int .i64 q'.m] 80 (0, 0))) (hb : B ≤ P') : WAt B P' h g vb L mp sz inc' ls' lv' q' x s li lS M xw wn w1 := by
  have k' := wat_keep k f
  exact ⟨hp, k'.sub, k'.glue, k'.last, k'.map, k'.row, hb, k.lb.2⟩
theorem wat_sub (k : WAt B P h g vb L mp sz inc ls lv q x s li lS M xw wn w) {S : List Nat} (f : Fr w w1 S) (hS : ∀ i, i ∈ S → i = g ∨ i = vb ∨ i = h) {x' : Sb} {s' : G} (hs : SubAt h g x' w1) (hg : GlueAt g vb sz s' w1) : WAt B P h g vb L mp sz inc ls lv q x' s' li lS M xw wn w1 := by
  have d := wat_far k
  have n : ∀ i, i ≠ g → i ≠ vb → i ≠ h → i ∉ S := fun i a b c hi => by rcases hS i hi with e | e | e <;> omega
  exact ⟨bk_keep k.pub f (n _ d.Pg d.Pv d.Ph), hs, hg, bk_keep k.last f (n _ d.gL.symm d.vL.symm d.hL.symm), mp_keep k.map f (n _ d.gm.symm d.vm.symm d.hm.symm), own_keep k.row f (fun i hi => n _ (d.x i hi).2.2.1.symm (d.x i hi).2.2.2.1.symm (d.x i hi).2.1.symm), k.lb⟩
theorem wat_map (k : WAt B P h g vb L mp sz inc ls lv q x s li lS M xw wn w) (f : Fr w w1 [mp]) {M' : List VE} (hm : MapAt mp M' w1) : WAt B P h g vb L mp sz inc ls lv q x s li lS M' xw wn w1 := by
  have d := wat_far k
  exact ⟨bk_keep k.pub f (by simpa using d.Pm), bk_keep k.sub f (by simpa using d.hm), gl_keep k.glue f (by simpa using d.gm) (by simpa using d.vm), bk_keep k.last f (by simpa using d.Lm), hm, own_keep k.row f (fun i hi => by simpa using (d.x i hi).2.2.2.2.2.symm), k.lb⟩
theorem wat_last (k : WAt B P h g vb L mp sz inc ls lv q x s li lS M xw wn w) (f : Fr w w1 [L]) {li' lS' : Int} (hl : w1.heap[L]? = some (.cells #[.int .u16 li', .int .u32 lS'] 34 (0, 0))) : WAt B P h g vb L mp sz inc ls lv q x s li' lS' M xw wn w1 := by
  have d := wat_far k
  exact ⟨bk_keep k.pub f (by simpa using d.PL), bk_keep k.sub f (by simpa using d.hL), gl_keep k.glue f (by simpa using d.gL) (by simpa using d.vL), hl, mp_keep k.map f (by simpa using d.Lm.symm), own_keep k.row f (fun i hi => by simpa using (d.x i hi).2.2.2.2.1.symm), k.lb⟩
theorem wat_row (k : WAt B P h g vb L mp sz inc ls lv q x s li lS M xw wn w) (f : w.grownBy w1 xw.ownBlock) {xw' : Value} {wn' : List (VE × Nat)} (hr : w1.ownsRow B 36 19 xw' wn'.length (wnL sz wn')) : WAt B P h g vb L mp sz inc ls lv q x s li lS M xw' wn' w1 := by
  have d := wat_far k
  have n : ∀ j o, w.heap[j]? = some o → (∀ i, xw.ownBlock = some i → j ≠ i) → w1.heap[j]? = some o := fun j o hj hn => (f.block j (bk_lt hj) (fun e => hn j e.symm rfl)).trans hj
  exact ⟨n _ _ k.pub (fun i hi => (d.x i hi).1), n _ _ k.sub (fun i hi => (d.x i hi).2.1), ⟨n _ _ k.glue.1 (fun i hi => (d.x i hi).2.2.1), n _ _ k.glue.2 (fun i hi => (d.x i hi).2.2.2.1)⟩, n _ _ k.last (fun i hi => (d.x i hi).2.2.2.2.1), n _ _ k.map (fun i hi => (d.x i hi).2.2.2.2.2), hr, k.lb⟩
/-- What a round's steps write is new, seen from ahead of all. -/
theorem wat_new (k : WAt B P h g vb L mp sz inc ls lv q x s li lS M xw wn w) {w0 : World} (hB : w0.heap.size ≤ B) {S : List Nat} (hS : ∀ i, i ∈ S → i = P ∨ i = g ∨ i = vb ∨ i = h ∨ i = L ∨ i = mp) : ∀ i, i ∈ S → i ∈ ([] : List Nat) ∨ w0.heap.size ≤ i := fun i hi => .inr (by
  obtain ⟨a, b, c, d, e, f⟩ := k.lb
  rcases hS i hi with q | q | q | q | q | q <;> omega)
theorem wat_own (k : WAt B P h g vb L mp sz inc ls lv q x s li lS M xw wn w) {w0 : World} (hB : w0.heap.size ≤ B) : ∀ i, xw.ownBlock = some i → i ∈ ([] : List Nat) ∨ w0.heap.size ≤ i := fun i hi => .inr (Nat.le_trans hB (k.row.lt i hi).1)
/-- One of the frames that went is read. -/
theorem wat_read (k : WAt B P h g vb L mp sz inc ls lv q x s li lS M xw wn w) {A : Option Addr} {n c j : Nat} (hx : xw = .slice A n c) (hj : j < wn.length) : ∃ gw e, A = some ⟨gw, 0, none⟩ ∧ n = wn.length ∧ wn[j]? = some e ∧ e ∈ wn ∧ w.rangeAt gw (j * 19) (wnR sz e) := by
  have hr := k.row
  obtain ⟨A2, c2, e2, hA⟩ := own_slice hr
  rw [hx] at e2
  injection e2 with q1 q2 q3
  subst q1
  subst q2
  subst q3
  obtain ⟨gw, rfl⟩ := hA (by omega)
  rw [hx] at hr
  have hg := List.getElem?_eq_getElem hj
  refine ⟨gw, wn[j], rfl, rfl, hg, List.getElem_mem hj, ?_⟩
  have := rng_flat (w := w) (b := gw) (c := 19) (wn.map (wnR sz)) j 0 (wnR sz wn[j]) (fun z hz => by
    obtain ⟨e, _, rfl⟩ := List.mem_map.1 hz
    rfl) (own_range hr) (by rw [List.getElem?_map, hg]; rfl)
  rwa [Nat.zero_add] at this
theorem nextW_wi {wn' : List (VE × Nat)} {r : RG} (P : Nat) (w : World) (k : WI sz M inc ls lv q wn' x r) (hl : 0 < ls) (h1 : 1 ≤ sz) (h2 : sz ≤ 64) (hp : w.heap[P]? = some (.cells #[.int .i64 sz, .string lv, .int .u16 inc, .int .u32 ls, .string q.wv, .int .u16 q.wi, .int .u32 q.ws, .int .i64 q.nx, .int .i64 q.m] 80 (0, 0))) :
    Calls Try.prog 11 #[.pointer (some ⟨P, 0, none⟩)] w fun e w' => e = .returned (.tuple #[.agg (wnR sz (⟨(nextW sz lv inc ls q).wi, (nextW sz lv inc ls q).ws, (nextW sz lv inc ls q).wv⟩, (nextW sz lv inc ls q).nx - 1)).toArray, .bool true]) ∧
      w'.heap[P]? = some (.cells #[.int .i64 sz, .string lv, .int .u16 inc, .int .u32 ls, .string (nextW sz lv inc ls q).wv, .int .u16 (nextW sz lv inc ls q).wi, .int .u32 (nextW sz lv inc ls q).ws, .int .i64 (nextW sz lv inc ls q).nx, .int .i64 (nextW sz lv inc ls q).m] 80 (0, 0)) ∧ Fr w w' [P] := by
  obtain ⟨wv, wi, ws, nx, m⟩ := q
  dsimp only at hp
  cases m with
  | zero => exact nextStart2 P sz lv inc ls wv wi ws nx ((sz + 15) / 16 - 1) w _ (cutB lv 0) hp hl h1 h2 (k.szs _ (k.lv1 hl)) rfl (by omega) rfl
  | succ m =>
    obtain ⟨c1, c2, c3⟩ := k.way (by show 0 < m + 1; omega)
    exact nextOn2 P sz lv inc ls wv wi ws nx m w _ (cutB wv nx) hp hl h1 h2 (k.szs _ c1) c2 rfl rfl
theorem latchX_any (h g : Nat) (x : Sb) (w : World) (hs : SubAt h g x w) : Calls Try.prog 15 #[.pointer (some ⟨h, 0, none⟩)] w fun e w' => e = .returned (.bool x.wt) ∧ SubAt h g (latchX x) w' ∧ Fr w w' [h] := by
  obtain ⟨f, fi, fs, b, bi, bs, wt, ft⟩ := x
  cases wt with
  | true => exact (latch_yes h g f fi fs b bi bs ft w hs).mono fun e w' q => q
  | false => exact (latch_no h g f fi fs b bi bs ft w hs).mono fun e w' q => by obtain ⟨q1, rfl⟩ := q; exact ⟨q1, hs, Fr.refl _ _⟩
theorem putW_any {r : RG} (k : WI sz M inc ls lv q wn x r) (hsm : Sim sz s r) (h1 : 1 ≤ sz) (h2 : sz ≤ 64) (e : VE × Nat) (he : e ∈ wn) : ∃ (o : Bool) (c : Int) (x1 : Sb) (s1 : G) (r1 : RG),
    (∀ w : World, SubAt h g x w → GlueAt g vb sz s w → Calls Try.prog 12 #[.pointer (some ⟨h, 0, none⟩), .agg (wnR sz e).toArray] w fun e w' => e = .returned (.tuple #[.bool o, .int .i64 c]) ∧ SubAt h g x1 w' ∧ GlueAt g vb sz s1 w' ∧ Fr w w' [g, vb, h]) ∧
    Sim sz s1 r1 ∧ WI sz M inc ls lv q wn x1 r1 ∧ x1.fi = x.fi ∧ x1.fs = x.fs := by
  obtain ⟨hy, hp⟩ := k.wnt e he
  have hyr := k.rng _ hy
  obtain ⟨p1, p2⟩ := put_sim hsm 4 e.1.a e.1.b e.2 (((sz + 15) / 16 : Nat) : Int) (cutB e.1.s e.2) hyr
  have T := wi_put k h1 h2 hsm.len hsm.r0.2.2 e he
  refine ⟨_, _, _, _, _, fun w a b => sput_any 0 0 0 0 0 0 0 0 0 0 0 false 0 h g vb sz x s 4 e.1.a e.1.b e.2 (((sz + 15) / 16 : Nat) : Int) (cutB e.1.s e.2) w a b hsm.ok (by omega) (by omega) (by omega), p2, ?_⟩
  have e1 : (sput sz x s 4 e.1.a e.1.b e.2 (((sz + 15) / 16 : Nat) : Int) (cutB e.1.s e.2)).2.1 = xput x (rput sz r 4 e.1.a e.1.b e.2 (((sz + 15) / 16 : Nat) : Int) (cutB e.1.s e.2)).1 e.1.a e.1.b := by
    rw [← p1]
    rfl
  rw [e1]
  exact T
end
end Go.Proofs.Ytpfabaoefkokjaa

/-
  GdataWhole: the walk.
-/
namespace Go.Proofs.Ytpfabaoefkokjaa
open Go.RowKit Go.Proofs.YtpfabaoefkokjaaW.PrintLast
set_option linter.unusedVariables false
set_option linter.unusedSimpArgs false
theorem size5w : (Try.prog.info? 5).map (·.size) = some 1 := by kernel_rfl
section
variable {ops : Array Oper} {rest : List Oper} {o : Oper} {a : Act} {Q : Exit → Act → World → Prop} {W : World}
theorem ev_mkmap (t : TypeId) (ho : o.op = .makeMap t none) (hgd : o.guard = none) {N : Tmp} (hd : o.dst = some N)
    (h : ∀ mp w1, MapAt mp [] w1 → Fr W w1 [] → W.heap.size ≤ mp → wpList Try.prog ops Q rest (a.put (some N) (.map (some mp))) w1) : wpList Try.prog ops Q (o :: rest) a W := by
  refine wpList_plain hgd fun K hK => ?_
  have hh := hK _ _ (h _ _ (bk_new W _) ((Fr.refl W []).alloc _) (Nat.le_refl _))
  rw [← hd] at hh
  unfold Oper.wp
  simp [execOp, ho, run_makeMap, Result.andThen]
  exact hh
end
/-- A turn's cells. -/
structure TC where
  wh : Nat
  ix : Nat
  st : ByteArray
def TC.c (t : TC) : List Value := [.int .u8 t.wh, .int .u16 t.ix, .string t.st]
section
variable (size : Int) (first : ByteArray) (w : World)
set_option maxRecDepth 100000 in
set_option maxHeartbeats 2000000 in
theorem whole_long (A : Option Addr) (n c : Nat) (hn : 100 < first.size ∨ 120 < n) (hs : 0 ≤ size) (hs2 : size ≤ 255) : Calls Try.prog 5 #[.int .u8 size, .string first, .slice A n c] w fun e w' => e = .returned (.bool true) ∧ Fr w w' [] := by
  have hx : (100 < first.size) ∨ (¬ 100 < first.size ∧ 120 < n) := by omega
  clear hn
  rcases hx with hx | ⟨hx, hy⟩
  · have hd : (100 : Int) < first.size := by omega
    go_enter Try.func5, Try.ntmps5
    go_wp2_with (go_at_call 7; refine (awake_true _).mono ?_; rintro e w1 ⟨rfl, hf1⟩)
    go_ret
    exact ⟨rfl, hf1⟩
  · have hd : ¬ (100 : Int) < first.size := by omega
    have hd2 : (120 : Int) < n := by omega
    go_enter Try.func5, Try.ntmps5
    go_wp2_with (go_at_call 7; refine (awake_true _).mono ?_; rintro e w1 ⟨rfl, hf1⟩)
    go_ret
    exact ⟨rfl, hf1⟩

set_option maxRecDepth 100000 in
set_option maxHeartbeats 16000000 in
theorem whole_in (A : Option Addr) (n c : Nat) (ts : List TC) (hl : ts.length = n) (hok : ∀ t, t ∈ ts → t.ix ≤ 65535) (hA : 0 < n → ∃ b o, A = some ⟨b, o, none⟩ ∧ w.rangeAt b o (ts.map TC.c).flatten) (hn0 : first.size ≤ 100) (hn : n ≤ 120) (hs : 0 ≤ size) (hs2 : size ≤ 255) :
    Calls Try.prog 5 #[.int .u8 size, .string first, .slice A n c] w fun e w' => e = .returned (.bool true) ∧ Fr w w' [] := by
  obtain ⟨sz, hsz⟩ := Int.eq_ofNat_of_zero_le (show 0 ≤ 1 + size % 64 by omega)
  have h1 : 1 ≤ sz := by omega
  have h2 : sz ≤ 64 := by omega
  have d1 : ¬ (100 : Int) < first.size := by omega
  have d2 : ¬ (120 : Int) < n := by omega
  go_enter Try.func5, Try.ntmps5
  go_wp2_with (first
      | (go_at_call 7; refine (awake_true _).mono ?_; rintro e w1 ⟨rfl, hf1⟩)
      | (go_at_call 8; refine (newPub_in sz 1 (by omega) (by omega) _).mono ?_; rintro e w2 ⟨rfl, hp2, hf2⟩)
      | (go_at_call 9; refine (newSub_in sz _ h1 h2 hn0 _).mono ?_; rintro e w3 ⟨h, g, vb, rfl, hs3, hg3, hf3, hh, hg, hvb⟩)
      | (go_at_call 16; refine (sfront_any h g _ _ _ _ _ _ _ _ _ hs3).mono ?_; rintro e w4 ⟨rfl, hf4⟩)
      | ((with_reducible refine gate_op (.makeMap 63 none) rfl ?_); go_must (refine ev_mkmap 63 rfl rfl rfl ?_); intro mp w5 hm5 hf5 hmp)
      | ((with_reducible refine gate_op (.insert 63 (.tmp 52) (.tmp 53) (.tmp 54)) rfl ?_); go_must (refine ev_vput (.tmp 52) (.tmp 53) (.tmp 54) (.inr rfl) rfl rfl ⟨0, 0, padB first sz⟩ rfl rfl rfl hm5 rfl ?_); intro w6 hm6 hf6))
  have hmp2 : w4.heap.size < mp := by have := hmp; simp at this; omega
  have F46 : Fr w4 w6 [] := ((((Fr.refl w4 []).alloc _).step hf5)).trans hf6 (by intro i hi; right; simp at hi; omega)
  have F36 : Fr w3 w6 [] := hf4.step F46
  have FAll : Fr w w6 [] := ((hf1.step hf2).step hf3).step F36
  have z1 := hf1.size
  have z2 := hf2.size
  have z3 := hf3.size
  have z4 := hf4.size
  have HW0 := Lib.hid (show WAt w.heap.size w1.heap.size h g vb w4.heap.size mp sz 1 0 ⟨#[]⟩ ⟨⟨#[]⟩, 0, 0, 0, 0⟩ ⟨padB first sz, 0, 0, ⟨#[]⟩, 0, 0, false, false⟩ ⟨List.replicate sz 0, 0, 0, false, 0, 0⟩ 0 0 [⟨0, 0, padB first sz⟩] (.slice none 0 0) [] w6 from
    ⟨bk_keep (bk_keep hp2 hf3 (by simp)) F36 (by simp), bk_keep hs3 F36 (by simp), gl_keep hg3 F36 (by simp) (by simp), bk_keep (bk_keep (bk_new w4 _) hf5 (by simp)) hf6 (by simp; omega), hm6, World.ownsRow_nil _ _ _ _, by omega, by omega, by omega, by omega, by omega, by omega⟩)
  have HI0 := Lib.hid (wi_first sz (padB first sz) (padB_size first sz))
  have HS0 := Lib.hid (show Sim sz ⟨List.replicate sz 0, 0, 0, false, 0, 0⟩ ⟨false, 0, 0, []⟩ from ⟨⟨by simp, h1, h2, Int.le_refl 0, (by show (0 : Int) ≤ 15; omega), Int.le_refl 0, (by show (0 : Int) ≤ 4; omega)⟩, rfl, fun q => (by cases q), fun q => (by cases q), fun q => (by cases q), fun q => (by cases q), fun q => (by cases q), fun q => (by cases q), ⟨by decide, by decide, by decide, by decide⟩, fun q => (by cases q), fun q => (by cases q)⟩)
  have HF0 := Lib.hid FAll
  clear FAll F36 F46 z1 z2 z3 z4 hmp hmp2 hp2 hs3 hg3 hm5 hm6 hf1 hf2 hf3 hf4 hf5 hf6 hh hg hvb
  obtain ⟨L, hL⟩ : ∃ L, w4.heap.size = L := ⟨_, rfl⟩
  obtain ⟨P0, hP0⟩ : ∃ P0, w1.heap.size = P0 := ⟨_, rfl⟩
  rw [hL, hP0] at HW0
  rw [hL, hP0]
  clear hL hP0
  go_loopg [8, 9, 14, 58] (n + 1) (fun kq xi xp xw xk wr => ∃ (k P : Nat) (inc ls : Int) (lv : ByteArray) (q : PW) (x : Sb) (s : G) (r : RG) (M : List VE) (wn : List (VE × Nat)), Hid (k + kq = n + 1) ∧ k ≤ n ∧ xi = .int .u16 inc ∧ xp = .pointer (some ⟨P, 0, none⟩) ∧ xk = .int .i64 k ∧
    Hid (WAt w.heap.size P h g vb L mp sz inc ls lv q x s x.fi x.fs M xw wn wr) ∧ Hid (WI sz M inc ls lv q wn x r) ∧ Hid (Sim sz s r) ∧ Hid (0 ≤ inc ∧ inc ≤ 1 + k ∧ ls ≤ k ∧ wn.length ≤ k) ∧ Hid (Fr w wr []))
  case atStart => exact ⟨0, P0, 1, 0, ⟨#[]⟩, _, _, _, _, _, [], Lib.hid (by omega), by omega, rfl, rfl, rfl, HW0, HI0, HS0, Lib.hid ⟨by omega, by omega, by omega, Nat.le_refl 0⟩, HF0⟩
  case round =>
    obtain ⟨k, P, inc, ls, lv, q, x, s, r, M, wn, HK, hkn, rfl, rfl, rfl, HW, HI, HS, HBd, HFr⟩ := hrel
    rename Value => xw
    by_cases hlt : k < n
    · obtain ⟨b0, o0, rfl, hrg⟩ := hA (by omega)
      obtain ⟨tc, htc⟩ : ∃ tc, ts[k]? = some tc := ⟨_, List.getElem?_eq_getElem (by omega)⟩
      have hr0 : w.rangeAt b0 (o0 + k * 3) tc.c := rng_flat (ts.map TC.c) k o0 _ (by
        intro z hz
        obtain ⟨y, _, rfl⟩ := List.mem_map.1 hz
        rfl) hrg (by rw [List.getElem?_map, htc]; rfl)
      have hix := hok tc (List.mem_of_getElem? htc)
      obtain ⟨wh, ix, st⟩ := tc
      dsimp only at hix
      have HRK := Lib.hid (show wr.rangeAt b0 (o0 + k * 3) [.int .u8 wh, .int .u16 ix, .string st] from range_keep hr0 HFr.out (by simp))
      have hlt' : (k : Int) < n := by omega
      have HLv := Lib.hid (HI.out.rng _ HI.out.front)
      obtain ⟨li, hli⟩ : ∃ li, li = x.fi := ⟨_, rfl⟩
      obtain ⟨lS, hlS⟩ : ∃ lS, lS = x.fs := ⟨_, rfl⟩
      have HLe0 := Lib.hid (show numV li lS ≤ numV x.fi x.fs from by rw [hli, hlS]; exact Int.le_refl _)
      rw [← hli, ← hlS] at HW
      dsimp only at HLv
      rw [← hli, ← hlS] at HLv
      clear hrg hr0 htc hl hA hok hli hlS
      rcases (show (wh : Int) % 5 = 0 ∨ (wh : Int) % 5 = 1 ∨ (wh : Int) % 5 = 2 ∨ (wh : Int) % 5 = 3 ∨ (wh : Int) % 5 = 4 by omega) with h5 | h5 | h5 | h5 | h5
      · have HSZ := Lib.hid (show (((fitB sz st).size : Int) == (sz : Int)) = true by rw [fitB_size]; simp)
        have HFIT := Lib.hid (show (⟨(splB (List.replicate sz 0) 0 (st.toList.take sz)).toArray⟩ : ByteArray) = fitB sz st from rfl)
        have HLs := Lib.hid HI.out.ls0
        go_wp2_with (first
          | ((with_reducible refine gate_op (.load 66 (.tmp 60)) rfl ?_); go_must (refine ev_loadAt 66 (.tmp 60) rfl rfl rfl rfl HRK.out Try.underlying66 rfl size66 rfl ?_))
          | ((with_reducible refine gate_op (.store 66 (.tmp 16) (.tmp 61)) rfl ?_); go_must (refine ev_store 66 (.tmp 16) (.tmp 61) rfl rfl rfl rfl rfl (bk_new _ _) size66 rfl rfl rfl ?_); intro w1 hb1 hf1; have hcx := bk_cell hb1; have hxl : wr.heap.size < w1.heap.size := bk_lt hb1; have hxn : ¬ wr.heap.size = w1.heap.size := Nat.ne_of_lt hxl; have hxn2 : ¬ w1.heap.size = wr.heap.size := Ne.symm hxn; go_must (have K1 := Lib.hid (((Fr.refl wr []).alloc _).trans hf1 (by simp)); have HW1 := Lib.hid (wat_keep HW.out K1.out); have HX1 := Lib.hid hb1; clear hb1 hf1))
          | ((with_reducible refine gate_op (.makeSlice 23 (.tmp 67) (.tmp 67)) rfl ?_); go_must (refine ev_make 23 (.tmp 67) (.tmp 67) rfl rfl rfl (z := .int .u8 0) (size := 1) (bytes := 1) Try.underlying23 (by kernel_rfl) (n := sz) rfl rfl (by omega) (by omega) (cs := bC (List.replicate sz 0)) (by rw [show (Value.int .u8 0).cells = #[Value.int .u8 0] from rfl, Nat.mul_one, made_one]; simp [bC]) ?_))
          | ((with_reducible refine gate_op (.call { callee := .builtin .copy, args := #[.tmp 69, .tmp 71], argTypes := #[23, 9] }) rfl ?_); go_must (refine ev_copyMin (.tmp 69) (.tmp 71) 23 9 rfl rfl rfl Try.underlying23 size5w rfl rfl (bk_new _ _) (by simp) ?_); intro w4 hb4 hf4; go_must (have K4 := Lib.hid (((Fr.refl w1 []).alloc _).trans hf4 (by simp)); have HW4 := Lib.hid (wat_keep HW1.out K4.out); have HB4 := Lib.hid hb4; clear hb4 hf4))
          | ((with_reducible refine gate_op (.convert 23 9 (.tmp 74)) rfl ?_); go_must (refine ev_bytes 23 9 (.tmp 74) rfl rfl rfl Try.underlying23 Try.underlying5 Try.underlying9 rfl HB4.out (splB_len (by simp) (by rw [List.length_take]; omega)) ?_; rw [HFIT.out]))
          | (go_at_call 13; refine (commit_ok _ _ _ _ _ _ _ _ _ _ _ HW4.out.pub _ HSZ.out HLs.out (by have := HBd.out; omega)).mono ?_; rintro e w5 ⟨rfl, hp5, hf5⟩; go_must (have HW5 := Lib.hid (wat_pub (q' := q) HW4.out hf5 hp5); have K5 := Lib.hid (((HFr.out.step K1.out).step K4.out).trans hf5 (wat_new HW4.out (Nat.le_refl _) (by simp))); have HB5 := Lib.hid (bk_keep HB4.out hf5 (by have a := bk_lt HW1.out.pub; simp; omega)); clear hp5 hf5))
          | (go_at_call 22; refine (last_yes _ _ _ _ _ _ _ _ _ _ _ HW5.out.pub (by have := HLs.out; omega)).mono ?_; rintro e w6 ⟨rfl, hf6⟩; go_must (have HW6 := Lib.hid (wat_keep HW5.out (hf6.alloc (.cells #[.int .u16 inc, .int .u32 (ls + 1)] 34))); have K6 := Lib.hid ((K5.out.step hf6).alloc (.cells #[.int .u16 inc, .int .u32 (ls + 1)] 34)); have HB6 := Lib.hid (bk_alloc (bk_keep HB5.out hf6 (by simp)) (.cells #[.int .u16 inc, .int .u32 (ls + 1)] 34)); clear hf6))
          | ((with_reducible refine gate_op (.load 34 (.tmp 19)) rfl ?_); go_must (refine ev_load 34 (.tmp 19) rfl rfl rfl rfl (bk_new _ _) Try.underlying34 rfl size34 rfl ?_))
          | ((with_reducible refine gate_op (.convert 23 9 (.tmp 86)) rfl ?_); go_must (refine ev_bytes 23 9 (.tmp 86) rfl rfl rfl Try.underlying23 Try.underlying5 Try.underlying9 rfl HB6.out (splB_len (by simp) (by rw [List.length_take]; omega)) ?_; rw [HFIT.out]))
          | ((with_reducible refine gate_op (.mapUpdate 63 (.tmp 84) (.tmp 85) (.tmp 87)) rfl ?_); go_must (refine ev_vput (.tmp 84) (.tmp 85) (.tmp 87) (.inl rfl) rfl rfl ⟨inc, ls + 1, fitB sz st⟩ rfl rfl rfl HW6.out.map (wi_fresh HI.out) ?_); intro wt hm7 hf7; go_must (have HWt := Lib.hid (wat_map HW6.out hf7 hm7); have HKt := Lib.hid (K6.out.trans hf7 (wat_new HW6.out (Nat.le_refl _) (by simp))); have HIt := Lib.hid (wi_commit HI.out (fitB sz st) (fitB_size sz st) (by have := HBd.out; omega) (by have := HBd.out; omega)); have HSt := HS; have HLe := HLe0; clear hm7 hf7 hcx hxl hxn hxn2 HB6 HB5 HB4 HSZ HFIT)))
        have HFnd := Lib.hid (HIt.out.uniq _ HIt.out.front)
        have HFa := Lib.hid HIt.out.fault
        have HRg := Lib.hid (HIt.out.rng _ HIt.out.front)
        have HLr := Lib.hid (show 0 ≤ li ∧ li ≤ 65535 ∧ 0 ≤ lS ∧ lS ≤ 4294967295 from HLv.out)
        obtain ⟨xf, xfi, xfs, xb, xbi, xbs, xwt, xft⟩ := x
        have e1 : (xf.toList != xf.toList) = false := by simp
        have e2 : decide (numV xfi xfs < numV li lS) = false := by simpa using HLe.out
        have e3 : ¬ numV xfi xfs < numV li lS := by simpa using HLe.out
        go_wp2_with (first
          | (go_at_call 16; refine (sfront_any h g xf xfi xfs xb xbi xbs xwt xft _ HWt.out.sub).mono ?_; rintro e u1 ⟨rfl, hv1⟩; go_must (have HK1 := Lib.hid (hv1.alloc (.cells #[.int .u16 xfi, .int .u32 xfs] 34)); have HV := Lib.hid (bk_new u1 (.cells #[.int .u16 xfi, .int .u32 xfs] 34)); have HL := Lib.hid (bk_keep HWt.out.last HK1.out (by simp)); have HM := Lib.hid (mp_keep HWt.out.map HK1.out (by simp)); have HVL := Lib.hid (show u1.heap.size ≠ L from by have a := bk_lt HWt.out.last; have b := hv1.size; omega)))
          | ((with_reducible refine gate_op (.load 34 (.tmp 24)) rfl ?_); go_must (refine ev_load 34 (.tmp 24) rfl rfl rfl rfl HV.out Try.underlying34 rfl size34 rfl ?_))
          | ((with_reducible refine gate_op (.lookup 63 (.tmp 133) (.tmp 134) true) rfl ?_); go_must (refine ev_vlook (.tmp 133) (.tmp 134) rfl rfl rfl rfl rfl HM.out HFnd.out ?_)))
        clear HM
        refine start_ (n := 14) (S := fun w' => w'.cell? ⟨u1.heap.size, 0, none⟩ = some (.int .u16 xfi) ∧ w'.cell? ⟨u1.heap.size, 1, none⟩ = some (.int .u32 xfs) ∧ w'.cell? ⟨L, 0, none⟩ = some (.int .u16 li) ∧ w'.cell? ⟨L, 1, none⟩ = some (.int .u32 lS)) (ds := []) #[false, false, false, false, false, false, false, false, false, false, false, false, false, false] (by kernel_rfl) rfl rfl ⟨(bk_cell HV.out 0).trans rfl, (bk_cell HV.out 1).trans rfl, (bk_cell HL.out 0).trans rfl, (bk_cell HL.out 1).trans rfl⟩ (fun hHeld => ?_)
        refine pure_ (i := 0) (N := some 138) (v := ?_) (a' := ?_) #[true, false, false, false, false, false, false, false, false, false, false, false, false, false] rfl rfl (by kernel_rfl) (fun _ _ _ h => h) (Or.inl ⟨by rfl, ?_⟩) ?_ ?_
        rotate_left
        · intro w'
          go_simp
          with_reducible rfl
        rotate_left
        · simp only [Act.put, List.setIfInBounds_toArray, List.set_cons_zero, List.set_cons_succ, i64_w, i32_w]
          rfl
        refine pure_ (i := 1) (N := some 139) (v := ?_) (a' := ?_) #[true, true, false, false, false, false, false, false, false, false, false, false, false, false] rfl rfl (by kernel_rfl) (fun _ _ _ h => h) (Or.inl ⟨by rfl, ?_⟩) ?_ ?_
        rotate_left
        · intro w'
          go_simp
          with_reducible rfl
        rotate_left
        · simp only [Act.put, List.setIfInBounds_toArray, List.set_cons_zero, List.set_cons_succ, i64_w, i32_w]
          rfl
        refine pure_ (i := 2) (N := some 140) (v := ?_) (a' := ?_) #[true, true, true, false, false, false, false, false, false, false, false, false, false, false] rfl rfl (by kernel_rfl) (fun _ _ _ h => h) (Or.inl ⟨by rfl, ?_⟩) ?_ ?_
        rotate_left
        · intro w'
          go_simp
          with_reducible rfl
        rotate_left
        · simp only [Act.put, List.setIfInBounds_toArray, List.set_cons_zero, List.set_cons_succ, i64_w, i32_w]
          rfl
        refine pure_ (i := 3) (N := some 141) (v := ?_) (a' := ?_) #[true, true, true, true, false, false, false, false, false, false, false, false, false, false] rfl rfl (by kernel_rfl) (fun _ _ _ h => h) (Or.inl ⟨by rfl, ?_⟩) ?_ ?_
        rotate_left
        · intro w'
          go_simp
          with_reducible rfl
        rotate_left
        · simp only [Act.put, List.setIfInBounds_toArray, List.set_cons_zero, List.set_cons_succ, i64_w, i32_w]
          rfl
        refine pure_ (i := 4) (N := some 142) (v := ?_) (a' := ?_) #[true, true, true, true, true, false, false, false, false, false, false, false, false, false] rfl rfl (by kernel_rfl) (fun _ _ _ h => h) (Or.inl ⟨by rfl, ?_⟩) ?_ ?_
        rotate_left
        · intro w'
          go_simp
          with_reducible rfl
        rotate_left
        · simp only [Act.put, List.setIfInBounds_toArray, List.set_cons_zero, List.set_cons_succ, i64_w, i32_w]
          rfl
        refine pure_ (i := 5) (N := some 143) (v := ?_) (a' := ?_) #[true, true, true, true, true, true, false, false, false, false, false, false, false, false] rfl rfl (by kernel_rfl) (fun _ _ _ h => h) (Or.inl ⟨by rfl, ?_⟩) ?_ ?_
        rotate_left
        · intro w'
          go_simp
          with_reducible rfl
        rotate_left
        · simp only [Act.put, List.setIfInBounds_toArray, List.set_cons_zero, List.set_cons_succ, i64_w, i32_w]
          rfl
        refine pure_ (i := 6) (N := some 144) (v := ?_) (a' := ?_) #[true, true, true, true, true, true, true, false, false, false, false, false, false, false] rfl rfl (by kernel_rfl) (fun _ _ _ h => h) (Or.inl ⟨by rfl, ?_⟩) ?_ ?_
        rotate_left
        · intro w'
          go_simp
          with_reducible rfl
        rotate_left
        · simp only [Act.put, List.setIfInBounds_toArray, List.set_cons_zero, List.set_cons_succ, i64_w, i32_w]
          rfl
        refine pure_ (i := 7) (N := some 145) (v := ?_) (a' := ?_) #[true, true, true, true, true, true, true, true, false, false, false, false, false, false] rfl rfl (by kernel_rfl) (fun _ _ _ h => h) (Or.inl ⟨by rfl, ?_⟩) ?_ ?_
        rotate_left
        · intro w'
          go_simp
          with_reducible rfl
        rotate_left
        · simp only [Act.put, List.setIfInBounds_toArray, List.set_cons_zero, List.set_cons_succ, i64_w, i32_w]
          rfl
        refine take_ (i := 8) (N := some 146) (v := ?_) (a' := ?_) #[true, true, true, true, true, true, true, true, true, false, false, false, false, false] rfl rfl (by kernel_rfl) (fun _ _ _ h => h) (Or.inl ⟨by rfl, ?_⟩) hHeld ?_ ?_
        rotate_left
        · rintro w' ⟨s0, s1, s2, s3⟩
          go_simp
          with_reducible rfl
        rotate_left
        · simp only [Act.put, List.setIfInBounds_toArray, List.set_cons_zero, List.set_cons_succ, i64_w, i32_w]
          rfl
        refine take_ (i := 10) (N := some 148) (v := ?_) (a' := ?_) #[true, true, true, true, true, true, true, true, true, false, true, false, false, false] rfl rfl (by kernel_rfl) (fun _ _ _ h => h) (Or.inl ⟨by rfl, ?_⟩) hHeld ?_ ?_
        rotate_left
        · rintro w' ⟨s0, s1, s2, s3⟩
          go_simp
          with_reducible rfl
        rotate_left
        · simp only [Act.put, List.setIfInBounds_toArray, List.set_cons_zero, List.set_cons_succ, i64_w, i32_w]
          rfl
        refine one_ (i := 9) (N := some 147) #[true, true, true, true, true, true, true, true, true, true, true, false, false, false] rfl rfl (by kernel_rfl) (by decide) (fun K hK => ?_)
        refine goes_ Try.func23 (by kernel_rfl) rfl #[.agg #[.int .u16 xfi, .int .u32 xfs]] (by rfl) rfl rfl (by simp only [List.map_toArray, List.map_cons, List.map_nil]; rfl) ?_
        with_reducible refine (number_any _ _ HRg.out.1 HRg.out.2.1 HRg.out.2.2.1 HRg.out.2.2.2 _).mono ?_
        rintro e u2 ⟨rfl, hfq⟩
        refine ⟨_, rfl, ?_⟩
        have HV := Lib.hid (Fr.at hfq HV.out (by simp))
        have HL := Lib.hid (Fr.at hfq HL.out (by simp))
        have HK1 := Lib.hid (Fr.via (S := []) hfq HK1.out rfl rfl rfl rfl (by simp))
        clear hfq
        refine hK.out _ _ ⟨(bk_cell HV.out 0).trans rfl, (bk_cell HV.out 1).trans rfl, (bk_cell HL.out 0).trans rfl, (bk_cell HL.out 1).trans rfl⟩ (fun hHeld => ?_)
        clear hK K
        refine norm_ (a' := ?_) ?_ ?_
        rotate_left
        · show Act.put _ (some 147) _ = _
          simp only [Act.put, List.setIfInBounds_toArray, List.set_cons_zero, List.set_cons_succ, i64_w, i32_w]
          rfl
        refine one_ (i := 11) (N := some 149) #[true, true, true, true, true, true, true, true, true, true, true, true, false, false] rfl rfl (by kernel_rfl) (by decide) (fun K hK => ?_)
        refine goes_ Try.func23 (by kernel_rfl) rfl #[.agg #[.int .u16 li, .int .u32 lS]] (by rfl) rfl rfl (by simp only [List.map_toArray, List.map_cons, List.map_nil]; rfl) ?_
        with_reducible refine (number_any _ _ HLr.out.1 HLr.out.2.1 HLr.out.2.2.1 HLr.out.2.2.2 _).mono ?_
        rintro e u3 ⟨rfl, hfq⟩
        refine ⟨_, rfl, ?_⟩
        have HV := Lib.hid (Fr.at hfq HV.out (by simp))
        have HL := Lib.hid (Fr.at hfq HL.out (by simp))
        have HK1 := Lib.hid (Fr.via (S := []) hfq HK1.out rfl rfl rfl rfl (by simp))
        clear hfq
        refine hK.out _ _ ⟨(bk_cell HV.out 0).trans rfl, (bk_cell HV.out 1).trans rfl, (bk_cell HL.out 0).trans rfl, (bk_cell HL.out 1).trans rfl⟩ (fun hHeld => ?_)
        clear hK K
        refine norm_ (a' := ?_) ?_ ?_
        rotate_left
        · show Act.put _ (some 149) _ = _
          simp only [Act.put, List.setIfInBounds_toArray, List.set_cons_zero, List.set_cons_succ, i64_w, i32_w]
          rfl
        refine pure_ (i := 12) (N := some 150) (v := ?_) (a' := ?_) #[true, true, true, true, true, true, true, true, true, true, true, true, true, false] rfl rfl (by kernel_rfl) (fun _ _ _ h => h) (Or.inl ⟨by rfl, ?_⟩) ?_ ?_
        rotate_left
        · intro w'
          go_simp
          with_reducible rfl
        rotate_left
        · simp only [Act.put, List.setIfInBounds_toArray, List.set_cons_zero, List.set_cons_succ, i64_w, i32_w]
          rfl
        refine pure_ (i := 13) (N := some 151) (v := ?_) (a' := ?_) #[true, true, true, true, true, true, true, true, true, true, true, true, true, true] rfl rfl (by kernel_rfl) (fun _ _ _ h => h) (Or.inl ⟨by rfl, ?_⟩) ?_ ?_
        rotate_left
        · intro w'
          go_simp
          with_reducible rfl
        rotate_left
        · simp only [Act.put, List.setIfInBounds_toArray, List.set_cons_zero, List.set_cons_succ, i64_w, i32_w]
          rfl
        refine done_ (by kernel_rfl) ?_
        clear hHeld
        have HV := HV
        have HL := HL
        go_wp2_with (first
          | ((with_reducible refine gate_op (.load 34 (.tmp 24)) rfl ?_); go_must (refine ev_load 34 (.tmp 24) rfl rfl rfl rfl HV.out Try.underlying34 rfl size34 rfl ?_))
          | ((with_reducible refine gate_op (.store 34 (.tmp 12) (.tmp 152)) rfl ?_); go_must (refine ev_store 34 (.tmp 12) (.tmp 152) rfl rfl rfl rfl rfl HL.out size34 rfl rfl rfl ?_); intro u5 hb5 hf5))
        go_roundg (gk - 1)
        case measure => have := HK.out; omega
        case rel => exact ⟨k + 1, P, inc, (ls + 1), (fitB sz st), q, ⟨xf, xfi, xfs, xb, xbi, xbs, xwt, xft⟩, s, r, (M ++ [⟨inc, ls + 1, fitB sz st⟩]), wn, Lib.hid (by have := HK.out; omega), by omega, rfl, rfl, by go_num, Lib.hid (wat_last (wat_keep HWt.out HK1.out) hf5 hb5), HIt, HSt, Lib.hid (by have := HBd.out; omega), Lib.hid ((HKt.out.trans HK1.out (by simp)).trans hf5 (wat_new HWt.out (Nat.le_refl _) (by simp)))⟩
      · rcases (show ls ≤ 0 ∨ 0 < ls by omega) with hz | hz
        ·
          go_wp2_with (first
            | ((with_reducible refine gate_op (.load 66 (.tmp 60)) rfl ?_); go_must (refine ev_loadAt 66 (.tmp 60) rfl rfl rfl rfl HRK.out Try.underlying66 rfl size66 rfl ?_))
            | ((with_reducible refine gate_op (.store 66 (.tmp 16) (.tmp 61)) rfl ?_); go_must (refine ev_store 66 (.tmp 16) (.tmp 61) rfl rfl rfl rfl rfl (bk_new _ _) size66 rfl rfl rfl ?_); intro w1 hb1 hf1; have hcx := bk_cell hb1; have hxl : wr.heap.size < w1.heap.size := bk_lt hb1; have hxn : ¬ wr.heap.size = w1.heap.size := Nat.ne_of_lt hxl; have hxn2 : ¬ w1.heap.size = wr.heap.size := Ne.symm hxn; go_must (have K1 := Lib.hid (((Fr.refl wr []).alloc _).trans hf1 (by simp)); have HW1 := Lib.hid (wat_keep HW.out K1.out); have HX1 := Lib.hid hb1; clear hb1 hf1))
            | (go_at_call 11; refine (next_none _ _ _ _ _ _ _ _ _ _ _ HW1.out.pub hz).mono ?_; rintro e w3 ⟨rfl, hf3⟩)
            | ((with_reducible refine gate_op (.store 36 (.tmp 21) (.tmp 93)) rfl ?_); go_must (refine ev_store 36 (.tmp 21) (.tmp 93) rfl rfl rfl rfl rfl (bk_new _ _) size36 rfl rfl rfl ?_); intro wt hb4 hf4; go_must (have K4 := Lib.hid ((hf3.alloc _).trans hf4 (by have h3 := hf3.size; simp; omega)); have HWt := Lib.hid (wat_keep HW1.out K4.out); have HKt := Lib.hid ((HFr.out.step K1.out).step K4.out); have HIt := HI; have HSt := HS; have HLe := HLe0; clear hb4 hf4 hf3 hcx hxl hxn hxn2)))
          have HFnd := Lib.hid (HIt.out.uniq _ HIt.out.front)
          have HFa := Lib.hid HIt.out.fault
          have HRg := Lib.hid (HIt.out.rng _ HIt.out.front)
          have HLr := Lib.hid (show 0 ≤ li ∧ li ≤ 65535 ∧ 0 ≤ lS ∧ lS ≤ 4294967295 from HLv.out)
          obtain ⟨xf, xfi, xfs, xb, xbi, xbs, xwt, xft⟩ := x
          have e1 : (xf.toList != xf.toList) = false := by simp
          have e2 : decide (numV xfi xfs < numV li lS) = false := by simpa using HLe.out
          have e3 : ¬ numV xfi xfs < numV li lS := by simpa using HLe.out
          go_wp2_with (first
            | (go_at_call 16; refine (sfront_any h g xf xfi xfs xb xbi xbs xwt xft _ HWt.out.sub).mono ?_; rintro e u1 ⟨rfl, hv1⟩; go_must (have HK1 := Lib.hid (hv1.alloc (.cells #[.int .u16 xfi, .int .u32 xfs] 34)); have HV := Lib.hid (bk_new u1 (.cells #[.int .u16 xfi, .int .u32 xfs] 34)); have HL := Lib.hid (bk_keep HWt.out.last HK1.out (by simp)); have HM := Lib.hid (mp_keep HWt.out.map HK1.out (by simp)); have HVL := Lib.hid (show u1.heap.size ≠ L from by have a := bk_lt HWt.out.last; have b := hv1.size; omega)))
            | ((with_reducible refine gate_op (.load 34 (.tmp 24)) rfl ?_); go_must (refine ev_load 34 (.tmp 24) rfl rfl rfl rfl HV.out Try.underlying34 rfl size34 rfl ?_))
            | ((with_reducible refine gate_op (.lookup 63 (.tmp 133) (.tmp 134) true) rfl ?_); go_must (refine ev_vlook (.tmp 133) (.tmp 134) rfl rfl rfl rfl rfl HM.out HFnd.out ?_)))
          clear HM
          refine start_ (n := 14) (S := fun w' => w'.cell? ⟨u1.heap.size, 0, none⟩ = some (.int .u16 xfi) ∧ w'.cell? ⟨u1.heap.size, 1, none⟩ = some (.int .u32 xfs) ∧ w'.cell? ⟨L, 0, none⟩ = some (.int .u16 li) ∧ w'.cell? ⟨L, 1, none⟩ = some (.int .u32 lS)) (ds := []) #[false, false, false, false, false, false, false, false, false, false, false, false, false, false] (by kernel_rfl) rfl rfl ⟨(bk_cell HV.out 0).trans rfl, (bk_cell HV.out 1).trans rfl, (bk_cell HL.out 0).trans rfl, (bk_cell HL.out 1).trans rfl⟩ (fun hHeld => ?_)
          refine pure_ (i := 0) (N := some 138) (v := ?_) (a' := ?_) #[true, false, false, false, false, false, false, false, false, false, false, false, false, false] rfl rfl (by kernel_rfl) (fun _ _ _ h => h) (Or.inl ⟨by rfl, ?_⟩) ?_ ?_
          rotate_left
          · intro w'
            go_simp
            with_reducible rfl
          rotate_left
          · simp only [Act.put, List.setIfInBounds_toArray, List.set_cons_zero, List.set_cons_succ, i64_w, i32_w]
            rfl
          refine pure_ (i := 1) (N := some 139) (v := ?_) (a' := ?_) #[true, true, false, false, false, false, false, false, false, false, false, false, false, false] rfl rfl (by kernel_rfl) (fun _ _ _ h => h) (Or.inl ⟨by rfl, ?_⟩) ?_ ?_
          rotate_left
          · intro w'
            go_simp
            with_reducible rfl
          rotate_left
          · simp only [Act.put, List.setIfInBounds_toArray, List.set_cons_zero, List.set_cons_succ, i64_w, i32_w]
            rfl
          refine pure_ (i := 2) (N := some 140) (v := ?_) (a' := ?_) #[true, true, true, false, false, false, false, false, false, false, false, false, false, false] rfl rfl (by kernel_rfl) (fun _ _ _ h => h) (Or.inl ⟨by rfl, ?_⟩) ?_ ?_
          rotate_left
          · intro w'
            go_simp
            with_reducible rfl
          rotate_left
          · simp only [Act.put, List.setIfInBounds_toArray, List.set_cons_zero, List.set_cons_succ, i64_w, i32_w]
            rfl
          refine pure_ (i := 3) (N := some 141) (v := ?_) (a' := ?_) #[true, true, true, true, false, false, false, false, false, false, false, false, false, false] rfl rfl (by kernel_rfl) (fun _ _ _ h => h) (Or.inl ⟨by rfl, ?_⟩) ?_ ?_
          rotate_left
          · intro w'
            go_simp
            with_reducible rfl
          rotate_left
          · simp only [Act.put, List.setIfInBounds_toArray, List.set_cons_zero, List.set_cons_succ, i64_w, i32_w]
            rfl
          refine pure_ (i := 4) (N := some 142) (v := ?_) (a' := ?_) #[true, true, true, true, true, false, false, false, false, false, false, false, false, false] rfl rfl (by kernel_rfl) (fun _ _ _ h => h) (Or.inl ⟨by rfl, ?_⟩) ?_ ?_
          rotate_left
          · intro w'
            go_simp
            with_reducible rfl
          rotate_left
          · simp only [Act.put, List.setIfInBounds_toArray, List.set_cons_zero, List.set_cons_succ, i64_w, i32_w]
            rfl
          refine pure_ (i := 5) (N := some 143) (v := ?_) (a' := ?_) #[true, true, true, true, true, true, false, false, false, false, false, false, false, false] rfl rfl (by kernel_rfl) (fun _ _ _ h => h) (Or.inl ⟨by rfl, ?_⟩) ?_ ?_
          rotate_left
          · intro w'
            go_simp
            with_reducible rfl
          rotate_left
          · simp only [Act.put, List.setIfInBounds_toArray, List.set_cons_zero, List.set_cons_succ, i64_w, i32_w]
            rfl
          refine pure_ (i := 6) (N := some 144) (v := ?_) (a' := ?_) #[true, true, true, true, true, true, true, false, false, false, false, false, false, false] rfl rfl (by kernel_rfl) (fun _ _ _ h => h) (Or.inl ⟨by rfl, ?_⟩) ?_ ?_
          rotate_left
          · intro w'
            go_simp
            with_reducible rfl
          rotate_left
          · simp only [Act.put, List.setIfInBounds_toArray, List.set_cons_zero, List.set_cons_succ, i64_w, i32_w]
            rfl
          refine pure_ (i := 7) (N := some 145) (v := ?_) (a' := ?_) #[true, true, true, true, true, true, true, true, false, false, false, false, false, false] rfl rfl (by kernel_rfl) (fun _ _ _ h => h) (Or.inl ⟨by rfl, ?_⟩) ?_ ?_
          rotate_left
          · intro w'
            go_simp
            with_reducible rfl
          rotate_left
          · simp only [Act.put, List.setIfInBounds_toArray, List.set_cons_zero, List.set_cons_succ, i64_w, i32_w]
            rfl
          refine take_ (i := 8) (N := some 146) (v := ?_) (a' := ?_) #[true, true, true, true, true, true, true, true, true, false, false, false, false, false] rfl rfl (by kernel_rfl) (fun _ _ _ h => h) (Or.inl ⟨by rfl, ?_⟩) hHeld ?_ ?_
          rotate_left
          · rintro w' ⟨s0, s1, s2, s3⟩
            go_simp
            with_reducible rfl
          rotate_left
          · simp only [Act.put, List.setIfInBounds_toArray, List.set_cons_zero, List.set_cons_succ, i64_w, i32_w]
            rfl
          refine take_ (i := 10) (N := some 148) (v := ?_) (a' := ?_) #[true, true, true, true, true, true, true, true, true, false, true, false, false, false] rfl rfl (by kernel_rfl) (fun _ _ _ h => h) (Or.inl ⟨by rfl, ?_⟩) hHeld ?_ ?_
          rotate_left
          · rintro w' ⟨s0, s1, s2, s3⟩
            go_simp
            with_reducible rfl
          rotate_left
          · simp only [Act.put, List.setIfInBounds_toArray, List.set_cons_zero, List.set_cons_succ, i64_w, i32_w]
            rfl
          refine one_ (i := 9) (N := some 147) #[true, true, true, true, true, true, true, true, true, true, true, false, false, false] rfl rfl (by kernel_rfl) (by decide) (fun K hK => ?_)
          refine goes_ Try.func23 (by kernel_rfl) rfl #[.agg #[.int .u16 xfi, .int .u32 xfs]] (by rfl) rfl rfl (by simp only [List.map_toArray, List.map_cons, List.map_nil]; rfl) ?_
          with_reducible refine (number_any _ _ HRg.out.1 HRg.out.2.1 HRg.out.2.2.1 HRg.out.2.2.2 _).mono ?_
          rintro e u2 ⟨rfl, hfq⟩
          refine ⟨_, rfl, ?_⟩
          have HV := Lib.hid (Fr.at hfq HV.out (by simp))
          have HL := Lib.hid (Fr.at hfq HL.out (by simp))
          have HK1 := Lib.hid (Fr.via (S := []) hfq HK1.out rfl rfl rfl rfl (by simp))
          clear hfq
          refine hK.out _ _ ⟨(bk_cell HV.out 0).trans rfl, (bk_cell HV.out 1).trans rfl, (bk_cell HL.out 0).trans rfl, (bk_cell HL.out 1).trans rfl⟩ (fun hHeld => ?_)
          clear hK K
          refine norm_ (a' := ?_) ?_ ?_
          rotate_left
          · show Act.put _ (some 147) _ = _
            simp only [Act.put, List.setIfInBounds_toArray, List.set_cons_zero, List.set_cons_succ, i64_w, i32_w]
            rfl
          refine one_ (i := 11) (N := some 149) #[true, true, true, true, true, true, true, true, true, true, true, true, false, false] rfl rfl (by kernel_rfl) (by decide) (fun K hK => ?_)
          refine goes_ Try.func23 (by kernel_rfl) rfl #[.agg #[.int .u16 li, .int .u32 lS]] (by rfl) rfl rfl (by simp only [List.map_toArray, List.map_cons, List.map_nil]; rfl) ?_
          with_reducible refine (number_any _ _ HLr.out.1 HLr.out.2.1 HLr.out.2.2.1 HLr.out.2.2.2 _).mono ?_
          rintro e u3 ⟨rfl, hfq⟩
          refine ⟨_, rfl, ?_⟩
          have HV := Lib.hid (Fr.at hfq HV.out (by simp))
          have HL := Lib.hid (Fr.at hfq HL.out (by simp))
          have HK1 := Lib.hid (Fr.via (S := []) hfq HK1.out rfl rfl rfl rfl (by simp))
          clear hfq
          refine hK.out _ _ ⟨(bk_cell HV.out 0).trans rfl, (bk_cell HV.out 1).trans rfl, (bk_cell HL.out 0).trans rfl, (bk_cell HL.out 1).trans rfl⟩ (fun hHeld => ?_)
          clear hK K
          refine norm_ (a' := ?_) ?_ ?_
          rotate_left
          · show Act.put _ (some 149) _ = _
            simp only [Act.put, List.setIfInBounds_toArray, List.set_cons_zero, List.set_cons_succ, i64_w, i32_w]
            rfl
          refine pure_ (i := 12) (N := some 150) (v := ?_) (a' := ?_) #[true, true, true, true, true, true, true, true, true, true, true, true, true, false] rfl rfl (by kernel_rfl) (fun _ _ _ h => h) (Or.inl ⟨by rfl, ?_⟩) ?_ ?_
          rotate_left
          · intro w'
            go_simp
            with_reducible rfl
          rotate_left
          · simp only [Act.put, List.setIfInBounds_toArray, List.set_cons_zero, List.set_cons_succ, i64_w, i32_w]
            rfl
          refine pure_ (i := 13) (N := some 151) (v := ?_) (a' := ?_) #[true, true, true, true, true, true, true, true, true, true, true, true, true, true] rfl rfl (by kernel_rfl) (fun _ _ _ h => h) (Or.inl ⟨by rfl, ?_⟩) ?_ ?_
          rotate_left
          · intro w'
            go_simp
            with_reducible rfl
          rotate_left
          · simp only [Act.put, List.setIfInBounds_toArray, List.set_cons_zero, List.set_cons_succ, i64_w, i32_w]
            rfl
          refine done_ (by kernel_rfl) ?_
          clear hHeld
          have HV := HV
          have HL := HL
          go_wp2_with (first
            | ((with_reducible refine gate_op (.load 34 (.tmp 24)) rfl ?_); go_must (refine ev_load 34 (.tmp 24) rfl rfl rfl rfl HV.out Try.underlying34 rfl size34 rfl ?_))
            | ((with_reducible refine gate_op (.store 34 (.tmp 12) (.tmp 152)) rfl ?_); go_must (refine ev_store 34 (.tmp 12) (.tmp 152) rfl rfl rfl rfl rfl HL.out size34 rfl rfl rfl ?_); intro u5 hb5 hf5))
          go_roundg (gk - 1)
          case measure => have := HK.out; omega
          case rel => exact ⟨k + 1, P, inc, ls, lv, q, ⟨xf, xfi, xfs, xb, xbi, xbs, xwt, xft⟩, s, r, M, wn, Lib.hid (by have := HK.out; omega), by omega, rfl, rfl, by go_num, Lib.hid (wat_last (wat_keep HWt.out HK1.out) hf5 hb5), HIt, HSt, Lib.hid (by have := HBd.out; omega), Lib.hid ((HKt.out.trans HK1.out (by simp)).trans hf5 (wat_new HWt.out (Nat.le_refl _) (by simp)))⟩
        · have HIn := Lib.hid (wi_next HI.out hz h1)
          obtain ⟨q1, hq1⟩ : ∃ q1, q1 = nextW sz lv inc ls q := ⟨_, rfl⟩
          have HNx := Lib.hid (fun (W : World) (hp : W.heap[P]? = some (.cells #[.int .i64 sz, .string lv, .int .u16 inc, .int .u32 ls, .string q.wv, .int .u16 q.wi, .int .u32 q.ws, .int .i64 q.nx, .int .i64 q.m] 80 (0, 0))) => nextW_wi P W HI.out hz h1 h2 hp)
          rw [← hq1] at HIn HNx
          obtain ⟨en, hen⟩ : ∃ en : VE × Nat, en = (⟨q1.wi, q1.ws, q1.wv⟩, q1.nx - 1) := ⟨_, rfl⟩
          rw [← hen] at HIn HNx
          clear hq1 hen
          go_wp2_with (first
            | ((with_reducible refine gate_op (.load 66 (.tmp 60)) rfl ?_); go_must (refine ev_loadAt 66 (.tmp 60) rfl rfl rfl rfl HRK.out Try.underlying66 rfl size66 rfl ?_))
            | ((with_reducible refine gate_op (.store 66 (.tmp 16) (.tmp 61)) rfl ?_); go_must (refine ev_store 66 (.tmp 16) (.tmp 61) rfl rfl rfl rfl rfl (bk_new _ _) size66 rfl rfl rfl ?_); intro w1 hb1 hf1; have hcx := bk_cell hb1; have hxl : wr.heap.size < w1.heap.size := bk_lt hb1; have hxn : ¬ wr.heap.size = w1.heap.size := Nat.ne_of_lt hxl; have hxn2 : ¬ w1.heap.size = wr.heap.size := Ne.symm hxn; go_must (have K1 := Lib.hid (((Fr.refl wr []).alloc _).trans hf1 (by simp)); have HW1 := Lib.hid (wat_keep HW.out K1.out); have HX1 := Lib.hid hb1; clear hb1 hf1))
            | (go_at_call 11; refine (HNx.out _ HW1.out.pub).mono ?_; rintro e w3 ⟨rfl, hp3, hf3⟩; go_must (have HW3 := Lib.hid (wat_pub HW1.out hf3 hp3); have K3 := Lib.hid ((HFr.out.step K1.out).trans hf3 (wat_new HW1.out (Nat.le_refl _) (by simp))); clear hf3 hp3))
            | ((with_reducible refine gate_op (.store 36 (.tmp 21) (.tmp 93)) rfl ?_); go_must (refine ev_store 36 (.tmp 21) (.tmp 93) rfl rfl rfl rfl rfl (bk_new _ _) size36 rfl rfl rfl ?_); intro w4 hb4 hf4; go_must (have E4 := Lib.hid (((Fr.refl w3 []).alloc _).trans hf4 (by simp)); have HW4 := Lib.hid (wat_keep HW3.out (E4.out.alloc (.cells (wnR sz en).toArray 36))); have K4 := Lib.hid ((K3.out.step E4.out).alloc (.cells (wnR sz en).toArray 36)); clear hf4))
            | ((with_reducible refine gate_op (.load 36 (.tmp 21)) rfl ?_); go_must (refine ev_load 36 (.tmp 21) rfl rfl rfl rfl hb4 Try.underlying36 rfl size36 rfl ?_))
            | ((with_reducible refine gate_op (.buildSlice 64 1 #[(0, .tmp 97)]) rfl ?_); go_must (refine ev_build1 64 (.tmp 97) rfl rfl rfl Try.underlying64 infoF2 rfl (by decide) (by decide) rfl rfl rfl ?_))
            | ((with_reducible refine gate_op (.call { callee := .builtin .append, args := #[.tmp 96, .tmp 98], argTypes := #[64, 64] }) rfl ?_); go_must (refine ev_append rfl (.tmp 96) (.tmp 98) 64 rfl rfl w.heap.size 36 (.agg #[.int .i64 0, .int .u8 0, .int .u8 0, .int .u16 0, .int .u16 0, .int .u16 0, .int .u8 0, .int .u16 0, .int .u16 0, .int .u16 0, .int .u8 0, .int .u16 0, .bool false, .int .u8 0, .int .u16 0, .int .u32 0, .int .u8 0, .int .u8 0, .string ⟨#[]⟩]) 19 64 Try.underlying64 infoF rfl (by decide) rfl HW4.out.row (news := wnR sz en) rfl rfl (cells_new _ _ _) rfl (by have := HBd.out; unfold maxLen; omega) (by have := HBd.out; omega) (by have a := K4.out.size; exact a) ?_); intro xw1 wt ho hg; go_must (have HWt := Lib.hid (wat_row (wn' := wn ++ [en]) HW4.out hg (by rw [wnL_snoc, List.length_append]; exact ho)); have HKt := Lib.hid (K4.out.grown hg (wat_own HW4.out (Nat.le_refl _))); have HIt := HIn; have HSt := HS; have HLe := HLe0; clear hb4 ho hg hcx hxl hxn hxn2)))
          have HFnd := Lib.hid (HIt.out.uniq _ HIt.out.front)
          have HFa := Lib.hid HIt.out.fault
          have HRg := Lib.hid (HIt.out.rng _ HIt.out.front)
          have HLr := Lib.hid (show 0 ≤ li ∧ li ≤ 65535 ∧ 0 ≤ lS ∧ lS ≤ 4294967295 from HLv.out)
          obtain ⟨xf, xfi, xfs, xb, xbi, xbs, xwt, xft⟩ := x
          have e1 : (xf.toList != xf.toList) = false := by simp
          have e2 : decide (numV xfi xfs < numV li lS) = false := by simpa using HLe.out
          have e3 : ¬ numV xfi xfs < numV li lS := by simpa using HLe.out
          go_wp2_with (first
            | (go_at_call 16; refine (sfront_any h g xf xfi xfs xb xbi xbs xwt xft _ HWt.out.sub).mono ?_; rintro e u1 ⟨rfl, hv1⟩; go_must (have HK1 := Lib.hid (hv1.alloc (.cells #[.int .u16 xfi, .int .u32 xfs] 34)); have HV := Lib.hid (bk_new u1 (.cells #[.int .u16 xfi, .int .u32 xfs] 34)); have HL := Lib.hid (bk_keep HWt.out.last HK1.out (by simp)); have HM := Lib.hid (mp_keep HWt.out.map HK1.out (by simp)); have HVL := Lib.hid (show u1.heap.size ≠ L from by have a := bk_lt HWt.out.last; have b := hv1.size; omega)))
            | ((with_reducible refine gate_op (.load 34 (.tmp 24)) rfl ?_); go_must (refine ev_load 34 (.tmp 24) rfl rfl rfl rfl HV.out Try.underlying34 rfl size34 rfl ?_))
            | ((with_reducible refine gate_op (.lookup 63 (.tmp 133) (.tmp 134) true) rfl ?_); go_must (refine ev_vlook (.tmp 133) (.tmp 134) rfl rfl rfl rfl rfl HM.out HFnd.out ?_)))
          clear HM
          refine start_ (n := 14) (S := fun w' => w'.cell? ⟨u1.heap.size, 0, none⟩ = some (.int .u16 xfi) ∧ w'.cell? ⟨u1.heap.size, 1, none⟩ = some (.int .u32 xfs) ∧ w'.cell? ⟨L, 0, none⟩ = some (.int .u16 li) ∧ w'.cell? ⟨L, 1, none⟩ = some (.int .u32 lS)) (ds := []) #[false, false, false, false, false, false, false, false, false, false, false, false, false, false] (by kernel_rfl) rfl rfl ⟨(bk_cell HV.out 0).trans rfl, (bk_cell HV.out 1).trans rfl, (bk_cell HL.out 0).trans rfl, (bk_cell HL.out 1).trans rfl⟩ (fun hHeld => ?_)
          refine pure_ (i := 0) (N := some 138) (v := ?_) (a' := ?_) #[true, false, false, false, false, false, false, false, false, false, false, false, false, false] rfl rfl (by kernel_rfl) (fun _ _ _ h => h) (Or.inl ⟨by rfl, ?_⟩) ?_ ?_
          rotate_left
          · intro w'
            go_simp
            with_reducible rfl
          rotate_left
          · simp only [Act.put, List.setIfInBounds_toArray, List.set_cons_zero, List.set_cons_succ, i64_w, i32_w]
            rfl
          refine pure_ (i := 1) (N := some 139) (v := ?_) (a' := ?_) #[true, true, false, false, false, false, false, false, false, false, false, false, false, false] rfl rfl (by kernel_rfl) (fun _ _ _ h => h) (Or.inl ⟨by rfl, ?_⟩) ?_ ?_
          rotate_left
          · intro w'
            go_simp
            with_reducible rfl
          rotate_left
          · simp only [Act.put, List.setIfInBounds_toArray, List.set_cons_zero, List.set_cons_succ, i64_w, i32_w]
            rfl
          refine pure_ (i := 2) (N := some 140) (v := ?_) (a' := ?_) #[true, true, true, false, false, false, false, false, false, false, false, false, false, false] rfl rfl (by kernel_rfl) (fun _ _ _ h => h) (Or.inl ⟨by rfl, ?_⟩) ?_ ?_
          rotate_left
          · intro w'
            go_simp
            with_reducible rfl
          rotate_left
          · simp only [Act.put, List.setIfInBounds_toArray, List.set_cons_zero, List.set_cons_succ, i64_w, i32_w]
            rfl
          refine pure_ (i := 3) (N := some 141) (v := ?_) (a' := ?_) #[true, true, true, true, false, false, false, false, false, false, false, false, false, false] rfl rfl (by kernel_rfl) (fun _ _ _ h => h) (Or.inl ⟨by rfl, ?_⟩) ?_ ?_
          rotate_left
          · intro w'
            go_simp
            with_reducible rfl
          rotate_left
          · simp only [Act.put, List.setIfInBounds_toArray, List.set_cons_zero, List.set_cons_succ, i64_w, i32_w]
            rfl
          refine pure_ (i := 4) (N := some 142) (v := ?_) (a' := ?_) #[true, true, true, true, true, false, false, false, false, false, false, false, false, false] rfl rfl (by kernel_rfl) (fun _ _ _ h => h) (Or.inl ⟨by rfl, ?_⟩) ?_ ?_
          rotate_left
          · intro w'
            go_simp
            with_reducible rfl
          rotate_left
          · simp only [Act.put, List.setIfInBounds_toArray, List.set_cons_zero, List.set_cons_succ, i64_w, i32_w]
            rfl
          refine pure_ (i := 5) (N := some 143) (v := ?_) (a' := ?_) #[true, true, true, true, true, true, false, false, false, false, false, false, false, false] rfl rfl (by kernel_rfl) (fun _ _ _ h => h) (Or.inl ⟨by rfl, ?_⟩) ?_ ?_
          rotate_left
          · intro w'
            go_simp
            with_reducible rfl
          rotate_left
          · simp only [Act.put, List.setIfInBounds_toArray, List.set_cons_zero, List.set_cons_succ, i64_w, i32_w]
            rfl
          refine pure_ (i := 6) (N := some 144) (v := ?_) (a' := ?_) #[true, true, true, true, true, true, true, false, false, false, false, false, false, false] rfl rfl (by kernel_rfl) (fun _ _ _ h => h) (Or.inl ⟨by rfl, ?_⟩) ?_ ?_
          rotate_left
          · intro w'
            go_simp
            with_reducible rfl
          rotate_left
          · simp only [Act.put, List.setIfInBounds_toArray, List.set_cons_zero, List.set_cons_succ, i64_w, i32_w]
            rfl
          refine pure_ (i := 7) (N := some 145) (v := ?_) (a' := ?_) #[true, true, true, true, true, true, true, true, false, false, false, false, false, false] rfl rfl (by kernel_rfl) (fun _ _ _ h => h) (Or.inl ⟨by rfl, ?_⟩) ?_ ?_
          rotate_left
          · intro w'
            go_simp
            with_reducible rfl
          rotate_left
          · simp only [Act.put, List.setIfInBounds_toArray, List.set_cons_zero, List.set_cons_succ, i64_w, i32_w]
            rfl
          refine take_ (i := 8) (N := some 146) (v := ?_) (a' := ?_) #[true, true, true, true, true, true, true, true, true, false, false, false, false, false] rfl rfl (by kernel_rfl) (fun _ _ _ h => h) (Or.inl ⟨by rfl, ?_⟩) hHeld ?_ ?_
          rotate_left
          · rintro w' ⟨s0, s1, s2, s3⟩
            go_simp
            with_reducible rfl
          rotate_left
          · simp only [Act.put, List.setIfInBounds_toArray, List.set_cons_zero, List.set_cons_succ, i64_w, i32_w]
            rfl
          refine take_ (i := 10) (N := some 148) (v := ?_) (a' := ?_) #[true, true, true, true, true, true, true, true, true, false, true, false, false, false] rfl rfl (by kernel_rfl) (fun _ _ _ h => h) (Or.inl ⟨by rfl, ?_⟩) hHeld ?_ ?_
          rotate_left
          · rintro w' ⟨s0, s1, s2, s3⟩
            go_simp
            with_reducible rfl
          rotate_left
          · simp only [Act.put, List.setIfInBounds_toArray, List.set_cons_zero, List.set_cons_succ, i64_w, i32_w]
            rfl
          refine one_ (i := 9) (N := some 147) #[true, true, true, true, true, true, true, true, true, true, true, false, false, false] rfl rfl (by kernel_rfl) (by decide) (fun K hK => ?_)
          refine goes_ Try.func23 (by kernel_rfl) rfl #[.agg #[.int .u16 xfi, .int .u32 xfs]] (by rfl) rfl rfl (by simp only [List.map_toArray, List.map_cons, List.map_nil]; rfl) ?_
          with_reducible refine (number_any _ _ HRg.out.1 HRg.out.2.1 HRg.out.2.2.1 HRg.out.2.2.2 _).mono ?_
          rintro e u2 ⟨rfl, hfq⟩
          refine ⟨_, rfl, ?_⟩
          have HV := Lib.hid (Fr.at hfq HV.out (by simp))
          have HL := Lib.hid (Fr.at hfq HL.out (by simp))
          have HK1 := Lib.hid (Fr.via (S := []) hfq HK1.out rfl rfl rfl rfl (by simp))
          clear hfq
          refine hK.out _ _ ⟨(bk_cell HV.out 0).trans rfl, (bk_cell HV.out 1).trans rfl, (bk_cell HL.out 0).trans rfl, (bk_cell HL.out 1).trans rfl⟩ (fun hHeld => ?_)
          clear hK K
          refine norm_ (a' := ?_) ?_ ?_
          rotate_left
          · show Act.put _ (some 147) _ = _
            simp only [Act.put, List.setIfInBounds_toArray, List.set_cons_zero, List.set_cons_succ, i64_w, i32_w]
            rfl
          refine one_ (i := 11) (N := some 149) #[true, true, true, true, true, true, true, true, true, true, true, true, false, false] rfl rfl (by kernel_rfl) (by decide) (fun K hK => ?_)
          refine goes_ Try.func23 (by kernel_rfl) rfl #[.agg #[.int .u16 li, .int .u32 lS]] (by rfl) rfl rfl (by simp only [List.map_toArray, List.map_cons, List.map_nil]; rfl) ?_
          with_reducible refine (number_any _ _ HLr.out.1 HLr.out.2.1 HLr.out.2.2.1 HLr.out.2.2.2 _).mono ?_
          rintro e u3 ⟨rfl, hfq⟩
          refine ⟨_, rfl, ?_⟩
          have HV := Lib.hid (Fr.at hfq HV.out (by simp))
          have HL := Lib.hid (Fr.at hfq HL.out (by simp))
          have HK1 := Lib.hid (Fr.via (S := []) hfq HK1.out rfl rfl rfl rfl (by simp))
          clear hfq
          refine hK.out _ _ ⟨(bk_cell HV.out 0).trans rfl, (bk_cell HV.out 1).trans rfl, (bk_cell HL.out 0).trans rfl, (bk_cell HL.out 1).trans rfl⟩ (fun hHeld => ?_)
          clear hK K
          refine norm_ (a' := ?_) ?_ ?_
          rotate_left
          · show Act.put _ (some 149) _ = _
            simp only [Act.put, List.setIfInBounds_toArray, List.set_cons_zero, List.set_cons_succ, i64_w, i32_w]
            rfl
          refine pure_ (i := 12) (N := some 150) (v := ?_) (a' := ?_) #[true, true, true, true, true, true, true, true, true, true, true, true, true, false] rfl rfl (by kernel_rfl) (fun _ _ _ h => h) (Or.inl ⟨by rfl, ?_⟩) ?_ ?_
          rotate_left
          · intro w'
            go_simp
            with_reducible rfl
          rotate_left
          · simp only [Act.put, List.setIfInBounds_toArray, List.set_cons_zero, List.set_cons_succ, i64_w, i32_w]
            rfl
          refine pure_ (i := 13) (N := some 151) (v := ?_) (a' := ?_) #[true, true, true, true, true, true, true, true, true, true, true, true, true, true] rfl rfl (by kernel_rfl) (fun _ _ _ h => h) (Or.inl ⟨by rfl, ?_⟩) ?_ ?_
          rotate_left
          · intro w'
            go_simp
            with_reducible rfl
          rotate_left
          · simp only [Act.put, List.setIfInBounds_toArray, List.set_cons_zero, List.set_cons_succ, i64_w, i32_w]
            rfl
          refine done_ (by kernel_rfl) ?_
          clear hHeld
          have HV := HV
          have HL := HL
          go_wp2_with (first
            | ((with_reducible refine gate_op (.load 34 (.tmp 24)) rfl ?_); go_must (refine ev_load 34 (.tmp 24) rfl rfl rfl rfl HV.out Try.underlying34 rfl size34 rfl ?_))
            | ((with_reducible refine gate_op (.store 34 (.tmp 12) (.tmp 152)) rfl ?_); go_must (refine ev_store 34 (.tmp 12) (.tmp 152) rfl rfl rfl rfl rfl HL.out size34 rfl rfl rfl ?_); intro u5 hb5 hf5))
          go_roundg (gk - 1)
          case measure => have := HK.out; omega
          case rel => exact ⟨k + 1, P, inc, ls, lv, q1, ⟨xf, xfi, xfs, xb, xbi, xbs, xwt, xft⟩, s, r, M, (wn ++ [en]), Lib.hid (by have := HK.out; omega), by omega, rfl, rfl, by go_num, Lib.hid (wat_last (wat_keep HWt.out HK1.out) hf5 hb5), HIt, HSt, Lib.hid (by have := HBd.out; rw [List.length_append]; show _ ∧ _ ∧ _ ∧ wn.length + 1 ≤ _; omega), Lib.hid ((HKt.out.trans HK1.out (by simp)).trans hf5 (wat_new HWt.out (Nat.le_refl _) (by simp)))⟩
      · obtain ⟨A2, c2, rfl, hA2⟩ := own_slice HW.out.row
        clear hA2
        obtain ⟨nn, hnn⟩ : ∃ nn, nn = wn.length := ⟨_, rfl⟩
        rw [← hnn] at HW ⊢
        have HNN := Lib.hid hnn
        have hnl : nn ≤ 120 := by have := HBd.out; omega
        clear hnn
        rcases (show nn = 0 ∨ 0 < nn by omega) with hz | hz
        · have g1 : ¬ (0 : Int) < nn := by omega
          have g2 : decide (0 < nn) = false := by simp; omega
          have HZ := Lib.hid hz
          clear hz
          go_wp2_with (first
            | ((with_reducible refine gate_op (.load 66 (.tmp 60)) rfl ?_); go_must (refine ev_loadAt 66 (.tmp 60) rfl rfl rfl rfl HRK.out Try.underlying66 rfl size66 rfl ?_))
            | ((with_reducible refine gate_op (.store 66 (.tmp 16) (.tmp 61)) rfl ?_); go_must (refine ev_store 66 (.tmp 16) (.tmp 61) rfl rfl rfl rfl rfl (bk_new _ _) size66 rfl rfl rfl ?_); intro w1 hb1 hf1; have hcx := bk_cell hb1; have hxl : wr.heap.size < w1.heap.size := bk_lt hb1; have hxn : ¬ wr.heap.size = w1.heap.size := Nat.ne_of_lt hxl; have hxn2 : ¬ w1.heap.size = wr.heap.size := Ne.symm hxn; go_must (have K1 := Lib.hid (((Fr.refl wr []).alloc _).trans hf1 (by simp)); have HW1 := Lib.hid (wat_keep HW.out K1.out); have HX1 := Lib.hid hb1; clear hb1 hf1))
            | fail)
          have HWt := HW1
          have HKt := Lib.hid (HFr.out.step K1.out)
          have HIt := HI
          have HSt := HS
          have HLe := HLe0
          clear hcx hxl hxn hxn2
          have HFnd := Lib.hid (HIt.out.uniq _ HIt.out.front)
          have HFa := Lib.hid HIt.out.fault
          have HRg := Lib.hid (HIt.out.rng _ HIt.out.front)
          have HLr := Lib.hid (show 0 ≤ li ∧ li ≤ 65535 ∧ 0 ≤ lS ∧ lS ≤ 4294967295 from HLv.out)
          obtain ⟨xf, xfi, xfs, xb, xbi, xbs, xwt, xft⟩ := x
          have e1 : (xf.toList != xf.toList) = false := by simp
          have e2 : decide (numV xfi xfs < numV li lS) = false := by simpa using HLe.out
          have e3 : ¬ numV xfi xfs < numV li lS := by simpa using HLe.out
          go_wp2_with (first
            | (go_at_call 16; refine (sfront_any h g xf xfi xfs xb xbi xbs xwt xft _ HWt.out.sub).mono ?_; rintro e u1 ⟨rfl, hv1⟩; go_must (have HK1 := Lib.hid (hv1.alloc (.cells #[.int .u16 xfi, .int .u32 xfs] 34)); have HV := Lib.hid (bk_new u1 (.cells #[.int .u16 xfi, .int .u32 xfs] 34)); have HL := Lib.hid (bk_keep HWt.out.last HK1.out (by simp)); have HM := Lib.hid (mp_keep HWt.out.map HK1.out (by simp)); have HVL := Lib.hid (show u1.heap.size ≠ L from by have a := bk_lt HWt.out.last; have b := hv1.size; omega)))
            | ((with_reducible refine gate_op (.load 34 (.tmp 24)) rfl ?_); go_must (refine ev_load 34 (.tmp 24) rfl rfl rfl rfl HV.out Try.underlying34 rfl size34 rfl ?_))
            | ((with_reducible refine gate_op (.lookup 63 (.tmp 133) (.tmp 134) true) rfl ?_); go_must (refine ev_vlook (.tmp 133) (.tmp 134) rfl rfl rfl rfl rfl HM.out HFnd.out ?_)))
          clear HM
          refine start_ (n := 14) (S := fun w' => w'.cell? ⟨u1.heap.size, 0, none⟩ = some (.int .u16 xfi) ∧ w'.cell? ⟨u1.heap.size, 1, none⟩ = some (.int .u32 xfs) ∧ w'.cell? ⟨L, 0, none⟩ = some (.int .u16 li) ∧ w'.cell? ⟨L, 1, none⟩ = some (.int .u32 lS)) (ds := []) #[false, false, false, false, false, false, false, false, false, false, false, false, false, false] (by kernel_rfl) rfl rfl ⟨(bk_cell HV.out 0).trans rfl, (bk_cell HV.out 1).trans rfl, (bk_cell HL.out 0).trans rfl, (bk_cell HL.out 1).trans rfl⟩ (fun hHeld => ?_)
          refine pure_ (i := 0) (N := some 138) (v := ?_) (a' := ?_) #[true, false, false, false, false, false, false, false, false, false, false, false, false, false] rfl rfl (by kernel_rfl) (fun _ _ _ h => h) (Or.inl ⟨by rfl, ?_⟩) ?_ ?_
          rotate_left
          · intro w'
            go_simp
            with_reducible rfl
          rotate_left
          · simp only [Act.put, List.setIfInBounds_toArray, List.set_cons_zero, List.set_cons_succ, i64_w, i32_w]
            rfl
          refine pure_ (i := 1) (N := some 139) (v := ?_) (a' := ?_) #[true, true, false, false, false, false, false, false, false, false, false, false, false, false] rfl rfl (by kernel_rfl) (fun _ _ _ h => h) (Or.inl ⟨by rfl, ?_⟩) ?_ ?_
          rotate_left
          · intro w'
            go_simp
            with_reducible rfl
          rotate_left
          · simp only [Act.put, List.setIfInBounds_toArray, List.set_cons_zero, List.set_cons_succ, i64_w, i32_w]
            rfl
          refine pure_ (i := 2) (N := some 140) (v := ?_) (a' := ?_) #[true, true, true, false, false, false, false, false, false, false, false, false, false, false] rfl rfl (by kernel_rfl) (fun _ _ _ h => h) (Or.inl ⟨by rfl, ?_⟩) ?_ ?_
          rotate_left
          · intro w'
            go_simp
            with_reducible rfl
          rotate_left
          · simp only [Act.put, List.setIfInBounds_toArray, List.set_cons_zero, List.set_cons_succ, i64_w, i32_w]
            rfl
          refine pure_ (i := 3) (N := some 141) (v := ?_) (a' := ?_) #[true, true, true, true, false, false, false, false, false, false, false, false, false, false] rfl rfl (by kernel_rfl) (fun _ _ _ h => h) (Or.inl ⟨by rfl, ?_⟩) ?_ ?_
          rotate_left
          · intro w'
            go_simp
            with_reducible rfl
          rotate_left
          · simp only [Act.put, List.setIfInBounds_toArray, List.set_cons_zero, List.set_cons_succ, i64_w, i32_w]
            rfl
          refine pure_ (i := 4) (N := some 142) (v := ?_) (a' := ?_) #[true, true, true, true, true, false, false, false, false, false, false, false, false, false] rfl rfl (by kernel_rfl) (fun _ _ _ h => h) (Or.inl ⟨by rfl, ?_⟩) ?_ ?_
          rotate_left
          · intro w'
            go_simp
            with_reducible rfl
          rotate_left
          · simp only [Act.put, List.setIfInBounds_toArray, List.set_cons_zero, List.set_cons_succ, i64_w, i32_w]
            rfl
          refine pure_ (i := 5) (N := some 143) (v := ?_) (a' := ?_) #[true, true, true, true, true, true, false, false, false, false, false, false, false, false] rfl rfl (by kernel_rfl) (fun _ _ _ h => h) (Or.inl ⟨by rfl, ?_⟩) ?_ ?_
          rotate_left
          · intro w'
            go_simp
            with_reducible rfl
          rotate_left
          · simp only [Act.put, List.setIfInBounds_toArray, List.set_cons_zero, List.set_cons_succ, i64_w, i32_w]
            rfl
          refine pure_ (i := 6) (N := some 144) (v := ?_) (a' := ?_) #[true, true, true, true, true, true, true, false, false, false, false, false, false, false] rfl rfl (by kernel_rfl) (fun _ _ _ h => h) (Or.inl ⟨by rfl, ?_⟩) ?_ ?_
          rotate_left
          · intro w'
            go_simp
            with_reducible rfl
          rotate_left
          · simp only [Act.put, List.setIfInBounds_toArray, List.set_cons_zero, List.set_cons_succ, i64_w, i32_w]
            rfl
          refine pure_ (i := 7) (N := some 145) (v := ?_) (a' := ?_) #[true, true, true, true, true, true, true, true, false, false, false, false, false, false] rfl rfl (by kernel_rfl) (fun _ _ _ h => h) (Or.inl ⟨by rfl, ?_⟩) ?_ ?_
          rotate_left
          · intro w'
            go_simp
            with_reducible rfl
          rotate_left
          · simp only [Act.put, List.setIfInBounds_toArray, List.set_cons_zero, List.set_cons_succ, i64_w, i32_w]
            rfl
          refine take_ (i := 8) (N := some 146) (v := ?_) (a' := ?_) #[true, true, true, true, true, true, true, true, true, false, false, false, false, false] rfl rfl (by kernel_rfl) (fun _ _ _ h => h) (Or.inl ⟨by rfl, ?_⟩) hHeld ?_ ?_
          rotate_left
          · rintro w' ⟨s0, s1, s2, s3⟩
            go_simp
            with_reducible rfl
          rotate_left
          · simp only [Act.put, List.setIfInBounds_toArray, List.set_cons_zero, List.set_cons_succ, i64_w, i32_w]
            rfl
          refine take_ (i := 10) (N := some 148) (v := ?_) (a' := ?_) #[true, true, true, true, true, true, true, true, true, false, true, false, false, false] rfl rfl (by kernel_rfl) (fun _ _ _ h => h) (Or.inl ⟨by rfl, ?_⟩) hHeld ?_ ?_
          rotate_left
          · rintro w' ⟨s0, s1, s2, s3⟩
            go_simp
            with_reducible rfl
          rotate_left
          · simp only [Act.put, List.setIfInBounds_toArray, List.set_cons_zero, List.set_cons_succ, i64_w, i32_w]
            rfl
          refine one_ (i := 9) (N := some 147) #[true, true, true, true, true, true, true, true, true, true, true, false, false, false] rfl rfl (by kernel_rfl) (by decide) (fun K hK => ?_)
          refine goes_ Try.func23 (by kernel_rfl) rfl #[.agg #[.int .u16 xfi, .int .u32 xfs]] (by rfl) rfl rfl (by simp only [List.map_toArray, List.map_cons, List.map_nil]; rfl) ?_
          with_reducible refine (number_any _ _ HRg.out.1 HRg.out.2.1 HRg.out.2.2.1 HRg.out.2.2.2 _).mono ?_
          rintro e u2 ⟨rfl, hfq⟩
          refine ⟨_, rfl, ?_⟩
          have HV := Lib.hid (Fr.at hfq HV.out (by simp))
          have HL := Lib.hid (Fr.at hfq HL.out (by simp))
          have HK1 := Lib.hid (Fr.via (S := []) hfq HK1.out rfl rfl rfl rfl (by simp))
          clear hfq
          refine hK.out _ _ ⟨(bk_cell HV.out 0).trans rfl, (bk_cell HV.out 1).trans rfl, (bk_cell HL.out 0).trans rfl, (bk_cell HL.out 1).trans rfl⟩ (fun hHeld => ?_)
          clear hK K
          refine norm_ (a' := ?_) ?_ ?_
          rotate_left
          · show Act.put _ (some 147) _ = _
            simp only [Act.put, List.setIfInBounds_toArray, List.set_cons_zero, List.set_cons_succ, i64_w, i32_w]
            rfl
          refine one_ (i := 11) (N := some 149) #[true, true, true, true, true, true, true, true, true, true, true, true, false, false] rfl rfl (by kernel_rfl) (by decide) (fun K hK => ?_)
          refine goes_ Try.func23 (by kernel_rfl) rfl #[.agg #[.int .u16 li, .int .u32 lS]] (by rfl) rfl rfl (by simp only [List.map_toArray, List.map_cons, List.map_nil]; rfl) ?_
          with_reducible refine (number_any _ _ HLr.out.1 HLr.out.2.1 HLr.out.2.2.1 HLr.out.2.2.2 _).mono ?_
          rintro e u3 ⟨rfl, hfq⟩
          refine ⟨_, rfl, ?_⟩
          have HV := Lib.hid (Fr.at hfq HV.out (by simp))
          have HL := Lib.hid (Fr.at hfq HL.out (by simp))
          have HK1 := Lib.hid (Fr.via (S := []) hfq HK1.out rfl rfl rfl rfl (by simp))
          clear hfq
          refine hK.out _ _ ⟨(bk_cell HV.out 0).trans rfl, (bk_cell HV.out 1).trans rfl, (bk_cell HL.out 0).trans rfl, (bk_cell HL.out 1).trans rfl⟩ (fun hHeld => ?_)
          clear hK K
          refine norm_ (a' := ?_) ?_ ?_
          rotate_left
          · show Act.put _ (some 149) _ = _
            simp only [Act.put, List.setIfInBounds_toArray, List.set_cons_zero, List.set_cons_succ, i64_w, i32_w]
            rfl
          refine pure_ (i := 12) (N := some 150) (v := ?_) (a' := ?_) #[true, true, true, true, true, true, true, true, true, true, true, true, true, false] rfl rfl (by kernel_rfl) (fun _ _ _ h => h) (Or.inl ⟨by rfl, ?_⟩) ?_ ?_
          rotate_left
          · intro w'
            go_simp
            with_reducible rfl
          rotate_left
          · simp only [Act.put, List.setIfInBounds_toArray, List.set_cons_zero, List.set_cons_succ, i64_w, i32_w]
            rfl
          refine pure_ (i := 13) (N := some 151) (v := ?_) (a' := ?_) #[true, true, true, true, true, true, true, true, true, true, true, true, true, true] rfl rfl (by kernel_rfl) (fun _ _ _ h => h) (Or.inl ⟨by rfl, ?_⟩) ?_ ?_
          rotate_left
          · intro w'
            go_simp
            with_reducible rfl
          rotate_left
          · simp only [Act.put, List.setIfInBounds_toArray, List.set_cons_zero, List.set_cons_succ, i64_w, i32_w]
            rfl
          refine done_ (by kernel_rfl) ?_
          clear hHeld
          have HV := HV
          have HL := HL
          go_wp2_with (first
            | ((with_reducible refine gate_op (.load 34 (.tmp 24)) rfl ?_); go_must (refine ev_load 34 (.tmp 24) rfl rfl rfl rfl HV.out Try.underlying34 rfl size34 rfl ?_))
            | ((with_reducible refine gate_op (.store 34 (.tmp 12) (.tmp 152)) rfl ?_); go_must (refine ev_store 34 (.tmp 12) (.tmp 152) rfl rfl rfl rfl rfl HL.out size34 rfl rfl rfl ?_); intro u5 hb5 hf5))
          go_roundg (gk - 1)
          case measure => have := HK.out; omega
          case rel => exact ⟨k + 1, P, inc, ls, lv, q, ⟨xf, xfi, xfs, xb, xbi, xbs, xwt, xft⟩, s, r, M, wn, Lib.hid (by have := HK.out; omega), by omega, rfl, rfl, by go_num, Lib.hid (wat_last (wat_keep HWt.out HK1.out) hf5 hb5), HIt, HSt, Lib.hid (by have := HBd.out; omega), Lib.hid ((HKt.out.trans HK1.out (by simp)).trans hf5 (wat_new HWt.out (Nat.le_refl _) (by simp)))⟩
        · have g1 : (0 : Int) < nn := by omega
          have g2 : ¬ (nn : Int) = 0 := by omega
          have g4 : ((nn : Int) == 0) = false := by simpa using g2
          obtain ⟨j, hj⟩ : ∃ j : Nat, (ix : Int) % (nn : Int) = j := Int.eq_ofNat_of_zero_le (Int.emod_nonneg _ g2)
          have hjn : j < nn := by have := Int.emod_lt_of_pos (ix : Int) g1; omega
          have hjt : Int.tmod (ix : Int) (nn : Int) = j := by rw [Int.tmod_eq_emod_of_nonneg (by omega)]; exact hj
          have hjn2 : (j : Int) < nn := by omega
          obtain ⟨gw, en, hA2, -, -, hen, hrd⟩ := wat_read (j := j) HW.out rfl (by have := HNN.out; omega)
          subst hA2
          have HRd := Lib.hid hrd
          obtain ⟨o, e0, x1, s1, r1, C1, C2, C3, C4, C5⟩ := putW_any (h := h) (g := g) (vb := vb) HI.out HS.out h1 h2 en hen
          have HPut := Lib.hid C1
          have HSt := Lib.hid C2
          have HIt := Lib.hid C3
          have HLe := Lib.hid (show numV li lS ≤ numV x1.fi x1.fs from by rw [C4, C5]; exact HLe0.out)
          clear C1 C2 C3 C4 C5 hen hrd hz
          go_wp2_with (first
            | ((with_reducible refine gate_op (.load 66 (.tmp 60)) rfl ?_); go_must (refine ev_loadAt 66 (.tmp 60) rfl rfl rfl rfl HRK.out Try.underlying66 rfl size66 rfl ?_))
            | ((with_reducible refine gate_op (.store 66 (.tmp 16) (.tmp 61)) rfl ?_); go_must (refine ev_store 66 (.tmp 16) (.tmp 61) rfl rfl rfl rfl rfl (bk_new _ _) size66 rfl rfl rfl ?_); intro w1 hb1 hf1; have hcx := bk_cell hb1; have hxl : wr.heap.size < w1.heap.size := bk_lt hb1; have hxn : ¬ wr.heap.size = w1.heap.size := Nat.ne_of_lt hxl; have hxn2 : ¬ w1.heap.size = wr.heap.size := Ne.symm hxn; go_must (have K1 := Lib.hid (((Fr.refl wr []).alloc _).trans hf1 (by simp)); have HW1 := Lib.hid (wat_keep HW.out K1.out); have HX1 := Lib.hid hb1; clear hb1 hf1))
            | ((with_reducible refine gate_op (.load 36 (.tmp 113)) rfl ?_); go_must (refine ev_loadAt 36 (.tmp 113) rfl rfl rfl rfl (show w1.rangeAt gw (j * 19) (wnR sz en) from range_keep HRd.out K1.out (by simp)) Try.underlying36 rfl size36 rfl ?_))
            | (go_at_call 12; refine (HPut.out _ HW1.out.sub HW1.out.glue).mono ?_; rintro e wt ⟨rfl, hs6, hg6, hf6⟩; go_must (have HWt := Lib.hid (wat_sub HW1.out hf6 (by simp) hs6 hg6); have HKt := Lib.hid ((HFr.out.step K1.out).trans hf6 (wat_new HW1.out (Nat.le_refl _) (by intro i hi; simp at hi; omega))); clear hs6 hg6 hf6 hcx hxl hxn hxn2)))
          clear hj hjt hjn hjn2 g1 g2 g4
          have HFnd := Lib.hid (HIt.out.uniq _ HIt.out.front)
          have HFa := Lib.hid HIt.out.fault
          have HRg := Lib.hid (HIt.out.rng _ HIt.out.front)
          have HLr := Lib.hid (show 0 ≤ li ∧ li ≤ 65535 ∧ 0 ≤ lS ∧ lS ≤ 4294967295 from HLv.out)
          obtain ⟨xf, xfi, xfs, xb, xbi, xbs, xwt, xft⟩ := x1
          have e1 : (xf.toList != xf.toList) = false := by simp
          have e2 : decide (numV xfi xfs < numV li lS) = false := by simpa using HLe.out
          have e3 : ¬ numV xfi xfs < numV li lS := by simpa using HLe.out
          go_wp2_with (first
            | (go_at_call 16; refine (sfront_any h g xf xfi xfs xb xbi xbs xwt xft _ HWt.out.sub).mono ?_; rintro e u1 ⟨rfl, hv1⟩; go_must (have HK1 := Lib.hid (hv1.alloc (.cells #[.int .u16 xfi, .int .u32 xfs] 34)); have HV := Lib.hid (bk_new u1 (.cells #[.int .u16 xfi, .int .u32 xfs] 34)); have HL := Lib.hid (bk_keep HWt.out.last HK1.out (by simp)); have HM := Lib.hid (mp_keep HWt.out.map HK1.out (by simp)); have HVL := Lib.hid (show u1.heap.size ≠ L from by have a := bk_lt HWt.out.last; have b := hv1.size; omega)))
            | ((with_reducible refine gate_op (.load 34 (.tmp 24)) rfl ?_); go_must (refine ev_load 34 (.tmp 24) rfl rfl rfl rfl HV.out Try.underlying34 rfl size34 rfl ?_))
            | ((with_reducible refine gate_op (.lookup 63 (.tmp 133) (.tmp 134) true) rfl ?_); go_must (refine ev_vlook (.tmp 133) (.tmp 134) rfl rfl rfl rfl rfl HM.out HFnd.out ?_)))
          clear HM
          refine start_ (n := 14) (S := fun w' => w'.cell? ⟨u1.heap.size, 0, none⟩ = some (.int .u16 xfi) ∧ w'.cell? ⟨u1.heap.size, 1, none⟩ = some (.int .u32 xfs) ∧ w'.cell? ⟨L, 0, none⟩ = some (.int .u16 li) ∧ w'.cell? ⟨L, 1, none⟩ = some (.int .u32 lS)) (ds := []) #[false, false, false, false, false, false, false, false, false, false, false, false, false, false] (by kernel_rfl) rfl rfl ⟨(bk_cell HV.out 0).trans rfl, (bk_cell HV.out 1).trans rfl, (bk_cell HL.out 0).trans rfl, (bk_cell HL.out 1).trans rfl⟩ (fun hHeld => ?_)
          refine pure_ (i := 0) (N := some 138) (v := ?_) (a' := ?_) #[true, false, false, false, false, false, false, false, false, false, false, false, false, false] rfl rfl (by kernel_rfl) (fun _ _ _ h => h) (Or.inl ⟨by rfl, ?_⟩) ?_ ?_
          rotate_left
          · intro w'
            go_simp
            with_reducible rfl
          rotate_left
          · simp only [Act.put, List.setIfInBounds_toArray, List.set_cons_zero, List.set_cons_succ, i64_w, i32_w]
            rfl
          refine pure_ (i := 1) (N := some 139) (v := ?_) (a' := ?_) #[true, true, false, false, false, false, false, false, false, false, false, false, false, false] rfl rfl (by kernel_rfl) (fun _ _ _ h => h) (Or.inl ⟨by rfl, ?_⟩) ?_ ?_
          rotate_left
          · intro w'
            go_simp
            with_reducible rfl
          rotate_left
          · simp only [Act.put, List.setIfInBounds_toArray, List.set_cons_zero, List.set_cons_succ, i64_w, i32_w]
            rfl
          refine pure_ (i := 2) (N := some 140) (v := ?_) (a' := ?_) #[true, true, true, false, false, false, false, false, false, false, false, false, false, false] rfl rfl (by kernel_rfl) (fun _ _ _ h => h) (Or.inl ⟨by rfl, ?_⟩) ?_ ?_
          rotate_left
          · intro w'
            go_simp
            with_reducible rfl
          rotate_left
          · simp only [Act.put, List.setIfInBounds_toArray, List.set_cons_zero, List.set_cons_succ, i64_w, i32_w]
            rfl
          refine pure_ (i := 3) (N := some 141) (v := ?_) (a' := ?_) #[true, true, true, true, false, false, false, false, false, false, false, false, false, false] rfl rfl (by kernel_rfl) (fun _ _ _ h => h) (Or.inl ⟨by rfl, ?_⟩) ?_ ?_
          rotate_left
          · intro w'
            go_simp
            with_reducible rfl
          rotate_left
          · simp only [Act.put, List.setIfInBounds_toArray, List.set_cons_zero, List.set_cons_succ, i64_w, i32_w]
            rfl
          refine pure_ (i := 4) (N := some 142) (v := ?_) (a' := ?_) #[true, true, true, true, true, false, false, false, false, false, false, false, false, false] rfl rfl (by kernel_rfl) (fun _ _ _ h => h) (Or.inl ⟨by rfl, ?_⟩) ?_ ?_
          rotate_left
          · intro w'
            go_simp
            with_reducible rfl
          rotate_left
          · simp only [Act.put, List.setIfInBounds_toArray, List.set_cons_zero, List.set_cons_succ, i64_w, i32_w]
            rfl
          refine pure_ (i := 5) (N := some 143) (v := ?_) (a' := ?_) #[true, true, true, true, true, true, false, false, false, false, false, false, false, false] rfl rfl (by kernel_rfl) (fun _ _ _ h => h) (Or.inl ⟨by rfl, ?_⟩) ?_ ?_
          rotate_left
          · intro w'
            go_simp
            with_reducible rfl
          rotate_left
          · simp only [Act.put, List.setIfInBounds_toArray, List.set_cons_zero, List.set_cons_succ, i64_w, i32_w]
            rfl
          refine pure_ (i := 6) (N := some 144) (v := ?_) (a' := ?_) #[true, true, true, true, true, true, true, false, false, false, false, false, false, false] rfl rfl (by kernel_rfl) (fun _ _ _ h => h) (Or.inl ⟨by rfl, ?_⟩) ?_ ?_
          rotate_left
          · intro w'
            go_simp
            with_reducible rfl
          rotate_left
          · simp only [Act.put, List.setIfInBounds_toArray, List.set_cons_zero, List.set_cons_succ, i64_w, i32_w]
            rfl
          refine pure_ (i := 7) (N := some 145) (v := ?_) (a' := ?_) #[true, true, true, true, true, true, true, true, false, false, false, false, false, false] rfl rfl (by kernel_rfl) (fun _ _ _ h => h) (Or.inl ⟨by rfl, ?_⟩) ?_ ?_
          rotate_left
          · intro w'
            go_simp
            with_reducible rfl
          rotate_left
          · simp only [Act.put, List.setIfInBounds_toArray, List.set_cons_zero, List.set_cons_succ, i64_w, i32_w]
            rfl
          refine take_ (i := 8) (N := some 146) (v := ?_) (a' := ?_) #[true, true, true, true, true, true, true, true, true, false, false, false, false, false] rfl rfl (by kernel_rfl) (fun _ _ _ h => h) (Or.inl ⟨by rfl, ?_⟩) hHeld ?_ ?_
          rotate_left
          · rintro w' ⟨s0, s1, s2, s3⟩
            go_simp
            with_reducible rfl
          rotate_left
          · simp only [Act.put, List.setIfInBounds_toArray, List.set_cons_zero, List.set_cons_succ, i64_w, i32_w]
            rfl
          refine take_ (i := 10) (N := some 148) (v := ?_) (a' := ?_) #[true, true, true, true, true, true, true, true, true, false, true, false, false, false] rfl rfl (by kernel_rfl) (fun _ _ _ h => h) (Or.inl ⟨by rfl, ?_⟩) hHeld ?_ ?_
          rotate_left
          · rintro w' ⟨s0, s1, s2, s3⟩
            go_simp
            with_reducible rfl
          rotate_left
          · simp only [Act.put, List.setIfInBounds_toArray, List.set_cons_zero, List.set_cons_succ, i64_w, i32_w]
            rfl
          refine one_ (i := 9) (N := some 147) #[true, true, true, true, true, true, true, true, true, true, true, false, false, false] rfl rfl (by kernel_rfl) (by decide) (fun K hK => ?_)
          refine goes_ Try.func23 (by kernel_rfl) rfl #[.agg #[.int .u16 xfi, .int .u32 xfs]] (by rfl) rfl rfl (by simp only [List.map_toArray, List.map_cons, List.map_nil]; rfl) ?_
          with_reducible refine (number_any _ _ HRg.out.1 HRg.out.2.1 HRg.out.2.2.1 HRg.out.2.2.2 _).mono ?_
          rintro e u2 ⟨rfl, hfq⟩
          refine ⟨_, rfl, ?_⟩
          have HV := Lib.hid (Fr.at hfq HV.out (by simp))
          have HL := Lib.hid (Fr.at hfq HL.out (by simp))
          have HK1 := Lib.hid (Fr.via (S := []) hfq HK1.out rfl rfl rfl rfl (by simp))
          clear hfq
          refine hK.out _ _ ⟨(bk_cell HV.out 0).trans rfl, (bk_cell HV.out 1).trans rfl, (bk_cell HL.out 0).trans rfl, (bk_cell HL.out 1).trans rfl⟩ (fun hHeld => ?_)
          clear hK K
          refine norm_ (a' := ?_) ?_ ?_
          rotate_left
          · show Act.put _ (some 147) _ = _
            simp only [Act.put, List.setIfInBounds_toArray, List.set_cons_zero, List.set_cons_succ, i64_w, i32_w]
            rfl
          refine one_ (i := 11) (N := some 149) #[true, true, true, true, true, true, true, true, true, true, true, true, false, false] rfl rfl (by kernel_rfl) (by decide) (fun K hK => ?_)
          refine goes_ Try.func23 (by kernel_rfl) rfl #[.agg #[.int .u16 li, .int .u32 lS]] (by rfl) rfl rfl (by simp only [List.map_toArray, List.map_cons, List.map_nil]; rfl) ?_
          with_reducible refine (number_any _ _ HLr.out.1 HLr.out.2.1 HLr.out.2.2.1 HLr.out.2.2.2 _).mono ?_
          rintro e u3 ⟨rfl, hfq⟩
          refine ⟨_, rfl, ?_⟩
          have HV := Lib.hid (Fr.at hfq HV.out (by simp))
          have HL := Lib.hid (Fr.at hfq HL.out (by simp))
          have HK1 := Lib.hid (Fr.via (S := []) hfq HK1.out rfl rfl rfl rfl (by simp))
          clear hfq
          refine hK.out _ _ ⟨(bk_cell HV.out 0).trans rfl, (bk_cell HV.out 1).trans rfl, (bk_cell HL.out 0).trans rfl, (bk_cell HL.out 1).trans rfl⟩ (fun hHeld => ?_)
          clear hK K
          refine norm_ (a' := ?_) ?_ ?_
          rotate_left
          · show Act.put _ (some 149) _ = _
            simp only [Act.put, List.setIfInBounds_toArray, List.set_cons_zero, List.set_cons_succ, i64_w, i32_w]
            rfl
          refine pure_ (i := 12) (N := some 150) (v := ?_) (a' := ?_) #[true, true, true, true, true, true, true, true, true, true, true, true, true, false] rfl rfl (by kernel_rfl) (fun _ _ _ h => h) (Or.inl ⟨by rfl, ?_⟩) ?_ ?_
          rotate_left
          · intro w'
            go_simp
            with_reducible rfl
          rotate_left
          · simp only [Act.put, List.setIfInBounds_toArray, List.set_cons_zero, List.set_cons_succ, i64_w, i32_w]
            rfl
          refine pure_ (i := 13) (N := some 151) (v := ?_) (a' := ?_) #[true, true, true, true, true, true, true, true, true, true, true, true, true, true] rfl rfl (by kernel_rfl) (fun _ _ _ h => h) (Or.inl ⟨by rfl, ?_⟩) ?_ ?_
          rotate_left
          · intro w'
            go_simp
            with_reducible rfl
          rotate_left
          · simp only [Act.put, List.setIfInBounds_toArray, List.set_cons_zero, List.set_cons_succ, i64_w, i32_w]
            rfl
          refine done_ (by kernel_rfl) ?_
          clear hHeld
          have HV := HV
          have HL := HL
          go_wp2_with (first
            | ((with_reducible refine gate_op (.load 34 (.tmp 24)) rfl ?_); go_must (refine ev_load 34 (.tmp 24) rfl rfl rfl rfl HV.out Try.underlying34 rfl size34 rfl ?_))
            | ((with_reducible refine gate_op (.store 34 (.tmp 12) (.tmp 152)) rfl ?_); go_must (refine ev_store 34 (.tmp 12) (.tmp 152) rfl rfl rfl rfl rfl HL.out size34 rfl rfl rfl ?_); intro u5 hb5 hf5))
          go_roundg (gk - 1)
          case measure => have := HK.out; omega
          case rel => exact ⟨k + 1, P, inc, ls, lv, q, ⟨xf, xfi, xfs, xb, xbi, xbs, xwt, xft⟩, s1, r1, M, wn, Lib.hid (by have := HK.out; omega), by omega, rfl, rfl, by go_num, Lib.hid (wat_last (wat_keep HWt.out HK1.out) hf5 hb5), HIt, HSt, Lib.hid (by have := HBd.out; omega), Lib.hid ((HKt.out.trans HK1.out (by simp)).trans hf5 (wat_new HWt.out (Nat.le_refl _) (by simp)))⟩
      · obtain ⟨HIt0, HLe1⟩ := wi_latch HI.out
        have HIt := Lib.hid HIt0
        have HLe := Lib.hid (Int.le_trans HLe0.out HLe1)
        have HLt := Lib.hid (fun (W : World) => latchX_any h g x W)
        clear HIt0 HLe1
        generalize latchX x = x1 at *
        go_wp2_with (first
          | ((with_reducible refine gate_op (.load 66 (.tmp 60)) rfl ?_); go_must (refine ev_loadAt 66 (.tmp 60) rfl rfl rfl rfl HRK.out Try.underlying66 rfl size66 rfl ?_))
          | ((with_reducible refine gate_op (.store 66 (.tmp 16) (.tmp 61)) rfl ?_); go_must (refine ev_store 66 (.tmp 16) (.tmp 61) rfl rfl rfl rfl rfl (bk_new _ _) size66 rfl rfl rfl ?_); intro w1 hb1 hf1; have hcx := bk_cell hb1; have hxl : wr.heap.size < w1.heap.size := bk_lt hb1; have hxn : ¬ wr.heap.size = w1.heap.size := Nat.ne_of_lt hxl; have hxn2 : ¬ w1.heap.size = wr.heap.size := Ne.symm hxn; go_must (have K1 := Lib.hid (((Fr.refl wr []).alloc _).trans hf1 (by simp)); have HW1 := Lib.hid (wat_keep HW.out K1.out); have HX1 := Lib.hid hb1; clear hb1 hf1))
          | (go_at_call 15; refine (HLt.out _ HW1.out.sub).mono ?_; rintro e wt ⟨rfl, hs6, hf6⟩; go_must (have HWt := Lib.hid (wat_sub HW1.out hf6 (by simp) hs6 (gl_keep HW1.out.glue hf6 (by have := bk_ne HW1.out.glue.1 HW1.out.sub (by decide); simpa using this) (by have := bk_ne HW1.out.glue.2 HW1.out.sub (by decide); simpa using this))); have HKt := Lib.hid ((HFr.out.step K1.out).trans hf6 (wat_new HW1.out (Nat.le_refl _) (by simp))); have HSt := HS; clear hs6 hf6 hcx hxl hxn hxn2)))
        have HFnd := Lib.hid (HIt.out.uniq _ HIt.out.front)
        have HFa := Lib.hid HIt.out.fault
        have HRg := Lib.hid (HIt.out.rng _ HIt.out.front)
        have HLr := Lib.hid (show 0 ≤ li ∧ li ≤ 65535 ∧ 0 ≤ lS ∧ lS ≤ 4294967295 from HLv.out)
        obtain ⟨xf, xfi, xfs, xb, xbi, xbs, xwt, xft⟩ := x1
        have e1 : (xf.toList != xf.toList) = false := by simp
        have e2 : decide (numV xfi xfs < numV li lS) = false := by simpa using HLe.out
        have e3 : ¬ numV xfi xfs < numV li lS := by simpa using HLe.out
        go_wp2_with (first
          | (go_at_call 16; refine (sfront_any h g xf xfi xfs xb xbi xbs xwt xft _ HWt.out.sub).mono ?_; rintro e u1 ⟨rfl, hv1⟩; go_must (have HK1 := Lib.hid (hv1.alloc (.cells #[.int .u16 xfi, .int .u32 xfs] 34)); have HV := Lib.hid (bk_new u1 (.cells #[.int .u16 xfi, .int .u32 xfs] 34)); have HL := Lib.hid (bk_keep HWt.out.last HK1.out (by simp)); have HM := Lib.hid (mp_keep HWt.out.map HK1.out (by simp)); have HVL := Lib.hid (show u1.heap.size ≠ L from by have a := bk_lt HWt.out.last; have b := hv1.size; omega)))
          | ((with_reducible refine gate_op (.load 34 (.tmp 24)) rfl ?_); go_must (refine ev_load 34 (.tmp 24) rfl rfl rfl rfl HV.out Try.underlying34 rfl size34 rfl ?_))
          | ((with_reducible refine gate_op (.lookup 63 (.tmp 133) (.tmp 134) true) rfl ?_); go_must (refine ev_vlook (.tmp 133) (.tmp 134) rfl rfl rfl rfl rfl HM.out HFnd.out ?_)))
        clear HM
        refine start_ (n := 14) (S := fun w' => w'.cell? ⟨u1.heap.size, 0, none⟩ = some (.int .u16 xfi) ∧ w'.cell? ⟨u1.heap.size, 1, none⟩ = some (.int .u32 xfs) ∧ w'.cell? ⟨L, 0, none⟩ = some (.int .u16 li) ∧ w'.cell? ⟨L, 1, none⟩ = some (.int .u32 lS)) (ds := []) #[false, false, false, false, false, false, false, false, false, false, false, false, false, false] (by kernel_rfl) rfl rfl ⟨(bk_cell HV.out 0).trans rfl, (bk_cell HV.out 1).trans rfl, (bk_cell HL.out 0).trans rfl, (bk_cell HL.out 1).trans rfl⟩ (fun hHeld => ?_)
        refine pure_ (i := 0) (N := some 138) (v := ?_) (a' := ?_) #[true, false, false, false, false, false, false, false, false, false, false, false, false, false] rfl rfl (by kernel_rfl) (fun _ _ _ h => h) (Or.inl ⟨by rfl, ?_⟩) ?_ ?_
        rotate_left
        · intro w'
          go_simp
          with_reducible rfl
        rotate_left
        · simp only [Act.put, List.setIfInBounds_toArray, List.set_cons_zero, List.set_cons_succ, i64_w, i32_w]
          rfl
        refine pure_ (i := 1) (N := some 139) (v := ?_) (a' := ?_) #[true, true, false, false, false, false, false, false, false, false, false, false, false, false] rfl rfl (by kernel_rfl) (fun _ _ _ h => h) (Or.inl ⟨by rfl, ?_⟩) ?_ ?_
        rotate_left
        · intro w'
          go_simp
          with_reducible rfl
        rotate_left
        · simp only [Act.put, List.setIfInBounds_toArray, List.set_cons_zero, List.set_cons_succ, i64_w, i32_w]
          rfl
        refine pure_ (i := 2) (N := some 140) (v := ?_) (a' := ?_) #[true, true, true, false, false, false, false, false, false, false, false, false, false, false] rfl rfl (by kernel_rfl) (fun _ _ _ h => h) (Or.inl ⟨by rfl, ?_⟩) ?_ ?_
        rotate_left
        · intro w'
          go_simp
          with_reducible rfl
        rotate_left
        · simp only [Act.put, List.setIfInBounds_toArray, List.set_cons_zero, List.set_cons_succ, i64_w, i32_w]
          rfl
        refine pure_ (i := 3) (N := some 141) (v := ?_) (a' := ?_) #[true, true, true, true, false, false, false, false, false, false, false, false, false, false] rfl rfl (by kernel_rfl) (fun _ _ _ h => h) (Or.inl ⟨by rfl, ?_⟩) ?_ ?_
        rotate_left
        · intro w'
          go_simp
          with_reducible rfl
        rotate_left
        · simp only [Act.put, List.setIfInBounds_toArray, List.set_cons_zero, List.set_cons_succ, i64_w, i32_w]
          rfl
        refine pure_ (i := 4) (N := some 142) (v := ?_) (a' := ?_) #[true, true, true, true, true, false, false, false, false, false, false, false, false, false] rfl rfl (by kernel_rfl) (fun _ _ _ h => h) (Or.inl ⟨by rfl, ?_⟩) ?_ ?_
        rotate_left
        · intro w'
          go_simp
          with_reducible rfl
        rotate_left
        · simp only [Act.put, List.setIfInBounds_toArray, List.set_cons_zero, List.set_cons_succ, i64_w, i32_w]
          rfl
        refine pure_ (i := 5) (N := some 143) (v := ?_) (a' := ?_) #[true, true, true, true, true, true, false, false, false, false, false, false, false, false] rfl rfl (by kernel_rfl) (fun _ _ _ h => h) (Or.inl ⟨by rfl, ?_⟩) ?_ ?_
        rotate_left
        · intro w'
          go_simp
          with_reducible rfl
        rotate_left
        · simp only [Act.put, List.setIfInBounds_toArray, List.set_cons_zero, List.set_cons_succ, i64_w, i32_w]
          rfl
        refine pure_ (i := 6) (N := some 144) (v := ?_) (a' := ?_) #[true, true, true, true, true, true, true, false, false, false, false, false, false, false] rfl rfl (by kernel_rfl) (fun _ _ _ h => h) (Or.inl ⟨by rfl, ?_⟩) ?_ ?_
        rotate_left
        · intro w'
          go_simp
          with_reducible rfl
        rotate_left
        · simp only [Act.put, List.setIfInBounds_toArray, List.set_cons_zero, List.set_cons_succ, i64_w, i32_w]
          rfl
        refine pure_ (i := 7) (N := some 145) (v := ?_) (a' := ?_) #[true, true, true, true, true, true, true, true, false, false, false, false, false, false] rfl rfl (by kernel_rfl) (fun _ _ _ h => h) (Or.inl ⟨by rfl, ?_⟩) ?_ ?_
        rotate_left
        · intro w'
          go_simp
          with_reducible rfl
        rotate_left
        · simp only [Act.put, List.setIfInBounds_toArray, List.set_cons_zero, List.set_cons_succ, i64_w, i32_w]
          rfl
        refine take_ (i := 8) (N := some 146) (v := ?_) (a' := ?_) #[true, true, true, true, true, true, true, true, true, false, false, false, false, false] rfl rfl (by kernel_rfl) (fun _ _ _ h => h) (Or.inl ⟨by rfl, ?_⟩) hHeld ?_ ?_
        rotate_left
        · rintro w' ⟨s0, s1, s2, s3⟩
          go_simp
          with_reducible rfl
        rotate_left
        · simp only [Act.put, List.setIfInBounds_toArray, List.set_cons_zero, List.set_cons_succ, i64_w, i32_w]
          rfl
        refine take_ (i := 10) (N := some 148) (v := ?_) (a' := ?_) #[true, true, true, true, true, true, true, true, true, false, true, false, false, false] rfl rfl (by kernel_rfl) (fun _ _ _ h => h) (Or.inl ⟨by rfl, ?_⟩) hHeld ?_ ?_
        rotate_left
        · rintro w' ⟨s0, s1, s2, s3⟩
          go_simp
          with_reducible rfl
        rotate_left
        · simp only [Act.put, List.setIfInBounds_toArray, List.set_cons_zero, List.set_cons_succ, i64_w, i32_w]
          rfl
        refine one_ (i := 9) (N := some 147) #[true, true, true, true, true, true, true, true, true, true, true, false, false, false] rfl rfl (by kernel_rfl) (by decide) (fun K hK => ?_)
        refine goes_ Try.func23 (by kernel_rfl) rfl #[.agg #[.int .u16 xfi, .int .u32 xfs]] (by rfl) rfl rfl (by simp only [List.map_toArray, List.map_cons, List.map_nil]; rfl) ?_
        with_reducible refine (number_any _ _ HRg.out.1 HRg.out.2.1 HRg.out.2.2.1 HRg.out.2.2.2 _).mono ?_
        rintro e u2 ⟨rfl, hfq⟩
        refine ⟨_, rfl, ?_⟩
        have HV := Lib.hid (Fr.at hfq HV.out (by simp))
        have HL := Lib.hid (Fr.at hfq HL.out (by simp))
        have HK1 := Lib.hid (Fr.via (S := []) hfq HK1.out rfl rfl rfl rfl (by simp))
        clear hfq
        refine hK.out _ _ ⟨(bk_cell HV.out 0).trans rfl, (bk_cell HV.out 1).trans rfl, (bk_cell HL.out 0).trans rfl, (bk_cell HL.out 1).trans rfl⟩ (fun hHeld => ?_)
        clear hK K
        refine norm_ (a' := ?_) ?_ ?_
        rotate_left
        · show Act.put _ (some 147) _ = _
          simp only [Act.put, List.setIfInBounds_toArray, List.set_cons_zero, List.set_cons_succ, i64_w, i32_w]
          rfl
        refine one_ (i := 11) (N := some 149) #[true, true, true, true, true, true, true, true, true, true, true, true, false, false] rfl rfl (by kernel_rfl) (by decide) (fun K hK => ?_)
        refine goes_ Try.func23 (by kernel_rfl) rfl #[.agg #[.int .u16 li, .int .u32 lS]] (by rfl) rfl rfl (by simp only [List.map_toArray, List.map_cons, List.map_nil]; rfl) ?_
        with_reducible refine (number_any _ _ HLr.out.1 HLr.out.2.1 HLr.out.2.2.1 HLr.out.2.2.2 _).mono ?_
        rintro e u3 ⟨rfl, hfq⟩
        refine ⟨_, rfl, ?_⟩
        have HV := Lib.hid (Fr.at hfq HV.out (by simp))
        have HL := Lib.hid (Fr.at hfq HL.out (by simp))
        have HK1 := Lib.hid (Fr.via (S := []) hfq HK1.out rfl rfl rfl rfl (by simp))
        clear hfq
        refine hK.out _ _ ⟨(bk_cell HV.out 0).trans rfl, (bk_cell HV.out 1).trans rfl, (bk_cell HL.out 0).trans rfl, (bk_cell HL.out 1).trans rfl⟩ (fun hHeld => ?_)
        clear hK K
        refine norm_ (a' := ?_) ?_ ?_
        rotate_left
        · show Act.put _ (some 149) _ = _
          simp only [Act.put, List.setIfInBounds_toArray, List.set_cons_zero, List.set_cons_succ, i64_w, i32_w]
          rfl
        refine pure_ (i := 12) (N := some 150) (v := ?_) (a' := ?_) #[true, true, true, true, true, true, true, true, true, true, true, true, true, false] rfl rfl (by kernel_rfl) (fun _ _ _ h => h) (Or.inl ⟨by rfl, ?_⟩) ?_ ?_
        rotate_left
        · intro w'
          go_simp
          with_reducible rfl
        rotate_left
        · simp only [Act.put, List.setIfInBounds_toArray, List.set_cons_zero, List.set_cons_succ, i64_w, i32_w]
          rfl
        refine pure_ (i := 13) (N := some 151) (v := ?_) (a' := ?_) #[true, true, true, true, true, true, true, true, true, true, true, true, true, true] rfl rfl (by kernel_rfl) (fun _ _ _ h => h) (Or.inl ⟨by rfl, ?_⟩) ?_ ?_
        rotate_left
        · intro w'
          go_simp
          with_reducible rfl
        rotate_left
        · simp only [Act.put, List.setIfInBounds_toArray, List.set_cons_zero, List.set_cons_succ, i64_w, i32_w]
          rfl
        refine done_ (by kernel_rfl) ?_
        clear hHeld
        have HV := HV
        have HL := HL
        go_wp2_with (first
          | ((with_reducible refine gate_op (.load 34 (.tmp 24)) rfl ?_); go_must (refine ev_load 34 (.tmp 24) rfl rfl rfl rfl HV.out Try.underlying34 rfl size34 rfl ?_))
          | ((with_reducible refine gate_op (.store 34 (.tmp 12) (.tmp 152)) rfl ?_); go_must (refine ev_store 34 (.tmp 12) (.tmp 152) rfl rfl rfl rfl rfl HL.out size34 rfl rfl rfl ?_); intro u5 hb5 hf5))
        go_roundg (gk - 1)
        case measure => have := HK.out; omega
        case rel => exact ⟨k + 1, P, inc, ls, lv, q, ⟨xf, xfi, xfs, xb, xbi, xbs, xwt, xft⟩, s, r, M, wn, Lib.hid (by have := HK.out; omega), by omega, rfl, rfl, by go_num, Lib.hid (wat_last (wat_keep HWt.out HK1.out) hf5 hb5), HIt, HSt, Lib.hid (by have := HBd.out; omega), Lib.hid ((HKt.out.trans HK1.out (by simp)).trans hf5 (wat_new HWt.out (Nat.le_refl _) (by simp)))⟩
      · have hwr : IntKind.u16.wrap (inc + 1) = inc + 1 := IntWalk.u16_in _ (by have := HBd.out; omega)
        have HIt := Lib.hid (wi_inc HI.out)
        have HLe := HLe0
        go_wp2_with (first
          | ((with_reducible refine gate_op (.load 66 (.tmp 60)) rfl ?_); go_must (refine ev_loadAt 66 (.tmp 60) rfl rfl rfl rfl HRK.out Try.underlying66 rfl size66 rfl ?_))
          | ((with_reducible refine gate_op (.store 66 (.tmp 16) (.tmp 61)) rfl ?_); go_must (refine ev_store 66 (.tmp 16) (.tmp 61) rfl rfl rfl rfl rfl (bk_new _ _) size66 rfl rfl rfl ?_); intro w1 hb1 hf1; have hcx := bk_cell hb1; have hxl : wr.heap.size < w1.heap.size := bk_lt hb1; have hxn : ¬ wr.heap.size = w1.heap.size := Nat.ne_of_lt hxl; have hxn2 : ¬ w1.heap.size = wr.heap.size := Ne.symm hxn; go_must (have K1 := Lib.hid (((Fr.refl wr []).alloc _).trans hf1 (by simp)); have HW1 := Lib.hid (wat_keep HW.out K1.out); have HX1 := Lib.hid hb1; clear hb1 hf1))
          | (go_at_call 8; refine (newPub_in sz (inc + 1) (by omega) (by omega) _).mono ?_; rintro e wt ⟨rfl, hp6, hf6⟩; go_must (have HWt := Lib.hid (wat_newpub (q' := ⟨⟨#[]⟩, 0, 0, 0, 0⟩) HW1.out hf6 hp6 (by have a := HFr.out.size; omega)); have HKt := Lib.hid ((HFr.out.step K1.out).step hf6); have HSt := HS; clear hp6 hf6 hcx hxl hxn hxn2)))
        have HFnd := Lib.hid (HIt.out.uniq _ HIt.out.front)
        have HFa := Lib.hid HIt.out.fault
        have HRg := Lib.hid (HIt.out.rng _ HIt.out.front)
        have HLr := Lib.hid (show 0 ≤ li ∧ li ≤ 65535 ∧ 0 ≤ lS ∧ lS ≤ 4294967295 from HLv.out)
        obtain ⟨xf, xfi, xfs, xb, xbi, xbs, xwt, xft⟩ := x
        have e1 : (xf.toList != xf.toList) = false := by simp
        have e2 : decide (numV xfi xfs < numV li lS) = false := by simpa using HLe.out
        have e3 : ¬ numV xfi xfs < numV li lS := by simpa using HLe.out
        go_wp2_with (first
          | (go_at_call 16; refine (sfront_any h g xf xfi xfs xb xbi xbs xwt xft _ HWt.out.sub).mono ?_; rintro e u1 ⟨rfl, hv1⟩; go_must (have HK1 := Lib.hid (hv1.alloc (.cells #[.int .u16 xfi, .int .u32 xfs] 34)); have HV := Lib.hid (bk_new u1 (.cells #[.int .u16 xfi, .int .u32 xfs] 34)); have HL := Lib.hid (bk_keep HWt.out.last HK1.out (by simp)); have HM := Lib.hid (mp_keep HWt.out.map HK1.out (by simp)); have HVL := Lib.hid (show u1.heap.size ≠ L from by have a := bk_lt HWt.out.last; have b := hv1.size; omega)))
          | ((with_reducible refine gate_op (.load 34 (.tmp 24)) rfl ?_); go_must (refine ev_load 34 (.tmp 24) rfl rfl rfl rfl HV.out Try.underlying34 rfl size34 rfl ?_))
          | ((with_reducible refine gate_op (.lookup 63 (.tmp 133) (.tmp 134) true) rfl ?_); go_must (refine ev_vlook (.tmp 133) (.tmp 134) rfl rfl rfl rfl rfl HM.out HFnd.out ?_)))
        clear HM
        refine start_ (n := 14) (S := fun w' => w'.cell? ⟨u1.heap.size, 0, none⟩ = some (.int .u16 xfi) ∧ w'.cell? ⟨u1.heap.size, 1, none⟩ = some (.int .u32 xfs) ∧ w'.cell? ⟨L, 0, none⟩ = some (.int .u16 li) ∧ w'.cell? ⟨L, 1, none⟩ = some (.int .u32 lS)) (ds := []) #[false, false, false, false, false, false, false, false, false, false, false, false, false, false] (by kernel_rfl) rfl rfl ⟨(bk_cell HV.out 0).trans rfl, (bk_cell HV.out 1).trans rfl, (bk_cell HL.out 0).trans rfl, (bk_cell HL.out 1).trans rfl⟩ (fun hHeld => ?_)
        refine pure_ (i := 0) (N := some 138) (v := ?_) (a' := ?_) #[true, false, false, false, false, false, false, false, false, false, false, false, false, false] rfl rfl (by kernel_rfl) (fun _ _ _ h => h) (Or.inl ⟨by rfl, ?_⟩) ?_ ?_
        rotate_left
        · intro w'
          go_simp
          with_reducible rfl
        rotate_left
        · simp only [Act.put, List.setIfInBounds_toArray, List.set_cons_zero, List.set_cons_succ, i64_w, i32_w]
          rfl
        refine pure_ (i := 1) (N := some 139) (v := ?_) (a' := ?_) #[true, true, false, false, false, false, false, false, false, false, false, false, false, false] rfl rfl (by kernel_rfl) (fun _ _ _ h => h) (Or.inl ⟨by rfl, ?_⟩) ?_ ?_
        rotate_left
        · intro w'
          go_simp
          with_reducible rfl
        rotate_left
        · simp only [Act.put, List.setIfInBounds_toArray, List.set_cons_zero, List.set_cons_succ, i64_w, i32_w]
          rfl
        refine pure_ (i := 2) (N := some 140) (v := ?_) (a' := ?_) #[true, true, true, false, false, false, false, false, false, false, false, false, false, false] rfl rfl (by kernel_rfl) (fun _ _ _ h => h) (Or.inl ⟨by rfl, ?_⟩) ?_ ?_
        rotate_left
        · intro w'
          go_simp
          with_reducible rfl
        rotate_left
        · simp only [Act.put, List.setIfInBounds_toArray, List.set_cons_zero, List.set_cons_succ, i64_w, i32_w]
          rfl
        refine pure_ (i := 3) (N := some 141) (v := ?_) (a' := ?_) #[true, true, true, true, false, false, false, false, false, false, false, false, false, false] rfl rfl (by kernel_rfl) (fun _ _ _ h => h) (Or.inl ⟨by rfl, ?_⟩) ?_ ?_
        rotate_left
        · intro w'
          go_simp
          with_reducible rfl
        rotate_left
        · simp only [Act.put, List.setIfInBounds_toArray, List.set_cons_zero, List.set_cons_succ, i64_w, i32_w]
          rfl
        refine pure_ (i := 4) (N := some 142) (v := ?_) (a' := ?_) #[true, true, true, true, true, false, false, false, false, false, false, false, false, false] rfl rfl (by kernel_rfl) (fun _ _ _ h => h) (Or.inl ⟨by rfl, ?_⟩) ?_ ?_
        rotate_left
        · intro w'
          go_simp
          with_reducible rfl
        rotate_left
        · simp only [Act.put, List.setIfInBounds_toArray, List.set_cons_zero, List.set_cons_succ, i64_w, i32_w]
          rfl
        refine pure_ (i := 5) (N := some 143) (v := ?_) (a' := ?_) #[true, true, true, true, true, true, false, false, false, false, false, false, false, false] rfl rfl (by kernel_rfl) (fun _ _ _ h => h) (Or.inl ⟨by rfl, ?_⟩) ?_ ?_
        rotate_left
        · intro w'
          go_simp
          with_reducible rfl
        rotate_left
        · simp only [Act.put, List.setIfInBounds_toArray, List.set_cons_zero, List.set_cons_succ, i64_w, i32_w]
          rfl
        refine pure_ (i := 6) (N := some 144) (v := ?_) (a' := ?_) #[true, true, true, true, true, true, true, false, false, false, false, false, false, false] rfl rfl (by kernel_rfl) (fun _ _ _ h => h) (Or.inl ⟨by rfl, ?_⟩) ?_ ?_
        rotate_left
        · intro w'
          go_simp
          with_reducible rfl
        rotate_left
        · simp only [Act.put, List.setIfInBounds_toArray, List.set_cons_zero, List.set_cons_succ, i64_w, i32_w]
          rfl
        refine pure_ (i := 7) (N := some 145) (v := ?_) (a' := ?_) #[true, true, true, true, true, true, true, true, false, false, false, false, false, false] rfl rfl (by kernel_rfl) (fun _ _ _ h => h) (Or.inl ⟨by rfl, ?_⟩) ?_ ?_
        rotate_left
        · intro w'
          go_simp
          with_reducible rfl
        rotate_left
        · simp only [Act.put, List.setIfInBounds_toArray, List.set_cons_zero, List.set_cons_succ, i64_w, i32_w]
          rfl
        refine take_ (i := 8) (N := some 146) (v := ?_) (a' := ?_) #[true, true, true, true, true, true, true, true, true, false, false, false, false, false] rfl rfl (by kernel_rfl) (fun _ _ _ h => h) (Or.inl ⟨by rfl, ?_⟩) hHeld ?_ ?_
        rotate_left
        · rintro w' ⟨s0, s1, s2, s3⟩
          go_simp
          with_reducible rfl
        rotate_left
        · simp only [Act.put, List.setIfInBounds_toArray, List.set_cons_zero, List.set_cons_succ, i64_w, i32_w]
          rfl
        refine take_ (i := 10) (N := some 148) (v := ?_) (a' := ?_) #[true, true, true, true, true, true, true, true, true, false, true, false, false, false] rfl rfl (by kernel_rfl) (fun _ _ _ h => h) (Or.inl ⟨by rfl, ?_⟩) hHeld ?_ ?_
        rotate_left
        · rintro w' ⟨s0, s1, s2, s3⟩
          go_simp
          with_reducible rfl
        rotate_left
        · simp only [Act.put, List.setIfInBounds_toArray, List.set_cons_zero, List.set_cons_succ, i64_w, i32_w]
          rfl
        refine one_ (i := 9) (N := some 147) #[true, true, true, true, true, true, true, true, true, true, true, false, false, false] rfl rfl (by kernel_rfl) (by decide) (fun K hK => ?_)
        refine goes_ Try.func23 (by kernel_rfl) rfl #[.agg #[.int .u16 xfi, .int .u32 xfs]] (by rfl) rfl rfl (by simp only [List.map_toArray, List.map_cons, List.map_nil]; rfl) ?_
        with_reducible refine (number_any _ _ HRg.out.1 HRg.out.2.1 HRg.out.2.2.1 HRg.out.2.2.2 _).mono ?_
        rintro e u2 ⟨rfl, hfq⟩
        refine ⟨_, rfl, ?_⟩
        have HV := Lib.hid (Fr.at hfq HV.out (by simp))
        have HL := Lib.hid (Fr.at hfq HL.out (by simp))
        have HK1 := Lib.hid (Fr.via (S := []) hfq HK1.out rfl rfl rfl rfl (by simp))
        clear hfq
        refine hK.out _ _ ⟨(bk_cell HV.out 0).trans rfl, (bk_cell HV.out 1).trans rfl, (bk_cell HL.out 0).trans rfl, (bk_cell HL.out 1).trans rfl⟩ (fun hHeld => ?_)
        clear hK K
        refine norm_ (a' := ?_) ?_ ?_
        rotate_left
        · show Act.put _ (some 147) _ = _
          simp only [Act.put, List.setIfInBounds_toArray, List.set_cons_zero, List.set_cons_succ, i64_w, i32_w]
          rfl
        refine one_ (i := 11) (N := some 149) #[true, true, true, true, true, true, true, true, true, true, true, true, false, false] rfl rfl (by kernel_rfl) (by decide) (fun K hK => ?_)
        refine goes_ Try.func23 (by kernel_rfl) rfl #[.agg #[.int .u16 li, .int .u32 lS]] (by rfl) rfl rfl (by simp only [List.map_toArray, List.map_cons, List.map_nil]; rfl) ?_
        with_reducible refine (number_any _ _ HLr.out.1 HLr.out.2.1 HLr.out.2.2.1 HLr.out.2.2.2 _).mono ?_
        rintro e u3 ⟨rfl, hfq⟩
        refine ⟨_, rfl, ?_⟩
        have HV := Lib.hid (Fr.at hfq HV.out (by simp))
        have HL := Lib.hid (Fr.at hfq HL.out (by simp))
        have HK1 := Lib.hid (Fr.via (S := []) hfq HK1.out rfl rfl rfl rfl (by simp))
        clear hfq
        refine hK.out _ _ ⟨(bk_cell HV.out 0).trans rfl, (bk_cell HV.out 1).trans rfl, (bk_cell HL.out 0).trans rfl, (bk_cell HL.out 1).trans rfl⟩ (fun hHeld => ?_)
        clear hK K
        refine norm_ (a' := ?_) ?_ ?_
        rotate_left
        · show Act.put _ (some 149) _ = _
          simp only [Act.put, List.setIfInBounds_toArray, List.set_cons_zero, List.set_cons_succ, i64_w, i32_w]
          rfl
        refine pure_ (i := 12) (N := some 150) (v := ?_) (a' := ?_) #[true, true, true, true, true, true, true, true, true, true, true, true, true, false] rfl rfl (by kernel_rfl) (fun _ _ _ h => h) (Or.inl ⟨by rfl, ?_⟩) ?_ ?_
        rotate_left
        · intro w'
          go_simp
          with_reducible rfl
        rotate_left
        · simp only [Act.put, List.setIfInBounds_toArray, List.set_cons_zero, List.set_cons_succ, i64_w, i32_w]
          rfl
        refine pure_ (i := 13) (N := some 151) (v := ?_) (a' := ?_) #[true, true, true, true, true, true, true, true, true, true, true, true, true, true] rfl rfl (by kernel_rfl) (fun _ _ _ h => h) (Or.inl ⟨by rfl, ?_⟩) ?_ ?_
        rotate_left
        · intro w'
          go_simp
          with_reducible rfl
        rotate_left
        · simp only [Act.put, List.setIfInBounds_toArray, List.set_cons_zero, List.set_cons_succ, i64_w, i32_w]
          rfl
        refine done_ (by kernel_rfl) ?_
        clear hHeld
        have HV := HV
        have HL := HL
        go_wp2_with (first
          | ((with_reducible refine gate_op (.load 34 (.tmp 24)) rfl ?_); go_must (refine ev_load 34 (.tmp 24) rfl rfl rfl rfl HV.out Try.underlying34 rfl size34 rfl ?_))
          | ((with_reducible refine gate_op (.store 34 (.tmp 12) (.tmp 152)) rfl ?_); go_must (refine ev_store 34 (.tmp 12) (.tmp 152) rfl rfl rfl rfl rfl HL.out size34 rfl rfl rfl ?_); intro u5 hb5 hf5))
        go_roundg (gk - 1)
        case measure => have := HK.out; omega
        case rel => exact ⟨k + 1, _, (inc + 1), 0, ⟨#[]⟩, ⟨⟨#[]⟩, 0, 0, 0, 0⟩, ⟨xf, xfi, xfs, xb, xbi, xbs, xwt, xft⟩, s, r, M, wn, Lib.hid (by have := HK.out; omega), by omega, rfl, rfl, by go_num, Lib.hid (wat_last (wat_keep HWt.out HK1.out) hf5 hb5), HIt, HSt, Lib.hid (by have := HBd.out; have := HI.out.ls0; omega), Lib.hid ((HKt.out.trans HK1.out (by simp)).trans hf5 (wat_new HWt.out (Nat.le_refl _) (by simp)))⟩
    · have hge : ¬ (k : Int) < n := by omega
      obtain ⟨xf, xfi, xfs, xb, xbi, xbs, xwt, xft⟩ := x
      have HFa := Lib.hid HI.out.fault
      have hfa : xft = false := HFa.out
      subst hfa
      go_wp2_with (go_at_call 17; refine (fault_any _ _ _ _ _ _ _ _ _ _ _ HW.out.sub).mono ?_; rintro e w' ⟨rfl, rfl⟩)
      go_ret
      exact ⟨rfl, HFr.out⟩
end
end Go.Proofs.Ytpfabaoefkokjaa
