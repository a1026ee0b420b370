/-
  Words on worlds that the proofs of this seat share: what a call leaves as it was, and what a block holds.
-/
import Derived.WalkKit
import Derived.WalkSpells
import Derived.WalkLawsBesides
import Derived.Lib.Hide
import Derived.Deep.MidRow
import Derived.Laws.ResultCell
import Derived.Deep.LoopGhost
import Derived.Deep.QuietTactic
import Derived.BigQuiet
import Derived.Deep.RegionHeld3
import Derived.Lib.BufferWrite
namespace Go.Proofs.Ytpfabaoefkokjaa
open Go.RowKit

/-- From w to w' only the blocks of S may have turned, and new blocks may have come. -/
structure Fr (w w' : World) (S : List Nat) : Prop where
  os : w'.os = w.os
  tape : w'.tape = w.tape
  output : w'.output = w.output
  size : w.heap.size ≤ w'.heap.size
  block : ∀ k, k < w.heap.size → k ∉ S → w'.heap[k]? = w.heap[k]?

theorem ba_len (s : ByteArray) : s.toList.length = s.size := by rw [ByteArray.toList_eq]; exact Array.length_toList
theorem ba_ext {a b : ByteArray} (h : a.toList = b.toList) : a = b := by
  rw [ByteArray.toList_eq, ByteArray.toList_eq] at h
  exact ByteArray.ext (Array.ext' h)
theorem ba_nil {s : ByteArray} (h : s.size = 0) : s = ⟨#[]⟩ := ByteArray.ext (Array.eq_empty_of_size_eq_zero h)

section
variable {w w1 w2 : World} {S S' : List Nat} {g : Nat} {o : Obj}
theorem Fr.refl (w : World) (S : List Nat) : Fr w w S := ⟨rfl, rfl, rfl, Nat.le_refl _, fun _ _ _ => rfl⟩
theorem Fr.trans (h : Fr w w1 S) (k : Fr w1 w2 S') (hs : ∀ i, i ∈ S' → i ∈ S ∨ w.heap.size ≤ i) : Fr w w2 S :=
  ⟨k.os.trans h.os, k.tape.trans h.tape, k.output.trans h.output, Nat.le_trans h.size k.size,
    fun i hi hn => (k.block i (Nat.lt_of_lt_of_le hi h.size) (fun h2 => (hs i h2).elim hn (fun h3 => by omega))).trans (h.block i hi hn)⟩
theorem Fr.mono (h : Fr w w1 S') (hs : ∀ i, i ∈ S' → i ∈ S) : Fr w w1 S := ⟨h.os, h.tape, h.output, h.size, fun i hi hn => h.block i hi (fun h2 => hn (hs i h2))⟩
theorem Fr.of_below (h : Below w.heap.size w w1) : Fr w w1 S := ⟨h.os, h.tape, h.output, h.size, fun i hi _ => h.block i hi⟩
theorem Fr.below (h : Fr w w1 []) : Below w.heap.size w w1 := ⟨h.os, h.tape, h.output, h.size, fun i hi => h.block i hi (by simp)⟩
/-- What a call leaves that writes no old block. -/
theorem Fr.step (h : Fr w w1 S) (k : Fr w1 w2 []) : Fr w w2 S := h.trans k (by simp)
theorem Fr.drew (h : Fr w w1 S) : Fr w w1.drew S := ⟨h.os, h.tape, h.output, h.size, h.block⟩
theorem Fr.drewN (h : Fr w w1 S) (n : Nat) : Fr w (w1.drewN n) S := ⟨h.os, h.tape, h.output, h.size, h.block⟩
theorem Fr.alloc (h : Fr w w1 S) (o : Obj) : Fr w (w1.alloc o) S :=
  h.trans (S' := []) ⟨rfl, rfl, rfl, by simp, fun k hk _ => Below.heap_alloc _ _ _ hk⟩ (by simp)
theorem Fr.set_ (h : Fr w w1 S) {p : Addr} (hp : p.block ∈ S ∨ w.heap.size ≤ p.block) (u : Value) : Fr w (w1.setCell p u) S :=
  h.trans (S' := [p.block]) ⟨rfl, rfl, rfl, by simp [World.setCell], fun k _ hn => Below.heap_setCell _ _ _ _ (by simpa using hn)⟩
    (fun i hi => by have : i = p.block := by simpa using hi
                    subst this; exact hp)
theorem Fr.setIn (h : Fr w w1 S) {p : Addr} (hp : p.block ∈ S) (u : Value) : Fr w (w1.setCell p u) S := h.set_ (.inl hp) u
theorem Fr.setNew (h : Fr w w1 S) {p : Addr} (hp : w.heap.size ≤ p.block) (u : Value) : Fr w (w1.setCell p u) S := h.set_ (.inr hp) u
theorem Fr.grown (h : Fr w w1 S) {row : Option Nat} (k : w1.grownBy w2 row) (hr : ∀ i, row = some i → i ∈ S ∨ w.heap.size ≤ i) : Fr w w2 S :=
  ⟨k.os.trans h.os, k.tape.trans h.tape, k.output.trans h.output, Nat.le_trans h.size k.size,
    fun i hi hn => (k.block i (Nat.lt_of_lt_of_le hi h.size) (fun h2 => (hr i h2.symm).elim hn (fun h3 => by omega))).trans (h.block i hi hn)⟩

theorem bk_lt (h : w.heap[g]? = some o) : g < w.heap.size := (Array.getElem?_eq_some_iff.1 h).1
theorem bk_keep (h : w.heap[g]? = some o) (k : Fr w w1 S) (hn : g ∉ S) : w1.heap[g]? = some o := (k.block g (bk_lt h) hn).trans h
theorem bk_drew (h : w.heap[g]? = some o) : w.drew.heap[g]? = some o := h
theorem bk_drewN (h : w.heap[g]? = some o) (n : Nat) : (w.drewN n).heap[g]? = some o := h
theorem bk_alloc (h : w.heap[g]? = some o) (o' : Obj) : (w.alloc o').heap[g]? = some o := (Below.heap_alloc w o' g (bk_lt h)).trans h
theorem bk_new (w : World) (o : Obj) : (w.alloc o).heap[w.heap.size]? = some o := by show (w.heap.push o)[w.heap.size]? = _; simp
theorem bk_newAt (hg : g = w.heap.size) : (w.alloc o).heap[g]? = some o := by subst hg; exact bk_new w o
theorem bk_far {p : Addr} (h : w.heap[g]? = some o) (hp : g ≠ p.block) (u : Value) : (w.setCell p u).heap[g]? = some o := (Below.heap_setCell w p u g hp).trans h
theorem bk_put {t : TypeId} {f : Nat × Nat} {cs cs' : Array Value} (h : w.heap[g]? = some (.cells cs t f)) (i : Nat) (u : Value) (e : cs.setIfInBounds i u = cs') : (w.setCell ⟨g, i, none⟩ u).heap[g]? = some (.cells cs' t f) := by
  subst e
  simp [World.setCell, Array.getElem?_modify, h]
theorem bk_cell {t : TypeId} {f : Nat × Nat} {cs : Array Value} (h : w.heap[g]? = some (.cells cs t f)) (i : Nat) : w.cell? ⟨g, i, none⟩ = cs[i]? := by simp [World.cell?, h]
theorem bk_free {t : TypeId} {cs : Array Value} (h : w.heap[g]? = some (.cells cs t (0, 0))) (i : Nat) : w.frozen? ⟨g, i, none⟩ = false := by simp [World.frozen?, h]
theorem bk_ne {g' : Nat} {t t' : TypeId} {f f' : Nat × Nat} {cs cs' : Array Value} (h : w.heap[g]? = some (.cells cs t f)) (h' : w.heap[g']? = some (.cells cs' t' f')) (hne : t ≠ t') : g ≠ g' := by
  rintro rfl
  rw [h] at h'
  injection h' with h'
  injection h' with _ h2
  exact hne h2
theorem bk_setRow {t : TypeId} {cs cs' : Array Value} (h : w.heap[g]? = some (.cells cs t (0, 0))) : (w.setRow g cs').heap[g]? = some (.cells cs' t (0, 0)) := setRow_heap w g cs cs' t (0, 0) h
theorem fr_setRow (w : World) (g : Nat) (cs : Array Value) : Fr w (w.setRow g cs) [g] := ⟨rfl, rfl, rfl, by simp, fun k _ hn => setRow_other w g k cs (by simpa using hn)⟩
end

theorem fold_set : ∀ (l : List Value) (k : Nat) (cs : Array Value), k + l.length = cs.size →
    (l.zipIdx k).foldl (fun (cs : Array Value) (p : Value × Nat) => cs.setIfInBounds p.2 p.1) cs = (cs.toList.take k ++ l).toArray
  | [], k, cs, h => by
    simp at h
    simp [h, ← Array.length_toList]
  | x :: l, k, cs, h => by
    simp only [List.length_cons] at h
    rw [List.zipIdx_cons, List.foldl_cons, fold_set l (k + 1) _ (by simp; omega)]
    congr 1
    have hk : k < cs.toList.length := by simp; omega
    rw [Array.toList_setIfInBounds, List.take_set, List.set_eq_take_append_cons_drop]
    have h2 : k < min (k + 1) cs.size := by omega
    simp [h2, List.take_take]
section
variable {P : Program}
theorem run_buildSlice_one (W : World) (t e : TypeId) (z : Value) (size : Nat) (ht : P.underlying t = some (.slice e)) (hinfo : (P.info? e).map (fun i => (i.zero, i.size)) = some (some z, size)) (hz : z.cells.size = size)
    (v : Value) (hv : v.cells.size = size) (h0 : 0 < size) (h1 : size ≤ 1000000) :
    (Instr.buildSlice t 1 #[(0, v)]).run P W = .ok (.slice (some ⟨W.heap.size, 0, none⟩) 1 1) (W.alloc (.cells v.cells e)) := by
  obtain ⟨i0, hi, hzz⟩ := Option.map_eq_some_iff.1 hinfo
  simp only [Prod.mk.injEq] at hzz
  obtain ⟨hz0, hz1⟩ := hzz
  subst hz1
  have hfill : Instr.fill (fun i => some (i * i0.size, i0.size)) ((Array.range (1 * i0.size)).map (z.cells[· % z.cells.size]!)) [(0, v)] = some v.cells := by
    unfold Instr.fill
    simp only [Nat.zero_mul, Nat.zero_add, Nat.one_mul, Array.size_map, Array.size_range]
    rw [if_neg (by simp [hv])]
    unfold Instr.fill
    congr 1
    have := fold_set v.cells.toList 0 ((Array.range i0.size).map (z.cells[· % z.cells.size]!)) (by simp [hv])
    rw [← Array.foldl_toList]
    simpa using this
  unfold Instr.buildSlice
  simp [Sem.run_bind, run_underlying ht, sizeOf, typeInfo, hi, zeroValue, hz0, Result.andThen]
  rw [Nat.one_mul] at hfill
  rw [if_neg (by omega), if_neg (by omega), hfill]
  simp [newRow]
end

/-! Steps of a walk that leave a world of which only facts are known. -/
section
variable {P : Program} {ops : Array Oper} {rest : List Oper} {o : Oper} {a : Act} {Q : Exit → Act → World → Prop} {W : World}
/-- Asks whether this is the operation that is meant. -/
theorem gate_op (op : Op) (_ho : o.op = op) (h : wpList P ops Q (o :: rest) a W) : wpList P ops Q (o :: rest) a W := h
/-- A whole struct is stored. -/
theorem ev_store (ty : TypeId) (x y : Operand) (ho : o.op = .store ty x y) (hgd : o.guard = none) (hd : o.dst = none) {g : Nat} {cells old : Array Value} {t : TypeId}
    (hx : a.eval x = .pointer (some ⟨g, 0, none⟩)) (hy : a.eval y = .agg cells) (hg : W.heap[g]? = some (.cells old t (0, 0))) {n : Nat} (hi : (P.info? ty).map (·.size) = some n)
    (hn : cells.size = n) (hold : old.size = n) (h1 : cells.toList.all (·.oneCell') = true)
    (h : ∀ w1, w1.heap[g]? = some (.cells cells t (0, 0)) → Fr W w1 [g] → wpList P ops Q rest a w1) : wpList P ops Q (o :: rest) a W := by
  subst hn
  refine wpList_store_row hgd ty x y ho g cells hx hy t old hg hi hold (by rw [← Array.all_toList]; exact h1) ?_
  rw [hd]
  exact h _ (bk_setRow hg) (fr_setRow _ _ _)
/-- The same in a region that draws. -/
theorem es_store (ty : TypeId) (x y : Operand) (ho : o.op = .store ty x y) (hd : o.dst = none) {Kc : Act → World → Prop} (hw : Region.wanted o (yielded ops a.tmps) = true) {g : Nat} {cells old : Array Value} {t : TypeId}
    (hx : a.eval x = .pointer (some ⟨g, 0, none⟩)) (hy : a.eval y = .agg cells) (hg : W.heap[g]? = some (.cells old t (0, 0))) {n : Nat} (hi : (P.info? ty).map (·.size) = some n)
    (hn : cells.size = n) (hold : old.size = n) (h1 : cells.toList.all (·.oneCell') = true)
    (h : ∀ w1, w1.heap[g]? = some (.cells cells t (0, 0)) → Fr W w1 [g] → Kc a w1) :
    if Region.wanted o (yielded ops a.tmps) = true then o.wp P a W Kc Q else Kc (a.put o.dst undef) W := by
  subst hn
  rw [if_pos hw]
  refine wp_store_row ty x y ho g cells hx hy t old hg hi hold (by rw [← Array.all_toList]; exact h1) ?_
  rw [hd]
  exact h _ (bk_setRow hg) (fr_setRow _ _ _)
/-- An operation that makes one block and hands its address on. -/
theorem ev_new {N : Tmp} (hd : o.dst = some N) (hgd : o.guard = none) {cs : Array Value} {t : TypeId}
    (hrun : (execOp a.eval o).run P W = .ok (.value (.pointer (some ⟨W.heap.size, 0, none⟩))) (W.alloc (.cells cs t (0, 0))))
    (h : ∀ g, g = W.heap.size → ∀ w1, w1.heap[g]? = some (.cells cs t (0, 0)) → Fr W w1 [] → wpList P ops Q rest (a.put (some N) (.pointer (some ⟨g, 0, none⟩))) w1) : wpList P ops Q (o :: rest) a W := by
  refine wpList_plain hgd fun K hK => ?_
  unfold Oper.wp
  rw [hrun]
  have hh := hK _ _ (h _ rfl _ (bk_new W _) ((Fr.refl _ _).alloc _))
  rw [← hd] at hh
  exact hh
theorem es_new {N : Tmp} (hd : o.dst = some N) {Kc : Act → World → Prop} (hw : Region.wanted o (yielded ops a.tmps) = true) {cs : Array Value} {t : TypeId}
    (hrun : (execOp a.eval o).run P W = .ok (.value (.pointer (some ⟨W.heap.size, 0, none⟩))) (W.alloc (.cells cs t (0, 0))))
    (h : ∀ g, g = W.heap.size → ∀ w1, w1.heap[g]? = some (.cells cs t (0, 0)) → Fr W w1 [] → Kc (a.put (some N) (.pointer (some ⟨g, 0, none⟩))) w1) :
    if Region.wanted o (yielded ops a.tmps) = true then o.wp P a W Kc Q else Kc (a.put o.dst undef) W := by
  rw [if_pos hw]
  unfold Oper.wp
  rw [hrun]
  have hh := h _ rfl _ (bk_new W _) ((Fr.refl _ _).alloc _)
  rw [← hd] at hh
  exact hh
/-- A whole struct is loaded out of a block of its own. -/
theorem ev_load (ty : TypeId) (x : Operand) (ho : o.op = .load ty x) (hgd : o.guard = none) {N : Tmp} (hd : o.dst = some N) {g : Nat} {cs : Array Value} {t : TypeId} {d : TypeDesc}
    (hx : a.eval x = .pointer (some ⟨g, 0, none⟩)) (hg : W.heap[g]? = some (.cells cs t (0, 0))) (hu : P.underlying ty = some d) (hr : d.isRow = true) {n : Nat} (hi : (P.info? ty).map (·.size) = some n) (hn : cs.size = n)
    (h : wpList P ops Q rest (a.put (some N) (.agg cs)) W) : wpList P ops Q (o :: rest) a W := by
  subst hn
  refine wpList_load_row hgd ty x ho g hx t cs (0, 0) d hg hu (by cases d <;> first | rfl | exact hr) hi ?_
  rw [hd]
  exact h
/-- A whole struct is loaded out of the midst of a block. -/
theorem ev_loadAt (ty : TypeId) (x : Operand) (ho : o.op = .load ty x) (hgd : o.guard = none) {N : Tmp} (hd : o.dst = some N) {b i : Nat} {cs : List Value} {d : TypeDesc}
    (hx : a.eval x = .pointer (some ⟨b, i, none⟩)) (hc : W.rangeAt b i cs) (hu : P.underlying ty = some d) (hr : d.isRow = true) {n : Nat} (hi : (P.info? ty).map (·.size) = some n) (hn : cs.length = n)
    (h : wpList P ops Q rest (a.put (some N) (.agg cs.toArray)) W) : wpList P ops Q (o :: rest) a W := by
  subst hn
  refine wpList_load_mid hgd ty x ho b i hx cs d hc hu hr hi ?_
  rw [hd]
  exact h
/-- Results: a struct in a block of its own, and a slot. -/
theorem ret_cell_tmp {fn : Func} {p u : Tmp} {ty : TypeId} (hr : fn.results = #[.cell p ty, .tmp u]) {tmps : Array Value} {g : Nat} {cs : Array Value} {t : TypeId} {d : TypeDesc}
    (hp : tmps.getD p undef = .pointer (some ⟨g, 0, none⟩)) (hg : W.heap[g]? = some (.cells cs t (0, 0))) (hu : P.underlying ty = some d) (hd : d.isRow = true) {n : Nat} (hi : (P.info? ty).map (·.size) = some n) (hn : cs.size = n)
    {v : Value} (hv : tmps.getD u undef = v) : (results fn tmps).run P W = .ok (.tuple #[.agg cs, v]) W := by
  subst hv
  subst hn
  rw [results_cell_tmp hr, hp]
  have hl := run_loadVar_row (P := P) W g t ty cs (0, 0) d hg hu (by cases d <;> first | rfl | exact hd) hi
  simp [asAddr, hl, Result.andThen]
/-- An append onto a slice of the call's own. -/
theorem ev_append (hgd : o.guard = none) (s x : Operand) (t : TypeId) (ho : o.op = .call { callee := .builtin .append, args := #[s, x], argTypes := #[t, t] }) {N : Tmp} (hd : o.dst = some N)
    (base : Nat) (e : TypeId) (z : Value) (size bytes : Nat) (ht : P.underlying t = some (.slice e)) (hinfo : (P.info? e).map (fun i => (i.zero, i.size, i.bytes)) = some (some z, size, bytes)) (hz : z.cells.size = size) (hsz : 0 < size)
    {v : Value} {n : Nat} {xs : List Value} (hs : a.eval s = v) (hown : W.ownsRow base e size v n xs)
    {ad : Addr} {m c : Nat} {news : List Value} (hx : a.eval x = .slice (some ad) m c) (hl : news.length = m * size) (hnews : ∀ j u, news[j]? = some u → W.cell? (ad.add j) = some u) (h1 : news.all (·.oneCell') = true)
    (h63 : n + m ≤ maxLen) (hbytes : (n + m) * bytes ≤ 140737488355328) (hbase : base ≤ W.heap.size)
    (h : ∀ v' w1, w1.ownsRow base e size v' (n + m) (xs ++ news) → W.grownBy w1 v.ownBlock → wpList P ops Q rest (a.put (some N) v') w1) : wpList P ops Q (o :: rest) a W := by
  obtain ⟨i0, hi, hzz⟩ := Option.map_eq_some_iff.1 hinfo
  simp only [Prod.mk.injEq] at hzz
  obtain ⟨hz0, hz1, hz2⟩ := hzz
  refine wpList_append_own W hgd s x t ho base e i0 z size bytes ht hi hz0 hz1 hz2 hz hsz v n xs hs hown ad m c news hx hl hnews (fun u hu => List.all_eq_true.1 h1 u hu) h63 hbytes hbase ?_
  intro v' w' h2 h3 _
  rw [hd]
  exact h v' w' h2 h3
/-- What was just made lies there. -/
theorem cells_new (w : World) (cs : List Value) (t : TypeId) : ∀ j u, cs[j]? = some u → (w.alloc (.cells cs.toArray t)).cell? ((⟨w.heap.size, 0, none⟩ : Addr).add j) = some u := fun j u hu => by
  rw [Addr.add_mid, Nat.zero_add, bk_cell (bk_new w _)]
  simpa using hu
theorem own_ge {w : World} {base : Nat} {e : TypeId} {size : Nat} {v : Value} {n : Nat} {xs : List Value} (h : w.ownsRow base e size v n xs) {B : Nat} (hB : B ≤ base) : ∀ i, v.ownBlock = some i → B ≤ i := fun i hi => Nat.le_trans hB (h.lt i hi).1
/-- A row of the call's own beside what turned. -/
theorem own_keep {w w1 : World} {S : List Nat} {base : Nat} {e : TypeId} {size : Nat} {v : Value} {n : Nat} {xs : List Value} (h : w.ownsRow base e size v n xs) (k : Fr w w1 S) (hn : ∀ i, v.ownBlock = some i → i ∉ S) : w1.ownsRow base e size v n xs := by
  obtain ⟨h1, h2⟩ := h
  refine ⟨h1, ?_⟩
  rcases h2 with h2 | ⟨g, cap, cur, rfl, hb, hg, hr⟩
  · exact .inl h2
  · exact .inr ⟨g, cap, cur, rfl, hb, bk_keep hg k (hn g rfl), hr⟩
theorem own_lower {w : World} {base b2 : Nat} {e : TypeId} {size : Nat} {v : Value} {n : Nat} {xs : List Value} (h : w.ownsRow base e size v n xs) (hb : b2 ≤ base) : w.ownsRow b2 e size v n xs := by
  obtain ⟨h1, h2⟩ := h
  refine ⟨h1, ?_⟩
  rcases h2 with h2 | ⟨g, cap, cur, rfl, hb', hr⟩
  · exact .inl h2
  · exact .inr ⟨g, cap, cur, rfl, Nat.le_trans hb hb', hr⟩
theorem own_slice {w : World} {base : Nat} {e : TypeId} {size : Nat} {v : Value} {n : Nat} {xs : List Value} (h : w.ownsRow base e size v n xs) : ∃ A c, v = .slice A n c ∧ (0 < n → ∃ g, A = some ⟨g, 0, none⟩) := by
  rcases h.2 with ⟨rfl, rfl⟩ | ⟨g, cap, cur, rfl, _⟩
  · exact ⟨none, 0, rfl, fun h => absurd h (by omega)⟩
  · exact ⟨_, cap, rfl, fun _ => ⟨g, rfl⟩⟩
theorem ev_build1 (t : TypeId) (x : Operand) (ho : o.op = .buildSlice t 1 #[(0, x)]) (hgd : o.guard = none) {N : Tmp} (hd : o.dst = some N) {e : TypeId} {z : Value} {size : Nat} (ht : P.underlying t = some (.slice e))
    (hinfo : (P.info? e).map (fun i => (i.zero, i.size)) = some (some z, size)) (hz : z.cells.size = size) (h0 : 0 < size) (h1 : size ≤ 1000000) {v : Value} (hx : a.eval x = v) {cs : Array Value} (hv : v.cells = cs) (hs : cs.size = size)
    (h : wpList P ops Q rest (a.put (some N) (.slice (some ⟨W.heap.size, 0, none⟩) 1 1)) (W.alloc (.cells cs e))) : wpList P ops Q (o :: rest) a W := by
  subst hv
  refine wpList_plain hgd fun K hK => ?_
  have hr := run_buildSlice_one (P := P) W t e z size ht hinfo hz v hs h0 h1
  have hrun : (execOp a.eval o).run P W = .ok (.value (.slice (some ⟨W.heap.size, 0, none⟩) 1 1)) (W.alloc (.cells v.cells e)) := by
    simp [execOp, ho, hx, hr]
  unfold Oper.wp
  rw [hrun]
  have hh := hK _ _ h
  rw [← hd] at hh
  exact hh
theorem range_keep {w w1 : World} {S : List Nat} {b o : Nat} {cs : List Value} (h : w.rangeAt b o cs) (k : Fr w w1 S) (hn : b ∉ S) : w1.rangeAt b o cs := fun j v hv => by
  have h2 := h j v hv
  exact (World.cell?_of_block (w := w) (k.block b (World.block_lt_of_cell? w _ h2) hn)).trans h2
theorem range_lt {w : World} {b o : Nat} {cs : List Value} (h : w.rangeAt b o cs) (h0 : cs ≠ []) : b < w.heap.size := by
  cases cs with
  | nil => exact absurd rfl h0
  | cons x r => exact World.block_lt_of_cell? w _ (h 0 x rfl)
theorem range_left {w : World} {b o : Nat} {cs ds : List Value} (h : w.rangeAt b o (cs ++ ds)) : w.rangeAt b o cs := fun j v hv => h j v (by
  have hj := (List.getElem?_eq_some_iff.1 hv).1
  rw [List.getElem?_append_left hj]
  exact hv)
theorem range_right {w : World} {b o n : Nat} {cs ds : List Value} (h : w.rangeAt b o (cs ++ ds)) (hn : cs.length = n) : w.rangeAt b (o + n) ds := fun j v hv => by
  have h2 := h (n + j) v (by rw [List.getElem?_append_right (by omega), show n + j - cs.length = j by omega]; exact hv)
  rw [Nat.add_assoc]
  exact h2
theorem own_range {w : World} {base : Nat} {e : TypeId} {size g n cap : Nat} {xs : List Value} (h : w.ownsRow base e size (.slice (some ⟨g, 0, none⟩) n cap) n xs) : w.rangeAt g 0 xs := fun j v hv => by
  rw [Nat.zero_add, h.cellAt j (by have := (List.getElem?_eq_some_iff.1 hv).1; have := h.1; omega)]
  exact hv
theorem own_cap {w : World} {base : Nat} {e : TypeId} {size n : Nat} {A : Option Addr} {c : Nat} {xs : List Value} (h : w.ownsRow base e size (.slice A n c) n xs) : n ≤ c := by
  rcases h.2 with ⟨h1, h2⟩ | ⟨g, cap, cur, h1, _, _, h3, _⟩
  · omega
  · injection h1 with _ _ h1
    omega
theorem range_set {w : World} {b o : Nat} {cs : List Value} (h : w.rangeAt b o cs) {p : Addr} (hp : b ≠ p.block) (v : Value) : (w.setCell p v).rangeAt b o cs :=
  range_keep h ((Fr.refl w [p.block]).setIn (by simp) v) (by simpa using hp)
theorem made_one (z : Value) (n : Nat) : madeCells #[z] n = (List.replicate n z).toArray := Array.ext' (by rw [toList_madeCells_one])
/-- A slice is made, as long as its capacity. -/
theorem ev_make (t : TypeId) (x y : Operand) (ho : o.op = .makeSlice t x y) (hgd : o.guard = none) {N : Tmp} (hd : o.dst = some N) {e : TypeId} {z : Value} {size bytes : Nat} (ht : P.underlying t = some (.slice e))
    (hinfo : (P.info? e).map (fun i => (i.zero, i.size, i.bytes)) = some (some z, size, bytes)) {n : Nat} (hx : a.eval x = .int .i64 n) (hy : a.eval y = .int .i64 n) (hl : n * bytes ≤ 281474976710656) (hn : n ≤ 281474976710656)
    {cs : Array Value} (hc : madeCells z.cells (n * size) = cs)
    (h : wpList P ops Q rest (a.put (some N) (.slice (some ⟨W.heap.size, 0, none⟩) n n)) (W.alloc (.cells cs e))) : wpList P ops Q (o :: rest) a W := by
  subst hc
  obtain ⟨i0, hi, hzz⟩ := Option.map_eq_some_iff.1 hinfo
  simp only [Prod.mk.injEq] at hzz
  obtain ⟨hz0, hz1, hz2⟩ := hzz
  subst hz1
  have hr := run_make (P := P) W t e i0 z ht hi hz0 .i64 .i64 (n : Int) (n : Int) (by omega) (by omega)
    (by have h3 : ((i0.bytes * n : Nat) : Int) ≤ 281474976710656 := by rw [hz2, Nat.mul_comm]; omega
        rwa [Int.natCast_mul] at h3) (by omega)
  simp only [Int.toNat_natCast] at hr
  refine wpList_plain hgd fun K hK => ?_
  have hrun : (execOp a.eval o).run P W = .ok (.value (.slice (some ⟨W.heap.size, 0, none⟩) n n)) (W.alloc (.cells (madeCells z.cells (n * i0.size)) e)) := by
    simp [execOp, ho, hx, hy, hr]
  unfold Oper.wp
  rw [hrun]
  have hh := hK _ _ h
  rw [← hd] at hh
  exact hh
/-- The cells of bytes. -/
def bC (l : List UInt8) : Array Value := (l.map (fun b => Value.int .u8 b.toNat)).toArray
/-- Bytes with others in their place from one on. -/
def splB (l : List UInt8) (off : Nat) (m : List UInt8) : List UInt8 := l.take off ++ m ++ l.drop (off + m.length)
theorem run_copyStr (w : World) (dT sT ty elem : TypeId) (g o dLen dCap : Nat) (s : ByteArray) (l : List UInt8) (t : TypeId) (hu : P.underlying dT = some (.slice elem)) (hs : (P.info? elem).map (·.size) = some 1)
    (hg : w.heap[g]? = some (.cells (bC l) t (0, 0))) (hle : s.size ≤ dLen) (hfit : o + s.size ≤ l.length) :
    (Builtin.copy_ #[dT, sT] ty #[.slice (some ⟨g, o, none⟩) dLen dCap, .string s]).run P w = .ok (goInt s.size) (w.setRow g (bC (splB l o s.toList))) := by
  rw [Lib.run_copy_row_string w dT sT ty elem g o dLen dCap s (bC l) t hu hs hg hle (by simpa [bC] using hfit)]
  congr 2
  simp [bC, splB, Lib.byteCells, ByteArray.toList_eq, List.map_take, List.map_drop]
theorem es_copyStr (d x : Operand) (dT sT : TypeId) (hop : o.op = .call { callee := .builtin .copy, args := #[d, x], argTypes := #[dT, sT] }) {N : Tmp} (hd : o.dst = some N) {Kc : Act → World → Prop} (hw : Region.wanted o (yielded ops a.tmps) = true)
    {elem : TypeId} (hu : P.underlying dT = some (.slice elem)) (hs : (P.info? elem).map (·.size) = some 1) {g off dLen dCap : Nat} {s : ByteArray} {l : List UInt8} {t : TypeId}
    (hda : a.eval d = .slice (some ⟨g, off, none⟩) dLen dCap) (hx : a.eval x = .string s) (hg : W.heap[g]? = some (.cells (bC l) t (0, 0))) (hle : s.size ≤ dLen) (hfit : off + s.size ≤ l.length)
    (h : ∀ w1, w1.heap[g]? = some (.cells (bC (splB l off s.toList)) t (0, 0)) → Fr W w1 [g] → Kc (a.put (some N) (.int .i64 s.size)) w1) :
    if Region.wanted o (yielded ops a.tmps) = true then o.wp P a W Kc Q else Kc (a.put o.dst undef) W := by
  rw [if_pos hw]
  have hrun := run_copyStr (P := P) W dT sT o.type elem g off dLen dCap s l t hu hs hg hle hfit
  have hh := h _ (bk_setRow hg) (fr_setRow _ _ _)
  rw [← hd] at hh
  unfold Oper.wp
  simp [execOp, hop, resolve, invoke, builtin, hda, hx, hrun, Result.andThen]
  exact hh
end
end Go.Proofs.Ytpfabaoefkokjaa
