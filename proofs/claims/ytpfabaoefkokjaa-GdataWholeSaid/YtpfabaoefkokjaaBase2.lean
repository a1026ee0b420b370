/-
  More words on worlds.
-/
import Derived.Test.YtpfabaoefkokjaaBase
import Derived.Laws.IdiomStrings
namespace Go.Proofs.Ytpfabaoefkokjaa
open Go.RowKit

theorem Fr.at {w w1 : World} {S : List Nat} {g : Nat} {o : Obj} (k : Fr w w1 S) (h : w.heap[g]? = some o) (hn : g ∉ S) : w1.heap[g]? = some o := bk_keep h k hn
/-- Two steps that meet at worlds of the same memory. -/
theorem Fr.via {w w0 w1 w2 : World} {S S' : List Nat} (k : Fr w1 w2 S') (h : Fr w w0 S) (e1 : w1.heap = w0.heap) (e2 : w1.os = w0.os) (e3 : w1.tape = w0.tape) (e4 : w1.output = w0.output) (hs : ∀ i, i ∈ S' → i ∈ S ∨ w.heap.size ≤ i) : Fr w w2 S :=
  Fr.trans ⟨e2.trans h.os, e3.trans h.tape, e4.trans h.output, by rw [e1]; exact h.size, fun i hi hn => by rw [e1]; exact h.block i hi hn⟩ k hs
section
variable {P : Program} {ops : Array Oper} {rest : List Oper} {o : Oper} {a : Act} {Q : Exit → Act → World → Prop} {W : World}
/-- 'string(b)' of a whole block of bytes. -/
theorem ev_bytes (s d : TypeId) (x : Operand) (ho : o.op = .convert s d x) (hgd : o.guard = none) {N : Tmp} (hd : o.dst = some N) {e : TypeId} (hs : P.underlying s = some (.slice e)) (he : P.underlying e = some (.int .u8)) (hdt : P.underlying d = some .string)
    {g n c : Nat} {l : List UInt8} {t : TypeId} (hx : a.eval x = .slice (some ⟨g, 0, none⟩) n c) (hg : W.heap[g]? = some (.cells (bC l) t (0, 0))) (hl : l.length = n)
    (h : wpList P ops Q rest (a.put (some N) (.string ⟨l.toArray⟩)) W) : wpList P ops Q (o :: rest) a W := by
  subst hl
  refine wpList_plain hgd fun K hK => ?_
  have hr := run_convert_bytes_back (P := P) W s d e ⟨g, 0, none⟩ c l hs he hdt (fun j hj => by
    rw [Addr.add_mid, Nat.zero_add, bk_cell hg]
    simp [bC, hj])
  have hrun : (execOp a.eval o).run P W = .ok (.value (.string ⟨l.toArray⟩)) W := by
    simp [execOp, ho, hx, hr]
  unfold Oper.wp
  rw [hrun]
  have hh := hK _ _ h
  rw [← hd] at hh
  exact hh
end
end Go.Proofs.Ytpfabaoefkokjaa
