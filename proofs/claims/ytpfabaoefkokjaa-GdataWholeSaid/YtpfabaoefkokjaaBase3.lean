/-
  Loads of whole structs in a region that draws.
-/
import Derived.Test.YtpfabaoefkokjaaBase2
namespace Go.Proofs.Ytpfabaoefkokjaa
open Go.RowKit
section
variable {P : Program} {ops : Array Oper} {rest : List Oper} {o : Oper} {a : Act} {Q : Exit → Act → World → Prop} {W : World}
theorem es_load (ty : TypeId) (x : Operand) (ho : o.op = .load ty x) {N : Tmp} (hd : o.dst = some N) {Kc : Act → World → Prop} (hw : Region.wanted o (yielded ops a.tmps) = true) {g : Nat} {cs : Array Value} {t : TypeId} {d : TypeDesc}
    (hx : a.eval x = .pointer (some ⟨g, 0, none⟩)) (hg : W.heap[g]? = some (.cells cs t (0, 0))) (hu : P.underlying ty = some d) (hr : d.isRow = true) {n : Nat} (hi : (P.info? ty).map (·.size) = some n) (hn : cs.size = n)
    (h : Kc (a.put (some N) (.agg cs)) W) : if Region.wanted o (yielded ops a.tmps) = true then o.wp P a W Kc Q else Kc (a.put o.dst undef) W := by
  subst hn
  rw [if_pos hw]
  refine wp_load_row ty x ho g hx t cs (0, 0) d hg hu (by cases d <;> first | rfl | exact hr) hi ?_
  rw [hd]
  exact h
end
end Go.Proofs.Ytpfabaoefkokjaa
