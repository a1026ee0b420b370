/-
  A text is copied into bytes, as far as both go.
-/
import Derived.Test.YtpfabaoefkokjaaBase4
namespace Go.Proofs.Ytpfabaoefkokjaa
open Go.RowKit
section
variable {P : Program}
theorem run_copyStrMin (w : World) (dT sT ty elem : TypeId) (g dLen dCap : Nat) (s : ByteArray) (l : List UInt8) (t : TypeId) (hu : P.underlying dT = some (.slice elem)) (hs : (P.info? elem).map (·.size) = some 1)
    (hg : w.heap[g]? = some (.cells (bC l) t (0, 0))) (hl : l.length = dLen) :
    (Builtin.copy_ #[dT, sT] ty #[.slice (some ⟨g, 0, none⟩) dLen dCap, .string s]).run P w = .ok (goInt (Nat.min s.size dLen)) (w.setRow g (bC (splB l 0 (s.toList.take dLen)))) := by
  have hlt : (s.toList.take dLen).length = Nat.min s.size dLen := by rw [List.length_take, ba_len, Nat.min_comm]
  have hlen : (Lib.byteCells (s.toList.take dLen)).length = Nat.min s.size dLen := by rw [Lib.byteCells_length, hlt]
  have hle : Nat.min s.size dLen ≤ dLen := Nat.min_le_right _ _
  have hst := run_storeCells_at P g 0 t (Lib.byteCells (s.toList.take dLen)) 0 (bC l) w hg (by rw [hlen]; simp [bC]; omega) (Lib.byteCells_one _)
  have htk : List.take (Nat.min s.size dLen) (List.map (fun b : UInt8 => Value.int IntKind.u8 (b.toNat : Int)) s.data.toList) = Lib.byteCells (s.toList.take dLen) := by
    rw [ByteArray.toList_eq]
    unfold Lib.byteCells
    rw [List.map_take]
    rw [List.take_eq_take_iff, List.length_map, Array.length_toList]
    show min (min s.size dLen) s.data.size = min dLen s.data.size
    have : s.size = s.data.size := rfl
    omega
  rw [hlen] at hst
  simp only [Nat.add_zero] at hst
  cases hq : P.info? elem with
  | none => simp [hq] at hs
  | some i =>
    simp [Builtin.copy_, run_underlying hu, Builtin.lenOf, Builtin.firstCells, sizeOf, typeInfo, hq]
    rw [htk, hst]
    simp [Result.andThen, bC, splB, Lib.byteCells, hlt, List.map_drop]
variable {ops : Array Oper} {rest : List Oper} {o : Oper} {a : Act} {Q : Exit → Act → World → Prop} {W : World}
theorem ev_copyMin (d x : Operand) (dT sT : TypeId) (hop : o.op = .call { callee := .builtin .copy, args := #[d, x], argTypes := #[dT, sT] }) (hgd : o.guard = none) {N : Tmp} (hd : o.dst = some N)
    {elem : TypeId} (hu : P.underlying dT = some (.slice elem)) (hs : (P.info? elem).map (·.size) = some 1) {g dLen dCap : Nat} {s : ByteArray} {l : List UInt8} {t : TypeId}
    (hda : a.eval d = .slice (some ⟨g, 0, none⟩) dLen dCap) (hx : a.eval x = .string s) (hg : W.heap[g]? = some (.cells (bC l) t (0, 0))) (hl : l.length = dLen)
    (h : ∀ w1, w1.heap[g]? = some (.cells (bC (splB l 0 (s.toList.take dLen))) t (0, 0)) → Fr W w1 [g] → wpList P ops Q rest (a.put (some N) (goInt (Nat.min s.size dLen))) w1) : wpList P ops Q (o :: rest) a W := by
  have hrun := run_copyStrMin (P := P) W dT sT o.type elem g dLen dCap s l t hu hs hg hl
  have hh := h _ (bk_setRow hg) (fr_setRow _ _ _)
  rw [← hd] at hh
  refine wpList_plain hgd fun K hK => ?_
  have hk := hK _ _ hh
  unfold Oper.wp
  simp [execOp, hop, resolve, invoke, builtin, hda, hx, hrun, Result.andThen]
  exact hk
end
/-- A text cut off, or filled up with bytes 0. -/
def fitB (n : Nat) (s : ByteArray) : ByteArray := ⟨(splB (List.replicate n 0) 0 (s.toList.take n)).toArray⟩
theorem fitB_size (n : Nat) (s : ByteArray) : (fitB n s).size = n := by
  show (splB (List.replicate n 0) 0 (s.toList.take n)).toArray.size = n
  simp [splB]
  omega
end Go.Proofs.Ytpfabaoefkokjaa
