/- A look-up in the map of ranges; a record in a block of its own. No condition. -/
import Derived.Test.YtaogmfchpcdboaaRecord
namespace Go.Proofs.Ytaogmfchpcdboaa
open Go.RowKit Go.Proofs.YtaogmfchpcdboaaW.PrintWords

theorem look_bad {w1 : World} {r : Nat} (h : SpansAt w1 r) {k : Int} (hk : kindOk k = false) (W : World) (hW : W.heap[r]? = w1.heap[r]?) :
    (Instr.lookup 58 (.map (some r)) (.int .i64 k) true).run Try.prog W = .ok (.tuple #[.slice none 0 0, .bool false]) W := by
  obtain ⟨es, c, h1, h2, h3⟩ := h.es
  rw [look_run W r es c k (hW.trans h1) h2, (h3 k).1 hk]
  rfl
theorem look_ok {w1 : World} {r : Nat} (h : SpansAt w1 r) {k : Int} (hk : kindOk k = true) : ∃ A, (∀ W : World, W.heap[r]? = w1.heap[r]? →
    (Instr.lookup 58 (.map (some r)) (.int .i64 k) true).run Try.prog W = .ok (.tuple #[.slice A (rangesOf k).length (rangesOf k).length, .bool true]) W) ∧ Kd.C PIntentPuts.k67 w1 A (rangesOf k).length (rangesOf k) := by
  obtain ⟨es, c, h1, h2, h3⟩ := h.es
  obtain ⟨A, h4, h5⟩ := (h3 k).2 hk
  refine ⟨A, fun W hW => ?_, h5⟩
  rw [look_run W r es c k (hW.trans h1) h2, h4]
  rfl

def recCells (k : Int) (b : Bd) : Array Value := (recVal k b).cells
def Boxed (s : Nat) (k : Int) (b : Bd) (W : World) : Prop := W.heap[s]? = some (.cells (recCells k b) 41)
theorem Boxed.kind {s : Nat} {k : Int} {b : Bd} {W : World} (h : Boxed s k b W) : W.cell? ⟨s, 0, none⟩ = some (.int .i64 k) := by
  have h' : W.heap[s]? = some (.cells (recCells k b) 41) := h
  simp [World.cell?, h', recCells, recVal, Value.cells]
theorem Boxed.below {s : Nat} {k : Int} {b : Bd} {W W1 : World} (h : Boxed s k b W) (hb : Below W.heap.size W W1) : Boxed s k b W1 := by
  have hl : s < W.heap.size := (Array.getElem?_eq_some_iff.1 h).1
  exact (hb.block s hl).trans h
theorem Boxed.new (k : Int) (b : Bd) (w : World) : Boxed w.heap.size k b (w.alloc (.cells (recCells k b) 41)) := by
  unfold Boxed
  rw [heap_at, if_pos rfl]
theorem Boxed.drew {s : Nat} {k : Int} {b : Bd} {W : World} (h : Boxed s k b W) : Boxed s k b W.drew := h
end Go.Proofs.Ytaogmfchpcdboaa
