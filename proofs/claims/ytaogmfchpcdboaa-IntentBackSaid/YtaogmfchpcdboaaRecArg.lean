/- A record as an argument: whatever fits its type is a record. No condition. -/
import Derived.Test.YtaogmfchpcdboaaRec
namespace Go.Proofs.Ytaogmfchpcdboaa
open Go.RowKit Go.Proofs.YtaogmfchpcdboaaW.PrintWords

theorem cell_int {w : World} {r : Reach} {base : Nat} {v : Value} (h : Cell.okWide Try.prog w r base 3 v) : ∃ n, v = .int .i64 n := by
  simp only [Cell.okWide, Try.underlying3, Cell.ok] at h
  cases v <;> simp_all
theorem cell_bool {w : World} {r : Reach} {base : Nat} {v : Value} (h : Cell.okWide Try.prog w r base 4 v) : ∃ n, v = .bool n := by
  simp only [Cell.okWide, Try.underlying4, Cell.ok] at h
  cases v <;> simp_all
theorem types41 : Try.prog.cellTypes Try.prog.depth 41 = some [3, 3, 3, 3, 3, 3, 4, 3, 3, 3, 3, 3, 3, 4, 4, 3, 3, 3, 3] := by kernel_rfl
theorem cells41 : Try.prog.cellsOf 41 = 19 := by kernel_rfl
theorem list19 {α : Type} {l : List α} (h : l.length = 19) : ∃ c0 c1 c2 c3 c4 c5 c6 c7 c8 c9 c10 c11 c12 c13 c14 c15 c16 c17 c18, l = [c0, c1, c2, c3, c4, c5, c6, c7, c8, c9, c10, c11, c12, c13, c14, c15, c16, c17, c18] := by
  match l, h with
  | [c0, c1, c2, c3, c4, c5, c6, c7, c8, c9, c10, c11, c12, c13, c14, c15, c16, c17, c18], _ => exact ⟨_, _, _, _, _, _, _, _, _, _, _, _, _, _, _, _, _, _, _, rfl⟩
theorem rec_of {w : World} {r : Reach} {base : Nat} {v : Value} (h : Value.okWide Try.prog w r base 41 v) : ∃ k b, v = recVal k b := by
  simp only [Value.okWide, Try.underlying41] at h
  obtain ⟨⟨l⟩, rfl, hs, ts, hts, _, hc⟩ := h
  rw [types41] at hts
  cases hts
  rw [cells41] at hs
  obtain ⟨c0, c1, c2, c3, c4, c5, c6, c7, c8, c9, c10, c11, c12, c13, c14, c15, c16, c17, c18, rfl⟩ := list19 (l := l) hs
  have I : ∀ (i : Nat) (v : Value), (#[c0, c1, c2, c3, c4, c5, c6, c7, c8, c9, c10, c11, c12, c13, c14, c15, c16, c17, c18] : Array Value)[i]? = some v → [3, 3, 3, 3, 3, 3, 4, 3, 3, 3, 3, 3, 3, 4, 4, 3, 3, 3, 3][i % 19]? = some 3 → ∃ n, v = .int .i64 n := by
    intro i v hv ht
    obtain ⟨u, hu, hk⟩ := hc i v hv
    obtain rfl : 3 = u := Option.some.inj (ht.symm.trans hu)
    exact cell_int hk
  have B : ∀ (i : Nat) (v : Value), (#[c0, c1, c2, c3, c4, c5, c6, c7, c8, c9, c10, c11, c12, c13, c14, c15, c16, c17, c18] : Array Value)[i]? = some v → [3, 3, 3, 3, 3, 3, 4, 3, 3, 3, 3, 3, 3, 4, 4, 3, 3, 3, 3][i % 19]? = some 4 → ∃ n, v = .bool n := by
    intro i v hv ht
    obtain ⟨u, hu, hk⟩ := hc i v hv
    obtain rfl : 4 = u := Option.some.inj (ht.symm.trans hu)
    exact cell_bool hk
  obtain ⟨n0, rfl⟩ := I 0 c0 rfl rfl
  obtain ⟨n1, rfl⟩ := I 1 c1 rfl rfl
  obtain ⟨n2, rfl⟩ := I 2 c2 rfl rfl
  obtain ⟨n3, rfl⟩ := I 3 c3 rfl rfl
  obtain ⟨n4, rfl⟩ := I 4 c4 rfl rfl
  obtain ⟨n5, rfl⟩ := I 5 c5 rfl rfl
  obtain ⟨n6, rfl⟩ := B 6 c6 rfl rfl
  obtain ⟨n7, rfl⟩ := I 7 c7 rfl rfl
  obtain ⟨n8, rfl⟩ := I 8 c8 rfl rfl
  obtain ⟨n9, rfl⟩ := I 9 c9 rfl rfl
  obtain ⟨n10, rfl⟩ := I 10 c10 rfl rfl
  obtain ⟨n11, rfl⟩ := I 11 c11 rfl rfl
  obtain ⟨n12, rfl⟩ := I 12 c12 rfl rfl
  obtain ⟨n13, rfl⟩ := B 13 c13 rfl rfl
  obtain ⟨n14, rfl⟩ := B 14 c14 rfl rfl
  obtain ⟨n15, rfl⟩ := I 15 c15 rfl rfl
  obtain ⟨n16, rfl⟩ := I 16 c16 rfl rfl
  obtain ⟨n17, rfl⟩ := I 17 c17 rfl rfl
  obtain ⟨n18, rfl⟩ := I 18 c18 rfl rfl
  exact ⟨n0, ⟨n1, n2, n3, n4, n5, n6, n7, n8, n9, n10, n11, n12, n13, n14, n15, n16, n17, n18⟩, rfl⟩
end Go.Proofs.Ytaogmfchpcdboaa
