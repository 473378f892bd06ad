/- intent.record: the record that it makes of a kind and its numbers. No condition. -/
import Derived.Test.YtaogmfchpcdboaaFields
import Derived.Deep.RegionHeld3
import Derived.Handy
import Derived.Laws.Rows
import Derived.Laws.Tables
namespace Go.Proofs.Ytaogmfchpcdboaa
open Go.RowKit Go.Proofs.YtaogmfchpcdboaaW.PrintWords
set_option linter.unusedSimpArgs false
theorem add0 (ad : Addr) : ad.add 0 = ad := by unfold Addr.add; rfl
theorem int_at {w : World} {ad : Addr} {n : Nat} {xs : List Int} (h : Kd.C (Kd.int .i64) w (some ad) n xs) (i : Nat) (x : Int) (hx : xs[i + 1]? = some x) : w.cell? ⟨ad.block, ad.off + (i + 1), none⟩ = some (.int .i64 x) := by
  have hl : i + 1 < xs.length := (List.getElem?_eq_some_iff.1 hx).1
  have hl2 : i + 1 < n := by rw [← h.1]; exact hl
  obtain ⟨a2, e, k⟩ := Kd.at_int h ((i + 1 : Nat) : Int) (by omega) (by omega)
  cases e
  have e1 : rd xs ((i + 1 : Nat) : Int) = x := by
    simp [rd, hx]
  rw [e1] at k
  exact k
theorem int_at0 {w : World} {A : Option Addr} {n : Nat} {x : Int} {xs : List Int} (h : Kd.C (Kd.int .i64) w A n (x :: xs)) : ∃ ad, A = some ad ∧ w.cell? ad = some (.int .i64 x) ∧ ad.block < w.heap.size := by
  have hn := h.1
  simp only [List.length_cons] at hn
  obtain ⟨ad, e, k⟩ := Kd.at_int h 0 (by decide) (by omega)
  have e0 : ad.add (Int.toNat 0) = ad := add0 ad
  rw [e0] at k
  exact ⟨ad, e, k, World.block_lt_of_cell? w _ k⟩
open Go.ChangeMaps (setBlock)

theorem objAt_drew (w : World) (r : Nat) : objAt w.drew r = objAt w r := rfl
theorem setBlock_drew (w : World) (r : Nat) (o : Obj) : setBlock w.drew r o = (setBlock w r o).drew := rfl
theorem gate_load {P : Program} {ops : Array Oper} {rest : List Oper} {o : Oper} {a : Act} {Q : Exit → Act → World → Prop} {W : World} {t : TypeId} {p : Tmp} (_ho : o.op = .load t (.tmp p)) (h : wpList P ops Q (o :: rest) a W) : wpList P ops Q (o :: rest) a W := h
/-- A whole struct into a block, and out of it. -/
theorem wpList_store_block {P : Program} {ops : Array Oper} {rest : List Oper} {o : Oper} {a : Act} {w : World} {Q : Exit → Act → World → Prop} (hgd : o.guard = none) (ty : TypeId) (x y : Operand) (ho : o.op = .store ty x y)
    (g : Nat) (cells : Array Value) (hx : a.eval x = .pointer (some ⟨g, 0, none⟩)) (hy : a.eval y = .agg cells)
    (t : TypeId) (old : Array Value) (hg : objAt w g = some (.cells old t)) (hi : (P.info? ty).map (·.size) = some cells.size)
    (hold : old.size = cells.size) (h1 : cells.all (·.oneCell') = true)
    (h : wpList P ops Q rest (a.put o.dst undef) (setBlock w g (.cells cells t))) : wpList P ops Q (o :: rest) a w := by
  refine wpList_store_row hgd ty x y ho g cells hx hy t old hg hi hold h1 ?_
  have e : w.setRow g cells = setBlock w g (.cells cells t) := by
    have hg' : w.heap[g]? = some (.cells old t) := hg
    unfold World.setRow setBlock
    simp only [World.mk.injEq, and_true]
    apply Array.ext_getElem?
    intro i
    rw [Array.getElem?_modify, Array.getElem?_setIfInBounds]
    have hl : g < w.heap.size := (Array.getElem?_eq_some_iff.1 hg').1
    by_cases hi : g = i
    · subst hi
      simp only [if_true, hg', hl]
      rfl
    · simp [hi]
  rw [e]
  exact h
def RecordPost (k : Int) (f : List Int) (w : World) (e : Ending) (w' : World) : Prop := e = .returned (recVal k (bodyOf k f)) ∧ Below w.heap.size w w'
set_option maxHeartbeats 16000000 in
set_option maxRecDepth 100000 in
theorem record1 (A : Option Addr) (n c : Nat) (x0 x1 x2 : Int) (w : World) (hC : Kd.C (Kd.int .i64) w A n [x0, x1, x2]) (hc : n ≤ c) : Calls Try.prog 29 #[.int .i64 1, .slice A n c] w (RecordPost 1 [x0, x1, x2] w) := by
  have hn : n = 3 := hC.1.symm
  subst hn
  obtain ⟨ad, rfl, k0, hlt⟩ := int_at0 hC
  have k1 := int_at hC 0 x1 rfl
  have k2 := int_at hC 1 x2 rfl
  simp only [Nat.zero_add, Nat.reduceAdd] at k1 k2
  have hne : ad.block ≠ w.heap.size + 1 := by omega
  have hne0 : ad.block ≠ w.heap.size := by omega
  clear hC
  go_enter Try.func29, Try.ntmps29
  go_wp2_with (first | ((with_reducible refine gate_store (t := 41) rfl ?_); refine wpList_store_block rfl 41 _ _ rfl _ _ (by rfl) (by rfl) 41 _ (by simp only [objAt_alloc, objAt_drew]; go_simp; first | rfl | exact ⟨rfl, rfl⟩) (by kernel_rfl) (by rfl) (by simp [Value.oneCell']) ?_; simp only [setBlock_alloc, setBlock_drew]; go_simp) | ((with_reducible refine gate_load (t := 41) rfl ?_); refine wpList_load_row rfl 41 _ rfl _ (by rfl) 41 _ (0, 0) _ (by simp only [heap_at, heap_drew]; go_simp; first | rfl | exact ⟨rfl, rfl⟩) Try.underlying41 rfl (by kernel_rfl) ?_; go_simp))
  go_region_held3 (fun W => W.cell? ad = some (.int .i64 x0) ∧ W.cell? ⟨ad.block, ad.off + 1, none⟩ = some (.int .i64 x1) ∧ W.cell? ⟨ad.block, ad.off + 2, none⟩ = some (.int .i64 x2)) (go_keep) (fail)
  all_goals (rename_i hHeld; clear hHeld)
  go_wp2_with (first | ((with_reducible refine gate_store (t := 41) rfl ?_); refine wpList_store_block rfl 41 _ _ rfl _ _ (by rfl) (by rfl) 41 _ (by simp only [objAt_alloc, objAt_drew]; go_simp; first | rfl | exact ⟨rfl, rfl⟩) (by kernel_rfl) (by rfl) (by simp [Value.oneCell']) ?_; simp only [setBlock_alloc, setBlock_drew]; go_simp) | ((with_reducible refine gate_load (t := 41) rfl ?_); refine wpList_load_row rfl 41 _ rfl _ (by rfl) 41 _ (0, 0) _ (by simp only [heap_at, heap_drew]; go_simp; first | rfl | exact ⟨rfl, rfl⟩) Try.underlying41 rfl (by kernel_rfl) ?_; go_simp))
  (try simp only [Exit.inBlock, Exit.then])
  refine bodyPost_ret (results_cell_row (p := 4) (ty := 41) rfl _ _ (w.heap.size) 41 _ (0, 0) _ (by rfl) (by simp only [heap_at, heap_drew]; go_simp; first | rfl | exact ⟨rfl, rfl⟩) Try.underlying41 rfl (by kernel_rfl)) rfl ?_
  exact ⟨rfl, by repeat (first | exact Below.refl _ _ | apply below_alloc | apply below_drew1)⟩
set_option maxHeartbeats 16000000 in
set_option maxRecDepth 100000 in
theorem record4 (A : Option Addr) (n c : Nat) (x0 : Int) (w : World) (hC : Kd.C (Kd.int .i64) w A n [x0]) (hc : n ≤ c) : Calls Try.prog 29 #[.int .i64 4, .slice A n c] w (RecordPost 4 [x0] w) := by
  have hn : n = 1 := hC.1.symm
  subst hn
  obtain ⟨ad, rfl, k0, hlt⟩ := int_at0 hC
  have hne : ad.block ≠ w.heap.size + 1 := by omega
  have hne0 : ad.block ≠ w.heap.size := by omega
  clear hC
  go_enter Try.func29, Try.ntmps29
  go_wp2_with (first | ((with_reducible refine gate_store (t := 41) rfl ?_); refine wpList_store_block rfl 41 _ _ rfl _ _ (by rfl) (by rfl) 41 _ (by simp only [objAt_alloc, objAt_drew]; go_simp; first | rfl | exact ⟨rfl, rfl⟩) (by kernel_rfl) (by rfl) (by simp [Value.oneCell']) ?_; simp only [setBlock_alloc, setBlock_drew]; go_simp) | ((with_reducible refine gate_load (t := 41) rfl ?_); refine wpList_load_row rfl 41 _ rfl _ (by rfl) 41 _ (0, 0) _ (by simp only [heap_at, heap_drew]; go_simp; first | rfl | exact ⟨rfl, rfl⟩) Try.underlying41 rfl (by kernel_rfl) ?_; go_simp))
  (try simp only [Exit.inBlock, Exit.then])
  refine bodyPost_ret (results_cell_row (p := 4) (ty := 41) rfl _ _ (w.heap.size) 41 _ (0, 0) _ (by rfl) (by simp only [heap_at, heap_drew]; go_simp; first | rfl | exact ⟨rfl, rfl⟩) Try.underlying41 rfl (by kernel_rfl)) rfl ?_
  exact ⟨rfl, by repeat (first | exact Below.refl _ _ | apply below_alloc | apply below_drew1)⟩
set_option maxHeartbeats 16000000 in
set_option maxRecDepth 100000 in
theorem record9 (A : Option Addr) (n c : Nat) (x0 : Int) (w : World) (hC : Kd.C (Kd.int .i64) w A n [x0]) (hc : n ≤ c) : Calls Try.prog 29 #[.int .i64 9, .slice A n c] w (RecordPost 9 [x0] w) := by
  have hn : n = 1 := hC.1.symm
  subst hn
  obtain ⟨ad, rfl, k0, hlt⟩ := int_at0 hC
  have hne : ad.block ≠ w.heap.size + 1 := by omega
  have hne0 : ad.block ≠ w.heap.size := by omega
  clear hC
  go_enter Try.func29, Try.ntmps29
  go_wp2_with (first | ((with_reducible refine gate_store (t := 41) rfl ?_); refine wpList_store_block rfl 41 _ _ rfl _ _ (by rfl) (by rfl) 41 _ (by simp only [objAt_alloc, objAt_drew]; go_simp; first | rfl | exact ⟨rfl, rfl⟩) (by kernel_rfl) (by rfl) (by simp [Value.oneCell']) ?_; simp only [setBlock_alloc, setBlock_drew]; go_simp) | ((with_reducible refine gate_load (t := 41) rfl ?_); refine wpList_load_row rfl 41 _ rfl _ (by rfl) 41 _ (0, 0) _ (by simp only [heap_at, heap_drew]; go_simp; first | rfl | exact ⟨rfl, rfl⟩) Try.underlying41 rfl (by kernel_rfl) ?_; go_simp))
  (try simp only [Exit.inBlock, Exit.then])
  refine bodyPost_ret (results_cell_row (p := 4) (ty := 41) rfl _ _ (w.heap.size) 41 _ (0, 0) _ (by rfl) (by simp only [heap_at, heap_drew]; go_simp; first | rfl | exact ⟨rfl, rfl⟩) Try.underlying41 rfl (by kernel_rfl)) rfl ?_
  exact ⟨rfl, by repeat (first | exact Below.refl _ _ | apply below_alloc | apply below_drew1)⟩
set_option maxHeartbeats 16000000 in
set_option maxRecDepth 100000 in
theorem record5 (A : Option Addr) (n c : Nat) (x0 : Int) (w : World) (hC : Kd.C (Kd.int .i64) w A n [x0]) (hc : n ≤ c) : Calls Try.prog 29 #[.int .i64 5, .slice A n c] w (RecordPost 5 [x0] w) := by
  have hn : n = 1 := hC.1.symm
  subst hn
  obtain ⟨ad, rfl, k0, hlt⟩ := int_at0 hC
  have hne : ad.block ≠ w.heap.size + 1 := by omega
  have hne0 : ad.block ≠ w.heap.size := by omega
  clear hC
  go_enter Try.func29, Try.ntmps29
  go_wp2_with (first | ((with_reducible refine gate_store (t := 41) rfl ?_); refine wpList_store_block rfl 41 _ _ rfl _ _ (by rfl) (by rfl) 41 _ (by simp only [objAt_alloc, objAt_drew]; go_simp; first | rfl | exact ⟨rfl, rfl⟩) (by kernel_rfl) (by rfl) (by simp [Value.oneCell']) ?_; simp only [setBlock_alloc, setBlock_drew]; go_simp) | ((with_reducible refine gate_load (t := 41) rfl ?_); refine wpList_load_row rfl 41 _ rfl _ (by rfl) 41 _ (0, 0) _ (by simp only [heap_at, heap_drew]; go_simp; first | rfl | exact ⟨rfl, rfl⟩) Try.underlying41 rfl (by kernel_rfl) ?_; go_simp))
  (try simp only [Exit.inBlock, Exit.then])
  refine bodyPost_ret (results_cell_row (p := 4) (ty := 41) rfl _ _ (w.heap.size) 41 _ (0, 0) _ (by rfl) (by simp only [heap_at, heap_drew]; go_simp; first | rfl | exact ⟨rfl, rfl⟩) Try.underlying41 rfl (by kernel_rfl)) rfl ?_
  exact ⟨rfl, by repeat (first | exact Below.refl _ _ | apply below_alloc | apply below_drew1)⟩
set_option maxHeartbeats 16000000 in
set_option maxRecDepth 100000 in
theorem record6 (A : Option Addr) (n c : Nat) (x0 : Int) (w : World) (hC : Kd.C (Kd.int .i64) w A n [x0]) (hc : n ≤ c) : Calls Try.prog 29 #[.int .i64 6, .slice A n c] w (RecordPost 6 [x0] w) := by
  have hn : n = 1 := hC.1.symm
  subst hn
  obtain ⟨ad, rfl, k0, hlt⟩ := int_at0 hC
  have hne : ad.block ≠ w.heap.size + 1 := by omega
  have hne0 : ad.block ≠ w.heap.size := by omega
  clear hC
  go_enter Try.func29, Try.ntmps29
  go_wp2_with (first | ((with_reducible refine gate_store (t := 41) rfl ?_); refine wpList_store_block rfl 41 _ _ rfl _ _ (by rfl) (by rfl) 41 _ (by simp only [objAt_alloc, objAt_drew]; go_simp; first | rfl | exact ⟨rfl, rfl⟩) (by kernel_rfl) (by rfl) (by simp [Value.oneCell']) ?_; simp only [setBlock_alloc, setBlock_drew]; go_simp) | ((with_reducible refine gate_load (t := 41) rfl ?_); refine wpList_load_row rfl 41 _ rfl _ (by rfl) 41 _ (0, 0) _ (by simp only [heap_at, heap_drew]; go_simp; first | rfl | exact ⟨rfl, rfl⟩) Try.underlying41 rfl (by kernel_rfl) ?_; go_simp))
  (try simp only [Exit.inBlock, Exit.then])
  refine bodyPost_ret (results_cell_row (p := 4) (ty := 41) rfl _ _ (w.heap.size) 41 _ (0, 0) _ (by rfl) (by simp only [heap_at, heap_drew]; go_simp; first | rfl | exact ⟨rfl, rfl⟩) Try.underlying41 rfl (by kernel_rfl)) rfl ?_
  exact ⟨rfl, by repeat (first | exact Below.refl _ _ | apply below_alloc | apply below_drew1)⟩
set_option maxHeartbeats 16000000 in
set_option maxRecDepth 100000 in
theorem record7 (A : Option Addr) (n c : Nat) (x0 : Int) (w : World) (hC : Kd.C (Kd.int .i64) w A n [x0]) (hc : n ≤ c) : Calls Try.prog 29 #[.int .i64 7, .slice A n c] w (RecordPost 7 [x0] w) := by
  have hn : n = 1 := hC.1.symm
  subst hn
  obtain ⟨ad, rfl, k0, hlt⟩ := int_at0 hC
  have hne : ad.block ≠ w.heap.size + 1 := by omega
  have hne0 : ad.block ≠ w.heap.size := by omega
  clear hC
  go_enter Try.func29, Try.ntmps29
  go_wp2_with (first | ((with_reducible refine gate_store (t := 41) rfl ?_); refine wpList_store_block rfl 41 _ _ rfl _ _ (by rfl) (by rfl) 41 _ (by simp only [objAt_alloc, objAt_drew]; go_simp; first | rfl | exact ⟨rfl, rfl⟩) (by kernel_rfl) (by rfl) (by simp [Value.oneCell']) ?_; simp only [setBlock_alloc, setBlock_drew]; go_simp) | ((with_reducible refine gate_load (t := 41) rfl ?_); refine wpList_load_row rfl 41 _ rfl _ (by rfl) 41 _ (0, 0) _ (by simp only [heap_at, heap_drew]; go_simp; first | rfl | exact ⟨rfl, rfl⟩) Try.underlying41 rfl (by kernel_rfl) ?_; go_simp))
  (try simp only [Exit.inBlock, Exit.then])
  refine bodyPost_ret (results_cell_row (p := 4) (ty := 41) rfl _ _ (w.heap.size) 41 _ (0, 0) _ (by rfl) (by simp only [heap_at, heap_drew]; go_simp; first | rfl | exact ⟨rfl, rfl⟩) Try.underlying41 rfl (by kernel_rfl)) rfl ?_
  exact ⟨rfl, by repeat (first | exact Below.refl _ _ | apply below_alloc | apply below_drew1)⟩
set_option maxHeartbeats 16000000 in
set_option maxRecDepth 100000 in
theorem record8 (A : Option Addr) (n c : Nat) (x0 x1 : Int) (w : World) (hC : Kd.C (Kd.int .i64) w A n [x0, x1]) (hc : n ≤ c) : Calls Try.prog 29 #[.int .i64 8, .slice A n c] w (RecordPost 8 [x0, x1] w) := by
  have hn : n = 2 := hC.1.symm
  subst hn
  obtain ⟨ad, rfl, k0, hlt⟩ := int_at0 hC
  have k1 := int_at hC 0 x1 rfl
  simp only [Nat.zero_add, Nat.reduceAdd] at k1
  have hne : ad.block ≠ w.heap.size + 1 := by omega
  have hne0 : ad.block ≠ w.heap.size := by omega
  clear hC
  go_enter Try.func29, Try.ntmps29
  go_wp2_with (first | ((with_reducible refine gate_store (t := 41) rfl ?_); refine wpList_store_block rfl 41 _ _ rfl _ _ (by rfl) (by rfl) 41 _ (by simp only [objAt_alloc, objAt_drew]; go_simp; first | rfl | exact ⟨rfl, rfl⟩) (by kernel_rfl) (by rfl) (by simp [Value.oneCell']) ?_; simp only [setBlock_alloc, setBlock_drew]; go_simp) | ((with_reducible refine gate_load (t := 41) rfl ?_); refine wpList_load_row rfl 41 _ rfl _ (by rfl) 41 _ (0, 0) _ (by simp only [heap_at, heap_drew]; go_simp; first | rfl | exact ⟨rfl, rfl⟩) Try.underlying41 rfl (by kernel_rfl) ?_; go_simp))
  (try simp only [Exit.inBlock, Exit.then])
  refine bodyPost_ret (results_cell_row (p := 4) (ty := 41) rfl _ _ (w.heap.size) 41 _ (0, 0) _ (by rfl) (by simp only [heap_at, heap_drew]; go_simp; first | rfl | exact ⟨rfl, rfl⟩) Try.underlying41 rfl (by kernel_rfl)) rfl ?_
  exact ⟨rfl, by repeat (first | exact Below.refl _ _ | apply below_alloc | apply below_drew1)⟩
set_option maxHeartbeats 16000000 in
set_option maxRecDepth 100000 in
theorem record11 (A : Option Addr) (n c : Nat) (x0 x1 x2 x3 x4 x5 x6 x7 x8 x9 x10 x11 : Int) (w : World) (hC : Kd.C (Kd.int .i64) w A n [x0, x1, x2, x3, x4, x5, x6, x7, x8, x9, x10, x11]) (hc : n ≤ c) : Calls Try.prog 29 #[.int .i64 11, .slice A n c] w (RecordPost 11 [x0, x1, x2, x3, x4, x5, x6, x7, x8, x9, x10, x11] w) := by
  have hn : n = 12 := hC.1.symm
  subst hn
  obtain ⟨ad, rfl, k0, hlt⟩ := int_at0 hC
  have k1 := int_at hC 0 x1 rfl
  have k2 := int_at hC 1 x2 rfl
  have k3 := int_at hC 2 x3 rfl
  have k4 := int_at hC 3 x4 rfl
  have k5 := int_at hC 4 x5 rfl
  have k6 := int_at hC 5 x6 rfl
  have k7 := int_at hC 6 x7 rfl
  have k8 := int_at hC 7 x8 rfl
  have k9 := int_at hC 8 x9 rfl
  have k10 := int_at hC 9 x10 rfl
  have k11 := int_at hC 10 x11 rfl
  simp only [Nat.zero_add, Nat.reduceAdd] at k1 k2 k3 k4 k5 k6 k7 k8 k9 k10 k11
  have hne : ad.block ≠ w.heap.size + 1 := by omega
  have hne0 : ad.block ≠ w.heap.size := by omega
  clear hC
  go_enter Try.func29, Try.ntmps29
  go_wp2_with (first | ((with_reducible refine gate_store (t := 41) rfl ?_); refine wpList_store_block rfl 41 _ _ rfl _ _ (by rfl) (by rfl) 41 _ (by simp only [objAt_alloc, objAt_drew]; go_simp; first | rfl | exact ⟨rfl, rfl⟩) (by kernel_rfl) (by rfl) (by simp [Value.oneCell']) ?_; simp only [setBlock_alloc, setBlock_drew]; go_simp) | ((with_reducible refine gate_load (t := 41) rfl ?_); refine wpList_load_row rfl 41 _ rfl _ (by rfl) 41 _ (0, 0) _ (by simp only [heap_at, heap_drew]; go_simp; first | rfl | exact ⟨rfl, rfl⟩) Try.underlying41 rfl (by kernel_rfl) ?_; go_simp))
  go_region_held3 (fun W => W.cell? ad = some (.int .i64 x0) ∧ W.cell? ⟨ad.block, ad.off + 1, none⟩ = some (.int .i64 x1) ∧ W.cell? ⟨ad.block, ad.off + 2, none⟩ = some (.int .i64 x2) ∧ W.cell? ⟨ad.block, ad.off + 3, none⟩ = some (.int .i64 x3) ∧ W.cell? ⟨ad.block, ad.off + 4, none⟩ = some (.int .i64 x4) ∧ W.cell? ⟨ad.block, ad.off + 5, none⟩ = some (.int .i64 x5) ∧ W.cell? ⟨ad.block, ad.off + 6, none⟩ = some (.int .i64 x6) ∧ W.cell? ⟨ad.block, ad.off + 7, none⟩ = some (.int .i64 x7) ∧ W.cell? ⟨ad.block, ad.off + 8, none⟩ = some (.int .i64 x8) ∧ W.cell? ⟨ad.block, ad.off + 9, none⟩ = some (.int .i64 x9) ∧ W.cell? ⟨ad.block, ad.off + 10, none⟩ = some (.int .i64 x10) ∧ W.cell? ⟨ad.block, ad.off + 11, none⟩ = some (.int .i64 x11)) (go_keep) (fail)
  all_goals (rename_i hHeld; clear hHeld)
  go_wp2_with (first | ((with_reducible refine gate_store (t := 41) rfl ?_); refine wpList_store_block rfl 41 _ _ rfl _ _ (by rfl) (by rfl) 41 _ (by simp only [objAt_alloc, objAt_drew]; go_simp; first | rfl | exact ⟨rfl, rfl⟩) (by kernel_rfl) (by rfl) (by simp [Value.oneCell']) ?_; simp only [setBlock_alloc, setBlock_drew]; go_simp) | ((with_reducible refine gate_load (t := 41) rfl ?_); refine wpList_load_row rfl 41 _ rfl _ (by rfl) 41 _ (0, 0) _ (by simp only [heap_at, heap_drew]; go_simp; first | rfl | exact ⟨rfl, rfl⟩) Try.underlying41 rfl (by kernel_rfl) ?_; go_simp))
  (try simp only [Exit.inBlock, Exit.then])
  refine bodyPost_ret (results_cell_row (p := 4) (ty := 41) rfl _ _ (w.heap.size) 41 _ (0, 0) _ (by rfl) (by simp only [heap_at, heap_drew]; go_simp; first | rfl | exact ⟨rfl, rfl⟩) Try.underlying41 rfl (by kernel_rfl)) rfl ?_
  exact ⟨rfl, by repeat (first | exact Below.refl _ _ | apply below_alloc | apply below_drew1)⟩
set_option maxHeartbeats 16000000 in
set_option maxRecDepth 100000 in
theorem recordElse (A : Option Addr) (n c : Nat) (k : Int) (f : List Int) (w : World) (h1 : (k == 1) = false) (h4 : (k == 4) = false) (h5 : (k == 5) = false) (h6 : (k == 6) = false) (h7 : (k == 7) = false) (h8 : (k == 8) = false) (h9 : (k == 9) = false) (h11 : (k == 11) = false) :
    Calls Try.prog 29 #[.int .i64 k, .slice A n c] w (RecordPost k f w) := by
  have hf : bodyOf k f = zB := by
    simp only [beq_eq_false_iff_ne] at *
    simp [bodyOf, *]
  unfold RecordPost
  rw [hf]
  clear hf
  go_enter Try.func29, Try.ntmps29
  go_wp2_with (first | ((with_reducible refine gate_store (t := 41) rfl ?_); refine wpList_store_block rfl 41 _ _ rfl _ _ (by rfl) (by rfl) 41 _ (by simp only [objAt_alloc, objAt_drew]; go_simp; first | rfl | exact ⟨rfl, rfl⟩) (by kernel_rfl) (by rfl) (by simp [Value.oneCell']) ?_; simp only [setBlock_alloc, setBlock_drew]; go_simp) | ((with_reducible refine gate_load (t := 41) rfl ?_); refine wpList_load_row rfl 41 _ rfl _ (by rfl) 41 _ (0, 0) _ (by simp only [heap_at, heap_drew]; go_simp; first | rfl | exact ⟨rfl, rfl⟩) Try.underlying41 rfl (by kernel_rfl) ?_; go_simp))
  (try simp only [Exit.inBlock, Exit.then])
  refine bodyPost_ret (results_cell_row (p := 4) (ty := 41) rfl _ _ (w.heap.size) 41 _ (0, 0) _ (by rfl) (by simp only [heap_at, heap_drew]; go_simp; first | rfl | exact ⟨rfl, rfl⟩) Try.underlying41 rfl (by kernel_rfl)) rfl ?_
  exact ⟨rfl, by repeat (first | exact Below.refl _ _ | apply below_alloc | apply below_drew1)⟩

theorem record_calls (A : Option Addr) (n c : Nat) (k : Int) (f : List Int) (w : World) (hC : Kd.C (Kd.int .i64) w A n f) (hc : n ≤ c) (hl : f.length = (rangesOf k).length) : Calls Try.prog 29 #[.int .i64 k, .slice A n c] w (RecordPost k f w) := by
  by_cases h1 : k = 1
  · subst h1
    replace hl : f.length = 3 := hl
    match f, hl with
    | [x0, x1, x2], _ => exact record1 A n c x0 x1 x2 w hC hc
  by_cases h4 : k = 4
  · subst h4
    replace hl : f.length = 1 := hl
    match f, hl with
    | [x0], _ => exact record4 A n c x0 w hC hc
  by_cases h9 : k = 9
  · subst h9
    replace hl : f.length = 1 := hl
    match f, hl with
    | [x0], _ => exact record9 A n c x0 w hC hc
  by_cases h5 : k = 5
  · subst h5
    replace hl : f.length = 1 := hl
    match f, hl with
    | [x0], _ => exact record5 A n c x0 w hC hc
  by_cases h6 : k = 6
  · subst h6
    replace hl : f.length = 1 := hl
    match f, hl with
    | [x0], _ => exact record6 A n c x0 w hC hc
  by_cases h7 : k = 7
  · subst h7
    replace hl : f.length = 1 := hl
    match f, hl with
    | [x0], _ => exact record7 A n c x0 w hC hc
  by_cases h8 : k = 8
  · subst h8
    replace hl : f.length = 2 := hl
    match f, hl with
    | [x0, x1], _ => exact record8 A n c x0 x1 w hC hc
  by_cases h11 : k = 11
  · subst h11
    replace hl : f.length = 12 := hl
    match f, hl with
    | [x0, x1, x2, x3, x4, x5, x6, x7, x8, x9, x10, x11], _ => exact record11 A n c x0 x1 x2 x3 x4 x5 x6 x7 x8 x9 x10 x11 w hC hc
  exact recordElse A n c k f w (by simpa using h1) (by simpa using h4) (by simpa using h5) (by simpa using h6) (by simpa using h7) (by simpa using h8) (by simpa using h9) (by simpa using h11)
end Go.Proofs.Ytaogmfchpcdboaa
