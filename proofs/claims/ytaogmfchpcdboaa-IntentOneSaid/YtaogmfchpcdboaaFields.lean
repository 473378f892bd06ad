/- intent.fields, and the reference's Fields: a record's numbers, as a row of the call's own. No condition. -/
import Derived.Test.YtaogmfchpcdboaaSpans
import Derived.Deep.RegionHeld3
namespace Go.Proofs.Ytaogmfchpcdboaa
open Go.RowKit Go.Proofs.YtaogmfchpcdboaaW.PrintWords

theorem reps_ints_more (w : World) : ∀ (xs ys : List Int) (cs : List Value), Reps ((Kd.int .i64).K w) (Kd.int .i64).sz ys cs → Reps ((Kd.int .i64).K w) (Kd.int .i64).sz (ys ++ xs) (cs ++ xs.map (Value.int .i64))
  | [], ys, cs, h => by simpa using h
  | x :: xs, ys, cs, h => by
    have h1 := reps_ints_more w xs (ys ++ [x]) (cs ++ [.int .i64 x]) (Reps.snoc h (by rfl) rfl)
    simpa using h1
theorem reps_ints (w : World) (xs : List Int) : Reps ((Kd.int .i64).K w) (Kd.int .i64).sz xs (xs.map (Value.int .i64)) := reps_ints_more w xs [] [] (Reps.none _ _)
theorem C_ints {w : World} {b e : Nat} {cells : Array Value} {xs : List Int} {n : Nat} (h : w.heap[b]? = some (.cells cells e)) (hr : cells = (xs.map (Value.int .i64)).toArray) (hn : xs.length = n) (hs : n ≤ 1000) : Kd.C (Kd.int .i64) w (some { block := b, off := 0 }) n xs := by
  subst hr
  exact C_of_block _ h (reps_ints w xs) hn hs

/-- What a maker of a record's numbers answers. -/
def FieldsPost (k : Int) (b : Bd) (w : World) (e : Ending) (w' : World) : Prop :=
  ∃ A n c, e = .returned (.slice A n c) ∧ n = (fieldsOf k b).length ∧ n ≤ c ∧ Kd.C (Kd.int .i64) w' A n (fieldsOf k b) ∧ Below w.heap.size w w'

theorem FieldsPost.mk {k : Int} {b : Bd} {w w' : World} {q c n : Nat} {e : Nat} {cells : Array Value} (h : w'.heap[q]? = some (.cells cells e)) (hr : cells = ((fieldsOf k b).map (Value.int .i64)).toArray) (hn : n = (fieldsOf k b).length) (hc : n ≤ c) (hs : n ≤ 1000) (hb : Below w.heap.size w w') :
    FieldsPost k b w (.returned (.slice (some { block := q, off := 0 }) n c)) w' :=
  ⟨_, _, _, rfl, hn, hc, C_ints h hr hn.symm hs, hb⟩

theorem heap_drew (w : World) : w.drew.heap = w.heap := rfl

theorem bit_calls (a : Bool) (w : World) : Calls Try.prog 35 #[.bool a] w fun e w' => e = .returned (.int .i64 (bitI a)) ∧ w = w' := by
  cases a
  · go_enter Try.func35, Try.ntmps35
    go_wp2
    go_ret
    simp [bitI]
  · go_enter Try.func35, Try.ntmps35
    go_wp2
    go_ret
    simp [bitI]

set_option maxHeartbeats 8000000 in
set_option maxRecDepth 100000 in
theorem fields1 (b : Bd) (w : World) : Calls Try.prog 28 #[recVal 1 b] w (FieldsPost 1 b w) := by
  unfold recVal
  go_enter Try.func28, Try.ntmps28
  go_wp2
  go_ret
  exact FieldsPost.mk (by simp only [heap_at]; go_simp; exact ⟨rfl, rfl⟩) rfl rfl (by decide) (by decide) (by repeat (first | exact Below.refl _ _ | apply below_alloc))
set_option maxHeartbeats 8000000 in
set_option maxRecDepth 100000 in
theorem fields5 (b : Bd) (w : World) : Calls Try.prog 28 #[recVal 5 b] w (FieldsPost 5 b w) := by
  unfold recVal
  go_enter Try.func28, Try.ntmps28
  go_wp2
  go_ret
  exact FieldsPost.mk (by simp only [heap_at]; go_simp; exact ⟨rfl, rfl⟩) rfl rfl (by decide) (by decide) (by repeat (first | exact Below.refl _ _ | apply below_alloc))
set_option maxHeartbeats 8000000 in
set_option maxRecDepth 100000 in
theorem fields4 (b : Bd) (w : World) : Calls Try.prog 28 #[recVal 4 b] w (FieldsPost 4 b w) := by
  obtain ⟨rev, n, delay, gen, tick, pass, rest⟩ := b
  unfold recVal
  cases pass
  · go_enter Try.func28, Try.ntmps28
    go_wp2
    go_ret
    exact FieldsPost.mk (by simp only [heap_at]; go_simp; exact ⟨rfl, rfl⟩) rfl rfl (by decide) (by decide) (by repeat (first | exact Below.refl _ _ | apply below_alloc))
  · go_enter Try.func28, Try.ntmps28
    go_wp2
    go_ret
    exact FieldsPost.mk (by simp only [heap_at]; go_simp; exact ⟨rfl, rfl⟩) rfl rfl (by decide) (by decide) (by repeat (first | exact Below.refl _ _ | apply below_alloc))
set_option maxHeartbeats 8000000 in
set_option maxRecDepth 100000 in
theorem fieldsElse (k : Int) (b : Bd) (w : World) (h1 : (k == 1) = false) (h4 : (k == 4) = false) (h5 : (k == 5) = false) (h6 : (k == 6) = false) (h7 : (k == 7) = false) (h8 : (k == 8) = false) (h9 : (k == 9) = false) (h11 : (k == 11) = false) :
    Calls Try.prog 28 #[recVal k b] w (FieldsPost k b w) := by
  have hf : fieldsOf k b = [] := by
    simp only [beq_eq_false_iff_ne] at *
    simp [fieldsOf, *]
  unfold recVal
  go_enter Try.func28, Try.ntmps28
  go_wp2
  go_ret
  exact ⟨_, _, _, rfl, by rw [hf]; rfl, by decide, by rw [hf]; exact ⟨rfl, by decide, fun h => absurd h (by decide)⟩, by repeat (first | exact Below.refl _ _ | apply below_alloc)⟩

set_option maxHeartbeats 8000000 in
set_option maxRecDepth 100000 in
theorem fields11 (b : Bd) (w : World) : Calls Try.prog 28 #[recVal 11 b] w (FieldsPost 11 b w) := by
  unfold recVal
  go_enter Try.func28, Try.ntmps28
  go_wp2
  go_region_held3 (fun W => W.cell? ⟨w.heap.size + 1, 0, none⟩ = some (.int .i64 b.phase) ∧ W.cell? ⟨w.heap.size + 1, 1, none⟩ = some (.int .i64 b.active) ∧ W.cell? ⟨w.heap.size + 1, 2, none⟩ = some (.int .i64 b.r0) ∧ W.cell? ⟨w.heap.size + 1, 3, none⟩ = some (.int .i64 b.r1)
      ∧ W.cell? ⟨w.heap.size + 1, 4, none⟩ = some (.int .i64 b.w0) ∧ W.cell? ⟨w.heap.size + 1, 5, none⟩ = some (.int .i64 b.w1) ∧ W.cell? ⟨w.heap.size + 1, 6, none⟩ = some (.bool b.p0) ∧ W.cell? ⟨w.heap.size + 1, 7, none⟩ = some (.bool b.p1)
      ∧ W.cell? ⟨w.heap.size + 1, 8, none⟩ = some (.int .i64 b.sdelay) ∧ W.cell? ⟨w.heap.size + 1, 9, none⟩ = some (.int .i64 b.sgen) ∧ W.cell? ⟨w.heap.size + 1, 10, none⟩ = some (.int .i64 b.sw) ∧ W.cell? ⟨w.heap.size + 1, 11, none⟩ = some (.int .i64 b.flip))
    (go_keep)
    (first | (go_at_call 35; ((with_reducible refine (bit_calls b.p0 _).mono ?_); rintro e w' ⟨rfl, rfl⟩)) | (go_at_call 35; ((with_reducible refine (bit_calls b.p1 _).mono ?_); rintro e w' ⟨rfl, rfl⟩)))
  all_goals (rename_i hHeld; clear hHeld)
  go_wp2
  go_ret
  exact FieldsPost.mk (by simp only [heap_at, heap_drew]; go_simp; exact ⟨rfl, rfl⟩) rfl rfl (by decide) (by decide) (by repeat (first | exact Below.refl _ _ | apply below_alloc | apply below_drew1))
set_option maxHeartbeats 8000000 in
set_option maxRecDepth 100000 in
theorem fields6 (b : Bd) (w : World) : Calls Try.prog 28 #[recVal 6 b] w (FieldsPost 6 b w) := by
  unfold recVal
  go_enter Try.func28, Try.ntmps28
  go_wp2
  go_ret
  exact FieldsPost.mk (by simp only [heap_at]; go_simp; exact ⟨rfl, rfl⟩) rfl rfl (by decide) (by decide) (by repeat (first | exact Below.refl _ _ | apply below_alloc))
set_option maxHeartbeats 8000000 in
set_option maxRecDepth 100000 in
theorem fields7 (b : Bd) (w : World) : Calls Try.prog 28 #[recVal 7 b] w (FieldsPost 7 b w) := by
  unfold recVal
  go_enter Try.func28, Try.ntmps28
  go_wp2
  go_ret
  exact FieldsPost.mk (by simp only [heap_at]; go_simp; exact ⟨rfl, rfl⟩) rfl rfl (by decide) (by decide) (by repeat (first | exact Below.refl _ _ | apply below_alloc))
set_option maxHeartbeats 8000000 in
set_option maxRecDepth 100000 in
theorem fields8 (b : Bd) (w : World) : Calls Try.prog 28 #[recVal 8 b] w (FieldsPost 8 b w) := by
  unfold recVal
  go_enter Try.func28, Try.ntmps28
  go_wp2
  go_ret
  exact FieldsPost.mk (by simp only [heap_at]; go_simp; exact ⟨rfl, rfl⟩) rfl rfl (by decide) (by decide) (by repeat (first | exact Below.refl _ _ | apply below_alloc))
set_option maxHeartbeats 8000000 in
set_option maxRecDepth 100000 in
theorem fields9 (b : Bd) (w : World) : Calls Try.prog 28 #[recVal 9 b] w (FieldsPost 9 b w) := by
  obtain ⟨rev, n, delay, gen, tick, pass, rest⟩ := b
  unfold recVal
  cases pass
  · go_enter Try.func28, Try.ntmps28
    go_wp2
    go_ret
    exact FieldsPost.mk (by simp only [heap_at]; go_simp; exact ⟨rfl, rfl⟩) rfl rfl (by decide) (by decide) (by repeat (first | exact Below.refl _ _ | apply below_alloc))
  · go_enter Try.func28, Try.ntmps28
    go_wp2
    go_ret
    exact FieldsPost.mk (by simp only [heap_at]; go_simp; exact ⟨rfl, rfl⟩) rfl rfl (by decide) (by decide) (by repeat (first | exact Below.refl _ _ | apply below_alloc))

theorem fields_calls (k : Int) (b : Bd) (w : World) : Calls Try.prog 28 #[recVal k b] w (FieldsPost k b w) := by
  by_cases h1 : k = 1
  · subst h1; exact fields1 b w
  by_cases h4 : k = 4
  · subst h4; exact fields4 b w
  by_cases h5 : k = 5
  · subst h5; exact fields5 b w
  by_cases h6 : k = 6
  · subst h6; exact fields6 b w
  by_cases h7 : k = 7
  · subst h7; exact fields7 b w
  by_cases h8 : k = 8
  · subst h8; exact fields8 b w
  by_cases h9 : k = 9
  · subst h9; exact fields9 b w
  by_cases h11 : k = 11
  · subst h11; exact fields11 b w
  exact fieldsElse k b w (by simpa using h1) (by simpa using h4) (by simpa using h5) (by simpa using h6) (by simpa using h7) (by simpa using h8) (by simpa using h9) (by simpa using h11)

/-! ### The reference's -/
theorem one_calls (a : Bool) (w : World) : Calls Try.prog 36 #[.bool a] w fun e w' => e = .returned (.int .i64 (bitI a)) ∧ w = w' := by
  cases a
  · go_enter Try.func36, Try.ntmps36
    go_wp2
    go_ret
    simp [bitI]
  · go_enter Try.func36, Try.ntmps36
    go_wp2
    go_ret
    simp [bitI]

set_option maxHeartbeats 8000000 in
set_option maxRecDepth 100000 in
theorem rfields1 (b : Bd) (w : World) : Calls Try.prog 33 #[recVal 1 b] w (FieldsPost 1 b w) := by
  unfold recVal
  go_enter Try.func33, Try.ntmps33
  go_wp2
  go_ret
  exact FieldsPost.mk (by simp only [heap_at]; go_simp; exact ⟨rfl, rfl⟩) rfl rfl (by decide) (by decide) (by repeat (first | exact Below.refl _ _ | apply below_alloc))
set_option maxHeartbeats 8000000 in
set_option maxRecDepth 100000 in
theorem rfields5 (b : Bd) (w : World) : Calls Try.prog 33 #[recVal 5 b] w (FieldsPost 5 b w) := by
  unfold recVal
  go_enter Try.func33, Try.ntmps33
  go_wp2
  go_ret
  exact FieldsPost.mk (by simp only [heap_at]; go_simp; exact ⟨rfl, rfl⟩) rfl rfl (by decide) (by decide) (by repeat (first | exact Below.refl _ _ | apply below_alloc))
set_option maxHeartbeats 8000000 in
set_option maxRecDepth 100000 in
theorem rfields4 (b : Bd) (w : World) : Calls Try.prog 33 #[recVal 4 b] w (FieldsPost 4 b w) := by
  obtain ⟨rev, n, delay, gen, tick, pass, rest⟩ := b
  unfold recVal
  cases pass
  · go_enter Try.func33, Try.ntmps33
    go_wp2
    go_ret
    exact FieldsPost.mk (by simp only [heap_at]; go_simp; exact ⟨rfl, rfl⟩) rfl rfl (by decide) (by decide) (by repeat (first | exact Below.refl _ _ | apply below_alloc))
  · go_enter Try.func33, Try.ntmps33
    go_wp2
    go_ret
    exact FieldsPost.mk (by simp only [heap_at]; go_simp; exact ⟨rfl, rfl⟩) rfl rfl (by decide) (by decide) (by repeat (first | exact Below.refl _ _ | apply below_alloc))
set_option maxHeartbeats 8000000 in
set_option maxRecDepth 100000 in
theorem rfieldsElse (k : Int) (b : Bd) (w : World) (h1 : (k == 1) = false) (h4 : (k == 4) = false) (h5 : (k == 5) = false) (h6 : (k == 6) = false) (h7 : (k == 7) = false) (h8 : (k == 8) = false) (h9 : (k == 9) = false) (h11 : (k == 11) = false) :
    Calls Try.prog 33 #[recVal k b] w (FieldsPost k b w) := by
  have hf : fieldsOf k b = [] := by
    simp only [beq_eq_false_iff_ne] at *
    simp [fieldsOf, *]
  unfold recVal
  go_enter Try.func33, Try.ntmps33
  go_wp2
  go_ret
  exact ⟨_, _, _, rfl, by rw [hf]; rfl, by decide, by rw [hf]; exact ⟨rfl, by decide, fun h => absurd h (by decide)⟩, by repeat (first | exact Below.refl _ _ | apply below_alloc)⟩

set_option maxHeartbeats 8000000 in
set_option maxRecDepth 100000 in
theorem rfields11 (b : Bd) (w : World) : Calls Try.prog 33 #[recVal 11 b] w (FieldsPost 11 b w) := by
  unfold recVal
  go_enter Try.func33, Try.ntmps33
  go_wp2
  go_region_held3 (fun W => W.cell? ⟨w.heap.size + 1, 0, none⟩ = some (.int .i64 b.phase) ∧ W.cell? ⟨w.heap.size + 1, 1, none⟩ = some (.int .i64 b.active) ∧ W.cell? ⟨w.heap.size + 1, 2, none⟩ = some (.int .i64 b.r0) ∧ W.cell? ⟨w.heap.size + 1, 3, none⟩ = some (.int .i64 b.r1)
      ∧ W.cell? ⟨w.heap.size + 1, 4, none⟩ = some (.int .i64 b.w0) ∧ W.cell? ⟨w.heap.size + 1, 5, none⟩ = some (.int .i64 b.w1) ∧ W.cell? ⟨w.heap.size + 1, 6, none⟩ = some (.bool b.p0) ∧ W.cell? ⟨w.heap.size + 1, 7, none⟩ = some (.bool b.p1)
      ∧ W.cell? ⟨w.heap.size + 1, 8, none⟩ = some (.int .i64 b.sdelay) ∧ W.cell? ⟨w.heap.size + 1, 9, none⟩ = some (.int .i64 b.sgen) ∧ W.cell? ⟨w.heap.size + 1, 10, none⟩ = some (.int .i64 b.sw) ∧ W.cell? ⟨w.heap.size + 1, 11, none⟩ = some (.int .i64 b.flip))
    (go_keep)
    (first | (go_at_call 36; ((with_reducible refine (one_calls b.p0 _).mono ?_); rintro e w' ⟨rfl, rfl⟩)) | (go_at_call 36; ((with_reducible refine (one_calls b.p1 _).mono ?_); rintro e w' ⟨rfl, rfl⟩)))
  all_goals (rename_i hHeld; clear hHeld)
  go_wp2
  go_ret
  exact FieldsPost.mk (by simp only [heap_at, heap_drew]; go_simp; exact ⟨rfl, rfl⟩) rfl rfl (by decide) (by decide) (by repeat (first | exact Below.refl _ _ | apply below_alloc | apply below_drew1))
set_option maxHeartbeats 8000000 in
set_option maxRecDepth 100000 in
theorem rfields6 (b : Bd) (w : World) : Calls Try.prog 33 #[recVal 6 b] w (FieldsPost 6 b w) := by
  unfold recVal
  go_enter Try.func33, Try.ntmps33
  go_wp2
  go_ret
  exact FieldsPost.mk (by simp only [heap_at]; go_simp; exact ⟨rfl, rfl⟩) rfl rfl (by decide) (by decide) (by repeat (first | exact Below.refl _ _ | apply below_alloc))
set_option maxHeartbeats 8000000 in
set_option maxRecDepth 100000 in
theorem rfields7 (b : Bd) (w : World) : Calls Try.prog 33 #[recVal 7 b] w (FieldsPost 7 b w) := by
  unfold recVal
  go_enter Try.func33, Try.ntmps33
  go_wp2
  go_ret
  exact FieldsPost.mk (by simp only [heap_at]; go_simp; exact ⟨rfl, rfl⟩) rfl rfl (by decide) (by decide) (by repeat (first | exact Below.refl _ _ | apply below_alloc))
set_option maxHeartbeats 8000000 in
set_option maxRecDepth 100000 in
theorem rfields8 (b : Bd) (w : World) : Calls Try.prog 33 #[recVal 8 b] w (FieldsPost 8 b w) := by
  unfold recVal
  go_enter Try.func33, Try.ntmps33
  go_wp2
  go_ret
  exact FieldsPost.mk (by simp only [heap_at]; go_simp; exact ⟨rfl, rfl⟩) rfl rfl (by decide) (by decide) (by repeat (first | exact Below.refl _ _ | apply below_alloc))
set_option maxHeartbeats 8000000 in
set_option maxRecDepth 100000 in
theorem rfields9 (b : Bd) (w : World) : Calls Try.prog 33 #[recVal 9 b] w (FieldsPost 9 b w) := by
  obtain ⟨rev, n, delay, gen, tick, pass, rest⟩ := b
  unfold recVal
  cases pass
  · go_enter Try.func33, Try.ntmps33
    go_wp2
    go_ret
    exact FieldsPost.mk (by simp only [heap_at]; go_simp; exact ⟨rfl, rfl⟩) rfl rfl (by decide) (by decide) (by repeat (first | exact Below.refl _ _ | apply below_alloc))
  · go_enter Try.func33, Try.ntmps33
    go_wp2
    go_ret
    exact FieldsPost.mk (by simp only [heap_at]; go_simp; exact ⟨rfl, rfl⟩) rfl rfl (by decide) (by decide) (by repeat (first | exact Below.refl _ _ | apply below_alloc))

theorem rfields_calls (k : Int) (b : Bd) (w : World) : Calls Try.prog 33 #[recVal k b] w (FieldsPost k b w) := by
  by_cases h1 : k = 1
  · subst h1; exact rfields1 b w
  by_cases h4 : k = 4
  · subst h4; exact rfields4 b w
  by_cases h5 : k = 5
  · subst h5; exact rfields5 b w
  by_cases h6 : k = 6
  · subst h6; exact rfields6 b w
  by_cases h7 : k = 7
  · subst h7; exact rfields7 b w
  by_cases h8 : k = 8
  · subst h8; exact rfields8 b w
  by_cases h9 : k = 9
  · subst h9; exact rfields9 b w
  by_cases h11 : k = 11
  · subst h11; exact rfields11 b w
  exact rfieldsElse k b w (by simpa using h1) (by simpa using h4) (by simpa using h5) (by simpa using h6) (by simpa using h7) (by simpa using h8) (by simpa using h9) (by simpa using h11)
end Go.Proofs.Ytaogmfchpcdboaa
