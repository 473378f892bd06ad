/- intent.spans: the map that it makes: which kinds it holds, and each one's ranges. No condition. -/
import Derived.Test.YtaogmfchpcdboaaRec
import Derived.WalkKit
import Derived.MapKept
import Derived.Carry
import Derived.Maps.Own
import Derived.Deep.RegionHeld3
namespace Go.Proofs.Ytaogmfchpcdboaa
open Go.RowKit Go.Proofs.YtaogmfchpcdboaaW.PrintWords
open Go.ChangeMaps (setBlock)

/-! ### A map with numbers as keys, as it lies -/
def ent (k : Int) (v : Value) (c : Nat) : MapEntry := { key := .int .i64 k, val := v, born := c }
def objAt (w : World) (r : Nat) : Option Obj := w.heap[r]?
theorem objAt_alloc (w : World) (o : Obj) (r : Nat) : objAt (w.alloc o) r = if r = w.heap.size then some o else objAt w r := by
  unfold objAt World.alloc
  rw [Array.getElem?_push]
theorem setBlock_alloc (w : World) (o p : Obj) (r : Nat) : setBlock (w.alloc p) r o = if r = w.heap.size then w.alloc o else (setBlock w r o).alloc p := by
  have e : (w.heap.push p).setIfInBounds r o = if r = w.heap.size then w.heap.push o else (w.heap.setIfInBounds r o).push p := by
    obtain ⟨l⟩ := w.heap
    split
    · rename_i h
      subst h
      simp
    · rename_i h
      have h' : ¬ r = l.length := h
      rcases Nat.lt_or_ge r l.length with h1 | h1
      · simp [h1]
      · have h3 : l.length + 1 ≤ r := by omega
        simp [List.set_eq_of_length_le, h1, h3]
  unfold setBlock World.alloc
  simp only [e]
  split <;> rfl

def freshB (k : Int) (es : Array MapEntry) : Bool := es.toList.all fun e => match e.key with | .int .i64 q => k != q | _ => false
theorem findNow_none (k : Int) : ∀ (es : List MapEntry) (i : Nat), (es.all fun e => match e.key with | .int .i64 q => k != q | _ => false) = true → Instr.findNow (.int .i64) (.int .i64 k) es i = some none
  | [], _, _ => rfl
  | e :: es, i, h => by
    simp only [List.all_cons, Bool.and_eq_true] at h
    obtain ⟨h0, h1⟩ := h
    obtain ⟨key, val, born⟩ := e
    simp only at h0
    split at h0
    · rename_i q
      have h2 : (k == q) = false := by simpa using h0
      simp only [Instr.findNow, Instr.sameNow, if_true, h2]
      exact findNow_none k es (i + 1) h1
    · cases h0

theorem put_run (W : World) (r : Nat) (es : Array MapEntry) (c : Nat) (k : Int) (v : Value) (hb : W.heap[r]? = some (.map es c)) (hk : freshB k es = true) :
    (Instr.mapUpdate 58 (.map (some r)) (.int .i64 k) v).run Try.prog W = .ok () (setBlock W r (.map (es.push (ent k v c)) (c + 1))) := by
  have h1 := findNow_none k es.toList 0 hk
  have h2 := MapKept.run_checkKey (P := Try.prog) (w := W) (kt := 3) (k := .int .i64 k) Try.underlying3 rfl false 9999
  have h3 := MapKept.run_findKey (P := Try.prog) (w := W) (kt := 3) Try.underlying3 h1
  simp [Instr.mapUpdate, run_underlying Try.underlying58, MapKept.run_getObj_map hb, h2, h3, MapKept.run_setObj_map _ hb, Result.andThen, setBlock, ent]

/-- The rest of the insertions: those that the walk does not meet. -/
noncomputable def putRaw (W : World) (r : Nat) (k : Int) (v : Value) : Result Unit := (Instr.mapUpdate 58 (.map (some r)) (.int .i64 k) v).run Try.prog W
noncomputable def putRes (W : World) (r : Nat) (k : Int) (v : Value) : Option Obj → Result Unit
  | some (.map es c) => if freshB k es = true then .ok () (setBlock W r (.map (es.push (ent k v c)) (c + 1))) else putRaw W r k v
  | _ => putRaw W r k v
theorem put_eq (W : World) (r : Nat) (k : Int) (v : Value) : (Instr.mapUpdate 58 (.map (some r)) (.int .i64 k) v).run Try.prog W = putRes W r k v (objAt W r) := by
  unfold putRes
  split
  · rename_i es c h
    split
    · rename_i hf
      exact put_run W r es c k v h hf
    · rfl
  · rfl
theorem putRes_map (W : World) (r : Nat) (k : Int) (v : Value) (es : Array MapEntry) (c : Nat) : putRes W r k v (some (.map es c)) = if freshB k es = true then .ok () (setBlock W r (.map (es.push (ent k v c)) (c + 1))) else putRaw W r k v := rfl
theorem fresh_nil (k : Int) : freshB k #[] = true := rfl
theorem fresh_cons (k q : Int) (v : Value) (c : Nat) (l : List MapEntry) : freshB k (List.toArray (ent q v c :: l)) = (k != q && freshB k (List.toArray l)) := by
  simp [freshB, ent]

/-- A look-up. -/
def findLit (k : Int) : List MapEntry → Option Value
  | [] => none
  | e :: es => match e.key with
    | .int .i64 q => if k = q then some e.val else findLit k es
    | _ => none
theorem findNow_lit (k : Int) : ∀ (es : List MapEntry) (i : Nat), (∀ e ∈ es, ∃ q, e.key = .int .i64 q) → ∃ j : Nat, Instr.findNow (.int .i64) (.int .i64 k) es i = some ((findLit k es).map fun v => (j, v))
  | [], _, _ => ⟨0, rfl⟩
  | e :: es, i, h => by
    obtain ⟨key, val, born⟩ := e
    obtain ⟨q, hq⟩ := h _ (List.mem_cons_self)
    simp only at hq
    subst hq
    by_cases hkq : k = q
    · subst hkq
      exact ⟨i, by simp [Instr.findNow, Instr.sameNow, findLit]⟩
    · obtain ⟨j, hj⟩ := findNow_lit k es (i + 1) (fun e he => h e (List.mem_cons_of_mem _ he))
      have h2 : (k == q) = false := beq_eq_false_iff_ne.2 hkq
      refine ⟨j, ?_⟩
      simp only [Instr.findNow, Instr.sameNow, if_true, h2, findLit, if_neg hkq]
      exact hj
theorem zero56 (W : World) : (zeroValue 56).run Try.prog W = .ok (.slice none 0 0) W := by kernel_rfl
theorem look_run (W : World) (r : Nat) (es : Array MapEntry) (c : Nat) (k : Int) (hb : W.heap[r]? = some (.map es c)) (hk : ∀ e ∈ es.toList, ∃ q, e.key = .int .i64 q) :
    (Instr.lookup 58 (.map (some r)) (.int .i64 k) true).run Try.prog W = .ok (.tuple #[(findLit k es.toList).getD (.slice none 0 0), .bool (findLit k es.toList).isSome]) W := by
  obtain ⟨j, h1⟩ := findNow_lit k es.toList 0 hk
  have h2 := fun b => MapKept.run_checkKey (P := Try.prog) (w := W) (kt := 3) (k := .int .i64 k) Try.underlying3 rfl b 9999
  have h3 := MapKept.run_findKey (P := Try.prog) (w := W) (kt := 3) Try.underlying3 h1
  cases hf : findLit k es.toList with
  | none =>
    rw [hf] at h3
    simp [Instr.lookup, run_underlying Try.underlying58, MapKept.run_getObj_map hb, h2, h3, Result.andThen]
  | some v =>
    rw [hf] at h3
    simp [Instr.lookup, run_underlying Try.underlying58, MapKept.run_getObj_map hb, h2, h3, Result.andThen]
attribute [local go_sem] put_eq objAt_alloc putRes_map setBlock_alloc fresh_nil fresh_cons

/-- A row that lies in a block of its own. -/
theorem C_of_block {α : Type} (d : Kd α) {w : World} {b e : Nat} {cells : Array Value} {xs : List α} {n : Nat} (h : w.heap[b]? = some (.cells cells e)) (hr : Reps (d.K w) d.sz xs cells.toList) (hn : xs.length = n) (hs : n ≤ 1000) : d.C w (some { block := b, off := 0 }) n xs := by
  refine ⟨hn, by omega, fun _ => ⟨_, rfl, fun j p hp => ⟨_, d.K_len (hr.2 j p hp), hr.2 j p hp, fun i u hu => ?_⟩⟩⟩
  have h1 : cells[j * d.sz + i]? = some u := by
    rw [List.getElem?_take] at hu
    split at hu
    · rw [List.getElem?_drop] at hu
      simpa using hu
    · cases hu
  have e1 : Addr.add { block := b, off := 0 } (j * d.sz + i) = { block := b, off := j * d.sz + i } := by
    unfold Addr.add
    split
    · rename_i h2
      rw [h2]
    · simp
  simp [World.cell?, e1, h, h1]

structure SpansAt (w' : World) (r : Nat) : Prop where
  es : ∃ es c, w'.heap[r]? = some (.map es c) ∧ (∀ e ∈ es.toList, ∃ q, e.key = .int .i64 q) ∧ ∀ k, (kindOk k = false → findLit k es.toList = none) ∧
    (kindOk k = true → ∃ A, findLit k es.toList = some (.slice A (rangesOf k).length (rangesOf k).length) ∧ Kd.C PIntentPuts.k67 w' A (rangesOf k).length (rangesOf k))

theorem heap_at (w : World) (o : Obj) (r : Nat) : (w.alloc o).heap[r]? = if r = w.heap.size then some o else w.heap[r]? := by
  unfold World.alloc
  rw [Array.getElem?_push]
def rowCells (xs : List PIntentPuts.S67) : List Value := xs.flatMap fun x => [.int .i64 x.f0, .int .i64 x.f1]
theorem reps_more (w : World) : ∀ (xs ys : List PIntentPuts.S67) (cs : List Value), Reps (PIntentPuts.k67.K w) PIntentPuts.k67.sz ys cs → Reps (PIntentPuts.k67.K w) PIntentPuts.k67.sz (ys ++ xs) (cs ++ rowCells xs)
  | [], ys, cs, h => by simpa [rowCells] using h
  | x :: xs, ys, cs, h => by
    have h1 := reps_more w xs (ys ++ [x]) _ (Reps.snoc h (PIntentPuts.k67_mk w x) rfl)
    simpa [rowCells] using h1
theorem reps_all (w : World) (xs : List PIntentPuts.S67) : Reps (PIntentPuts.k67.K w) PIntentPuts.k67.sz xs (rowCells xs) := reps_more w xs [] [] (Reps.none _ _)

set_option maxHeartbeats 8000000 in
theorem spans_calls (w : World) : Calls Try.prog 27 #[] w fun ev w' => ∃ r, ev = .returned (.map (some r)) ∧ Below w.heap.size w w' ∧ w.heap.size ≤ r ∧ SpansAt w' r := by
  have hmm := @run_makeMap Try.prog
  go_enter Try.func27, Try.ntmps27
  go_wp2
  go_ret
  refine ⟨_, rfl, by repeat (first | exact Below.refl _ _ | apply below_alloc), by omega, ⟨_, _, by simp only [heap_at]; go_simp; exact ⟨rfl, rfl⟩, ?_, ?_⟩⟩
  · simp [ent]
  · intro k
    refine ⟨fun hk => ?_, fun hk => ?_⟩
    · simp only [kindOk, Bool.and_eq_false_iff, decide_eq_false_iff_not] at hk
      simp only [findLit, ent]
      repeat (first | rfl | rw [if_neg (by omega)])
    · rcases kindOk_cases hk with rfl | rfl | rfl | rfl | rfl | rfl | rfl | rfl | rfl | rfl | rfl <;> refine ⟨_, by simp [findLit, ent, rangesOf]; rfl, C_of_block _ (by simp only [heap_at]; go_simp; exact ⟨rfl, rfl⟩) ?_ rfl (by decide)⟩
      all_goals exact reps_all _ _
end Go.Proofs.Ytaogmfchpcdboaa
