/- The six laws of chapter 09 through their machine code: what each answers where what it calls answers what is named. No condition beside what each theorem names. -/
import Derived.Test.YtaogmfchpcdboaaAwake
import Derived.Test.YtaogmfchpcdboaaPIntentGetsx2
namespace Go.Proofs.Ytaogmfchpcdboaa
open Go.RowKit Go.Proofs.YtaogmfchpcdboaaW.PrintWords
open Go.ChangeMaps (setBlock)
set_option linter.unusedSimpArgs false
set_option linter.unusedVariables false

def PutIs (f : FuncId) (k : Int) (b : Bd) (s : ByteArray) (e : Int) : Prop := ∀ W, Calls Try.prog f #[recVal k b] W fun r w' => r = .returned (.tuple #[.string s, .int .i64 e]) ∧ Below W.heap.size W w'
def GetIs (f : FuncId) (s : ByteArray) (k : Int) (b : Bd) (e : Int) : Prop := ∀ W, Calls Try.prog f #[.string s] W fun r w' => r = .returned (.tuple #[recVal k b, .int .i64 e]) ∧ Below W.heap.size W w'
theorem Boxed.second (k : Int) (b : Bd) (q : Int) (c : Bd) (w : World) : Boxed (w.heap.size + 1) q c ((w.alloc (.cells (recCells k b) 41)).alloc (.cells (recCells q c) 41)) := by
  have hs : (w.alloc (.cells (recCells k b) 41)).heap.size = w.heap.size + 1 := by
    show (w.heap.push _).size = _
    simp
  unfold Boxed
  rw [heap_at, if_pos hs.symm]
/-! The load of a whole record goes by 'Boxed.load': the walk does not part it. -/
attribute [local go_sem ↓] load_one
attribute [local go_sem] Value.cells
set_option maxHeartbeats 16000000 in
set_option maxRecDepth 100000 in
theorem puts_walk (k : Int) (b : Bd) (s : ByteArray) (e : Int) (w : World) (hp : PutIs 21 k b s e) (hr : PutIs 22 k b s e) : Calls Try.prog 9 #[recVal k b] w fun e w' => e = .returned (.bool true) ∧ Below w.heap.size w w' := by
  have HP := Aside0.mk hp
  have HR := Aside0.mk hr
  clear hp hr
  have HX := Aside0.mk (Boxed.new k b w)
  have HB := Aside0.mk (below_alloc (Below.refl w.heap.size w) (.cells (recCells k b) 41))
  unfold recVal
  go_enter Try.func9, Try.ntmps9
  go_wp2_with (first | (go_at_call 21; (refine (HP.out _).mono ?_; rintro e_ w1 ⟨rfl, hb⟩; have n0_ := Aside0.mk (below_step HB.out hb); have m0_ := Aside0.mk (HX.out.below hb); clear HB HX hb; have HB := n0_; have HX := m0_; clear n0_ m0_)) | (go_at_call 22; (refine (HR.out _).mono ?_; rintro e_ w2 ⟨rfl, hb⟩; have n0_ := Aside0.mk (below_step HB.out hb); have m0_ := Aside0.mk (HX.out.below hb); clear HB HX hb; have HB := n0_; have HX := m0_; clear n0_ m0_)) | (go_at_call 23; (refine (awake_calls _).mono ?_; rintro e_ w3 ⟨rfl, hb⟩; have n0_ := Aside0.mk (below_step HB.out hb); have m0_ := Aside0.mk (HX.out.below hb); clear HB HX hb; have HB := n0_; have HX := m0_; clear n0_ m0_)) | ((with_reducible refine gate_load (t := 41) rfl ?_); refine wpList_load_row rfl 41 _ rfl _ (by rfl) 41 _ (0, 0) _ (HX.out) Try.underlying41 rfl (by kernel_rfl) ?_; simp only [recCells, recVal, Value.cells]; go_simp))
  go_ret
  exact ⟨rfl, (by repeat (first | (with_reducible first | exact HB.out | apply below_alloc | apply pw_below_drewN | apply below_drew1) | exact HB.out))⟩
set_option maxHeartbeats 16000000 in
set_option maxRecDepth 100000 in
theorem gets_long (s : ByteArray) (w : World) (hs : ¬ s.size ≤ 500) : Calls Try.prog 10 #[.string s] w fun e w' => e = .returned (.bool true) ∧ Below w.heap.size w w' := by
  have f0 : decide (500 < (s.size : Int)) = true := by simp; omega
  have f0n : decide (500 < s.size) = true := by simp; omega
  have f1 : (500 < (s.size : Int)) := by omega
  have f1n : (500 < s.size) := by omega
  have HB := Aside0.mk (Below.refl w.heap.size w)
  go_enter Try.func10, Try.ntmps10
  go_wp2_with (first | (go_at_call 23; (refine (awake_calls _).mono ?_; rintro e_ w1 ⟨rfl, hb⟩; have n0_ := Aside0.mk (below_step (by repeat (first | (with_reducible first | exact HB.out | apply below_alloc | apply pw_below_drewN | apply below_drew1) | exact HB.out)) hb); clear HB  hb; have HB := n0_; clear n0_ )))
  go_ret
  exact ⟨rfl, (by repeat (first | (with_reducible first | exact HB.out | apply below_alloc | apply pw_below_drewN | apply below_drew1) | exact HB.out))⟩
set_option maxHeartbeats 16000000 in
set_option maxRecDepth 100000 in
theorem one_long (s : ByteArray) (w : World) (hs : ¬ s.size ≤ 500) : Calls Try.prog 12 #[.string s] w fun e w' => e = .returned (.bool true) ∧ Below w.heap.size w w' := by
  have f0 : decide (500 < (s.size : Int)) = true := by simp; omega
  have f0n : decide (500 < s.size) = true := by simp; omega
  have f1 : (500 < (s.size : Int)) := by omega
  have f1n : (500 < s.size) := by omega
  have HB := Aside0.mk (Below.refl w.heap.size w)
  go_enter Try.func12, Try.ntmps12
  go_wp2_with (first | (go_at_call 23; (refine (awake_calls _).mono ?_; rintro e_ w1 ⟨rfl, hb⟩; have n0_ := Aside0.mk (below_step (by repeat (first | (with_reducible first | exact HB.out | apply below_alloc | apply pw_below_drewN | apply below_drew1) | exact HB.out)) hb); clear HB  hb; have HB := n0_; clear n0_ )))
  go_ret
  exact ⟨rfl, (by repeat (first | (with_reducible first | exact HB.out | apply below_alloc | apply pw_below_drewN | apply below_drew1) | exact HB.out))⟩
set_option maxHeartbeats 16000000 in
set_option maxRecDepth 100000 in
theorem gets_walk (s : ByteArray) (k : Int) (b : Bd) (e : Int) (w : World) (hs : s.size ≤ 500) (hg : GetIs 24 s k b e) (hr : GetIs 25 s k b e) : Calls Try.prog 10 #[.string s] w fun e w' => e = .returned (.bool true) ∧ Below w.heap.size w w' := by
  have f0 : decide (500 < (s.size : Int)) = false := by simp; omega
  have f0n : decide (500 < s.size) = false := by simp; omega
  have f1 : ¬ (500 < (s.size : Int)) := by omega
  have f1n : ¬ (500 < s.size) := by omega
  have HB := Aside0.mk (Below.refl w.heap.size w)
  have HG := Aside0.mk hg
  have HR := Aside0.mk hr
  clear hg hr
  have hq : ∀ W, (binOp .eql 41 (recVal k b) (recVal k b)).run Try.prog W = .ok (.bool true) W := fun W => (eql41 W k k b b).trans (by rw [(recEq_iff k k b b).2 ⟨rfl, rfl⟩])
  unfold recVal at hq
  go_enter Try.func10, Try.ntmps10
  go_wp2_with (first | (go_at_call 23; (refine (awake_calls _).mono ?_; rintro e_ w1 ⟨rfl, hb⟩; have n0_ := Aside0.mk (below_step (by repeat (first | (with_reducible first | exact HB.out | apply below_alloc | apply pw_below_drewN | apply below_drew1) | exact HB.out)) hb); clear HB  hb; have HB := n0_; clear n0_ )) | (go_at_call 24; (refine (HG.out _).mono ?_; rintro e_ w2 ⟨rfl, hb⟩; have n0_ := Aside0.mk (below_step (by repeat (first | (with_reducible first | exact HB.out | apply below_alloc | apply pw_below_drewN | apply below_drew1) | exact HB.out)) hb); clear HB  hb; have HB := n0_; clear n0_ ; unfold recVal; have HQ := Aside0.mk (Boxed.new k b w2))) | (go_at_call 25; (refine (HR.out _).mono ?_; rintro e_ w3 ⟨rfl, hb⟩; have n0_ := Aside0.mk (below_step (by repeat (first | (with_reducible first | exact HB.out | apply below_alloc | apply pw_below_drewN | apply below_drew1) | exact HB.out)) hb); have m0_ := Aside0.mk (HQ.out.below hb); clear HB HQ hb; have HB := n0_; have HQ := m0_; clear n0_ m0_; unfold recVal; have HN := Aside0.mk (Boxed.new k b w3))) | ((with_reducible refine gate_load (t := 41) rfl ?_); refine wpList_load_row rfl 41 _ rfl _ (by rfl) 41 _ (0, 0) _ (HN.out) Try.underlying41 rfl (by kernel_rfl) ?_; simp only [recCells, recVal, Value.cells]; go_simp) | ((with_reducible refine gate_load (t := 41) rfl ?_); refine wpList_load_row rfl 41 _ rfl _ (by rfl) 41 _ (0, 0) _ (heap_over HQ.out) Try.underlying41 rfl (by kernel_rfl) ?_; simp only [recCells, recVal, Value.cells]; go_simp) | ((with_reducible refine gate_store (t := 41) rfl ?_); refine wpList_store_block rfl 41 _ _ rfl _ _ (by rfl) (by rfl) 41 _ (by simp only [objAt_alloc, objAt_drew]; go_simp; first | rfl | exact ⟨rfl, rfl⟩) (by kernel_rfl) (by rfl) (by simp [Value.oneCell']) ?_; simp only [setBlock_alloc, setBlock_drew]; go_simp))
  go_ret
  exact ⟨rfl, (by repeat (first | (with_reducible first | exact HB.out | apply below_alloc | apply pw_below_drewN | apply below_drew1) | exact HB.out))⟩
set_option maxHeartbeats 16000000 in
set_option maxRecDepth 100000 in
theorem back_bad (k : Int) (b : Bd) (e : Int) (w : World) (he : e ≠ 0) (hp : PutIs 21 k b ⟨#[]⟩ e) : Calls Try.prog 11 #[recVal k b] w fun e w' => e = .returned (.bool true) ∧ Below w.heap.size w w' := by
  have HP := Aside0.mk hp
  clear hp
  have HX := Aside0.mk (Boxed.new k b w)
  have HB := Aside0.mk (below_alloc (Below.refl w.heap.size w) (.cells (recCells k b) 41))
  unfold recVal
  go_enter Try.func11, Try.ntmps11
  go_wp2_with (first | (go_at_call 21; (refine (HP.out _).mono ?_; rintro e_ w1 ⟨rfl, hb⟩; have n0_ := Aside0.mk (below_step HB.out hb); have m0_ := Aside0.mk (HX.out.below hb); clear HB HX hb; have HB := n0_; have HX := m0_; clear n0_ m0_)) | (go_at_call 23; (refine (awake_calls _).mono ?_; rintro e_ w3 ⟨rfl, hb⟩; have n0_ := Aside0.mk (below_step HB.out hb); have m0_ := Aside0.mk (HX.out.below hb); clear HB HX hb; have HB := n0_; have HX := m0_; clear n0_ m0_)) | ((with_reducible refine gate_load (t := 41) rfl ?_); refine wpList_load_row rfl 41 _ rfl _ (by rfl) 41 _ (0, 0) _ (HX.out) Try.underlying41 rfl (by kernel_rfl) ?_; simp only [recCells, recVal, Value.cells]; go_simp))
  go_ret
  exact ⟨rfl, (by repeat (first | (with_reducible first | exact HB.out | apply below_alloc | apply pw_below_drewN | apply below_drew1) | exact HB.out))⟩
set_option maxHeartbeats 16000000 in
set_option maxRecDepth 100000 in
theorem back_good (k : Int) (b : Bd) (s : ByteArray) (w : World) (hp : PutIs 21 k b s 0) (hg : GetIs 24 s k b 0) : Calls Try.prog 11 #[recVal k b] w fun e w' => e = .returned (.bool true) ∧ Below w.heap.size w w' := by
  have HP := Aside0.mk hp
  have HG := Aside0.mk hg
  clear hp hg
  have HX := Aside0.mk (Boxed.new k b w)
  have HB := Aside0.mk (below_alloc (Below.refl w.heap.size w) (.cells (recCells k b) 41))
  have hq : ∀ W, (binOp .eql 41 (recVal k b) (recVal k b)).run Try.prog W = .ok (.bool true) W := fun W => (eql41 W k k b b).trans (by rw [(recEq_iff k k b b).2 ⟨rfl, rfl⟩])
  unfold recVal at hq ⊢
  go_enter Try.func11, Try.ntmps11
  go_wp2_with (first | (go_at_call 21; (refine (HP.out _).mono ?_; rintro e_ w1 ⟨rfl, hb⟩; have n0_ := Aside0.mk (below_step HB.out hb); have m0_ := Aside0.mk (HX.out.below hb); clear HB HX hb; have HB := n0_; have HX := m0_; clear n0_ m0_)) | (go_at_call 23; (refine (awake_calls _).mono ?_; rintro e_ w2 ⟨rfl, hb⟩; have n0_ := Aside0.mk (below_step HB.out hb); have m0_ := Aside0.mk (HX.out.below hb); clear HB HX hb; have HB := n0_; have HX := m0_; clear n0_ m0_)) | (go_at_call 24; (refine (HG.out _).mono ?_; rintro e_ w3 ⟨rfl, hb⟩; have n0_ := Aside0.mk (below_step HB.out hb); have m0_ := Aside0.mk (HX.out.below hb); clear HB HX hb; have HB := n0_; have HX := m0_; clear n0_ m0_; unfold recVal; have HN := Aside0.mk (Boxed.new k b w3))) | ((with_reducible refine gate_load (t := 41) rfl ?_); refine wpList_load_row rfl 41 _ rfl _ (by rfl) 41 _ (0, 0) _ (HX.out) Try.underlying41 rfl (by kernel_rfl) ?_; simp only [recCells, recVal, Value.cells]; go_simp) | ((with_reducible refine gate_load (t := 41) rfl ?_); refine wpList_load_row rfl 41 _ rfl _ (by rfl) 41 _ (0, 0) _ (HN.out) Try.underlying41 rfl (by kernel_rfl) ?_; simp only [recCells, recVal, Value.cells]; go_simp) | ((with_reducible refine gate_load (t := 41) rfl ?_); refine wpList_load_row rfl 41 _ rfl _ (by rfl) 41 _ (0, 0) _ (heap_over HX.out) Try.underlying41 rfl (by kernel_rfl) ?_; simp only [recCells, recVal, Value.cells]; go_simp) | ((with_reducible refine gate_store (t := 41) rfl ?_); refine wpList_store_block rfl 41 _ _ rfl _ _ (by rfl) (by rfl) 41 _ (by simp only [objAt_alloc, objAt_drew]; go_simp; first | rfl | exact ⟨rfl, rfl⟩) (by kernel_rfl) (by rfl) (by simp [Value.oneCell']) ?_; simp only [setBlock_alloc, setBlock_drew]; go_simp))
  go_ret
  exact ⟨rfl, (by repeat (first | (with_reducible first | exact HB.out | apply below_alloc | apply pw_below_drewN | apply below_drew1) | exact HB.out))⟩
set_option maxHeartbeats 16000000 in
set_option maxRecDepth 100000 in
theorem one_bad (s : ByteArray) (e : Int) (w : World) (hs : s.size ≤ 500) (he : e ≠ 0) (hg : GetIs 24 s 0 zB e) : Calls Try.prog 12 #[.string s] w fun e w' => e = .returned (.bool true) ∧ Below w.heap.size w w' := by
  have f0 : decide (500 < (s.size : Int)) = false := by simp; omega
  have f0n : decide (500 < s.size) = false := by simp; omega
  have f1 : ¬ (500 < (s.size : Int)) := by omega
  have f1n : ¬ (500 < s.size) := by omega
  have HB := Aside0.mk (Below.refl w.heap.size w)
  have HG := Aside0.mk hg
  clear hg
  have hq : ∀ W, (binOp .eql 41 (recVal 0 zB) (recVal 0 zB)).run Try.prog W = .ok (.bool true) W := fun W => (eql41 W 0 0 zB zB).trans (by rw [(recEq_iff 0 0 zB zB).2 ⟨rfl, rfl⟩])
  simp only [recVal, zB] at hq
  go_enter Try.func12, Try.ntmps12
  go_wp2_with (first | (go_at_call 23; (refine (awake_calls _).mono ?_; rintro e_ w1 ⟨rfl, hb⟩; have n0_ := Aside0.mk (below_step (by repeat (first | (with_reducible first | exact HB.out | apply below_alloc | apply pw_below_drewN | apply below_drew1) | exact HB.out)) hb); clear HB  hb; have HB := n0_; clear n0_ )) | (go_at_call 24; (refine (HG.out _).mono ?_; rintro e_ w2 ⟨rfl, hb⟩; have n0_ := Aside0.mk (below_step (by repeat (first | (with_reducible first | exact HB.out | apply below_alloc | apply pw_below_drewN | apply below_drew1) | exact HB.out)) hb); clear HB  hb; have HB := n0_; clear n0_ ; simp only [recVal, zB]; have HN := Aside0.mk (Boxed.new 0 zB w2))) | ((with_reducible refine gate_load (t := 41) rfl ?_); refine wpList_load_row rfl 41 _ rfl _ (by rfl) 41 _ (0, 0) _ (HN.out) Try.underlying41 rfl (by kernel_rfl) ?_; simp only [recCells, recVal, Value.cells, zB]; go_simp) | ((with_reducible refine gate_store (t := 41) rfl ?_); refine wpList_store_block rfl 41 _ _ rfl _ _ (by rfl) (by rfl) 41 _ (by simp only [objAt_alloc, objAt_drew]; go_simp; first | rfl | exact ⟨rfl, rfl⟩) (by kernel_rfl) (by rfl) (by simp [Value.oneCell']) ?_; simp only [setBlock_alloc, setBlock_drew]; go_simp))
  go_ret
  exact ⟨rfl, (by repeat (first | (with_reducible first | exact HB.out | apply below_alloc | apply pw_below_drewN | apply below_drew1) | exact HB.out))⟩
set_option maxHeartbeats 16000000 in
set_option maxRecDepth 100000 in
theorem one_good (s : ByteArray) (k : Int) (b : Bd) (w : World) (hs : s.size ≤ 500) (hg : GetIs 24 s k b 0) (hp : PutIs 21 k b s 0) : Calls Try.prog 12 #[.string s] w fun e w' => e = .returned (.bool true) ∧ Below w.heap.size w w' := by
  have f0 : decide (500 < (s.size : Int)) = false := by simp; omega
  have f0n : decide (500 < s.size) = false := by simp; omega
  have f1 : ¬ (500 < (s.size : Int)) := by omega
  have f1n : ¬ (500 < s.size) := by omega
  have HB := Aside0.mk (Below.refl w.heap.size w)
  have HG := Aside0.mk hg
  have HP := Aside0.mk hp
  clear hg hp
  go_enter Try.func12, Try.ntmps12
  go_wp2_with (first | (go_at_call 23; (refine (awake_calls _).mono ?_; rintro e_ w1 ⟨rfl, hb⟩; have n0_ := Aside0.mk (below_step (by repeat (first | (with_reducible first | exact HB.out | apply below_alloc | apply pw_below_drewN | apply below_drew1) | exact HB.out)) hb); clear HB  hb; have HB := n0_; clear n0_ )) | (go_at_call 24; (refine (HG.out _).mono ?_; rintro e_ w2 ⟨rfl, hb⟩; have n0_ := Aside0.mk (below_step (by repeat (first | (with_reducible first | exact HB.out | apply below_alloc | apply pw_below_drewN | apply below_drew1) | exact HB.out)) hb); clear HB  hb; have HB := n0_; clear n0_ ; unfold recVal; have HN := Aside0.mk (Boxed.new k b w2))) | (go_at_call 21; (refine (HP.out _).mono ?_; rintro e_ w3 ⟨rfl, hb⟩; have n0_ := Aside0.mk (below_step (by repeat (first | (with_reducible first | exact HB.out | apply below_alloc | apply pw_below_drewN | apply below_drew1) | exact HB.out)) hb); clear HB  hb; have HB := n0_; clear n0_ )) | ((with_reducible refine gate_load (t := 41) rfl ?_); refine wpList_load_row rfl 41 _ rfl _ (by rfl) 41 _ (0, 0) _ (HN.out) Try.underlying41 rfl (by kernel_rfl) ?_; simp only [recCells, recVal, Value.cells]; go_simp) | ((with_reducible refine gate_store (t := 41) rfl ?_); refine wpList_store_block rfl 41 _ _ rfl _ _ (by rfl) (by rfl) 41 _ (by simp only [objAt_alloc, objAt_drew]; go_simp; first | rfl | exact ⟨rfl, rfl⟩) (by kernel_rfl) (by rfl) (by simp [Value.oneCell']) ?_; simp only [setBlock_alloc, setBlock_drew]; go_simp))
  go_ret
  exact ⟨rfl, (by repeat (first | (with_reducible first | exact HB.out | apply below_alloc | apply pw_below_drewN | apply below_drew1) | exact HB.out))⟩
set_option maxHeartbeats 16000000 in
set_option maxRecDepth 100000 in
theorem sizes_bad (k : Int) (b : Bd) (n : Int) (s : ByteArray) (e : Int) (w : World) (he : e ≠ 0) (hp : PutIs 21 k b s e) : Calls Try.prog 13 #[recVal k b, .int .i64 n] w fun e w' => e = .returned (.bool true) ∧ Below w.heap.size w w' := by
  have HP := Aside0.mk hp
  clear hp
  have HX := Aside0.mk (Boxed.new k b w)
  have HB := Aside0.mk (below_alloc (Below.refl w.heap.size w) (.cells (recCells k b) 41))
  unfold recVal
  go_enter Try.func13, Try.ntmps13
  go_wp2_with (first | (go_at_call 21; (refine (HP.out _).mono ?_; rintro e_ w1 ⟨rfl, hb⟩; have n0_ := Aside0.mk (below_step HB.out hb); have m0_ := Aside0.mk (HX.out.below hb); clear HB HX hb; have HB := n0_; have HX := m0_; clear n0_ m0_)) | (go_at_call 23; (refine (awake_calls _).mono ?_; rintro e_ w3 ⟨rfl, hb⟩; have n0_ := Aside0.mk (below_step HB.out hb); have m0_ := Aside0.mk (HX.out.below hb); clear HB HX hb; have HB := n0_; have HX := m0_; clear n0_ m0_)) | ((with_reducible refine gate_load (t := 41) rfl ?_); refine wpList_load_row rfl 41 _ rfl _ (by rfl) 41 _ (0, 0) _ (HX.out) Try.underlying41 rfl (by kernel_rfl) ?_; simp only [recCells, recVal, Value.cells]; go_simp))
  go_ret
  exact ⟨by simp [he], (by repeat (first | (with_reducible first | exact HB.out | apply below_alloc | apply pw_below_drewN | apply below_drew1) | exact HB.out))⟩
set_option maxHeartbeats 16000000 in
set_option maxRecDepth 100000 in
theorem sizes_neg (k : Int) (b : Bd) (n : Int) (s : ByteArray) (w : World) (hs0 : 0 < s.size) (hs : s.size ≤ 42) (hk : (IntKind.i64.wrap ((s[0]'hs0).toNat : Int) != k) = false) (hp : PutIs 21 k b s 0) (hn : n < 0) : Calls Try.prog 13 #[recVal k b, .int .i64 n] w fun e w' => e = .returned (.bool true) ∧ Below w.heap.size w w' := by
  have z0 : ¬ ((s.size : Int) = 0) := by omega
  have z0n : ¬ (s.size = 0) := by omega
  have z0b : ((s.size : Int) == 0) = false := beq_eq_false_iff_ne.2 z0
  have z1 : (0 : Int) < (s.size : Int) := by omega
  have z1n : 0 < s.size := hs0
  have z2 : decide (42 < (s.size : Int)) = false := by simp; omega
  have z2n : decide (42 < s.size) = false := by simp; omega
  have d1 : decide (n < 0) = true := by simp; omega
  have HP := Aside0.mk hp
  clear hp
  have HX := Aside0.mk (Boxed.new k b w)
  have HB := Aside0.mk (below_alloc (Below.refl w.heap.size w) (.cells (recCells k b) 41))
  unfold recVal
  go_enter Try.func13, Try.ntmps13
  go_wp2_with (first | (go_at_call 21; (refine (HP.out _).mono ?_; rintro e_ w1 ⟨rfl, hb⟩; have n0_ := Aside0.mk (below_step HB.out hb); have m0_ := Aside0.mk (HX.out.below hb); clear HB HX hb; have HB := n0_; have HX := m0_; clear n0_ m0_)) | (go_at_call 23; (refine (awake_calls _).mono ?_; rintro e_ w3 ⟨rfl, hb⟩; have n0_ := Aside0.mk (below_step HB.out hb); have m0_ := Aside0.mk (HX.out.below hb); clear HB HX hb; have HB := n0_; have HX := m0_; clear n0_ m0_)) | ((with_reducible refine gate_load (t := 41) rfl ?_); refine wpList_load_row rfl 41 _ rfl _ (by rfl) 41 _ (0, 0) _ (HX.out) Try.underlying41 rfl (by kernel_rfl) ?_; simp only [recCells, recVal, Value.cells]; go_simp))
  go_region_held3 (fun W => W.cell? ⟨w.heap.size, 0, none⟩ = some (.int .i64 k)) (first | exact HX.out.kind) (fail)
  all_goals (rename_i hHeld; clear hHeld)
  go_wp2
  go_ret
  exact ⟨rfl, (by repeat (first | (with_reducible first | exact HB.out | apply below_alloc | apply pw_below_drewN | apply below_drew1) | exact HB.out))⟩
set_option maxHeartbeats 16000000 in
set_option maxRecDepth 100000 in
theorem sizes_far (k : Int) (b : Bd) (n : Int) (s : ByteArray) (w : World) (hs0 : 0 < s.size) (hs : s.size ≤ 42) (hk : (IntKind.i64.wrap ((s[0]'hs0).toNat : Int) != k) = false) (hp : PutIs 21 k b s 0) (hn : (s.size : Int) ≤ n) : Calls Try.prog 13 #[recVal k b, .int .i64 n] w fun e w' => e = .returned (.bool true) ∧ Below w.heap.size w w' := by
  have z0 : ¬ ((s.size : Int) = 0) := by omega
  have z0n : ¬ (s.size = 0) := by omega
  have z0b : ((s.size : Int) == 0) = false := beq_eq_false_iff_ne.2 z0
  have z1 : (0 : Int) < (s.size : Int) := by omega
  have z1n : 0 < s.size := hs0
  have z2 : decide (42 < (s.size : Int)) = false := by simp; omega
  have z2n : decide (42 < s.size) = false := by simp; omega
  have d1 : decide (n < 0) = false := by simp; omega
  have d2 : decide ((s.size : Int) ≤ n) = true := by simp; omega
  have d3 : ¬ (n < 0) := by omega
  have HP := Aside0.mk hp
  clear hp
  have HX := Aside0.mk (Boxed.new k b w)
  have HB := Aside0.mk (below_alloc (Below.refl w.heap.size w) (.cells (recCells k b) 41))
  unfold recVal
  go_enter Try.func13, Try.ntmps13
  go_wp2_with (first | (go_at_call 21; (refine (HP.out _).mono ?_; rintro e_ w1 ⟨rfl, hb⟩; have n0_ := Aside0.mk (below_step HB.out hb); have m0_ := Aside0.mk (HX.out.below hb); clear HB HX hb; have HB := n0_; have HX := m0_; clear n0_ m0_)) | (go_at_call 23; (refine (awake_calls _).mono ?_; rintro e_ w3 ⟨rfl, hb⟩; have n0_ := Aside0.mk (below_step HB.out hb); have m0_ := Aside0.mk (HX.out.below hb); clear HB HX hb; have HB := n0_; have HX := m0_; clear n0_ m0_)) | ((with_reducible refine gate_load (t := 41) rfl ?_); refine wpList_load_row rfl 41 _ rfl _ (by rfl) 41 _ (0, 0) _ (HX.out) Try.underlying41 rfl (by kernel_rfl) ?_; simp only [recCells, recVal, Value.cells]; go_simp))
  go_region_held3 (fun W => W.cell? ⟨w.heap.size, 0, none⟩ = some (.int .i64 k)) (first | exact HX.out.kind) (fail)
  all_goals (rename_i hHeld; clear hHeld)
  go_wp2
  go_ret
  exact ⟨rfl, (by repeat (first | (with_reducible first | exact HB.out | apply below_alloc | apply pw_below_drewN | apply below_drew1) | exact HB.out))⟩
set_option maxHeartbeats 16000000 in
set_option maxRecDepth 100000 in
theorem sizes_cut (k : Int) (b : Bd) (n : Int) (s : ByteArray) (w : World) (hs0 : 0 < s.size) (hs : s.size ≤ 42) (hk : (IntKind.i64.wrap ((s[0]'hs0).toNat : Int) != k) = false) (hp : PutIs 21 k b s 0) (k2 : Int) (b2 : Bd) (e2 : Int) (y : List Int) (e3 : Int) (kg : Nat) (h0 : 0 ≤ n) (h1 : n < (s.size : Int)) (hg : GetIs 24 (s.extract 0 n.toNat) k2 b2 e2) (hr : PIntentGets.switchbackref08_Get.f kg (s.extract 0 n.toNat) = some (y, e3)) (he2 : e2 ≠ 0) (he3 : e3 = 0 ∨ e2 = e3) : Calls Try.prog 13 #[recVal k b, .int .i64 n] w fun e w' => e = .returned (.bool true) ∧ Below w.heap.size w w' := by
  have z0 : ¬ ((s.size : Int) = 0) := by omega
  have z0n : ¬ (s.size = 0) := by omega
  have z0b : ((s.size : Int) == 0) = false := beq_eq_false_iff_ne.2 z0
  have z1 : (0 : Int) < (s.size : Int) := by omega
  have z1n : 0 < s.size := hs0
  have z2 : decide (42 < (s.size : Int)) = false := by simp; omega
  have z2n : decide (42 < s.size) = false := by simp; omega
  have d1 : decide (n < 0) = false := by simp; omega
  have d2 : decide ((s.size : Int) ≤ n) = false := by simp; omega
  have d3 : ¬ (n < 0) := by omega
  have d4 : ¬ ((s.size : Int) ≤ n) := by omega
  have d5 : n ≤ (s.size : Int) := by omega
  have HP := Aside0.mk hp
  have HG := Aside0.mk hg
  have HR := Aside0.mk hr
  have HE := Aside0.mk he3
  clear hp hg hr he3
  have HX := Aside0.mk (Boxed.new k b w)
  have HB := Aside0.mk (below_alloc (Below.refl w.heap.size w) (.cells (recCells k b) 41))
  unfold recVal
  go_enter Try.func13, Try.ntmps13
  go_wp2_with (first | (go_at_call 21; (refine (HP.out _).mono ?_; rintro e_ w1 ⟨rfl, hb⟩; have n0_ := Aside0.mk (below_step HB.out hb); have m0_ := Aside0.mk (HX.out.below hb); clear HB HX hb; have HB := n0_; have HX := m0_; clear n0_ m0_)) | (go_at_call 23; (refine (awake_calls _).mono ?_; rintro e_ w3 ⟨rfl, hb⟩; have n0_ := Aside0.mk (below_step HB.out hb); have m0_ := Aside0.mk (HX.out.below hb); clear HB HX hb; have HB := n0_; have HX := m0_; clear n0_ m0_)) | ((with_reducible refine gate_load (t := 41) rfl ?_); refine wpList_load_row rfl 41 _ rfl _ (by rfl) 41 _ (0, 0) _ (HX.out) Try.underlying41 rfl (by kernel_rfl) ?_; simp only [recCells, recVal, Value.cells]; go_simp))
  go_region_held3 (fun W => W.cell? ⟨w.heap.size, 0, none⟩ = some (.int .i64 k)) (first | exact HX.out.kind) (fail)
  all_goals (rename_i hHeld; clear hHeld)
  go_wp2_with (first | (go_at_call 24; (refine (HG.out _).mono ?_; rintro e_ w4 ⟨rfl, hb⟩; have n0_ := Aside0.mk (below_step (by repeat (first | (with_reducible first | exact HB.out | apply below_alloc | apply pw_below_drewN | apply below_drew1) | exact HB.out)) hb); clear HB  hb; have HB := n0_; clear n0_ ; unfold recVal)) | (go_at_call 19; (refine (PIntentGets.switchbackref08_Get.calls kg _ y e3 _ HR.out).mono ?_; rintro e_ w5 ⟨v9, rfl, ho9, hb⟩; clear ho9; have n0_ := Aside0.mk (below_step (by repeat (first | (with_reducible first | exact HB.out | apply below_alloc | apply pw_below_drewN | apply below_drew1) | exact HB.out)) hb); clear HB  hb; have HB := n0_; clear n0_ )) | ((with_reducible refine gate_store (t := 41) rfl ?_); refine wpList_store_block rfl 41 _ _ rfl _ _ (by rfl) (by rfl) 41 _ (by simp only [objAt_alloc, objAt_drew]; go_simp; first | rfl | exact ⟨rfl, rfl⟩) (by kernel_rfl) (by rfl) (by simp [Value.oneCell']) ?_; simp only [setBlock_alloc, setBlock_drew]; go_simp))
  all_goals go_ret
  all_goals refine ⟨congrArg (fun q => Ending.returned (Value.bool q)) ?_, (by repeat (first | (with_reducible first | exact HB.out | apply below_alloc | apply pw_below_drewN | apply below_drew1) | exact HB.out))⟩
  all_goals (have hE := HE.out; clear HP HG HR HE HX HB)
  all_goals (first | (simp [he2]; done) | grind)
set_option maxHeartbeats 16000000 in
set_option maxRecDepth 100000 in
theorem apart_bad0 (k : Int) (b : Bd) (s : ByteArray) (q : Int) (c : Bd) (t : ByteArray) (w : World) (e : Int) (f : Int) (he : e ≠ 0) (hp : PutIs 21 k b s e) (hr : PutIs 21 q c t f) : Calls Try.prog 14 #[recVal k b, recVal q c] w fun e w' => e = .returned (.bool true) ∧ Below w.heap.size w w' := by
  unfold PutIs recVal at hp hr
  have HP := Aside0.mk hp
  have HR := Aside0.mk hr
  clear hp hr
  have HX := Aside0.mk (And.intro (show Boxed w.heap.size k b ((w.alloc (.cells (recCells k b) 41)).alloc (.cells (recCells q c) 41)) from heap_over (Boxed.new k b w)) (Boxed.second k b q c w))
  have HB := Aside0.mk (below_alloc (below_alloc (Below.refl w.heap.size w) (.cells (recCells k b) 41)) (.cells (recCells q c) 41))
  have hq : ∀ W, (binOp .eql 41 (recVal k b) (recVal q c)).run Try.prog W = .ok (.bool (recEq k b q c)) W := fun W => eql41 W k q b c
  generalize recEq k b q c = rq at *
  unfold recVal at hq ⊢
  go_enter Try.func14, Try.ntmps14
  go_wp2_with (first | (go_at_call 21; ((with_reducible refine (HP.out _).mono ?_); rintro e_ w1 ⟨rfl, hb⟩; have n0_ := Aside0.mk (below_step HB.out hb); have n1_ := Aside0.mk (And.intro (HX.out.1.below hb) (HX.out.2.below hb)); clear HB HX hb; have HB := n0_; have HX2 := n1_; clear n0_ n1_)) | (go_at_call 21; ((with_reducible refine (HR.out _).mono ?_); rintro e_ w2 ⟨rfl, hb⟩; have n0_ := Aside0.mk (below_step HB.out hb); have n1_ := Aside0.mk (And.intro (HX2.out.1.below hb) (HX2.out.2.below hb)); clear HB HX2 hb; have HB := n0_; have HX2 := n1_; clear n0_ n1_)) | (go_at_call 23; (refine (awake_calls _).mono ?_; rintro e_ w3 ⟨rfl, hb⟩; have n0_ := Aside0.mk (below_step HB.out hb); have n1_ := Aside0.mk (And.intro (HX2.out.1.below hb) (HX2.out.2.below hb)); clear HB HX2 hb; have HB := n0_; have HX2 := n1_; clear n0_ n1_; have hL1 := Boxed.load HX2.out.1; have hL2 := Boxed.load HX2.out.2; simp only [recVal, Value.cells] at hL1 hL2)) | ((with_reducible refine gate_load (t := 41) rfl ?_); refine wpList_load_row rfl 41 _ rfl _ (by rfl) 41 _ (0, 0) _ (HX.out.1) Try.underlying41 rfl (by kernel_rfl) ?_; simp only [recCells, recVal, Value.cells]; go_simp) | ((with_reducible refine gate_load (t := 41) rfl ?_); refine wpList_load_row rfl 41 _ rfl _ (by rfl) 41 _ (0, 0) _ (HX2.out.2) Try.underlying41 rfl (by kernel_rfl) ?_; simp only [recCells, recVal, Value.cells]; go_simp))
  go_ret
  exact ⟨rfl, (by repeat (first | (with_reducible first | exact HB.out | apply below_alloc | apply pw_below_drewN | apply below_drew1) | exact HB.out))⟩
set_option maxHeartbeats 16000000 in
set_option maxRecDepth 100000 in
theorem apart_bad1 (k : Int) (b : Bd) (s : ByteArray) (q : Int) (c : Bd) (t : ByteArray) (w : World) (f : Int) (he : f ≠ 0) (hp : PutIs 21 k b s 0) (hr : PutIs 21 q c t f) : Calls Try.prog 14 #[recVal k b, recVal q c] w fun e w' => e = .returned (.bool true) ∧ Below w.heap.size w w' := by
  unfold PutIs recVal at hp hr
  have HP := Aside0.mk hp
  have HR := Aside0.mk hr
  clear hp hr
  have HX := Aside0.mk (And.intro (show Boxed w.heap.size k b ((w.alloc (.cells (recCells k b) 41)).alloc (.cells (recCells q c) 41)) from heap_over (Boxed.new k b w)) (Boxed.second k b q c w))
  have HB := Aside0.mk (below_alloc (below_alloc (Below.refl w.heap.size w) (.cells (recCells k b) 41)) (.cells (recCells q c) 41))
  have hq : ∀ W, (binOp .eql 41 (recVal k b) (recVal q c)).run Try.prog W = .ok (.bool (recEq k b q c)) W := fun W => eql41 W k q b c
  generalize recEq k b q c = rq at *
  unfold recVal at hq ⊢
  go_enter Try.func14, Try.ntmps14
  go_wp2_with (first | (go_at_call 21; ((with_reducible refine (HP.out _).mono ?_); rintro e_ w1 ⟨rfl, hb⟩; have n0_ := Aside0.mk (below_step HB.out hb); have n1_ := Aside0.mk (And.intro (HX.out.1.below hb) (HX.out.2.below hb)); clear HB HX hb; have HB := n0_; have HX2 := n1_; clear n0_ n1_)) | (go_at_call 21; ((with_reducible refine (HR.out _).mono ?_); rintro e_ w2 ⟨rfl, hb⟩; have n0_ := Aside0.mk (below_step HB.out hb); have n1_ := Aside0.mk (And.intro (HX2.out.1.below hb) (HX2.out.2.below hb)); clear HB HX2 hb; have HB := n0_; have HX2 := n1_; clear n0_ n1_)) | (go_at_call 23; (refine (awake_calls _).mono ?_; rintro e_ w3 ⟨rfl, hb⟩; have n0_ := Aside0.mk (below_step HB.out hb); have n1_ := Aside0.mk (And.intro (HX2.out.1.below hb) (HX2.out.2.below hb)); clear HB HX2 hb; have HB := n0_; have HX2 := n1_; clear n0_ n1_; have hL1 := Boxed.load HX2.out.1; have hL2 := Boxed.load HX2.out.2; simp only [recVal, Value.cells] at hL1 hL2)) | ((with_reducible refine gate_load (t := 41) rfl ?_); refine wpList_load_row rfl 41 _ rfl _ (by rfl) 41 _ (0, 0) _ (HX.out.1) Try.underlying41 rfl (by kernel_rfl) ?_; simp only [recCells, recVal, Value.cells]; go_simp) | ((with_reducible refine gate_load (t := 41) rfl ?_); refine wpList_load_row rfl 41 _ rfl _ (by rfl) 41 _ (0, 0) _ (HX2.out.2) Try.underlying41 rfl (by kernel_rfl) ?_; simp only [recCells, recVal, Value.cells]; go_simp))
  go_ret
  exact ⟨rfl, (by repeat (first | (with_reducible first | exact HB.out | apply below_alloc | apply pw_below_drewN | apply below_drew1) | exact HB.out))⟩
set_option maxHeartbeats 16000000 in
set_option maxRecDepth 100000 in
theorem apart_good (k : Int) (b : Bd) (s : ByteArray) (q : Int) (c : Bd) (t : ByteArray) (w : World) (hst : (s.toList == t.toList) = recEq k b q c) (hp : PutIs 21 k b s 0) (hr : PutIs 21 q c t 0) : Calls Try.prog 14 #[recVal k b, recVal q c] w fun e w' => e = .returned (.bool true) ∧ Below w.heap.size w w' := by
  unfold PutIs recVal at hp hr
  have HP := Aside0.mk hp
  have HR := Aside0.mk hr
  clear hp hr
  have HX := Aside0.mk (And.intro (show Boxed w.heap.size k b ((w.alloc (.cells (recCells k b) 41)).alloc (.cells (recCells q c) 41)) from heap_over (Boxed.new k b w)) (Boxed.second k b q c w))
  have HB := Aside0.mk (below_alloc (below_alloc (Below.refl w.heap.size w) (.cells (recCells k b) 41)) (.cells (recCells q c) 41))
  have hq : ∀ W, (binOp .eql 41 (recVal k b) (recVal q c)).run Try.prog W = .ok (.bool (recEq k b q c)) W := fun W => eql41 W k q b c
  generalize recEq k b q c = rq at *
  unfold recVal at hq ⊢
  go_enter Try.func14, Try.ntmps14
  go_wp2_with (first | (go_at_call 21; ((with_reducible refine (HP.out _).mono ?_); rintro e_ w1 ⟨rfl, hb⟩; have n0_ := Aside0.mk (below_step HB.out hb); have n1_ := Aside0.mk (And.intro (HX.out.1.below hb) (HX.out.2.below hb)); clear HB HX hb; have HB := n0_; have HX2 := n1_; clear n0_ n1_)) | (go_at_call 21; ((with_reducible refine (HR.out _).mono ?_); rintro e_ w2 ⟨rfl, hb⟩; have n0_ := Aside0.mk (below_step HB.out hb); have n1_ := Aside0.mk (And.intro (HX2.out.1.below hb) (HX2.out.2.below hb)); clear HB HX2 hb; have HB := n0_; have HX2 := n1_; clear n0_ n1_)) | (go_at_call 23; (refine (awake_calls _).mono ?_; rintro e_ w3 ⟨rfl, hb⟩; have n0_ := Aside0.mk (below_step HB.out hb); have n1_ := Aside0.mk (And.intro (HX2.out.1.below hb) (HX2.out.2.below hb)); clear HB HX2 hb; have HB := n0_; have HX2 := n1_; clear n0_ n1_; have hL1 := Boxed.load HX2.out.1; have hL2 := Boxed.load HX2.out.2; simp only [recVal, Value.cells] at hL1 hL2)) | ((with_reducible refine gate_load (t := 41) rfl ?_); refine wpList_load_row rfl 41 _ rfl _ (by rfl) 41 _ (0, 0) _ (HX.out.1) Try.underlying41 rfl (by kernel_rfl) ?_; simp only [recCells, recVal, Value.cells]; go_simp) | ((with_reducible refine gate_load (t := 41) rfl ?_); refine wpList_load_row rfl 41 _ rfl _ (by rfl) 41 _ (0, 0) _ (HX2.out.2) Try.underlying41 rfl (by kernel_rfl) ?_; simp only [recCells, recVal, Value.cells]; go_simp))
  go_ret
  exact ⟨rfl, (by repeat (first | (with_reducible first | exact HB.out | apply below_alloc | apply pw_below_drewN | apply below_drew1) | exact HB.out))⟩
end Go.Proofs.Ytaogmfchpcdboaa
