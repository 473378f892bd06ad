/- switchbacklaw09.awake answers true. No condition. -/
import Derived.Test.YtaogmfchpcdboaaGets
namespace Go.Proofs.Ytaogmfchpcdboaa
open Go.RowKit Go.Proofs.YtaogmfchpcdboaaW.PrintWords Go.Proofs.Ytaogmfchpcdboaa.Math
open Go.ChangeMaps (setBlock)
set_option linter.unusedSimpArgs false
set_option linter.unusedVariables false

def bD : Bd := { zB with rev := 300, n := 2 }
def bA : Bd := { zB with gen := 1 }
theorem put_D : putAns 1 bD = (⟨#[1, 172, 2, 2, 0]⟩, 0) := by
  rw [putAns_eq (by decide) (by decide) (by decide)]
  have e : Math.encs (1 :: fieldsOf 1 bD) = [1, 172, 2, 2, 0] := by
    have e3 : Math.enc 300 = [172, 2] := by rw [enc_big (by decide), enc_small (by decide)]
    have e' : Math.encs (1 :: fieldsOf 1 bD) = Math.enc 1 ++ (Math.enc 300 ++ (Math.enc 2 ++ (Math.enc 0 ++ []))) := rfl
    rw [e', e3, enc_small (by decide), enc_small (by decide), enc_small (by decide)]
    rfl
  unfold bytesOf
  rw [e]
  rfl
theorem get_D : getAns ⟨#[1, 172, 2, 2, 0]⟩ = (1, bD, 0) := by
  have h := get_put (k := 1) (b := bD) (by rw [put_D])
  rw [put_D] at h
  exact h
theorem put_A : putAns 2 bA = (⟨#[]⟩, 4) := by decide
theorem put_T : putAns 12 zB = (⟨#[]⟩, 6) := by decide
theorem get_L : getAns ⟨#[5, 0]⟩ = (0, zB, 1) := by
  have g : Math.dec (nb ⟨#[5, 0]⟩) [] 0 0 = ([5, 0], 0) := by decide
  unfold getAns
  rw [g]
  decide
theorem aw_put_D (w : World) : Calls Try.prog 21 #[.agg #[.int .i64 1, .int .i64 300, .int .i64 2, .int .i64 0, .int .i64 0, .int .i64 0, .bool false, .int .i64 0, .int .i64 0, .int .i64 0, .int .i64 0, .int .i64 0, .int .i64 0, .bool false, .bool false, .int .i64 0, .int .i64 0, .int .i64 0, .int .i64 0]] w fun e w' => e = .returned (.tuple #[.string ⟨#[1, 172, 2, 2, 0]⟩, .int .i64 0]) ∧ Below w.heap.size w w' := by
  have h := put_calls 1 bD w
  rw [put_D] at h
  exact h
theorem aw_put_A (w : World) : Calls Try.prog 21 #[.agg #[.int .i64 2, .int .i64 0, .int .i64 0, .int .i64 0, .int .i64 1, .int .i64 0, .bool false, .int .i64 0, .int .i64 0, .int .i64 0, .int .i64 0, .int .i64 0, .int .i64 0, .bool false, .bool false, .int .i64 0, .int .i64 0, .int .i64 0, .int .i64 0]] w fun e w' => e = .returned (.tuple #[.string ⟨#[]⟩, .int .i64 4]) ∧ Below w.heap.size w w' := by
  have h := put_calls 2 bA w
  rw [put_A] at h
  exact h
theorem aw_put_T (w : World) : Calls Try.prog 21 #[.agg #[.int .i64 12, .int .i64 0, .int .i64 0, .int .i64 0, .int .i64 0, .int .i64 0, .bool false, .int .i64 0, .int .i64 0, .int .i64 0, .int .i64 0, .int .i64 0, .int .i64 0, .bool false, .bool false, .int .i64 0, .int .i64 0, .int .i64 0, .int .i64 0]] w fun e w' => e = .returned (.tuple #[.string ⟨#[]⟩, .int .i64 6]) ∧ Below w.heap.size w w' := by
  have h := put_calls 12 zB w
  rw [put_T] at h
  exact h
theorem aw_get_D (w : World) : Calls Try.prog 24 #[.string ⟨#[1, 172, 2, 2, 0]⟩] w fun e w' => e = .returned (.tuple #[.agg #[.int .i64 1, .int .i64 300, .int .i64 2, .int .i64 0, .int .i64 0, .int .i64 0, .bool false, .int .i64 0, .int .i64 0, .int .i64 0, .int .i64 0, .int .i64 0, .int .i64 0, .bool false, .bool false, .int .i64 0, .int .i64 0, .int .i64 0, .int .i64 0], .int .i64 0]) ∧ Below w.heap.size w w' := by
  have h := get_calls ⟨#[1, 172, 2, 2, 0]⟩ (by decide) w
  rw [get_D] at h
  exact h
theorem aw_get_L (w : World) : Calls Try.prog 24 #[.string ⟨#[5, 0]⟩] w fun e w' => e = .returned (.tuple #[.agg #[.int .i64 0, .int .i64 0, .int .i64 0, .int .i64 0, .int .i64 0, .int .i64 0, .bool false, .int .i64 0, .int .i64 0, .int .i64 0, .int .i64 0, .int .i64 0, .int .i64 0, .bool false, .bool false, .int .i64 0, .int .i64 0, .int .i64 0, .int .i64 0], .int .i64 1]) ∧ Below w.heap.size w w' := by
  have h := get_calls ⟨#[5, 0]⟩ (by decide) w
  rw [get_L] at h
  exact h
theorem heap_over {W : World} {g : Nat} {o p : Obj} (h : W.heap[g]? = some p) : (W.alloc o).heap[g]? = some p := by
  have hl := (Array.getElem?_eq_some_iff.1 h).1
  rw [heap_at, if_neg (by omega)]
  exact h
/-! The load of a whole record goes by 'Boxed.load': the walk does not part it. -/
attribute [local go_sem ↓] load_one
attribute [local go_sem] Value.cells
set_option maxHeartbeats 16000000 in
set_option maxRecDepth 100000 in
theorem awake_calls (w : World) : Calls Try.prog 23 #[] w fun e w' => e = .returned (.bool true) ∧ Below w.heap.size w w' := by
  have hq : ∀ W, (binOp .eql 41 (.agg #[.int .i64 1, .int .i64 300, .int .i64 2, .int .i64 0, .int .i64 0, .int .i64 0, .bool false, .int .i64 0, .int .i64 0, .int .i64 0, .int .i64 0, .int .i64 0, .int .i64 0, .bool false, .bool false, .int .i64 0, .int .i64 0, .int .i64 0, .int .i64 0]) (.agg #[.int .i64 1, .int .i64 300, .int .i64 2, .int .i64 0, .int .i64 0, .int .i64 0, .bool false, .int .i64 0, .int .i64 0, .int .i64 0, .int .i64 0, .int .i64 0, .int .i64 0, .bool false, .bool false, .int .i64 0, .int .i64 0, .int .i64 0, .int .i64 0])).run Try.prog W = .ok (.bool true) W := fun W => (eql41 W 1 1 bD bD).trans (by rw [(recEq_iff 1 1 bD bD).2 ⟨rfl, rfl⟩])
  have HX := Aside0.mk (Boxed.new 1 bD w)
  have HB := Aside0.mk (below_alloc (Below.refl w.heap.size w) (.cells (recCells 1 bD) 41))
  go_enter Try.func23, Try.ntmps23
  go_wp2_with (first | (go_at_call 21; ((with_reducible refine (aw_put_D _).mono ?_); rintro e w1 ⟨rfl, hb⟩; have n0_ := Aside0.mk (HX.out.below hb); have n1_ := Aside0.mk (below_step HB.out hb); clear HX HB hb; have HX := n0_; have HB := n1_; clear n0_ n1_)) | (go_at_call 24; ((with_reducible refine (aw_get_D _).mono ?_); rintro e w2 ⟨rfl, hb⟩; have n0_ := Aside0.mk (HX.out.below hb); have n1_ := Aside0.mk (below_step HB.out hb); clear HX HB hb; have HX := n0_; have HB := n1_; clear n0_ n1_; have HQ := Aside0.mk (Boxed.new 1 bD w2); have n0_ := Aside0.mk (show Boxed _ 1 bD (w2.alloc (.cells (recCells 1 bD) 41)) from heap_over HX.out); have n1_ := Aside0.mk (below_alloc HB.out (.cells (recCells 1 bD) 41)); clear HX HB; have HX := n0_; have HB := n1_; clear n0_ n1_)) | (go_at_call 21; ((with_reducible refine (aw_put_A _).mono ?_); rintro e w3 ⟨rfl, hb⟩; have n0_ := Aside0.mk (HX.out.below hb); have n1_ := Aside0.mk (below_step HB.out hb); have n2_ := Aside0.mk (HQ.out.below hb); clear HX HB HQ hb; have HX := n0_; have HB := n1_; have HQ := n2_; clear n0_ n1_ n2_)) | (go_at_call 21; ((with_reducible refine (aw_put_T _).mono ?_); rintro e w4 ⟨rfl, hb⟩; have n0_ := Aside0.mk (HX.out.below hb); have n1_ := Aside0.mk (below_step HB.out hb); have n2_ := Aside0.mk (HQ.out.below hb); clear HX HB HQ hb; have HX := n0_; have HB := n1_; have HQ := n2_; clear n0_ n1_ n2_)) | (go_at_call 24; ((with_reducible refine (aw_get_L _).mono ?_); rintro e w5 ⟨rfl, hb⟩; have n0_ := Aside0.mk (HX.out.below hb); have n1_ := Aside0.mk (below_step HB.out hb); have n2_ := Aside0.mk (HQ.out.below hb); clear HX HB HQ hb; have HX := n0_; have HB := n1_; have HQ := n2_; clear n0_ n1_ n2_; have hL1 : ∀ o, (loadStep (.pointer (some ⟨w2.heap.size, 0, none⟩))).run Try.prog (w5.alloc o) = .ok (.value (.agg #[.int .i64 1, .int .i64 300, .int .i64 2, .int .i64 0, .int .i64 0, .int .i64 0, .bool false, .int .i64 0, .int .i64 0, .int .i64 0, .int .i64 0, .int .i64 0, .int .i64 0, .bool false, .bool false, .int .i64 0, .int .i64 0, .int .i64 0, .int .i64 0])) (w5.alloc o) := fun o => Boxed.load (k := 1) (b := bD) (heap_over HQ.out); have hL2 : ∀ o, (loadStep (.pointer (some ⟨w.heap.size, 0, none⟩))).run Try.prog (w5.alloc o) = .ok (.value (.agg #[.int .i64 1, .int .i64 300, .int .i64 2, .int .i64 0, .int .i64 0, .int .i64 0, .bool false, .int .i64 0, .int .i64 0, .int .i64 0, .int .i64 0, .int .i64 0, .int .i64 0, .bool false, .bool false, .int .i64 0, .int .i64 0, .int .i64 0, .int .i64 0])) (w5.alloc o) := fun o => Boxed.load (k := 1) (b := bD) (heap_over HX.out))) | ((with_reducible refine gate_load (t := 41) rfl ?_); refine wpList_load_row rfl 41 _ rfl _ (by rfl) 41 _ (0, 0) _ (HX.out) Try.underlying41 rfl (by kernel_rfl) ?_; simp only [recCells, recVal, Value.cells, bD, zB]; go_simp) | ((with_reducible refine gate_store (t := 41) rfl ?_); refine wpList_store_block rfl 41 _ _ rfl _ _ (by rfl) (by rfl) 41 _ (by simp only [objAt_alloc, objAt_drew]; go_simp; first | rfl | exact ⟨rfl, rfl⟩) (by kernel_rfl) (by rfl) (by simp [Value.oneCell']) ?_; simp only [setBlock_alloc, setBlock_drew]; go_simp))
  go_ret
  exact ⟨rfl, (by repeat (first | (with_reducible first | exact HB.out | apply below_alloc | apply pw_below_drewN | apply below_drew1) | exact HB.out))⟩
end Go.Proofs.Ytaogmfchpcdboaa
