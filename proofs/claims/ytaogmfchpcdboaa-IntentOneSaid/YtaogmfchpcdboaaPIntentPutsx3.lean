-- PRINTED BY print.sh 35421559b90ae4d0a3588c463048766b98c2df88dd9212a6774a882060cdf62d: not written by this session
import Derived.Test.YtaogmfchpcdboaaPIntentPutsx0
namespace Go.Proofs.Ytaogmfchpcdboaa.PIntentPuts
open Go.RowKit Go.Proofs.YtaogmfchpcdboaaW.PrintWords Go.Proofs.YtaogmfchpcdboaaW.PrintLast Go.Proofs.YtaogmfchpcdboaaW.PrintMore
attribute [local go_sem] max2_int min2_int max_two min_two max_three min_three max_four min_four   -- for this text's walks alone
set_option linter.unusedVariables false
set_option linter.unusedSimpArgs false

/-! ### code_Get: function 18 -/
mutual
def code_Get.l0 : Nat → ByteArray → List Int → Int → Int → Int → Int → Option (List Int × Int)
  | 0, _, _, _, _, _, _ => none
  | k + 1, x0, x4, x5, x6, x10, x11 => if x11 < x10 then (if 0 ≤ x11 then (if x11 < (x0.size : Int) then (if x6 = 8 then (if (bt x0 x11) ≥ 128 then (code_Get.j1 k x0 x4 x5 x6 (bt x0 x11) x10 x11 true) else (if x6 > 0 then (code_Get.j1 k x0 x4 x5 x6 (bt x0 x11) x10 x11 ((bt x0 x11) == 0)) else (code_Get.j1 k x0 x4 x5 x6 (bt x0 x11) x10 x11 false))) else (if x6 > 0 then (code_Get.j1 k x0 x4 x5 x6 (bt x0 x11) x10 x11 ((bt x0 x11) == 0)) else (code_Get.j1 k x0 x4 x5 x6 (bt x0 x11) x10 x11 false))) else (none)) else (none)) else (if x6 > 0 then (some (([] : List Int), 4)) else (some (x4, 0)))
def code_Get.j1 : Nat → ByteArray → List Int → Int → Int → Int → Int → Int → Bool → Option (List Int × Int)
  | 0, _, _, _, _, _, _, _, _ => none
  | k + 1, x0, x4, x5, x6, x8, x10, x11, x30 => if x30 = true then (some (([] : List Int), 5)) else (if 0 ≤ (wrap64 (7 * x6)) then (if x8 < 128 then (if x4.length < 17592186044416 then (code_Get.l0 k x0 (x4 ++ [Go.bits .or .i64 x5 (shl .i64 (wrap64 (Go.bits .and .u8 x8 127)) (wrap64 (7 * x6)))]) 0 0 x10 (wrap64 (x11 + 1))) else (none)) else (code_Get.l0 k x0 x4 (Go.bits .or .i64 x5 (shl .i64 (wrap64 (Go.bits .and .u8 x8 127)) (wrap64 (7 * x6)))) (wrap64 (x6 + 1)) x10 (wrap64 (x11 + 1)))) else (none))
end
def code_Get.f (k : Nat) (a0 : ByteArray) : Option (List Int × Int) := code_Get.l0 k a0 ([] : List Int) 0 0 (a0.size : Int) 0
theorem code_Get.mono_l : ∀ k, (∀ y0 y1 y2 y3 y4 y5, LeO (code_Get.l0 k y0 y1 y2 y3 y4 y5) (code_Get.l0 (k + 1) y0 y1 y2 y3 y4 y5)) ∧ (∀ y0 y1 y2 y3 y4 y5 y6 y7, LeO (code_Get.j1 k y0 y1 y2 y3 y4 y5 y6 y7) (code_Get.j1 (k + 1) y0 y1 y2 y3 y4 y5 y6 y7))
  | 0 => ⟨fun _ _ _ _ _ _ r h => by simp [code_Get.l0] at h, fun _ _ _ _ _ _ _ _ r h => by simp [code_Get.j1] at h⟩
  | k + 1 => by
    obtain ⟨ih0, ih1⟩ := code_Get.mono_l k
    refine ⟨?_, ?_⟩
    · intro y0 y1 y2 y3 y4 y5
      unfold code_Get.l0
      repeat' first
      | (with_reducible exact ih0 _ _ _ _ _ _)
      | (with_reducible exact ih1 _ _ _ _ _ _ _ _)
      | (with_reducible exact LeO.refl _)
      | (with_reducible exact LeO.none _)
      | (with_reducible refine LeO.ite ?_ ?_)
      | (with_reducible refine LeO.bind ?_ (fun _ => ?_))
      | exact ih0 _ _ _ _ _ _
      | exact ih1 _ _ _ _ _ _ _ _
      | exact LeO.none _
      | refine LeO.ite ?_ ?_
      | refine LeO.bind ?_ (fun _ => ?_)
    · intro y0 y1 y2 y3 y4 y5 y6 y7
      unfold code_Get.j1
      repeat' first
      | (with_reducible exact ih0 _ _ _ _ _ _)
      | (with_reducible exact ih1 _ _ _ _ _ _ _ _)
      | (with_reducible exact LeO.refl _)
      | (with_reducible exact LeO.none _)
      | (with_reducible refine LeO.ite ?_ ?_)
      | (with_reducible refine LeO.bind ?_ (fun _ => ?_))
      | exact ih0 _ _ _ _ _ _
      | exact ih1 _ _ _ _ _ _ _ _
      | exact LeO.none _
      | refine LeO.ite ?_ ?_
      | refine LeO.bind ?_ (fun _ => ?_)
theorem code_Get.mono : ∀ a0 k, LeO (code_Get.f k a0) (code_Get.f (k + 1) a0) := by
  intro a0 k
  obtain ⟨ih0, ih1⟩ := code_Get.mono_l k
  unfold code_Get.f
  repeat' first
      | (with_reducible exact ih0 _ _ _ _ _ _)
      | (with_reducible exact ih1 _ _ _ _ _ _ _ _)
      | (with_reducible exact LeO.refl _)
      | (with_reducible exact LeO.none _)
      | (with_reducible refine LeO.ite ?_ ?_)
      | (with_reducible refine LeO.bind ?_ (fun _ => ?_))
      | exact ih0 _ _ _ _ _ _
      | exact ih1 _ _ _ _ _ _ _ _
      | exact LeO.none _
      | refine LeO.ite ?_ ?_
      | refine LeO.bind ?_ (fun _ => ?_)
set_option maxHeartbeats 8000000 in
set_option maxRecDepth 100000 in
theorem code_Get.calls (k : Nat) (a0 : ByteArray) (r1 : List Int) (r2 : Int) (w : World) (h : code_Get.f k a0 = some (r1, r2)) :
    Calls Try.prog 18 #[.string a0] w fun e w' => ∃ v0_ : Value, e = .returned (.tuple #[v0_, .int .i64 r2]) ∧ Kd.R (Kd.int .i64) 3 w' w.heap.size (fun _ => True) v0_ r1 ∧ Below w.heap.size w w' := by
  have HB := Aside0.mk (Below.refl w.heap.size w)
  have H : (code_Get.l0 k a0 ([] : List Int) 0 0 (a0.size : Int) 0) = some (r1, r2) := h
  clear h
  have H' := Aside0.mk H
  clear H
  go_enter Try.func18, Try.ntmps18
  go_wp2
  go_loopg [4, 5, 6, 11] k (fun kq v4 v5 v6 v11 w' => ∃ (x4_1 : List Int) (x5_1 : Int) (x6_1 : Int) (x11_1 : Int), v5 = .int .i64 x5_1 ∧ v6 = .int .i64 x6_1 ∧ v11 = .int .i64 x11_1 ∧ Aside0 (code_Get.l0 kq a0 x4_1 x5_1 x6_1 (a0.size : Int) x11_1 = some (r1, r2)) ∧ Aside0 (kq ≤ k) ∧ Aside0 (Kd.R (Kd.int .i64) 3 w' w.heap.size (fun _ => True) v4 x4_1) ∧ Aside0 (Below w.heap.size w w'))
  case atStart => exact ⟨(([] : List Int)), (0), (0), (0), (by first | rfl | (simp; done) | (simp [*]; done)), (by first | rfl | (simp; done) | (simp [*]; done)), (by first | rfl | (simp; done) | (simp [*]; done)), H', ⟨Nat.le_refl _⟩, ⟨by first | exact Kd.R_nil _ _ _ _ _ | exact Kd.N_nil _ _ _ _ _ | exact Kd.V_nil _ _ _ _ _ | exact Kd.Q_nil _ _ _ _ _ | exact Kd.S_nil _ _ _ _ _⟩, ⟨by repeat (first | (with_reducible first | exact HB.out | apply below_alloc | apply pw_below_drewN | apply below_drew1) | exact HB.out)⟩⟩
  case round =>
    clear H'
    try clear c1
    obtain ⟨x4_1, x5_1, x6_1, x11_1, rfl, rfl, rfl, HA, HK1, HO_4, HB⟩ := hrel
    cases gk with
    | zero => exact absurd HA.out (by simp [code_Get.l0])
    | succ k1 =>
      have H := HA.out
      clear HA
      simp only [code_Get.l0] at H
      by_cases c2 : x11_1 < (a0.size : Int)
      · rw [if_pos c2] at H
        have c2b0 : decide (x11_1 < (a0.size : Int)) = true := decide_eq_true c2
        clear c2
        by_cases c3 : 0 ≤ x11_1
        · rw [if_pos c3] at H
          have c3b0 : decide (0 ≤ x11_1) = true := decide_eq_true c3
          clear c3
          by_cases c4 : x11_1 < (a0.size : Int)
          · rw [if_pos c4] at H
            have c4b0 : decide (x11_1 < (a0.size : Int)) = true := decide_eq_true c4
            clear c4
            have HC6 := Aside0.mk H
            clear H
            have p5 : 0 ≤ (x11_1 : Int) := of_decide_eq_true (by first | (with_reducible assumption) | assumption)
            have q5 : x11_1 < (a0.size : Int) := of_decide_eq_true (by first | (with_reducible assumption) | assumption)
            have hx5 := bt_at a0 x11_1
            replace p5 := eq_true p5
            replace q5 := eq_true q5
            go_upto_region 7 with (fail)
            go_cut [30] (fun v30 wc => ∃ (kq : Nat) (x30_5 : Bool), v30 = .bool x30_5 ∧ Aside0 (code_Get.j1 kq a0 x4_1 x5_1 x6_1 (bt a0 x11_1) (a0.size : Int) x11_1 x30_5 = some (r1, r2)) ∧ Aside0 (kq ≤ k1) ∧ Aside0 (Kd.R (Kd.int .i64) 3 wc w.heap.size (fun _ => True) u4 x4_1) ∧ Aside0 (Below w.heap.size w wc))
            case first =>
              have H := HC6.out
              clear HC6
              by_cases c7 : x6_1 = 8
              · rw [if_pos c7] at H
                have c7b0 : (x6_1 == 8) = true := beq_iff_eq.mpr c7
                have c7b1 : (x6_1 != 8) = false := bne_eq_false_iff_eq.mpr c7
                clear c7
                (first | rw [c7b0] | (simp only [i64_w, i32_w]; rw [c7b0]) | skip)
                by_cases c8 : (bt a0 x11_1) ≥ 128
                · rw [if_pos c8] at H
                  have c8b0 : decide (128 ≤ (bt a0 x11_1)) = true := decide_eq_true c8
                  clear c8
                  have H' := Aside0.mk H
                  clear H
                  go_wp2
                  go_meet
                  case rel => exact ⟨_, (true), (by first | rfl | (simp; done) | (simp [*]; done)), H', ⟨by have := HK1.out; first | omega | exact Nat.le_refl _⟩, ⟨by (with_reducible repeat (first | apply Kd.R_alloc | apply Kd.R_drewN | apply Kd.R_drew)); exact HO_4.out⟩, ⟨by repeat (first | (with_reducible first | exact HB.out | apply below_alloc | apply pw_below_drewN | apply below_drew1) | exact HB.out)⟩⟩
                · rw [if_neg c8] at H
                  have c8b0 : decide (128 ≤ (bt a0 x11_1)) = false := decide_eq_false c8
                  clear c8
                  by_cases c9 : x6_1 > 0
                  · rw [if_pos c9] at H
                    have c9b0 : decide (0 < x6_1) = true := decide_eq_true c9
                    clear c9
                    have H' := Aside0.mk H
                    clear H
                    go_wp2
                    go_meet
                    case rel => exact ⟨_, (((bt a0 x11_1) == 0)), (by first | rfl | (simp; done) | (simp [*]; done)), H', ⟨by have := HK1.out; first | omega | exact Nat.le_refl _⟩, ⟨by (with_reducible repeat (first | apply Kd.R_alloc | apply Kd.R_drewN | apply Kd.R_drew)); exact HO_4.out⟩, ⟨by repeat (first | (with_reducible first | exact HB.out | apply below_alloc | apply pw_below_drewN | apply below_drew1) | exact HB.out)⟩⟩
                  · rw [if_neg c9] at H
                    have c9b0 : decide (0 < x6_1) = false := decide_eq_false c9
                    clear c9
                    have H' := Aside0.mk H
                    clear H
                    go_wp2
                    go_meet
                    case rel => exact ⟨_, (false), (by first | rfl | (simp; done) | (simp [*]; done)), H', ⟨by have := HK1.out; first | omega | exact Nat.le_refl _⟩, ⟨by (with_reducible repeat (first | apply Kd.R_alloc | apply Kd.R_drewN | apply Kd.R_drew)); exact HO_4.out⟩, ⟨by repeat (first | (with_reducible first | exact HB.out | apply below_alloc | apply pw_below_drewN | apply below_drew1) | exact HB.out)⟩⟩
              · rw [if_neg c7] at H
                have c7b0 : (x6_1 == 8) = false := beq_eq_false_iff_ne.mpr c7
                have c7b1 : (x6_1 != 8) = true := bne_iff_ne.mpr c7
                (first | rw [c7b0] | (simp only [i64_w, i32_w]; rw [c7b0]) | skip)
                by_cases c10 : x6_1 > 0
                · rw [if_pos c10] at H
                  have c10b0 : decide (0 < x6_1) = true := decide_eq_true c10
                  clear c10
                  have H' := Aside0.mk H
                  clear H
                  go_wp2
                  go_meet
                  case rel => exact ⟨_, (((bt a0 x11_1) == 0)), (by first | rfl | (simp; done) | (simp [*]; done)), H', ⟨by have := HK1.out; first | omega | exact Nat.le_refl _⟩, ⟨by (with_reducible repeat (first | apply Kd.R_alloc | apply Kd.R_drewN | apply Kd.R_drew)); exact HO_4.out⟩, ⟨by repeat (first | (with_reducible first | exact HB.out | apply below_alloc | apply pw_below_drewN | apply below_drew1) | exact HB.out)⟩⟩
                · rw [if_neg c10] at H
                  have c10b0 : decide (0 < x6_1) = false := decide_eq_false c10
                  clear c10
                  have H' := Aside0.mk H
                  clear H
                  go_wp2
                  go_meet
                  case rel => exact ⟨_, (false), (by first | rfl | (simp; done) | (simp [*]; done)), H', ⟨by have := HK1.out; first | omega | exact Nat.le_refl _⟩, ⟨by (with_reducible repeat (first | apply Kd.R_alloc | apply Kd.R_drewN | apply Kd.R_drew)); exact HO_4.out⟩, ⟨by repeat (first | (with_reducible first | exact HB.out | apply below_alloc | apply pw_below_drewN | apply below_drew1) | exact HB.out)⟩⟩
            case rest =>
              clear HC6
              try clear c1
              try clear c2
              try clear c2b0
              try clear p2
              try clear c3
              try clear c3b0
              try clear c4
              try clear c4b0
              try clear p5
              try clear q5
              try clear hx5
              try clear c7
              try clear c7b0
              try clear c7b1
              try clear c8
              try clear c8b0
              try clear c9
              try clear c9b0
              try clear c10
              try clear c10b0
              try clear p5
              try clear q5
              obtain ⟨kq, x30_5, rfl, HA, HJ5, HO_4, HB⟩ := hcut
              cases kq with
              | zero => exact absurd HA.out (by simp [code_Get.j1])
              | succ kj5 =>
                have H := HA.out
                clear HA
                simp only [code_Get.j1] at H
                by_cases c11 : x30_5 = true
                · subst c11
                  have H1 : (some (([] : List Int), 5)) = some (r1, r2) := by rw [if_pos rfl] at H; exact H
                  clear H
                  have H := H1
                  clear H1
                  simp only [Option.some.injEq, Prod.mk.injEq] at H
                  obtain ⟨rfl, rfl⟩ := H
                  go_wp2
                  go_ret2
                  exact ⟨_, by first | rfl | (simp [errW_none, errW_some] <;> rfl) | (simp [*, errW_none, errW_some] <;> rfl), by first | exact Kd.R_nil _ _ _ _ _ | exact Kd.N_nil _ _ _ _ _ | exact Kd.V_nil _ _ _ _ _ | exact Kd.Q_nil _ _ _ _ _ | exact Kd.S_nil _ _ _ _ _, by repeat (first | (with_reducible first | exact HB.out | apply below_alloc | apply pw_below_drewN | apply below_drew1) | exact HB.out)⟩
                · replace c11 := Bool.eq_false_iff.mpr c11
                  subst c11
                  have H1 : (if 0 ≤ (wrap64 (7 * x6_1)) then (if (bt a0 x11_1) < 128 then (if x4_1.length < 17592186044416 then (code_Get.l0 kj5 a0 (x4_1 ++ [Go.bits .or .i64 x5_1 (shl .i64 (wrap64 (Go.bits .and .u8 (bt a0 x11_1) 127)) (wrap64 (7 * x6_1)))]) 0 0 (a0.size : Int) (wrap64 (x11_1 + 1))) else (none)) else (code_Get.l0 kj5 a0 x4_1 (Go.bits .or .i64 x5_1 (shl .i64 (wrap64 (Go.bits .and .u8 (bt a0 x11_1) 127)) (wrap64 (7 * x6_1)))) (wrap64 (x6_1 + 1)) (a0.size : Int) (wrap64 (x11_1 + 1)))) else (none)) = some (r1, r2) := by rw [if_neg (show ¬ (false = true) by decide)] at H; exact H
                  clear H
                  have H := H1
                  clear H1
                  obtain ⟨ji12, hji12⟩ : ∃ j_ : Int, (wrap64 (7 * x6_1)) = j_ := ⟨_, rfl⟩
                  replace H : (if 0 ≤ (ji12) then (if (bt a0 x11_1) < 128 then (if x4_1.length < 17592186044416 then (code_Get.l0 kj5 a0 (x4_1 ++ [Go.bits .or .i64 x5_1 (shl .i64 (wrap64 (Go.bits .and .u8 (bt a0 x11_1) 127)) (ji12))]) 0 0 (a0.size : Int) (wrap64 (x11_1 + 1))) else (none)) else (code_Get.l0 kj5 a0 x4_1 (Go.bits .or .i64 x5_1 (shl .i64 (wrap64 (Go.bits .and .u8 (bt a0 x11_1) 127)) (ji12))) (wrap64 (x6_1 + 1)) (a0.size : Int) (wrap64 (x11_1 + 1)))) else (none)) = some (r1, r2) := by first | (rw [hji12] at H; exact H) | (simp only [hji12] at H ⊢; exact H)
                  have hji12w : (IntKind.i64.wrap (7 * x6_1)) = ji12 := (i64_w _).trans hji12
                  by_cases c13 : 0 ≤ (ji12)
                  · rw [if_pos c13] at H
                    have c13b0 := eq_true c13
                    have c13b1 : decide (0 ≤ (ji12)) = true := decide_eq_true c13
                    clear c13
                    obtain ⟨ji14, hji14⟩ : ∃ j_ : Int, (shl .i64 (wrap64 (Go.bits .and .u8 (bt a0 x11_1) 127)) (ji12)) = j_ := ⟨_, rfl⟩
                    replace H : (if (bt a0 x11_1) < 128 then (if x4_1.length < 17592186044416 then (code_Get.l0 kj5 a0 (x4_1 ++ [Go.bits .or .i64 x5_1 (ji14)]) 0 0 (a0.size : Int) (wrap64 (x11_1 + 1))) else (none)) else (code_Get.l0 kj5 a0 x4_1 (Go.bits .or .i64 x5_1 (ji14)) (wrap64 (x6_1 + 1)) (a0.size : Int) (wrap64 (x11_1 + 1)))) = some (r1, r2) := by first | (rw [hji14] at H; exact H) | (simp only [hji14] at H ⊢; exact H)
                    have hji14_ : (IntKind.i64.wrap ((wrap64 (Go.bits .and .u8 (bt a0 x11_1) 127)) * 2 ^ min (ji12).toNat 64)) = ji14 := hji14
                    have hji14z : (ji12) ≤ 64 → (IntKind.i64.wrap ((wrap64 (Go.bits .and .u8 (bt a0 x11_1) 127)) * 2 ^ (ji12).toNat)) = ji14 := shl_small hji14
                    have hji14y : (wrap64 ((wrap64 (Go.bits .and .u8 (bt a0 x11_1) 127)) * 2 ^ min (ji12).toNat 64)) = ji14 := (i64_w _).symm.trans hji14_
                    have hji14x : (ji12) ≤ 64 → (wrap64 ((wrap64 (Go.bits .and .u8 (bt a0 x11_1) 127)) * 2 ^ (ji12).toNat)) = ji14 := fun h_ => (i64_w _).symm.trans (hji14z h_)
                    by_cases c15 : (bt a0 x11_1) < 128
                    · rw [if_pos c15] at H
                      have c15b0 : decide ((bt a0 x11_1) < 128) = true := decide_eq_true c15
                      clear c15
                      by_cases c16 : x4_1.length < 17592186044416
                      · rw [if_pos c16] at H
                        have LMc16 := Aside0.mk c16
                        clear c16
                        obtain ⟨y147, hy147⟩ : ∃ y_ : List Int, y_ = (x4_1 ++ [Go.bits .or .i64 x5_1 (ji14)]) := ⟨_, rfl⟩
                        replace H : (code_Get.l0 kj5 a0 y147 0 0 (a0.size : Int) (wrap64 (x11_1 + 1))) = some (r1, r2) := by first | (rw [hy147]; with_reducible exact H) | (have H2_ := (Option.bind_some _ _).symm.trans H; rw [hy147]; with_reducible exact H2_) | (have H2_ := (Option.bind_some _ _).symm.trans H; with_reducible exact H2_) | with_reducible exact H | (rw [hy147]; exact H) | exact H
                        have Ny147 := Aside0.mk hy147
                        clear hy147
                        have H' := Aside0.mk H
                        clear H
                        go_wp2_with (first | ((with_reducible refine gate_builtin (b := .append) (xs := #[.tmp 43, .tmp 45]) rfl ?_); at_builtin; refine Kd.R_append (Kd.int .i64) (w0 := w) w.heap.size rfl (.tmp 43) (.tmp 45) 22 3 (.int .i64 0) 8 rfl Try.underlying22 info3 rfl (by decide) (by omega) u4 x4_1 (Go.bits .or .i64 x5_1 (ji14)) [.int .i64 (Go.bits .or .i64 x5_1 (ji14))] (fun _ => True) (fun _ => False) rfl rfl ?aP (fun _ hk => hk.elim) ?aF ?aO ?aB ?aS ?aL ?_; (case aP => exact rfl); (case aB => exact (by repeat (first | (with_reducible first | exact HB.out | apply below_alloc | apply pw_below_drewN | apply below_drew1) | exact HB.out))); (case aF => exact (fun _ _ => trivial)); (case aO => exact (by (with_reducible repeat (first | apply Kd.R_alloc | apply Kd.R_drewN | apply Kd.R_drew)); exact HO_4.out)); (case aS => exact (below_size (by repeat (first | (with_reducible first | exact HB.out | apply below_alloc | apply pw_below_drewN | apply below_drew1) | exact HB.out)))); (case aL => have := LMc16.out; omega); intro v148 w17 ho hb hg hat; rw [← Ny147.out] at ho; have n0_ := Aside0.mk (hb); have n1_ := Aside0.mk (ho); clear HB; clear HO_4; have HB := n0_; have HO149 := n1_; clear n0_ n1_; clear ho hb hg hat))
                        go_roundg kj5
                        case measure => have := HK1.out; have := HJ5.out; omega
                        case rel => exact ⟨(y147), (0), (0), (wrap64 (x11_1 + 1)), (by first | rfl | (simp; done) | (simp [*]; done)), (by first | rfl | (simp; done) | (simp [*]; done)), (by first | rfl | (simp; done) | (simp [*]; done)), H', ⟨by have := HK1.out; have := HJ5.out; omega⟩, ⟨by (with_reducible repeat (first | apply Kd.R_alloc | apply Kd.R_drewN | apply Kd.R_drew)); exact HO149.out⟩, ⟨by repeat (first | (with_reducible first | exact HB.out | apply below_alloc | apply pw_below_drewN | apply below_drew1) | exact HB.out)⟩⟩
                      · rw [if_neg c16] at H
                        exact absurd H (by simp)
                    · rw [if_neg c15] at H
                      have c15b0 : decide ((bt a0 x11_1) < 128) = false := decide_eq_false c15
                      clear c15
                      have H' := Aside0.mk H
                      clear H
                      go_wp2
                      go_roundg kj5
                      case measure => have := HK1.out; have := HJ5.out; omega
                      case rel => exact ⟨(x4_1), (Go.bits .or .i64 x5_1 (ji14)), (wrap64 (x6_1 + 1)), (wrap64 (x11_1 + 1)), (by first | rfl | (simp; done) | (simp only [← hji14] <;> (first | rfl | simp)) | (simp [*]; done)), (by first | rfl | (simp; done) | (simp [*]; done)), (by first | rfl | (simp; done) | (simp [*]; done)), H', ⟨by have := HK1.out; have := HJ5.out; omega⟩, ⟨by (with_reducible repeat (first | apply Kd.R_alloc | apply Kd.R_drewN | apply Kd.R_drew)); exact HO_4.out⟩, ⟨by repeat (first | (with_reducible first | exact HB.out | apply below_alloc | apply pw_below_drewN | apply below_drew1) | exact HB.out)⟩⟩
                  · rw [if_neg c13] at H
                    exact absurd H (by simp)
          · rw [if_neg c4] at H
            exact absurd H (by simp)
        · rw [if_neg c3] at H
          exact absurd H (by simp)
      · rw [if_neg c2] at H
        have c2b0 : decide (x11_1 < (a0.size : Int)) = false := decide_eq_false c2
        clear c2
        by_cases c18 : x6_1 > 0
        · rw [if_pos c18] at H
          have c18b0 : decide (0 < x6_1) = true := decide_eq_true c18
          clear c18
          simp only [Option.some.injEq, Prod.mk.injEq] at H
          obtain ⟨rfl, rfl⟩ := H
          go_wp2
          go_ret2
          exact ⟨_, by first | rfl | (simp [errW_none, errW_some] <;> rfl) | (simp [*, errW_none, errW_some] <;> rfl), by first | exact Kd.R_nil _ _ _ _ _ | exact Kd.N_nil _ _ _ _ _ | exact Kd.V_nil _ _ _ _ _ | exact Kd.Q_nil _ _ _ _ _ | exact Kd.S_nil _ _ _ _ _, by repeat (first | (with_reducible first | exact HB.out | apply below_alloc | apply pw_below_drewN | apply below_drew1) | exact HB.out)⟩
        · rw [if_neg c18] at H
          have c18b0 : decide (0 < x6_1) = false := decide_eq_false c18
          clear c18
          simp only [Option.some.injEq, Prod.mk.injEq] at H
          obtain ⟨rfl, rfl⟩ := H
          go_wp2
          go_ret2
          exact ⟨_, by first | rfl | (simp [errW_none, errW_some] <;> rfl) | (simp [*, errW_none, errW_some] <;> rfl), by (with_reducible repeat (first | apply Kd.R_alloc | apply Kd.R_drewN | apply Kd.R_drew)); exact HO_4.out, by repeat (first | (with_reducible first | exact HB.out | apply below_alloc | apply pw_below_drewN | apply below_drew1) | exact HB.out)⟩

-- NOT PRINTED: function 24 (intent_Get)

-- NOT PRINTED: function 23 (switchbacklaw09_awake)

-- NOT PRINTED: function 9 (switchbacklaw09_IntentPuts)

end Go.Proofs.Ytaogmfchpcdboaa.PIntentPuts
