/- The reference's Get: what it answers where the bytes are no record. No condition. -/
import Derived.Test.YtaogmfchpcdboaaGets
import Derived.Test.YtaogmfchpcdboaaPIntentGetsx2
import Derived.Laws.ResultCell
namespace Go.Proofs.Ytaogmfchpcdboaa
open Go.RowKit Go.Proofs.YtaogmfchpcdboaaW.PrintWords
open Go.ChangeMaps (setBlock)
set_option linter.unusedSimpArgs false
set_option linter.unusedVariables false

/-- Two blocks, each with a record that is all zero. -/
def Two (g : Nat) (W : World) : Prop := Boxed g 0 zB W ∧ Boxed (g + 1) 0 zB W
theorem Two.new (w : World) : Two w.heap.size ((w.alloc (.cells (recCells 0 zB) 41)).alloc (.cells (recCells 0 zB) 41)) := by
  have hs : (w.alloc (.cells (recCells 0 zB) 41)).heap.size = w.heap.size + 1 := by
    show (w.heap.push _).size = _
    simp
  constructor
  · unfold Boxed
    rw [heap_at, if_neg (by omega), heap_at, if_pos rfl]
  · unfold Boxed
    rw [heap_at, if_pos hs.symm]
theorem Two.below {g : Nat} {W W1 : World} (h : Two g W) (hb : Below W.heap.size W W1) : Two g W1 := ⟨h.1.below hb, h.2.below hb⟩
theorem below_two (w : World) : Below w.heap.size w ((w.alloc (.cells (recCells 0 zB) 41)).alloc (.cells (recCells 0 zB) 41)) := below_alloc (below_alloc (Below.refl w.heap.size w) _) _
set_option maxHeartbeats 16000000 in
set_option maxRecDepth 100000 in
theorem rget_bad (s : ByteArray) (kg : Nat) (y : List Int) (re : Int) (w : World) (hg : PIntentGets.switchbackref08_Get.f kg s = some (y, re)) (hne : re ≠ 0) : Calls Try.prog 25 #[.string s] w fun e w' => e = .returned (.tuple #[recVal 0 zB, .int .i64 re]) ∧ Below w.heap.size w w' := by
  have HG := Aside0.mk hg
  clear hg
  have HX := Aside0.mk (Two.new w)
  have HB := Aside0.mk (below_two w)
  go_enter Try.func25, Try.ntmps25
  go_wp2_with (first | (go_at_call 19; ((with_reducible refine (PIntentGets.switchbackref08_Get.calls kg s y re _ HG.out).mono ?_); rintro e w1 ⟨v0, rfl, ho, hb⟩; have HO := Aside0.mk ho; have n0_ := Aside0.mk (HX.out.below hb); have n1_ := Aside0.mk (below_step HB.out hb); clear HX HB hb ho; have HX := n0_; have HB := n1_; clear n0_ n1_; obtain ⟨Ao, co, eo⟩ := Kd.R_slice HO.out; subst eo)) | ((with_reducible refine gate_load (t := 41) rfl ?_); refine wpList_load_row rfl 41 _ rfl _ (by rfl) 41 _ (0, 0) _ HX.out.2 Try.underlying41 rfl (by kernel_rfl) ?_; simp only [recCells, recVal, Value.cells]; go_simp) | ((with_reducible refine gate_store (t := 41) rfl ?_); refine wpList_store_block rfl 41 _ _ rfl _ _ (by rfl) (by rfl) 41 _ HX.out.1 (by kernel_rfl) (by rfl) (by simp [Value.oneCell']) ?_; go_simp) | ((with_reducible refine gate_store (t := 41) rfl ?_); refine wpList_store_block rfl 41 _ _ rfl _ _ (by rfl) (by rfl) 41 _ (by simp only [objAt_alloc, objAt_drew]; go_simp; first | rfl | exact ⟨rfl, rfl⟩) (by kernel_rfl) (by rfl) (by simp [Value.oneCell']) ?_; simp only [setBlock_alloc, setBlock_drew]; go_simp))
  all_goals (try simp only [Exit.inBlock, Exit.then])
  all_goals refine bodyPost_ret (results_cell_tmp_row (p := 2) (ty := 41) rfl _ _ (w.heap.size) 41 _ (0, 0) _ (by rfl) (setBlock_at HX.out.1) Try.underlying41 rfl (by kernel_rfl)) rfl ?_
  all_goals exact ⟨rfl, below_setBlock (by repeat (first | (with_reducible first | exact HB.out | apply below_alloc | apply pw_below_drewN | apply below_drew1) | exact HB.out)) (Nat.le_refl _) _⟩
set_option maxHeartbeats 16000000 in
set_option maxRecDepth 100000 in
theorem rget_empty (s : ByteArray) (kg : Nat) (w : World) (hg : PIntentGets.switchbackref08_Get.f kg s = some ([], 0)) : Calls Try.prog 25 #[.string s] w fun e w' => e = .returned (.tuple #[recVal 0 zB, .int .i64 6]) ∧ Below w.heap.size w w' := by
  obtain ⟨y, hy⟩ : ∃ q : List Int, q = [] := ⟨_, rfl⟩
  obtain ⟨re, hre⟩ : ∃ q : Int, q = 0 := ⟨_, rfl⟩
  have HG : Aside0 (PIntentGets.switchbackref08_Get.f kg s = some (y, re)) := ⟨by rw [hy, hre]; exact hg⟩
  clear hg
  have HX := Aside0.mk (Two.new w)
  have HB := Aside0.mk (below_two w)
  go_enter Try.func25, Try.ntmps25
  go_wp2_with (first | (go_at_call 19; ((with_reducible refine (PIntentGets.switchbackref08_Get.calls kg s y re _ HG.out).mono ?_); rintro e w1 ⟨v0, rfl, ho, hb⟩; have HO := Aside0.mk ho; have n0_ := Aside0.mk (HX.out.below hb); have n1_ := Aside0.mk (below_step HB.out hb); clear HX HB hb ho; have HX := n0_; have HB := n1_; clear n0_ n1_; obtain ⟨Ao, co, eo⟩ := Kd.R_slice HO.out; subst eo)) | ((with_reducible refine gate_load (t := 41) rfl ?_); refine wpList_load_row rfl 41 _ rfl _ (by rfl) 41 _ (0, 0) _ HX.out.2 Try.underlying41 rfl (by kernel_rfl) ?_; simp only [recCells, recVal, Value.cells]; go_simp) | ((with_reducible refine gate_store (t := 41) rfl ?_); refine wpList_store_block rfl 41 _ _ rfl _ _ (by rfl) (by rfl) 41 _ HX.out.1 (by kernel_rfl) (by rfl) (by simp [Value.oneCell']) ?_; go_simp) | ((with_reducible refine gate_store (t := 41) rfl ?_); refine wpList_store_block rfl 41 _ _ rfl _ _ (by rfl) (by rfl) 41 _ (by simp only [objAt_alloc, objAt_drew]; go_simp; first | rfl | exact ⟨rfl, rfl⟩) (by kernel_rfl) (by rfl) (by simp [Value.oneCell']) ?_; simp only [setBlock_alloc, setBlock_drew]; go_simp))
  all_goals (try simp only [Exit.inBlock, Exit.then])
  all_goals refine bodyPost_ret (results_cell_tmp_row (p := 2) (ty := 41) rfl _ _ (w.heap.size) 41 _ (0, 0) _ (by rfl) (setBlock_at HX.out.1) Try.underlying41 rfl (by kernel_rfl)) rfl ?_
  all_goals exact ⟨rfl, below_setBlock (by repeat (first | (with_reducible first | exact HB.out | apply below_alloc | apply pw_below_drewN | apply below_drew1) | exact HB.out)) (Nat.le_refl _) _⟩
set_option maxHeartbeats 16000000 in
set_option maxRecDepth 100000 in
theorem rget_kind (s : ByteArray) (kg : Nat) (k : Int) (t : List Int) (km : Nat) (mr : List Int) (w : World) (hg : PIntentGets.switchbackref08_Get.f kg s = some (k :: t, 0)) (hm : PIntentPuts.switchbackref09_Most.f km k = some (mr, false)) : Calls Try.prog 25 #[.string s] w fun e w' => e = .returned (.tuple #[recVal 0 zB, .int .i64 6]) ∧ Below w.heap.size w w' := by
  obtain ⟨y, hy⟩ : ∃ q : List Int, q = k :: t := ⟨_, rfl⟩
  obtain ⟨re, hre⟩ : ∃ q : Int, q = 0 := ⟨_, rfl⟩
  have HG : Aside0 (PIntentGets.switchbackref08_Get.f kg s = some (y, re)) := ⟨by rw [hy, hre]; exact hg⟩
  obtain ⟨mok, hmok⟩ : ∃ q : Bool, q = false := ⟨_, rfl⟩
  have HM : Aside0 (PIntentPuts.switchbackref09_Most.f km k = some (mr, mok)) := ⟨by rw [hmok]; exact hm⟩
  obtain ⟨nr, hnr⟩ : ∃ q : Nat, q = mr.length := ⟨_, rfl⟩
  have HMR := Aside0.mk hnr.symm
  obtain ⟨ny, hny⟩ : ∃ q : Nat, q = y.length := ⟨_, rfl⟩
  have hy0 : (0 : Int) < (ny : Int) := by rw [hny, hy]; simp only [List.length_cons]; omega
  have hyn : ¬ ((ny : Int) = 0) := by omega
  have hyn2 : ¬ (ny = 0) := by omega
  have hy0n : 0 < ny := by omega
  have hyb : ((ny : Int) == 0) = false := by simp; omega
  have HNY := Aside0.mk hny
  have Ny := Aside0.mk hy
  clear hg hm hy hny hnr
  have HX := Aside0.mk (Two.new w)
  have HB := Aside0.mk (below_two w)
  go_enter Try.func25, Try.ntmps25
  go_wp2_with (first | (go_at_call 19; ((with_reducible refine (PIntentGets.switchbackref08_Get.calls kg s y re _ HG.out).mono ?_); rintro e w1 ⟨v0, rfl, ho, hb⟩; have HO := Aside0.mk ho; have n0_ := Aside0.mk (HX.out.below hb); have n1_ := Aside0.mk (below_step HB.out hb); clear HX HB hb ho; have HX := n0_; have HB := n1_; clear n0_ n1_; obtain ⟨Ao, co, eo⟩ := Kd.R_slice HO.out; subst eo; rw [← HNY.out]; have hR := Kd.R_reads' HO.out; have hC1 : Kd.C (Kd.int .i64) w1 Ao y.length (k :: t) := (by have h := hR.2.2; rw [Ny.out] at h ⊢; exact h); obtain ⟨ad, eA, hk0, hlt⟩ := int_at0 hC1; subst eA; have HCY := Aside0.mk (And.intro hR.2.1 hR.2.2); have HK0 := Aside0.mk (And.intro hk0 hlt); have hk1 := hk0; clear hR hC1 hk0 hlt HO)) | (go_at_call 31; ((with_reducible refine (PIntentPuts.switchbackref09_Most.calls km k mr mok _ HM.out).mono ?_); rintro e w2 ⟨v2, rfl, ho2, hb⟩; have n0_ := Aside0.mk (HX.out.below hb); have n1_ := Aside0.mk (below_step HB.out hb); have n2_ := Aside0.mk (And.intro HCY.out.1 (Kd.C_below HCY.out.2 hb)); have hk2 := ((hb.cell (show ad.block < _ from HK0.out.2)).trans (show _ = _ from HK0.out.1)); obtain ⟨Am, cm, em⟩ := Kd.R_slice ho2; subst em; rw [HMR.out]; clear HX HB HCY HK0 hb ho2; have HX := n0_; have HB := n1_; have HCY := n2_; clear n0_ n1_ n2_)) | ((with_reducible refine gate_load (t := 41) rfl ?_); refine wpList_load_row rfl 41 _ rfl _ (by rfl) 41 _ (0, 0) _ HX.out.2 Try.underlying41 rfl (by kernel_rfl) ?_; simp only [recCells, recVal, Value.cells]; go_simp) | ((with_reducible refine gate_store (t := 41) rfl ?_); refine wpList_store_block rfl 41 _ _ rfl _ _ (by rfl) (by rfl) 41 _ HX.out.1 (by kernel_rfl) (by rfl) (by simp [Value.oneCell']) ?_; go_simp) | ((with_reducible refine gate_store (t := 41) rfl ?_); refine wpList_store_block rfl 41 _ _ rfl _ _ (by rfl) (by rfl) 41 _ (by simp only [objAt_alloc, objAt_drew]; go_simp; first | rfl | exact ⟨rfl, rfl⟩) (by kernel_rfl) (by rfl) (by simp [Value.oneCell']) ?_; simp only [setBlock_alloc, setBlock_drew]; go_simp))
  all_goals (try simp only [Exit.inBlock, Exit.then])
  all_goals refine bodyPost_ret (results_cell_tmp_row (p := 2) (ty := 41) rfl _ _ (w.heap.size) 41 _ (0, 0) _ (by rfl) (setBlock_at HX.out.1) Try.underlying41 rfl (by kernel_rfl)) rfl ?_
  all_goals exact ⟨rfl, below_setBlock (by repeat (first | (with_reducible first | exact HB.out | apply below_alloc | apply pw_below_drewN | apply below_drew1) | exact HB.out)) (Nat.le_refl _) _⟩
set_option maxHeartbeats 16000000 in
set_option maxRecDepth 100000 in
theorem rget_form (s : ByteArray) (kg : Nat) (k : Int) (t : List Int) (km : Nat) (mr : List Int) (w : World) (hg : PIntentGets.switchbackref08_Get.f kg s = some (k :: t, 0)) (hm : PIntentPuts.switchbackref09_Most.f km k = some (mr, true)) (hlen : t.length ≠ mr.length) (hs : t.length < 100000) : Calls Try.prog 25 #[.string s] w fun e w' => e = .returned (.tuple #[recVal 0 zB, .int .i64 4]) ∧ Below w.heap.size w w' := by
  obtain ⟨y, hy⟩ : ∃ q : List Int, q = k :: t := ⟨_, rfl⟩
  obtain ⟨re, hre⟩ : ∃ q : Int, q = 0 := ⟨_, rfl⟩
  have HG : Aside0 (PIntentGets.switchbackref08_Get.f kg s = some (y, re)) := ⟨by rw [hy, hre]; exact hg⟩
  obtain ⟨mok, hmok⟩ : ∃ q : Bool, q = true := ⟨_, rfl⟩
  have HM : Aside0 (PIntentPuts.switchbackref09_Most.f km k = some (mr, mok)) := ⟨by rw [hmok]; exact hm⟩
  obtain ⟨nr, hnr⟩ : ∃ q : Nat, q = mr.length := ⟨_, rfl⟩
  have HMR := Aside0.mk hnr.symm
  obtain ⟨ny, hny⟩ : ∃ q : Nat, q = y.length := ⟨_, rfl⟩
  have hy0 : (0 : Int) < (ny : Int) := by rw [hny, hy]; simp only [List.length_cons]; omega
  have hyn : ¬ ((ny : Int) = 0) := by omega
  have hyn2 : ¬ (ny = 0) := by omega
  have hy0n : 0 < ny := by omega
  have hyb : ((ny : Int) == 0) = false := by simp; omega
  have HNY := Aside0.mk hny
  have Ny := Aside0.mk hy
  have hne : ¬ ((ny : Int) - 1 = (nr : Int)) := by rw [hny, hy, hnr]; simp only [List.length_cons]; omega
  have hneb : ((ny : Int) - 1 == (nr : Int)) = false := by simpa using hne
  have hw : IntKind.i64.wrap ((ny : Int) - 1) = (ny : Int) - 1 := by rw [IntKind.wrap_i64, hny, hy]; simp only [List.length_cons]; omega
  clear hg hm hy hny hnr hlen hs
  have HX := Aside0.mk (Two.new w)
  have HB := Aside0.mk (below_two w)
  go_enter Try.func25, Try.ntmps25
  go_wp2_with (first | (go_at_call 19; ((with_reducible refine (PIntentGets.switchbackref08_Get.calls kg s y re _ HG.out).mono ?_); rintro e w1 ⟨v0, rfl, ho, hb⟩; have HO := Aside0.mk ho; have n0_ := Aside0.mk (HX.out.below hb); have n1_ := Aside0.mk (below_step HB.out hb); clear HX HB hb ho; have HX := n0_; have HB := n1_; clear n0_ n1_; obtain ⟨Ao, co, eo⟩ := Kd.R_slice HO.out; subst eo; rw [← HNY.out]; have hR := Kd.R_reads' HO.out; have hC1 : Kd.C (Kd.int .i64) w1 Ao y.length (k :: t) := (by have h := hR.2.2; rw [Ny.out] at h ⊢; exact h); obtain ⟨ad, eA, hk0, hlt⟩ := int_at0 hC1; subst eA; have HCY := Aside0.mk (And.intro hR.2.1 hR.2.2); have HK0 := Aside0.mk (And.intro hk0 hlt); have hk1 := hk0; clear hR hC1 hk0 hlt HO)) | (go_at_call 31; ((with_reducible refine (PIntentPuts.switchbackref09_Most.calls km k mr mok _ HM.out).mono ?_); rintro e w2 ⟨v2, rfl, ho2, hb⟩; have n0_ := Aside0.mk (HX.out.below hb); have n1_ := Aside0.mk (below_step HB.out hb); have n2_ := Aside0.mk (And.intro HCY.out.1 (Kd.C_below HCY.out.2 hb)); have hk2 := ((hb.cell (show ad.block < _ from HK0.out.2)).trans (show _ = _ from HK0.out.1)); obtain ⟨Am, cm, em⟩ := Kd.R_slice ho2; subst em; rw [HMR.out]; clear HX HB HCY HK0 hb ho2; have HX := n0_; have HB := n1_; have HCY := n2_; clear n0_ n1_ n2_)) | ((with_reducible refine gate_load (t := 41) rfl ?_); refine wpList_load_row rfl 41 _ rfl _ (by rfl) 41 _ (0, 0) _ HX.out.2 Try.underlying41 rfl (by kernel_rfl) ?_; simp only [recCells, recVal, Value.cells]; go_simp) | ((with_reducible refine gate_store (t := 41) rfl ?_); refine wpList_store_block rfl 41 _ _ rfl _ _ (by rfl) (by rfl) 41 _ HX.out.1 (by kernel_rfl) (by rfl) (by simp [Value.oneCell']) ?_; go_simp) | ((with_reducible refine gate_store (t := 41) rfl ?_); refine wpList_store_block rfl 41 _ _ rfl _ _ (by rfl) (by rfl) 41 _ (by simp only [objAt_alloc, objAt_drew]; go_simp; first | rfl | exact ⟨rfl, rfl⟩) (by kernel_rfl) (by rfl) (by simp [Value.oneCell']) ?_; simp only [setBlock_alloc, setBlock_drew]; go_simp))
  all_goals (try simp only [Exit.inBlock, Exit.then])
  all_goals refine bodyPost_ret (results_cell_tmp_row (p := 2) (ty := 41) rfl _ _ (w.heap.size) 41 _ (0, 0) _ (by rfl) (setBlock_at HX.out.1) Try.underlying41 rfl (by kernel_rfl)) rfl ?_
  all_goals exact ⟨rfl, below_setBlock (by repeat (first | (with_reducible first | exact HB.out | apply below_alloc | apply pw_below_drewN | apply below_drew1) | exact HB.out)) (Nat.le_refl _) _⟩
theorem within_calls (k : Nat) (a0 : Int) (A1 : Option Addr) (n1 c1 : Nat) (l1 : List Int) (r : Bool) (w : World) (e1 : n1 = l1.length) (hr1 : Kd.C (Kd.int .i64) w A1 n1 l1) (hc1 : n1 ≤ c1) (h : PIntentPuts.switchbackref09_within.f k a0 l1 = some r) :
    Calls Try.prog 34 #[.int .i64 a0, .slice A1 n1 c1] w fun e w' => e = .returned (.bool r) ∧ Below w.heap.size w w' := by
  subst e1
  exact PIntentPuts.switchbackref09_within.calls k a0 A1 c1 l1 r w hr1 hc1 h
set_option maxHeartbeats 16000000 in
set_option maxRecDepth 100000 in
theorem rget_range (s : ByteArray) (kg : Nat) (k : Int) (t : List Int) (km : Nat) (mr : List Int) (kw : Nat) (w : World) (hg : PIntentGets.switchbackref08_Get.f kg s = some (k :: t, 0)) (hm : PIntentPuts.switchbackref09_Most.f km k = some (mr, true)) (hlen : t.length = mr.length) (hs : t.length < 99999) (hwi : PIntentPuts.switchbackref09_within.f kw k t = some false) : Calls Try.prog 25 #[.string s] w fun e w' => e = .returned (.tuple #[recVal 0 zB, .int .i64 1]) ∧ Below w.heap.size w w' := by
  obtain ⟨y, hy⟩ : ∃ q : List Int, q = k :: t := ⟨_, rfl⟩
  obtain ⟨re, hre⟩ : ∃ q : Int, q = 0 := ⟨_, rfl⟩
  have HG : Aside0 (PIntentGets.switchbackref08_Get.f kg s = some (y, re)) := ⟨by rw [hy, hre]; exact hg⟩
  obtain ⟨mok, hmok⟩ : ∃ q : Bool, q = true := ⟨_, rfl⟩
  have HM : Aside0 (PIntentPuts.switchbackref09_Most.f km k = some (mr, mok)) := ⟨by rw [hmok]; exact hm⟩
  obtain ⟨nr, hnr⟩ : ∃ q : Nat, q = mr.length := ⟨_, rfl⟩
  have HMR := Aside0.mk hnr.symm
  have HNY : Aside0 (nr + 1 = y.length) := ⟨by rw [hnr, hy, List.length_cons, hlen]⟩
  have hrl : nr < 100000 := by omega
  have hw : IntKind.i64.wrap ((nr : Int) + 1 - 1) = (nr : Int) := by rw [IntKind.wrap_i64]; omega
  have hw2 : IntKind.i64.wrap (nr : Int) = (nr : Int) := by rw [IntKind.wrap_i64]; omega
  have hy0 : (0 : Int) < (nr : Int) + 1 := by omega
  have hyn : ¬ ((nr : Int) + 1 = 0) := by omega
  have hyb : ((nr : Int) + 1 == 0) = false := by simp; omega
  have h1n : (1 : Int) ≤ (nr : Int) + 1 := by omega
  have Ny := Aside0.mk hy
  have HT := Aside0.mk (hnr.trans hlen.symm)
  clear hg hm hy hnr hrl hlen hs
  obtain ⟨rw, hrw⟩ : ∃ q : Bool, q = false := ⟨_, rfl⟩
  have HW : Aside0 (PIntentPuts.switchbackref09_within.f kw k t = some rw) := ⟨by rw [hrw]; exact hwi⟩
  clear hwi
  have HX := Aside0.mk (Two.new w)
  have HB := Aside0.mk (below_two w)
  go_enter Try.func25, Try.ntmps25
  go_wp2_with (first | (go_at_call 19; ((with_reducible refine (PIntentGets.switchbackref08_Get.calls kg s y re _ HG.out).mono ?_); rintro e w1 ⟨v0, rfl, ho, hb⟩; have HO := Aside0.mk ho; have n0_ := Aside0.mk (HX.out.below hb); have n1_ := Aside0.mk (below_step HB.out hb); clear HX HB hb ho; have HX := n0_; have HB := n1_; clear n0_ n1_; obtain ⟨Ao, co, eo⟩ := Kd.R_slice HO.out; subst eo; rw [← HNY.out]; have hR := Kd.R_reads' HO.out; have hC1 : Kd.C (Kd.int .i64) w1 Ao y.length (k :: t) := (by have h := hR.2.2; rw [Ny.out] at h ⊢; exact h); obtain ⟨ad, eA, hk0, hlt⟩ := int_at0 hC1; subst eA; have HCY := Aside0.mk (And.intro hR.2.1 hR.2.2); have HK0 := Aside0.mk (And.intro hk0 hlt); have hk1 := hk0; clear hR hC1 hk0 hlt HO)) | (go_at_call 31; ((with_reducible refine (PIntentPuts.switchbackref09_Most.calls km k mr mok _ HM.out).mono ?_); rintro e w2 ⟨v2, rfl, ho2, hb⟩; have n0_ := Aside0.mk (HX.out.below hb); have n1_ := Aside0.mk (below_step HB.out hb); have n2_ := Aside0.mk (And.intro HCY.out.1 (Kd.C_below HCY.out.2 hb)); have hk2 := ((hb.cell (show ad.block < _ from HK0.out.2)).trans (show _ = _ from HK0.out.1)); obtain ⟨Am, cm, em⟩ := Kd.R_slice ho2; subst em; rw [HMR.out]; clear HX HB HCY HK0 hb ho2; have HX := n0_; have HB := n1_; have HCY := n2_; clear n0_ n1_ n2_)) | (go_at_call 34; ((with_reducible refine (within_calls kw k _ nr _ t rw _ HT.out ?side1 ?side2 HW.out).mono ?_); (case side1 => first | exact C_tail (k := k) (t := t) (by have h := HCY.out.2; rw [Ny.out] at h; exact h) HT.out | exact C_zero HT.out (by have := HCY.out.1; have := HNY.out; omega)); (case side2 => have := HCY.out.1; have := HNY.out; omega); rintro e w3 ⟨rfl, hb⟩; have n0_ := Aside0.mk (HX.out.below hb); have n1_ := Aside0.mk (below_step HB.out hb); clear HX HB hb; have HX := n0_; have HB := n1_; clear n0_ n1_)) | ((with_reducible refine gate_load (t := 41) rfl ?_); refine wpList_load_row rfl 41 _ rfl _ (by rfl) 41 _ (0, 0) _ HX.out.2 Try.underlying41 rfl (by kernel_rfl) ?_; simp only [recCells, recVal, Value.cells]; go_simp) | ((with_reducible refine gate_store (t := 41) rfl ?_); refine wpList_store_block rfl 41 _ _ rfl _ _ (by rfl) (by rfl) 41 _ HX.out.1 (by kernel_rfl) (by rfl) (by simp [Value.oneCell']) ?_; go_simp) | ((with_reducible refine gate_store (t := 41) rfl ?_); refine wpList_store_block rfl 41 _ _ rfl _ _ (by rfl) (by rfl) 41 _ (by simp only [objAt_alloc, objAt_drew]; go_simp; first | rfl | exact ⟨rfl, rfl⟩) (by kernel_rfl) (by rfl) (by simp [Value.oneCell']) ?_; simp only [setBlock_alloc, setBlock_drew]; go_simp))
  all_goals (try simp only [Exit.inBlock, Exit.then])
  all_goals refine bodyPost_ret (results_cell_tmp_row (p := 2) (ty := 41) rfl _ _ (w.heap.size) 41 _ (0, 0) _ (by rfl) (setBlock_at HX.out.1) Try.underlying41 rfl (by kernel_rfl)) rfl ?_
  all_goals exact ⟨rfl, below_setBlock (by repeat (first | (with_reducible first | exact HB.out | apply below_alloc | apply pw_below_drewN | apply below_drew1) | exact HB.out)) (Nat.le_refl _) _⟩
end Go.Proofs.Ytaogmfchpcdboaa
