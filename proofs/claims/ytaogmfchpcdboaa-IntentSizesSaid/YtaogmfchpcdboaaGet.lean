/- intent.Get: what it answers, case by case. No condition. -/
import Derived.Test.YtaogmfchpcdboaaPut
import Derived.Laws.ResultCell
namespace Go.Proofs.Ytaogmfchpcdboaa
open Go.RowKit Go.Proofs.YtaogmfchpcdboaaW.PrintWords
open Go.ChangeMaps (setBlock)
set_option linter.unusedSimpArgs false
set_option linter.unusedVariables false

theorem results_cell_tmp_row {P : Program} {fn : Func} {p u : Tmp} {ty : TypeId} (h : fn.results = #[.cell p ty, .tmp u]) (tmps : Array Value) (w : World) (g : Nat) (t : TypeId) (cs : Array Value) (fr : Nat × Nat) (d : TypeDesc)
    (hp : tmps.getD p undef = .pointer (some ⟨g, 0, none⟩)) (hg : w.heap[g]? = some (.cells cs t fr))
    (hu : P.underlying ty = some d) (hd : (match d with | .struct _ | .array _ _ => true | _ => false) = true) (hi : (P.info? ty).map (·.size) = some cs.size) :
    (results fn tmps).run P w = .ok (.tuple #[.agg cs, tmps.getD u undef]) w := by
  rw [results_cell_tmp h, hp]
  simp [asAddr, run_loadVar_row w g t ty cs fr d hg hu hd hi, Result.andThen]

/-- Another block is laid into a cell's place. -/
theorem below_setBlock {B : Nat} {w W : World} (h : Below B w W) {g : Nat} (hg : B ≤ g) (o : Obj) : Below B w (setBlock W g o) := by
  refine ⟨h.os, h.tape, h.output, ?_, fun i hi => ?_⟩
  · have := h.size
    simpa [setBlock] using this
  · have := h.block i hi
    simp only [setBlock]
    rw [Array.getElem?_setIfInBounds, if_neg (by omega)]
    exact this
theorem setBlock_at {W : World} {g : Nat} {o p : Obj} (h : W.heap[g]? = some p) : (setBlock W g o).heap[g]? = some o := by
  have hl := (Array.getElem?_eq_some_iff.1 h).1
  simp [setBlock, hl]
theorem C_tail {w : World} {ad : Addr} {n : Nat} {k : Int} {t : List Int} (h : Kd.C (Kd.int .i64) w (some ad) n (k :: t)) {m : Nat} (hm : m = t.length) : Kd.C (Kd.int .i64) w (some { block := ad.block, off := ad.off + 1 }) m t := by
  have hn := h.1
  subst hm
  subst hn
  have h1 := Kd.C_drop (m := 1) (c := (k :: t).length + 1) h (by simp) (by omega)
  rw [if_neg (by simp only [List.length_cons]; omega)] at h1
  exact h1
theorem C_zero {w : World} {A : Option Addr} {t : List Int} {m : Nat} (hm : m = t.length) (h0 : m = 0) : Kd.C (Kd.int .i64) w A m t := ⟨hm.symm, by omega, fun h => absurd h (by omega)⟩
theorem check_calls (k : Nat) (A0 : Option Addr) (n0 c0 : Nat) (l0 : List Int) (A1 : Option Addr) (n1 c1 : Nat) (l1 : List PIntentPuts.S67) (r : Int) (w : World) (e0 : n0 = l0.length) (e1 : n1 = l1.length) (hr0 : Kd.C (Kd.int .i64) w A0 n0 l0) (hc0 : n0 ≤ c0) (hr1 : Kd.C PIntentPuts.k67 w A1 n1 l1) (hc1 : n1 ≤ c1) (h : PIntentPuts.intent_check.f k l0 l1 = some r) :
    Calls Try.prog 30 #[.slice A0 n0 c0, .slice A1 n1 c1] w fun e w' => e = .returned (.int .i64 r) ∧ Drawn0 w w' := by
  subst e0
  subst e1
  exact PIntentPuts.intent_check.calls k A0 c0 l0 A1 c1 l1 r w hr0 hc0 hr1 hc1 h
set_option maxHeartbeats 16000000 in
set_option maxRecDepth 100000 in
theorem get_bad (s : ByteArray) (kg : Nat) (y : List Int) (re : Int) (w : World) (hg : PIntentPuts.code_Get.f kg s = some (y, re)) (hne : re ≠ 0) : Calls Try.prog 24 #[.string s] w fun e w' => e = .returned (.tuple #[recVal 0 zB, .int .i64 re]) ∧ Below w.heap.size w w' := by
  have HG := Aside0.mk hg
  clear hg
  have HX := Aside0.mk (Boxed.new 0 zB w)
  have HB := Aside0.mk (below_alloc (Below.refl w.heap.size w) (.cells (recCells 0 zB) 41))
  go_enter Try.func24, Try.ntmps24
  go_wp2_with (first | (go_at_call 18; ((with_reducible refine (PIntentPuts.code_Get.calls kg s y re _ HG.out).mono ?_); rintro e w1 ⟨v0, rfl, ho, hb⟩; have HO := Aside0.mk ho; have n0_ := Aside0.mk (HX.out.below hb); have n1_ := Aside0.mk (below_step HB.out hb); clear HX HB hb ho; have HX := n0_; have HB := n1_; clear n0_ n1_; obtain ⟨Ao, co, eo⟩ := Kd.R_slice HO.out; subst eo)) | ((with_reducible refine gate_store (t := 41) rfl ?_); refine wpList_store_block rfl 41 _ _ rfl _ _ (by rfl) (by rfl) 41 _ HX.out (by kernel_rfl) (by rfl) (by simp [Value.oneCell']) ?_; go_simp))
  (try simp only [Exit.inBlock, Exit.then])
  refine bodyPost_ret (results_cell_tmp_row (p := 2) (ty := 41) rfl _ _ (w.heap.size) 41 _ (0, 0) _ (by rfl) (setBlock_at HX.out) Try.underlying41 rfl (by kernel_rfl)) rfl ?_
  exact ⟨rfl, below_setBlock (by repeat (first | (with_reducible first | exact HB.out | apply below_alloc | apply pw_below_drewN | apply below_drew1) | exact HB.out)) (Nat.le_refl _) _⟩
set_option maxHeartbeats 16000000 in
set_option maxRecDepth 100000 in
theorem get_empty (s : ByteArray) (kg : Nat) (w : World) (hg : PIntentPuts.code_Get.f kg s = some ([], 0)) : Calls Try.prog 24 #[.string s] w fun e w' => e = .returned (.tuple #[recVal 0 zB, .int .i64 6]) ∧ Below w.heap.size w w' := by
  obtain ⟨y, hy⟩ : ∃ q : List Int, q = [] := ⟨_, rfl⟩
  obtain ⟨re, hre⟩ : ∃ q : Int, q = 0 := ⟨_, rfl⟩
  have HG : Aside0 (PIntentPuts.code_Get.f kg s = some (y, re)) := ⟨by rw [hy, hre]; exact hg⟩
  clear hg
  have HX := Aside0.mk (Boxed.new 0 zB w)
  have HB := Aside0.mk (below_alloc (Below.refl w.heap.size w) (.cells (recCells 0 zB) 41))
  go_enter Try.func24, Try.ntmps24
  go_wp2_with (first | (go_at_call 18; ((with_reducible refine (PIntentPuts.code_Get.calls kg s y re _ HG.out).mono ?_); rintro e w1 ⟨v0, rfl, ho, hb⟩; have HO := Aside0.mk ho; have n0_ := Aside0.mk (HX.out.below hb); have n1_ := Aside0.mk (below_step HB.out hb); clear HX HB hb ho; have HX := n0_; have HB := n1_; clear n0_ n1_; obtain ⟨Ao, co, eo⟩ := Kd.R_slice HO.out; subst eo)) | ((with_reducible refine gate_store (t := 41) rfl ?_); refine wpList_store_block rfl 41 _ _ rfl _ _ (by rfl) (by rfl) 41 _ HX.out (by kernel_rfl) (by rfl) (by simp [Value.oneCell']) ?_; go_simp))
  (try simp only [Exit.inBlock, Exit.then])
  refine bodyPost_ret (results_cell_tmp_row (p := 2) (ty := 41) rfl _ _ (w.heap.size) 41 _ (0, 0) _ (by rfl) (setBlock_at HX.out) Try.underlying41 rfl (by kernel_rfl)) rfl ?_
  exact ⟨rfl, below_setBlock (by repeat (first | (with_reducible first | exact HB.out | apply below_alloc | apply pw_below_drewN | apply below_drew1) | exact HB.out)) (Nat.le_refl _) _⟩
set_option maxHeartbeats 16000000 in
set_option maxRecDepth 100000 in
theorem get_kind (s : ByteArray) (kg : Nat) (k : Int) (t : List Int) (w : World) (hg : PIntentPuts.code_Get.f kg s = some (k :: t, 0)) (hk : kindOk k = false) : Calls Try.prog 24 #[.string s] w fun e w' => e = .returned (.tuple #[recVal 0 zB, .int .i64 6]) ∧ Below w.heap.size w w' := by
  obtain ⟨y, hy⟩ : ∃ q : List Int, q = k :: t := ⟨_, rfl⟩
  obtain ⟨re, hre⟩ : ∃ q : Int, q = 0 := ⟨_, rfl⟩
  have HG : Aside0 (PIntentPuts.code_Get.f kg s = some (y, re)) := ⟨by rw [hy, hre]; exact hg⟩
  obtain ⟨ny, hny⟩ : ∃ q : Nat, q = y.length := ⟨_, rfl⟩
  have hy0 : (0 : Int) < (ny : Int) := by rw [hny, hy]; simp only [List.length_cons]; omega
  have hyn : ¬ ((ny : Int) = 0) := by omega
  have hyn2 : ¬ (ny = 0) := by omega
  have hy0n : 0 < ny := by omega
  have hyb : ((ny : Int) == 0) = false := by simp; omega
  have HNY := Aside0.mk hny
  have Ny := Aside0.mk hy
  have HK := Aside0.mk hk
  clear hg hy hk hny
  have HX := Aside0.mk (Boxed.new 0 zB w)
  have HB := Aside0.mk (below_alloc (Below.refl w.heap.size w) (.cells (recCells 0 zB) 41))
  go_enter Try.func24, Try.ntmps24
  go_wp2_with (first | (go_at_call 18; ((with_reducible refine (PIntentPuts.code_Get.calls kg s y re _ HG.out).mono ?_); rintro e w1 ⟨v0, rfl, ho, hb⟩; have HO := Aside0.mk ho; have n0_ := Aside0.mk (HX.out.below hb); have n1_ := Aside0.mk (below_step HB.out hb); clear HX HB hb ho; have HX := n0_; have HB := n1_; clear n0_ n1_; obtain ⟨Ao, co, eo⟩ := Kd.R_slice HO.out; subst eo; rw [← HNY.out]; have hR := Kd.R_reads' HO.out; have hC1 : Kd.C (Kd.int .i64) w1 Ao y.length (k :: t) := (by have h := hR.2.2; rw [Ny.out] at h ⊢; exact h); obtain ⟨ad, eA, hk0, hlt⟩ := int_at0 hC1; subst eA; have HCY := Aside0.mk (And.intro hR.2.1 hR.2.2); have HK0 := Aside0.mk (And.intro hk0 hlt); clear hR hC1 hk0 hlt HO)) | ((with_reducible refine gate_store (t := 41) rfl ?_); refine wpList_store_block rfl 41 _ _ rfl _ _ (by rfl) (by rfl) 41 _ HX.out (by kernel_rfl) (by rfl) (by simp [Value.oneCell']) ?_; go_simp))
  go_region_held3 (fun W => W.cell? ad = some (.int .i64 k)) (first | exact HK0.out.1)
    (first | (go_at_call 27; ((with_reducible refine (spans_calls _).mono ?_); rintro e w2 ⟨r, rfl, hb, hr, hS⟩; have hl0 := look_bad hS HK.out w2 rfl; have n0_ := Aside0.mk (HX.out.drew.below hb); have n1_ := Aside0.mk (below_step (below_drew1 HB.out) hb); have n2_ := Aside0.mk (And.intro HCY.out.1 (Kd.C_below (Kd.C_drew HCY.out.2) hb)); have n3_ := Aside0.mk (And.intro ((hb.cell (show ad.block < _ from HK0.out.2)).trans (show _ = _ from HK0.out.1)) (Nat.lt_of_lt_of_le HK0.out.2 hb.size)); clear HX HB HCY HK0 hS hb hr; have HX := n0_; have HB := n1_; have HCY := n2_; have HK0 := n3_; clear n0_ n1_ n2_ n3_)))
  all_goals (rename_i hHeld; clear hHeld hl0)
  go_wp2_with (first | ((with_reducible refine gate_store (t := 41) rfl ?_); refine wpList_store_block rfl 41 _ _ rfl _ _ (by rfl) (by rfl) 41 _ HX.out (by kernel_rfl) (by rfl) (by simp [Value.oneCell']) ?_; go_simp))
  all_goals (try simp only [Exit.inBlock, Exit.then])
  all_goals refine bodyPost_ret (results_cell_tmp_row (p := 2) (ty := 41) rfl _ _ (w.heap.size) 41 _ (0, 0) _ (by rfl) (setBlock_at HX.out) Try.underlying41 rfl (by kernel_rfl)) rfl ?_
  all_goals exact ⟨rfl, below_setBlock (by repeat (first | (with_reducible first | exact HB.out | apply below_alloc | apply pw_below_drewN | apply below_drew1) | exact HB.out)) (Nat.le_refl _) _⟩
set_option maxHeartbeats 16000000 in
set_option maxRecDepth 100000 in
theorem get_form (s : ByteArray) (kg : Nat) (k : Int) (t : List Int) (w : World) (hg : PIntentPuts.code_Get.f kg s = some (k :: t, 0)) (hk : kindOk k = true) (hlen : t.length ≠ (rangesOf k).length) : Calls Try.prog 24 #[.string s] w fun e w' => e = .returned (.tuple #[recVal 0 zB, .int .i64 4]) ∧ Below w.heap.size w w' := by
  obtain ⟨y, hy⟩ : ∃ q : List Int, q = k :: t := ⟨_, rfl⟩
  obtain ⟨re, hre⟩ : ∃ q : Int, q = 0 := ⟨_, rfl⟩
  have HG : Aside0 (PIntentPuts.code_Get.f kg s = some (y, re)) := ⟨by rw [hy, hre]; exact hg⟩
  obtain ⟨ny, hny⟩ : ∃ q : Nat, q = y.length := ⟨_, rfl⟩
  have hy0 : (0 : Int) < (ny : Int) := by rw [hny, hy]; simp only [List.length_cons]; omega
  have hyn : ¬ ((ny : Int) = 0) := by omega
  have hyn2 : ¬ (ny = 0) := by omega
  have hy0n : 0 < ny := by omega
  have hyb : ((ny : Int) == 0) = false := by simp; omega
  have HNY := Aside0.mk hny
  have Ny := Aside0.mk hy
  have HK := Aside0.mk hk
  clear hg hy hk hny
  obtain ⟨nr, hnr⟩ : ∃ q : Nat, q = (rangesOf k).length := ⟨_, rfl⟩
  have hrl : nr ≤ 12 := by rw [hnr]; exact ranges_le k
  have hw : IntKind.i64.wrap ((nr : Int) + 1) = (nr : Int) + 1 := by rw [IntKind.wrap_i64]; omega
  have hne : ¬ ((ny : Int) = (nr : Int) + 1) := by rw [HNY.out, Ny.out, hnr]; simp only [List.length_cons]; omega
  have hneb : ((ny : Int) == (nr : Int) + 1) = false := by simpa using hne
  have HNR := Aside0.mk hnr
  clear hnr hrl hlen
  have HX := Aside0.mk (Boxed.new 0 zB w)
  have HB := Aside0.mk (below_alloc (Below.refl w.heap.size w) (.cells (recCells 0 zB) 41))
  go_enter Try.func24, Try.ntmps24
  go_wp2_with (first | (go_at_call 18; ((with_reducible refine (PIntentPuts.code_Get.calls kg s y re _ HG.out).mono ?_); rintro e w1 ⟨v0, rfl, ho, hb⟩; have HO := Aside0.mk ho; have n0_ := Aside0.mk (HX.out.below hb); have n1_ := Aside0.mk (below_step HB.out hb); clear HX HB hb ho; have HX := n0_; have HB := n1_; clear n0_ n1_; obtain ⟨Ao, co, eo⟩ := Kd.R_slice HO.out; subst eo; rw [← HNY.out]; have hR := Kd.R_reads' HO.out; have hC1 : Kd.C (Kd.int .i64) w1 Ao y.length (k :: t) := (by have h := hR.2.2; rw [Ny.out] at h ⊢; exact h); obtain ⟨ad, eA, hk0, hlt⟩ := int_at0 hC1; subst eA; have HCY := Aside0.mk (And.intro hR.2.1 hR.2.2); have HK0 := Aside0.mk (And.intro hk0 hlt); clear hR hC1 hk0 hlt HO)) | ((with_reducible refine gate_store (t := 41) rfl ?_); refine wpList_store_block rfl 41 _ _ rfl _ _ (by rfl) (by rfl) 41 _ HX.out (by kernel_rfl) (by rfl) (by simp [Value.oneCell']) ?_; go_simp))
  go_region_held3 (fun W => W.cell? ad = some (.int .i64 k)) (first | exact HK0.out.1)
    (first | (go_at_call 27; ((with_reducible refine (spans_calls _).mono ?_); rintro e w2 ⟨r, rfl, hb, hr, hS⟩; obtain ⟨Ar, hl, hC⟩ := look_ok hS HK.out; have hl0 := hl w2 rfl; rw [← HNR.out] at hl0; have HC := Aside0.mk hC; clear hl hC; have n0_ := Aside0.mk (HX.out.drew.below hb); have n1_ := Aside0.mk (below_step (below_drew1 HB.out) hb); have n2_ := Aside0.mk (And.intro HCY.out.1 (Kd.C_below (Kd.C_drew HCY.out.2) hb)); have n3_ := Aside0.mk (And.intro ((hb.cell (show ad.block < _ from HK0.out.2)).trans (show _ = _ from HK0.out.1)) (Nat.lt_of_lt_of_le HK0.out.2 hb.size)); clear HX HB HCY HK0 hS hb hr; have HX := n0_; have HB := n1_; have HCY := n2_; have HK0 := n3_; clear n0_ n1_ n2_ n3_)))
  all_goals (rename_i hHeld; clear hHeld hl0)
  go_wp2_with (first | ((with_reducible refine gate_store (t := 41) rfl ?_); refine wpList_store_block rfl 41 _ _ rfl _ _ (by rfl) (by rfl) 41 _ HX.out (by kernel_rfl) (by rfl) (by simp [Value.oneCell']) ?_; go_simp))
  all_goals (try simp only [Exit.inBlock, Exit.then])
  all_goals refine bodyPost_ret (results_cell_tmp_row (p := 2) (ty := 41) rfl _ _ (w.heap.size) 41 _ (0, 0) _ (by rfl) (setBlock_at HX.out) Try.underlying41 rfl (by kernel_rfl)) rfl ?_
  all_goals exact ⟨rfl, below_setBlock (by repeat (first | (with_reducible first | exact HB.out | apply below_alloc | apply pw_below_drewN | apply below_drew1) | exact HB.out)) (Nat.le_refl _) _⟩
set_option maxHeartbeats 16000000 in
set_option maxRecDepth 100000 in
theorem get_range (s : ByteArray) (kg : Nat) (k : Int) (t : List Int) (kc : Nat) (w : World) (hg : PIntentPuts.code_Get.f kg s = some (k :: t, 0)) (hk : kindOk k = true) (hlen : t.length = (rangesOf k).length) (hch : PIntentPuts.intent_check.f kc t (rangesOf k) = some 1) : Calls Try.prog 24 #[.string s] w fun e w' => e = .returned (.tuple #[recVal 0 zB, .int .i64 1]) ∧ Below w.heap.size w w' := by
  obtain ⟨y, hy⟩ : ∃ q : List Int, q = k :: t := ⟨_, rfl⟩
  obtain ⟨re, hre⟩ : ∃ q : Int, q = 0 := ⟨_, rfl⟩
  have HG : Aside0 (PIntentPuts.code_Get.f kg s = some (y, re)) := ⟨by rw [hy, hre]; exact hg⟩
  obtain ⟨nr, hnr⟩ : ∃ q : Nat, q = (rangesOf k).length := ⟨_, rfl⟩
  have HNY : Aside0 (nr + 1 = y.length) := ⟨by rw [hnr, hy, List.length_cons, hlen]⟩
  have hrl : nr ≤ 12 := by rw [hnr]; exact ranges_le k
  have hw : IntKind.i64.wrap ((nr : Int) + 1) = (nr : Int) + 1 := by rw [IntKind.wrap_i64]; omega
  have hy0 : (0 : Int) < (nr : Int) + 1 := by omega
  have hyn : ¬ ((nr : Int) + 1 = 0) := by omega
  have hyb : ((nr : Int) + 1 == 0) = false := by simp; omega
  have h1n : (1 : Int) ≤ (nr : Int) + 1 := by omega
  have Ny := Aside0.mk hy
  have HK := Aside0.mk hk
  have HNR := Aside0.mk hnr
  have HT := Aside0.mk (hnr.trans hlen.symm)
  clear hg hy hk hnr hrl hlen
  obtain ⟨rc, hrc⟩ : ∃ q : Int, q = 1 := ⟨_, rfl⟩
  have HCH : Aside0 (PIntentPuts.intent_check.f kc t (rangesOf k) = some rc) := ⟨by rw [hrc]; exact hch⟩
  clear hch
  have HX := Aside0.mk (Boxed.new 0 zB w)
  have HB := Aside0.mk (below_alloc (Below.refl w.heap.size w) (.cells (recCells 0 zB) 41))
  go_enter Try.func24, Try.ntmps24
  go_wp2_with (first | (go_at_call 18; ((with_reducible refine (PIntentPuts.code_Get.calls kg s y re _ HG.out).mono ?_); rintro e w1 ⟨v0, rfl, ho, hb⟩; have HO := Aside0.mk ho; have n0_ := Aside0.mk (HX.out.below hb); have n1_ := Aside0.mk (below_step HB.out hb); clear HX HB hb ho; have HX := n0_; have HB := n1_; clear n0_ n1_; obtain ⟨Ao, co, eo⟩ := Kd.R_slice HO.out; subst eo; rw [← HNY.out]; have hR := Kd.R_reads' HO.out; have hC1 : Kd.C (Kd.int .i64) w1 Ao y.length (k :: t) := (by have h := hR.2.2; rw [Ny.out] at h ⊢; exact h); obtain ⟨ad, eA, hk0, hlt⟩ := int_at0 hC1; subst eA; have HCY := Aside0.mk (And.intro hR.2.1 hR.2.2); have HK0 := Aside0.mk (And.intro hk0 hlt); clear hR hC1 hk0 hlt HO)) | ((with_reducible refine gate_store (t := 41) rfl ?_); refine wpList_store_block rfl 41 _ _ rfl _ _ (by rfl) (by rfl) 41 _ HX.out (by kernel_rfl) (by rfl) (by simp [Value.oneCell']) ?_; go_simp))
  go_region_held3 (fun W => W.cell? ad = some (.int .i64 k)) (first | exact HK0.out.1)
    (first | (go_at_call 27; ((with_reducible refine (spans_calls _).mono ?_); rintro e w2 ⟨r, rfl, hb, hr, hS⟩; obtain ⟨Ar, hl, hC⟩ := look_ok hS HK.out; have hl0 := hl w2 rfl; rw [← HNR.out] at hl0; have HC := Aside0.mk hC; clear hl hC; have n0_ := Aside0.mk (HX.out.drew.below hb); have n1_ := Aside0.mk (below_step (below_drew1 HB.out) hb); have n2_ := Aside0.mk (And.intro HCY.out.1 (Kd.C_below (Kd.C_drew HCY.out.2) hb)); have n3_ := Aside0.mk (And.intro ((hb.cell (show ad.block < _ from HK0.out.2)).trans (show _ = _ from HK0.out.1)) (Nat.lt_of_lt_of_le HK0.out.2 hb.size)); clear HX HB HCY HK0 hS hb hr; have HX := n0_; have HB := n1_; have HCY := n2_; have HK0 := n3_; clear n0_ n1_ n2_ n3_)))
  all_goals (rename_i hHeld; clear hHeld hl0)
  have HCT := Aside0.mk (C_tail (k := k) (t := t) (by have h := HCY.out.2; rw [Ny.out] at h; exact h) HT.out)
  go_wp2_with (first | (go_at_call 30; ((with_reducible refine (check_calls kc _ nr _ t _ nr nr (rangesOf k) rc _ HT.out HNR.out ?side1 ?side2 ?side3 (Nat.le_refl _) HCH.out).mono ?_); (case side1 => first | exact HCT.out | exact C_zero HT.out (by have := HCY.out.1; have := HNY.out; omega)); (case side2 => have := HCY.out.1; have := HNY.out; omega); (case side3 => have h := HC.out; rw [← HNR.out] at h; exact h); rintro e w3 ⟨rfl, ⟨nd, rfl⟩⟩; have n0_ := Aside0.mk (show Boxed w.heap.size 0 zB (w2.drewN nd) from HX.out); have n1_ := Aside0.mk (pw_below_drewN HB.out nd); have n2_ := Aside0.mk (And.intro HCY.out.1 (Kd.C_drewN HCY.out.2 nd)); clear HX HB HCY; have HX := n0_; have HB := n1_; have HCY := n2_; clear n0_ n1_ n2_)) | ((with_reducible refine gate_store (t := 41) rfl ?_); refine wpList_store_block rfl 41 _ _ rfl _ _ (by rfl) (by rfl) 41 _ HX.out (by kernel_rfl) (by rfl) (by simp [Value.oneCell']) ?_; go_simp))
  all_goals (try simp only [Exit.inBlock, Exit.then])
  all_goals refine bodyPost_ret (results_cell_tmp_row (p := 2) (ty := 41) rfl _ _ (w.heap.size) 41 _ (0, 0) _ (by rfl) (setBlock_at HX.out) Try.underlying41 rfl (by kernel_rfl)) rfl ?_
  all_goals exact ⟨rfl, below_setBlock (by repeat (first | (with_reducible first | exact HB.out | apply below_alloc | apply pw_below_drewN | apply below_drew1) | exact HB.out)) (Nat.le_refl _) _⟩
end Go.Proofs.Ytaogmfchpcdboaa
