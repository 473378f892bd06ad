/- intent.Put: what it answers, case by case. No condition. -/
import Derived.Test.YtaogmfchpcdboaaLook
import Derived.Deep.DeepCutAuto
namespace Go.Proofs.Ytaogmfchpcdboaa
open Go.RowKit Go.Proofs.YtaogmfchpcdboaaW.PrintWords
set_option linter.unusedSimpArgs false
set_option linter.unusedVariables false

theorem fields_len (k : Int) (b : Bd) : (fieldsOf k b).length = (rangesOf k).length := by
  unfold fieldsOf rangesOf
  split
  · rfl
  split
  · rfl
  split
  · rfl
  split
  · rfl
  split
  · rfl
  rfl
theorem ranges_le (k : Int) : (rangesOf k).length ≤ 12 := by
  unfold rangesOf
  split
  · decide
  split
  · decide
  split
  · decide
  split
  · decide
  split
  · decide
  decide
/-- A load of a record as the walk is to meet it: in one piece. -/
noncomputable def loadStep (v : Value) : Sem Next := do pure (.value (← Instr.loadAt 41 v))
theorem load_one (ρ : Operand → Value) (dst : Option Tmp) (x : Operand) (ty : TypeId) (pos : String) (after : Array Edge) (guard : Option (Nat × Bool)) :
    execOp ρ { dst, op := .load 41 x, type := ty, pos, after, guard } = loadStep (ρ x) := rfl
theorem info41 : (Try.prog.info? 41).map (·.size) = some 19 := by kernel_rfl
theorem Boxed.load {s : Nat} {k : Int} {b : Bd} {W : World} (h : Boxed s k b W) : (loadStep (.pointer (some ⟨s, 0, none⟩))).run Try.prog W = .ok (.value (recVal k b)) W := by
  unfold loadStep
  simp only [Instr.loadAt, Instr.sureAddr, Sem.run_bind, Sem.run_pure, Result.andThen_ok, run_loadVar_row (P := Try.prog) W s 41 41 (recCells k b) (0, 0) _ h Try.underlying41 rfl info41]
  rfl
attribute [local go_sem ↓] load_one
attribute [local go_sem] Value.cells
set_option maxHeartbeats 16000000 in
set_option maxRecDepth 100000 in
theorem put_bad (k : Int) (b : Bd) (w : World) (hk : kindOk k = false) : Calls Try.prog 21 #[recVal k b] w fun e w' => e = .returned (.tuple #[.string ⟨#[]⟩, .int .i64 6]) ∧ Below w.heap.size w w' := by
  have HK := Aside0.mk hk
  clear hk
  have HX := Aside0.mk (Boxed.new k b w).drew
  have HB := Aside0.mk (below_drew1 (below_alloc (Below.refl w.heap.size w) (.cells (recCells k b) 41)))
  unfold recVal
  go_enter Try.func21, Try.ntmps21
  go_upto_region 1 with (fail)
  go_region_held3 (fun W => W.cell? ⟨w.heap.size, 0, none⟩ = some (.int .i64 k)) (first | exact HX.out.kind)
    (first | (go_at_call 27; ((with_reducible refine (spans_calls _).mono ?_); rintro e w1 ⟨r, rfl, hb, hr, hS⟩; have hl0 := look_bad hS HK.out w1 rfl; have n0_ := Aside0.mk (HX.out.below hb); have n1_ := Aside0.mk (below_step HB.out hb); clear HX HB hS hb hr; have HX := n0_; have HB := n1_; clear n0_ n1_)))
  all_goals (rename_i hHeld; clear hHeld hl0)
  go_wp2
  go_ret2
  exact ⟨rfl, HB.out⟩
set_option maxHeartbeats 16000000 in
set_option maxRecDepth 100000 in
theorem put_form (k : Int) (b B : Bd) (w : World) (hk : kindOk k = true) (hB : bodyOf k (fieldsOf k b) = B) (he : recEq k B k b = false) : Calls Try.prog 21 #[recVal k b] w fun e w' => e = .returned (.tuple #[.string ⟨#[]⟩, .int .i64 4]) ∧ Below w.heap.size w w' := by
  have HK := Aside0.mk hk
  clear hk
  have HX := Aside0.mk (Boxed.new k b w).drew
  have HB := Aside0.mk (below_drew1 (below_alloc (Below.refl w.heap.size w) (.cells (recCells k b) 41)))
  have hq : ∀ W, (binOp .neq 41 (recVal k B) (recVal k b)).run Try.prog W = .ok (.bool true) W := fun W => by rw [neq41, he]; rfl
  have HBB := Aside0.mk hB
  clear hB he
  unfold recVal at hq ⊢
  go_enter Try.func21, Try.ntmps21
  go_upto_region 1 with (fail)
  go_region_held3 (fun W => W.cell? ⟨w.heap.size, 0, none⟩ = some (.int .i64 k)) (first | exact HX.out.kind)
    (first | (go_at_call 27; ((with_reducible refine (spans_calls _).mono ?_); rintro e w1 ⟨r, rfl, hb, hr, hS⟩; obtain ⟨Ar, hl, hC⟩ := look_ok hS HK.out; have hl0 := hl w1 rfl; have HC := Aside0.mk hC; have n0_ := Aside0.mk (HX.out.below hb); have n1_ := Aside0.mk (below_step HB.out hb); clear HX HB hS hb hr hl hC; have HX := n0_; have HB := n1_; clear n0_ n1_)))
  all_goals (rename_i hHeld; clear hHeld hl0)
  go_wp2_with (first | ((with_reducible refine gate_load (t := 41) rfl ?_); refine wpList_load_row rfl 41 _ rfl _ (by rfl) 41 _ (0, 0) _ HX.out Try.underlying41 rfl (by kernel_rfl) ?_; simp only [recCells, recVal, Value.cells]; go_simp) | (go_at_call 28; (refine (fields_calls k b _).mono ?_; rintro e w2 ⟨Af, nf, cf, rfl, rfl, hcf, hCf, hb⟩; have HCF := Aside0.mk (And.intro hcf hCf); have n0_ := Aside0.mk (HX.out.below hb); have n1_ := Aside0.mk (below_step HB.out hb); have n2_ := Aside0.mk (Kd.C_below HC.out hb); clear HX HB HC hb hcf hCf; have HX := n0_; have HB := n1_; have HC := n2_; clear n0_ n1_ n2_)))
  go_region_held3 (fun W => W.cell? ⟨w.heap.size, 0, none⟩ = some (.int .i64 k) ∧ (loadStep (.pointer (some ⟨w.heap.size, 0, none⟩))).run Try.prog W = .ok (.value (.agg #[.int .i64 k, .int .i64 b.rev, .int .i64 b.n, .int .i64 b.delay, .int .i64 b.gen, .int .i64 b.tick, .bool b.pass, .int .i64 b.phase, .int .i64 b.active, .int .i64 b.r0, .int .i64 b.r1, .int .i64 b.w0, .int .i64 b.w1, .bool b.p0, .bool b.p1, .int .i64 b.sdelay, .int .i64 b.sgen, .int .i64 b.sw, .int .i64 b.flip])) W) (first | exact ⟨HX.out.drew.kind, HX.out.drew.load⟩ | exact ⟨HX.out.kind, HX.out.load⟩)
    (first | (go_at_call 29; (refine (record_calls Af _ cf k (fieldsOf k b) _ (by repeat (first | exact HCF.out.2 | (with_reducible refine Kd.C_drew ?_))) HCF.out.1 (fields_len k b)).mono ?_; rintro e w3 ⟨rfl, hb⟩; rw [HBB.out]; unfold recVal; have n0_ := Aside0.mk (HX.out.drew.below hb); have n1_ := Aside0.mk (below_step (below_drew1 HB.out) hb); have n2_ := Aside0.mk (Kd.C_below (Kd.C_drew HC.out) hb); have n3_ := Aside0.mk (And.intro HCF.out.1 (Kd.C_below (Kd.C_drew HCF.out.2) hb)); clear HX HB HC HCF hb; have HX := n0_; have HB := n1_; have HC := n2_; have HCF := n3_; clear n0_ n1_ n2_ n3_)))
  all_goals (rename_i hHeld; clear hHeld hq)
  go_wp2
  go_ret2
  exact ⟨rfl, HB.out⟩
set_option maxHeartbeats 16000000 in
set_option maxRecDepth 100000 in
theorem put_range (k : Int) (b B : Bd) (kc : Nat) (w : World) (hk : kindOk k = true) (hB : bodyOf k (fieldsOf k b) = B) (he : recEq k B k b = true) (hch : PIntentPuts.intent_check.f kc (fieldsOf k b) (rangesOf k) = some 1) : Calls Try.prog 21 #[recVal k b] w fun e w' => e = .returned (.tuple #[.string ⟨#[]⟩, .int .i64 1]) ∧ Below w.heap.size w w' := by
  have HK := Aside0.mk hk
  clear hk
  have HX := Aside0.mk (Boxed.new k b w).drew
  have HB := Aside0.mk (below_drew1 (below_alloc (Below.refl w.heap.size w) (.cells (recCells k b) 41)))
  have hq : ∀ W, (binOp .neq 41 (recVal k B) (recVal k b)).run Try.prog W = .ok (.bool false) W := fun W => by rw [neq41, he]; rfl
  have HBB := Aside0.mk hB
  clear hB he
  obtain ⟨rc, hrc⟩ : ∃ q : Int, q = 1 := ⟨_, rfl⟩
  have HCH : Aside0 (PIntentPuts.intent_check.f kc (fieldsOf k b) (rangesOf k) = some rc) := ⟨by rw [hrc]; exact hch⟩
  clear hch
  unfold recVal at hq ⊢
  go_enter Try.func21, Try.ntmps21
  go_upto_region 1 with (fail)
  go_region_held3 (fun W => W.cell? ⟨w.heap.size, 0, none⟩ = some (.int .i64 k)) (first | exact HX.out.kind)
    (first | (go_at_call 27; ((with_reducible refine (spans_calls _).mono ?_); rintro e w1 ⟨r, rfl, hb, hr, hS⟩; obtain ⟨Ar, hl, hC⟩ := look_ok hS HK.out; have hl0 := hl w1 rfl; have HC := Aside0.mk hC; have n0_ := Aside0.mk (HX.out.below hb); have n1_ := Aside0.mk (below_step HB.out hb); clear HX HB hS hb hr hl hC; have HX := n0_; have HB := n1_; clear n0_ n1_)))
  all_goals (rename_i hHeld; clear hHeld hl0)
  go_wp2_with (first | ((with_reducible refine gate_load (t := 41) rfl ?_); refine wpList_load_row rfl 41 _ rfl _ (by rfl) 41 _ (0, 0) _ HX.out Try.underlying41 rfl (by kernel_rfl) ?_; simp only [recCells, recVal, Value.cells]; go_simp) | (go_at_call 28; (refine (fields_calls k b _).mono ?_; rintro e w2 ⟨Af, nf, cf, rfl, rfl, hcf, hCf, hb⟩; have HCF := Aside0.mk (And.intro hcf hCf); have n0_ := Aside0.mk (HX.out.below hb); have n1_ := Aside0.mk (below_step HB.out hb); have n2_ := Aside0.mk (Kd.C_below HC.out hb); clear HX HB HC hb hcf hCf; have HX := n0_; have HB := n1_; have HC := n2_; clear n0_ n1_ n2_)))
  go_region_held3 (fun W => W.cell? ⟨w.heap.size, 0, none⟩ = some (.int .i64 k) ∧ (loadStep (.pointer (some ⟨w.heap.size, 0, none⟩))).run Try.prog W = .ok (.value (.agg #[.int .i64 k, .int .i64 b.rev, .int .i64 b.n, .int .i64 b.delay, .int .i64 b.gen, .int .i64 b.tick, .bool b.pass, .int .i64 b.phase, .int .i64 b.active, .int .i64 b.r0, .int .i64 b.r1, .int .i64 b.w0, .int .i64 b.w1, .bool b.p0, .bool b.p1, .int .i64 b.sdelay, .int .i64 b.sgen, .int .i64 b.sw, .int .i64 b.flip])) W) (first | exact ⟨HX.out.drew.kind, HX.out.drew.load⟩ | exact ⟨HX.out.kind, HX.out.load⟩)
    (first | (go_at_call 29; (refine (record_calls Af _ cf k (fieldsOf k b) _ (by repeat (first | exact HCF.out.2 | (with_reducible refine Kd.C_drew ?_))) HCF.out.1 (fields_len k b)).mono ?_; rintro e w3 ⟨rfl, hb⟩; rw [HBB.out]; unfold recVal; have n0_ := Aside0.mk (HX.out.drew.below hb); have n1_ := Aside0.mk (below_step (below_drew1 HB.out) hb); have n2_ := Aside0.mk (Kd.C_below (Kd.C_drew HC.out) hb); have n3_ := Aside0.mk (And.intro HCF.out.1 (Kd.C_below (Kd.C_drew HCF.out.2) hb)); clear HX HB HC HCF hb; have HX := n0_; have HB := n1_; have HC := n2_; have HCF := n3_; clear n0_ n1_ n2_ n3_)))
  all_goals (rename_i hHeld; clear hHeld hq)
  go_wp2_with (first | (go_at_call 30; ((with_reducible refine (PIntentPuts.intent_check.calls kc Af cf (fieldsOf k b) Ar (rangesOf k).length (rangesOf k) rc _ ?side1 HCF.out.1 ?side2 (Nat.le_refl _) HCH.out).mono ?_); (case side1 => exact HCF.out.2); (case side2 => exact HC.out); rintro e w4 ⟨rfl, ⟨nd, rfl⟩⟩)))
  subst hrc
  go_wp2
  go_ret2
  exact ⟨rfl, (by repeat (first | (with_reducible first | exact HB.out | apply below_alloc | apply pw_below_drewN | apply below_drew1) | exact HB.out))⟩
set_option maxHeartbeats 16000000 in
set_option maxRecDepth 100000 in
theorem put_good (k : Int) (b B : Bd) (kc kp : Nat) (r1 : ByteArray) (r2 : Bool) (w : World) (hk : kindOk k = true) (hB : bodyOf k (fieldsOf k b) = B) (he : recEq k B k b = true) (hch : PIntentPuts.intent_check.f kc (fieldsOf k b) (rangesOf k) = some 0) (hcp : PIntentPuts.code_Put.f kp (k :: fieldsOf k b) = some (r1, r2)) : Calls Try.prog 21 #[recVal k b] w fun e w' => e = .returned (.tuple #[.string r1, .int .i64 0]) ∧ Below w.heap.size w w' := by
  have HK := Aside0.mk hk
  clear hk
  have HX := Aside0.mk (Boxed.new k b w).drew
  have HB := Aside0.mk (below_drew1 (below_alloc (Below.refl w.heap.size w) (.cells (recCells k b) 41)))
  have hq : ∀ W, (binOp .neq 41 (recVal k B) (recVal k b)).run Try.prog W = .ok (.bool false) W := fun W => by rw [neq41, he]; rfl
  have HBB := Aside0.mk hB
  clear hB he
  obtain ⟨rc, hrc⟩ : ∃ q : Int, q = 0 := ⟨_, rfl⟩
  have HCH : Aside0 (PIntentPuts.intent_check.f kc (fieldsOf k b) (rangesOf k) = some rc) := ⟨by rw [hrc]; exact hch⟩
  clear hch
  obtain ⟨y1, hy1⟩ : ∃ y : List Int, y = [k] := ⟨_, rfl⟩
  obtain ⟨y2, hy2⟩ : ∃ y : List Int, y = y1 ++ fieldsOf k b := ⟨_, rfl⟩
  have HCP : Aside0 (PIntentPuts.code_Put.f kp y2 = some (r1, r2)) := ⟨by rw [hy2, hy1]; exact hcp⟩
  have LM : Aside0 (y1.length + (fieldsOf k b).length < 1000) := ⟨by rw [hy1, fields_len]; have := ranges_le k; simp; omega⟩
  have Ny1 := Aside0.mk hy1
  have Ny2 := Aside0.mk hy2
  clear hcp hy1 hy2
  unfold recVal at hq ⊢
  go_enter Try.func21, Try.ntmps21
  go_upto_region 1 with (fail)
  go_region_held3 (fun W => W.cell? ⟨w.heap.size, 0, none⟩ = some (.int .i64 k)) (first | exact HX.out.kind)
    (first | (go_at_call 27; ((with_reducible refine (spans_calls _).mono ?_); rintro e w1 ⟨r, rfl, hb, hr, hS⟩; obtain ⟨Ar, hl, hC⟩ := look_ok hS HK.out; have hl0 := hl w1 rfl; have HC := Aside0.mk hC; have n0_ := Aside0.mk (HX.out.below hb); have n1_ := Aside0.mk (below_step HB.out hb); clear HX HB hS hb hr hl hC; have HX := n0_; have HB := n1_; clear n0_ n1_)))
  all_goals (rename_i hHeld; clear hHeld hl0)
  go_wp2_with (first | ((with_reducible refine gate_load (t := 41) rfl ?_); refine wpList_load_row rfl 41 _ rfl _ (by rfl) 41 _ (0, 0) _ HX.out Try.underlying41 rfl (by kernel_rfl) ?_; simp only [recCells, recVal, Value.cells]; go_simp) | (go_at_call 28; (refine (fields_calls k b _).mono ?_; rintro e w2 ⟨Af, nf, cf, rfl, rfl, hcf, hCf, hb⟩; have HCF := Aside0.mk (And.intro hcf hCf); have n0_ := Aside0.mk (HX.out.below hb); have n1_ := Aside0.mk (below_step HB.out hb); have n2_ := Aside0.mk (Kd.C_below HC.out hb); clear HX HB HC hb hcf hCf; have HX := n0_; have HB := n1_; have HC := n2_; clear n0_ n1_ n2_)))
  go_region_held3 (fun W => W.cell? ⟨w.heap.size, 0, none⟩ = some (.int .i64 k) ∧ (loadStep (.pointer (some ⟨w.heap.size, 0, none⟩))).run Try.prog W = .ok (.value (.agg #[.int .i64 k, .int .i64 b.rev, .int .i64 b.n, .int .i64 b.delay, .int .i64 b.gen, .int .i64 b.tick, .bool b.pass, .int .i64 b.phase, .int .i64 b.active, .int .i64 b.r0, .int .i64 b.r1, .int .i64 b.w0, .int .i64 b.w1, .bool b.p0, .bool b.p1, .int .i64 b.sdelay, .int .i64 b.sgen, .int .i64 b.sw, .int .i64 b.flip])) W) (first | exact ⟨HX.out.drew.kind, HX.out.drew.load⟩ | exact ⟨HX.out.kind, HX.out.load⟩)
    (first | (go_at_call 29; (refine (record_calls Af _ cf k (fieldsOf k b) _ (by repeat (first | exact HCF.out.2 | (with_reducible refine Kd.C_drew ?_))) HCF.out.1 (fields_len k b)).mono ?_; rintro e w3 ⟨rfl, hb⟩; rw [HBB.out]; unfold recVal; have n0_ := Aside0.mk (HX.out.drew.below hb); have n1_ := Aside0.mk (below_step (below_drew1 HB.out) hb); have n2_ := Aside0.mk (Kd.C_below (Kd.C_drew HC.out) hb); have n3_ := Aside0.mk (And.intro HCF.out.1 (Kd.C_below (Kd.C_drew HCF.out.2) hb)); clear HX HB HC HCF hb; have HX := n0_; have HB := n1_; have HC := n2_; have HCF := n3_; clear n0_ n1_ n2_ n3_)))
  all_goals (rename_i hHeld; clear hHeld hq)
  have hk3 : ∀ m, (w3.drewN m).cell? ⟨w.heap.size, 0, none⟩ = some (.int .i64 k) := fun m => Boxed.kind (b := b) (show Boxed w.heap.size k b (w3.drewN m) from HX.out)
  go_wp2_with (first | (go_at_call 30; ((with_reducible refine (PIntentPuts.intent_check.calls kc Af cf (fieldsOf k b) Ar (rangesOf k).length (rangesOf k) rc _ ?side1 HCF.out.1 ?side2 (Nat.le_refl _) HCH.out).mono ?_); (case side1 => exact HCF.out.2); (case side2 => exact HC.out); rintro e w4 ⟨rfl, ⟨nd, rfl⟩⟩)) | ((with_reducible refine gate_dst (N := 36) rfl ?_); refine Kd.R_lit (Kd.int .i64) _ 3 ?hg (N := 36) ?hd (xs := ([k] : List Int)) (inner := [.int .i64 k]) (ok := fun _ => True) (okp := fun _ => True) ?hr ?hp (fun _ hk => hk) trivial (Below.refl _ _) (Nat.le_refl _) (by simp) ?_; (case hd => rfl); (case hg => rfl); (case hr => first | (go_simp; done) | (go_simp; rfl)); (case hp => exact (Reps.one (show Kd.M (Kd.int .i64) _ _ _ k [.int .i64 k] from rfl) (Reps.none _ _))); intro v142 w18 ho19 hb hg_ hnew_; clear hg_ hnew_; rw [← Ny1.out] at ho19; have n0_ := Aside0.mk (Kd.R_lower ho19 (below_size (by repeat (first | (with_reducible first | exact HB.out | apply below_alloc | apply pw_below_drewN | apply below_drew1) | exact HB.out)))); have n1_ := Aside0.mk (below_step (by repeat (first | (with_reducible first | exact HB.out | apply below_alloc | apply pw_below_drewN | apply below_drew1) | exact HB.out)) hb); have n2_ := Aside0.mk (And.intro HCF.out.1 (Kd.C_below (by repeat (first | exact HCF.out.2 | (with_reducible refine Kd.C_drewN ?_ _) | (with_reducible refine Kd.C_drew ?_))) hb)); clear HB HCF; have HO143 := n0_; have HB := n1_; have HCF := n2_; clear n0_ n1_ n2_; clear hb ho19) | ((with_reducible refine gate_builtin (b := .append) (xs := #[.tmp 36, .tmp 37]) rfl ?_); at_builtin; refine Kd.R_append_rows (Kd.int .i64) (w0 := w) w.heap.size rfl (.tmp 36) (.tmp 37) 22 3 (.int .i64 0) 8 rfl Try.underlying22 PIntentPuts.info3 rfl (by decide) (by omega) v142 y1 (fieldsOf k b) _ _ _ (fun _ => True) (fun _ => False) rfl rfl ?aO ?aR (fun _ _ h => h) (fun _ h => h.elim) ?aF ?aB ?aS ?aL ?_; (case aR => exact HCF.out.2); (case aB => exact (by repeat (first | (with_reducible first | exact HB.out | apply below_alloc | apply pw_below_drewN | apply below_drew1) | exact HB.out))); (case aF => exact (fun _ _ => trivial)); (case aO => exact (by (with_reducible repeat (first | apply Kd.R_alloc | apply Kd.R_drewN | apply Kd.R_drew)); exact HO143.out)); (case aS => exact (below_size (by repeat (first | (with_reducible first | exact HB.out | apply below_alloc | apply pw_below_drewN | apply below_drew1) | exact HB.out)))); (case aL => have := LM.out; omega); intro v145 w20 ho hb hg hat; rw [← Ny2.out] at ho; have n0_ := Aside0.mk (hb); have n1_ := Aside0.mk (ho); clear HB; clear HO143; have HB := n0_; have HO146 := n1_; clear n0_ n1_; clear ho hb hg hat; obtain ⟨Ao21, co21, eo21⟩ := Kd.R_slice HO146.out; subst eo21) | (go_at_call 16; ((with_reducible refine (PIntentPuts.code_Put.calls kp _ _ y2 r1 r2 _ ?side1 ?side2 HCP.out).mono ?_); (case side1 => exact (Kd.R_reads' HO146.out).2.2); (case side2 => exact (Kd.R_reads' HO146.out).2.1); rintro e w22 ⟨rfl, hb⟩; have n1_ := Aside0.mk (below_step (by repeat (first | (with_reducible first | exact HB.out | apply below_alloc | apply pw_below_drewN | apply below_drew1) | exact HB.out)) hb); clear HB; have HB := n1_; clear n1_ hb)))
  go_ret2
  exact ⟨rfl, (by repeat (first | (with_reducible first | exact HB.out | apply below_alloc | apply pw_below_drewN | apply below_drew1) | exact HB.out))⟩
end Go.Proofs.Ytaogmfchpcdboaa
