/- The reference's Put: what it answers, case by case. No condition. -/
import Derived.Test.YtaogmfchpcdboaaPut
import Derived.Test.YtaogmfchpcdboaaClean
import Derived.Test.YtaogmfchpcdboaaPIntentPutsx2
namespace Go.Proofs.Ytaogmfchpcdboaa
open Go.RowKit Go.Proofs.YtaogmfchpcdboaaW.PrintWords
set_option linter.unusedSimpArgs false
set_option linter.unusedVariables false
set_option maxHeartbeats 16000000 in
set_option maxRecDepth 100000 in
theorem rput_bad (k : Int) (b : Bd) (km : Nat) (mr : List Int) (w : World) (hm : PIntentPuts.switchbackref09_Most.f km k = some (mr, false)) : Calls Try.prog 22 #[recVal k b] w fun e w' => e = .returned (.tuple #[.string ⟨#[]⟩, .int .i64 6]) ∧ Below w.heap.size w w' := by
  obtain ⟨mok, hmok⟩ : ∃ q : Bool, q = false := ⟨_, rfl⟩
  have HM : Aside0 (PIntentPuts.switchbackref09_Most.f km k = some (mr, mok)) := ⟨by rw [hmok]; exact hm⟩
  clear hm
  have HX := Aside0.mk (Boxed.new k b w)
  have HB := Aside0.mk (below_alloc (Below.refl w.heap.size w) (.cells (recCells k b) 41))
  unfold recVal
  go_enter Try.func22, Try.ntmps22
  go_wp2_with (first | (go_at_call 31; ((with_reducible refine (PIntentPuts.switchbackref09_Most.calls km k mr mok _ HM.out).mono ?_); rintro e w1 ⟨v0, rfl, ho, hb⟩; have n0_ := Aside0.mk (HX.out.below hb); have n1_ := Aside0.mk (below_step HB.out hb); clear HX HB hb ho; have HX := n0_; have HB := n1_; clear n0_ n1_; have hk1 := HX.out.kind)) | ((with_reducible refine gate_load (t := 41) rfl ?_); refine wpList_load_row rfl 41 _ rfl _ (by rfl) 41 _ (0, 0) _ HX.out Try.underlying41 rfl (by kernel_rfl) ?_; simp only [recCells, recVal, Value.cells]; go_simp))
  go_ret2
  exact ⟨rfl, (by repeat (first | (with_reducible first | exact HB.out | apply below_alloc | apply pw_below_drewN | apply below_drew1) | exact HB.out))⟩
set_option maxHeartbeats 16000000 in
set_option maxRecDepth 100000 in
theorem rput_form (k : Int) (b : Bd) (km : Nat) (mr : List Int) (w : World) (hm : PIntentPuts.switchbackref09_Most.f km k = some (mr, true)) (hcl : cleanB k b = false) : Calls Try.prog 22 #[recVal k b] w fun e w' => e = .returned (.tuple #[.string ⟨#[]⟩, .int .i64 4]) ∧ Below w.heap.size w w' := by
  obtain ⟨mok, hmok⟩ : ∃ q : Bool, q = true := ⟨_, rfl⟩
  have HM : Aside0 (PIntentPuts.switchbackref09_Most.f km k = some (mr, mok)) := ⟨by rw [hmok]; exact hm⟩
  clear hm
  have HX := Aside0.mk (Boxed.new k b w)
  have HB := Aside0.mk (below_alloc (Below.refl w.heap.size w) (.cells (recCells k b) 41))
  unfold recVal
  go_enter Try.func22, Try.ntmps22
  go_wp2_with (first | (go_at_call 31; ((with_reducible refine (PIntentPuts.switchbackref09_Most.calls km k mr mok _ HM.out).mono ?_); rintro e w1 ⟨v0, rfl, ho, hb⟩; have n0_ := Aside0.mk (HX.out.below hb); have n1_ := Aside0.mk (below_step HB.out hb); clear HX HB hb ho; have HX := n0_; have HB := n1_; clear n0_ n1_; have hk1 := HX.out.kind)) | ((with_reducible refine gate_load (t := 41) rfl ?_); refine wpList_load_row rfl 41 _ rfl _ (by rfl) 41 _ (0, 0) _ HX.out Try.underlying41 rfl (by kernel_rfl) ?_; simp only [recCells, recVal, Value.cells]; go_simp) | (go_at_call 32; (refine (clean_calls k b _).mono ?_; rintro e w2 ⟨rfl, hb⟩; have n0_ := Aside0.mk (HX.out.below hb); have n1_ := Aside0.mk (below_step HB.out hb); clear HX HB hb; have HX := n0_; have HB := n1_; clear n0_ n1_; have hk2 := HX.out.kind)))
  go_ret2
  exact ⟨rfl, (by repeat (first | (with_reducible first | exact HB.out | apply below_alloc | apply pw_below_drewN | apply below_drew1) | exact HB.out))⟩
set_option maxHeartbeats 16000000 in
set_option maxRecDepth 100000 in
theorem rput_range (k : Int) (b : Bd) (km : Nat) (mr : List Int) (kw : Nat) (w : World) (hm : PIntentPuts.switchbackref09_Most.f km k = some (mr, true)) (hcl : cleanB k b = true) (hw : PIntentPuts.switchbackref09_within.f kw k (fieldsOf k b) = some false) : Calls Try.prog 22 #[recVal k b] w fun e w' => e = .returned (.tuple #[.string ⟨#[]⟩, .int .i64 1]) ∧ Below w.heap.size w w' := by
  obtain ⟨mok, hmok⟩ : ∃ q : Bool, q = true := ⟨_, rfl⟩
  have HM : Aside0 (PIntentPuts.switchbackref09_Most.f km k = some (mr, mok)) := ⟨by rw [hmok]; exact hm⟩
  clear hm
  obtain ⟨rw, hrw⟩ : ∃ q : Bool, q = false := ⟨_, rfl⟩
  have HW : Aside0 (PIntentPuts.switchbackref09_within.f kw k (fieldsOf k b) = some rw) := ⟨by rw [hrw]; exact hw⟩
  clear hw
  have HX := Aside0.mk (Boxed.new k b w)
  have HB := Aside0.mk (below_alloc (Below.refl w.heap.size w) (.cells (recCells k b) 41))
  unfold recVal
  go_enter Try.func22, Try.ntmps22
  go_wp2_with (first | (go_at_call 31; ((with_reducible refine (PIntentPuts.switchbackref09_Most.calls km k mr mok _ HM.out).mono ?_); rintro e w1 ⟨v0, rfl, ho, hb⟩; have n0_ := Aside0.mk (HX.out.below hb); have n1_ := Aside0.mk (below_step HB.out hb); clear HX HB hb ho; have HX := n0_; have HB := n1_; clear n0_ n1_; have hk1 := HX.out.kind)) | ((with_reducible refine gate_load (t := 41) rfl ?_); refine wpList_load_row rfl 41 _ rfl _ (by rfl) 41 _ (0, 0) _ HX.out Try.underlying41 rfl (by kernel_rfl) ?_; simp only [recCells, recVal, Value.cells]; go_simp) | (go_at_call 32; (refine (clean_calls k b _).mono ?_; rintro e w2 ⟨rfl, hb⟩; have n0_ := Aside0.mk (HX.out.below hb); have n1_ := Aside0.mk (below_step HB.out hb); clear HX HB hb; have HX := n0_; have HB := n1_; clear n0_ n1_; have hk2 := HX.out.kind)) | (go_at_call 33; (refine (rfields_calls k b _).mono ?_; rintro e w3 ⟨Af, nf, cf, rfl, rfl, hcf, hCf, hb⟩; have HCF := Aside0.mk (And.intro hcf hCf); have n0_ := Aside0.mk (HX.out.below hb); have n1_ := Aside0.mk (below_step HB.out hb); clear HX HB hb hcf hCf; have HX := n0_; have HB := n1_; clear n0_ n1_; have hk3 := HX.out.kind)) | (go_at_call 34; ((with_reducible refine (PIntentPuts.switchbackref09_within.calls kw k Af cf (fieldsOf k b) rw _ HCF.out.2 HCF.out.1 HW.out).mono ?_); rintro e w4 ⟨rfl, hb⟩; have n0_ := Aside0.mk (HX.out.below hb); have n1_ := Aside0.mk (below_step HB.out hb); have n2_ := Aside0.mk (And.intro HCF.out.1 (Kd.C_below HCF.out.2 hb)); clear HX HB HCF hb; have HX := n0_; have HB := n1_; have HCF := n2_; clear n0_ n1_ n2_; have hk4 := HX.out.kind)))
  go_ret2
  exact ⟨rfl, (by repeat (first | (with_reducible first | exact HB.out | apply below_alloc | apply pw_below_drewN | apply below_drew1) | exact HB.out))⟩
set_option maxHeartbeats 16000000 in
set_option maxRecDepth 100000 in
theorem rput_good (k : Int) (b : Bd) (km : Nat) (mr : List Int) (kw : Nat) (kp : Nat) (r1 : ByteArray) (r2 : Bool) (w : World) (hm : PIntentPuts.switchbackref09_Most.f km k = some (mr, true)) (hcl : cleanB k b = true) (hw : PIntentPuts.switchbackref09_within.f kw k (fieldsOf k b) = some true) (hcp : PIntentPuts.switchbackref08_Put.f kp (k :: fieldsOf k b) = some (r1, r2)) : Calls Try.prog 22 #[recVal k b] w fun e w' => e = .returned (.tuple #[.string r1, .int .i64 0]) ∧ Below w.heap.size w w' := by
  obtain ⟨mok, hmok⟩ : ∃ q : Bool, q = true := ⟨_, rfl⟩
  have HM : Aside0 (PIntentPuts.switchbackref09_Most.f km k = some (mr, mok)) := ⟨by rw [hmok]; exact hm⟩
  clear hm
  obtain ⟨rw, hrw⟩ : ∃ q : Bool, q = true := ⟨_, rfl⟩
  have HW : Aside0 (PIntentPuts.switchbackref09_within.f kw k (fieldsOf k b) = some rw) := ⟨by rw [hrw]; exact hw⟩
  clear hw
  obtain ⟨y1, hy1⟩ : ∃ y : List Int, y = [k] := ⟨_, rfl⟩
  obtain ⟨y2, hy2⟩ : ∃ y : List Int, y = y1 ++ fieldsOf k b := ⟨_, rfl⟩
  have HCP : Aside0 (PIntentPuts.switchbackref08_Put.f kp y2 = some (r1, r2)) := ⟨by rw [hy2, hy1]; exact hcp⟩
  have LM : Aside0 (y1.length + (fieldsOf k b).length < 1000) := ⟨by rw [hy1, fields_len]; have := ranges_le k; simp; omega⟩
  have Ny1 := Aside0.mk hy1
  have Ny2 := Aside0.mk hy2
  clear hcp hy1 hy2
  have HX := Aside0.mk (Boxed.new k b w)
  have HB := Aside0.mk (below_alloc (Below.refl w.heap.size w) (.cells (recCells k b) 41))
  unfold recVal
  go_enter Try.func22, Try.ntmps22
  go_wp2_with (first | (go_at_call 31; ((with_reducible refine (PIntentPuts.switchbackref09_Most.calls km k mr mok _ HM.out).mono ?_); rintro e w1 ⟨v0, rfl, ho, hb⟩; have n0_ := Aside0.mk (HX.out.below hb); have n1_ := Aside0.mk (below_step HB.out hb); clear HX HB hb ho; have HX := n0_; have HB := n1_; clear n0_ n1_; have hk1 := HX.out.kind)) | ((with_reducible refine gate_load (t := 41) rfl ?_); refine wpList_load_row rfl 41 _ rfl _ (by rfl) 41 _ (0, 0) _ HX.out Try.underlying41 rfl (by kernel_rfl) ?_; simp only [recCells, recVal, Value.cells]; go_simp) | (go_at_call 32; (refine (clean_calls k b _).mono ?_; rintro e w2 ⟨rfl, hb⟩; have n0_ := Aside0.mk (HX.out.below hb); have n1_ := Aside0.mk (below_step HB.out hb); clear HX HB hb; have HX := n0_; have HB := n1_; clear n0_ n1_; have hk2 := HX.out.kind)) | (go_at_call 33; (refine (rfields_calls k b _).mono ?_; rintro e w3 ⟨Af, nf, cf, rfl, rfl, hcf, hCf, hb⟩; have HCF := Aside0.mk (And.intro hcf hCf); have n0_ := Aside0.mk (HX.out.below hb); have n1_ := Aside0.mk (below_step HB.out hb); clear HX HB hb hcf hCf; have HX := n0_; have HB := n1_; clear n0_ n1_; have hk3 := HX.out.kind)) | (go_at_call 34; ((with_reducible refine (PIntentPuts.switchbackref09_within.calls kw k Af cf (fieldsOf k b) rw _ HCF.out.2 HCF.out.1 HW.out).mono ?_); rintro e w4 ⟨rfl, hb⟩; have n0_ := Aside0.mk (HX.out.below hb); have n1_ := Aside0.mk (below_step HB.out hb); have n2_ := Aside0.mk (And.intro HCF.out.1 (Kd.C_below HCF.out.2 hb)); clear HX HB HCF hb; have HX := n0_; have HB := n1_; have HCF := n2_; clear n0_ n1_ n2_; have hk4 := HX.out.kind)) | ((with_reducible refine gate_dst (N := 30) rfl ?_); refine Kd.R_lit (Kd.int .i64) _ 3 ?hg (N := 30) ?hd (xs := ([k] : List Int)) (inner := [.int .i64 k]) (ok := fun _ => True) (okp := fun _ => True) ?hr ?hp (fun _ hk => hk) trivial (Below.refl _ _) (Nat.le_refl _) (by simp) ?_; (case hd => rfl); (case hg => rfl); (case hr => first | (go_simp; done) | (go_simp; rfl)); (case hp => exact (Reps.one (show Kd.M (Kd.int .i64) _ _ _ k [.int .i64 k] from rfl) (Reps.none _ _))); intro v142 w18 ho19 hb hg_ hnew_; clear hg_ hnew_; rw [← Ny1.out] at ho19; have n0_ := Aside0.mk (Kd.R_lower ho19 (below_size (by repeat (first | (with_reducible first | exact HB.out | apply below_alloc | apply pw_below_drewN | apply below_drew1) | exact HB.out)))); have n1_ := Aside0.mk (below_step (by repeat (first | (with_reducible first | exact HB.out | apply below_alloc | apply pw_below_drewN | apply below_drew1) | exact HB.out)) hb); have n2_ := Aside0.mk (And.intro HCF.out.1 (Kd.C_below (by repeat (first | exact HCF.out.2 | (with_reducible refine Kd.C_drewN ?_ _) | (with_reducible refine Kd.C_drew ?_))) hb)); clear HB HCF; have HO143 := n0_; have HB := n1_; have HCF := n2_; clear n0_ n1_ n2_; clear hb ho19) | ((with_reducible refine gate_builtin (b := .append) (xs := #[.tmp 30, .tmp 31]) rfl ?_); at_builtin; refine Kd.R_append_rows (Kd.int .i64) (w0 := w) w.heap.size rfl (.tmp 30) (.tmp 31) 22 3 (.int .i64 0) 8 rfl Try.underlying22 PIntentPuts.info3 rfl (by decide) (by omega) v142 y1 (fieldsOf k b) _ _ _ (fun _ => True) (fun _ => False) rfl rfl ?aO ?aR (fun _ _ h => h) (fun _ h => h.elim) ?aF ?aB ?aS ?aL ?_; (case aR => exact HCF.out.2); (case aB => exact (by repeat (first | (with_reducible first | exact HB.out | apply below_alloc | apply pw_below_drewN | apply below_drew1) | exact HB.out))); (case aF => exact (fun _ _ => trivial)); (case aO => exact (by (with_reducible repeat (first | apply Kd.R_alloc | apply Kd.R_drewN | apply Kd.R_drew)); exact HO143.out)); (case aS => exact (below_size (by repeat (first | (with_reducible first | exact HB.out | apply below_alloc | apply pw_below_drewN | apply below_drew1) | exact HB.out)))); (case aL => have := LM.out; omega); intro v145 w20 ho hb hg hat; rw [← Ny2.out] at ho; have n0_ := Aside0.mk (hb); have n1_ := Aside0.mk (ho); clear HB; clear HO143; have HB := n0_; have HO146 := n1_; clear n0_ n1_; clear ho hb hg hat; obtain ⟨Ao21, co21, eo21⟩ := Kd.R_slice HO146.out; subst eo21) | (go_at_call 17; ((with_reducible refine (PIntentPuts.switchbackref08_Put.calls kp _ _ y2 r1 r2 _ ?side1 ?side2 HCP.out).mono ?_); (case side1 => exact (Kd.R_reads' HO146.out).2.2); (case side2 => exact (Kd.R_reads' HO146.out).2.1); rintro e w22 ⟨rfl, hb⟩; have n1_ := Aside0.mk (below_step (by repeat (first | (with_reducible first | exact HB.out | apply below_alloc | apply pw_below_drewN | apply below_drew1) | exact HB.out)) hb); clear HB; have HB := n1_; clear n1_ hb)))
  go_ret2
  exact ⟨rfl, (by repeat (first | (with_reducible first | exact HB.out | apply below_alloc | apply pw_below_drewN | apply below_drew1) | exact HB.out))⟩
end Go.Proofs.Ytaogmfchpcdboaa
