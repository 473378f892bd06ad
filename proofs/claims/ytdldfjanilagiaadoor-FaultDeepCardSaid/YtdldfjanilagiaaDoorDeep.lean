/- The walk of switchbacklaw02.FaultDeep: it answers true. The condition: the variable errors.errorType holds the type error. -/
import Derived.Test.YtdldfjanilagiaaDoorAwake
namespace Go.Proofs.YtdldfjanilagiaaDoor
open Go.RowKit Go.Extern.Stop Go.Stop Go.Extern
open Go.Proofs.YtdldfjanilagiaaDoorW.PrintWords Go.Proofs.YtdldfjanilagiaaDoorW.PrintLast Go.Proofs.YtdldfjanilagiaaDoorW.PrintMore

set_option maxHeartbeats 4000000 in
theorem deep_zero (e : Int) (a b : ByteArray) (w : World) (hl : Laid w) (c1 : (e == 0) = true) :
    Calls Tryd.prog 7 #[.int .i64 e, .string a, .string b] w fun ev w' => ev = .returned (.bool true) ∧ Below w.heap.size w w' := by
  have HL := Aside0.mk hl
  clear hl
  go_enter Tryd.func7, Tryd.ntmps7
  go_wp2_with fail
  refine (awake_true _ HL.out).mono ?_
  rintro ev w1 ⟨rfl, b1⟩
  have HB1 := Aside0.mk b1
  clear b1
  go_wp2_with fail
  refine (awake_true _ (HL.out.below HB1.out)).mono ?_
  rintro ev w2 ⟨rfl, b2⟩
  have HB2 := Aside0.mk (below_step HB1.out b2)
  clear b2
  go_wp2_with fail
  go_ret
  exact ⟨rfl, HB2.out⟩

set_option maxHeartbeats 4000000 in
theorem deep_longa (e : Int) (a b : ByteArray) (w : World) (hl : Laid w) (c1 : (e == 0) = false) (sat : decide ((100 : Int) < (a.size : Int)) = true) :
    Calls Tryd.prog 7 #[.int .i64 e, .string a, .string b] w fun ev w' => ev = .returned (.bool true) ∧ Below w.heap.size w w' := by
  have HL := Aside0.mk hl
  clear hl
  go_enter Tryd.func7, Tryd.ntmps7
  go_wp2_with fail
  refine (awake_true _ HL.out).mono ?_
  rintro ev w1 ⟨rfl, b1⟩
  have HB1 := Aside0.mk b1
  clear b1
  go_wp2_with fail
  refine (awake_true _ (HL.out.below HB1.out)).mono ?_
  rintro ev w2 ⟨rfl, b2⟩
  have HB2 := Aside0.mk (below_step HB1.out b2)
  clear b2
  go_wp2_with fail
  go_ret
  exact ⟨rfl, HB2.out⟩

set_option maxHeartbeats 4000000 in
theorem deep_longb (e : Int) (a b : ByteArray) (w : World) (hl : Laid w) (c1 : (e == 0) = false) (sat : decide ((100 : Int) < (a.size : Int)) = false) (sbt : decide ((100 : Int) < (b.size : Int)) = true) :
    Calls Tryd.prog 7 #[.int .i64 e, .string a, .string b] w fun ev w' => ev = .returned (.bool true) ∧ Below w.heap.size w w' := by
  have HL := Aside0.mk hl
  clear hl
  go_enter Tryd.func7, Tryd.ntmps7
  go_wp2_with fail
  refine (awake_true _ HL.out).mono ?_
  rintro ev w1 ⟨rfl, b1⟩
  have HB1 := Aside0.mk b1
  clear b1
  go_wp2_with fail
  refine (awake_true _ (HL.out.below HB1.out)).mono ?_
  rintro ev w2 ⟨rfl, b2⟩
  have HB2 := Aside0.mk (below_step HB1.out b2)
  clear b2
  go_wp2_with fail
  go_ret
  exact ⟨rfl, HB2.out⟩

set_option maxHeartbeats 8000000 in
theorem deep_main (e : Int) (a b : ByteArray) (w : World) (hl : Laid w) (c1 : (e == 0) = false) (sat : decide ((100 : Int) < (a.size : Int)) = false) (sbt : decide ((100 : Int) < (b.size : Int)) = false) :
    Calls Tryd.prog 7 #[.int .i64 e, .string a, .string b] w fun ev w' => ev = .returned (.bool true) ∧ Below w.heap.size w w' := by
  have HL := Aside0.mk hl
  clear hl
  go_enter Tryd.func7, Tryd.ntmps7
  go_wp2_with fail
  refine (awake_true _ HL.out).mono ?_
  rintro ev w1 ⟨rfl, b1⟩
  have HB1 := Aside0.mk b1
  clear b1
  go_wp2_with fail
  refine (new_E e a _ c1).mono ?_
  rintro ev w2 ⟨x2, rfl, e2, b2⟩
  have HO2 := Aside0.mk e2
  clear e2
  have HB2 := Aside0.mk (below_step HB1.out b2)
  have HL2 := Aside0.mk (HL.out.below HB2.out)
  clear b2
  clear HB1
  go_wp2_with fail
  refine (wrap_E [a] e 42 x2 b _ HO2.out).mono ?_
  rintro ev w3 ⟨x3, rfl, e3, b3⟩
  have HX3 := Aside0.mk e3
  clear e3
  have HO3 := Aside0.mk (HO2.out.below b3)
  have HB3 := Aside0.mk (below_step HB2.out b3)
  have HL3 := Aside0.mk (HL.out.below HB3.out)
  clear b3
  clear HO2 HB2 HL2
  go_wp2_with fail
  refine (wrap_E [a] e 42 x2 a _ HO3.out).mono ?_
  rintro ev w4 ⟨x4, rfl, e4, b4⟩
  have HM4 := Aside0.mk e4
  clear e4
  have HO4 := Aside0.mk (HO3.out.below b4)
  have HX4 := Aside0.mk (HX3.out.below b4)
  have HB4 := Aside0.mk (below_step HB3.out b4)
  have HL4 := Aside0.mk (HL.out.below HB4.out)
  clear b4
  clear HO3 HX3 HB3 HL3
  go_wp2_with fail
  refine (wrap_E [a, a] e 42 x4 b _ HM4.out).mono ?_
  rintro ev w5 ⟨x5, rfl, e5, b5⟩
  have HY5 := Aside0.mk e5
  clear e5
  have HO5 := Aside0.mk (HO4.out.below b5)
  have HX5 := Aside0.mk (HX4.out.below b5)
  have HM5 := Aside0.mk (HM4.out.below b5)
  have HB5 := Aside0.mk (below_step HB4.out b5)
  have HL5 := Aside0.mk (HL.out.below HB5.out)
  clear b5
  clear HO4 HX4 HM4 HB4 HL4
  go_wp2_with fail
  refine (places_ok [a] e 42 x2 _ HO5.out HL5.out (by simp)).mono ?_
  rintro ev w6 ⟨v6, rfl, r6, b6⟩
  obtain ⟨A6, k6, rfl⟩ := Kd.R_slice r6
  have HR6 := Aside0.mk (Kd.R_reads' r6)
  clear r6
  have HO6 := Aside0.mk (HO5.out.below b6)
  have HX6 := Aside0.mk (HX5.out.below b6)
  have HM6 := Aside0.mk (HM5.out.below b6)
  have HY6 := Aside0.mk (HY5.out.below b6)
  have HB6 := Aside0.mk (below_step HB5.out b6)
  have HL6 := Aside0.mk (HL.out.below HB6.out)
  clear b6
  clear HO5 HX5 HM5 HY5 HB5 HL5
  go_wp2_with fail
  refine (same_true A6 _ k6 1 [a] _ (Kd.C_below HR6.out.2.2 ((Below.refl _ _).alloc (Nat.le_refl _) _)) HR6.out.2.1 (lit_C [a] (by simp) _) (Nat.le_refl _) (by simp)).mono ?_
  rintro ev w7 ⟨rfl, hd⟩
  have b7 := ((Below.refl w6.heap.size w6).alloc (Nat.le_refl _) (.cells (encs Value.string [a]).toArray 9)).trans (hd.below.mono (by simp))
  clear hd HR6
  have HO7 := Aside0.mk (HO6.out.below b7)
  have HX7 := Aside0.mk (HX6.out.below b7)
  have HY7 := Aside0.mk (HY6.out.below b7)
  have HB7 := Aside0.mk (below_step HB6.out b7)
  have HL7 := Aside0.mk (HL.out.below HB7.out)
  clear b7
  clear HO6 HX6 HY6 HB6 HL6
  go_wp2_with fail
  refine (places_ok [b, a] e 42 x3 _ HX7.out HL7.out (by simp)).mono ?_
  rintro ev w8 ⟨v8, rfl, r8, b8⟩
  obtain ⟨A8, k8, rfl⟩ := Kd.R_slice r8
  have HR8 := Aside0.mk (Kd.R_reads' r8)
  clear r8
  have HO8 := Aside0.mk (HO7.out.below b8)
  have HX8 := Aside0.mk (HX7.out.below b8)
  have HY8 := Aside0.mk (HY7.out.below b8)
  have HB8 := Aside0.mk (below_step HB7.out b8)
  have HL8 := Aside0.mk (HL.out.below HB8.out)
  clear b8
  clear HO7 HX7 HY7 HB7 HL7
  go_wp2_with fail
  refine (same_true A8 _ k8 2 [b, a] _ (Kd.C_below HR8.out.2.2 ((Below.refl _ _).alloc (Nat.le_refl _) _)) HR8.out.2.1 (lit_C [b, a] (by simp) _) (Nat.le_refl _) (by simp)).mono ?_
  rintro ev w9 ⟨rfl, hd⟩
  have b9 := ((Below.refl w8.heap.size w8).alloc (Nat.le_refl _) (.cells (encs Value.string [b, a]).toArray 9)).trans (hd.below.mono (by simp))
  clear hd HR8
  have HO9 := Aside0.mk (HO8.out.below b9)
  have HX9 := Aside0.mk (HX8.out.below b9)
  have HY9 := Aside0.mk (HY8.out.below b9)
  have HB9 := Aside0.mk (below_step HB8.out b9)
  have HL9 := Aside0.mk (HL.out.below HB9.out)
  clear b9
  clear HO8 HX8 HY8 HB8 HL8
  go_wp2_with fail
  refine (places_ok [b, a, a] e 42 x5 _ HY9.out HL9.out (by simp)).mono ?_
  rintro ev w10 ⟨v10, rfl, r10, b10⟩
  obtain ⟨A10, k10, rfl⟩ := Kd.R_slice r10
  have HR10 := Aside0.mk (Kd.R_reads' r10)
  clear r10
  have HO10 := Aside0.mk (HO9.out.below b10)
  have HX10 := Aside0.mk (HX9.out.below b10)
  have HY10 := Aside0.mk (HY9.out.below b10)
  have HB10 := Aside0.mk (below_step HB9.out b10)
  have HL10 := Aside0.mk (HL.out.below HB10.out)
  clear b10
  clear HO9 HX9 HY9 HB9 HL9
  go_wp2_with fail
  refine (same_true A10 _ k10 3 [b, a, a] _ (Kd.C_below HR10.out.2.2 ((Below.refl _ _).alloc (Nat.le_refl _) _)) HR10.out.2.1 (lit_C [b, a, a] (by simp) _) (Nat.le_refl _) (by simp)).mono ?_
  rintro ev w11 ⟨rfl, hd⟩
  have b11 := ((Below.refl w10.heap.size w10).alloc (Nat.le_refl _) (.cells (encs Value.string [b, a, a]).toArray 9)).trans (hd.below.mono (by simp))
  clear hd HR10
  have HO11 := Aside0.mk (HO10.out.below b11)
  have HX11 := Aside0.mk (HX10.out.below b11)
  have HY11 := Aside0.mk (HY10.out.below b11)
  have HB11 := Aside0.mk (below_step HB10.out b11)
  have HL11 := Aside0.mk (HL.out.below HB11.out)
  clear b11
  clear HO10 HX10 HY10 HB10 HL10
  go_wp2_with fail
  refine (code_ok [b, a] e 42 x3 _ HX11.out HL11.out).mono ?_
  rintro ev w12 ⟨rfl, b12⟩
  have HO12 := Aside0.mk (HO11.out.below b12)
  have HX12 := Aside0.mk (HX11.out.below b12)
  have HY12 := Aside0.mk (HY11.out.below b12)
  have HB12 := Aside0.mk (below_step HB11.out b12)
  have HL12 := Aside0.mk (HL.out.below HB12.out)
  clear b12
  clear HO11 HX11 HY11 HB11 HL11
  go_wp2_with fail
  refine (code_ok [b, a, a] e 42 x5 _ HY12.out HL12.out).mono ?_
  rintro ev w13 ⟨rfl, b13⟩
  have HO13 := Aside0.mk (HO12.out.below b13)
  have HX13 := Aside0.mk (HX12.out.below b13)
  have HY13 := Aside0.mk (HY12.out.below b13)
  have HB13 := Aside0.mk (below_step HB12.out b13)
  have HL13 := Aside0.mk (HL.out.below HB13.out)
  clear b13
  clear HO12 HX12 HY12 HB12 HL12
  go_wp2_with fail
  refine (code_ok [a] e 42 x2 _ HO13.out HL13.out).mono ?_
  rintro ev w14 ⟨rfl, b14⟩
  have HO14 := Aside0.mk (HO13.out.below b14)
  have HX14 := Aside0.mk (HX13.out.below b14)
  have HY14 := Aside0.mk (HY13.out.below b14)
  have HB14 := Aside0.mk (below_step HB13.out b14)
  have HL14 := Aside0.mk (HL.out.below HB14.out)
  clear b14
  clear HO13 HX13 HY13 HB13 HL13
  go_wp2_with fail
  go_ret
  exact ⟨rfl, HB14.out⟩

theorem deep_any (e : Int) (a b : ByteArray) (w : World) (hl : Laid w) :
    Calls Tryd.prog 7 #[.int .i64 e, .string a, .string b] w fun ev w' => ev = .returned (.bool true) ∧ Below w.heap.size w w' := by
  by_cases he : e = 0
  · exact deep_zero e a b w hl (beq_iff_eq.2 he)
  have c1 : (e == 0) = false := beq_eq_false_iff_ne.2 he
  by_cases ha : 100 < a.size
  · exact deep_longa e a b w hl c1 (decide_eq_true (by omega))
  by_cases hb : 100 < b.size
  · exact deep_longb e a b w hl c1 (decide_eq_false (by omega)) (decide_eq_true (by omega))
  exact deep_main e a b w hl c1 (decide_eq_false (by omega)) (decide_eq_false (by omega))
end Go.Proofs.YtdldfjanilagiaaDoor
