/- The walk of switchbacklaw02.FaultWords: it answers true. The condition: the variable errors.errorType holds the type error. -/
import Derived.Test.YtdldfjanilagiaaDoorAwake
namespace Go.Proofs.YtdldfjanilagiaaDoor
open Go.RowKit Go.Extern.Stop Go.Stop Go.Extern
open Go.Proofs.YtdldfjanilagiaaDoorW.PrintWords Go.Proofs.YtdldfjanilagiaaDoorW.PrintLast Go.Proofs.YtdldfjanilagiaaDoorW.PrintMore

set_option maxHeartbeats 4000000 in
theorem words_any (e o : Int) (s : ByteArray) (w : World) (hl : Laid w) (hs : s.size ≤ 9223372036854775807) :
    Calls Tryd.prog 6 #[.int .i64 e, .int .i64 o, .string s] w fun ev w' => ev = .returned (.bool true) ∧ Below w.heap.size w w' := by
  have HL := Aside0.mk hl
  clear hl
  by_cases he : e = 0
  · have c1 : (e == 0) = true := beq_iff_eq.2 he
    clear he
    go_enter Tryd.func6, Tryd.ntmps6
    go_wp2_with fail
    refine (awake_true _ HL.out).mono ?_
    rintro ev w1 ⟨rfl, b1⟩
    have HB1 := Aside0.mk b1
    clear b1
    go_wp2_with fail
    refine (awake_true _ (HL.out.below HB1.out)).mono ?_
    rintro ev w2 ⟨rfl, b2⟩
    have HB2 := Aside0.mk (below_step HB1.out b2)
    clear b2
    go_wp2_with fail
    go_ret
    exact ⟨rfl, HB2.out⟩
  have c1 : (e == 0) = false := beq_eq_false_iff_ne.2 he
  clear he
  by_cases hz : 100 < s.size
  · have c2 : decide ((100 : Int) < (s.size : Int)) = true := decide_eq_true (by omega)
    have c3 : decide (100 < s.size) = true := decide_eq_true hz
    clear hz
    go_enter Tryd.func6, Tryd.ntmps6
    go_wp2_with fail
    refine (awake_true _ HL.out).mono ?_
    rintro ev w1 ⟨rfl, b1⟩
    have HB1 := Aside0.mk b1
    clear b1
    go_wp2_with fail
    refine (awake_true _ (HL.out.below HB1.out)).mono ?_
    rintro ev w2 ⟨rfl, b2⟩
    have HB2 := Aside0.mk (below_step HB1.out b2)
    clear b2
    go_wp2_with fail
    go_ret
    exact ⟨rfl, HB2.out⟩
  have c2 : decide ((100 : Int) < (s.size : Int)) = false := decide_eq_false (by omega)
  have c3 : decide (100 < s.size) = false := decide_eq_false hz
  clear hz
  by_cases heo : e = o
  all_goals
    first | (have c4 : (e == o) = true := beq_iff_eq.2 heo) | (have c4 : (e == o) = false := beq_eq_false_iff_ne.2 heo)
    clear heo
    go_enter Tryd.func6, Tryd.ntmps6
    go_wp2_with fail
    refine (awake_true _ HL.out).mono ?_
    rintro ev w1 ⟨rfl, b1⟩
    have HB1 := Aside0.mk b1
    clear b1
    go_wp2_with fail
    refine (new_E e s _ c1).mono ?_
    rintro ev w2 ⟨x2, rfl, e2, b2⟩
    have HE2 := Aside0.mk e2
    have HB2 := Aside0.mk (below_step HB1.out b2)
    clear e2 b2 HB1
    go_wp2_with fail
    refine (wrap_E _ e 42 x2 s _ HE2.out).mono ?_
    rintro ev w3 ⟨x3, rfl, e3, b3⟩
    have HE3 := Aside0.mk e3
    have HB3 := Aside0.mk (below_step HB2.out b3)
    have HL3 := Aside0.mk (HL.out.below HB3.out)
    clear e3 b3 HB2 HE2
    go_wp2_with fail
    refine (is_ok _ e 42 x3 o _ HE3.out HL3.out).mono ?_
    rintro ev w4 ⟨rfl, b4⟩
    have HB4 := Aside0.mk (below_step HB3.out b4)
    clear b4 HB3 HE3
    go_wp2_with fail
    refine (is_nil e _).mono ?_
    rintro ev w5 ⟨rfl, rfl⟩
    go_wp2_with fail
    go_ret
    exact ⟨rfl, HB4.out⟩
end Go.Proofs.YtdldfjanilagiaaDoor
