/- The statements' awake answers true; New and Wrap by what they make. The condition: the variable errors.errorType holds the type error. -/
import Derived.Test.YtdldfjanilagiaaDoorJoin
namespace Go.Proofs.YtdldfjanilagiaaDoor
open Go.RowKit Go.Extern.Stop Go.Stop Go.Extern
open Go.Proofs.YtdldfjanilagiaaDoorW.PrintWords Go.Proofs.YtdldfjanilagiaaDoorW.PrintLast Go.Proofs.YtdldfjanilagiaaDoorW.PrintMore

theorem new_E (e : Int) (p : ByteArray) (w : World) (he : (e == 0) = false) :
    Calls Tryd.prog 9 #[.int .i64 e, .string p] w fun ev w' => ∃ x, ev = .returned (.iface 42 x) ∧ ErrV w' [p] e (.iface 42 x) ∧ Below w.heap.size w w' := by
  refine (new_ok e p w he).mono ?_
  rintro ev w' ⟨rfl, rfl⟩
  exact ⟨_, rfl, ⟨w.heap.size, _, rfl, heap_alloc_new w _, rfl⟩, (Below.refl _ _).alloc (Nat.le_refl _) _⟩

theorem wrap_E (ps : List ByteArray) (c : Int) (ty : TypeId) (y : Value) (p : ByteArray) (w : World) (hE : ErrV w ps c (.iface ty y)) :
    Calls Tryd.prog 14 #[.iface ty y, .string p] w fun ev w' => ∃ x, ev = .returned (.iface 42 x) ∧ ErrV w' (p :: ps) c (.iface 42 x) ∧ Below w.heap.size w w' := by
  refine (wrap_ok ty y p w).mono ?_
  rintro ev w' ⟨rfl, rfl⟩
  exact ⟨_, rfl, ⟨w.heap.size, _, rfl, heap_alloc_new w _, hE.below ((Below.refl _ _).alloc (Nat.le_refl _) _)⟩, (Below.refl _ _).alloc (Nat.le_refl _) _⟩

set_option maxHeartbeats 4000000 in
theorem awake_true (w : World) (hl : Laid w) : Calls Tryd.prog 8 #[] w fun ev w' => ev = .returned (.bool true) ∧ Below w.heap.size w w' := by
  have HL := Aside0.mk hl
  clear hl
  go_enter Tryd.func8, Tryd.ntmps8
  go_wp2_with fail
  refine (new_E 3 ⟨#[108, 111, 103]⟩ _ rfl).mono ?_
  rintro ev w1 ⟨x1, rfl, e1, b1⟩
  have HE1 := Aside0.mk e1
  have HB1 := Aside0.mk b1
  clear e1 b1
  go_wp2_with fail
  refine (wrap_E _ 3 42 x1 ⟨#[100, 101, 112, 108, 111, 121]⟩ _ HE1.out).mono ?_
  rintro ev w2 ⟨x2, rfl, e2, b2⟩
  have HE2 := Aside0.mk e2
  have HB2 := Aside0.mk (HB1.out.trans (b2.mono HB1.out.size))
  have HL2 := Aside0.mk (HL.out.below HB2.out)
  clear e2 b2
  clear HE1 HB1
  go_wp2_with fail
  refine (code_ok _ 3 42 x2 _ HE2.out HL2.out).mono ?_
  rintro ev w3 ⟨rfl, b3⟩
  have HE3 := Aside0.mk (HE2.out.below b3)
  have HB3 := Aside0.mk (HB2.out.trans (b3.mono HB2.out.size))
  have HL3 := Aside0.mk (HL.out.below HB3.out)
  clear b3 HE2 HB2 HL2
  go_wp2_with fail
  refine (is_ok _ 3 42 x2 3 _ HE3.out HL3.out).mono ?_
  rintro ev w4 ⟨rfl, b4⟩
  have HE4 := Aside0.mk (HE3.out.below b4)
  have HB4 := Aside0.mk (HB3.out.trans (b4.mono HB3.out.size))
  have HL4 := Aside0.mk (HL.out.below HB4.out)
  clear b4 HE3 HB3 HL3
  go_wp2_with fail
  refine (is_ok _ 3 42 x2 2 _ HE4.out HL4.out).mono ?_
  rintro ev w5 ⟨rfl, b5⟩
  have HE5 := Aside0.mk (HE4.out.below b5)
  have HB5 := Aside0.mk (HB4.out.trans (b5.mono HB4.out.size))
  have HL5 := Aside0.mk (HL.out.below HB5.out)
  clear b5 HE4 HB4 HL4
  go_wp2_with fail
  refine (places_ok _ 3 42 x2 _ HE5.out HL5.out (by decide)).mono ?_
  rintro ev w6 ⟨v6, rfl, r6, b6⟩
  obtain ⟨A6, c6, rfl⟩ := Kd.R_slice r6
  have HR6 := Aside0.mk (Kd.R_reads' r6)
  have HB6 := Aside0.mk (HB5.out.trans (b6.mono HB5.out.size))
  have HL6 := Aside0.mk (HL.out.below HB6.out)
  clear b6 r6 HE5 HB5 HL5
  go_wp2_with fail
  refine (same_true A6 _ c6 2 [⟨#[100, 101, 112, 108, 111, 121]⟩, ⟨#[108, 111, 103]⟩] _ (Kd.C_below HR6.out.2.2 ((Below.refl _ _).alloc (Nat.le_refl _) _)) HR6.out.2.1 (lit_C [⟨#[100, 101, 112, 108, 111, 121]⟩, ⟨#[108, 111, 103]⟩] (by decide) _) (Nat.le_refl _) (by decide)).mono ?_
  rintro ev w7 ⟨rfl, ⟨n7, rfl⟩⟩
  go_wp2_with fail
  refine (new_nil 0 _ _ rfl).mono ?_
  rintro ev w8 ⟨rfl, rfl⟩
  go_wp2_with fail
  refine (code_nil _).mono ?_
  rintro ev w9 ⟨rfl, rfl⟩
  go_wp2_with fail
  go_ret
  exact ⟨rfl, pw_below_drewN (HB6.out.alloc HB6.out.size _) _⟩
end Go.Proofs.YtdldfjanilagiaaDoor
