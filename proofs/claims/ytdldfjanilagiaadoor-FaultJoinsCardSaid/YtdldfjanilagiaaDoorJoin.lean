/- Package fault's Join, the reference's Same at two equal lists, and the statements' awake, by their walks. The condition: the variable errors.errorType holds the type error. -/
import Derived.Test.YtdldfjanilagiaaDoorFault
namespace Go.Proofs.YtdldfjanilagiaaDoor
open Go.RowKit Go.Extern.Stop Go.Stop Go.Extern
open Go.Proofs.YtdldfjanilagiaaDoorW.PrintWords Go.Proofs.YtdldfjanilagiaaDoorW.PrintLast Go.Proofs.YtdldfjanilagiaaDoorW.PrintMore
open PFaultWraps (info9)

/-- An error as a value: nil, or of a type, with what it holds. -/
def errEnc : Option (TypeId × Value) → Value
  | none => .nilIface
  | some (ty, x) => .iface ty x
theorem errEnc_one (x : Option (TypeId × Value)) : (errEnc x).oneCell' = true := by
  cases x with
  | none => rfl
  | some p => rfl
abbrev errKd : Kd (Option (TypeId × Value)) := Kd.scalar errEnc errEnc_one
theorem info26 : (Tryd.prog.info? 26).map (fun i => (i.zero, i.size, i.bytes)) = some (some .nilIface, 1, 16) := by kernel_rfl

/-- The first error of a list. -/
def firstE : List (Option (TypeId × Value)) → Option (TypeId × Value)
  | [] => none
  | none :: l => firstE l
  | some p :: _ => some p
theorem firstE_skip {l : List (Option (TypeId × Value))} : ∀ {k : Nat}, (∀ j, j < k → l.getD j none = none) → k ≤ l.length → firstE l = firstE (l.drop k) := by
  induction l with
  | nil => intro k _ hk; simp at hk; subst hk; rfl
  | cons x l ih =>
    intro k h hk
    cases k with
    | zero => rfl
    | succ k =>
      have h0 := h 0 (by omega)
      simp at h0
      subst h0
      rw [List.drop_succ_cons]
      exact ih (fun j hj => by simpa using h (j + 1) (by omega)) (by simpa using hk)

set_option maxHeartbeats 1000000 in
theorem join_any (A : Option Addr) (cp : Nat) (es : List (Option (TypeId × Value))) (w : World) (hr : errKd.C w A es.length es) :
    Calls Tryd.prog 10 #[.slice A es.length cp] w fun ev w' => ev = .returned (errEnc (firstE es)) ∧ w' = w := by
  have HR := Aside0.mk (Kd.reads_of_C (d := none) hr)
  have hm := hr.2.1
  clear hr
  go_enter Tryd.func10, Tryd.ntmps10
  go_wp2
  go_loop [7] (fun i => ∃ k : Nat, k ≤ es.length ∧ i = .int .i64 k ∧ Aside0 (∀ j, j < k → es.getD j none = none)) (fun i => es.length - (intOf i).toNat)
  case atStart => exact ⟨0, Nat.zero_le _, rfl, ⟨fun j hj => absurd hj (by omega)⟩⟩
  case round =>
    obtain ⟨k, hk, rfl, HS⟩ := hrel
    by_cases hlt : k < es.length
    · obtain ⟨ad, e, hc⟩ := HR.out.at_ (k : Int) (by omega) (by omega)
      subst e
      simp only [Int.toNat_natCast] at hc
      unfold rdOf at hc
      simp only [Int.toNat_natCast] at hc
      obtain ⟨x, hx⟩ : ∃ x, es.getD k none = x := ⟨_, rfl⟩
      rw [hx] at hc
      have HX := Aside0.mk hx
      clear hx
      cases x with
      | none =>
        have hc' : w.cell? (ad.add k) = some .nilIface := hc
        clear hc
        go_wp2
        go_round
        case rel =>
          refine ⟨k + 1, by omega, by go_num, ⟨fun j hj => ?_⟩⟩
          rcases Nat.lt_or_ge j k with h | h
          · exact HS.out j h
          · rw [show j = k from by omega]; exact HX.out
        case measure => simp [intOf]; omega
      | some p =>
        obtain ⟨ty, x⟩ := p
        have hc' : w.cell? (ad.add k) = some (.iface ty x) := hc
        clear hc
        go_wp2
        go_ret
        have e : firstE es = some (ty, x) := by
          rw [firstE_skip HS.out (by omega), List.drop_eq_getElem_cons hlt]
          have h1 : es[k] = some (ty, x) := by
            have := HX.out
            simpa [List.getD_eq_getElem?_getD, hlt] using this
          rw [h1]
          rfl
        exact ⟨by rw [e]; rfl, rfl⟩
    · go_wp2
      go_ret
      have e : firstE es = none := by
        rw [firstE_skip HS.out (by omega), List.drop_of_length_le (by omega)]
        rfl
      exact ⟨by rw [e]; rfl, rfl⟩

/-! ### Same, at two lists that are one -/
theorem same_l0 (d : Nat) : ∀ (l : List ByteArray) (i : Nat), l.length = i + d → l.length < 9223372036854775807 → Ev (fun k => PFaultWraps.switchbackref02_Same.l0 k l l (i : Int)) true := by
  induction d with
  | zero =>
    intro l i hi _
    refine Ev.step (fun k => PFaultWraps.switchbackref02_Same.l0.eq_2 _ _ _ k) ?_
    exact Ev.congr (fun _ => if_neg (by omega)) (Ev.now _)
  | succ d ih =>
    intro l i hi hm
    refine Ev.step (fun k => PFaultWraps.switchbackref02_Same.l0.eq_2 _ _ _ k) ?_
    have e : wrap64 ((i : Int) + 1) = ((i + 1 : Nat) : Int) := by unfold wrap64; omega
    refine Ev.congr (fun _ => (if_pos (by omega)).trans ((if_pos (by omega)).trans ((if_pos (by omega)).trans (if_pos rfl)))) ?_
    rw [e]
    exact ih l (i + 1) (by omega) hm

theorem same_true (A0 A1 : Option Addr) (c0 c1 : Nat) (l : List ByteArray) (w : World) (h0 : Kd.string.C w A0 l.length l) (hc0 : l.length ≤ c0) (h1 : Kd.string.C w A1 l.length l) (hc1 : l.length ≤ c1) (hm : l.length < 9223372036854775807) :
    Calls Tryd.prog 12 #[.slice A0 l.length c0, .slice A1 l.length c1] w fun e w' => e = .returned (.bool true) ∧ Drawn0 w w' := by
  obtain ⟨k, hk⟩ := (same_l0 l.length l 0 (by omega) hm).rounds
  refine PFaultWraps.switchbackref02_Same.calls k A0 c0 l A1 c1 l true w h0 hc0 h1 hc1 ?_
  unfold PFaultWraps.switchbackref02_Same.f
  rw [if_pos rfl]
  exact hk

/-- A literal '[]string{..}'. -/
theorem lit_C (xs : List ByteArray) (hm : xs.length ≤ 9223372036854775807) (W : World) : Kd.string.C (W.alloc (.cells (encs Value.string xs).toArray 9)) (some ⟨W.heap.size, 0, none⟩) xs.length xs := by
  have h2 := World.ownsRow_lit (base := 0) (e := 9) (size := 1) W (encs Value.string xs).toArray xs.length (Nat.zero_le _) (by simpa [maxLen] using hm) (by simp [encs_length])
  have h3 : (Kd.scalar Value.string (fun _ => rfl)).R 9 _ 0 (fun _ => True) _ xs := Kd.R_of_own (by simpa using h2) (fun _ _ => trivial)
  exact (Kd.R_reads' h3).2.2

end Go.Proofs.YtdldfjanilagiaaDoor
