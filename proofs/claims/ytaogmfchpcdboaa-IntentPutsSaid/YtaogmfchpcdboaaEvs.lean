/- What the printed functions of chapters 08 and 09 come to. No condition beside the sizes named. -/
import Derived.Test.YtaogmfchpcdboaaPIntentPutsx3
import Derived.Test.YtaogmfchpcdboaaPIntentPutsx2
import Derived.Test.YtaogmfchpcdboaaPIntentPutsx1
import Derived.Test.YtaogmfchpcdboaaMath
import Derived.Test.YtaogmfchpcdboaaRec
namespace Go.Proofs.Ytaogmfchpcdboaa.Evs
set_option linter.unusedSimpArgs false
open Go.RowKit Go.Proofs.Ytaogmfchpcdboaa.Math Go.Proofs.Ytaogmfchpcdboaa.PIntentPuts Go.Proofs.YtaogmfchpcdboaaW.PrintWords Go.Proofs.YtaogmfchpcdboaaW.PrintLast

theorem put_l1 (n : Nat) : ∀ (x4 x7 : List Int) (x8 i : Int) (r : ByteArray × Bool), x4.length + (enc n).length < 140737488355328 →
    Ev (fun k => code_Put.l0 k (x4 ++ ints (enc n)) x7 x8 (wrap64 (i + 1))) r → Ev (fun k => code_Put.l1 k x4 (n : Int) x7 x8 i) r := by
  induction n using Nat.strongRecOn with
  | _ n ih =>
    intro x4 x7 x8 i r hl h
    by_cases hn : n < 128
    · rw [enc_small hn] at h hl
      simp at hl
      refine Ev.step (fun k => code_Put.l1.eq_2 _ _ _ _ _ k) ?_
      have e : ((n : Int) % 256) = n := by omega
      refine evNeg (by omega) (evPos (by omega) ?_)
      rw [e]
      exact h
    · rw [enc_big (by omega)] at h hl
      simp at hl
      refine Ev.step (fun k => code_Put.l1.eq_2 _ _ _ _ _ k) ?_
      have e1 : ((n : Int) % 256) = ((n % 256 : Nat) : Int) := by omega
      have e2 : ((n : Int) / 128) = ((n / 128 : Nat) : Int) := by omega
      have e3 : n % 256 % 128 = n % 128 := by omega
      refine evPos (by omega) (evPos (by omega) ?_)
      rw [e1, or128 _ (by omega), e2, e3]
      refine ih (n / 128) (by omega) _ _ _ _ _ (by simp; omega) ?_
      rw [ints_cons] at h
      rw [List.append_assoc]
      exact h

theorem put_l0 (d : Nat) : ∀ (x4 x7 : List Int) (i : Nat), x7.length = i + d → x7.length < 9223372036854775807 → x4.length + 9 * d < 140737488355328 →
    (∀ x ∈ x7, x < 9223372036854775808) → Ev (fun k => code_Put.l0 k x4 x7 (x7.length : Int) (i : Int)) (putS (x7.drop i) x4) := by
  induction d with
  | zero =>
    intro x4 x7 i hi _ _ _
    refine Ev.step (fun k => code_Put.l0.eq_2 _ _ _ _ k) ?_
    rw [List.drop_of_length_le (by omega)]
    exact evNeg (by omega) (Ev.now _)
  | succ d ih =>
    intro x4 x7 i hi hm hl hx
    refine Ev.step (fun k => code_Put.l0.eq_2 _ _ _ _ k) ?_
    refine evPos (by omega) (evPos (by omega) (evPos (by omega) ?_))
    rw [drop_cons (by omega), putS]
    have hr := hx _ (rd_mem (l := x7) (i := i) (by omega))
    by_cases h0 : rd x7 (i : Int) < 0
    · rw [if_pos h0]
      exact evPos h0 (Ev.now _)
    · rw [if_neg h0]
      refine evNeg h0 ?_
      have h9 := enc_nine hr
      obtain ⟨m, hm'⟩ : ∃ m : Nat, rd x7 (i : Int) = (m : Int) := ⟨(rd x7 (i : Int)).toNat, by omega⟩
      rw [hm'] at h9 ⊢
      rw [Int.toNat_natCast] at h9 ⊢
      refine put_l1 m _ _ _ _ _ (by omega) ?_
      have e : wrap64 ((i : Int) + 1) = ((i + 1 : Nat) : Int) := by unfold wrap64; omega
      rw [e]
      exact ih _ x7 (i + 1) (by omega) hm (by rw [List.length_append, ints_length]; omega) hx

theorem put_f (l : List Int) (hl : l.length ≤ 10000) (hx : ∀ x ∈ l, x < 9223372036854775808) : Ev (fun k => code_Put.f k l) (putS l []) := by
  have h := put_l0 l.length [] l 0 (by omega) (by omega) (by simp; omega) hx
  rw [List.drop_zero] at h
  exact h

theorem get_l0 (d : Nat) : ∀ (x0 : ByteArray) (acc : List Int) (n c i : Nat), x0.size = i + d → x0.size ≤ 140737488351232 → c ≤ 8 → n < 2 ^ (7 * c) → acc.length + d < 17592186044416 →
    Ev (fun k => code_Get.l0 k x0 acc (n : Int) (c : Int) (x0.size : Int) (i : Int)) (dec ((nb x0).drop i) acc n c) := by
  induction d with
  | zero =>
    intro x0 acc n c i hi hs _ _ _
    refine Ev.step (fun k => code_Get.l0.eq_2 _ _ _ _ _ _ k) ?_
    rw [List.drop_of_length_le (by rw [nb_length]; omega), dec]
    refine evNeg (by omega) ?_
    by_cases hc : 0 < c
    · rw [if_pos hc]; exact evPos (by omega) (Ev.now _)
    · rw [if_neg hc]; exact evNeg (by omega) (Ev.now _)
  | succ d ih =>
    intro x0 acc n c i hi hs hc hn hl
    obtain ⟨b, hb, hbt, hdrop⟩ := bt_nb x0 i (by omega)
    have key : ∀ z : Bool, (z = true ↔ ((c = 8 ∧ 128 ≤ b) ∨ (0 < c ∧ b = 0))) →
        Ev (fun k => code_Get.j1 k x0 acc (n : Int) (c : Int) (b : Int) (x0.size : Int) (i : Int) z) (dec ((nb x0).drop i) acc n c) := by
      intro z hz
      refine Ev.step (fun k => code_Get.j1.eq_2 _ _ _ _ _ _ _ _ k) ?_
      rw [hdrop, dec]
      by_cases h1 : (c = 8 ∧ 128 ≤ b) ∨ (0 < c ∧ b = 0)
      · rw [if_pos h1]; exact evPos (hz.2 h1) (Ev.now _)
      · rw [if_neg h1]
        refine evNeg (fun h => h1 (hz.1 h)) ?_
        have e7 : wrap64 (7 * (c : Int)) = ((7 * c : Nat) : Int) := by unfold wrap64; omega
        have e128 : wrap64 (Go.bits .and .u8 (b : Int) 127) = ((b % 128 : Nat) : Int) := by rw [and127 b hb]; unfold wrap64; omega
        have eor : Go.bits .or .i64 (n : Int) (shl .i64 ((b % 128 : Nat) : Int) ((7 * c : Nat) : Int)) = ((n + b % 128 * 2 ^ (7 * c) : Nat) : Int) := by
          have hm : b % 128 < 128 := Nat.mod_lt _ (by decide)
          rw [shl_i64 (b % 128) c hm hc, or_i64 n (b % 128) c hn hm hc]
        have ei : wrap64 ((i : Int) + 1) = ((i + 1 : Nat) : Int) := by unfold wrap64; omega
        have ec : wrap64 ((c : Int) + 1) = ((c + 1 : Nat) : Int) := by unfold wrap64; omega
        rw [e7, e128, eor, ei, ec]
        clear e7 e128 eor ei ec
        refine evPos (by omega) ?_
        by_cases h2 : b < 128
        · rw [if_pos h2, Nat.mod_eq_of_lt h2]
          refine evPos (by omega) (evPos (by omega) ?_)
          have h := ih x0 (acc ++ [((n + b * 2 ^ (7 * c) : Nat) : Int)]) 0 0 (i + 1) (by omega) hs (by omega) (by simp) (by simp; omega)
          rw [Int.natCast_zero] at h
          exact h
        · rw [if_neg h2, show b % 128 = b - 128 from by omega]
          refine evNeg (by omega) ?_
          have hlt : n + (b - 128) * 2 ^ (7 * c) < 2 ^ (7 * (c + 1)) := by
            rw [pow_next]
            have : (b - 128) * 2 ^ (7 * c) ≤ 127 * 2 ^ (7 * c) := Nat.mul_le_mul_right _ (by omega)
            omega
          exact ih x0 acc _ (c + 1) (i + 1) (by omega) hs (by omega) hlt (by omega)
    refine Ev.step (fun k => code_Get.l0.eq_2 _ _ _ _ _ _ k) ?_
    rw [hbt]
    refine evPos (by omega) (evPos (by omega) (evPos (by omega) ?_))
    have k0 : 0 < c → Ev (fun k => code_Get.j1 k x0 acc (n : Int) (c : Int) (b : Int) (x0.size : Int) (i : Int) ((b : Int) == 0)) (dec ((nb x0).drop i) acc n c) ∨ (c = 8 ∧ 128 ≤ b) := by
      intro h0
      by_cases h8 : c = 8 ∧ 128 ≤ b
      · exact .inr h8
      · refine .inl (key _ ?_)
        rw [beq_iff_eq]; omega
    by_cases h8 : c = 8
    · refine evPos (by omega) ?_
      by_cases h2 : 128 ≤ b
      · refine evPos (by omega) ?_
        exact key true (by simp; omega)
      · refine evNeg (by omega) (evPos (by omega) ?_)
        exact (k0 (by omega)).elim id fun h => absurd h.2 h2
    · refine evNeg (by omega) ?_
      by_cases h0 : 0 < c
      · refine evPos (by omega) ?_
        exact (k0 h0).elim id fun h => absurd h.1 h8
      · refine evNeg (by omega) ?_
        exact key false (by simp; omega)

theorem get_f (s : ByteArray) (hs : s.size ≤ 100000) : Ev (fun k => code_Get.f k s) (dec (nb s) [] 0 0) := by
  have h := get_l0 s.size s [] 0 0 0 (by omega) (by omega) (by omega) (by simp) (by simp; omega)
  rw [List.drop_zero] at h
  exact h

theorem one_f (n : Nat) : n < 9223372036854775808 → Ev (fun k => switchbackref08_one.f k (n : Int)) (strOfNums (ints (enc n))) := by
  induction n using Nat.strongRecOn with
  | _ n ih =>
    intro hn
    refine Ev.step (fun k => switchbackref08_one.f.eq_2 _ k) ?_
    by_cases h : n < 128
    · rw [enc_small h, show ((n : Int) % 256) = n from by omega]
      exact evPos (by omega) (Ev.now _)
    · refine evNeg (by omega) ?_
      rw [enc_big (by omega)]
      have e1 : wrap64 (128 + Int.tmod (n : Int) 128) % 256 = ((128 + n % 128 : Nat) : Int) := by
        rw [Int.tmod_eq_emod_of_nonneg (by omega)]; unfold wrap64; omega
      have e2 : wrap64 (Int.tdiv (n : Int) 128) = ((n / 128 : Nat) : Int) := by
        rw [Int.tdiv_eq_ediv_of_nonneg (by omega)]; unfold wrap64; omega
      rw [e1, e2]
      simp only [Option.bind_some]
      refine Ev.bind (ih (n / 128) (by omega) (by omega)) ?_
      have hl := enc_nine (x := ((n / 128 : Nat) : Int)) (by omega)
      rw [Int.toNat_natCast] at hl
      refine evPos (by rw [strOfNums_size, strOfNums_size, ints_length]; simp; omega) ?_
      rw [str_append, ints_cons]
      exact Ev.now _

theorem refput_l0 (d : Nat) : ∀ (x0 x4 : List Int) (i : Nat), x0.length = i + d → x0.length ≤ 10000 → x4.length + 9 * d ≤ 100000 →
    (∀ x ∈ x0, x < 9223372036854775808) → Ev (fun k => switchbackref08_Put.l0 k x0 (strOfNums x4) (i : Int)) (putS (x0.drop i) x4) := by
  induction d with
  | zero =>
    intro x0 x4 i hi _ _ _
    refine Ev.step (fun k => switchbackref08_Put.l0.eq_2 _ _ _ k) ?_
    rw [List.drop_of_length_le (by omega)]
    exact evNeg (by omega) (Ev.now _)
  | succ d ih =>
    intro x0 x4 i hi hm hl hx
    refine Ev.step (fun k => switchbackref08_Put.l0.eq_2 _ _ _ k) ?_
    refine evPos (by omega) (evPos (by omega) ?_)
    rw [drop_cons (by omega), putS]
    have hr := hx _ (rd_mem (l := x0) (i := i) (by omega))
    by_cases h0 : rd x0 (i : Int) < 0
    · rw [if_pos h0]
      exact evPos h0 (Ev.now _)
    · rw [if_neg h0]
      refine evNeg h0 ?_
      have h9 := enc_nine hr
      obtain ⟨m, hm'⟩ : ∃ m : Nat, rd x0 (i : Int) = (m : Int) := ⟨(rd x0 (i : Int)).toNat, by omega⟩
      rw [hm'] at h9 hr ⊢
      rw [Int.toNat_natCast] at h9 ⊢
      refine Ev.bind (one_f m (by omega)) ?_
      have e : wrap64 ((i : Int) + 1) = ((i + 1 : Nat) : Int) := by unfold wrap64; omega
      refine evPos (by rw [strOfNums_size, strOfNums_size, ints_length]; omega) ?_
      rw [str_append, e]
      exact ih x0 _ (i + 1) (by omega) hm (by rw [List.length_append, ints_length]; omega) hx

theorem refput_f (l : List Int) (hl : l.length ≤ 10000) (hx : ∀ x ∈ l, x < 9223372036854775808) : Ev (fun k => switchbackref08_Put.f k l) (putS l []) := by
  have h := refput_l0 l.length l [] 0 (by omega) (by omega) (by simp; omega) hx
  rw [List.drop_zero] at h
  exact h


def checkN (f : List Int) (l : List S67) : Int := if inRanges f l = true then 0 else 1
theorem check_l0 (d : Nat) : ∀ (l : List S67) (f : List Int) (i : Nat), f.length = i + d → f.length ≤ l.length → f.length < 1000 →
    Ev (fun k => intent_check.l0 k l f (f.length : Int) (i : Int)) (checkN (f.drop i) (l.drop i)) := by
  induction d with
  | zero =>
    intro l f i hi _ _
    refine Ev.step (fun k => intent_check.l0.eq_2 _ _ _ _ k) ?_
    rw [List.drop_of_length_le (by omega)]
    exact evNeg (by omega) (Ev.now _)
  | succ d ih =>
    intro l f i hi hl hs
    refine Ev.step (fun k => intent_check.l0.eq_2 _ _ _ _ k) ?_
    have el : l.drop i = rd_T67 l (i : Int) :: l.drop (i + 1) := by
      have h1 : i < l.length := by omega
      rw [List.drop_eq_getElem_cons h1]
      simp [rd_T67, List.getD_eq_getElem?_getD, h1]
    rw [drop_cons (l := f) (by omega), el]
    refine evPos (by omega) (evPos (by omega) (evPos (by omega) (evPos (by omega) ?_)))
    have ei : wrap64 ((i : Int) + 1) = ((i + 1 : Nat) : Int) := by unfold wrap64; omega
    by_cases h1 : rd f (i : Int) < (rd_T67 l (i : Int)).f0
    · refine evPos h1 ?_
      have e : checkN (rd f (i : Int) :: f.drop (i + 1)) (rd_T67 l (i : Int) :: l.drop (i + 1)) = 1 := by
        unfold checkN inRanges
        have : decide ((rd_T67 l (i : Int)).f0 ≤ rd f (i : Int)) = false := by simp; omega
        simp [this]
      rw [e]
      exact Ev.now _
    · refine evNeg h1 ?_
      by_cases h2 : rd f (i : Int) > (rd_T67 l (i : Int)).f1
      · refine evPos h2 ?_
        have e : checkN (rd f (i : Int) :: f.drop (i + 1)) (rd_T67 l (i : Int) :: l.drop (i + 1)) = 1 := by
          unfold checkN inRanges
          have : decide (rd f (i : Int) ≤ (rd_T67 l (i : Int)).f1) = false := by simp; omega
          simp [this]
        rw [e]
        exact Ev.now _
      · refine evNeg h2 ?_
        have e : checkN (rd f (i : Int) :: f.drop (i + 1)) (rd_T67 l (i : Int) :: l.drop (i + 1)) = checkN (f.drop (i + 1)) (l.drop (i + 1)) := by
          have t1 : decide ((rd_T67 l (i : Int)).f0 ≤ rd f (i : Int)) = true := by simp; omega
          have t2 : decide (rd f (i : Int) ≤ (rd_T67 l (i : Int)).f1) = true := by simp; omega
          simp only [checkN, inRanges, t1, t2, Bool.true_and]
        rw [e, ei]
        exact ih l f (i + 1) (by omega) hl hs
theorem check_f (f : List Int) (l : List S67) (h : f.length ≤ l.length) (hs : f.length < 1000) : Ev (fun k => intent_check.f k f l) (checkN f l) := by
  have h := check_l0 f.length l f 0 (by omega) h hs
  rw [List.drop_zero, List.drop_zero] at h
  exact h
/-! ### The reference's bounds -/
def mostR (k : Int) : List Int × Bool := if kindOk k = true then ((rangesOf k).map S67.f1, true) else ([], false)
theorem most_f (k : Int) : Ev (fun m => switchbackref09_Most.f m k) (mostR k) := by
  refine ⟨3, fun m hm => ?_⟩
  obtain ⟨j, rfl⟩ : ∃ j, m = j + 3 := ⟨m - 3, by omega⟩
  by_cases hk : kindOk k = true
  · rcases kindOk_cases hk with rfl | rfl | rfl | rfl | rfl | rfl | rfl | rfl | rfl | rfl | rfl <;> rfl
  · have h : ∀ i : Int, 1 ≤ i → i ≤ 11 → k ≠ i := by
      intro i h1 h2 h3
      subst h3
      exact hk (by simp [kindOk, h1, h2])
    have n1 := h 1 (by decide) (by decide)
    have n2 := h 2 (by decide) (by decide)
    have n3 := h 3 (by decide) (by decide)
    have n4 := h 4 (by decide) (by decide)
    have n5 := h 5 (by decide) (by decide)
    have n6 := h 6 (by decide) (by decide)
    have n7 := h 7 (by decide) (by decide)
    have n8 := h 8 (by decide) (by decide)
    have n9 := h 9 (by decide) (by decide)
    have n10 := h 10 (by decide) (by decide)
    have n11 := h 11 (by decide) (by decide)
    simp [switchbackref09_Most.f, switchbackref09_Most.j0, switchbackref09_Most.j1, switchbackref09_Most.j2, mostR, hk, n1, n2, n3, n4, n5, n6, n7, n8, n9, n10, n11]

def leastR (k : Int) (i : Nat) : Int := if (k = 1 ∧ i < 2) ∨ ((5 ≤ k ∧ k ≤ 8) ∧ i = 0) then 1 else 0
theorem least_f (k : Int) (i : Nat) : switchbackref09_least.f k (i : Int) = some (leastR k i) := by
  unfold switchbackref09_least.f leastR
  grind
def withinR (k : Int) : List Int → List Int → Nat → Bool
  | [], _, _ => true
  | _ :: _, [], _ => false
  | x :: xs, m :: ms, i => (decide (leastR k i ≤ x) && decide (x ≤ m)) && withinR k xs ms (i + 1)
theorem within_l0 (k : Int) (d : Nat) : ∀ (l m : List Int) (i : Nat), l.length = i + d → l.length ≤ m.length → l.length < 1000 →
    Ev (fun q => switchbackref09_within.l0 q k l m (i : Int)) (withinR k (l.drop i) (m.drop i) i) := by
  induction d with
  | zero =>
    intro l m i hi _ _
    refine Ev.step (fun q => switchbackref09_within.l0.eq_2 _ _ _ _ q) ?_
    rw [List.drop_of_length_le (by omega)]
    exact evNeg (by omega) (Ev.now _)
  | succ d ih =>
    intro l m i hi hl hs
    refine Ev.step (fun q => switchbackref09_within.l0.eq_2 _ _ _ _ q) ?_
    rw [drop_cons (l := l) (by omega), drop_cons (l := m) (by omega), least_f]
    refine evPos (by omega) (evPos (by omega) ?_)
    simp only [Option.bind_some]
    have ei : wrap64 ((i : Int) + 1) = ((i + 1 : Nat) : Int) := by unfold wrap64; omega
    by_cases h1 : rd l (i : Int) < leastR k i
    · refine evPos h1 ?_
      have e : withinR k (rd l (i : Int) :: l.drop (i + 1)) (rd m (i : Int) :: m.drop (i + 1)) i = false := by
        have : decide (leastR k i ≤ rd l (i : Int)) = false := by simp; omega
        simp [withinR, this]
      rw [e]
      exact Ev.now _
    · refine evNeg h1 (evPos (by omega) ?_)
      by_cases h2 : rd l (i : Int) > rd m (i : Int)
      · refine evPos h2 ?_
        have e : withinR k (rd l (i : Int) :: l.drop (i + 1)) (rd m (i : Int) :: m.drop (i + 1)) i = false := by
          have : decide (rd l (i : Int) ≤ rd m (i : Int)) = false := by simp; omega
          simp [withinR, this]
        rw [e]
        exact Ev.now _
      · refine evNeg h2 ?_
        have e : withinR k (rd l (i : Int) :: l.drop (i + 1)) (rd m (i : Int) :: m.drop (i + 1)) i = withinR k (l.drop (i + 1)) (m.drop (i + 1)) (i + 1) := by
          have t1 : decide (leastR k i ≤ rd l (i : Int)) = true := by simp; omega
          have t2 : decide (rd l (i : Int) ≤ rd m (i : Int)) = true := by simp; omega
          simp only [withinR, t1, t2, Bool.true_and]
        rw [e, ei]
        exact ih l m (i + 1) (by omega) hl hs
theorem within_eq (k : Int) (hk : kindOk k = true) (f : List Int) (hl : f.length = (rangesOf k).length) : withinR k f ((rangesOf k).map S67.f1) 0 = inRanges f (rangesOf k) := by
  rcases kindOk_cases hk with rfl | rfl | rfl | rfl | rfl | rfl | rfl | rfl | rfl | rfl | rfl
  all_goals simp only [rangesOf, List.length_cons, List.length_nil] at hl
  all_goals simp at hl
  · match f, hl with
    | [a, b, c], _ => simp [withinR, inRanges, rangesOf, leastR]
  · subst hl; rfl
  · subst hl; rfl
  · match f, hl with
    | [a], _ => simp [withinR, inRanges, rangesOf, leastR]
  · match f, hl with
    | [a], _ => simp [withinR, inRanges, rangesOf, leastR]
  · match f, hl with
    | [a], _ => simp [withinR, inRanges, rangesOf, leastR]
  · match f, hl with
    | [a], _ => simp [withinR, inRanges, rangesOf, leastR]
  · match f, hl with
    | [a, b], _ => simp [withinR, inRanges, rangesOf, leastR]
  · match f, hl with
    | [a], _ => simp [withinR, inRanges, rangesOf, leastR]
  · subst hl; rfl
  · match f, hl with
    | [a, b, c, d, e, g, h, i, j, l, m, n], _ => simp [withinR, inRanges, rangesOf, leastR]
theorem within_f (k : Int) (hk : kindOk k = true) (f : List Int) (hl : f.length = (rangesOf k).length) (hs : f.length < 1000) : Ev (fun q => switchbackref09_within.f q k f) (inRanges f (rangesOf k)) := by
  unfold switchbackref09_within.f
  refine Ev.bind (most_f k) ?_
  have h := within_l0 k f.length f (mostR k).1 0 (by omega) (by simp [mostR, hk, hl]) hs
  rw [List.drop_zero, List.drop_zero] at h
  rw [← within_eq k hk f hl]
  have e : (mostR k).1 = (rangesOf k).map S67.f1 := by simp [mostR, hk]
  rw [e] at h ⊢
  exact h
end Go.Proofs.Ytaogmfchpcdboaa.Evs
