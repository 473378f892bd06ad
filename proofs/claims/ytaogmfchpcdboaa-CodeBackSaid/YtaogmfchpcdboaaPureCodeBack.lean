/- switchbacklaw08.CodeBack is true whatever its list of numbers (no condition): what is put is got as it was. -/
import Derived.Test.YtaogmfchpcdboaaPCodeBackx2
import Derived.Test.YtaogmfchpcdboaaMath
namespace Go.Proofs.Ytaogmfchpcdboaa.Pure
open Go.RowKit Go.Proofs.Ytaogmfchpcdboaa.Math Go.Proofs.Ytaogmfchpcdboaa.PCodeBack Go.Proofs.YtaogmfchpcdboaaW.PrintWords Go.Proofs.YtaogmfchpcdboaaW.PrintLast

theorem put_l1 (n : Nat) : ∀ (x4 x7 : List Int) (x8 i : Int) (r : ByteArray × Bool), x4.length + (enc n).length < 140737488355328 →
    Ev (fun k => code_Put.l0 k (x4 ++ ints (enc n)) x7 x8 (wrap64 (i + 1))) r → Ev (fun k => code_Put.l1 k x4 (n : Int) x7 x8 i) r := by
  induction n using Nat.strongRecOn with
  | _ n ih =>
    intro x4 x7 x8 i r hl h
    by_cases hn : n < 128
    · rw [enc_small hn] at h hl
      simp at hl
      refine Ev.step (fun k => code_Put.l1.eq_2 _ _ _ _ _ k) ?_
      have e : ((n : Int) % 256) = n := by omega
      refine evNeg (by omega) (evPos (by omega) ?_)
      rw [e]
      exact h
    · rw [enc_big (by omega)] at h hl
      simp at hl
      refine Ev.step (fun k => code_Put.l1.eq_2 _ _ _ _ _ k) ?_
      have e1 : ((n : Int) % 256) = ((n % 256 : Nat) : Int) := by omega
      have e2 : ((n : Int) / 128) = ((n / 128 : Nat) : Int) := by omega
      have e3 : n % 256 % 128 = n % 128 := by omega
      refine evPos (by omega) (evPos (by omega) ?_)
      rw [e1, or128 _ (by omega), e2, e3]
      refine ih (n / 128) (by omega) _ _ _ _ _ (by simp; omega) ?_
      rw [ints_cons] at h
      rw [List.append_assoc]
      exact h

theorem put_l0 (d : Nat) : ∀ (x4 x7 : List Int) (i : Nat), x7.length = i + d → x7.length < 9223372036854775807 → x4.length + 9 * d < 140737488355328 →
    (∀ x ∈ x7, x < 9223372036854775808) → Ev (fun k => code_Put.l0 k x4 x7 (x7.length : Int) (i : Int)) (putS (x7.drop i) x4) := by
  induction d with
  | zero =>
    intro x4 x7 i hi _ _ _
    refine Ev.step (fun k => code_Put.l0.eq_2 _ _ _ _ k) ?_
    rw [List.drop_of_length_le (by omega)]
    exact evNeg (by omega) (Ev.now _)
  | succ d ih =>
    intro x4 x7 i hi hm hl hx
    refine Ev.step (fun k => code_Put.l0.eq_2 _ _ _ _ k) ?_
    refine evPos (by omega) (evPos (by omega) (evPos (by omega) ?_))
    rw [drop_cons (by omega), putS]
    have hr := hx _ (rd_mem (l := x7) (i := i) (by omega))
    by_cases h0 : rd x7 (i : Int) < 0
    · rw [if_pos h0]
      exact evPos h0 (Ev.now _)
    · rw [if_neg h0]
      refine evNeg h0 ?_
      have h9 := enc_nine hr
      obtain ⟨m, hm'⟩ : ∃ m : Nat, rd x7 (i : Int) = (m : Int) := ⟨(rd x7 (i : Int)).toNat, by omega⟩
      rw [hm'] at h9 ⊢
      rw [Int.toNat_natCast] at h9 ⊢
      refine put_l1 m _ _ _ _ _ (by omega) ?_
      have e : wrap64 ((i : Int) + 1) = ((i + 1 : Nat) : Int) := by unfold wrap64; omega
      rw [e]
      exact ih _ x7 (i + 1) (by omega) hm (by rw [List.length_append, ints_length]; omega) hx

theorem put_f (l : List Int) (hl : l.length ≤ 10000) (hx : ∀ x ∈ l, x < 9223372036854775808) : Ev (fun k => code_Put.f k l) (putS l []) := by
  have h := put_l0 l.length [] l 0 (by omega) (by omega) (by simp; omega) hx
  rw [List.drop_zero] at h
  exact h

theorem get_l0 (d : Nat) : ∀ (x0 : ByteArray) (acc : List Int) (n c i : Nat), x0.size = i + d → x0.size ≤ 140737488351232 → c ≤ 8 → n < 2 ^ (7 * c) → acc.length + d < 17592186044416 →
    Ev (fun k => code_Get.l0 k x0 acc (n : Int) (c : Int) (x0.size : Int) (i : Int)) (dec ((nb x0).drop i) acc n c) := by
  induction d with
  | zero =>
    intro x0 acc n c i hi hs _ _ _
    refine Ev.step (fun k => code_Get.l0.eq_2 _ _ _ _ _ _ k) ?_
    rw [List.drop_of_length_le (by rw [nb_length]; omega), dec]
    refine evNeg (by omega) ?_
    by_cases hc : 0 < c
    · rw [if_pos hc]; exact evPos (by omega) (Ev.now _)
    · rw [if_neg hc]; exact evNeg (by omega) (Ev.now _)
  | succ d ih =>
    intro x0 acc n c i hi hs hc hn hl
    obtain ⟨b, hb, hbt, hdrop⟩ := bt_nb x0 i (by omega)
    have key : ∀ z : Bool, (z = true ↔ ((c = 8 ∧ 128 ≤ b) ∨ (0 < c ∧ b = 0))) →
        Ev (fun k => code_Get.j1 k x0 acc (n : Int) (c : Int) (b : Int) (x0.size : Int) (i : Int) z) (dec ((nb x0).drop i) acc n c) := by
      intro z hz
      refine Ev.step (fun k => code_Get.j1.eq_2 _ _ _ _ _ _ _ _ k) ?_
      rw [hdrop, dec]
      by_cases h1 : (c = 8 ∧ 128 ≤ b) ∨ (0 < c ∧ b = 0)
      · rw [if_pos h1]; exact evPos (hz.2 h1) (Ev.now _)
      · rw [if_neg h1]
        refine evNeg (fun h => h1 (hz.1 h)) ?_
        have e7 : wrap64 (7 * (c : Int)) = ((7 * c : Nat) : Int) := by unfold wrap64; omega
        have e128 : wrap64 (Go.bits .and .u8 (b : Int) 127) = ((b % 128 : Nat) : Int) := by rw [and127 b hb]; unfold wrap64; omega
        have eor : Go.bits .or .i64 (n : Int) (shl .i64 ((b % 128 : Nat) : Int) ((7 * c : Nat) : Int)) = ((n + b % 128 * 2 ^ (7 * c) : Nat) : Int) := by
          have hm : b % 128 < 128 := Nat.mod_lt _ (by decide)
          rw [shl_i64 (b % 128) c hm hc, or_i64 n (b % 128) c hn hm hc]
        have ei : wrap64 ((i : Int) + 1) = ((i + 1 : Nat) : Int) := by unfold wrap64; omega
        have ec : wrap64 ((c : Int) + 1) = ((c + 1 : Nat) : Int) := by unfold wrap64; omega
        rw [e7, e128, eor, ei, ec]
        clear e7 e128 eor ei ec
        refine evPos (by omega) ?_
        by_cases h2 : b < 128
        · rw [if_pos h2, Nat.mod_eq_of_lt h2]
          refine evPos (by omega) (evPos (by omega) ?_)
          have h := ih x0 (acc ++ [((n + b * 2 ^ (7 * c) : Nat) : Int)]) 0 0 (i + 1) (by omega) hs (by omega) (by simp) (by simp; omega)
          rw [Int.natCast_zero] at h
          exact h
        · rw [if_neg h2, show b % 128 = b - 128 from by omega]
          refine evNeg (by omega) ?_
          have hlt : n + (b - 128) * 2 ^ (7 * c) < 2 ^ (7 * (c + 1)) := by
            rw [pow_next]
            have : (b - 128) * 2 ^ (7 * c) ≤ 127 * 2 ^ (7 * c) := Nat.mul_le_mul_right _ (by omega)
            omega
          exact ih x0 acc _ (c + 1) (i + 1) (by omega) hs (by omega) hlt (by omega)
    refine Ev.step (fun k => code_Get.l0.eq_2 _ _ _ _ _ _ k) ?_
    rw [hbt]
    refine evPos (by omega) (evPos (by omega) (evPos (by omega) ?_))
    have k0 : 0 < c → Ev (fun k => code_Get.j1 k x0 acc (n : Int) (c : Int) (b : Int) (x0.size : Int) (i : Int) ((b : Int) == 0)) (dec ((nb x0).drop i) acc n c) ∨ (c = 8 ∧ 128 ≤ b) := by
      intro h0
      by_cases h8 : c = 8 ∧ 128 ≤ b
      · exact .inr h8
      · refine .inl (key _ ?_)
        rw [beq_iff_eq]; omega
    by_cases h8 : c = 8
    · refine evPos (by omega) ?_
      by_cases h2 : 128 ≤ b
      · refine evPos (by omega) ?_
        exact key true (by simp; omega)
      · refine evNeg (by omega) (evPos (by omega) ?_)
        exact (k0 (by omega)).elim id fun h => absurd h.2 h2
    · refine evNeg (by omega) ?_
      by_cases h0 : 0 < c
      · refine evPos (by omega) ?_
        exact (k0 h0).elim id fun h => absurd h.1 h8
      · refine evNeg (by omega) ?_
        exact key false (by simp; omega)

theorem get_f (s : ByteArray) (hs : s.size ≤ 100000) : Ev (fun k => code_Get.f k s) (dec (nb s) [] 0 0) := by
  have h := get_l0 s.size s [] 0 0 0 (by omega) (by omega) (by omega) (by simp) (by simp; omega)
  rw [List.drop_zero] at h
  exact h

theorem same_l0 (d : Nat) : ∀ (a b : List Int) (i : Nat), a.length = b.length → a.length = i + d → a.length < 9223372036854775807 →
    Ev (fun k => switchbackref08_Same.l0 k a b (i : Int)) (decide (a.drop i = b.drop i)) := by
  induction d with
  | zero =>
    intro a b i hab hi _
    refine Ev.step (fun k => switchbackref08_Same.l0.eq_2 _ _ _ k) ?_
    rw [List.drop_of_length_le (by omega), List.drop_of_length_le (by omega)]
    exact evNeg (by omega) (Ev.now _)
  | succ d ih =>
    intro a b i hab hi hm
    refine Ev.step (fun k => switchbackref08_Same.l0.eq_2 _ _ _ k) ?_
    have ei : wrap64 ((i : Int) + 1) = ((i + 1 : Nat) : Int) := by unfold wrap64; omega
    refine evPos (by omega) (evPos (by omega) (evPos (by omega) ?_))
    rw [ei, drop_cons (l := a) (by omega), drop_cons (l := b) (by omega)]
    by_cases h : rd a (i : Int) = rd b (i : Int)
    · refine evPos h ?_
      rw [h]
      have := ih a b (i + 1) hab (by omega) hm
      simpa using this
    · refine evNeg h ?_
      have e : decide (rd a (i : Int) :: a.drop (i + 1) = rd b (i : Int) :: b.drop (i + 1)) = false := by simp [h]
      rw [e]
      exact Ev.now _

theorem same_f (a b : List Int) (ha : a.length < 9223372036854775807) : Ev (fun k => switchbackref08_Same.f k a b) (decide (a = b)) := by
  by_cases h : a.length = b.length
  · have := same_l0 a.length a b 0 h (by omega) ha
    rw [List.drop_zero, List.drop_zero] at this
    refine Ev.congr (fun k => ?_) this
    unfold switchbackref08_Same.f
    rw [if_pos (by omega)]
    rfl
  · have e : decide (a = b) = false := by rw [decide_eq_false_iff_not]; exact fun e => h (by rw [e])
    rw [e]
    refine Ev.congr (fun k => ?_) (Ev.now false)
    unfold switchbackref08_Same.f
    rw [if_neg (by omega)]

theorem awake_f : Ev (fun k => switchbacklaw08_awake.f k) true := by
  have p1 : putS [5, 300] [] = (strOfNums (ints [5, 172, 2]), true) := by
    rw [putS_ok _ _ (by decide)]
    have e : enc 300 = [172, 2] := by rw [enc_big (by decide), enc_small (by decide)]
    have e' : Math.encs [5, 300] = enc 5 ++ (enc 300 ++ []) := rfl
    rw [e', e, enc_small (by decide)]
    rfl
  have p2 : putS [5, -1] [] = (⟨#[]⟩, false) := putS_bad _ _ (by decide)
  have g1 : dec (nb ⟨#[5, 172, 2]⟩) [] 0 0 = ([5, 300], 0) := by decide
  have g2 : dec (nb ⟨#[128, 0]⟩) [] 0 0 = ([], 5) := by decide
  have g3 : dec (nb ⟨#[128]⟩) [] 0 0 = ([], 4) := by decide
  unfold switchbacklaw08_awake.f
  refine Ev.bind (put_f [5, 300] (by decide) (by decide)) ?_
  refine Ev.bind (put_f [5, -1] (by decide) (by decide)) ?_
  refine Ev.bind (get_f _ (by decide)) ?_
  refine Ev.bind (get_f _ (by decide)) ?_
  refine Ev.bind (get_f _ (by decide)) ?_
  rw [p1, p2, g1, g2, g3]
  have ht : (strOfNums (ints [5, 172, 2])).toList = [5, 172, 2] := by rw [toList_of]; rfl
  refine evPos ht (evPos rfl (evNeg (by decide) ?_))
  refine Ev.bind (same_f [5, 300] [5, 300] (by decide)) ?_
  exact Ev.now _

theorem CodeBack : switchbacklaw08_CodeBack.Pure := by
  intro l _ _ hw
  refine Ev.rounds (g := fun k => switchbacklaw08_CodeBack.f k l) ?_
  unfold switchbacklaw08_CodeBack.f
  refine Ev.bind awake_f ?_
  refine evPos rfl ?_
  refine Ev.step (fun k => switchbacklaw08_CodeBack.j0.eq_2 _ _ k) ?_
  by_cases h : (l.length : Int) > 300
  · exact evPos (by simpa using h) (Ev.bind awake_f (Ev.now _))
  · refine evNeg (by simpa using h) ?_
    simp only [Option.bind_some, List.nil_append]
    refine evPos (by simp; omega) ?_
    have hx : ∀ x ∈ l, x < 9223372036854775808 := fun x hx => (wf_i64 (hw x hx)).2
    refine Ev.bind (put_f l (by omega) hx) ?_
    by_cases h0 : ∀ x ∈ l, 0 ≤ x
    · have hok : Ok l := fun x hm => ⟨h0 x hm, hx x hm⟩
      obtain ⟨hl1, hl2⟩ := encs_len l hx
      rw [putS_ok l _ h0, List.nil_append]
      refine evPos rfl ?_
      refine Ev.bind (get_f _ (by rw [strOfNums_size, ints_length]; omega)) ?_
      rw [nb_str _ (encs_byte l), dec_back l hok]
      refine Ev.bind (same_f l l (by omega)) ?_
      rw [strOfNums_size, ints_length]
      have e : wrap64 (9 * (l.length : Int)) = ((9 * l.length : Nat) : Int) := by unfold wrap64; omega
      have e2 : decide (((Math.encs l).length : Int) ≤ ((9 * l.length : Nat) : Int)) = true := decide_eq_true (by omega)
      rw [e, e2]
      exact evPos (by simp) (evPos rfl (evPos (by omega) (Ev.now _)))
    · rw [putS_bad l _ h0]
      refine evNeg (by simp) ?_
      have e : ((⟨#[]⟩ : ByteArray).toList == ([] : List UInt8)) = true := by rw [toList_of]; rfl
      rw [e]
      exact Ev.now _

end Go.Proofs.Ytaogmfchpcdboaa.Pure
