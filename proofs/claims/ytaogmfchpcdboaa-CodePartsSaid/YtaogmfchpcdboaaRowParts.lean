/- switchbacklaw08.CodeParts is true whatever its two lists (no condition): two lists' bytes, one behind the other, are those of both. -/
import Derived.Test.YtaogmfchpcdboaaRows
import Derived.Test.YtaogmfchpcdboaaPartsWalk
import Derived.Test.YtaogmfchpcdboaaMath
import Derived.WalkKit
import Derived.ProofKit
import Derived.OpenShut
import Derived.ShutString
import Derived.ChangeOld
import Derived.Below
import Derived.SizedLaws
namespace Go.Proofs.Ytaogmfchpcdboaa.Pure
open Go.RowKit Go.Proofs.Ytaogmfchpcdboaa.Math Go.Proofs.Ytaogmfchpcdboaa.PCodeParts Go.Proofs.YtaogmfchpcdboaaW.PrintWords Go.Proofs.YtaogmfchpcdboaaW.PrintLast

theorem put_l1 (n : Nat) : ∀ (x4 x7 : List Int) (x8 i : Int) (r : ByteArray × Bool), x4.length + (enc n).length < 140737488355328 →
    Ev (fun k => code_Put.l0 k (x4 ++ ints (enc n)) x7 x8 (wrap64 (i + 1))) r → Ev (fun k => code_Put.l1 k x4 (n : Int) x7 x8 i) r := by
  induction n using Nat.strongRecOn with
  | _ n ih =>
    intro x4 x7 x8 i r hl h
    by_cases hn : n < 128
    · rw [enc_small hn] at h hl
      simp at hl
      refine Ev.step (fun k => code_Put.l1.eq_2 _ _ _ _ _ k) ?_
      have e : ((n : Int) % 256) = n := by omega
      refine evNeg (by omega) (evPos (by omega) ?_)
      rw [e]
      exact h
    · rw [enc_big (by omega)] at h hl
      simp at hl
      refine Ev.step (fun k => code_Put.l1.eq_2 _ _ _ _ _ k) ?_
      have e1 : ((n : Int) % 256) = ((n % 256 : Nat) : Int) := by omega
      have e2 : ((n : Int) / 128) = ((n / 128 : Nat) : Int) := by omega
      have e3 : n % 256 % 128 = n % 128 := by omega
      refine evPos (by omega) (evPos (by omega) ?_)
      rw [e1, or128 _ (by omega), e2, e3]
      refine ih (n / 128) (by omega) _ _ _ _ _ (by simp; omega) ?_
      rw [ints_cons] at h
      rw [List.append_assoc]
      exact h

theorem put_l0 (d : Nat) : ∀ (x4 x7 : List Int) (i : Nat), x7.length = i + d → x7.length < 9223372036854775807 → x4.length + 9 * d < 140737488355328 →
    (∀ x ∈ x7, x < 9223372036854775808) → Ev (fun k => code_Put.l0 k x4 x7 (x7.length : Int) (i : Int)) (putS (x7.drop i) x4) := by
  induction d with
  | zero =>
    intro x4 x7 i hi _ _ _
    refine Ev.step (fun k => code_Put.l0.eq_2 _ _ _ _ k) ?_
    rw [List.drop_of_length_le (by omega)]
    exact evNeg (by omega) (Ev.now _)
  | succ d ih =>
    intro x4 x7 i hi hm hl hx
    refine Ev.step (fun k => code_Put.l0.eq_2 _ _ _ _ k) ?_
    refine evPos (by omega) (evPos (by omega) (evPos (by omega) ?_))
    rw [drop_cons (by omega), putS]
    have hr := hx _ (rd_mem (l := x7) (i := i) (by omega))
    by_cases h0 : rd x7 (i : Int) < 0
    · rw [if_pos h0]
      exact evPos h0 (Ev.now _)
    · rw [if_neg h0]
      refine evNeg h0 ?_
      have h9 := enc_nine hr
      obtain ⟨m, hm'⟩ : ∃ m : Nat, rd x7 (i : Int) = (m : Int) := ⟨(rd x7 (i : Int)).toNat, by omega⟩
      rw [hm'] at h9 ⊢
      rw [Int.toNat_natCast] at h9 ⊢
      refine put_l1 m _ _ _ _ _ (by omega) ?_
      have e : wrap64 ((i : Int) + 1) = ((i + 1 : Nat) : Int) := by unfold wrap64; omega
      rw [e]
      exact ih _ x7 (i + 1) (by omega) hm (by rw [List.length_append, ints_length]; omega) hx

theorem put_f (l : List Int) (hl : l.length ≤ 10000) (hx : ∀ x ∈ l, x < 9223372036854775808) : Ev (fun k => code_Put.f k l) (putS l []) := by
  have h := put_l0 l.length [] l 0 (by omega) (by omega) (by simp; omega) hx
  rw [List.drop_zero] at h
  exact h

theorem get_l0 (d : Nat) : ∀ (x0 : ByteArray) (acc : List Int) (n c i : Nat), x0.size = i + d → x0.size ≤ 140737488351232 → c ≤ 8 → n < 2 ^ (7 * c) → acc.length + d < 17592186044416 →
    Ev (fun k => code_Get.l0 k x0 acc (n : Int) (c : Int) (x0.size : Int) (i : Int)) (dec ((nb x0).drop i) acc n c) := by
  induction d with
  | zero =>
    intro x0 acc n c i hi hs _ _ _
    refine Ev.step (fun k => code_Get.l0.eq_2 _ _ _ _ _ _ k) ?_
    rw [List.drop_of_length_le (by rw [nb_length]; omega), dec]
    refine evNeg (by omega) ?_
    by_cases hc : 0 < c
    · rw [if_pos hc]; exact evPos (by omega) (Ev.now _)
    · rw [if_neg hc]; exact evNeg (by omega) (Ev.now _)
  | succ d ih =>
    intro x0 acc n c i hi hs hc hn hl
    obtain ⟨b, hb, hbt, hdrop⟩ := bt_nb x0 i (by omega)
    have key : ∀ z : Bool, (z = true ↔ ((c = 8 ∧ 128 ≤ b) ∨ (0 < c ∧ b = 0))) →
        Ev (fun k => code_Get.j1 k x0 acc (n : Int) (c : Int) (b : Int) (x0.size : Int) (i : Int) z) (dec ((nb x0).drop i) acc n c) := by
      intro z hz
      refine Ev.step (fun k => code_Get.j1.eq_2 _ _ _ _ _ _ _ _ k) ?_
      rw [hdrop, dec]
      by_cases h1 : (c = 8 ∧ 128 ≤ b) ∨ (0 < c ∧ b = 0)
      · rw [if_pos h1]; exact evPos (hz.2 h1) (Ev.now _)
      · rw [if_neg h1]
        refine evNeg (fun h => h1 (hz.1 h)) ?_
        have e7 : wrap64 (7 * (c : Int)) = ((7 * c : Nat) : Int) := by unfold wrap64; omega
        have e128 : wrap64 (Go.bits .and .u8 (b : Int) 127) = ((b % 128 : Nat) : Int) := by rw [and127 b hb]; unfold wrap64; omega
        have eor : Go.bits .or .i64 (n : Int) (shl .i64 ((b % 128 : Nat) : Int) ((7 * c : Nat) : Int)) = ((n + b % 128 * 2 ^ (7 * c) : Nat) : Int) := by
          have hm : b % 128 < 128 := Nat.mod_lt _ (by decide)
          rw [shl_i64 (b % 128) c hm hc, or_i64 n (b % 128) c hn hm hc]
        have ei : wrap64 ((i : Int) + 1) = ((i + 1 : Nat) : Int) := by unfold wrap64; omega
        have ec : wrap64 ((c : Int) + 1) = ((c + 1 : Nat) : Int) := by unfold wrap64; omega
        rw [e7, e128, eor, ei, ec]
        clear e7 e128 eor ei ec
        refine evPos (by omega) ?_
        by_cases h2 : b < 128
        · rw [if_pos h2, Nat.mod_eq_of_lt h2]
          refine evPos (by omega) (evPos (by omega) ?_)
          have h := ih x0 (acc ++ [((n + b * 2 ^ (7 * c) : Nat) : Int)]) 0 0 (i + 1) (by omega) hs (by omega) (by simp) (by simp; omega)
          rw [Int.natCast_zero] at h
          exact h
        · rw [if_neg h2, show b % 128 = b - 128 from by omega]
          refine evNeg (by omega) ?_
          have hlt : n + (b - 128) * 2 ^ (7 * c) < 2 ^ (7 * (c + 1)) := by
            rw [pow_next]
            have : (b - 128) * 2 ^ (7 * c) ≤ 127 * 2 ^ (7 * c) := Nat.mul_le_mul_right _ (by omega)
            omega
          exact ih x0 acc _ (c + 1) (i + 1) (by omega) hs (by omega) hlt (by omega)
    refine Ev.step (fun k => code_Get.l0.eq_2 _ _ _ _ _ _ k) ?_
    rw [hbt]
    refine evPos (by omega) (evPos (by omega) (evPos (by omega) ?_))
    have k0 : 0 < c → Ev (fun k => code_Get.j1 k x0 acc (n : Int) (c : Int) (b : Int) (x0.size : Int) (i : Int) ((b : Int) == 0)) (dec ((nb x0).drop i) acc n c) ∨ (c = 8 ∧ 128 ≤ b) := by
      intro h0
      by_cases h8 : c = 8 ∧ 128 ≤ b
      · exact .inr h8
      · refine .inl (key _ ?_)
        rw [beq_iff_eq]; omega
    by_cases h8 : c = 8
    · refine evPos (by omega) ?_
      by_cases h2 : 128 ≤ b
      · refine evPos (by omega) ?_
        exact key true (by simp; omega)
      · refine evNeg (by omega) (evPos (by omega) ?_)
        exact (k0 (by omega)).elim id fun h => absurd h.2 h2
    · refine evNeg (by omega) ?_
      by_cases h0 : 0 < c
      · refine evPos (by omega) ?_
        exact (k0 h0).elim id fun h => absurd h.1 h8
      · refine evNeg (by omega) ?_
        exact key false (by simp; omega)

theorem get_f (s : ByteArray) (hs : s.size ≤ 100000) : Ev (fun k => code_Get.f k s) (dec (nb s) [] 0 0) := by
  have h := get_l0 s.size s [] 0 0 0 (by omega) (by omega) (by omega) (by simp) (by simp; omega)
  rw [List.drop_zero] at h
  exact h

theorem same_l0 (d : Nat) : ∀ (a b : List Int) (i : Nat), a.length = b.length → a.length = i + d → a.length < 9223372036854775807 →
    Ev (fun k => switchbackref08_Same.l0 k a b (i : Int)) (decide (a.drop i = b.drop i)) := by
  induction d with
  | zero =>
    intro a b i hab hi _
    refine Ev.step (fun k => switchbackref08_Same.l0.eq_2 _ _ _ k) ?_
    rw [List.drop_of_length_le (by omega), List.drop_of_length_le (by omega)]
    exact evNeg (by omega) (Ev.now _)
  | succ d ih =>
    intro a b i hab hi hm
    refine Ev.step (fun k => switchbackref08_Same.l0.eq_2 _ _ _ k) ?_
    have ei : wrap64 ((i : Int) + 1) = ((i + 1 : Nat) : Int) := by unfold wrap64; omega
    refine evPos (by omega) (evPos (by omega) (evPos (by omega) ?_))
    rw [ei, drop_cons (l := a) (by omega), drop_cons (l := b) (by omega)]
    by_cases h : rd a (i : Int) = rd b (i : Int)
    · refine evPos h ?_
      rw [h]
      have := ih a b (i + 1) hab (by omega) hm
      simpa using this
    · refine evNeg h ?_
      have e : decide (rd a (i : Int) :: a.drop (i + 1) = rd b (i : Int) :: b.drop (i + 1)) = false := by simp [h]
      rw [e]
      exact Ev.now _

theorem same_f (a b : List Int) (ha : a.length < 9223372036854775807) : Ev (fun k => switchbackref08_Same.f k a b) (decide (a = b)) := by
  by_cases h : a.length = b.length
  · have := same_l0 a.length a b 0 h (by omega) ha
    rw [List.drop_zero, List.drop_zero] at this
    refine Ev.congr (fun k => ?_) this
    unfold switchbackref08_Same.f
    rw [if_pos (by omega)]
    rfl
  · have e : decide (a = b) = false := by rw [decide_eq_false_iff_not]; exact fun e => h (by rw [e])
    rw [e]
    refine Ev.congr (fun k => ?_) (Ev.now false)
    unfold switchbackref08_Same.f
    rw [if_neg (by omega)]

theorem awake_f : Ev (fun k => switchbacklaw08_awake.f k) true := by
  have p1 : putS [5, 300] [] = (strOfNums (ints [5, 172, 2]), true) := by
    rw [putS_ok _ _ (by decide)]
    have e : enc 300 = [172, 2] := by rw [enc_big (by decide), enc_small (by decide)]
    have e' : Math.encs [5, 300] = enc 5 ++ (enc 300 ++ []) := rfl
    rw [e', e, enc_small (by decide)]
    rfl
  have p2 : putS [5, -1] [] = (⟨#[]⟩, false) := putS_bad _ _ (by decide)
  have g1 : dec (nb ⟨#[5, 172, 2]⟩) [] 0 0 = ([5, 300], 0) := by decide
  have g2 : dec (nb ⟨#[128, 0]⟩) [] 0 0 = ([], 5) := by decide
  have g3 : dec (nb ⟨#[128]⟩) [] 0 0 = ([], 4) := by decide
  unfold switchbacklaw08_awake.f
  refine Ev.bind (put_f [5, 300] (by decide) (by decide)) ?_
  refine Ev.bind (put_f [5, -1] (by decide) (by decide)) ?_
  refine Ev.bind (get_f _ (by decide)) ?_
  refine Ev.bind (get_f _ (by decide)) ?_
  refine Ev.bind (get_f _ (by decide)) ?_
  rw [p1, p2, g1, g2, g3]
  have ht : (strOfNums (ints [5, 172, 2])).toList = [5, 172, 2] := by rw [toList_of]; rfl
  refine evPos ht (evPos rfl (evNeg (by decide) ?_))
  refine Ev.bind (same_f [5, 300] [5, 300] (by decide)) ?_
  exact Ev.now _

theorem parts_any (A0 : Option Addr) (c0 : Nat) (l0 : List Int) (A1 : Option Addr) (c1 : Nat) (l1 : List Int) (w : World)
    (hr0 : Kd.C (Kd.int .i64) w A0 l0.length l0) (hc0 : l0.length ≤ c0) (hr1 : Kd.C (Kd.int .i64) w A1 l1.length l1) (hc1 : l1.length ≤ c1)
    (hw0 : ∀ x ∈ l0, (Lit.int .i64 x).wf = true) (hw1 : ∀ x ∈ l1, (Lit.int .i64 x).wf = true) :
    Calls Try.prog 7 #[.slice A0 l0.length c0, .slice A1 l1.length c1] w fun e w' => e = .returned (.bool true) ∧ Below w.heap.size w w' := by
  have hx0 : ∀ x ∈ l0, x < 9223372036854775808 := fun x hx => (wf_i64 (hw0 x hx)).2
  have hx1 : ∀ x ∈ l1, x < 9223372036854775808 := fun x hx => (wf_i64 (hw1 x hx)).2
  obtain ⟨Ka, ha⟩ := awake_f
  by_cases h0 : 200 < l0.length
  · exact parts_long0 Ka A0 c0 l0 A1 c1 l1 w hr0 hc0 hr1 hc1 ⟨ha Ka (Nat.le_refl _)⟩ (decide_eq_true (by omega)) (decide_eq_true h0)
  by_cases h1 : 200 < l1.length
  · exact parts_long1 Ka A0 c0 l0 A1 c1 l1 w hr0 hc0 hr1 hc1 ⟨ha Ka (Nat.le_refl _)⟩ (decide_eq_false (by omega)) (decide_eq_false h0) (decide_eq_true (by omega)) (decide_eq_true h1)
  obtain ⟨K0, p0⟩ := put_f l0 (by omega) hx0
  obtain ⟨K1, p1⟩ := put_f l1 (by omega) hx1
  have q0 := p0 (max K0 K1) (Nat.le_max_left _ _)
  have q1 := p1 (max K0 K1) (Nat.le_max_right _ _)
  clear p0 p1
  by_cases n0 : ¬ ∀ x ∈ l0, 0 ≤ x
  · rw [putS_bad l0 _ n0] at q0
    exact parts_bad0 Ka (max K0 K1) A0 c0 l0 A1 c1 l1 w hr0 hc0 hr1 hc1 ⟨ha Ka (Nat.le_refl _)⟩ (decide_eq_false (by omega)) (decide_eq_false h0) (decide_eq_false (by omega)) (decide_eq_false h1)
      _ _ _ [] l0 [] l1 ⟨rfl⟩ ⟨by simp; omega⟩ ⟨rfl⟩ ⟨rfl⟩ ⟨by simp; omega⟩ ⟨rfl⟩ ⟨q0⟩ ⟨q1⟩
  replace n0 := Classical.not_not.1 n0
  rw [putS_ok l0 _ n0, List.nil_append] at q0
  by_cases n1 : ¬ ∀ x ∈ l1, 0 ≤ x
  · rw [putS_bad l1 _ n1] at q1
    exact parts_bad1 Ka (max K0 K1) A0 c0 l0 A1 c1 l1 w hr0 hc0 hr1 hc1 ⟨ha Ka (Nat.le_refl _)⟩ (decide_eq_false (by omega)) (decide_eq_false h0) (decide_eq_false (by omega)) (decide_eq_false h1)
      _ _ [] l0 [] l1 ⟨rfl⟩ ⟨by simp; omega⟩ ⟨rfl⟩ ⟨rfl⟩ ⟨by simp; omega⟩ ⟨rfl⟩ ⟨q0⟩ ⟨q1⟩
  replace n1 := Classical.not_not.1 n1
  rw [putS_ok l1 _ n1, List.nil_append] at q1
  have hok0 : Ok l0 := fun x hx => ⟨n0 x hx, hx0 x hx⟩
  have hok1 : Ok l1 := fun x hx => ⟨n1 x hx, hx1 x hx⟩
  have hx : ∀ x ∈ l0 ++ l1, x < 9223372036854775808 := fun x hx => (List.mem_append.1 hx).elim (hx0 x) (hx1 x)
  have n : ∀ x ∈ l0 ++ l1, 0 ≤ x := fun x hx => (List.mem_append.1 hx).elim (n0 x) (n1 x)
  have s0 := encs_len l0 hx0
  have s1 := encs_len l1 hx1
  obtain ⟨K2, p2⟩ := put_f (l0 ++ l1) (by simp; omega) hx
  rw [putS_ok _ _ n, List.nil_append, Math.encs_append, ints_append, ← str_append] at p2
  have z0 : (strOfNums (ints (Math.encs l0))).size = (Math.encs l0).length := by rw [strOfNums_size, ints_length]
  have z1 : (strOfNums (ints (Math.encs l1))).size = (Math.encs l1).length := by rw [strOfNums_size, ints_length]
  have e128 : (⟨#[128]⟩ : ByteArray) = strOfNums (ints [128]) := rfl
  have e129 : (⟨#[128, 1]⟩ : ByteArray) = strOfNums (ints [128, 1]) := rfl
  have b : ∀ t : List Nat, (∀ y ∈ t, y < 256) → ∀ y ∈ Math.encs l0 ++ Math.encs l1 ++ t, y < 256 := by
    intro t ht y hy
    rcases List.mem_append.1 hy with hy | hy
    · exact (List.mem_append.1 hy).elim (encs_byte l0 y) (encs_byte l1 y)
    · exact ht y hy
  obtain ⟨K3, p3⟩ := get_f (strOfNums (ints (Math.encs l0)) ++ strOfNums (ints (Math.encs l1)) ++ ⟨#[128]⟩) (by rw [e128, str_append, str_append, strOfNums_size]; simp [ints_length]; omega)
  obtain ⟨K4, p4⟩ := get_f (strOfNums (ints (Math.encs l0)) ++ strOfNums (ints (Math.encs l1)) ++ ⟨#[128, 1]⟩) (by rw [e129, str_append, str_append, strOfNums_size]; simp [ints_length]; omega)
  rw [e128, str_append, str_append, ← ints_append, ← ints_append, nb_str _ (b [128] (by simp)), List.append_assoc, dec_encs l0 _ _ hok0, dec_encs l1 _ _ hok1] at p3
  rw [e129, str_append, str_append, ← ints_append, ← ints_append, nb_str _ (b [128, 1] (by simp)), List.append_assoc, dec_encs l0 _ _ hok0, dec_encs l1 _ _ hok1] at p4
  have d3 : ∀ acc : List Int, dec [128] acc 0 0 = ([], 4) := fun acc => by simp [dec]
  have d4 : ∀ acc : List Int, dec [128, 1] acc 0 0 = (acc ++ [128], 0) := fun acc => by simp [dec]
  rw [d3] at p3
  rw [d4, List.nil_append] at p4
  have r2 := p2 (max K2 (max K3 K4)) (by omega)
  have r3 := p3 (max K2 (max K3 K4)) (by omega)
  have r4 := p4 (max K2 (max K3 K4)) (by omega)
  have tl : ((l0 ++ l1 ++ [(128 : Int)]).length : Int) = (l0.length : Int) + (l1.length : Int) + 1 := by simp; omega
  refine parts_main Ka (max K0 K1) (max K2 (max K3 K4)) A0 c0 l0 A1 c1 l1 w hr0 hc0 hr1 hc1 ⟨ha Ka (Nat.le_refl _)⟩ (decide_eq_false (by omega)) (decide_eq_false h0) (decide_eq_false (by omega)) (decide_eq_false h1)
      (strOfNums (ints (Math.encs l0))) (strOfNums (ints (Math.encs l1))) [] l0 [] l1 ⟨rfl⟩ ⟨by simp; omega⟩ ⟨rfl⟩ ⟨rfl⟩ ⟨by simp; omega⟩ ⟨rfl⟩ ⟨q0⟩ ⟨q1⟩
      [] l0 (l0 ++ l1) ⟨rfl⟩ ⟨by simp; omega⟩ ⟨rfl⟩ ⟨by omega⟩ ⟨rfl⟩ (strOfNums (ints (Math.encs l0)) ++ strOfNums (ints (Math.encs l1))) ⟨r2⟩ [] 4 ⟨?_⟩ (l0 ++ l1 ++ [128]) 0 ⟨?_⟩
      (eq_false (by omega)) (eq_false (by omega)) (eq_false (by omega)) (by simp) rfl rfl ?_ ((l0.length : Int) + (l1.length : Int)) ?_ (decide_eq_true (by omega)) (decide_eq_true (by omega)) ?_
  · rw [e128, str_append, str_append, ← ints_append, ← ints_append, List.append_assoc]; exact r3
  · rw [e129, str_append, str_append, ← ints_append, ← ints_append, List.append_assoc]; exact r4
  · rw [tl, wrap64_in (n := (l0.length : Int) + (l1.length : Int)) (by omega) (by omega), wrap64_in (by omega) (by omega), beq_self_eq_true]
  · rw [tl, wrap64_in (by omega) (by omega)]; omega
  · have e : (l0.length : Int) + (l1.length : Int) = (((l0 ++ l1).length : Nat) : Int) := by simp
    rw [e]
    have : rd (l0 ++ l1 ++ [(128 : Int)]) (((l0 ++ l1).length : Nat) : Int) = 128 := by
      unfold rd
      rw [Int.toNat_natCast, List.getD_eq_getElem?_getD, List.getElem?_append_right (Nat.le_refl _), Nat.sub_self]
      rfl
    rw [this]
    rfl

end Go.Proofs.Ytaogmfchpcdboaa.Pure

namespace Go.Proofs.Ytaogmfchpcdboaa.PartsRow
open Go.ChangeShapes Go.WideShapes Go.ChangeAt Go.RowKit
open Go.ChangeMaps (open_string shut_string)
open Go.Proofs.YtaogmfchpcdboaaW.PrintWords
theorem own : ownKnob Try.prog.godebug = none := by kernel_rfl
theorem laidOut : laidOutB Try.prog = true := by kernel_rfl
def IsRow (k : IntKind) (w : World) (a : Option Addr) (len cap : Nat) (zs : List Int) : Prop :=
  (a = none ∧ len = 0 ∧ cap = 0 ∧ zs = []) ∨
  ∃ x, a = some x ∧ len ≤ cap ∧ cap ≤ maxLen ∧ zs.length = cap ∧ (∀ i, i < zs.length → w.cell? (x.add i) = some (.int k (zs.getD i 0))) ∧ ∀ n ∈ zs, (Lit.int k n).wf = true
theorem called (a0 : Option Addr) (len0 cap0 : Nat) (z0 : List Int) (a1 : Option Addr) (len1 cap1 : Nat) (z1 : List Int) (w : World) (w0 : IsRow .i64 w a0 len0 cap0 z0) (w1 : IsRow .i64 w a1 len1 cap1 z1) :
    Calls Try.prog 7 #[.slice a0 len0 cap0, .slice a1 len1 cap1] w fun e w' => e = .returned (.bool true) ∧ Below w.heap.size w w' := by
  obtain ⟨l0, rfl, hr0, _, hw0, hc0⟩ := ReadsInt.ofRowC w0
  obtain ⟨l1, rfl, hr1, _, hw1, hc1⟩ := ReadsInt.ofRowC w1
  exact Pure.parts_any _ _ l0 _ _ l1 w (Kd.C_of_reads (d := (0 : Int)) (h1 := fun _ => rfl) hr0) hc0 (Kd.C_of_reads (d := (0 : Int)) (h1 := fun _ => rfl) hr1) hc1 hw0 hw1
set_option maxRecDepth 100000 in
theorem lifted (os : Os) (started : os.Started) (H : Type) (enc : TypeId × Value → H) :
    ReturnsInHanded {} Try.checked os 7 .any (Rows.codePartsSpec.pre6 enc Try.prog Try.f7 Rows.codePartsRow.domain false) (Rows.codePartsSpec.post enc Try.prog Try.f7 false true false false) := by
  refine returnsInHanded_of_change_sized (C := Try.checked) own started (by kernel_rfl) Try.func7
    (ChangeSpec.witness6 (enc := enc) (C := Try.checked) false ⟨#[], #[.slice none 0 0, .slice none 0 0], []⟩ 8 (by kernel_rfl) (by kernel_rfl) (by kernel_rfl) (by kernel_rfl)) ?_
  intro W base args ds gs before hval0 hW _ _ _
  have hval : ∀ (j : Nat) t v, Try.f7.params[j]? = some t → args[j]? = some v → Value.okWide Try.prog W .any base t v := hval0
  have hW' := hW
  obtain ⟨p, q, hA0, hV, rfl, hfz, hnd⟩ := hW
  have hA : DataW.TrodAll enc Try.prog W 0 (fun _ => true) true Try.f7.params.toList args.toList ds p := hA0
  rw [Try.params7] at hA hval
  obtain ⟨v0, vs0, d0, ds0, p0, q0, hargs, rfl, rfl, h0, r0⟩ := trodAll_cons hA
  obtain ⟨v1, vs1, d1, ds1, p1, q1, rfl, rfl, rfl, h1, r1⟩ := trodAll_cons r0
  obtain ⟨rfl, rfl, rfl⟩ := trodAll_nil r1
  obtain rfl : args = #[v0, v1] := by cases args; simp_all
  obtain ⟨rfl, rfl⟩ := trodVars_none hV
  obtain ⟨a0, len0, cap0, rfl⟩ := okWide_slice Try.underlying22 (hval 0 22 v0 rfl rfl)
  have k0 := h0
  have lt0 : ∀ x ∈ p0, x.block < W.heap.size := by obtain ⟨m, hm⟩ := k0; exact DataW.trod_lt m _ _ _ hm
  obtain ⟨z0, w0⟩ : ∃ zs, IsRow .i64 W a0 len0 cap0 zs := by
    obtain ⟨fuel, hf⟩ := h0
    rcases open_ints Try.underlying22 Try.underlying3 (by kernel_rfl) hf with ⟨hcs, _⟩ | ⟨x, l, c, zs, hcs, _, hl, hm, hz, _, hcell, hwz⟩
    · simp [Value.cells] at hcs
      obtain ⟨rfl, rfl, rfl⟩ := hcs
      exact ⟨[], .inl ⟨rfl, rfl, rfl, rfl⟩⟩
    · simp [Value.cells] at hcs
      obtain ⟨rfl, rfl, rfl⟩ := hcs
      exact ⟨zs, .inr ⟨_, rfl, hl, hm, by simpa using hz, hcell, hwz⟩⟩
  obtain ⟨a1, len1, cap1, rfl⟩ := okWide_slice Try.underlying22 (hval 1 22 v1 rfl rfl)
  have k1 := h1
  have lt1 : ∀ x ∈ p1, x.block < W.heap.size := by obtain ⟨m, hm⟩ := k1; exact DataW.trod_lt m _ _ _ hm
  obtain ⟨z1, w1⟩ : ∃ zs, IsRow .i64 W a1 len1 cap1 zs := by
    obtain ⟨fuel, hf⟩ := h1
    rcases open_ints Try.underlying22 Try.underlying3 (by kernel_rfl) hf with ⟨hcs, _⟩ | ⟨x, l, c, zs, hcs, _, hl, hm, hz, _, hcell, hwz⟩
    · simp [Value.cells] at hcs
      obtain ⟨rfl, rfl, rfl⟩ := hcs
      exact ⟨[], .inl ⟨rfl, rfl, rfl, rfl⟩⟩
    · simp [Value.cells] at hcs
      obtain ⟨rfl, rfl, rfl⟩ := hcs
      exact ⟨zs, .inr ⟨_, rfl, hl, hm, by simpa using hz, hcell, hwz⟩⟩
  clear hA0 hval0
  refine (called a0 len0 cap0 z0 a1 len1 cap1 z1 W w0 w1).mono fun e W' ⟨he, bel⟩ => ?_
  subst he
  exact ⟨_, rfl, _, _, _, [], _, [], hW', trodAll_mk1 (shut_bool Try.underlying4 _), (trodAll_cons_mk (Below.trod laidOut (by kernel_rfl) (of_decide_eq_true (by kernel_rfl)) k0 bel lt0) (trodAll_cons_mk (Below.trod laidOut (by kernel_rfl) (of_decide_eq_true (by kernel_rfl)) k1 bel lt1) trodAll_mk0)), rfl, bel.frame _, fun h => by cases h⟩
theorem over : Rows.codePartsRow.holds Try.pinned (OpenSpec.ofChange Rows.codePartsSpec) :=
  OpenClaim.holds_of_wide 7 Try.f7 rfl rfl rfl rfl rfl rfl rfl ⟨rfl, rfl, rfl, rfl, rfl⟩ rfl rfl rfl rfl rfl (by kernel_rfl) Try.func7 (by kernel_rfl)
    (of_decide_eq_true (by kernel_rfl)) (by unfold Func.isWrapper; first | (rw [if_pos (by decide +kernel)]; kernel_rfl) | (rw [if_neg (by decide +kernel)]; exact ⟨rfl, rfl⟩))
    (fun os started H enc _ => lifted os started H enc)
end Go.Proofs.Ytaogmfchpcdboaa.PartsRow
namespace Go.Proofs.Ytaogmfchpcdboaa
theorem codeParts_holds : Rows.CodePartsSaid := PartsRow.over
#print axioms codeParts_holds
end Go.Proofs.Ytaogmfchpcdboaa
