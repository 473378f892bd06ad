/- switchbacklaw08.CodeGets is true whatever its bytes (no condition): the program and the reference read the same numbers, or fail alike. -/
import Derived.Test.YtaogmfchpcdboaaPCodeGetsx2
import Derived.Test.YtaogmfchpcdboaaMath
namespace Go.Proofs.Ytaogmfchpcdboaa.Pure
open Go.RowKit Go.Proofs.Ytaogmfchpcdboaa.Math Go.Proofs.Ytaogmfchpcdboaa.PCodeGets Go.Proofs.YtaogmfchpcdboaaW.PrintWords Go.Proofs.YtaogmfchpcdboaaW.PrintLast

theorem put_l1 (n : Nat) : ∀ (x4 x7 : List Int) (x8 i : Int) (r : ByteArray × Bool), x4.length + (enc n).length < 140737488355328 →
    Ev (fun k => code_Put.l0 k (x4 ++ ints (enc n)) x7 x8 (wrap64 (i + 1))) r → Ev (fun k => code_Put.l1 k x4 (n : Int) x7 x8 i) r := by
  induction n using Nat.strongRecOn with
  | _ n ih =>
    intro x4 x7 x8 i r hl h
    by_cases hn : n < 128
    · rw [enc_small hn] at h hl
      simp at hl
      refine Ev.step (fun k => code_Put.l1.eq_2 _ _ _ _ _ k) ?_
      have e : ((n : Int) % 256) = n := by omega
      refine evNeg (by omega) (evPos (by omega) ?_)
      rw [e]
      exact h
    · rw [enc_big (by omega)] at h hl
      simp at hl
      refine Ev.step (fun k => code_Put.l1.eq_2 _ _ _ _ _ k) ?_
      have e1 : ((n : Int) % 256) = ((n % 256 : Nat) : Int) := by omega
      have e2 : ((n : Int) / 128) = ((n / 128 : Nat) : Int) := by omega
      have e3 : n % 256 % 128 = n % 128 := by omega
      refine evPos (by omega) (evPos (by omega) ?_)
      rw [e1, or128 _ (by omega), e2, e3]
      refine ih (n / 128) (by omega) _ _ _ _ _ (by simp; omega) ?_
      rw [ints_cons] at h
      rw [List.append_assoc]
      exact h

theorem put_l0 (d : Nat) : ∀ (x4 x7 : List Int) (i : Nat), x7.length = i + d → x7.length < 9223372036854775807 → x4.length + 9 * d < 140737488355328 →
    (∀ x ∈ x7, x < 9223372036854775808) → Ev (fun k => code_Put.l0 k x4 x7 (x7.length : Int) (i : Int)) (putS (x7.drop i) x4) := by
  induction d with
  | zero =>
    intro x4 x7 i hi _ _ _
    refine Ev.step (fun k => code_Put.l0.eq_2 _ _ _ _ k) ?_
    rw [List.drop_of_length_le (by omega)]
    exact evNeg (by omega) (Ev.now _)
  | succ d ih =>
    intro x4 x7 i hi hm hl hx
    refine Ev.step (fun k => code_Put.l0.eq_2 _ _ _ _ k) ?_
    refine evPos (by omega) (evPos (by omega) (evPos (by omega) ?_))
    rw [drop_cons (by omega), putS]
    have hr := hx _ (rd_mem (l := x7) (i := i) (by omega))
    by_cases h0 : rd x7 (i : Int) < 0
    · rw [if_pos h0]
      exact evPos h0 (Ev.now _)
    · rw [if_neg h0]
      refine evNeg h0 ?_
      have h9 := enc_nine hr
      obtain ⟨m, hm'⟩ : ∃ m : Nat, rd x7 (i : Int) = (m : Int) := ⟨(rd x7 (i : Int)).toNat, by omega⟩
      rw [hm'] at h9 ⊢
      rw [Int.toNat_natCast] at h9 ⊢
      refine put_l1 m _ _ _ _ _ (by omega) ?_
      have e : wrap64 ((i : Int) + 1) = ((i + 1 : Nat) : Int) := by unfold wrap64; omega
      rw [e]
      exact ih _ x7 (i + 1) (by omega) hm (by rw [List.length_append, ints_length]; omega) hx

theorem put_f (l : List Int) (hl : l.length ≤ 10000) (hx : ∀ x ∈ l, x < 9223372036854775808) : Ev (fun k => code_Put.f k l) (putS l []) := by
  have h := put_l0 l.length [] l 0 (by omega) (by omega) (by simp; omega) hx
  rw [List.drop_zero] at h
  exact h

theorem get_l0 (d : Nat) : ∀ (x0 : ByteArray) (acc : List Int) (n c i : Nat), x0.size = i + d → x0.size ≤ 140737488351232 → c ≤ 8 → n < 2 ^ (7 * c) → acc.length + d < 17592186044416 →
    Ev (fun k => code_Get.l0 k x0 acc (n : Int) (c : Int) (x0.size : Int) (i : Int)) (dec ((nb x0).drop i) acc n c) := by
  induction d with
  | zero =>
    intro x0 acc n c i hi hs _ _ _
    refine Ev.step (fun k => code_Get.l0.eq_2 _ _ _ _ _ _ k) ?_
    rw [List.drop_of_length_le (by rw [nb_length]; omega), dec]
    refine evNeg (by omega) ?_
    by_cases hc : 0 < c
    · rw [if_pos hc]; exact evPos (by omega) (Ev.now _)
    · rw [if_neg hc]; exact evNeg (by omega) (Ev.now _)
  | succ d ih =>
    intro x0 acc n c i hi hs hc hn hl
    obtain ⟨b, hb, hbt, hdrop⟩ := bt_nb x0 i (by omega)
    have key : ∀ z : Bool, (z = true ↔ ((c = 8 ∧ 128 ≤ b) ∨ (0 < c ∧ b = 0))) →
        Ev (fun k => code_Get.j1 k x0 acc (n : Int) (c : Int) (b : Int) (x0.size : Int) (i : Int) z) (dec ((nb x0).drop i) acc n c) := by
      intro z hz
      refine Ev.step (fun k => code_Get.j1.eq_2 _ _ _ _ _ _ _ _ k) ?_
      rw [hdrop, dec]
      by_cases h1 : (c = 8 ∧ 128 ≤ b) ∨ (0 < c ∧ b = 0)
      · rw [if_pos h1]; exact evPos (hz.2 h1) (Ev.now _)
      · rw [if_neg h1]
        refine evNeg (fun h => h1 (hz.1 h)) ?_
        have e7 : wrap64 (7 * (c : Int)) = ((7 * c : Nat) : Int) := by unfold wrap64; omega
        have e128 : wrap64 (Go.bits .and .u8 (b : Int) 127) = ((b % 128 : Nat) : Int) := by rw [and127 b hb]; unfold wrap64; omega
        have eor : Go.bits .or .i64 (n : Int) (shl .i64 ((b % 128 : Nat) : Int) ((7 * c : Nat) : Int)) = ((n + b % 128 * 2 ^ (7 * c) : Nat) : Int) := by
          have hm : b % 128 < 128 := Nat.mod_lt _ (by decide)
          rw [shl_i64 (b % 128) c hm hc, or_i64 n (b % 128) c hn hm hc]
        have ei : wrap64 ((i : Int) + 1) = ((i + 1 : Nat) : Int) := by unfold wrap64; omega
        have ec : wrap64 ((c : Int) + 1) = ((c + 1 : Nat) : Int) := by unfold wrap64; omega
        rw [e7, e128, eor, ei, ec]
        clear e7 e128 eor ei ec
        refine evPos (by omega) ?_
        by_cases h2 : b < 128
        · rw [if_pos h2, Nat.mod_eq_of_lt h2]
          refine evPos (by omega) (evPos (by omega) ?_)
          have h := ih x0 (acc ++ [((n + b * 2 ^ (7 * c) : Nat) : Int)]) 0 0 (i + 1) (by omega) hs (by omega) (by simp) (by simp; omega)
          rw [Int.natCast_zero] at h
          exact h
        · rw [if_neg h2, show b % 128 = b - 128 from by omega]
          refine evNeg (by omega) ?_
          have hlt : n + (b - 128) * 2 ^ (7 * c) < 2 ^ (7 * (c + 1)) := by
            rw [pow_next]
            have : (b - 128) * 2 ^ (7 * c) ≤ 127 * 2 ^ (7 * c) := Nat.mul_le_mul_right _ (by omega)
            omega
          exact ih x0 acc _ (c + 1) (i + 1) (by omega) hs (by omega) hlt (by omega)
    refine Ev.step (fun k => code_Get.l0.eq_2 _ _ _ _ _ _ k) ?_
    rw [hbt]
    refine evPos (by omega) (evPos (by omega) (evPos (by omega) ?_))
    have k0 : 0 < c → Ev (fun k => code_Get.j1 k x0 acc (n : Int) (c : Int) (b : Int) (x0.size : Int) (i : Int) ((b : Int) == 0)) (dec ((nb x0).drop i) acc n c) ∨ (c = 8 ∧ 128 ≤ b) := by
      intro h0
      by_cases h8 : c = 8 ∧ 128 ≤ b
      · exact .inr h8
      · refine .inl (key _ ?_)
        rw [beq_iff_eq]; omega
    by_cases h8 : c = 8
    · refine evPos (by omega) ?_
      by_cases h2 : 128 ≤ b
      · refine evPos (by omega) ?_
        exact key true (by simp; omega)
      · refine evNeg (by omega) (evPos (by omega) ?_)
        exact (k0 (by omega)).elim id fun h => absurd h.2 h2
    · refine evNeg (by omega) ?_
      by_cases h0 : 0 < c
      · refine evPos (by omega) ?_
        exact (k0 h0).elim id fun h => absurd h.1 h8
      · refine evNeg (by omega) ?_
        exact key false (by simp; omega)

theorem get_f (s : ByteArray) (hs : s.size ≤ 100000) : Ev (fun k => code_Get.f k s) (dec (nb s) [] 0 0) := by
  have h := get_l0 s.size s [] 0 0 0 (by omega) (by omega) (by omega) (by simp) (by simp; omega)
  rw [List.drop_zero] at h
  exact h

theorem same_l0 (d : Nat) : ∀ (a b : List Int) (i : Nat), a.length = b.length → a.length = i + d → a.length < 9223372036854775807 →
    Ev (fun k => switchbackref08_Same.l0 k a b (i : Int)) (decide (a.drop i = b.drop i)) := by
  induction d with
  | zero =>
    intro a b i hab hi _
    refine Ev.step (fun k => switchbackref08_Same.l0.eq_2 _ _ _ k) ?_
    rw [List.drop_of_length_le (by omega), List.drop_of_length_le (by omega)]
    exact evNeg (by omega) (Ev.now _)
  | succ d ih =>
    intro a b i hab hi hm
    refine Ev.step (fun k => switchbackref08_Same.l0.eq_2 _ _ _ k) ?_
    have ei : wrap64 ((i : Int) + 1) = ((i + 1 : Nat) : Int) := by unfold wrap64; omega
    refine evPos (by omega) (evPos (by omega) (evPos (by omega) ?_))
    rw [ei, drop_cons (l := a) (by omega), drop_cons (l := b) (by omega)]
    by_cases h : rd a (i : Int) = rd b (i : Int)
    · refine evPos h ?_
      rw [h]
      have := ih a b (i + 1) hab (by omega) hm
      simpa using this
    · refine evNeg h ?_
      have e : decide (rd a (i : Int) :: a.drop (i + 1) = rd b (i : Int) :: b.drop (i + 1)) = false := by simp [h]
      rw [e]
      exact Ev.now _

theorem same_f (a b : List Int) (ha : a.length < 9223372036854775807) : Ev (fun k => switchbackref08_Same.f k a b) (decide (a = b)) := by
  by_cases h : a.length = b.length
  · have := same_l0 a.length a b 0 h (by omega) ha
    rw [List.drop_zero, List.drop_zero] at this
    refine Ev.congr (fun k => ?_) this
    unfold switchbackref08_Same.f
    rw [if_pos (by omega)]
    rfl
  · have e : decide (a = b) = false := by rw [decide_eq_false_iff_not]; exact fun e => h (by rw [e])
    rw [e]
    refine Ev.congr (fun k => ?_) (Ev.now false)
    unfold switchbackref08_Same.f
    rw [if_neg (by omega)]

theorem awake_f : Ev (fun k => switchbacklaw08_awake.f k) true := by
  have p1 : putS [5, 300] [] = (strOfNums (ints [5, 172, 2]), true) := by
    rw [putS_ok _ _ (by decide)]
    have e : enc 300 = [172, 2] := by rw [enc_big (by decide), enc_small (by decide)]
    have e' : Math.encs [5, 300] = enc 5 ++ (enc 300 ++ []) := rfl
    rw [e', e, enc_small (by decide)]
    rfl
  have p2 : putS [5, -1] [] = (⟨#[]⟩, false) := putS_bad _ _ (by decide)
  have g1 : dec (nb ⟨#[5, 172, 2]⟩) [] 0 0 = ([5, 300], 0) := by decide
  have g2 : dec (nb ⟨#[128, 0]⟩) [] 0 0 = ([], 5) := by decide
  have g3 : dec (nb ⟨#[128]⟩) [] 0 0 = ([], 4) := by decide
  unfold switchbacklaw08_awake.f
  refine Ev.bind (put_f [5, 300] (by decide) (by decide)) ?_
  refine Ev.bind (put_f [5, -1] (by decide) (by decide)) ?_
  refine Ev.bind (get_f _ (by decide)) ?_
  refine Ev.bind (get_f _ (by decide)) ?_
  refine Ev.bind (get_f _ (by decide)) ?_
  rw [p1, p2, g1, g2, g3]
  have ht : (strOfNums (ints [5, 172, 2])).toList = [5, 172, 2] := by rw [toList_of]; rfl
  refine evPos ht (evPos rfl (evNeg (by decide) ?_))
  refine Ev.bind (same_f [5, 300] [5, 300] (by decide)) ?_
  exact Ev.now _

/-- The numbers' groups, as the reference adds them: from the last byte to the first. -/
def valR : List Nat → Nat
  | [] => 0
  | b :: r => b % 128 + 128 * valR r

theorem valR_lt (l : List Nat) : valR l < 2 ^ (7 * l.length) := by
  induction l with
  | nil => simp [valR]
  | cons b r ih => rw [valR, List.length_cons, pow_next]; omega

/-- 'dec' goes through bytes that are 128 and above. -/
theorem dec_run (p : List Nat) : ∀ (r : List Nat) (acc : List Int) (n c : Nat), (∀ b ∈ p, 128 ≤ b ∧ b < 256) → c + p.length ≤ 8 →
    dec (p ++ r) acc n c = dec r acc (n + valR p * 2 ^ (7 * c)) (c + p.length) := by
  induction p with
  | nil => intro r acc n c _ _; simp [valR]
  | cons b p ih =>
    intro r acc n c hp hc
    have hb := hp b (by simp)
    simp at hc
    show dec (b :: (p ++ r)) acc n c = _
    rw [dec, if_neg (by omega), if_neg (by omega), ih r acc _ (c + 1) (fun x hx => hp x (by simp [hx])) (by omega)]
    have e : b - 128 = b % 128 := by omega
    have e1 : n + b % 128 * 2 ^ (7 * c) + valR p * (128 * 2 ^ (7 * c)) = n + (b % 128 + 128 * valR p) * 2 ^ (7 * c) := by
      rw [Nat.add_mul, ← Nat.mul_assoc, Nat.mul_comm (valR p) 128, Nat.add_assoc]
    have e2 : c + 1 + p.length = c + (b :: p).length := by simp; omega
    rw [e, pow_next, e1, e2, valR]

theorem take_next {l : List Nat} {a j b : Nat} {r : List Nat} (h : l.drop (a + j) = b :: r) : (l.drop a).take (j + 1) = (l.drop a).take j ++ [b] := by
  rw [List.take_add, List.drop_drop, h]
  rfl

theorem dec_nine (p : List Nat) (b : Nat) (r : List Nat) (acc : List Int) (hp : ∀ b ∈ p, 128 ≤ b ∧ b < 256) (hl : p.length = 8) (hb : 128 ≤ b) : dec (p ++ b :: r) acc 0 0 = ([], 5) := by
  rw [dec_run p _ _ _ _ hp (by omega), hl, dec, if_pos (by omega)]

theorem refget_l2 (d : Nat) : ∀ (x0 : ByteArray) (acc : List Int) (a e m : Nat), e < x0.size → x0.size ≤ 100000 → a + d ≤ e + 1 → d ≤ 9 → m < 2 ^ (7 * (9 - d)) → acc.length < 17592186044416 → ∀ r,
    Ev (fun k => switchbackref08_Get.l0 k x0 (acc ++ [((valR (((nb x0).drop a).take d) + m * 2 ^ (7 * d) : Nat) : Int)]) ((e + 1 : Nat) : Int)) r →
    Ev (fun k => switchbackref08_Get.l2 k x0 acc (a : Int) (e : Int) (m : Int) ((a : Int) + (d : Int) - 1)) r := by
  induction d with
  | zero =>
    intro x0 acc a e m he hs ha _ _ hl r h
    refine Ev.step (fun k => switchbackref08_Get.l2.eq_2 _ _ _ _ _ _ k) ?_
    have e1 : wrap64 ((e : Int) + 1) = ((e + 1 : Nat) : Int) := by unfold wrap64; omega
    rw [e1]
    refine evNeg (by omega) (evPos (by omega) ?_)
    simpa [valR] using h
  | succ d ih =>
    intro x0 acc a e m he hs ha hd hm hl r h
    refine Ev.step (fun k => switchbackref08_Get.l2.eq_2 _ _ _ _ _ _ k) ?_
    obtain ⟨b, hb, hbt, hdrop⟩ := bt_nb x0 (a + d) (by omega)
    have ei : (a : Int) + ((d + 1 : Nat) : Int) - 1 = ((a + d : Nat) : Int) := by omega
    have em : wrap64 (((a + d : Nat) : Int) - 1) = (a : Int) + (d : Int) - 1 := by unfold wrap64; omega
    have hm' : 128 * m + b % 128 < 2 ^ (7 * (9 - d)) := by
      rw [show 9 - d = 9 - (d + 1) + 1 from by omega, pow_next]; omega
    have hmx : 2 ^ (7 * (9 - d)) ≤ 2 ^ 63 := Nat.pow_le_pow_right (by decide) (by omega)
    have ev : wrap64 (wrap64 (128 * (m : Int)) + wrap64 (Int.tmod (b : Int) 128)) = ((128 * m + b % 128 : Nat) : Int) := by
      have h0 : 128 * m + b % 128 < 9223372036854775808 := Nat.lt_of_lt_of_le hm' hmx
      clear hm' hmx hm
      rw [Int.tmod_eq_emod_of_nonneg (by omega), wrap64_in (n := 128 * (m : Int)) (by omega) (by omega), wrap64_in (n := (b : Int) % 128) (by omega) (by omega), wrap64_in (by omega) (by omega)]
      omega
    rw [ei, hbt, em, ev]
    clear ei em ev
    refine evPos (by omega) ?_
    refine evPos (by omega) ?_
    refine evPos (by omega) ?_
    refine ih x0 acc a e _ he hs (by omega) (by omega) hm' hl r ?_
    have hv : ∀ (l : List Nat) (y : Nat), valR (l ++ [b]) + y * 2 ^ (7 * (l.length + 1)) = valR l + (128 * y + b % 128) * 2 ^ (7 * l.length) := by
      intro l
      induction l with
      | nil => intro y; simp [valR]; omega
      | cons x l ihl =>
        intro y
        have := ihl y
        simp only [List.cons_append, valR, List.length_cons]
        rw [pow_next (l.length + 1), pow_next l.length] at *
        have e1 : y * (128 * (128 * 2 ^ (7 * l.length))) = 128 * (y * (128 * 2 ^ (7 * l.length))) := by rw [Nat.mul_left_comm]
        have e2 : (128 * y + b % 128) * (128 * 2 ^ (7 * l.length)) = 128 * ((128 * y + b % 128) * 2 ^ (7 * l.length)) := by rw [Nat.mul_left_comm]
        rw [e1, e2]
        omega
    have htake := take_next hdrop
    have hlen : (((nb x0).drop a).take d).length = d := by rw [List.length_take, List.length_drop, nb_length]; omega
    have := hv (((nb x0).drop a).take d) m
    rw [hlen] at this
    rw [htake, this] at h
    exact h

/-- The bytes from a on, as the reference sees them: p of 128 and above, then the rest. -/
theorem refget_j2 (x0 : ByteArray) (acc : List Int) (a j : Nat) (hs : x0.size ≤ 100000) (hj : a + j ≤ x0.size) (hj9 : j ≤ 9) (hacc : acc.length ≤ 100000)
    (hp : ∀ b ∈ ((nb x0).drop a).take j, 128 ≤ b ∧ b < 256) (hend : j = 9 ∨ a + j = x0.size ∨ (a + j < x0.size ∧ ∃ b r, b < 128 ∧ (nb x0).drop (a + j) = b :: r)) (hne : a < x0.size)
    (next : ∀ e : Nat, ∀ acc' : List Int, a < e → e ≤ x0.size → acc'.length = acc.length + 1 → Ev (fun k => switchbackref08_Get.l0 k x0 acc' (e : Int)) (dec ((nb x0).drop e) acc' 0 0)) :
    Ev (fun k => switchbackref08_Get.j2 k x0 acc (a : Int) ((a + j : Nat) : Int)) (dec ((nb x0).drop a) acc 0 0) := by
  have hlen : (((nb x0).drop a).take j).length = j := by rw [List.length_take, List.length_drop, nb_length]; omega
  have hsplit : (nb x0).drop a = ((nb x0).drop a).take j ++ (nb x0).drop (a + j) := by
    rw [← List.drop_drop]; exact (List.take_append_drop j _).symm
  refine Ev.step (fun k => switchbackref08_Get.j2.eq_2 _ _ _ _ k) ?_
  have e1 : wrap64 (((a + j : Nat) : Int) - (a : Int)) = (j : Int) := by unfold wrap64; omega
  rw [e1]
  by_cases h9 : j = 9
  · have hd : dec ((nb x0).drop a) acc 0 0 = ([], 5) := by
      have h8 : 8 < (((nb x0).drop a).take j).length := by omega
      have e2 : ((nb x0).drop a).take j = (((nb x0).drop a).take j).take 8 ++ [(((nb x0).drop a).take j)[8]] := by
        have t := List.take_succ_eq_append_getElem h8
        rw [List.take_of_length_le (l := ((nb x0).drop a).take j) (by omega)] at t
        exact t
      rw [hsplit, e2, List.append_assoc]
      exact dec_nine _ _ _ _ (fun b hb => hp b (List.mem_of_mem_take hb)) (by rw [List.length_take]; omega) (hp _ (List.getElem_mem h8)).1
    rw [hd]
    exact evPos (by omega) (Ev.now _)
  · have hdec := dec_run (((nb x0).drop a).take j) ((nb x0).drop (a + j)) acc 0 0 hp (by omega)
    rw [← hsplit, hlen, Nat.zero_add, Nat.mul_zero, Nat.pow_zero, Nat.mul_one, Nat.zero_add] at hdec
    rw [hdec]
    refine evNeg (by omega) ?_
    by_cases hz : a + j = x0.size
    · rw [List.drop_of_length_le (by rw [nb_length]; omega), dec, if_pos (by omega)]
      exact evPos (by omega) (Ev.now _)
    · obtain ⟨b, r, hb, hr⟩ := ((hend.resolve_left h9).resolve_left hz).2
      obtain ⟨b', hb', hbt, hdrop⟩ := bt_nb x0 (a + j) (by omega)
      obtain ⟨rfl, hr'⟩ := List.cons.inj (hdrop.symm.trans hr)
      refine evNeg (by omega) ?_
      rw [hdrop, dec]
      have hgo : ∀ z : Bool, (z = true ↔ 0 < j ∧ b' = 0) → Ev (fun k => switchbackref08_Get.j3 k x0 acc (a : Int) ((a + j : Nat) : Int) z)
          (if (j = 8 ∧ 128 ≤ b') ∨ (0 < j ∧ b' = 0) then ([], 5) else if b' < 128 then dec ((nb x0).drop (a + j + 1)) (acc ++ [((valR (((nb x0).drop a).take j) + b' * 2 ^ (7 * j) : Nat) : Int)]) 0 0 else dec ((nb x0).drop (a + j + 1)) acc (valR (((nb x0).drop a).take j) + (b' - 128) * 2 ^ (7 * j)) (j + 1)) := by
        intro z hzz
        refine Ev.step (fun k => switchbackref08_Get.j3.eq_2 _ _ _ _ _ k) ?_
        by_cases hzt : z = true
        · rw [if_pos (.inr (hzz.1 hzt))]
          exact evPos hzt (Ev.now _)
        · have hnz : ¬ (0 < j ∧ b' = 0) := fun h => hzt (hzz.2 h)
          rw [if_neg (by omega), if_pos hb]
          refine evNeg hzt ?_
          have ht := take_next hdrop
          have hv : valR (((nb x0).drop a).take (j + 1)) + 0 * 2 ^ (7 * (j + 1)) = valR (((nb x0).drop a).take j) + b' * 2 ^ (7 * j) := by
            rw [ht]
            have : ∀ l : List Nat, valR (l ++ [b']) = valR l + b' * 2 ^ (7 * l.length) := by
              intro l
              induction l with
              | nil => simp [valR]; omega
              | cons x l ihl =>
                simp only [List.cons_append, valR, List.length_cons, ihl]
                rw [pow_next, Nat.mul_left_comm, Nat.mul_add]
                omega
            rw [this, hlen]; omega
          have h := refget_l2 (j + 1) x0 acc a (a + j) 0 (by omega) hs (by omega) (by omega) (Nat.two_pow_pos _) (by omega) _ (next (a + j + 1) _ (by omega) (by omega) (by simp))
          rw [hv] at h
          have e3 : (a : Int) + ((j + 1 : Nat) : Int) - 1 = ((a + j : Nat) : Int) := by omega
          rw [e3] at h
          exact h
      by_cases hj0 : 0 < j
      · refine evPos (by omega) (evPos (by omega) (evPos (by omega) ?_))
        rw [hbt]
        exact hgo _ (by rw [beq_iff_eq]; omega)
      · refine evNeg (by omega) ?_
        exact hgo false (by simp; omega)

theorem refget_l1 (d : Nat) : ∀ (x0 : ByteArray) (acc : List Int) (a j : Nat), j + d = 10 → x0.size ≤ 100000 → a + j ≤ x0.size → j ≤ 9 → acc.length ≤ 100000 → a < x0.size →
    (∀ b ∈ ((nb x0).drop a).take j, 128 ≤ b ∧ b < 256) →
    (∀ e : Nat, ∀ acc' : List Int, a < e → e ≤ x0.size → acc'.length = acc.length + 1 → Ev (fun k => switchbackref08_Get.l0 k x0 acc' (e : Int)) (dec ((nb x0).drop e) acc' 0 0)) →
    Ev (fun k => switchbackref08_Get.l1 k x0 acc (a : Int) ((a + j : Nat) : Int)) (dec ((nb x0).drop a) acc 0 0) := by
  induction d with
  | zero => intro x0 acc a j hd _ _ hj; omega
  | succ d ih =>
    intro x0 acc a j hd hs hj hj9 hacc hne hp next
    refine Ev.step (fun k => switchbackref08_Get.l1.eq_2 _ _ _ _ k) ?_
    by_cases hz : a + j = x0.size
    · exact evNeg (by omega) (refget_j2 x0 acc a j hs hj hj9 hacc hp (.inr (.inl hz)) hne next)
    · obtain ⟨b, hb, hbt, hdrop⟩ := bt_nb x0 (a + j) (by omega)
      refine evPos (by omega) (evPos (by omega) ?_)
      rw [hbt]
      by_cases h7 : b < 128
      · exact evNeg (by omega) (refget_j2 x0 acc a j hs hj hj9 hacc hp (.inr (.inr ⟨by omega, b, _, h7, hdrop⟩)) hne next)
      · refine evPos (by omega) ?_
        have e1 : wrap64 (((a + j : Nat) : Int) - (a : Int)) = (j : Int) := by unfold wrap64; omega
        have e2 : wrap64 (((a + j : Nat) : Int) + 1) = ((a + (j + 1) : Nat) : Int) := by unfold wrap64; omega
        rw [e1, e2]
        by_cases h9 : j = 9
        · exact evNeg (by omega) (refget_j2 x0 acc a j hs hj hj9 hacc hp (.inl h9) hne next)
        · refine evPos (by omega) ?_
          refine ih x0 acc a (j + 1) (by omega) hs (by omega) (by omega) hacc hne ?_ next
          rw [take_next hdrop]
          intro y hy
          rcases List.mem_append.1 hy with hy | hy
          · exact hp y hy
          · simp at hy
            omega

theorem refget_l0 (d : Nat) : ∀ (x0 : ByteArray) (acc : List Int) (a : Nat), x0.size ≤ a + d → x0.size ≤ 50000 → a ≤ x0.size → acc.length + d ≤ 60000 →
    Ev (fun k => switchbackref08_Get.l0 k x0 acc (a : Int)) (dec ((nb x0).drop a) acc 0 0) := by
  induction d with
  | zero =>
    intro x0 acc a h hs ha _
    refine Ev.step (fun k => switchbackref08_Get.l0.eq_2 _ _ _ k) ?_
    rw [List.drop_of_length_le (by rw [nb_length]; omega)]
    exact evNeg (by omega) (Ev.now _)
  | succ d ih =>
    intro x0 acc a h hs ha hacc
    refine Ev.step (fun k => switchbackref08_Get.l0.eq_2 _ _ _ k) ?_
    by_cases hz : a = x0.size
    · rw [List.drop_of_length_le (by rw [nb_length]; omega)]
      exact evNeg (by omega) (Ev.now _)
    · refine evPos (by omega) ?_
      have := refget_l1 10 x0 acc a 0 (by omega) (by omega) (by omega) (by omega) (by omega) (by omega) (by simp)
        (fun e acc' h1 h2 h3 => ih x0 acc' e (by omega) hs h2 (by omega))
      exact this

theorem refget_f (s : ByteArray) (hs : s.size ≤ 50000) : Ev (fun k => switchbackref08_Get.f k s) (dec (nb s) [] 0 0) := by
  have h := refget_l0 s.size s [] 0 (by omega) hs (by omega) (by simp; omega)
  rw [List.drop_zero] at h
  exact h

theorem CodeGets : switchbacklaw08_CodeGets.Pure := by
  intro s _
  refine Ev.rounds (g := fun k => switchbacklaw08_CodeGets.f k s) ?_
  unfold switchbacklaw08_CodeGets.f
  refine Ev.bind awake_f ?_
  refine evPos rfl ?_
  refine Ev.step (fun k => switchbacklaw08_CodeGets.j0.eq_2 _ _ k) ?_
  by_cases h : (s.size : Int) > 1000
  · exact evPos (by simpa using h) (Ev.bind awake_f (Ev.now _))
  · refine evNeg (by simpa using h) ?_
    refine Ev.bind (get_f s (by omega)) ?_
    refine Ev.bind (refget_f s (by omega)) ?_
    have hl := dec_len (nb s) [] 0 0
    rw [nb_length] at hl
    simp at hl
    refine Ev.bind (same_f _ _ (by omega)) ?_
    rw [beq_self_eq_true]
    exact evPos (by simp) (Ev.now _)

end Go.Proofs.Ytaogmfchpcdboaa.Pure
