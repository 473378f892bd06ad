/- The reference's Get answers as Get does. -/
import Derived.Test.YtaogmfchpcdboaaRefGood
namespace Go.Proofs.Ytaogmfchpcdboaa
open Go.RowKit Go.Proofs.YtaogmfchpcdboaaW.PrintWords Go.Proofs.Ytaogmfchpcdboaa.Evs Go.Proofs.Ytaogmfchpcdboaa.Math Go.Proofs.Ytaogmfchpcdboaa.PIntentGets

/-- The numbers' groups, as the reference adds them: from the last byte to the first. -/
def valR : List Nat → Nat
  | [] => 0
  | b :: r => b % 128 + 128 * valR r

theorem valR_lt (l : List Nat) : valR l < 2 ^ (7 * l.length) := by
  induction l with
  | nil => simp [valR]
  | cons b r ih => rw [valR, List.length_cons, pow_next]; omega

/-- 'dec' goes through bytes that are 128 and above. -/
theorem dec_run (p : List Nat) : ∀ (r : List Nat) (acc : List Int) (n c : Nat), (∀ b ∈ p, 128 ≤ b ∧ b < 256) → c + p.length ≤ 8 →
    dec (p ++ r) acc n c = dec r acc (n + valR p * 2 ^ (7 * c)) (c + p.length) := by
  induction p with
  | nil => intro r acc n c _ _; simp [valR]
  | cons b p ih =>
    intro r acc n c hp hc
    have hb := hp b (by simp)
    simp at hc
    show dec (b :: (p ++ r)) acc n c = _
    rw [dec, if_neg (by omega), if_neg (by omega), ih r acc _ (c + 1) (fun x hx => hp x (by simp [hx])) (by omega)]
    have e : b - 128 = b % 128 := by omega
    have e1 : n + b % 128 * 2 ^ (7 * c) + valR p * (128 * 2 ^ (7 * c)) = n + (b % 128 + 128 * valR p) * 2 ^ (7 * c) := by
      rw [Nat.add_mul, ← Nat.mul_assoc, Nat.mul_comm (valR p) 128, Nat.add_assoc]
    have e2 : c + 1 + p.length = c + (b :: p).length := by simp; omega
    rw [e, pow_next, e1, e2, valR]

theorem take_next {l : List Nat} {a j b : Nat} {r : List Nat} (h : l.drop (a + j) = b :: r) : (l.drop a).take (j + 1) = (l.drop a).take j ++ [b] := by
  rw [List.take_add, List.drop_drop, h]
  rfl

theorem dec_nine (p : List Nat) (b : Nat) (r : List Nat) (acc : List Int) (hp : ∀ b ∈ p, 128 ≤ b ∧ b < 256) (hl : p.length = 8) (hb : 128 ≤ b) : dec (p ++ b :: r) acc 0 0 = ([], 5) := by
  rw [dec_run p _ _ _ _ hp (by omega), hl, dec, if_pos (by omega)]

theorem refget_l2 (d : Nat) : ∀ (x0 : ByteArray) (acc : List Int) (a e m : Nat), e < x0.size → x0.size ≤ 100000 → a + d ≤ e + 1 → d ≤ 9 → m < 2 ^ (7 * (9 - d)) → acc.length < 17592186044416 → ∀ r,
    Ev (fun k => switchbackref08_Get.l0 k x0 (acc ++ [((valR (((nb x0).drop a).take d) + m * 2 ^ (7 * d) : Nat) : Int)]) ((e + 1 : Nat) : Int)) r →
    Ev (fun k => switchbackref08_Get.l2 k x0 acc (a : Int) (e : Int) (m : Int) ((a : Int) + (d : Int) - 1)) r := by
  induction d with
  | zero =>
    intro x0 acc a e m he hs ha _ _ hl r h
    refine Ev.step (fun k => switchbackref08_Get.l2.eq_2 _ _ _ _ _ _ k) ?_
    have e1 : wrap64 ((e : Int) + 1) = ((e + 1 : Nat) : Int) := by unfold wrap64; omega
    rw [e1]
    refine evNeg (by omega) (evPos (by omega) ?_)
    simpa [valR] using h
  | succ d ih =>
    intro x0 acc a e m he hs ha hd hm hl r h
    refine Ev.step (fun k => switchbackref08_Get.l2.eq_2 _ _ _ _ _ _ k) ?_
    obtain ⟨b, hb, hbt, hdrop⟩ := bt_nb x0 (a + d) (by omega)
    have ei : (a : Int) + ((d + 1 : Nat) : Int) - 1 = ((a + d : Nat) : Int) := by omega
    have em : wrap64 (((a + d : Nat) : Int) - 1) = (a : Int) + (d : Int) - 1 := by unfold wrap64; omega
    have hm' : 128 * m + b % 128 < 2 ^ (7 * (9 - d)) := by
      rw [show 9 - d = 9 - (d + 1) + 1 from by omega, pow_next]; omega
    have hmx : 2 ^ (7 * (9 - d)) ≤ 2 ^ 63 := Nat.pow_le_pow_right (by decide) (by omega)
    have ev : wrap64 (wrap64 (128 * (m : Int)) + wrap64 (Int.tmod (b : Int) 128)) = ((128 * m + b % 128 : Nat) : Int) := by
      have h0 : 128 * m + b % 128 < 9223372036854775808 := Nat.lt_of_lt_of_le hm' hmx
      clear hm' hmx hm
      rw [Int.tmod_eq_emod_of_nonneg (by omega), wrap64_in (n := 128 * (m : Int)) (by omega) (by omega), wrap64_in (n := (b : Int) % 128) (by omega) (by omega), wrap64_in (by omega) (by omega)]
      omega
    rw [ei, hbt, em, ev]
    clear ei em ev
    refine evPos (by omega) ?_
    refine evPos (by omega) ?_
    refine evPos (by omega) ?_
    refine ih x0 acc a e _ he hs (by omega) (by omega) hm' hl r ?_
    have hv : ∀ (l : List Nat) (y : Nat), valR (l ++ [b]) + y * 2 ^ (7 * (l.length + 1)) = valR l + (128 * y + b % 128) * 2 ^ (7 * l.length) := by
      intro l
      induction l with
      | nil => intro y; simp [valR]; omega
      | cons x l ihl =>
        intro y
        have := ihl y
        simp only [List.cons_append, valR, List.length_cons]
        rw [pow_next (l.length + 1), pow_next l.length] at *
        have e1 : y * (128 * (128 * 2 ^ (7 * l.length))) = 128 * (y * (128 * 2 ^ (7 * l.length))) := by rw [Nat.mul_left_comm]
        have e2 : (128 * y + b % 128) * (128 * 2 ^ (7 * l.length)) = 128 * ((128 * y + b % 128) * 2 ^ (7 * l.length)) := by rw [Nat.mul_left_comm]
        rw [e1, e2]
        omega
    have htake := take_next hdrop
    have hlen : (((nb x0).drop a).take d).length = d := by rw [List.length_take, List.length_drop, nb_length]; omega
    have := hv (((nb x0).drop a).take d) m
    rw [hlen] at this
    rw [htake, this] at h
    exact h

/-- The bytes from a on, as the reference sees them: p of 128 and above, then the rest. -/
theorem refget_j2 (x0 : ByteArray) (acc : List Int) (a j : Nat) (hs : x0.size ≤ 100000) (hj : a + j ≤ x0.size) (hj9 : j ≤ 9) (hacc : acc.length ≤ 100000)
    (hp : ∀ b ∈ ((nb x0).drop a).take j, 128 ≤ b ∧ b < 256) (hend : j = 9 ∨ a + j = x0.size ∨ (a + j < x0.size ∧ ∃ b r, b < 128 ∧ (nb x0).drop (a + j) = b :: r)) (hne : a < x0.size)
    (next : ∀ e : Nat, ∀ acc' : List Int, a < e → e ≤ x0.size → acc'.length = acc.length + 1 → Ev (fun k => switchbackref08_Get.l0 k x0 acc' (e : Int)) (dec ((nb x0).drop e) acc' 0 0)) :
    Ev (fun k => switchbackref08_Get.j2 k x0 acc (a : Int) ((a + j : Nat) : Int)) (dec ((nb x0).drop a) acc 0 0) := by
  have hlen : (((nb x0).drop a).take j).length = j := by rw [List.length_take, List.length_drop, nb_length]; omega
  have hsplit : (nb x0).drop a = ((nb x0).drop a).take j ++ (nb x0).drop (a + j) := by
    rw [← List.drop_drop]; exact (List.take_append_drop j _).symm
  refine Ev.step (fun k => switchbackref08_Get.j2.eq_2 _ _ _ _ k) ?_
  have e1 : wrap64 (((a + j : Nat) : Int) - (a : Int)) = (j : Int) := by unfold wrap64; omega
  rw [e1]
  by_cases h9 : j = 9
  · have hd : dec ((nb x0).drop a) acc 0 0 = ([], 5) := by
      have h8 : 8 < (((nb x0).drop a).take j).length := by omega
      have e2 : ((nb x0).drop a).take j = (((nb x0).drop a).take j).take 8 ++ [(((nb x0).drop a).take j)[8]] := by
        have t := List.take_succ_eq_append_getElem h8
        rw [List.take_of_length_le (l := ((nb x0).drop a).take j) (by omega)] at t
        exact t
      rw [hsplit, e2, List.append_assoc]
      exact dec_nine _ _ _ _ (fun b hb => hp b (List.mem_of_mem_take hb)) (by rw [List.length_take]; omega) (hp _ (List.getElem_mem h8)).1
    rw [hd]
    exact evPos (by omega) (Ev.now _)
  · have hdec := dec_run (((nb x0).drop a).take j) ((nb x0).drop (a + j)) acc 0 0 hp (by omega)
    rw [← hsplit, hlen, Nat.zero_add, Nat.mul_zero, Nat.pow_zero, Nat.mul_one, Nat.zero_add] at hdec
    rw [hdec]
    refine evNeg (by omega) ?_
    by_cases hz : a + j = x0.size
    · rw [List.drop_of_length_le (by rw [nb_length]; omega), dec, if_pos (by omega)]
      exact evPos (by omega) (Ev.now _)
    · obtain ⟨b, r, hb, hr⟩ := ((hend.resolve_left h9).resolve_left hz).2
      obtain ⟨b', hb', hbt, hdrop⟩ := bt_nb x0 (a + j) (by omega)
      obtain ⟨rfl, hr'⟩ := List.cons.inj (hdrop.symm.trans hr)
      refine evNeg (by omega) ?_
      rw [hdrop, dec]
      have hgo : ∀ z : Bool, (z = true ↔ 0 < j ∧ b' = 0) → Ev (fun k => switchbackref08_Get.j3 k x0 acc (a : Int) ((a + j : Nat) : Int) z)
          (if (j = 8 ∧ 128 ≤ b') ∨ (0 < j ∧ b' = 0) then ([], 5) else if b' < 128 then dec ((nb x0).drop (a + j + 1)) (acc ++ [((valR (((nb x0).drop a).take j) + b' * 2 ^ (7 * j) : Nat) : Int)]) 0 0 else dec ((nb x0).drop (a + j + 1)) acc (valR (((nb x0).drop a).take j) + (b' - 128) * 2 ^ (7 * j)) (j + 1)) := by
        intro z hzz
        refine Ev.step (fun k => switchbackref08_Get.j3.eq_2 _ _ _ _ _ k) ?_
        by_cases hzt : z = true
        · rw [if_pos (.inr (hzz.1 hzt))]
          exact evPos hzt (Ev.now _)
        · have hnz : ¬ (0 < j ∧ b' = 0) := fun h => hzt (hzz.2 h)
          rw [if_neg (by omega), if_pos hb]
          refine evNeg hzt ?_
          have ht := take_next hdrop
          have hv : valR (((nb x0).drop a).take (j + 1)) + 0 * 2 ^ (7 * (j + 1)) = valR (((nb x0).drop a).take j) + b' * 2 ^ (7 * j) := by
            rw [ht]
            have : ∀ l : List Nat, valR (l ++ [b']) = valR l + b' * 2 ^ (7 * l.length) := by
              intro l
              induction l with
              | nil => simp [valR]; omega
              | cons x l ihl =>
                simp only [List.cons_append, valR, List.length_cons, ihl]
                rw [pow_next, Nat.mul_left_comm, Nat.mul_add]
                omega
            rw [this, hlen]; omega
          have h := refget_l2 (j + 1) x0 acc a (a + j) 0 (by omega) hs (by omega) (by omega) (Nat.two_pow_pos _) (by omega) _ (next (a + j + 1) _ (by omega) (by omega) (by simp))
          rw [hv] at h
          have e3 : (a : Int) + ((j + 1 : Nat) : Int) - 1 = ((a + j : Nat) : Int) := by omega
          rw [e3] at h
          exact h
      by_cases hj0 : 0 < j
      · refine evPos (by omega) (evPos (by omega) (evPos (by omega) ?_))
        rw [hbt]
        exact hgo _ (by rw [beq_iff_eq]; omega)
      · refine evNeg (by omega) ?_
        exact hgo false (by simp; omega)

theorem refget_l1 (d : Nat) : ∀ (x0 : ByteArray) (acc : List Int) (a j : Nat), j + d = 10 → x0.size ≤ 100000 → a + j ≤ x0.size → j ≤ 9 → acc.length ≤ 100000 → a < x0.size →
    (∀ b ∈ ((nb x0).drop a).take j, 128 ≤ b ∧ b < 256) →
    (∀ e : Nat, ∀ acc' : List Int, a < e → e ≤ x0.size → acc'.length = acc.length + 1 → Ev (fun k => switchbackref08_Get.l0 k x0 acc' (e : Int)) (dec ((nb x0).drop e) acc' 0 0)) →
    Ev (fun k => switchbackref08_Get.l1 k x0 acc (a : Int) ((a + j : Nat) : Int)) (dec ((nb x0).drop a) acc 0 0) := by
  induction d with
  | zero => intro x0 acc a j hd _ _ hj; omega
  | succ d ih =>
    intro x0 acc a j hd hs hj hj9 hacc hne hp next
    refine Ev.step (fun k => switchbackref08_Get.l1.eq_2 _ _ _ _ k) ?_
    by_cases hz : a + j = x0.size
    · exact evNeg (by omega) (refget_j2 x0 acc a j hs hj hj9 hacc hp (.inr (.inl hz)) hne next)
    · obtain ⟨b, hb, hbt, hdrop⟩ := bt_nb x0 (a + j) (by omega)
      refine evPos (by omega) (evPos (by omega) ?_)
      rw [hbt]
      by_cases h7 : b < 128
      · exact evNeg (by omega) (refget_j2 x0 acc a j hs hj hj9 hacc hp (.inr (.inr ⟨by omega, b, _, h7, hdrop⟩)) hne next)
      · refine evPos (by omega) ?_
        have e1 : wrap64 (((a + j : Nat) : Int) - (a : Int)) = (j : Int) := by unfold wrap64; omega
        have e2 : wrap64 (((a + j : Nat) : Int) + 1) = ((a + (j + 1) : Nat) : Int) := by unfold wrap64; omega
        rw [e1, e2]
        by_cases h9 : j = 9
        · exact evNeg (by omega) (refget_j2 x0 acc a j hs hj hj9 hacc hp (.inl h9) hne next)
        · refine evPos (by omega) ?_
          refine ih x0 acc a (j + 1) (by omega) hs (by omega) (by omega) hacc hne ?_ next
          rw [take_next hdrop]
          intro y hy
          rcases List.mem_append.1 hy with hy | hy
          · exact hp y hy
          · simp at hy
            omega

theorem refget_l0 (d : Nat) : ∀ (x0 : ByteArray) (acc : List Int) (a : Nat), x0.size ≤ a + d → x0.size ≤ 50000 → a ≤ x0.size → acc.length + d ≤ 60000 →
    Ev (fun k => switchbackref08_Get.l0 k x0 acc (a : Int)) (dec ((nb x0).drop a) acc 0 0) := by
  induction d with
  | zero =>
    intro x0 acc a h hs ha _
    refine Ev.step (fun k => switchbackref08_Get.l0.eq_2 _ _ _ k) ?_
    rw [List.drop_of_length_le (by rw [nb_length]; omega)]
    exact evNeg (by omega) (Ev.now _)
  | succ d ih =>
    intro x0 acc a h hs ha hacc
    refine Ev.step (fun k => switchbackref08_Get.l0.eq_2 _ _ _ k) ?_
    by_cases hz : a = x0.size
    · rw [List.drop_of_length_le (by rw [nb_length]; omega)]
      exact evNeg (by omega) (Ev.now _)
    · refine evPos (by omega) ?_
      have := refget_l1 10 x0 acc a 0 (by omega) (by omega) (by omega) (by omega) (by omega) (by omega) (by simp)
        (fun e acc' h1 h2 h3 => ih x0 acc' e (by omega) hs h2 (by omega))
      exact this

theorem refget_f (s : ByteArray) (hs : s.size ≤ 50000) : Ev (fun k => switchbackref08_Get.f k s) (dec (nb s) [] 0 0) := by
  have h := refget_l0 s.size s [] 0 (by omega) hs (by omega) (by simp; omega)
  rw [List.drop_zero] at h
  exact h

theorem bit_gt {x : Int} (h0 : 0 ≤ x) (h1 : x ≤ 1) : decide (0 < x) = (x == 1) := by
  have : x = 0 ∨ x = 1 := by omega
  rcases this with rfl | rfl <;> rfl
theorem rget_good (s : ByteArray) (kg km kw : Nat) (k : Int) (t mr : List Int) (w : World) (hk : kindOk k = true) (hl : t.length = (rangesOf k).length) (hr : inRanges t (rangesOf k) = true)
    (hg : switchbackref08_Get.f kg s = some (k :: t, 0)) (hm : PIntentPuts.switchbackref09_Most.f km k = some (mr, true)) (hlen : mr.length = (rangesOf k).length) (hwi : PIntentPuts.switchbackref09_within.f kw k t = some true) :
    Calls Try.prog 25 #[.string s] w fun e w' => e = .returned (.tuple #[recVal k (bodyOf k t), .int .i64 0]) ∧ Below w.heap.size w w' := by
  rcases kindOk_cases hk with rfl | rfl | rfl | rfl | rfl | rfl | rfl | rfl | rfl | rfl | rfl
  · match t, hl with
    | [x0, x1, x2], _ => exact rget_good1 s kg km kw mr x0 x1 x2 w hg hm hlen hwi
  · match t, hl with
    | [], _ => exact rget_good2 s kg km kw mr w hg hm hlen hwi
  · match t, hl with
    | [], _ => exact rget_good3 s kg km kw mr w hg hm hlen hwi
  · match t, hl, hr with
    | [x0], _, hr =>
      simp [inRanges, rangesOf] at hr
      have e : bodyOf 4 [x0] = { zB with pass := decide (0 < x0) } := by rw [bit_gt hr.1 hr.2]; rfl
      rw [e]
      exact rget_good4 s kg km kw mr x0 w hg hm hlen hwi
  · match t, hl with
    | [x0], _ => exact rget_good5 s kg km kw mr x0 w hg hm hlen hwi
  · match t, hl with
    | [x0], _ => exact rget_good6 s kg km kw mr x0 w hg hm hlen hwi
  · match t, hl with
    | [x0], _ => exact rget_good7 s kg km kw mr x0 w hg hm hlen hwi
  · match t, hl with
    | [x0, x1], _ => exact rget_good8 s kg km kw mr x0 x1 w hg hm hlen hwi
  · match t, hl, hr with
    | [x0], _, hr =>
      simp [inRanges, rangesOf] at hr
      have e : bodyOf 9 [x0] = { zB with pass := decide (0 < x0) } := by rw [bit_gt hr.1 hr.2]; rfl
      rw [e]
      exact rget_good9 s kg km kw mr x0 w hg hm hlen hwi
  · match t, hl with
    | [], _ => exact rget_good10 s kg km kw mr w hg hm hlen hwi
  · match t, hl, hr with
    | [x0, x1, x2, x3, x4, x5, x6, x7, x8, x9, x10, x11], _, hr =>
      simp [inRanges, rangesOf] at hr
      have e1 := bit_gt hr.2.2.2.2.2.2.1.1 hr.2.2.2.2.2.2.1.2
      have e2 := bit_gt hr.2.2.2.2.2.2.2.1.1 hr.2.2.2.2.2.2.2.1.2
      have e : bodyOf 11 [x0, x1, x2, x3, x4, x5, x6, x7, x8, x9, x10, x11] = { zB with phase := x0, active := x1, r0 := x2, r1 := x3, w0 := x4, w1 := x5, p0 := decide (0 < x6), p1 := decide (0 < x7), sdelay := x8, sgen := x9, sw := x10, flip := x11 } := by rw [e1, e2]; rfl
      rw [e]
      exact rget_good11 s kg km kw mr x0 x1 x2 x3 x4 x5 x6 x7 x8 x9 x10 x11 w hg hm hlen hwi
theorem rget_calls (s : ByteArray) (hs : s.size ≤ 50000) (w : World) : Calls Try.prog 25 #[.string s] w fun e w' => e = .returned (getRes (getAns s)) ∧ Below w.heap.size w w' := by
  obtain ⟨kg, hg⟩ := (refget_f s hs).rounds
  have hlen := dec_len (nb s) [] 0 0
  rw [nb_length] at hlen
  simp only [List.length_nil, Nat.zero_add] at hlen
  unfold getAns
  generalize Math.dec (nb s) [] 0 0 = d at hg hlen
  obtain ⟨y, re⟩ := d
  show Calls Try.prog 25 #[.string s] w fun e w' => e = .returned (getRes (getOf y re)) ∧ Below w.heap.size w w'
  by_cases h0 : re = 0
  · subst h0
    cases y with
    | nil => exact rget_empty s kg w hg
    | cons k t =>
      replace hlen : t.length + 1 ≤ s.size := hlen
      obtain ⟨km, hm⟩ := (most_f k).rounds
      cases hk : kindOk k with
      | false =>
        have e : getOf (k :: t) 0 = (0, zB, 6) := by simp [getOf, hk]
        rw [e]
        exact rget_kind s kg k t km [] w hg (by rw [hm]; simp [mostR, hk])
      | true =>
        have hm' : PIntentPuts.switchbackref09_Most.f km k = some ((rangesOf k).map PIntentPuts.S67.f1, true) := by rw [hm]; simp [mostR, hk]
        by_cases hl : t.length = (rangesOf k).length
        · have hle := ranges_le k
          obtain ⟨kw, hwithin⟩ := (within_f k hk t hl (by omega)).rounds
          cases hr : inRanges t (rangesOf k) with
          | false =>
            have e : getOf (k :: t) 0 = (0, zB, 1) := by simp [getOf, hk, hl, hr]
            rw [e]
            rw [hr] at hwithin
            exact rget_range s kg k t km _ kw w hg hm' (by rw [List.length_map]; exact hl) (by omega) hwithin
          | true =>
            have e : getOf (k :: t) 0 = (k, bodyOf k t, 0) := by simp [getOf, hk, hl, hr]
            rw [e]
            rw [hr] at hwithin
            exact rget_good s kg km kw k t _ w hk hl hr hg hm' (by rw [List.length_map]) hwithin
        · have e : getOf (k :: t) 0 = (0, zB, 4) := by simp [getOf, hk, hl]
          rw [e]
          exact rget_form s kg k t km _ w hg hm' (by rw [List.length_map]; exact hl) (by omega)
  · have e : getOf y re = (0, zB, re) := by simp [getOf, h0]
    rw [e]
    exact rget_bad s kg y re w hg h0
end Go.Proofs.Ytaogmfchpcdboaa
