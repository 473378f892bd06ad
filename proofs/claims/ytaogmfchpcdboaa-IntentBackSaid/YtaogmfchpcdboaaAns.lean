/- What Get answers, as plain Lean, and what Put and Get make of each other's answers. No program is stepped through here. No condition. -/
import Derived.Test.YtaogmfchpcdboaaPuts
namespace Go.Proofs.Ytaogmfchpcdboaa
open Go.RowKit Go.Proofs.YtaogmfchpcdboaaW.PrintWords Go.Proofs.Ytaogmfchpcdboaa.Math

def getOf (y : List Int) (e : Int) : Int × Bd × Int :=
  if e ≠ 0 then (0, zB, e) else match y with
  | [] => (0, zB, 6)
  | k :: t => if kindOk k = false then (0, zB, 6) else if t.length ≠ (rangesOf k).length then (0, zB, 4) else if inRanges t (rangesOf k) = false then (0, zB, 1) else (k, bodyOf k t, 0)
/-- What Get answers. -/
def getAns (s : ByteArray) : Int × Bd × Int := getOf (Math.dec (nb s) [] 0 0).1 (Math.dec (nb s) [] 0 0).2

theorem getOf_zero {y : List Int} {e : Int} (h : (getOf y e).2.2 ≠ 0) : getOf y e = (0, zB, (getOf y e).2.2) := by
  unfold getOf at h ⊢
  split
  · rfl
  · rename_i h0
    rw [if_neg h0] at h
    split
    · rfl
    · rename_i k t
      split
      · rfl
      split
      · rfl
      split
      · rfl
      · rename_i h1 h2 h3
        simp only [if_neg h1, if_neg h2, if_neg h3] at h
        exact absurd rfl h
theorem getOf_ok {y : List Int} {e : Int} (h : (getOf y e).2.2 = 0) : e = 0 ∧ ∃ k t, y = k :: t ∧ kindOk k = true ∧ t.length = (rangesOf k).length ∧ inRanges t (rangesOf k) = true ∧ getOf y e = (k, bodyOf k t, 0) := by
  unfold getOf at h ⊢
  split at h
  · rename_i h0
    exact absurd h h0
  · rename_i h0
    have h0' : e = 0 := Classical.not_not.1 h0
    refine ⟨h0', ?_⟩
    split at h
    · simp at h
    · rename_i k t
      refine ⟨k, t, rfl, ?_⟩
      split at h
      · simp at h
      split at h
      · simp at h
      split at h
      · simp at h
      · rename_i h1 h2 h3
        refine ⟨by simpa using h1, Classical.not_not.1 h2, by simpa using h3, ?_⟩
        simp [h0', h1, h2, h3]

theorem putAns_bad {k : Int} {b : Bd} (h : (putAns k b).2 ≠ 0) : (putAns k b).1 = ⟨#[]⟩ := by
  unfold putAns at h ⊢
  split
  · rfl
  split
  · rfl
  split
  · rfl
  · rename_i h1 h2 h3
    simp only [if_neg h1, if_neg h2, if_neg h3] at h
    exact absurd rfl h
theorem putAns_ok {k : Int} {b : Bd} (h : (putAns k b).2 = 0) : kindOk k = true ∧ cleanB k b = true ∧ inRanges (fieldsOf k b) (rangesOf k) = true ∧ putAns k b = (bytesOf (k :: fieldsOf k b), 0) := by
  unfold putAns at h ⊢
  split at h
  · simp at h
  split at h
  · simp at h
  split at h
  · simp at h
  · rename_i h1 h2 h3
    refine ⟨by simpa using h1, by simpa using h2, by simpa using h3, ?_⟩
    simp only [if_neg h1, if_neg h2, if_neg h3]
theorem putAns_eq {k : Int} {b : Bd} (h1 : kindOk k = true) (h2 : cleanB k b = true) (h3 : inRanges (fieldsOf k b) (rangesOf k) = true) : putAns k b = (bytesOf (k :: fieldsOf k b), 0) := by
  simp [putAns, h1, h2, h3]
theorem nums_ok {k : Int} {f : List Int} (hk : kindOk k = true) (hr : inRanges f (rangesOf k) = true) : Ok (k :: f) := by
  have h := inRanges_ok _ _ (ranges_small k) hr
  have h1 := kind_pos hk
  intro x hx
  rcases List.mem_cons.1 hx with rfl | hx
  · omega
  · have := h x hx
    omega
theorem nb_bytesOf (l : List Int) : nb (bytesOf l) = Math.encs l := nb_str _ (encs_byte l)

theorem body_fields {k : Int} {b : Bd} (hk : kindOk k = true) (hc : cleanB k b = true) : bodyOf k (fieldsOf k b) = b := by
  rw [← form_eq k b hk] at hc
  exact ((recEq_iff _ _ _ _).1 hc).2
theorem bit_two {x : Int} (h0 : 0 ≤ x) (h1 : x ≤ 1) : bitI (x == 1) = x := by
  have : x = 0 ∨ x = 1 := by omega
  rcases this with rfl | rfl <;> rfl
theorem fields_body {k : Int} {t : List Int} (hk : kindOk k = true) (hl : t.length = (rangesOf k).length) (hr : inRanges t (rangesOf k) = true) : fieldsOf k (bodyOf k t) = t := by
  rcases kindOk_cases hk with rfl | rfl | rfl | rfl | rfl | rfl | rfl | rfl | rfl | rfl | rfl
  · match t, hl with
    | [a, b, c], _ => simp [fieldsOf, bodyOf, at_]
  · match t, hl with
    | [], _ => rfl
  · match t, hl with
    | [], _ => rfl
  · match t, hl, hr with
    | [a], _, hr =>
      simp [inRanges, rangesOf] at hr
      have e := bit_two hr.1 hr.2
      simp [fieldsOf, bodyOf, at_, e]
  · match t, hl with
    | [a], _ => simp [fieldsOf, bodyOf, at_]
  · match t, hl with
    | [a], _ => simp [fieldsOf, bodyOf, at_]
  · match t, hl with
    | [a], _ => simp [fieldsOf, bodyOf, at_]
  · match t, hl with
    | [a, b], _ => simp [fieldsOf, bodyOf, at_]
  · match t, hl, hr with
    | [a], _, hr =>
      simp [inRanges, rangesOf] at hr
      have e := bit_two hr.1 hr.2
      simp [fieldsOf, bodyOf, at_, e]
  · match t, hl with
    | [], _ => rfl
  · match t, hl, hr with
    | [a, b, c, d, e, f, g, h, i, j, l, m], _, hr =>
      simp [inRanges, rangesOf] at hr
      have e1 := bit_two hr.2.2.2.2.2.2.1.1 hr.2.2.2.2.2.2.1.2
      have e2 := bit_two hr.2.2.2.2.2.2.2.1.1 hr.2.2.2.2.2.2.2.1.2
      simp [fieldsOf, bodyOf, at_, e1, e2]
theorem clean_body {k : Int} {t : List Int} (hk : kindOk k = true) (hl : t.length = (rangesOf k).length) (hr : inRanges t (rangesOf k) = true) : cleanB k (bodyOf k t) = true := by
  rw [← form_eq k _ hk, fields_body hk hl hr]
  exact (recEq_iff _ _ _ _).2 ⟨rfl, rfl⟩

/-- A record that is put is got as it was. -/
theorem get_put {k : Int} {b : Bd} (h : (putAns k b).2 = 0) : getAns (putAns k b).1 = (k, b, 0) := by
  obtain ⟨hk, hc, hr, e⟩ := putAns_ok h
  rw [e]
  show getAns (bytesOf (k :: fieldsOf k b)) = _
  unfold getAns
  rw [nb_bytesOf, dec_back _ (nums_ok hk hr)]
  have hl := fields_len k b
  simp [getOf, hk, hl, hr, body_fields hk hc]
/-- Bytes that are got are put as they were. -/
theorem put_get {s : ByteArray} (h : (getAns s).2.2 = 0) : putAns (getAns s).1 (getAns s).2.1 = (s, 0) := by
  unfold getAns at h ⊢
  obtain ⟨he, k, t, hy, hk, hl, hr, e⟩ := getOf_ok h
  rw [e]
  show putAns k (bodyOf k t) = _
  have hf := fields_body hk hl hr
  rw [putAns_eq hk (clean_body hk hl hr) (by rw [hf]; exact hr), hf]
  obtain ⟨l, e1, e2, hok⟩ := dec_sound (nb s) [] 0 0 (k :: t) (nb_byte s) (by simp) (by omega) (Prod.ext hy he)
  rw [List.nil_append] at e1
  subst e1
  unfold bytesOf
  rw [e2]
  show (strOfNums (ints (nb s)), (0 : Int)) = _
  rw [str_nb]
theorem get_zero {s : ByteArray} (h : (getAns s).2.2 ≠ 0) : getAns s = (0, zB, (getAns s).2.2) := getOf_zero h

/-! ### Sizes -/
def wt (m : Int) : Nat := if m < 128 then 1 else if m < 2097152 then 3 else 5
theorem enc_wt {x m : Int} (_h0 : 0 ≤ x) (h1 : x ≤ m) (h2 : m ≤ 1073741824) : (Math.enc x.toNat).length ≤ wt m := by
  unfold wt
  split
  · exact enc_len 0 _ (by simp; omega)
  split
  · exact enc_len 2 _ (by simp; omega)
  · exact enc_len 4 _ (by simp; omega)
theorem encs_wt : ∀ (f : List Int) (l : List PIntentPuts.S67), (∀ r ∈ l, 0 ≤ r.f0 ∧ r.f1 ≤ 1073741824) → inRanges f l = true → (Math.encs f).length ≤ (l.map fun r => wt r.f1).sum
  | [], l, _, _ => by simp [encs_nil]
  | _ :: _, [], _, h => by simp [inRanges] at h
  | n :: f, r :: l, hl, h => by
    simp only [inRanges, Bool.and_eq_true, decide_eq_true_eq] at h
    obtain ⟨⟨h1, h2⟩, h3⟩ := h
    have hr := hl r (by simp)
    have ih := encs_wt f l (fun r hr => hl r (by simp [hr])) h3
    have := enc_wt (x := n) (by omega) h2 hr.2
    rw [encs_cons, List.length_append, List.map_cons, List.sum_cons]
    omega
theorem ranges_wt {k : Int} (hk : kindOk k = true) : ((rangesOf k).map fun r => wt r.f1).sum ≤ 41 := by
  rcases kindOk_cases hk with rfl | rfl | rfl | rfl | rfl | rfl | rfl | rfl | rfl | rfl | rfl <;> decide
theorem enc_kind {k : Int} (hk : kindOk k = true) : Math.enc k.toNat = [k.toNat] := by
  have := kind_pos hk
  exact enc_small (by omega)
theorem put_size {k : Int} {b : Bd} (h : (putAns k b).2 = 0) : (putAns k b).1.size ≤ 42 ∧ nb (putAns k b).1 = k.toNat :: Math.encs (fieldsOf k b) := by
  obtain ⟨hk, hc, hr, e⟩ := putAns_ok h
  have e2 : nb (putAns k b).1 = k.toNat :: Math.encs (fieldsOf k b) := by
    rw [e]
    show nb (bytesOf _) = _
    rw [nb_bytesOf, encs_cons, enc_kind hk]
    rfl
  refine ⟨?_, e2⟩
  have h1 := encs_wt _ _ (ranges_small k) hr
  have h2 := ranges_wt hk
  rw [← nb_length, e2, List.length_cons]
  omega
/-- A record's bytes, cut off, are none. -/
theorem cut_none {k : Int} {b : Bd} (h : (putAns k b).2 = 0) {s : ByteArray} {n : Nat} (hn : n < (putAns k b).1.size) (hs : nb s = (nb (putAns k b).1).take n) : (getAns s).2.2 ≠ 0 := by
  intro h0
  obtain ⟨hk, hc, hr, e⟩ := putAns_ok h
  unfold getAns at h0
  obtain ⟨he, k', t, hy, hk', hl', hr', -⟩ := getOf_ok h0
  obtain ⟨l, e1, e2, hok⟩ := dec_sound (nb s) [] 0 0 (k' :: t) (nb_byte s) (by simp) (by omega) (Prod.ext hy he)
  rw [List.nil_append] at e1
  subst e1
  have e2' : Math.encs (k' :: t) = nb s := e2
  have hnb : nb (putAns k b).1 = Math.encs (k :: fieldsOf k b) := by rw [e]; exact nb_bytesOf _
  have hlen : n < (Math.encs (k :: fieldsOf k b)).length := by rw [← hnb, nb_length]; exact hn
  have hsplit : Math.encs (k :: fieldsOf k b) = Math.encs (k' :: t) ++ (Math.encs (k :: fieldsOf k b)).drop n := by
    rw [e2', hs, hnb, List.take_append_drop]
  have hd := dec_back _ (nums_ok hk hr)
  rw [hsplit, dec_encs _ _ _ hok, List.nil_append] at hd
  obtain ⟨l2, f1, f2, -⟩ := dec_sound _ _ 0 0 _ (fun x hx => encs_byte _ x (List.mem_of_mem_drop hx)) (by simp) (by omega) hd
  have f2' : Math.encs l2 = (Math.encs (k :: fieldsOf k b)).drop n := f2
  obtain ⟨rfl, f3⟩ := List.cons.inj f1
  have hne : l2 ≠ [] := by
    rintro rfl
    have := congrArg List.length f2'
    rw [encs_nil, List.length_drop] at this
    simp only [List.length_nil] at this
    omega
  replace f3 : fieldsOf k b = t ++ l2 := f3
  have g1 := congrArg List.length f3
  rw [List.length_append, fields_len, hl'] at g1
  have := List.length_pos_iff.2 hne
  omega
/-- Records with the same bytes are the same. -/
theorem put_inj {k q : Int} {a b : Bd} (ha : (putAns k a).2 = 0) (hb : (putAns q b).2 = 0) (h : (putAns k a).1 = (putAns q b).1) : k = q ∧ a = b := by
  have h1 := get_put ha
  rw [h, get_put hb] at h1
  simp only [Prod.mk.injEq, and_true] at h1
  exact ⟨h1.1.symm, h1.2.symm⟩
end Go.Proofs.Ytaogmfchpcdboaa
