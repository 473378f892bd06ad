/- Numbers as bytes of seven bits each: the bytes of a list of numbers, a reader of bytes, and that each undoes the other. No program in sight. -/
import Derived.Laws.BitsLemmas
import Derived.Lib.Bytes
import Derived.Test.YtaogmfchpcdboaaWMore
import Derived.Test.YtaogmfchpcdboaaWSized
namespace Go.Proofs.Ytaogmfchpcdboaa.PrintWords
/- The rows look for this word under the seat's own name. -/
theorem sized_ints {H : Type} {enc : TypeId × Value → H} {P : Program} {W : World} {base : Nat} {spare : Nat → Bool} {held : Bool} {t e : TypeId} {k : IntKind} {a : Option Addr} {len cap : Nat} {d : DataW H} {ps : List MemPlace} {ts : List TypeId} {ds : List (DataW H)} {j : Nat}
    (h1 : (DataW.weightsEach P ts ds).all (· ≤ reachBytes) = true) (h2 : ts[j]? = some t) (h3 : ds[j]? = some d) (h4 : P.underlying t = some (.slice e)) (h5 : P.underlying e = some (.int k)) (h6 : P.cellsOf e = 1) {B : Nat} (h7 : P.bytesOf e = B)
    (h8 : DataW.Trod enc P W base spare held t (.slice a len cap) d ps) : len * B ≤ 140737488351232 := Go.Proofs.YtaogmfchpcdboaaW.PrintWords.sized_ints h1 h2 h3 h4 h5 h6 h7 h8
end Go.Proofs.Ytaogmfchpcdboaa.PrintWords
namespace Go.Proofs.Ytaogmfchpcdboaa.Math
open Go.RowKit Go.Proofs.YtaogmfchpcdboaaW.PrintWords

def enc (n : Nat) : List Nat := if n < 128 then [n] else (128 + n % 128) :: enc (n / 128)
termination_by n
decreasing_by omega

def encs (l : List Int) : List Nat := l.flatMap fun x => enc x.toNat

def dec : List Nat → List Int → Nat → Nat → List Int × Int
  | [], acc, _, c => if 0 < c then ([], 4) else (acc, 0)
  | b :: r, acc, n, c =>
    if (c = 8 ∧ 128 ≤ b) ∨ (0 < c ∧ b = 0) then ([], 5)
    else if b < 128 then dec r (acc ++ [((n + b * 2 ^ (7 * c) : Nat) : Int)]) 0 0
    else dec r acc (n + (b - 128) * 2 ^ (7 * c)) (c + 1)

theorem enc_small {n : Nat} (h : n < 128) : enc n = [n] := by rw [enc, if_pos h]
theorem enc_big {n : Nat} (h : 128 ≤ n) : enc n = (128 + n % 128) :: enc (n / 128) := by rw [enc, if_neg (by omega)]

theorem pow_next (c : Nat) : 2 ^ (7 * (c + 1)) = 128 * 2 ^ (7 * c) := by
  rw [show 7 * (c + 1) = 7 + 7 * c from by omega, Nat.pow_add]

theorem encs_nil : encs [] = [] := rfl
theorem encs_cons (x : Int) (l : List Int) : encs (x :: l) = enc x.toNat ++ encs l := rfl
theorem encs_append (a b : List Int) : encs (a ++ b) = encs a ++ encs b := by simp [encs]

theorem enc_byte (n : Nat) : ∀ b ∈ enc n, b < 256 := by
  induction n using Nat.strongRecOn with
  | _ n ih =>
    by_cases h : n < 128
    · rw [enc_small h]; intro b hb; simp at hb; omega
    · rw [enc_big (by omega)]
      intro b hb
      rcases List.mem_cons.1 hb with hb | hb
      · omega
      · exact ih (n / 128) (by omega) b hb

theorem encs_byte (l : List Int) : ∀ b ∈ encs l, b < 256 := by
  intro b hb
  obtain ⟨x, _, hx⟩ := List.mem_flatMap.1 hb
  exact enc_byte _ b hx

theorem enc_pos (n : Nat) : 1 ≤ (enc n).length := by
  by_cases h : n < 128
  · rw [enc_small h]; simp
  · rw [enc_big (by omega)]; simp

theorem enc_len (k : Nat) : ∀ n : Nat, n < 2 ^ (7 * (k + 1)) → (enc n).length ≤ k + 1 := by
  induction k with
  | zero => intro n h; rw [enc_small (by simpa using h)]; simp
  | succ k ih =>
    intro n h
    by_cases hn : n < 128
    · rw [enc_small hn]; simp
    · rw [enc_big (by omega)]
      rw [pow_next] at h
      have := ih (n / 128) (by omega)
      simp; omega

def Ok (l : List Int) : Prop := ∀ x ∈ l, 0 ≤ x ∧ x < 9223372036854775808

theorem enc_nine {x : Int} (h1 : x < 9223372036854775808) : (enc x.toNat).length ≤ 9 := enc_len 8 _ (by simp; omega)

theorem encs_len (l : List Int) (h : ∀ x ∈ l, x < 9223372036854775808) : l.length ≤ (encs l).length ∧ (encs l).length ≤ 9 * l.length := by
  induction l with
  | nil => simp [encs]
  | cons x l ih =>
    have h0 := ih fun y hy => h y (by simp [hy])
    have h1 := enc_pos x.toNat
    have h2 := enc_nine (h x (by simp))
    rw [encs_cons]; simp; omega

theorem mul_parts (m P : Nat) : (m % 128) * P + (m / 128) * (128 * P) = m * P := by
  have e : m / 128 * (128 * P) = (128 * (m / 128)) * P := by rw [← Nat.mul_assoc, Nat.mul_comm (m / 128) 128]
  rw [e, ← Nat.add_mul, Nat.add_comm, Nat.div_add_mod]

theorem dec_enc (m : Nat) : ∀ (r : List Nat) (acc : List Int) (n c : Nat), m < 2 ^ (7 * (9 - c)) → c ≤ 8 → (0 < c → 0 < m) →
    dec (enc m ++ r) acc n c = dec r (acc ++ [((n + m * 2 ^ (7 * c) : Nat) : Int)]) 0 0 := by
  induction m using Nat.strongRecOn with
  | _ m ih =>
    intro r acc n c hm hc hp
    by_cases h : m < 128
    · rw [enc_small h]
      show dec (m :: r) acc n c = _
      rw [dec, if_neg (by omega), if_pos h]
    · have hc8 : c ≠ 8 := by
        rintro rfl
        simp at hm
        omega
      rw [enc_big (by omega)]
      show dec ((128 + m % 128) :: (enc (m / 128) ++ r)) acc n c = _
      rw [dec, if_neg (by omega), if_neg (by omega)]
      have e : 9 - c = (9 - (c + 1)) + 1 := by omega
      rw [e, pow_next] at hm
      rw [ih (m / 128) (by omega) r acc _ (c + 1) (by omega) (by omega) (by omega)]
      rw [show 128 + m % 128 - 128 = m % 128 from by omega, Nat.add_assoc, pow_next, mul_parts]

theorem dec_encs (l : List Int) : ∀ (r : List Nat) (acc : List Int), Ok l → dec (encs l ++ r) acc 0 0 = dec r (acc ++ l) 0 0 := by
  induction l with
  | nil => intro r acc _; simp [encs]
  | cons x l ih =>
    intro r acc h
    have hx := h x (by simp)
    rw [encs_cons, List.append_assoc, dec_enc _ _ _ _ _ (by simp; omega) (by omega) (by omega), ih _ _ fun y hy => h y (by simp [hy])]
    have e : ((0 + x.toNat * 2 ^ (7 * 0) : Nat) : Int) = x := by simp; omega
    rw [e]; simp

theorem dec_back (l : List Int) (h : Ok l) : dec (encs l) [] 0 0 = (l, 0) := by
  have := dec_encs l [] [] h
  simp [dec] at this
  exact this

theorem encs_inj {a b : List Int} (ha : Ok a) (hb : Ok b) (h : encs a = encs b) : a = b := by
  have h1 := dec_back a ha
  rw [h, dec_back b hb] at h1
  exact ((Prod.mk.inj h1).1).symm

/-! ### What is got is put as it was -/
def pend : Nat → Nat → List Nat
  | _, 0 => []
  | n, c + 1 => (128 + n % 128) :: pend (n / 128) c

theorem mod_parts (n b P : Nat) : (n + b * (128 * P)) % 128 = n % 128 ∧ (n + b * (128 * P)) / 128 = n / 128 + b * P := by
  have e : b * (128 * P) = 128 * (b * P) := by rw [← Nat.mul_assoc, Nat.mul_comm b 128, Nat.mul_assoc]
  rw [e]
  omega

theorem enc_last (c : Nat) : ∀ (n b : Nat), n < 2 ^ (7 * c) → b < 128 → (0 < c → 0 < b) → enc (n + b * 2 ^ (7 * c)) = pend n c ++ [b] := by
  induction c with
  | zero =>
    intro n b hn hb _
    simp at hn
    subst hn
    simp [pend, enc_small hb]
  | succ c ih =>
    intro n b hn hb h0
    have hb0 := h0 (by omega)
    rw [pow_next] at hn ⊢
    have hP : 0 < 2 ^ (7 * c) := Nat.two_pow_pos _
    obtain ⟨e1, e2⟩ := mod_parts n b (2 ^ (7 * c))
    have hbig : 128 ≤ n + b * (128 * 2 ^ (7 * c)) := by
      have : 1 * 128 ≤ b * (128 * 2 ^ (7 * c)) := Nat.mul_le_mul hb0 (Nat.le_mul_of_pos_right _ hP)
      omega
    rw [enc_big hbig, e1, e2, ih (n / 128) b (by omega) hb (fun _ => hb0)]
    rfl

theorem pend_snoc (c : Nat) : ∀ (n b : Nat), n < 2 ^ (7 * c) → 128 ≤ b → b < 256 → pend (n + (b - 128) * 2 ^ (7 * c)) (c + 1) = pend n c ++ [b] := by
  induction c with
  | zero =>
    intro n b hn h1 h2
    simp at hn
    subst hn
    simp [pend]; omega
  | succ c ih =>
    intro n b hn h1 h2
    rw [pow_next] at hn ⊢
    obtain ⟨e1, e2⟩ := mod_parts n (b - 128) (2 ^ (7 * c))
    rw [pend, e1, e2, ih (n / 128) b (by omega) h1 h2]
    rfl

theorem dec_sound (r : List Nat) : ∀ (acc : List Int) (n c : Nat) (l : List Int), (∀ b ∈ r, b < 256) → n < 2 ^ (7 * c) → c ≤ 8 → dec r acc n c = (l, 0) →
    ∃ l', l = acc ++ l' ∧ encs l' = pend n c ++ r ∧ Ok l' := by
  induction r with
  | nil =>
    intro acc n c l _ _ _ h
    rw [dec] at h
    split at h
    · simp at h
    · have : c = 0 := by omega
      subst this
      simp at h
      exact ⟨[], by simp [h], rfl, fun x hx => by simp at hx⟩
  | cons b r ih =>
    intro acc n c l hr hn hc h
    have hb := hr b (by simp)
    rw [dec] at h
    split at h
    · simp at h
    · rename_i h1
      split at h
      · rename_i h2
        obtain ⟨l', e1, e2, e3⟩ := ih _ _ _ _ (fun x hx => hr x (by simp [hx])) (by simp) (by omega) h
        refine ⟨((n + b * 2 ^ (7 * c) : Nat) : Int) :: l', by simp [e1], ?_, ?_⟩
        · rw [encs_cons, e2, Int.toNat_natCast, enc_last c n b hn h2 (by omega)]
          simp [pend]
        · intro x hx
          rcases List.mem_cons.1 hx with rfl | hx
          · refine ⟨Int.natCast_nonneg _, ?_⟩
            have hp : 2 ^ (7 * c) ≤ 2 ^ 56 := Nat.pow_le_pow_right (by decide) (by omega)
            have hq : b * 2 ^ (7 * c) ≤ 127 * 2 ^ (7 * c) := Nat.mul_le_mul_right _ (by omega)
            have : n + b * 2 ^ (7 * c) < 9223372036854775808 := by omega
            generalize n + b * 2 ^ (7 * c) = q at this
            omega
          · exact e3 x hx
      · rename_i h2
        have hc' : c < 8 := by omega
        have hlt : n + (b - 128) * 2 ^ (7 * c) < 2 ^ (7 * (c + 1)) := by
          rw [pow_next]
          have : (b - 128) * 2 ^ (7 * c) ≤ 127 * 2 ^ (7 * c) := Nat.mul_le_mul_right _ (by omega)
          omega
        obtain ⟨l', e1, e2, e3⟩ := ih _ _ _ _ (fun x hx => hr x (by simp [hx])) hlt (by omega) h
        refine ⟨l', e1, ?_, e3⟩
        rw [e2, pend_snoc c n b hn (by omega) hb]
        simp

theorem dec_else (r : List Nat) : ∀ (acc : List Int) (n c : Nat), (dec r acc n c).2 ≠ 0 → (dec r acc n c).1 = [] := by
  induction r with
  | nil =>
    intro acc n c h
    rw [dec] at h ⊢
    split
    · rfl
    · rename_i hc; rw [if_neg hc] at h; simp at h
  | cons b r ih =>
    intro acc n c h
    rw [dec] at h ⊢
    split
    · rfl
    · rename_i h1
      rw [if_neg h1] at h
      split
      · rename_i h2; rw [if_pos h2] at h; exact ih _ _ _ h
      · rename_i h2; rw [if_neg h2] at h; exact ih _ _ _ h

theorem dec_len (r : List Nat) : ∀ (acc : List Int) (n c : Nat), (dec r acc n c).1.length ≤ acc.length + r.length := by
  induction r with
  | nil =>
    intro acc n c
    rw [dec]
    split <;> simp
  | cons b r ih =>
    intro acc n c
    rw [dec]
    split
    · simp
    · split
      · have := ih (acc ++ [((n + b * 2 ^ (7 * c) : Nat) : Int)]) 0 0
        simp at this ⊢; omega
      · have := ih acc (n + (b - 128) * 2 ^ (7 * c)) (c + 1)
        simp; omega

/-! ### A program's word for a number's bytes, and bytes as numbers -/
def nb (s : ByteArray) : List Nat := s.data.toList.map UInt8.toNat
theorem nb_length (s : ByteArray) : (nb s).length = s.size := by
  show (s.data.toList.map UInt8.toNat).length = s.data.size
  rw [List.length_map, Array.length_toList]
theorem nb_byte (s : ByteArray) : ∀ b ∈ nb s, b < 256 := by
  intro b hb
  obtain ⟨x, _, rfl⟩ := List.mem_map.1 hb
  exact x.toNat_lt

theorem or128 (y : Nat) (h : y < 256) : bits .or .u8 (y : Int) 128 = ((128 + y % 128 : Nat) : Int) := by
  have h8 : y < 2 ^ 8 := h
  have h9 : 128 < 2 ^ 8 := by decide
  have e := (bits_nat .u8 8 (by decide) wraps_u8 y 128 h8 h9).2
  have d : y ||| 128 = 128 + y % 128 := by
    have hz : y % 128 < 2 ^ 7 := by omega
    have k := Nat.two_pow_add_eq_or_of_lt hz 1
    have k' : 128 ||| y % 128 = 128 + y % 128 := by simpa using k.symm
    by_cases hy : y < 128
    · rw [Nat.mod_eq_of_lt hy] at k' ⊢
      rw [Nat.or_comm]; exact k'
    · have hy' : y ||| 128 = 128 ||| y % 128 := by
        have h0 : y = 128 ||| y % 128 := by rw [k']; omega
        rw [Nat.or_comm]
        rw (config := { occs := .pos [1] }) [h0]
        rw [← Nat.or_assoc, Nat.or_self]
      rw [hy', k']
  rw [d] at e
  exact e

theorem and127 (y : Nat) (h : y < 256) : bits .and .u8 (y : Int) 127 = ((y % 128 : Nat) : Int) := by
  have e : bits .and .u8 (y : Int) 127 = (y : Int) % 128 := bits_mask .u8 8 (by decide) wraps_u8 7 (by decide) (y : Int) (by omega) (by omega)
  rw [e]
  omega

theorem wraps_i64 (n : Int) (h₀ : 0 ≤ n) (h₁ : n < 2 ^ 63) : IntKind.i64.wrap n = n := by rw [IntKind.wrap_i64]; omega

theorem or_i64 (n x c : Nat) (hn : n < 2 ^ (7 * c)) (hx : x < 128) (hc : c ≤ 8) : bits .or .i64 (n : Int) ((x * 2 ^ (7 * c) : Nat) : Int) = ((n + x * 2 ^ (7 * c) : Nat) : Int) := by
  have hp : 2 ^ (7 * c) ≤ 2 ^ 56 := Nat.pow_le_pow_right (by decide) (by omega)
  have hq : x * 2 ^ (7 * c) ≤ 127 * 2 ^ (7 * c) := Nat.mul_le_mul_right _ (by omega)
  have e := (bits_nat .i64 63 (by decide) wraps_i64 n (x * 2 ^ (7 * c)) (by omega) (by omega)).2
  rw [e, Nat.or_comm, Nat.mul_comm x, ← Nat.two_pow_add_eq_or_of_lt hn x, Nat.add_comm]

/-! ### The program's strings -/
def ints (l : List Nat) : List Int := l.map fun (m : Nat) => (m : Int)
theorem ints_nil : ints [] = [] := rfl
theorem ints_cons (a : Nat) (l : List Nat) : ints (a :: l) = (a : Int) :: ints l := rfl
theorem ints_append (a b : List Nat) : ints (a ++ b) = ints a ++ ints b := by simp [ints]
theorem ints_length (a : List Nat) : (ints a).length = a.length := by simp [ints]

theorem nb_str (l : List Nat) (h : ∀ b ∈ l, b < 256) : nb (strOfNums (ints l)) = l := by
  show ((ints l).map fun n => UInt8.ofNat n.toNat).map UInt8.toNat = l
  induction l with
  | nil => rfl
  | cons a l ih =>
    have ha := h a (by simp)
    rw [ints_cons, List.map_cons, List.map_cons, ih fun b hb => h b (by simp [hb])]
    congr 1
    rw [Int.toNat_natCast, UInt8.toNat_ofNat']
    exact Nat.mod_eq_of_lt ha

theorem nb_inj {s t : ByteArray} (h : nb s = nb t) : s = t := by
  have e : s.data.toList = t.data.toList := by
    have inj : Function.Injective UInt8.toNat := fun a b h => UInt8.toNat_inj.1 h
    exact List.map_inj_right (fun a b => inj.eq_iff.1) |>.1 h
  cases s with
  | mk a => cases t with
    | mk b => congr 1; exact Array.toList_inj.1 e

theorem str_nb (s : ByteArray) : strOfNums (ints (nb s)) = s := nb_inj (nb_str _ (nb_byte s))

theorem nb_append (s t : ByteArray) : nb (s ++ t) = nb s ++ nb t := by
  unfold nb
  rw [← List.map_append]
  congr 1

theorem toList_of (s : ByteArray) : s.toList = s.data.toList := Lib.toList_data s
theorem toList_inj {s t : ByteArray} (h : s.toList = t.toList) : s = t := by
  rw [toList_of, toList_of] at h
  cases s with
  | mk a => cases t with
    | mk b => congr 1; exact Array.toList_inj.1 h

theorem str_inj {a b : List Nat} (ha : ∀ x ∈ a, x < 256) (hb : ∀ x ∈ b, x < 256) (h : strOfNums (ints a) = strOfNums (ints b)) : a = b := by
  rw [← nb_str a ha, ← nb_str b hb, h]

theorem str_append (a b : List Int) : strOfNums a ++ strOfNums b = strOfNums (a ++ b) := by
  have h : (strOfNums a ++ strOfNums b).toList = (strOfNums (a ++ b)).toList := by
    rw [toList_of, toList_of]; simp [strOfNums]
  exact toList_inj h

theorem bt_nb (s : ByteArray) (i : Nat) (h : i < s.size) : ∃ b : Nat, b < 256 ∧ bt s (i : Int) = (b : Int) ∧ (nb s).drop i = b :: (nb s).drop (i + 1) := by
  have h' : i < (nb s).length := by rw [nb_length]; exact h
  refine ⟨(nb s)[i], nb_byte s _ (List.getElem_mem h'), ?_, List.drop_eq_getElem_cons h'⟩
  unfold bt
  rw [Int.toNat_natCast, dif_pos h]
  simp [nb]
  rfl

theorem evPos {α : Type} {c : Prop} [Decidable c] {g f : Nat → Option α} {r : α} (hc : c) (h : Ev g r) : Ev (fun k => if c then g k else f k) r := Ev.congr (fun _ => if_pos hc) h
theorem evNeg {α : Type} {c : Prop} [Decidable c] {g f : Nat → Option α} {r : α} (hc : ¬ c) (h : Ev f r) : Ev (fun k => if c then g k else f k) r := Ev.congr (fun _ => if_neg hc) h

/-- What 'code.Put' answers of the numbers that are left, behind the bytes that it has. -/
def putS : List Int → List Int → ByteArray × Bool
  | [], x4 => (strOfNums x4, true)
  | x :: l, x4 => if x < 0 then (⟨#[]⟩, false) else putS l (x4 ++ ints (enc x.toNat))

theorem putS_ok (l : List Int) : ∀ x4 : List Int, (∀ x ∈ l, 0 ≤ x) → putS l x4 = (strOfNums (x4 ++ ints (encs l)), true) := by
  induction l with
  | nil => intro x4 _; simp [putS, encs, ints]
  | cons x l ih =>
    intro x4 h
    have := h x (by simp)
    rw [putS, if_neg (by omega), ih _ fun y hy => h y (by simp [hy]), encs_cons, ints_append, List.append_assoc]

theorem putS_bad (l : List Int) : ∀ x4 : List Int, (¬ ∀ x ∈ l, 0 ≤ x) → putS l x4 = (⟨#[]⟩, false) := by
  induction l with
  | nil => intro x4 h; exact absurd (fun x hx => by simp at hx) h
  | cons x l ih =>
    intro x4 h
    rw [putS]
    split
    · rfl
    · rename_i hx
      refine ih _ fun hl => h fun y hy => ?_
      rcases List.mem_cons.1 hy with rfl | hy
      · omega
      · exact hl y hy

theorem drop_cons {l : List Int} {i : Nat} (h : i < l.length) : l.drop i = rd l (i : Int) :: l.drop (i + 1) := by
  rw [List.drop_eq_getElem_cons h]
  congr 1
  simp [rd, List.getD_eq_getElem?_getD, h]

theorem rd_mem {l : List Int} {i : Nat} (h : i < l.length) : rd l (i : Int) ∈ l := by
  have e : rd l (i : Int) = l[i] := by simp [rd, List.getD_eq_getElem?_getD, h]
  rw [e]; exact List.getElem_mem h

theorem wrap64_in {n : Int} (h : -9223372036854775808 ≤ n) (h' : n < 9223372036854775808) : wrap64 n = n := by unfold wrap64; omega

theorem wf_i64 {x : Int} (h : (Lit.int .i64 x).wf = true) : -9223372036854775808 ≤ x ∧ x < 9223372036854775808 := by
  simp only [Lit.wf, IntKind.min, IntKind.max, IntKind.signed, IntKind.bits, Bool.and_eq_true, decide_eq_true_eq, if_true] at h
  omega

theorem shl_i64 (x c : Nat) (hx : x < 128) (hc : c ≤ 8) : shl .i64 (x : Int) ((7 * c : Nat) : Int) = ((x * 2 ^ (7 * c) : Nat) : Int) := by
  have hp : 2 ^ (7 * c) ≤ 2 ^ 56 := Nat.pow_le_pow_right (by decide) (by omega)
  have hq : x * 2 ^ (7 * c) ≤ 127 * 2 ^ (7 * c) := Nat.mul_le_mul_right _ (by omega)
  unfold shl
  have e : min ((7 * c : Nat) : Int).toNat IntKind.i64.bits = 7 * c := by
    show min ((7 * c : Nat) : Int).toNat 64 = 7 * c
    rw [Int.toNat_natCast]; omega
  rw [e]
  have e2 : ((x : Int) * 2 ^ (7 * c)) = ((x * 2 ^ (7 * c) : Nat) : Int) := by simp
  rw [e2]
  exact wraps_i64 _ (Int.natCast_nonneg _) (by generalize x * 2 ^ (7 * c) = q at hq; omega)

end Go.Proofs.Ytaogmfchpcdboaa.Math
