/- Put and the reference's Put answer alike: what both answer. No condition. -/
import Derived.Test.YtaogmfchpcdboaaRefPut
import Derived.Test.YtaogmfchpcdboaaEvs
import Derived.Test.YtaogmfchpcdboaaForm
namespace Go.Proofs.Ytaogmfchpcdboaa
open Go.RowKit Go.Proofs.YtaogmfchpcdboaaW.PrintWords Go.Proofs.Ytaogmfchpcdboaa.Evs Go.Proofs.Ytaogmfchpcdboaa.Math

theorem inRanges_ok : ∀ (f : List Int) (l : List PIntentPuts.S67), (∀ r ∈ l, 0 ≤ r.f0 ∧ r.f1 ≤ 1073741824) → inRanges f l = true → ∀ x ∈ f, 0 ≤ x ∧ x ≤ 1073741824
  | [], _, _, _, x, hx => by simp at hx
  | _ :: _, [], _, h, _, _ => by simp [inRanges] at h
  | n :: f, r :: l, hl, h, x, hx => by
    simp only [inRanges, Bool.and_eq_true, decide_eq_true_eq] at h
    obtain ⟨⟨h1, h2⟩, h3⟩ := h
    have hr := hl r (by simp)
    rcases List.mem_cons.1 hx with rfl | hx
    · omega
    · exact inRanges_ok f l (fun r hr => hl r (by simp [hr])) h3 x hx
theorem ranges_small (k : Int) : ∀ r ∈ rangesOf k, 0 ≤ r.f0 ∧ r.f1 ≤ 1073741824 := by
  unfold rangesOf
  split
  · decide
  split
  · decide
  split
  · decide
  split
  · decide
  split
  · decide
  simp

/-- What Put answers. -/
def bytesOf (l : List Int) : ByteArray := strOfNums (ints (Math.encs l))
def putAns (k : Int) (b : Bd) : ByteArray × Int :=
  if kindOk k = false then (⟨#[]⟩, 6) else if cleanB k b = false then (⟨#[]⟩, 4) else if inRanges (fieldsOf k b) (rangesOf k) = false then (⟨#[]⟩, 1) else (bytesOf (k :: fieldsOf k b), 0)
theorem kind_pos {k : Int} (hk : kindOk k = true) : 1 ≤ k ∧ k ≤ 11 := by simpa [kindOk] using hk
theorem put_bytes {k : Int} {b : Bd} (hk : kindOk k = true) (hr : inRanges (fieldsOf k b) (rangesOf k) = true) : putS (k :: fieldsOf k b) [] = (bytesOf (k :: fieldsOf k b), true) := by
  have h := inRanges_ok _ _ (ranges_small k) hr
  have h1 := kind_pos hk
  rw [putS_ok _ _ (fun x hx => by rcases List.mem_cons.1 hx with rfl | hx; (· omega); exact (h x hx).1)]
  rfl
theorem put_evs {k : Int} {b : Bd} (hk : kindOk k = true) (hr : inRanges (fieldsOf k b) (rangesOf k) = true) : (k :: fieldsOf k b).length ≤ 10000 ∧ ∀ x ∈ k :: fieldsOf k b, x < 9223372036854775808 := by
  have h := inRanges_ok _ _ (ranges_small k) hr
  have h1 := kind_pos hk
  have h2 := fields_len k b
  have h3 := ranges_le k
  refine ⟨by simp only [List.length_cons]; omega, fun x hx => ?_⟩
  rcases List.mem_cons.1 hx with rfl | hx
  · omega
  · have := h x hx
    omega

theorem put_calls (k : Int) (b : Bd) (w : World) : Calls Try.prog 21 #[recVal k b] w fun e w' => e = .returned (.tuple #[.string (putAns k b).1, .int .i64 (putAns k b).2]) ∧ Below w.heap.size w w' := by
  cases hk : kindOk k with
  | false =>
    have e : putAns k b = (⟨#[]⟩, 6) := by simp [putAns, hk]
    rw [e]
    exact put_bad k b w hk
  | true =>
    cases hc : cleanB k b with
    | false =>
      have e : putAns k b = (⟨#[]⟩, 4) := by simp [putAns, hk, hc]
      rw [e]
      exact put_form k b _ w hk rfl (by rw [form_eq k b hk, hc])
    | true =>
      have hl := fields_len k b
      have hle := ranges_le k
      obtain ⟨kc, hcheck⟩ := (check_f (fieldsOf k b) (rangesOf k) (by omega) (by omega)).rounds
      cases hr : inRanges (fieldsOf k b) (rangesOf k) with
      | false =>
        have e : putAns k b = (⟨#[]⟩, 1) := by simp [putAns, hk, hc, hr]
        rw [e]
        have hcheck' : PIntentPuts.intent_check.f kc (fieldsOf k b) (rangesOf k) = some 1 := by rw [hcheck]; simp [checkN, hr]
        exact put_range k b _ kc w hk rfl (by rw [form_eq k b hk, hc]) hcheck'
      | true =>
        have e : putAns k b = (bytesOf (k :: fieldsOf k b), 0) := by simp [putAns, hk, hc, hr]
        rw [e]
        have hcheck' : PIntentPuts.intent_check.f kc (fieldsOf k b) (rangesOf k) = some 0 := by rw [hcheck]; simp [checkN, hr]
        have h1 := put_evs hk hr
        obtain ⟨kp, hput⟩ := (put_f (k :: fieldsOf k b) h1.1 h1.2).rounds
        rw [put_bytes hk hr] at hput
        exact put_good k b _ kc kp _ _ w hk rfl (by rw [form_eq k b hk, hc]) hcheck' hput
theorem rput_calls (k : Int) (b : Bd) (w : World) : Calls Try.prog 22 #[recVal k b] w fun e w' => e = .returned (.tuple #[.string (putAns k b).1, .int .i64 (putAns k b).2]) ∧ Below w.heap.size w w' := by
  obtain ⟨km, hm⟩ := (most_f k).rounds
  cases hk : kindOk k with
  | false =>
    have e : putAns k b = (⟨#[]⟩, 6) := by simp [putAns, hk]
    rw [e]
    exact rput_bad k b km [] w (by rw [hm]; simp [mostR, hk])
  | true =>
    have hm' : PIntentPuts.switchbackref09_Most.f km k = some ((rangesOf k).map PIntentPuts.S67.f1, true) := by rw [hm]; simp [mostR, hk]
    cases hc : cleanB k b with
    | false =>
      have e : putAns k b = (⟨#[]⟩, 4) := by simp [putAns, hk, hc]
      rw [e]
      exact rput_form k b km _ w hm' hc
    | true =>
      have hl := fields_len k b
      have hle := ranges_le k
      obtain ⟨kw, hwithin⟩ := (within_f k hk (fieldsOf k b) hl (by omega)).rounds
      cases hr : inRanges (fieldsOf k b) (rangesOf k) with
      | false =>
        have e : putAns k b = (⟨#[]⟩, 1) := by simp [putAns, hk, hc, hr]
        rw [e]
        rw [hr] at hwithin
        exact rput_range k b km _ kw w hm' hc hwithin
      | true =>
        have e : putAns k b = (bytesOf (k :: fieldsOf k b), 0) := by simp [putAns, hk, hc, hr]
        rw [e]
        rw [hr] at hwithin
        have h1 := put_evs hk hr
        obtain ⟨kp, hput⟩ := (refput_f (k :: fieldsOf k b) h1.1 h1.2).rounds
        rw [put_bytes hk hr] at hput
        exact rput_good k b km _ kw kp _ _ w hm' hc hwithin hput
end Go.Proofs.Ytaogmfchpcdboaa
