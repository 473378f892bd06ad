/- intent.Get: what it answers for any bytes of a bounded number. -/
import Derived.Test.YtaogmfchpcdboaaGood
import Derived.Test.YtaogmfchpcdboaaAns
namespace Go.Proofs.Ytaogmfchpcdboaa
open Go.RowKit Go.Proofs.YtaogmfchpcdboaaW.PrintWords Go.Proofs.Ytaogmfchpcdboaa.Evs Go.Proofs.Ytaogmfchpcdboaa.Math

def getRes (x : Int × Bd × Int) : Value := .tuple #[recVal x.1 x.2.1, .int .i64 x.2.2]
theorem get_calls (s : ByteArray) (hs : s.size ≤ 50000) (w : World) : Calls Try.prog 24 #[.string s] w fun e w' => e = .returned (getRes (getAns s)) ∧ Below w.heap.size w w' := by
  obtain ⟨kg, hg⟩ := (get_f s (by omega)).rounds
  unfold getAns
  generalize Math.dec (nb s) [] 0 0 = d at hg
  obtain ⟨y, re⟩ := d
  show Calls Try.prog 24 #[.string s] w fun e w' => e = .returned (getRes (getOf y re)) ∧ Below w.heap.size w w'
  by_cases h0 : re = 0
  · subst h0
    cases y with
    | nil => exact get_empty s kg w hg
    | cons k t =>
      cases hk : kindOk k with
      | false =>
        have e : getOf (k :: t) 0 = (0, zB, 6) := by simp [getOf, hk]
        rw [e]
        exact get_kind s kg k t w hg hk
      | true =>
        by_cases hl : t.length = (rangesOf k).length
        · have hle := ranges_le k
          obtain ⟨kc, hcheck⟩ := (check_f t (rangesOf k) (by omega) (by omega)).rounds
          cases hr : inRanges t (rangesOf k) with
          | false =>
            have e : getOf (k :: t) 0 = (0, zB, 1) := by simp [getOf, hk, hl, hr]
            rw [e]
            exact get_range s kg k t kc w hg hk hl (by rw [hcheck]; simp [checkN, hr])
          | true =>
            have e : getOf (k :: t) 0 = (k, bodyOf k t, 0) := by simp [getOf, hk, hl, hr]
            rw [e]
            exact get_good s kg k t kc w hg hk hl (by rw [hcheck]; simp [checkN, hr])
        · have e : getOf (k :: t) 0 = (0, zB, 4) := by simp [getOf, hk, hl]
          rw [e]
          exact get_form s kg k t w hg hk hl
  · have e : getOf y re = (0, zB, re) := by simp [getOf, h0]
    rw [e]
    exact get_bad s kg y re w hg h0
end Go.Proofs.Ytaogmfchpcdboaa
