/- A record is remade of its numbers iff it is clean; what Put answers, as plain Lean. No condition. -/
import Derived.Test.YtaogmfchpcdboaaClean
namespace Go.Proofs.Ytaogmfchpcdboaa
set_option linter.unusedSimpArgs false

theorem bit_one (p : Bool) : (bitI p == 1) = p := by cases p <;> rfl
theorem form_eq (k : Int) (b : Bd) (hk : kindOk k = true) : recEq k (bodyOf k (fieldsOf k b)) k b = cleanB k b := by
  obtain ⟨a1, a2, a3, a4, a5, a6, a7, a8, a9, a10, a11, a12, a13, a14, a15, a16, a17, a18⟩ := b
  rcases kindOk_cases hk with rfl | rfl | rfl | rfl | rfl | rfl | rfl | rfl | rfl | rfl | rfl
  all_goals simp only [recEq, stEq, bodyOf, fieldsOf, at_, zB, cleanB, clean1, clean2, clean3, clean4, bit_one]
  all_goals simp [bit_one]
  all_goals grind
end Go.Proofs.Ytaogmfchpcdboaa
