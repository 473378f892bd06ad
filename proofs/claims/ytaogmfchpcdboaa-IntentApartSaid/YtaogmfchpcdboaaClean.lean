/- The reference's Clean: does a record bear no more than its kind's numbers? No condition. -/
import Derived.Test.YtaogmfchpcdboaaFields
import Derived.BigQuiet
namespace Go.Proofs.Ytaogmfchpcdboaa
open Go.RowKit Go.Proofs.YtaogmfchpcdboaaW.PrintWords
set_option linter.unusedSimpArgs false
set_option linter.unusedVariables false

def clean1 (k : Int) (b : Bd) : Bool := k != 1 && ((b.rev != 0 || b.n != 0) || b.delay != 0)
def clean2 (k : Int) (b : Bd) : Bool := (k != 4 && k != 9) && b.pass
def clean3 (k : Int) (b : Bd) : Bool := ((decide (k < 5) || decide (8 < k)) && b.gen != 0) || (k != 8 && b.tick != 0)
def clean4 (k : Int) (b : Bd) : Bool := k == 11 || stEq b zB
def cleanB (k : Int) (b : Bd) : Bool := !clean1 k b && (!clean2 k b && (!clean3 k b && clean4 k b))

theorem clean_end {k : Int} {b : Bd} (h1 : clean1 k b = false) (h2 : clean2 k b = false) (h3 : clean3 k b = false) {q : Bool} (h4 : q = clean4 k b) : q = cleanB k b := by
  simp [cleanB, h1, h2, h3, h4]

set_option maxHeartbeats 16000000 in
set_option maxRecDepth 100000 in
theorem clean_calls (k : Int) (b : Bd) (w : World) : Calls Try.prog 32 #[recVal k b] w fun e w' => e = .returned (.bool (cleanB k b)) ∧ Below w.heap.size w w' := by
  have hz : ∀ W, (binOp .eql 39 (stVal b) (stVal zB)).run Try.prog W = .ok (.bool (stEq b zB)) W := fun W => eql39 W b zB
  unfold stVal zB at hz
  unfold recVal
  go_enter Try.func32, Try.ntmps32
  go_wp2
  all_goals go_ret
  all_goals refine ⟨congrArg (fun q => Ending.returned (Value.bool q)) ?_, by repeat (first | exact Below.refl _ _ | apply below_alloc)⟩
  all_goals clear hz
  all_goals first | (simp_all [cleanB, clean1, clean2, clean3, clean4]; done) | (refine clean_end ?_ ?_ ?_ ?_ <;> simp only [clean1, clean2, clean3, clean4, zB] <;> grind) | (simp only [cleanB, clean1, clean2, clean3, clean4]; grind)
end Go.Proofs.Ytaogmfchpcdboaa
