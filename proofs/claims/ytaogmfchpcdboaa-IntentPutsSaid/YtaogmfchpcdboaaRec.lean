/- A controller's records as plain data: their values, their fields, their ranges; '==' between two of them. No condition. -/
import Derived.Test.YtaogmfchpcdboaaPIntentPutsx1
import Derived.Test.YtaogmfchpcdboaaPIntentPutsx3
import Derived.ChangeKeysEq
namespace Go.Proofs.Ytaogmfchpcdboaa
open Go.RowKit Go.Proofs.YtaogmfchpcdboaaW.PrintWords

/-- All of a record but its kind. -/
structure Bd where
  rev : Int
  n : Int
  delay : Int
  gen : Int
  tick : Int
  pass : Bool
  phase : Int
  active : Int
  r0 : Int
  r1 : Int
  w0 : Int
  w1 : Int
  p0 : Bool
  p1 : Bool
  sdelay : Int
  sgen : Int
  sw : Int
  flip : Int
deriving DecidableEq

def zB : Bd := ⟨0, 0, 0, 0, 0, false, 0, 0, 0, 0, 0, 0, false, false, 0, 0, 0, 0⟩

def recVal (k : Int) (b : Bd) : Value := .agg #[.int .i64 k, .int .i64 b.rev, .int .i64 b.n, .int .i64 b.delay, .int .i64 b.gen, .int .i64 b.tick, .bool b.pass, .int .i64 b.phase, .int .i64 b.active, .int .i64 b.r0, .int .i64 b.r1, .int .i64 b.w0, .int .i64 b.w1, .bool b.p0, .bool b.p1, .int .i64 b.sdelay, .int .i64 b.sgen, .int .i64 b.sw, .int .i64 b.flip]

theorem cells3 : Try.prog.cellsOf 3 = 1 := by kernel_rfl
theorem cells4 : Try.prog.cellsOf 4 = 1 := by kernel_rfl
theorem plain3 : Try.prog.plainKey 3 = true := by kernel_rfl
theorem plain4 : Try.prog.plainKey 4 = true := by kernel_rfl
theorem info4 : (Try.prog.info? 4).isSome = true := by kernel_rfl

theorem eqItems2 {e : TypeId} {d : Nat} {w : World} {a b c f : Value} {r s : Bool} (he : Try.prog.plainKey e = true) (hc : Try.prog.cellsOf e = 1)
    (h1 : (Op.equalIn d e a c).run Try.prog w = .ok r w) (h2 : (Op.equalIn d e b f).run Try.prog w = .ok s w) :
    (Op.eqItems d e (Try.prog.cellsOf e) #[a, b] #[c, f] (List.range 2)).run Try.prog w = .ok (r && s) w := by
  rw [hc]
  have p1 := run_part_plain (P := Try.prog) w he (xs := #[a, b]) (off := 0 * 1) (v := a) rfl
  have p2 := run_part_plain (P := Try.prog) w he (xs := #[a, b]) (off := 1) (v := b) rfl
  have p3 := run_part_plain (P := Try.prog) w he (xs := #[c, f]) (off := 0 * 1) (v := c) rfl
  have p4 := run_part_plain (P := Try.prog) w he (xs := #[c, f]) (off := 1) (v := f) rfl
  show (Op.eqItems d e 1 #[a, b] #[c, f] [0, 1]).run Try.prog w = _
  simp only [Op.eqItems, Sem.run_bind, p1, p3, h1, Result.andThen_ok]
  cases r
  · simp
  · simp only [Bool.not_true, Bool.false_eq_true, if_false, Nat.mul_one, Sem.run_bind, p2, p4, h2, Result.andThen_ok]
    cases s <;> simp

theorem eqA36 (d : Nat) (w : World) (a b c e : Int) : (Op.equalIn (d + 2) 36 (.agg #[.int .i64 a, .int .i64 b]) (.agg #[.int .i64 c, .int .i64 e])).run Try.prog w = .ok (a == c && b == e) w := by
  obtain ⟨i, hi, _⟩ := Option.map_eq_some_iff.1 (PIntentPuts.info3)
  rw [run_equalIn_array (P := Try.prog) w (d + 1) _ _ Try.underlying36 hi]
  exact eqItems2 plain3 cells3 (run_equalIn_int w d 3 .i64 .i64 a c Try.underlying3) (run_equalIn_int w d 3 .i64 .i64 b e Try.underlying3)
theorem eqA37 (d : Nat) (w : World) (a b c e : Bool) : (Op.equalIn (d + 2) 37 (.agg #[.bool a, .bool b]) (.agg #[.bool c, .bool e])).run Try.prog w = .ok (a == c && b == e) w := by
  obtain ⟨i, hi⟩ := Option.isSome_iff_exists.1 info4
  rw [run_equalIn_array (P := Try.prog) w (d + 1) _ _ Try.underlying37 hi]
  exact eqItems2 plain4 cells4 (run_equalIn_bool w d 4 a c Try.underlying4) (run_equalIn_bool w d 4 b e Try.underlying4)

def stVal (b : Bd) : Value := .agg #[.int .i64 b.phase, .int .i64 b.active, .int .i64 b.r0, .int .i64 b.r1, .int .i64 b.w0, .int .i64 b.w1, .bool b.p0, .bool b.p1, .int .i64 b.sdelay, .int .i64 b.sgen, .int .i64 b.sw, .int .i64 b.flip]
def stEq (a b : Bd) : Bool := a.phase == b.phase && (a.active == b.active && ((a.r0 == b.r0 && a.r1 == b.r1) && ((a.w0 == b.w0 && a.w1 == b.w1) && ((a.p0 == b.p0 && a.p1 == b.p1) && (a.sdelay == b.sdelay && (a.sgen == b.sgen && (a.sw == b.sw && a.flip == b.flip)))))))

set_option maxRecDepth 100000 in
theorem eqA39 (d : Nat) (w : World) (a b : Bd) : (Op.equalIn (d + 3) 39 (stVal a) (stVal b)).run Try.prog w = .ok (stEq a b) w := by
  unfold stVal stEq
  refine eqA_of Try.underlying39 (by kernel_rfl) ?_
  refine eqf_cons (by rfl) (by go_simp; rfl) (by go_simp; rfl) (by go_simp) ?_
  refine eqf_cons (by rfl) (by go_simp; rfl) (by go_simp; rfl) (by go_simp) ?_
  refine eqf_cons (by rfl) (by go_simp) (by go_simp) (eqA36 (d + 0) w _ _ _ _) ?_
  refine eqf_cons (by rfl) (by go_simp) (by go_simp) (eqA36 (d + 0) w _ _ _ _) ?_
  refine eqf_cons (by rfl) (by go_simp) (by go_simp) (eqA37 (d + 0) w _ _ _ _) ?_
  refine eqf_cons (by rfl) (by go_simp; rfl) (by go_simp; rfl) (by go_simp) ?_
  refine eqf_cons (by rfl) (by go_simp; rfl) (by go_simp; rfl) (by go_simp) ?_
  refine eqf_cons (by rfl) (by go_simp; rfl) (by go_simp; rfl) (by go_simp) ?_
  exact eqf_last (by rfl) (by go_simp; rfl) (by go_simp; rfl) (by go_simp)

def recEq (k : Int) (a : Bd) (q : Int) (b : Bd) : Bool := k == q && (a.rev == b.rev && (a.n == b.n && (a.delay == b.delay && (a.gen == b.gen && (a.tick == b.tick && (a.pass == b.pass && stEq a b))))))

set_option maxRecDepth 100000 in
theorem eqA41 (d : Nat) (w : World) (k q : Int) (a b : Bd) : (Op.equalIn (d + 4) 41 (recVal k a) (recVal q b)).run Try.prog w = .ok (recEq k a q b) w := by
  unfold recVal recEq
  refine eqA_of Try.underlying41 (by kernel_rfl) ?_
  refine eqf_cons (by rfl) (by go_simp; rfl) (by go_simp; rfl) (by go_simp) ?_
  refine eqf_cons (by rfl) (by go_simp; rfl) (by go_simp; rfl) (by go_simp) ?_
  refine eqf_cons (by rfl) (by go_simp; rfl) (by go_simp; rfl) (by go_simp) ?_
  refine eqf_cons (by rfl) (by go_simp; rfl) (by go_simp; rfl) (by go_simp) ?_
  refine eqf_cons (by rfl) (by go_simp; rfl) (by go_simp; rfl) (by go_simp) ?_
  refine eqf_cons (by rfl) (by go_simp; rfl) (by go_simp; rfl) (by go_simp) ?_
  refine eqf_cons (by rfl) (by go_simp; rfl) (by go_simp; rfl) (by go_simp) ?_
  exact eqf_last (a := stVal a) (b := stVal b) (by rfl) (by unfold stVal; go_simp) (by unfold stVal; go_simp) (eqA39 d w a b)

theorem eql41 (w : World) (k q : Int) (a b : Bd) : (binOp .eql 41 (recVal k a) (recVal q b)).run Try.prog w = .ok (.bool (recEq k a q b)) w := by
  have h := eqA41 9996 w k q a b
  unfold recVal at h ⊢
  simp only [binOp]
  simp [Op.equal, Op.maxDepth, h]
theorem neq41 (w : World) (k q : Int) (a b : Bd) : (binOp .neq 41 (recVal k a) (recVal q b)).run Try.prog w = .ok (.bool (!recEq k a q b)) w := by
  have h := eqA41 9996 w k q a b
  unfold recVal at h ⊢
  simp only [binOp]
  simp [Op.equal, Op.maxDepth, h]
theorem eql39 (w : World) (a b : Bd) : (binOp .eql 39 (stVal a) (stVal b)).run Try.prog w = .ok (.bool (stEq a b)) w := by
  have h := eqA39 9997 w a b
  unfold stVal at h ⊢
  simp only [binOp]
  simp [Op.equal, Op.maxDepth, h]

theorem recEq_iff (k q : Int) (a b : Bd) : recEq k a q b = true ↔ k = q ∧ a = b := by
  obtain ⟨a1, a2, a3, a4, a5, a6, a7, a8, a9, a10, a11, a12, a13, a14, a15, a16, a17, a18⟩ := a
  obtain ⟨b1, b2, b3, b4, b5, b6, b7, b8, b9, b10, b11, b12, b13, b14, b15, b16, b17, b18⟩ := b
  simp only [recEq, stEq, Bool.and_eq_true, beq_iff_eq, Bd.mk.injEq, and_assoc]
theorem stEq_iff (a b : Bd) : stEq a b = true ↔ (a.phase = b.phase ∧ a.active = b.active ∧ a.r0 = b.r0 ∧ a.r1 = b.r1 ∧ a.w0 = b.w0 ∧ a.w1 = b.w1 ∧ a.p0 = b.p0 ∧ a.p1 = b.p1 ∧ a.sdelay = b.sdelay ∧ a.sgen = b.sgen ∧ a.sw = b.sw ∧ a.flip = b.flip) := by
  simp only [stEq, Bool.and_eq_true, beq_iff_eq, and_assoc]

/-! ### What the program makes of them, as plain Lean -/
def bitI (b : Bool) : Int := if b then 1 else 0
def fieldsOf (k : Int) (b : Bd) : List Int :=
  if k = 1 then [b.rev, b.n, b.delay] else
  if k = 4 ∨ k = 9 then [bitI b.pass] else
  if k = 5 ∨ k = 6 ∨ k = 7 then [b.gen] else
  if k = 8 then [b.gen, b.tick] else
  if k = 11 then [b.phase, b.active, b.r0, b.r1, b.w0, b.w1, bitI b.p0, bitI b.p1, b.sdelay, b.sgen, b.sw, b.flip] else []
def at_ (f : List Int) (i : Nat) : Int := f.getD i 0
def bodyOf (k : Int) (f : List Int) : Bd :=
  if k = 1 then { zB with rev := at_ f 0, n := at_ f 1, delay := at_ f 2 } else
  if k = 4 ∨ k = 9 then { zB with pass := at_ f 0 == 1 } else
  if k = 5 ∨ k = 6 ∨ k = 7 then { zB with gen := at_ f 0 } else
  if k = 8 then { zB with gen := at_ f 0, tick := at_ f 1 } else
  if k = 11 then { zB with phase := at_ f 0, active := at_ f 1, r0 := at_ f 2, r1 := at_ f 3, w0 := at_ f 4, w1 := at_ f 5, p0 := at_ f 6 == 1, p1 := at_ f 7 == 1, sdelay := at_ f 8, sgen := at_ f 9, sw := at_ f 10, flip := at_ f 11 } else zB
def kindOk (k : Int) : Bool := decide (1 ≤ k) && decide (k ≤ 11)
/-- The ranges of a kind's fields. -/
def rangesOf (k : Int) : List PIntentPuts.S67 :=
  if k = 1 then [⟨1, 1073741824⟩, ⟨1, 32⟩, ⟨0, 65536⟩] else
  if k = 4 ∨ k = 9 then [⟨0, 1⟩] else
  if k = 5 ∨ k = 6 ∨ k = 7 then [⟨1, 1048576⟩] else
  if k = 8 then [⟨1, 1048576⟩, ⟨0, 1073741824⟩] else
  if k = 11 then [⟨0, 7⟩, ⟨0, 1⟩, ⟨0, 1073741824⟩, ⟨0, 1073741824⟩, ⟨0, 32⟩, ⟨0, 32⟩, ⟨0, 1⟩, ⟨0, 1⟩, ⟨0, 65536⟩, ⟨0, 1048576⟩, ⟨0, 2⟩, ⟨0, 1073741824⟩] else []
def inRanges : List Int → List PIntentPuts.S67 → Bool
  | [], _ => true
  | _ :: _, [] => false
  | n :: f, r :: l => (decide (r.f0 ≤ n) && decide (n ≤ r.f1)) && inRanges f l
theorem kindOk_cases {k : Int} (h : kindOk k = true) : k = 1 ∨ k = 2 ∨ k = 3 ∨ k = 4 ∨ k = 5 ∨ k = 6 ∨ k = 7 ∨ k = 8 ∨ k = 9 ∨ k = 10 ∨ k = 11 := by
  simp only [kindOk, Bool.and_eq_true, decide_eq_true_eq] at h
  omega
end Go.Proofs.Ytaogmfchpcdboaa
