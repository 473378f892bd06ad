/- errors.Is over a chain of errors of package fault, at a target that is a bare number: whether the chain's number is that one. No condition. -/
import Derived.Test.YtdldfjanilagiaaDoorErrAs
namespace Go.Proofs.YtdldfjanilagiaaDoor
open Go.RowKit Go.Extern.Stop Go.Stop Go.Extern

theorem Tryd.comparable43 : (Tryd.prog.info? 43).map (·.comparable) = some true := by kernel_rfl
/-- '==' between two bare numbers, held as errors. -/
theorem Tryd.eql43 (a b : Int) (w : World) : (binOp .eql 26 (.iface 43 (.int .i64 a)) (.iface 43 (.int .i64 b))).run Tryd.prog w = .ok (.bool (a == b)) w := by
  obtain ⟨i, hi, hc⟩ := Option.map_eq_some_iff.1 Tryd.comparable43
  have h : ∀ d : Nat, (Op.equalIn (d + 2) 26 (.iface 43 (.int .i64 a)) (.iface 43 (.int .i64 b))).run Tryd.prog w = .ok (a == b) w := fun d => by
    simp [Op.equalIn, run_underlying Tryd.underlying26, run_underlying Tryd.underlying43, typeInfo, hi, hc]
  simp only [binOp]
  simp [Op.equal, Op.maxDepth, h 9998]
theorem Tryd.isComparable43 (w : World) : ((ReflectliteType.method fun t => do Rtype.noPackHeld "Comparable" t; (fun a => Value.bool a.comparable) <$> typeInfo t) #[.agg #[.pointer (some ⟨1, 43, none⟩)]]).run Tryd.prog w = .ok (.bool true) w := by kernel_rfl
theorem Tryd.methodComparable (v : Value) (w : World) : (Go.method 209 65 v "Comparable").run Tryd.prog w = .ok (52, v) w := by kernel_rfl
theorem Tryd.noIs42 (v : Value) (xT : TypeId) (w : World) : (Instr.typeAssert (.iface 42 v) xT 76 true).run Tryd.prog w = .ok (.tuple #[.nilIface, .bool false]) w := run_typeAssert_lacksB Tryd.underlying76 (by kernel_rfl) (by kernel_rfl) v xT w
theorem Tryd.noIs43 (v : Value) (xT : TypeId) (w : World) : (Instr.typeAssert (.iface 43 v) xT 76 true).run Tryd.prog w = .ok (.tuple #[.nilIface, .bool false]) w := run_typeAssert_lacksB Tryd.underlying76 (by kernel_rfl) (by kernel_rfl) v xT w

set_option maxHeartbeats 2000000 in
theorem is_chain (ps : List ByteArray) (c : Int) (v : Value) (e : Int) (w : World) (hE : ErrV w ps c v) :
    Calls Tryd.prog 24 #[v, .iface 43 (.int .i64 e), .bool true] w fun ev w' => ev = .returned (.bool (c == e)) ∧ w' = w := by
  have n42 := Tryd.noIs42
  have n43 := Tryd.noIs43
  have u42 := Tryd.hasUnwrap42
  have u43 := Tryd.noUnwrap43
  have u43' := Tryd.noUnwraps43
  have mU := Tryd.methodUnwrap
  have hty := fun x w => run_eql_iface_types (P := Tryd.prog) 42 43 x (.int .i64 e) Tryd.underlying26 (by decide) w
  have hq := Tryd.eql43 c e
  have HE := Lib.hid hE
  clear hE
  go_enter Tryd.func24, Tryd.ntmps24
  go_wp2
  go_loopg [0] ps.length (fun k x wr => wr = w ∧ ∃ qs, qs.length = k ∧ ErrV w qs c x)
  case atStart => exact ⟨rfl, ps, rfl, HE.out⟩
  case round =>
    obtain ⟨rfl, qs, hk, hE⟩ := hrel
    cases qs with
    | nil =>
      have hE' : _ = Value.iface 43 (.int .i64 c) := hE
      subst hE'
      clear hE hk
      by_cases hce : c = e
      · have hb : (c == e) = true := beq_iff_eq.2 hce
        clear hce
        go_wp2
        go_ret
        exact ⟨by rw [hb]; rfl, rfl⟩
      · have hb : (c == e) = false := beq_eq_false_iff_ne.2 hce
        clear hce
        go_wp2
        go_ret
        exact ⟨by rw [hb]; rfl, rfl⟩
    | cons p qs =>
      obtain ⟨b, v', rfl, hb, hE⟩ := hE
      obtain ⟨ty, x, rfl⟩ := hE.iface
      obtain ⟨_, hc1⟩ := cells_of hb
      have HE' := Lib.hid hE
      have HK := Lib.hid hk
      clear hE hk hb
      go_wp2_with (go_at_call 45; refine (unwrap_ok b (.iface ty x) _ hc1).mono ?_; rintro e w' ⟨rfl, rfl⟩)
      go_roundg qs.length
      case measure => have := HK.out; simp at this; omega
      case rel => exact ⟨rfl, qs, rfl, HE'.out⟩

set_option maxHeartbeats 2000000 in
theorem errIs_chain (ps : List ByteArray) (c : Int) (ty : TypeId) (x : Value) (e : Int) (w : World) (hE : ErrV w ps c (.iface ty x)) :
    Calls Tryd.prog 18 #[.iface ty x, .iface 43 (.int .i64 e)] w fun ev w' => ev = .returned (.bool (c == e)) ∧ w' = w := by
  have h23 := @run_callFunc_extern Tryd.prog 23 _ ReflectliteType.typeOf Tryd.func23 (by kernel_rfl) (by kernel_rfl) (by kernel_rfl) (by kernel_rfl)
  have h52 := @run_callFunc_extern Tryd.prog 52 _ (ReflectliteType.method fun t => do Rtype.noPackHeld "Comparable" t; pure (.bool (← typeInfo t).comparable)) Tryd.func52 (by kernel_rfl) (by kernel_rfl) (by kernel_rfl) (by kernel_rfl)
  have t43 := Tryd.typeOf43
  have cT := Tryd.isComparable43
  have mR := Tryd.methodComparable
  have HE := Lib.hid hE
  clear hE
  go_enter Tryd.func18, Tryd.ntmps18
  go_wp2_with (go_at_call 24; refine (is_chain ps c (.iface ty x) e _ HE.out).mono ?_; rintro e w' ⟨rfl, rfl⟩)
  go_ret
  exact ⟨rfl, rfl⟩

/-! ### Package fault's functions -/
theorem new_ok (e : Int) (p : ByteArray) (w : World) (he : (e == 0) = false) : Calls Tryd.prog 9 #[.int .i64 e, .string p] w fun ev w' => ev = .returned (.iface 42 (.pointer (some ⟨w.heap.size, 0, none⟩))) ∧ w' = w.alloc (.cells #[.string p, .iface 43 (.int .i64 e)] 45) := by
  go_enter Tryd.func9, Tryd.ntmps9
  go_wp2
  go_ret
  exact ⟨rfl, rfl⟩
theorem new_nil (e : Int) (p : ByteArray) (w : World) (he : (e == 0) = true) : Calls Tryd.prog 9 #[.int .i64 e, .string p] w fun ev w' => ev = .returned .nilIface ∧ w' = w := by
  go_enter Tryd.func9, Tryd.ntmps9
  go_wp2
  go_ret
  exact ⟨rfl, rfl⟩
theorem wrap_ok (ty : TypeId) (x : Value) (p : ByteArray) (w : World) : Calls Tryd.prog 14 #[.iface ty x, .string p] w fun ev w' => ev = .returned (.iface 42 (.pointer (some ⟨w.heap.size, 0, none⟩))) ∧ w' = w.alloc (.cells #[.string p, .iface ty x] 45) := by
  go_enter Tryd.func14, Tryd.ntmps14
  go_wp2
  go_ret
  exact ⟨rfl, rfl⟩
theorem wrap_nil (p : ByteArray) (w : World) : Calls Tryd.prog 14 #[.nilIface, .string p] w fun ev w' => ev = .returned .nilIface ∧ w' = w := by
  go_enter Tryd.func14, Tryd.ntmps14
  go_wp2
  go_ret
  exact ⟨rfl, rfl⟩

/-- The premise on errors.errorType. -/
def Laid (w : World) : Prop := w.cell? ⟨0, 0, none⟩ = some (.iface 65 (.agg #[.pointer (some ⟨1, 26, none⟩)]))
theorem Laid.lt {w : World} (h : Laid w) : 0 < w.heap.size := World.block_lt_of_cell? _ _ h
theorem Laid.below {w w' : World} (h : Laid w) (hb : Below w.heap.size w w') : Laid w' := by
  have e := hb.cell (p := ⟨0, 0, none⟩) h.lt
  show w'.cell? ⟨0, 0, none⟩ = _
  rw [e]; exact h
theorem Laid.alloc {w : World} (h : Laid w) (o : Obj) : Laid (w.alloc o) := h.below ((Below.refl _ _).alloc (Nat.le_refl _) _)

set_option maxHeartbeats 2000000 in
theorem code_ok (ps : List ByteArray) (c : Int) (ty : TypeId) (x : Value) (w : World) (hE : ErrV w ps c (.iface ty x)) (hg : Laid w) :
    Calls Tryd.prog 11 #[.iface ty x] w fun ev w' => ev = .returned (.int .i64 c) ∧ Below w.heap.size w w' := by
  have hE2 : ErrV (w.alloc (.cells #[.int .i64 0] 43)) ps c (.iface ty x) := hE.below ((Below.refl _ _).alloc (Nat.le_refl _) _)
  have hg2 : (w.alloc (.cells #[.int .i64 0] 43)).cell? ⟨0, 0, none⟩ = some (.iface 65 (.agg #[.pointer (some ⟨1, 26, none⟩)])) := hg.alloc _
  have HE := Lib.hid hE2
  have HG := Lib.hid hg2
  have ht2 : (w.alloc (.cells #[.int .i64 0] 43)).cell? ⟨w.heap.size, 0, none⟩ = some (.int .i64 0) := by simp
  have hf2 : (w.alloc (.cells #[.int .i64 0] 43)).frozen? ⟨w.heap.size, 0, none⟩ = false := by simp
  clear hE hE2 hg hg2
  go_enter Tryd.func11, Tryd.ntmps11
  go_wp2_with (go_at_call 17; refine (errAs_code _ ps c ty x ⟨w.heap.size, 0, none⟩ (.int .i64 0) HE.out HG.out ht2 hf2).mono ?_; rintro e w' ⟨rfl, w1, hb, rfl⟩; have hc := hb.cell (p := ⟨w.heap.size, 0, none⟩) (by simp); rw [ht2] at hc)
  go_ret
  exact ⟨rfl, (((Below.refl _ _).alloc (Nat.le_refl _) _).trans (hb.mono (by simp))).setCell (by simp) _⟩

theorem code_nil (w : World) : Calls Tryd.prog 11 #[.nilIface] w fun ev w' => ev = .returned (.int .i64 0) ∧ w' = w := by
  go_enter Tryd.func11, Tryd.ntmps11
  go_wp2
  go_ret
  exact ⟨rfl, rfl⟩

set_option maxHeartbeats 2000000 in
theorem is_ok (ps : List ByteArray) (c : Int) (ty : TypeId) (x : Value) (e : Int) (w : World) (hE : ErrV w ps c (.iface ty x)) (hg : Laid w) :
    Calls Tryd.prog 15 #[.iface ty x, .int .i64 e] w fun ev w' => ev = .returned (.bool (c == e)) ∧ Below w.heap.size w w' := by
  have HE := Lib.hid hE
  have HG := Lib.hid hg
  clear hE hg
  by_cases hce : c = e
  · have hb : (c == e) = true := beq_iff_eq.2 hce
    clear hce
    go_enter Tryd.func15, Tryd.ntmps15
    go_wp2_with (first | (go_at_call 18; refine (errIs_chain ps c ty x e _ HE.out).mono ?_; rintro ev w' ⟨rfl, rfl⟩))
    go_ret
    exact ⟨by rw [hb]; rfl, Below.refl _ _⟩
  · have hb : (c == e) = false := beq_eq_false_iff_ne.2 hce
    clear hce
    go_enter Tryd.func15, Tryd.ntmps15
    go_wp2_with (first | (go_at_call 18; refine (errIs_chain ps c ty x e _ HE.out).mono ?_; rintro ev w' ⟨rfl, rfl⟩) | (go_at_call 11; refine (code_ok ps c ty x _ HE.out HG.out).mono ?_; rintro ev w' ⟨rfl, hbel⟩))
    go_ret
    exact ⟨by rw [hb]; rfl, hbel⟩

theorem is_nil (e : Int) (w : World) : Calls Tryd.prog 15 #[.nilIface, .int .i64 e] w fun ev w' => ev = .returned (.bool (e == 0)) ∧ w' = w := by
  go_enter Tryd.func15, Tryd.ntmps15
  go_wp2
  go_ret
  exact ⟨rfl, rfl⟩
end Go.Proofs.YtdldfjanilagiaaDoor
