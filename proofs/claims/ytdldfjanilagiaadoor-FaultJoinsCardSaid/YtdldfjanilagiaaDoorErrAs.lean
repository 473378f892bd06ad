/- errors.As over a chain of errors of package fault: Go's own text walked, at the two targets that the package has (a *fault.code, a **fault.seen). The condition: errors.errorType holds the type error. -/
import Derived.Test.YtdldfjanilagiaaDoorAs
namespace Go.Proofs.YtdldfjanilagiaaDoor
open Go.RowKit Go.Extern.Stop Go.Stop Go.Extern
theorem ErrV.iface {w : World} {c : Int} {ps : List ByteArray} {v : Value} (h : ErrV w ps c v) : ∃ ty x, v = .iface ty x := by
  cases ps with
  | nil => exact ⟨_, _, h⟩
  | cons p ps => obtain ⟨_, _, h, _⟩ := h; exact ⟨_, _, h⟩
set_option maxHeartbeats 2000000 in
theorem as_code (ps : List ByteArray) (c : Int) (v : Value) (t vb : Addr) (tv : Value) (old : Value) (w : World) (hE : ErrV w ps c v)
    (hvb : w.cell? vb = some (.pointer (some t))) (ht : w.cell? t = some old) (hf : w.frozen? t = false) :
    Calls Tryd.prog 22 #[v, tv, .agg #[.pointer (some ⟨1, 47, none⟩), .pointer (some vb), .int .u64 150], .iface 65 (.agg #[.pointer (some ⟨1, 43, none⟩)])] w fun ev w' => ev = .returned (.bool true) ∧
      ∃ w1, Below w.heap.size w w1 ∧ w' = w1.setCell t (.int .i64 c) := by
  have h23 := @run_callFunc_extern Tryd.prog 23 _ ReflectliteType.typeOf Tryd.func23 (by kernel_rfl) (by kernel_rfl) (by kernel_rfl) (by kernel_rfl)
  have h51 := @run_callFunc_extern Tryd.prog 51 _ (ReflectliteType.relation "AssignableTo" ReflectliteType.assignableTo) Tryd.func51 (by kernel_rfl) (by kernel_rfl) (by kernel_rfl) (by kernel_rfl)
  have h25 := @run_callFunc_extern Tryd.prog 25 _ (ReflectliteValue.method (ReflectliteValue.valueError "reflectlite.Value.Elem" 0) ReflectliteValue.elem) Tryd.func25 (by kernel_rfl) (by kernel_rfl) (by kernel_rfl) (by kernel_rfl)
  have h19 := @run_callFunc_extern Tryd.prog 19 _ (fun args => ReflectliteValue.unpack (args.getD 0 (.tuple #[]))) Tryd.func19 (by kernel_rfl) (by kernel_rfl) (by kernel_rfl) (by kernel_rfl)
  have h26 := @run_callFunc_extern Tryd.prog 26 _ ReflectliteValue.set Tryd.func26 (by kernel_rfl) (by kernel_rfl) (by kernel_rfl) (by kernel_rfl)
  have t42 := Tryd.typeOf42
  have t43 := Tryd.typeOf43
  have mA := Tryd.methodAssignableTo
  have a23 := Tryd.assignable4243
  have a33 := Tryd.assignable4343
  have v43 := Tryd.valueOf43
  have n42 := Tryd.noAs42
  have u42 := Tryd.hasUnwrap42
  have mU := Tryd.methodUnwrap
  have el := fun W h => Tryd.elemV47 vb t W h
  have htl : t.block < w.heap.size := World.block_lt_of_cell? _ _ ht
  have hvl : vb.block < w.heap.size := World.block_lt_of_cell? _ _ hvb
  have HE := Lib.hid hE
  clear hE
  go_enter Tryd.func22, Tryd.ntmps22
  go_wp2
  go_loopg [0] ps.length (fun k x wr => wr = w.alloc (.cells #[.pointer (some ⟨1, 47, none⟩), .pointer (some vb), .int .u64 150] 53) ∧ ∃ qs, qs.length = k ∧ ErrV w qs c x)
  case atStart => exact ⟨rfl, ps, rfl, HE.out⟩
  case round =>
    obtain ⟨rfl, qs, hk, hE⟩ := hrel
    cases qs with
    | nil =>
      have hE' : _ = Value.iface 43 (.int .i64 c) := hE
      subst hE'
      clear hE hk
      have st := Tryd.set43 t ⟨w.heap.size + 1, 0, none⟩ c old ((w.alloc (.cells #[.pointer (some ⟨1, 47, none⟩), .pointer (some vb), .int .u64 150] 53)).alloc (.cells #[.int .i64 c] 43))
        (by rw [World.cell?_alloc_at _ _ _ _ (by simp)]; rfl)
        (by rw [World.cell?_alloc_lt _ _ t (by simp; omega), World.cell?_alloc_lt _ _ t htl]; exact ht)
        (by rw [World.frozen?_alloc_old _ _ t (by simp; omega), World.frozen?_alloc_old _ _ t (Nat.ne_of_lt htl)]; exact hf)
      go_wp2
      go_ret
      exact ⟨rfl, _, ((Below.refl _ _).alloc (Nat.le_refl _) _).alloc (by simp) _, rfl⟩
    | cons p qs =>
      obtain ⟨b, v', rfl, hb, hE⟩ := hE
      obtain ⟨ty, x, rfl⟩ := hE.iface
      obtain ⟨_, hc1⟩ := cells_of hb
      have hlt : b < w.heap.size := World.block_lt_of_cell? _ _ hc1
      have hc1' : ∀ o, (w.alloc o).cell? ⟨b, 1, none⟩ = some (.iface ty x) := fun o => (World.cell?_alloc_lt w o _ hlt).trans hc1
      have HE' := Lib.hid hE
      have HK := Lib.hid hk
      have HN := Lib.hid hb
      clear hE hk hb hc1
      go_wp2_with (go_at_call 45; refine (unwrap_ok b (.iface ty x) _ (hc1' _)).mono ?_; rintro e w' ⟨rfl, rfl⟩)
      go_roundg qs.length
      case measure => have := HK.out; simp at this; omega
      case rel => exact ⟨rfl, qs, rfl, HE'.out⟩

set_option maxHeartbeats 2000000 in
theorem as_seen (b : Nat) (t vb : Addr) (tv : Value) (old : Value) (w : World)
    (hvb : w.cell? vb = some (.pointer (some t))) (ht : w.cell? t = some old) (hf : w.frozen? t = false) :
    Calls Tryd.prog 22 #[.iface 42 (.pointer (some ⟨b, 0, none⟩)), tv, .agg #[.pointer (some ⟨1, 48, none⟩), .pointer (some vb), .int .u64 150], .iface 65 (.agg #[.pointer (some ⟨1, 42, none⟩)])] w fun ev w' => ev = .returned (.bool true) ∧
      ∃ w1, Below w.heap.size w w1 ∧ w' = w1.setCell t (.pointer (some ⟨b, 0, none⟩)) := by
  have h23 := @run_callFunc_extern Tryd.prog 23 _ ReflectliteType.typeOf Tryd.func23 (by kernel_rfl) (by kernel_rfl) (by kernel_rfl) (by kernel_rfl)
  have h51 := @run_callFunc_extern Tryd.prog 51 _ (ReflectliteType.relation "AssignableTo" ReflectliteType.assignableTo) Tryd.func51 (by kernel_rfl) (by kernel_rfl) (by kernel_rfl) (by kernel_rfl)
  have h25 := @run_callFunc_extern Tryd.prog 25 _ (ReflectliteValue.method (ReflectliteValue.valueError "reflectlite.Value.Elem" 0) ReflectliteValue.elem) Tryd.func25 (by kernel_rfl) (by kernel_rfl) (by kernel_rfl) (by kernel_rfl)
  have h19 := @run_callFunc_extern Tryd.prog 19 _ (fun args => ReflectliteValue.unpack (args.getD 0 (.tuple #[]))) Tryd.func19 (by kernel_rfl) (by kernel_rfl) (by kernel_rfl) (by kernel_rfl)
  have h26 := @run_callFunc_extern Tryd.prog 26 _ ReflectliteValue.set Tryd.func26 (by kernel_rfl) (by kernel_rfl) (by kernel_rfl) (by kernel_rfl)
  have t42 := Tryd.typeOf42
  have mA := Tryd.methodAssignableTo
  have a22 := Tryd.assignable4242
  have v42 := Tryd.valueOf42
  have el := fun W h => Tryd.elemV48 vb t W h
  have htl : t.block < w.heap.size := World.block_lt_of_cell? _ _ ht
  have hvl : vb.block < w.heap.size := World.block_lt_of_cell? _ _ hvb
  have st := Tryd.set42 t ⟨w.heap.size + 1, 0, none⟩ ⟨b, 0, none⟩ old ((w.alloc (.cells #[.pointer (some ⟨1, 48, none⟩), .pointer (some vb), .int .u64 150] 53)).alloc (.cells #[.pointer (some ⟨b, 0, none⟩)] 42))
    (by rw [World.cell?_alloc_at _ _ _ _ (by simp)]; rfl)
    (by rw [World.cell?_alloc_lt _ _ t (by simp; omega), World.cell?_alloc_lt _ _ t htl]; exact ht)
    (by rw [World.frozen?_alloc_old _ _ t (by simp; omega), World.frozen?_alloc_old _ _ t (Nat.ne_of_lt htl)]; exact hf)
  go_enter Tryd.func22, Tryd.ntmps22
  go_wp2
  refine wp_loop_rounds 1 ?_
  rw [rounds_succ]
  go_wp2
  go_ret
  exact ⟨rfl, _, ((Below.refl _ _).alloc (Nat.le_refl _) _).alloc (by simp) _, rfl⟩

set_option maxHeartbeats 2000000 in
theorem as_seen_no (c : Int) (tv vv : Value) (w : World) :
    Calls Tryd.prog 22 #[.iface 43 (.int .i64 c), tv, .agg #[.pointer (some ⟨1, 48, none⟩), vv, .int .u64 150], .iface 65 (.agg #[.pointer (some ⟨1, 42, none⟩)])] w fun ev w' => ev = .returned (.bool false) ∧
      Below w.heap.size w w' := by
  have h23 := @run_callFunc_extern Tryd.prog 23 _ ReflectliteType.typeOf Tryd.func23 (by kernel_rfl) (by kernel_rfl) (by kernel_rfl) (by kernel_rfl)
  have h51 := @run_callFunc_extern Tryd.prog 51 _ (ReflectliteType.relation "AssignableTo" ReflectliteType.assignableTo) Tryd.func51 (by kernel_rfl) (by kernel_rfl) (by kernel_rfl) (by kernel_rfl)
  have t43 := Tryd.typeOf43
  have mA := Tryd.methodAssignableTo
  have a32 := Tryd.assignable4342
  have n43 := Tryd.noAs43
  have u43 := Tryd.noUnwrap43
  have u43' := Tryd.noUnwraps43
  go_enter Tryd.func22, Tryd.ntmps22
  go_wp2
  refine wp_loop_rounds 1 ?_
  rw [rounds_succ]
  go_wp2
  go_ret
  exact ⟨rfl, (Below.refl _ _).alloc (Nat.le_refl _) _⟩

set_option maxHeartbeats 4000000 in
theorem errAs_code (w : World) (ps : List ByteArray) (c : Int) (ty : TypeId) (x : Value) (t : Addr) (old : Value) (hE : ErrV w ps c (.iface ty x)) (hg : w.cell? ⟨0, 0, none⟩ = some (.iface 65 (.agg #[.pointer (some ⟨1, 26, none⟩)]))) (ht : w.cell? t = some old) (hf : w.frozen? t = false) :
    Calls Tryd.prog 17 #[.iface ty x, .iface 47 (.pointer (some t))] w fun ev w' => ev = .returned (.bool true) ∧
      ∃ w1, Below w.heap.size w w1 ∧ w' = w1.setCell t (.int .i64 c) := by
  have h19 := @run_callFunc_extern Tryd.prog 19 _ (fun args => ReflectliteValue.unpack (args.getD 0 (.tuple #[]))) Tryd.func19 (by kernel_rfl) (by kernel_rfl) (by kernel_rfl) (by kernel_rfl)
  have h20 := @run_callFunc_extern Tryd.prog 20 _ (ReflectliteValue.methodAny (ReflectliteValue.valueError "reflectlite.Value.Type" 0) (fun t _ _ _ => ReflectliteType.toType t)) Tryd.func20 (by kernel_rfl) (by kernel_rfl) (by kernel_rfl) (by kernel_rfl)
  have h21 := @run_callFunc_extern Tryd.prog 21 _ (ReflectliteValue.method (ReflectliteValue.valueError "reflectlite.Value.IsNil" 0) ReflectliteValue.isNil) Tryd.func21 (by kernel_rfl) (by kernel_rfl) (by kernel_rfl) (by kernel_rfl)
  have h41 := @run_callFunc_extern Tryd.prog 41 _ (ReflectliteType.abiMethod fun t => do pure (.int .u8 (← Rtype.kind t))) Tryd.func41 (by kernel_rfl) (by kernel_rfl) (by kernel_rfl) (by kernel_rfl)
  have h53 := @run_callFunc_extern Tryd.prog 53 _ (ReflectliteType.method ReflectliteType.elem) Tryd.func53 (by kernel_rfl) (by kernel_rfl) (by kernel_rfl) (by kernel_rfl)
  have h54 := @run_callFunc_extern Tryd.prog 54 _ (ReflectliteType.relation "Implements" ReflectliteType.implements_) Tryd.func54 (by kernel_rfl) (by kernel_rfl) (by kernel_rfl) (by kernel_rfl)
  have mK := Tryd.methodKind
  have mE := Tryd.methodElem
  have mI := Tryd.methodImplements
  have v47 := Tryd.valueOf47
  have tyT := Tryd.type47
  have kT := Tryd.kind47
  have kE := Tryd.kind43
  have eT := Tryd.elem47
  have iE := Tryd.implements43
  have hlt : 0 < w.heap.size := World.block_lt_of_cell? _ _ hg
  have htl : t.block < w.heap.size := World.block_lt_of_cell? _ _ ht
  have n8 := Tryd.isNil47 ⟨w.heap.size, 0, none⟩ t ((w.alloc (.cells #[.pointer (some t)] 47)).alloc (.cells #[.pointer (some ⟨1, 47, none⟩), .pointer (some ⟨w.heap.size, 0, none⟩), .int .u64 150] 53)) (by simp)
  have hg2 : ((w.alloc (.cells #[.pointer (some t)] 47)).alloc (.cells #[.pointer (some ⟨1, 47, none⟩), .pointer (some ⟨w.heap.size, 0, none⟩), .int .u64 150] 53)).cell? ⟨0, 0, none⟩ = some (.iface 65 (.agg #[.pointer (some ⟨1, 26, none⟩)])) := by
    rw [World.cell?_alloc_lt _ _ ⟨0, 0, none⟩ (by simp), World.cell?_alloc_lt _ _ ⟨0, 0, none⟩ hlt]; exact hg
  have hv2 : ((w.alloc (.cells #[.pointer (some t)] 47)).alloc (.cells #[.pointer (some ⟨1, 47, none⟩), .pointer (some ⟨w.heap.size, 0, none⟩), .int .u64 150] 53)).cell? ⟨w.heap.size, 0, none⟩ = some (.pointer (some t)) := by simp
  have ht2 : ((w.alloc (.cells #[.pointer (some t)] 47)).alloc (.cells #[.pointer (some ⟨1, 47, none⟩), .pointer (some ⟨w.heap.size, 0, none⟩), .int .u64 150] 53)).cell? t = some old := by
    rw [World.cell?_alloc_lt _ _ t (by simp; omega), World.cell?_alloc_lt _ _ t htl]; exact ht
  have hf2 : ((w.alloc (.cells #[.pointer (some t)] 47)).alloc (.cells #[.pointer (some ⟨1, 47, none⟩), .pointer (some ⟨w.heap.size, 0, none⟩), .int .u64 150] 53)).frozen? t = false := by
    rw [World.frozen?_alloc_old _ _ t (by simp; omega), World.frozen?_alloc_old _ _ t (Nat.ne_of_lt htl)]; exact hf
  have hE2 : ErrV ((w.alloc (.cells #[.pointer (some t)] 47)).alloc (.cells #[.pointer (some ⟨1, 47, none⟩), .pointer (some ⟨w.heap.size, 0, none⟩), .int .u64 150] 53)) ps c (.iface ty x) := hE.below (((Below.refl _ _).alloc (Nat.le_refl _) _).alloc (by simp) _)
  have HE := Lib.hid hE2
  clear hE hE2
  go_enter Tryd.func17, Tryd.ntmps17
  go_wp2_with (go_at_call 22; refine (as_code ps c (.iface ty x) t ⟨w.heap.size, 0, none⟩ _ old _ HE.out hv2 ht2 hf2).mono ?_; rintro e w' ⟨rfl, w1, hb, rfl⟩)
  go_ret
  exact ⟨rfl, _, Below.trans (((Below.refl _ _).alloc (Nat.le_refl _) _).alloc (by simp) _) (hb.mono (by simp; omega)), rfl⟩

set_option maxHeartbeats 4000000 in
theorem errAs_seen (w : World) (b : Nat) (t : Addr) (old : Value) (hg : w.cell? ⟨0, 0, none⟩ = some (.iface 65 (.agg #[.pointer (some ⟨1, 26, none⟩)]))) (ht : w.cell? t = some old) (hf : w.frozen? t = false) :
    Calls Tryd.prog 17 #[.iface 42 (.pointer (some ⟨b, 0, none⟩)), .iface 48 (.pointer (some t))] w fun ev w' => ev = .returned (.bool true) ∧
      ∃ w1, Below w.heap.size w w1 ∧ w' = w1.setCell t (.pointer (some ⟨b, 0, none⟩)) := by
  have h19 := @run_callFunc_extern Tryd.prog 19 _ (fun args => ReflectliteValue.unpack (args.getD 0 (.tuple #[]))) Tryd.func19 (by kernel_rfl) (by kernel_rfl) (by kernel_rfl) (by kernel_rfl)
  have h20 := @run_callFunc_extern Tryd.prog 20 _ (ReflectliteValue.methodAny (ReflectliteValue.valueError "reflectlite.Value.Type" 0) (fun t _ _ _ => ReflectliteType.toType t)) Tryd.func20 (by kernel_rfl) (by kernel_rfl) (by kernel_rfl) (by kernel_rfl)
  have h21 := @run_callFunc_extern Tryd.prog 21 _ (ReflectliteValue.method (ReflectliteValue.valueError "reflectlite.Value.IsNil" 0) ReflectliteValue.isNil) Tryd.func21 (by kernel_rfl) (by kernel_rfl) (by kernel_rfl) (by kernel_rfl)
  have h41 := @run_callFunc_extern Tryd.prog 41 _ (ReflectliteType.abiMethod fun t => do pure (.int .u8 (← Rtype.kind t))) Tryd.func41 (by kernel_rfl) (by kernel_rfl) (by kernel_rfl) (by kernel_rfl)
  have h53 := @run_callFunc_extern Tryd.prog 53 _ (ReflectliteType.method ReflectliteType.elem) Tryd.func53 (by kernel_rfl) (by kernel_rfl) (by kernel_rfl) (by kernel_rfl)
  have h54 := @run_callFunc_extern Tryd.prog 54 _ (ReflectliteType.relation "Implements" ReflectliteType.implements_) Tryd.func54 (by kernel_rfl) (by kernel_rfl) (by kernel_rfl) (by kernel_rfl)
  have mK := Tryd.methodKind
  have mE := Tryd.methodElem
  have mI := Tryd.methodImplements
  have v48 := Tryd.valueOf48
  have tyT := Tryd.type48
  have kT := Tryd.kind48
  have kE := Tryd.kind42
  have eT := Tryd.elem48
  have iE := Tryd.implements42
  have hlt : 0 < w.heap.size := World.block_lt_of_cell? _ _ hg
  have htl : t.block < w.heap.size := World.block_lt_of_cell? _ _ ht
  have n8 := Tryd.isNil48 ⟨w.heap.size, 0, none⟩ t ((w.alloc (.cells #[.pointer (some t)] 48)).alloc (.cells #[.pointer (some ⟨1, 48, none⟩), .pointer (some ⟨w.heap.size, 0, none⟩), .int .u64 150] 53)) (by simp)
  have hg2 : ((w.alloc (.cells #[.pointer (some t)] 48)).alloc (.cells #[.pointer (some ⟨1, 48, none⟩), .pointer (some ⟨w.heap.size, 0, none⟩), .int .u64 150] 53)).cell? ⟨0, 0, none⟩ = some (.iface 65 (.agg #[.pointer (some ⟨1, 26, none⟩)])) := by
    rw [World.cell?_alloc_lt _ _ ⟨0, 0, none⟩ (by simp), World.cell?_alloc_lt _ _ ⟨0, 0, none⟩ hlt]; exact hg
  have hv2 : ((w.alloc (.cells #[.pointer (some t)] 48)).alloc (.cells #[.pointer (some ⟨1, 48, none⟩), .pointer (some ⟨w.heap.size, 0, none⟩), .int .u64 150] 53)).cell? ⟨w.heap.size, 0, none⟩ = some (.pointer (some t)) := by simp
  have ht2 : ((w.alloc (.cells #[.pointer (some t)] 48)).alloc (.cells #[.pointer (some ⟨1, 48, none⟩), .pointer (some ⟨w.heap.size, 0, none⟩), .int .u64 150] 53)).cell? t = some old := by
    rw [World.cell?_alloc_lt _ _ t (by simp; omega), World.cell?_alloc_lt _ _ t htl]; exact ht
  have hf2 : ((w.alloc (.cells #[.pointer (some t)] 48)).alloc (.cells #[.pointer (some ⟨1, 48, none⟩), .pointer (some ⟨w.heap.size, 0, none⟩), .int .u64 150] 53)).frozen? t = false := by
    rw [World.frozen?_alloc_old _ _ t (by simp; omega), World.frozen?_alloc_old _ _ t (Nat.ne_of_lt htl)]; exact hf
  go_enter Tryd.func17, Tryd.ntmps17
  go_wp2_with (go_at_call 22; refine (as_seen b t ⟨w.heap.size, 0, none⟩ _ old _ hv2 ht2 hf2).mono ?_; rintro e w' ⟨rfl, w1, hb, rfl⟩)
  go_ret
  exact ⟨rfl, _, Below.trans (((Below.refl _ _).alloc (Nat.le_refl _) _).alloc (by simp) _) (hb.mono (by simp; omega)), rfl⟩

set_option maxHeartbeats 4000000 in
theorem errAs_seen_no (w : World) (c : Int) (t : Addr) (old : Value) (hg : w.cell? ⟨0, 0, none⟩ = some (.iface 65 (.agg #[.pointer (some ⟨1, 26, none⟩)]))) (ht : w.cell? t = some old) (hf : w.frozen? t = false) :
    Calls Tryd.prog 17 #[.iface 43 (.int .i64 c), .iface 48 (.pointer (some t))] w fun ev w' => ev = .returned (.bool false) ∧
      Below w.heap.size w w' := by
  have h19 := @run_callFunc_extern Tryd.prog 19 _ (fun args => ReflectliteValue.unpack (args.getD 0 (.tuple #[]))) Tryd.func19 (by kernel_rfl) (by kernel_rfl) (by kernel_rfl) (by kernel_rfl)
  have h20 := @run_callFunc_extern Tryd.prog 20 _ (ReflectliteValue.methodAny (ReflectliteValue.valueError "reflectlite.Value.Type" 0) (fun t _ _ _ => ReflectliteType.toType t)) Tryd.func20 (by kernel_rfl) (by kernel_rfl) (by kernel_rfl) (by kernel_rfl)
  have h21 := @run_callFunc_extern Tryd.prog 21 _ (ReflectliteValue.method (ReflectliteValue.valueError "reflectlite.Value.IsNil" 0) ReflectliteValue.isNil) Tryd.func21 (by kernel_rfl) (by kernel_rfl) (by kernel_rfl) (by kernel_rfl)
  have h41 := @run_callFunc_extern Tryd.prog 41 _ (ReflectliteType.abiMethod fun t => do pure (.int .u8 (← Rtype.kind t))) Tryd.func41 (by kernel_rfl) (by kernel_rfl) (by kernel_rfl) (by kernel_rfl)
  have h53 := @run_callFunc_extern Tryd.prog 53 _ (ReflectliteType.method ReflectliteType.elem) Tryd.func53 (by kernel_rfl) (by kernel_rfl) (by kernel_rfl) (by kernel_rfl)
  have h54 := @run_callFunc_extern Tryd.prog 54 _ (ReflectliteType.relation "Implements" ReflectliteType.implements_) Tryd.func54 (by kernel_rfl) (by kernel_rfl) (by kernel_rfl) (by kernel_rfl)
  have mK := Tryd.methodKind
  have mE := Tryd.methodElem
  have mI := Tryd.methodImplements
  have v48 := Tryd.valueOf48
  have tyT := Tryd.type48
  have kT := Tryd.kind48
  have kE := Tryd.kind42
  have eT := Tryd.elem48
  have iE := Tryd.implements42
  have hlt : 0 < w.heap.size := World.block_lt_of_cell? _ _ hg
  have htl : t.block < w.heap.size := World.block_lt_of_cell? _ _ ht
  have n8 := Tryd.isNil48 ⟨w.heap.size, 0, none⟩ t ((w.alloc (.cells #[.pointer (some t)] 48)).alloc (.cells #[.pointer (some ⟨1, 48, none⟩), .pointer (some ⟨w.heap.size, 0, none⟩), .int .u64 150] 53)) (by simp)
  have hg2 : ((w.alloc (.cells #[.pointer (some t)] 48)).alloc (.cells #[.pointer (some ⟨1, 48, none⟩), .pointer (some ⟨w.heap.size, 0, none⟩), .int .u64 150] 53)).cell? ⟨0, 0, none⟩ = some (.iface 65 (.agg #[.pointer (some ⟨1, 26, none⟩)])) := by
    rw [World.cell?_alloc_lt _ _ ⟨0, 0, none⟩ (by simp), World.cell?_alloc_lt _ _ ⟨0, 0, none⟩ hlt]; exact hg
  have hv2 : ((w.alloc (.cells #[.pointer (some t)] 48)).alloc (.cells #[.pointer (some ⟨1, 48, none⟩), .pointer (some ⟨w.heap.size, 0, none⟩), .int .u64 150] 53)).cell? ⟨w.heap.size, 0, none⟩ = some (.pointer (some t)) := by simp
  have ht2 : ((w.alloc (.cells #[.pointer (some t)] 48)).alloc (.cells #[.pointer (some ⟨1, 48, none⟩), .pointer (some ⟨w.heap.size, 0, none⟩), .int .u64 150] 53)).cell? t = some old := by
    rw [World.cell?_alloc_lt _ _ t (by simp; omega), World.cell?_alloc_lt _ _ t htl]; exact ht
  have hf2 : ((w.alloc (.cells #[.pointer (some t)] 48)).alloc (.cells #[.pointer (some ⟨1, 48, none⟩), .pointer (some ⟨w.heap.size, 0, none⟩), .int .u64 150] 53)).frozen? t = false := by
    rw [World.frozen?_alloc_old _ _ t (by simp; omega), World.frozen?_alloc_old _ _ t (Nat.ne_of_lt htl)]; exact hf
  clear hv2 ht2 hf2
  go_enter Tryd.func17, Tryd.ntmps17
  go_wp2_with (go_at_call 22; refine (as_seen_no c _ _ _).mono ?_; rintro e w' ⟨rfl, hb⟩)
  go_ret
  exact ⟨rfl, Below.trans (((Below.refl _ _).alloc (Nat.le_refl _) _).alloc (by simp) _) (hb.mono (by simp; omega))⟩
end Go.Proofs.YtdldfjanilagiaaDoor
