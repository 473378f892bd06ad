/- intent.Get: what it answers where its bytes are a record. No condition. -/
import Derived.Test.YtaogmfchpcdboaaGet
namespace Go.Proofs.Ytaogmfchpcdboaa
open Go.RowKit Go.Proofs.YtaogmfchpcdboaaW.PrintWords
open Go.ChangeMaps (setBlock)
set_option linter.unusedSimpArgs false
set_option linter.unusedVariables false

theorem lt_alloc (w : World) (o : Obj) : w.heap.size < (w.alloc o).heap.size := by
  show w.heap.size < (w.heap.push o).size
  simp
def Room (g : Nat) (W : World) : Prop := ∃ old : Array Value, old.size = 19 ∧ W.heap[g]? = some (.cells old 41)
theorem Boxed.room {g : Nat} {k : Int} {b : Bd} {W : World} (h : Boxed g k b W) : Room g W := ⟨_, rfl, h⟩
theorem Room.set {g : Nat} {k : Int} {b : Bd} {W : World} (h : Room g W) : Room g (setBlock W g (.cells (recCells k b) 41)) := by
  obtain ⟨old, _, h⟩ := h
  exact ⟨_, rfl, setBlock_at h⟩
/-- A store of a record as the walk is to meet it: in one piece. -/
noncomputable def storeStep (p v : Value) : Sem Next := do Instr.storeAt 41 p v; pure .skip
theorem store_one (ρ : Operand → Value) (dst : Option Tmp) (x y : Operand) (ty : TypeId) (pos : String) (after : Array Edge) (guard : Option (Nat × Bool)) :
    execOp ρ { dst, op := .store 41 x y, type := ty, pos, after, guard } = storeStep (ρ x) (ρ y) := rfl
theorem Room.store1 {g : Nat} {W : World} (h : Room g W) (k : Int) (b : Bd) : (storeVar 41 ⟨g, 0, none⟩ (recVal k b)).run Try.prog W = .ok () (setBlock W g (.cells (recCells k b) 41)) := by
  obtain ⟨old, ho, h⟩ := h
  refine (run_storeVar_row (P := Try.prog) W g 41 41 old (recCells k b) h info41 ho (by simp [recCells, recVal, Value.cells, Value.oneCell'])).trans ?_
  congr 1
  unfold World.setRow setBlock
  simp only [World.mk.injEq, and_true]
  apply Array.ext_getElem?
  intro i
  rw [Array.getElem?_modify, Array.getElem?_setIfInBounds]
  have hl : g < W.heap.size := (Array.getElem?_eq_some_iff.1 h).1
  by_cases hi : g = i
  · subst hi
    simp only [if_true, h, hl]
    rfl
  · simp [hi]
theorem Room.store {g : Nat} {W : World} (h : Room g W) (k : Int) (b : Bd) : (storeStep (.pointer (some ⟨g, 0, none⟩)) (recVal k b)).run Try.prog W = .ok .skip (setBlock W g (.cells (recCells k b) 41)) := by
  unfold storeStep
  simp only [Instr.storeAt, Instr.sureAddr, Sem.run_bind, Sem.run_pure, Result.andThen_ok, h.store1 k b]
attribute [local go_sem ↓] store_one
theorem cell_setBlock {W : World} {g : Nat} {o : Obj} {ad : Addr} {v : Value} (h : W.cell? ad = some v) (hne : g < ad.block) : (setBlock W g o).cell? ad = some v := by
  have e : (setBlock W g o).heap[ad.block]? = W.heap[ad.block]? := by
    simp only [setBlock]
    rw [Array.getElem?_setIfInBounds, if_neg (by omega)]
  unfold World.cell? at h ⊢
  rw [e]
  exact h
def GoodS (g : Nat) (ad : Addr) (k : Int) (B : Bd) (W : World) : Prop := W.cell? ad = some (.int .i64 k) ∧ (storeStep (.pointer (some ⟨g, 0, none⟩)) (recVal k B)).run Try.prog W = .ok .skip (setBlock W g (.cells (recCells k B) 41))
theorem GoodS.of {g : Nat} {ad : Addr} {k q : Int} {B b : Bd} {W : World} (h : W.cell? ad = some (.int .i64 k)) (hx : Boxed g q b W) : W.cell? ad = some (.int .i64 k) ∧ (storeStep (.pointer (some ⟨g, 0, none⟩)) (recVal k B)).run Try.prog W = .ok .skip (setBlock W g (.cells (recCells k B) 41)) := ⟨h, hx.room.store k B⟩
theorem GoodS.drew {g : Nat} {ad : Addr} {k q : Int} {B b : Bd} {W : World} (h : W.cell? ad = some (.int .i64 k)) (hx : Boxed g q b W) : W.drew.cell? ad = some (.int .i64 k) ∧ (storeStep (.pointer (some ⟨g, 0, none⟩)) (recVal k B)).run Try.prog W.drew = .ok .skip (setBlock W.drew g (.cells (recCells k B) 41)) := ⟨h, hx.drew.room.store k B⟩
theorem GoodS.set {g : Nat} {ad : Addr} {k q : Int} {B b : Bd} {W : World} (h : W.cell? ad = some (.int .i64 k)) (hx : Boxed g q b W) (hne : g < ad.block) : (setBlock W g (.cells (recCells k B) 41)).cell? ad = some (.int .i64 k) ∧ (storeStep (.pointer (some ⟨g, 0, none⟩)) (recVal k B)).run Try.prog (setBlock W g (.cells (recCells k B) 41)) = .ok .skip (setBlock (setBlock W g (.cells (recCells k B) 41)) g (.cells (recCells k B) 41)) := ⟨cell_setBlock h hne, hx.room.set.store k B⟩
set_option maxHeartbeats 16000000 in
set_option maxRecDepth 100000 in
theorem get_good (s : ByteArray) (kg : Nat) (k : Int) (t : List Int) (kc : Nat) (w : World) (hg : PIntentPuts.code_Get.f kg s = some (k :: t, 0)) (hk : kindOk k = true) (hlen : t.length = (rangesOf k).length) (hch : PIntentPuts.intent_check.f kc t (rangesOf k) = some 0) : Calls Try.prog 24 #[.string s] w fun e w' => e = .returned (.tuple #[recVal k (bodyOf k t), .int .i64 0]) ∧ Below w.heap.size w w' := by
  obtain ⟨y, hy⟩ : ∃ q : List Int, q = k :: t := ⟨_, rfl⟩
  obtain ⟨re, hre⟩ : ∃ q : Int, q = 0 := ⟨_, rfl⟩
  have HG : Aside0 (PIntentPuts.code_Get.f kg s = some (y, re)) := ⟨by rw [hy, hre]; exact hg⟩
  obtain ⟨nr, hnr⟩ : ∃ q : Nat, q = (rangesOf k).length := ⟨_, rfl⟩
  have HNY : Aside0 (nr + 1 = y.length) := ⟨by rw [hnr, hy, List.length_cons, hlen]⟩
  have hrl : nr ≤ 12 := by rw [hnr]; exact ranges_le k
  have hw : IntKind.i64.wrap ((nr : Int) + 1) = (nr : Int) + 1 := by rw [IntKind.wrap_i64]; omega
  have hy0 : (0 : Int) < (nr : Int) + 1 := by omega
  have hyn : ¬ ((nr : Int) + 1 = 0) := by omega
  have hyb : ((nr : Int) + 1 == 0) = false := by simp; omega
  have h1n : (1 : Int) ≤ (nr : Int) + 1 := by omega
  have Ny := Aside0.mk hy
  have HK := Aside0.mk hk
  have HNR := Aside0.mk hnr
  have HT2 := Aside0.mk hlen
  have HT := Aside0.mk (hnr.trans hlen.symm)
  clear hg hy hk hnr hrl hlen
  obtain ⟨rc, hrc⟩ : ∃ q : Int, q = 0 := ⟨_, rfl⟩
  have HCH : Aside0 (PIntentPuts.intent_check.f kc t (rangesOf k) = some rc) := ⟨by rw [hrc]; exact hch⟩
  clear hch
  obtain ⟨B, hB⟩ : ∃ q : Bd, q = bodyOf k t := ⟨_, rfl⟩
  have HBB : Aside0 (bodyOf k t = B) := ⟨hB.symm⟩
  rw [← hB]
  clear hB
  have HX := Aside0.mk (Boxed.new 0 zB w)
  have HB := Aside0.mk (below_alloc (Below.refl w.heap.size w) (.cells (recCells 0 zB) 41))
  go_enter Try.func24, Try.ntmps24
  go_wp2_with (first | (go_at_call 18; ((with_reducible refine (PIntentPuts.code_Get.calls kg s y re _ HG.out).mono ?_); rintro e w1 ⟨v0, rfl, ho, hb⟩; have HO := Aside0.mk ho; have n0_ := Aside0.mk (HX.out.below hb); have n1_ := Aside0.mk (below_step HB.out hb); clear HX HB hb ho; have HX := n0_; have HB := n1_; clear n0_ n1_; obtain ⟨Ao, co, eo⟩ := Kd.R_slice HO.out; subst eo; rw [← HNY.out]; have hR := Kd.R_reads' HO.out; have hC1 : Kd.C (Kd.int .i64) w1 Ao y.length (k :: t) := (by have h := hR.2.2; rw [Ny.out] at h ⊢; exact h); obtain ⟨ad, eA, hk0, hlt⟩ := int_at0 hC1; subst eA; have HCY := Aside0.mk (And.intro hR.2.1 hR.2.2); have HK0 := Aside0.mk (And.intro hk0 hlt); have HNE : Aside0 (w.heap.size < ad.block) := ⟨Nat.lt_of_lt_of_le (lt_alloc w _) (Kd.R_base HO.out ad.block (by simp only [Value.ownBlock]))⟩; clear hR hC1 hk0 hlt HO)) | ((with_reducible refine gate_store (t := 41) rfl ?_); refine wpList_store_block rfl 41 _ _ rfl _ _ (by rfl) (by rfl) 41 _ HX.out (by kernel_rfl) (by rfl) (by simp [Value.oneCell']) ?_; go_simp))
  go_region_held3 (fun W => W.cell? ad = some (.int .i64 k)) (first | exact HK0.out.1)
    (first | (go_at_call 27; ((with_reducible refine (spans_calls _).mono ?_); rintro e w2 ⟨r, rfl, hb, hr, hS⟩; obtain ⟨Ar, hl, hC⟩ := look_ok hS HK.out; have hl0 := hl w2 rfl; rw [← HNR.out] at hl0; have HC := Aside0.mk hC; clear hl hC; have n0_ := Aside0.mk (HX.out.drew.below hb); have n1_ := Aside0.mk (below_step (below_drew1 HB.out) hb); have n2_ := Aside0.mk (And.intro HCY.out.1 (Kd.C_below (Kd.C_drew HCY.out.2) hb)); have n3_ := Aside0.mk (And.intro ((hb.cell (show ad.block < _ from HK0.out.2)).trans (show _ = _ from HK0.out.1)) (Nat.lt_of_lt_of_le HK0.out.2 hb.size)); clear HX HB HCY HK0 hS hb hr; have HX := n0_; have HB := n1_; have HCY := n2_; have HK0 := n3_; clear n0_ n1_ n2_ n3_)))
  all_goals (rename_i hHeld; clear hHeld hl0)
  have HCT := Aside0.mk (C_tail (k := k) (t := t) (by have h := HCY.out.2; rw [Ny.out] at h; exact h) HT.out)
  go_wp2_with (first | (go_at_call 30; ((with_reducible refine (check_calls kc _ nr _ t _ nr nr (rangesOf k) rc _ HT.out HNR.out ?side1 ?side2 ?side3 (Nat.le_refl _) HCH.out).mono ?_); (case side1 => first | exact HCT.out | exact C_zero HT.out (by have := HCY.out.1; have := HNY.out; omega)); (case side2 => have := HCY.out.1; have := HNY.out; omega); (case side3 => have h := HC.out; rw [← HNR.out] at h; exact h); rintro e w3 ⟨rfl, ⟨nd, rfl⟩⟩; have n0_ := Aside0.mk (show Boxed w.heap.size 0 zB (w2.drewN nd) from HX.out); have n1_ := Aside0.mk (pw_below_drewN HB.out nd); have n2_ := Aside0.mk (And.intro HCY.out.1 (Kd.C_drewN HCY.out.2 nd)); have n3_ := Aside0.mk (show (w2.drewN nd).cell? ad = some (.int .i64 k) from HK0.out.1); have n4_ := Aside0.mk (Kd.C_drewN HCT.out nd); clear HX HB HCY HK0 HCT; have HX := n0_; have HB := n1_; have HCY := n2_; have HK1 := n3_; have HCT := n4_; clear n0_ n1_ n2_ n3_ n4_)))
  all_goals subst hrc
  all_goals (try go_wp2)
  all_goals have HKL : Aside0 (ad.block < _) := ⟨World.block_lt_of_cell? _ _ HK1.out⟩
  all_goals (go_region_held3 (fun W => W.cell? ad = some (.int .i64 k) ∧ (storeStep (.pointer (some ⟨w.heap.size, 0, none⟩)) (recVal k B)).run Try.prog W = .ok .skip (setBlock W w.heap.size (.cells (recCells k B) 41))) (first | with_reducible exact GoodS.of HK1.out HX.out | with_reducible exact GoodS.drew HK1.out HX.out | with_reducible exact GoodS.set HK1.out HX.out HNE.out)
    (first | (go_at_call 29; (refine (record_calls _ nr _ k t _ ?side1 ?side2 HT2.out).mono ?_; (case side1 => first | exact Kd.C_drew HCT.out | exact HCT.out | exact C_zero HT.out (by have := HCY.out.1; have := HNY.out; omega)); (case side2 => have := HCY.out.1; have := HNY.out; omega); rintro e w3 ⟨rfl, hb⟩; rw [HBB.out]; have n0_ := Aside0.mk (HX.out.drew.below hb); have n1_ := Aside0.mk (below_step (below_drew1 HB.out) hb); have n2_ := Aside0.mk (show w3.cell? ad = some (.int .i64 k) from (hb.cell (show ad.block < _ from HKL.out)).trans (show _ = _ from HK1.out)); clear HX HB HK1 hb; have HX := n0_; have HB := n1_; have HK1 := n2_; clear n0_ n1_ n2_))))
  all_goals (rename_i hHeld; clear hHeld)
  all_goals (try go_wp2)
  all_goals (try simp only [Exit.inBlock, Exit.then])
  all_goals refine bodyPost_ret (results_cell_tmp_row (p := 2) (ty := 41) rfl _ _ (w.heap.size) 41 _ (0, 0) _ (by rfl) (setBlock_at HX.out) Try.underlying41 rfl (by kernel_rfl)) rfl ?_
  all_goals exact ⟨rfl, below_setBlock (by repeat (first | (with_reducible first | exact HB.out | apply below_alloc | apply pw_below_drewN | apply below_drew1) | exact HB.out)) (Nat.le_refl _) _⟩
end Go.Proofs.Ytaogmfchpcdboaa
