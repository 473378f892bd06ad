/- Package fault's Places and Join, by their walks. The condition: the variable errors.errorType holds the type error. -/
import Derived.Test.YtdldfjanilagiaaDoorErrIs
import Derived.Test.YtdldfjanilagiaaDoorPFaultWrapsx1
import Derived.OneCell
namespace Go.Proofs.YtdldfjanilagiaaDoor
open Go.RowKit Go.Extern.Stop Go.Stop Go.Extern
open Go.Proofs.YtdldfjanilagiaaDoorW.PrintWords Go.Proofs.YtdldfjanilagiaaDoorW.PrintLast Go.Proofs.YtdldfjanilagiaaDoorW.PrintMore
open PFaultWraps (info9)

/-- What a call did that made blocks and wrote one elder block g of one cell. -/
structure Put1 (w w' : World) (g : Nat) (X : Value) (ty : TypeId) : Prop where
  os : w'.os = w.os
  tape : w'.tape = w.tape
  output : w'.output = w.output
  size : w.heap.size ≤ w'.heap.size
  others : ∀ k, k < w.heap.size → k ≠ g → w'.heap[k]? = w.heap[k]?
  self : w'.heap[g]? = some (.cells #[X] ty (0, 0))

theorem Put1.below {w w' : World} {g B : Nat} {X : Value} {ty : TypeId} (h : Put1 w w' g X ty) (hB : B ≤ g) (hg : B ≤ w.heap.size) : Below B w w' :=
  ⟨h.os, h.tape, h.output, h.size, fun k hk => h.others k (by omega) (by omega)⟩

theorem ErrV.put {w w' : World} {g : Nat} {X old : Value} {ty : TypeId} {ps : List ByteArray} {c : Int} {v : Value} (hE : ErrV w ps c v) (h : Put1 w w' g X ty) (hg : w.heap[g]? = some (.cells #[old] ty (0, 0))) (hne : ty ≠ 45) : ErrV w' ps c v :=
  hE.mono fun k cs hk => by
    have hlt := lt_of_block hk
    have : k ≠ g := by
      rintro rfl
      rw [hk] at hg
      injection hg with hg
      injection hg with _ hg
      exact hne hg.symm
    rw [h.others k hlt this]; exact hk

theorem Laid.put {w w' : World} {g : Nat} {X : Value} {ty : TypeId} (hl : Laid w) (h : Put1 w w' g X ty) (hg : g ≠ 0) : Laid w' := by
  have e := h.others 0 hl.lt (fun e => hg e.symm)
  have h1 : w'.cell? ⟨0, 0, none⟩ = w.cell? ⟨0, 0, none⟩ := by simp [World.cell?, e]
  show w'.cell? ⟨0, 0, none⟩ = _
  rw [h1]; exact hl

theorem errAs_seen_put (w : World) (b g : Nat) (old : Value) (hl : Laid w) (hg : w.heap[g]? = some (.cells #[old] 42 (0, 0))) :
    Calls Tryd.prog 17 #[.iface 42 (.pointer (some ⟨b, 0, none⟩)), .iface 48 (.pointer (some ⟨g, 0, none⟩))] w fun ev w' => ev = .returned (.bool true) ∧ Put1 w w' g (.pointer (some ⟨b, 0, none⟩)) 42 := by
  refine (errAs_seen w b ⟨g, 0, none⟩ old hl (cell_of_one hg) (free_of_one hg)).mono ?_
  rintro ev w' ⟨rfl, w1, hb, rfl⟩
  have hlt := lt_of_block hg
  have e1 : w1.heap[g]? = some (.cells #[old] 42 (0, 0)) := by rw [hb.block g hlt]; exact hg
  refine ⟨rfl, hb.os, hb.tape, hb.output, by simpa using hb.size, fun k hk hne => ?_, one_setCell e1⟩
  rw [Below.heap_setCell _ _ _ _ hne, hb.block k hk]

theorem places_nil (w : World) : Calls Tryd.prog 13 #[.nilIface] w fun ev w' => ev = .returned (.slice none 0 0) ∧ Below w.heap.size w w' := by
  go_enter Tryd.func13, Tryd.ntmps13
  go_wp2
  refine wp_loop_rounds 1 ?_
  rw [rounds_succ]
  go_wp2
  go_ret
  exact ⟨rfl, (Below.refl _ _).alloc (Nat.le_refl _) _⟩

set_option maxHeartbeats 8000000 in
set_option maxRecDepth 100000 in
theorem places_ok (ps : List ByteArray) (c : Int) (ty : TypeId) (x : Value) (w : World) (hE : ErrV w ps c (.iface ty x)) (hl : Laid w) (hn : ps.length ≤ 100000) :
    Calls Tryd.prog 13 #[.iface ty x] w fun ev w' => ∃ v, ev = .returned v ∧ Kd.R Kd.string 9 w' w.heap.size (fun k => k ≠ w.heap.size) v ps ∧ Below w.heap.size w w' := by
  have HE := Lib.hid (hE.below ((Below.refl _ _).alloc (Nat.le_refl _) (.cells #[.pointer none] 42)))
  have HL := Lib.hid (hl.alloc (.cells #[.pointer none] 42))
  have h0 : 0 < w.heap.size := hl.lt
  clear hE hl
  go_enter Tryd.func13, Tryd.ntmps13
  go_wp2
  go_loopg [0, 3] ps.length (fun kq v0 v3 wr => ∃ qs done : List ByteArray, Aside0 (qs.length = kq) ∧ Aside0 (done ++ qs = ps) ∧ Aside0 (ErrV wr qs c v0) ∧ Aside0 (Laid wr) ∧ Aside0 (Kd.R Kd.string 9 wr w.heap.size (fun k => k ≠ w.heap.size) v3 done) ∧ Aside0 (∃ sv, wr.heap[w.heap.size]? = some (.cells #[sv] 42 (0, 0))) ∧ Aside0 (Below w.heap.size w wr))
  case atStart =>
    exact ⟨ps, [], ⟨rfl⟩, ⟨rfl⟩, ⟨HE.out⟩, ⟨HL.out⟩, ⟨Kd.R_nil _ _ _ _ _⟩, ⟨_, heap_alloc_new w _⟩, ⟨(Below.refl _ _).alloc (Nat.le_refl _) _⟩⟩
  case round =>
    obtain ⟨qs, done, HK, HD, HE', HL', HR, HS, HB⟩ := hrel
    clear HE HL
    cases qs with
    | nil =>
      have hE' : _ = Value.iface 43 (.int .i64 c) := HE'.out
      subst hE'
      clear HE'
      obtain ⟨sv, hs⟩ := HS.out
      have hd : done = ps := by have := HD.out; simpa using this
      subst hd
      clear HD HK HS
      have HC := Aside0.mk (cell_of_one hs)
      have HF := Aside0.mk (free_of_one hs)
      clear hs
      go_wp2_with (go_at_call 17; refine (errAs_seen_no _ c ⟨w.heap.size, 0, none⟩ sv HL'.out HC.out HF.out).mono ?_; rintro e w' ⟨rfl, hb⟩; have HB2 := Aside0.mk hb; clear hb)
      go_ret
      exact ⟨_, rfl, Kd.R_below HR.out HB2.out, HB.out.trans (HB2.out.mono HB.out.size)⟩
    | cons p qs =>
      obtain ⟨b, v', e0, hb, hE⟩ := HE'.out
      subst e0
      obtain ⟨ty', x', rfl⟩ := hE.iface
      obtain ⟨sv, hs⟩ := HS.out
      have hbg : b ≠ w.heap.size := by
        rintro rfl
        rw [hb] at hs
        injection hs with hs
        injection hs with _ hs
        exact absurd hs (by decide)
      have HN := Aside0.mk hb
      have HT := Aside0.mk hE
      have HG := Aside0.mk hs
      have HBG := Aside0.mk hbg
      clear HE' hb hE hs HS hbg
      have hlen : done.length + 1 ≤ 100000 := by
        have := congrArg List.length HD.out
        simp at this
        omega
      go_wp2_with (first
        | ((with_reducible refine gate_builtin (b := .append) (xs := #[.tmp 12, .tmp 17]) rfl ?_); at_builtin; refine Kd.R_append Kd.string (w0 := w) w.heap.size rfl (.tmp 12) (.tmp 17) 32 9 (.string ⟨#[]⟩) 16 rfl Tryd.underlying32 info9 rfl (by decide) (by omega) u3 done p [.string p] (fun k => k ≠ w.heap.size) (fun _ => False) rfl rfl ?aP (fun _ hk => hk.elim) ?aF ?aO ?aB ?aS ?aL ?_; (case aP => exact rfl); (case aF => exact HF2.out); (case aO => exact HR2.out); (case aB => exact HB2.out); (case aS => exact HS2.out); (case aL => omega); intro v1 w3 ho hb hg hat
           have HO3 := Aside0.mk ho; have HB3 := Aside0.mk hb; have HG3 := Aside0.mk hg; clear ho hb hg hat
           have c3 : w3.cell? ⟨w.heap.size, 0, none⟩ = some (.pointer (some ⟨b, 0, none⟩)) := by
             have e := HG3.out.block w.heap.size (lt_of_block HP.out.self) (fun e => (HR2.out.1 _ e.symm) rfl)
             exact cell_of_one (e.trans HP.out.self)
           have c4 : w3.cell? ⟨b, 1, none⟩ = some (.iface ty' x') := by
             have hb2 := (HP.out.others b (lt_of_block HN.out) HBG.out).trans HN.out
             have e := HG3.out.block b (lt_of_block hb2) (Kd.R_ne HR2.out hb2 (by decide))
             exact (cells_of (e.trans hb2)).2)
        | (go_at_call 17; refine (errAs_seen_put _ b w.heap.size sv HL'.out HG.out).mono ?_; rintro e w2 ⟨rfl, hp⟩; have HP := Aside0.mk hp; clear hp
           have c1 := cell_of_one HP.out.self
           have c2 : w2.cell? ⟨b, 0, none⟩ = some (.string p) := (cells_of ((HP.out.others b (lt_of_block HN.out) HBG.out).trans HN.out)).1
           have HR2 := Aside0.mk (Kd.R_step HR.out (w1 := w2) (fun k hk hlt => HP.out.others k hlt hk))
           have HB2 := Aside0.mk (HB.out.trans (HP.out.below (Nat.le_refl _) HB.out.size))
           have HS2 := Aside0.mk HB2.out.size
           have HF2 : Aside0 (∀ k, w2.heap.size ≤ k → k ≠ w.heap.size) := ⟨fun k hk => by have := lt_of_block HP.out.self; omega⟩))
      go_roundg qs.length
      case measure => have := HK.out; simp at this; omega
      case rel =>
        have hgl := lt_of_block HP.out.self
        have hE2 : ErrV w2 qs c (.iface ty' x') := HT.out.put HP.out HG.out (by decide)
        refine ⟨qs, done ++ [p], ⟨rfl⟩, ⟨by rw [List.append_assoc]; exact HD.out⟩, ⟨hE2.mono fun k cs hk => ?_⟩, ⟨?_⟩, ⟨HO3.out⟩, ⟨⟨.pointer (some ⟨b, 0, none⟩), ?_⟩⟩, ⟨HB3.out⟩⟩
        · rw [HG3.out.block k (lt_of_block hk) (Kd.R_ne HR2.out hk (by decide))]; exact hk
        · have hl2 : Laid w2 := HL'.out.put HP.out (by omega)
          have e := HB3.out.block 0 h0
          have e2 := HB2.out.block 0 h0
          have h1 : w3.cell? ⟨0, 0, none⟩ = w2.cell? ⟨0, 0, none⟩ := by simp [World.cell?, e, e2]
          show w3.cell? ⟨0, 0, none⟩ = _
          rw [h1]; exact hl2
        · exact (HG3.out.block w.heap.size hgl (fun e => (HR2.out.1 _ e.symm) rfl)).trans HP.out.self
end Go.Proofs.YtdldfjanilagiaaDoor
