/- The walk of switchbacklaw02.FaultFirst: it answers true. The condition: the variable errors.errorType holds the type error. -/
import Derived.Test.YtdldfjanilagiaaDoorMade
namespace Go.Proofs.YtdldfjanilagiaaDoor
open Go.RowKit Go.Extern.Stop Go.Stop Go.Extern
open Go.Proofs.YtdldfjanilagiaaDoorW.PrintWords Go.Proofs.YtdldfjanilagiaaDoorW.PrintLast Go.Proofs.YtdldfjanilagiaaDoorW.PrintMore

set_option maxHeartbeats 4000000 in
theorem first_long (A : Option Addr) (cp : Nat) (l : List Int) (s : ByteArray) (w : World) (hl : Laid w) (c1 : decide ((50 : Int) < (l.length : Int)) = true) :
    Calls Tryd.prog 3 #[.slice A l.length cp, .string s] w fun ev w' => ev = .returned (.bool true) ∧ Below w.heap.size w w' := by
  have HL := Aside0.mk hl
  clear hl
  go_enter Tryd.func3, Tryd.ntmps3
  go_wp2_with fail
  refine (awake_true _ HL.out).mono ?_
  rintro ev w1 ⟨rfl, b1⟩
  have HB1 := Aside0.mk b1
  clear b1
  go_wp2_with fail
  refine (awake_true _ (HL.out.below HB1.out)).mono ?_
  rintro ev w2 ⟨rfl, b2⟩
  have HB2 := Aside0.mk (below_step HB1.out b2)
  clear b2
  go_wp2_with fail
  go_ret
  exact ⟨rfl, HB2.out⟩
set_option maxHeartbeats 4000000 in
theorem first_wide (A : Option Addr) (cp : Nat) (l : List Int) (s : ByteArray) (w : World) (hl : Laid w) (c1 : decide ((50 : Int) < (l.length : Int)) = false) (c2 : decide ((100 : Int) < (s.size : Int)) = true) :
    Calls Tryd.prog 3 #[.slice A l.length cp, .string s] w fun ev w' => ev = .returned (.bool true) ∧ Below w.heap.size w w' := by
  have HL := Aside0.mk hl
  clear hl
  go_enter Tryd.func3, Tryd.ntmps3
  go_wp2_with fail
  refine (awake_true _ HL.out).mono ?_
  rintro ev w1 ⟨rfl, b1⟩
  have HB1 := Aside0.mk b1
  clear b1
  go_wp2_with fail
  refine (awake_true _ (HL.out.below HB1.out)).mono ?_
  rintro ev w2 ⟨rfl, b2⟩
  have HB2 := Aside0.mk (below_step HB1.out b2)
  clear b2
  go_wp2_with fail
  go_ret
  exact ⟨rfl, HB2.out⟩

set_option maxHeartbeats 8000000 in
set_option maxRecDepth 100000 in
theorem first_main (A : Option Addr) (cp : Nat) (l : List Int) (s : ByteArray) (w : World) (hl : Laid w) (hr : (Kd.int .i64).C w A l.length l) (hn : l.length ≤ 50)
    (c1 : decide ((50 : Int) < (l.length : Int)) = false) (c2 : decide ((100 : Int) < (s.size : Int)) = false) :
    Calls Tryd.prog 3 #[.slice A l.length cp, .string s] w fun ev w' => ev = .returned (.bool true) ∧ Below w.heap.size w w' := by
  have HL := Aside0.mk hl
  have HR0 := Aside0.mk hr
  clear hl hr
  go_enter Tryd.func3, Tryd.ntmps3
  go_wp2_with fail
  refine (awake_true _ HL.out).mono ?_
  rintro ev w1 ⟨rfl, b1⟩
  have HB1 := Aside0.mk b1
  clear b1
  go_wp2_with fail
  go_loopg [5, 6, 25] l.length (fun kq v5 v6 v25 wr => ∃ (k : Nat) (es : List (Option (TypeId × Value))) (want : Int), k ≤ l.length ∧ kq = l.length - k ∧ v25 = .int .i64 k ∧ v6 = .int .i64 want ∧ Aside0 (want = wantOf (l.take k)) ∧ Aside0 (Made wr s (l.take k) es) ∧ Aside0 (errKd.R 26 wr w.heap.size (fun _ => True) v5 es) ∧ Aside0 (Below w.heap.size w wr))
  case atStart => exact ⟨0, [], 0, Nat.zero_le _, rfl, rfl, rfl, ⟨rfl⟩, ⟨rfl⟩, ⟨Kd.R_nil _ _ _ _ _⟩, ⟨HB1.out⟩⟩
  case round =>
    obtain ⟨k, es, want, hk, hq, rfl, rfl, HW, HM, HR, HB⟩ := hrel
    have HQ := Aside0.mk hq
    clear HB1 hq
    by_cases hlt : k < l.length
    · obtain ⟨ad, e0, hx⟩ := Kd.at_int HR0.out (k : Int) (by omega) (by omega)
      cases e0
      rw [Int.toNat_natCast] at hx
      have HS := Aside0.mk (take_snoc_int l k hlt)
      obtain ⟨e, he⟩ : ∃ q, rd l (k : Int) = q := ⟨_, rfl⟩
      rw [he] at hx HS
      clear he
      replace hx := (HB.out.cell (World.block_lt_of_cell? w _ hx)).trans hx
      have hle : es.length ≤ 50 := by have := HM.out.length; rw [List.length_take] at this; omega
      have HN := Aside0.mk hn
      have HW2 := Aside0.mk (wantOf_snoc (l.take k) e)
      rw [← HS.out, ← HW.out] at HW2
      by_cases hz : e = 0
      · have c4 : (e == 0) = true := beq_iff_eq.2 hz
        have HZ := Aside0.mk hz
        clear hz
        by_cases hy : want = 0
        all_goals
          first | (have c5 : (want == 0) = true := beq_iff_eq.2 hy) | (have c5 : (want == 0) = false := beq_eq_false_iff_ne.2 hy)
          have HY := Aside0.mk hy
          clear hy
          go_wp2_with (first
            | ((with_reducible refine gate_builtin (b := .append) (xs := #[.tmp 29, .tmp 33]) rfl ?_); at_builtin; refine Kd.R_append errKd (w0 := w) w.heap.size rfl (.tmp 29) (.tmp 33) 24 26 .nilIface 16 rfl Tryd.underlying24 info26 rfl (by decide) (by omega) u5 es none [.nilIface] (fun _ => True) (fun _ => False) rfl rfl ?aP (fun _ hk => hk.elim) ?aF ?aO ?aB ?aS ?aL ?_; (case aP => exact rfl); (case aF => exact fun _ _ => trivial); (case aO => exact HR.out); (case aB => exact HB.out); (case aS => exact HB.out.size); (case aL => omega); intro v1 w3 ho hb hg hat
               have HG3 := Aside0.mk hg; have HO3 := Aside0.mk ho; have HB3 := Aside0.mk hb; clear ho hb hg hat)
            | (go_at_call 9; refine (new_nil e s _ c4).mono ?_; rintro ev w' ⟨rfl, rfl⟩))
          go_roundg (l.length - (k + 1))
          case measure => have := HQ.out; omega
          case rel =>
            refine ⟨k + 1, es ++ [none], _, by omega, rfl, by go_num, rfl, ⟨?_⟩, ⟨?_⟩, ⟨HO3.out⟩, ⟨HB3.out⟩⟩
            · rw [HW2.out]
              first | (rw [if_pos HY.out]) | (rw [if_neg HY.out])
            · rw [HS.out]
              exact (HM.out.mono fun q cs hq => by rw [HG3.out.block q (lt_of_block hq) (Kd.R_ne HR.out hq (by decide))]; exact hq).snoc (.inl ⟨HZ.out, rfl⟩)
      · have c4 : (e == 0) = false := beq_eq_false_iff_ne.2 hz
        have HZ := Aside0.mk hz
        clear hz
        by_cases hy : want = 0
        all_goals
          first | (have c5 : (want == 0) = true := beq_iff_eq.2 hy) | (have c5 : (want == 0) = false := beq_eq_false_iff_ne.2 hy)
          have HY := Aside0.mk hy
          clear hy
          go_wp2_with (first
            | ((with_reducible refine gate_builtin (b := .append) (xs := #[.tmp 29, .tmp 33]) rfl ?_); at_builtin; refine Kd.R_append errKd (w0 := w) w.heap.size rfl (.tmp 29) (.tmp 33) 24 26 .nilIface 16 rfl Tryd.underlying24 info26 rfl (by decide) (by omega) u5 es (some (42, xa)) [.iface 42 xa] (fun _ => True) (fun _ => False) rfl rfl ?aP (fun _ hk => hk.elim) ?aF ?aO ?aB ?aS ?aL ?_; (case aP => exact rfl); (case aF => exact fun _ _ => trivial); (case aO => exact HRa.out); (case aB => exact HBa.out); (case aS => exact HBa.out.size); (case aL => omega); intro v1 w3 ho hb hg hat
               have HG3 := Aside0.mk hg; have HO3 := Aside0.mk ho; have HB3 := Aside0.mk hb; clear ho hb hg hat)
            | (go_at_call 9; refine (new_E e s _ c4).mono ?_; rintro ev wa ⟨xa, rfl, ea, ba⟩
               have HEa := Aside0.mk ea; have HBa := Aside0.mk (below_step HB.out ba); have HRa := Aside0.mk (Kd.R_below HR.out ba); have HMa := Aside0.mk (HM.out.below ba); clear ea ba))
          go_roundg (l.length - (k + 1))
          case measure => have := HQ.out; omega
          case rel =>
            have hst : ∀ (q : Nat) (cs : Array Value), wa.heap[q]? = some (Obj.cells cs 45 (0, 0)) → w3.heap[q]? = some (Obj.cells cs 45 (0, 0)) := fun q cs hq => by rw [HG3.out.block q (lt_of_block hq) (Kd.R_ne HRa.out hq (by decide))]; exact hq
            refine ⟨k + 1, es ++ [some (42, xa)], _, by omega, rfl, by go_num, rfl, ⟨?_⟩, ⟨?_⟩, ⟨HO3.out⟩, ⟨HB3.out⟩⟩
            · rw [HW2.out]
              first | (rw [if_pos HY.out]) | (rw [if_neg HY.out])
            · rw [HS.out]
              exact (HMa.out.mono hst).snoc (.inr ⟨HZ.out, xa, rfl, HEa.out.mono hst⟩)
    · have hke : k = l.length := by omega
      subst hke
      rw [List.take_length] at HW HM
      clear hk hlt HQ
      obtain ⟨A5, c5, rfl⟩ := Kd.R_slice HR.out
      have HC := Aside0.mk (Kd.R_reads' HR.out).2.2
      clear HR
      rcases HM.out.first with ⟨h0, hf⟩ | ⟨h0, y, hf, hE⟩
      · have c6 : (want == 0) = true := by rw [HW.out, h0]; rfl
        have HF := Aside0.mk hf
        clear h0 hf
        go_wp2_with fail
        refine (join_any A5 c5 es _ HC.out).mono ?_
        rintro ev w3 ⟨rfl, rfl⟩
        rw [HF.out]
        simp only [errEnc]
        go_wp2_with fail
        go_ret
        exact ⟨rfl, HB.out⟩
      · have c6 : (want == 0) = false := by rw [HW.out]; exact beq_eq_false_iff_ne.2 h0
        have HF := Aside0.mk hf
        have HE := Aside0.mk hE
        rw [← HW.out] at HE
        clear h0 hf hE
        go_wp2_with fail
        refine (join_any A5 c5 es _ HC.out).mono ?_
        rintro ev w3 ⟨rfl, rfl⟩
        rw [HF.out]
        simp only [errEnc]
        have HL3 := Aside0.mk (HL.out.below HB.out)
        go_wp2_with fail
        refine (code_ok _ want 42 y _ HE.out HL3.out).mono ?_
        rintro ev w4 ⟨rfl, b4⟩
        have HE4 := Aside0.mk (HE.out.below b4)
        have HB4 := Aside0.mk (below_step HB.out b4)
        have HL4 := Aside0.mk (HL.out.below HB4.out)
        clear b4 HE HB HL3
        go_wp2_with fail
        refine (places_ok _ want 42 y _ HE4.out HL4.out (by simp)).mono ?_
        rintro ev w5 ⟨v5, rfl, r5, b5⟩
        obtain ⟨A6, c7, rfl⟩ := Kd.R_slice r5
        have HP5 := Aside0.mk (Kd.R_reads' r5).2
        have HB5 := Aside0.mk (below_step HB4.out b5)
        clear b5 r5 HE4 HB4 HL4
        go_wp2_with fail
        refine (same_true A6 _ c7 1 [s] _ (Kd.C_below HP5.out.2 ((Below.refl _ _).alloc (Nat.le_refl _) _)) HP5.out.1 (lit_C [s] (by simp) _) (Nat.le_refl _) (by simp)).mono ?_
        rintro ev w6 ⟨rfl, ⟨n6, rfl⟩⟩
        go_wp2_with fail
        go_ret
        exact ⟨rfl, pw_below_drewN (HB5.out.alloc HB5.out.size _) _⟩

theorem first_any (A : Option Addr) (cp : Nat) (l : List Int) (s : ByteArray) (w : World) (hl : Laid w) (hr : (Kd.int .i64).C w A l.length l) (_hc : l.length ≤ cp) (_hw : ∀ x ∈ l, (Lit.int .i64 x).wf = true) :
    Calls Tryd.prog 3 #[.slice A l.length cp, .string s] w fun ev w' => ev = .returned (.bool true) ∧ Below w.heap.size w w' := by
  by_cases hn : 50 < l.length
  · exact first_long A cp l s w hl (decide_eq_true (by omega))
  have c1 : decide ((50 : Int) < (l.length : Int)) = false := decide_eq_false (by omega)
  by_cases hz : 100 < s.size
  · exact first_wide A cp l s w hl c1 (decide_eq_true (by omega))
  exact first_main A cp l s w hl hr (by omega) c1 (decide_eq_false (by omega))
end Go.Proofs.YtdldfjanilagiaaDoor
