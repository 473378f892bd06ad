/- The walk of switchbacklaw02.FaultWraps: it answers true. The condition: the variable errors.errorType holds the type error. -/
import Derived.Test.YtdldfjanilagiaaDoorAwake
namespace Go.Proofs.YtdldfjanilagiaaDoor
open Go.RowKit Go.Extern.Stop Go.Stop Go.Extern
open Go.Proofs.YtdldfjanilagiaaDoorW.PrintWords Go.Proofs.YtdldfjanilagiaaDoorW.PrintLast Go.Proofs.YtdldfjanilagiaaDoorW.PrintMore
open PFaultWraps (info9)

/-! ### Chain turns a list about -/
theorem chain_l0 (j : Nat) : ∀ (l acc : List ByteArray), j ≤ l.length → l.length ≤ 1000 → acc.length + j ≤ 10000 →
    Ev (fun k => PFaultWraps.switchbackref02_Chain.l0 k l acc ((j : Int) - 1)) (acc ++ (l.take j).reverse) := by
  induction j with
  | zero =>
    intro l acc _ _ _
    refine Ev.step (fun k => PFaultWraps.switchbackref02_Chain.l0.eq_2 _ _ _ k) ?_
    refine Ev.congr (fun _ => if_neg (by omega)) ?_
    simpa using Ev.now acc
  | succ j ih =>
    intro l acc hj hl ha
    refine Ev.step (fun k => PFaultWraps.switchbackref02_Chain.l0.eq_2 _ _ _ k) ?_
    have e1 : ((j + 1 : Nat) : Int) - 1 = (j : Int) := by omega
    have e2 : wrap64 ((j : Int) - 1) = (j : Int) - 1 := by unfold wrap64; omega
    rw [e1, e2]
    refine Ev.congr (fun _ => (if_pos (by omega)).trans ((if_pos (by omega)).trans ((if_pos (by omega)).trans (if_pos (by omega))))) ?_
    have h := ih l (acc ++ [rdOf ByteArray.empty l (j : Int)]) (by omega) hl (by simp; omega)
    have e3 : l.take (j + 1) = l.take j ++ [rdOf ByteArray.empty l (j : Int)] := by
      rw [List.take_succ_eq_append_getElem (by omega)]
      congr 2
      simp [rdOf, List.getD_eq_getElem?_getD, show j < l.length from by omega]
    rw [e3, List.reverse_append]
    simpa using h

theorem chain_f (l : List ByteArray) (hl : l.length ≤ 1000) : ∃ k, PFaultWraps.switchbackref02_Chain.f k l = some l.reverse := by
  have h := chain_l0 l.length l [] (Nat.le_refl _) hl (by simp; omega)
  rw [List.take_length, List.nil_append] at h
  have e : wrap64 ((l.length : Int) - 1) = (l.length : Int) - 1 := by unfold wrap64; omega
  obtain ⟨k, hk⟩ := h.rounds
  refine ⟨k, ?_⟩
  unfold PFaultWraps.switchbackref02_Chain.f
  rw [e]
  exact hk

theorem lit_R (xs : List ByteArray) (hm : xs.length ≤ 9223372036854775807) (base : Nat) (W : World) (hb : base ≤ W.heap.size) :
    Kd.string.R 9 (W.alloc (.cells (encs Value.string xs).toArray 9)) base (fun _ => True) (.slice (some ⟨W.heap.size, 0, none⟩) xs.length xs.length) xs := by
  have h2 := World.ownsRow_lit (base := base) (e := 9) (size := 1) W (encs Value.string xs).toArray xs.length hb (by simpa [maxLen] using hm) (by simp [encs_length])
  exact Kd.R_of_own (by simpa using h2) (fun _ _ => trivial)

theorem take_snoc (l : List ByteArray) (k : Nat) (h : k < l.length) : l.take (k + 1) = l.take k ++ [rdOf ByteArray.empty l (k : Int)] := by
  rw [List.take_succ_eq_append_getElem h]
  congr 2
  simp [rdOf, List.getD_eq_getElem?_getD, h]

theorem same_len (A0 A1 : Option Addr) (c0 c1 n : Nat) (l : List ByteArray) (w : World) (hl : l.length = n) (h0 : Kd.string.C w A0 l.length l) (hc0 : l.length ≤ c0) (h1 : Kd.string.C w A1 l.length l) (hc1 : l.length ≤ c1) (hm : l.length < 9223372036854775807) :
    Calls Tryd.prog 12 #[.slice A0 n c0, .slice A1 n c1] w fun e w' => e = .returned (.bool true) ∧ Drawn0 w w' := by
  subst hl
  exact same_true A0 A1 c0 c1 l w h0 hc0 h1 hc1 hm

/-! ### The early ways -/
set_option maxHeartbeats 4000000 in
theorem wraps_long (e : Int) (s : ByteArray) (A : Option Addr) (cp : Nat) (ps : List ByteArray) (w : World) (hl : Laid w) (c1 : decide ((100 : Int) < (ps.length : Int)) = true) :
    Calls Tryd.prog 5 #[.int .i64 e, .string s, .slice A ps.length cp] w fun ev w' => ev = .returned (.bool true) ∧ Below w.heap.size w w' := by
  have HL := Aside0.mk hl
  clear hl
  go_enter Tryd.func5, Tryd.ntmps5
  go_wp2_with fail
  refine (awake_true _ HL.out).mono ?_
  rintro ev w1 ⟨rfl, b1⟩
  have HB1 := Aside0.mk b1
  clear b1
  go_wp2_with fail
  refine (awake_true _ (HL.out.below HB1.out)).mono ?_
  rintro ev w2 ⟨rfl, b2⟩
  have HB2 := Aside0.mk (below_step HB1.out b2)
  clear b2
  go_wp2_with fail
  go_ret
  exact ⟨rfl, HB2.out⟩
set_option maxHeartbeats 4000000 in
theorem wraps_wide (e : Int) (s : ByteArray) (A : Option Addr) (cp : Nat) (ps : List ByteArray) (w : World) (hl : Laid w) (c1 : decide ((100 : Int) < (ps.length : Int)) = false) (c2 : decide ((100 : Int) < (s.size : Int)) = true) :
    Calls Tryd.prog 5 #[.int .i64 e, .string s, .slice A ps.length cp] w fun ev w' => ev = .returned (.bool true) ∧ Below w.heap.size w w' := by
  have HL := Aside0.mk hl
  clear hl
  go_enter Tryd.func5, Tryd.ntmps5
  go_wp2_with fail
  refine (awake_true _ HL.out).mono ?_
  rintro ev w1 ⟨rfl, b1⟩
  have HB1 := Aside0.mk b1
  clear b1
  go_wp2_with fail
  refine (awake_true _ (HL.out.below HB1.out)).mono ?_
  rintro ev w2 ⟨rfl, b2⟩
  have HB2 := Aside0.mk (below_step HB1.out b2)
  clear b2
  go_wp2_with fail
  go_ret
  exact ⟨rfl, HB2.out⟩

/-! ### The number 0: no error at all -/
set_option maxHeartbeats 8000000 in
set_option maxRecDepth 100000 in
theorem wraps_zero (e : Int) (s : ByteArray) (A : Option Addr) (cp : Nat) (ps : List ByteArray) (w : World) (hl : Laid w) (hr : Kd.string.C w A ps.length ps) (hn : ps.length ≤ 100)
    (c1 : decide ((100 : Int) < (ps.length : Int)) = false) (c2 : decide ((100 : Int) < (s.size : Int)) = false) (c3 : (e == 0) = true) :
    Calls Tryd.prog 5 #[.int .i64 e, .string s, .slice A ps.length cp] w fun ev w' => ev = .returned (.bool true) ∧ Below w.heap.size w w' := by
  have HL := Aside0.mk hl
  have HR0 := Aside0.mk hr
  clear hl hr
  go_enter Tryd.func5, Tryd.ntmps5
  go_wp2_with fail
  refine (awake_true _ HL.out).mono ?_
  rintro ev w1 ⟨rfl, b1⟩
  have HB1 := Aside0.mk b1
  clear b1
  go_wp2_with fail
  refine (new_nil e s _ c3).mono ?_
  rintro ev w2 ⟨rfl, rfl⟩
  go_wp2_with fail
  go_loopg [7, 8, 31] ps.length (fun kq v7 v8 v31 wr => ∃ k : Nat, k ≤ ps.length ∧ kq = ps.length - k ∧ v31 = .int .i64 k ∧ v7 = .nilIface ∧ Aside0 (Kd.R Kd.string 9 wr w.heap.size (fun _ => True) v8 (s :: ps.take k)) ∧ Aside0 (Below w.heap.size w wr))
  case atStart => exact ⟨0, Nat.zero_le _, rfl, rfl, rfl, ⟨by rw [List.take_zero]; exact lit_R [s] (by simp) w.heap.size w2 HB1.out.size⟩, ⟨HB1.out.alloc HB1.out.size _⟩⟩
  case round =>
    obtain ⟨k, hk, hq, rfl, rfl, HR, HB⟩ := hrel
    have HQ := Aside0.mk hq
    clear HB1 hq
    by_cases hlt : k < ps.length
    · obtain ⟨ad, e0, hx⟩ := Kd.at_string HR0.out (k : Int) (by omega) (by omega)
      cases e0
      rw [Int.toNat_natCast] at hx
      have HS := Aside0.mk (take_snoc ps k hlt)
      obtain ⟨pk, hpk⟩ : ∃ q, rdOf ByteArray.empty ps (k : Int) = q := ⟨_, rfl⟩
      rw [hpk] at hx HS
      clear hpk
      replace hx := (HB.out.cell (World.block_lt_of_cell? w _ hx)).trans hx
      by_cases hz : 100 < pk.size
      · have c4 : decide ((100 : Int) < (pk.size : Int)) = true := decide_eq_true (by omega)
        clear hz
        go_wp2_with fail
        go_ret
        exact ⟨rfl, HB.out⟩
      · have c4 : decide ((100 : Int) < (pk.size : Int)) = false := decide_eq_false (by omega)
        clear hz
        have HN := Aside0.mk hn
        go_wp2_with (first
          | ((with_reducible refine gate_builtin (b := .append) (xs := #[.tmp 41, .tmp 43]) rfl ?_); at_builtin; refine Kd.R_append Kd.string (w0 := w) w.heap.size rfl (.tmp 41) (.tmp 43) 32 9 (.string ⟨#[]⟩) 16 rfl Tryd.underlying32 info9 rfl (by decide) (by omega) u8 (s :: ps.take k) pk [.string pk] (fun _ => True) (fun _ => False) rfl rfl ?aP (fun _ hk => hk.elim) ?aF ?aO ?aB ?aS ?aL ?_; (case aP => exact rfl); (case aF => exact fun _ _ => trivial); (case aO => exact HR.out); (case aB => exact HB.out); (case aS => exact HB.out.size); (case aL => have := HN.out; simp only [List.length_cons, List.length_take]; omega); intro v1 w3 ho hb hg hat
             have HO3 := Aside0.mk ho; have HB3 := Aside0.mk hb; clear ho hb hg hat)
          | (go_at_call 14; refine (wrap_nil pk _).mono ?_; rintro e w' ⟨rfl, rfl⟩))
        go_roundg (ps.length - (k + 1))
        case measure => have := HQ.out; omega
        case rel => exact ⟨k + 1, by omega, rfl, by go_num, rfl, ⟨by rw [HS.out]; exact HO3.out⟩, ⟨HB3.out⟩⟩
    · have HN := Aside0.mk hn
      go_wp2_with fail
      refine (code_nil _).mono ?_
      rintro ev w3 ⟨rfl, rfl⟩
      go_wp2_with fail
      refine (places_nil _).mono ?_
      rintro ev w4 ⟨rfl, b4⟩
      have HB4 := Aside0.mk (below_step HB.out b4)
      clear b4
      go_wp2_with fail
      refine (is_nil 0 _).mono ?_
      rintro ev w5 ⟨rfl, rfl⟩
      go_wp2_with fail
      go_ret
      exact ⟨rfl, HB4.out⟩
/-! ### Another number -/
set_option maxHeartbeats 8000000 in
set_option maxRecDepth 100000 in
theorem wraps_main (e : Int) (s : ByteArray) (A : Option Addr) (cp : Nat) (ps : List ByteArray) (w : World) (hl : Laid w) (hr : Kd.string.C w A ps.length ps) (hn : ps.length ≤ 100)
    (c1 : decide ((100 : Int) < (ps.length : Int)) = false) (c2 : decide ((100 : Int) < (s.size : Int)) = false) (c3 : (e == 0) = false) :
    Calls Tryd.prog 5 #[.int .i64 e, .string s, .slice A ps.length cp] w fun ev w' => ev = .returned (.bool true) ∧ Below w.heap.size w w' := by
  have HL := Aside0.mk hl
  have HR0 := Aside0.mk hr
  clear hl hr
  go_enter Tryd.func5, Tryd.ntmps5
  go_wp2_with fail
  refine (awake_true _ HL.out).mono ?_
  rintro ev w1 ⟨rfl, b1⟩
  have HB1 := Aside0.mk b1
  clear b1
  go_wp2_with fail
  refine (new_E e s _ c3).mono ?_
  rintro ev w2 ⟨x2, rfl, e2, b2⟩
  have HE2 := Aside0.mk e2
  have HB2 := Aside0.mk (below_step HB1.out b2)
  clear e2 b2 HB1
  go_wp2_with fail
  go_loopg [7, 8, 31] ps.length (fun kq v7 v8 v31 wr => ∃ (k : Nat) (x : Value), k ≤ ps.length ∧ kq = ps.length - k ∧ v31 = .int .i64 k ∧ v7 = .iface 42 x ∧ Aside0 (ErrV wr ((ps.take k).reverse ++ [s]) e (.iface 42 x)) ∧ Aside0 (Kd.R Kd.string 9 wr w.heap.size (fun _ => True) v8 (s :: ps.take k)) ∧ Aside0 (Below w.heap.size w wr))
  case atStart => exact ⟨0, x2, Nat.zero_le _, rfl, rfl, rfl, ⟨HE2.out.below ((Below.refl _ _).alloc (Nat.le_refl _) _)⟩, ⟨by rw [List.take_zero]; exact lit_R [s] (by simp) w.heap.size w2 HB2.out.size⟩, ⟨HB2.out.alloc HB2.out.size _⟩⟩
  case round =>
    obtain ⟨k, x, hk, hq, rfl, rfl, HE, HR, HB⟩ := hrel
    have HQ := Aside0.mk hq
    clear HB2 HE2 hq
    by_cases hlt : k < ps.length
    · obtain ⟨ad, e0, hx⟩ := Kd.at_string HR0.out (k : Int) (by omega) (by omega)
      cases e0
      rw [Int.toNat_natCast] at hx
      have HS := Aside0.mk (take_snoc ps k hlt)
      obtain ⟨pk, hpk⟩ : ∃ q, rdOf ByteArray.empty ps (k : Int) = q := ⟨_, rfl⟩
      rw [hpk] at hx HS
      clear hpk
      replace hx := (HB.out.cell (World.block_lt_of_cell? w _ hx)).trans hx
      by_cases hz : 100 < pk.size
      · have c4 : decide ((100 : Int) < (pk.size : Int)) = true := decide_eq_true (by omega)
        clear hz
        go_wp2_with fail
        go_ret
        exact ⟨rfl, HB.out⟩
      · have c4 : decide ((100 : Int) < (pk.size : Int)) = false := decide_eq_false (by omega)
        clear hz
        have HN := Aside0.mk hn
        go_wp2_with (first
          | ((with_reducible refine gate_builtin (b := .append) (xs := #[.tmp 41, .tmp 43]) rfl ?_); at_builtin; refine Kd.R_append Kd.string (w0 := w) w.heap.size rfl (.tmp 41) (.tmp 43) 32 9 (.string ⟨#[]⟩) 16 rfl Tryd.underlying32 info9 rfl (by decide) (by omega) u8 (s :: ps.take k) pk [.string pk] (fun _ => True) (fun _ => False) rfl rfl ?aP (fun _ hk => hk.elim) ?aF ?aO ?aB ?aS ?aL ?_; (case aP => exact rfl); (case aF => exact fun _ _ => trivial); (case aO => exact HRa.out); (case aB => exact HBa.out); (case aS => exact HBa.out.size); (case aL => have := HN.out; simp only [List.length_cons, List.length_take]; omega); intro v1 w3 ho hb hg hat
             have HG3 := Aside0.mk hg; have HO3 := Aside0.mk ho; have HB3 := Aside0.mk hb; clear ho hb hg hat)
          | (go_at_call 14; refine (wrap_E _ e 42 x pk _ HE.out).mono ?_; rintro ev wa ⟨xa, rfl, ea, ba⟩
             have HEa := Aside0.mk ea; have HBa := Aside0.mk (below_step HB.out ba); have HRa := Aside0.mk (Kd.R_below HR.out ba); clear ea ba))
        go_roundg (ps.length - (k + 1))
        case measure => have := HQ.out; omega
        case rel =>
          refine ⟨k + 1, xa, by omega, rfl, by go_num, rfl, ⟨?_⟩, ⟨by rw [HS.out]; exact HO3.out⟩, ⟨HB3.out⟩⟩
          rw [HS.out, List.reverse_append]
          exact HEa.out.mono fun q cs hq => by rw [HG3.out.block q (lt_of_block hq) (Kd.R_ne HRa.out hq (by decide))]; exact hq
    · have hke : k = ps.length := by omega
      subst hke
      rw [List.take_length] at HE HR
      have HN := Aside0.mk hn
      clear hk hlt HQ
      have HLr := Aside0.mk (HL.out.below HB.out)
      go_wp2_with fail
      refine (code_ok _ e 42 x _ HE.out HLr.out).mono ?_
      rintro ev w3 ⟨rfl, b3⟩
      have HE3 := Aside0.mk (HE.out.below b3)
      have HR3 := Aside0.mk (Kd.R_below HR.out b3)
      have HB3 := Aside0.mk (below_step HB.out b3)
      have HL3 := Aside0.mk (HL.out.below HB3.out)
      clear b3 HE HR HB HLr
      go_wp2_with fail
      refine (is_ok _ e 42 x e _ HE3.out HL3.out).mono ?_
      rintro ev w4 ⟨rfl, b4⟩
      have HE4 := Aside0.mk (HE3.out.below b4)
      have HR4 := Aside0.mk (Kd.R_below HR3.out b4)
      have HB4 := Aside0.mk (below_step HB3.out b4)
      have HL4 := Aside0.mk (HL.out.below HB4.out)
      clear b4 HE3 HR3 HB3 HL3
      go_wp2_with fail
      refine (is_ok _ e 42 x 0 _ HE4.out HL4.out).mono ?_
      rintro ev w5 ⟨rfl, b5⟩
      have HE5 := Aside0.mk (HE4.out.below b5)
      have HR5 := Aside0.mk (Kd.R_below HR4.out b5)
      have HB5 := Aside0.mk (below_step HB4.out b5)
      have HL5 := Aside0.mk (HL.out.below HB5.out)
      clear b5 HE4 HR4 HB4 HL4
      go_wp2_with fail
      refine (places_ok _ e 42 x _ HE5.out HL5.out (by have := HN.out; simp; omega)).mono ?_
      rintro ev w6 ⟨v6, rfl, r6, b6⟩
      obtain ⟨A6, c6, rfl⟩ := Kd.R_slice r6
      have HP6 := Aside0.mk (Kd.R_reads' r6).2
      have HR6 := Aside0.mk (Kd.R_below HR5.out b6)
      have HB6 := Aside0.mk (below_step HB5.out b6)
      clear b6 r6 HE5 HR5 HB5 HL5
      obtain ⟨A8, c8, rfl⟩ := Kd.R_slice HR6.out
      obtain ⟨kc, hkc⟩ := chain_f (s :: ps) (by have := HN.out; simp; omega)
      have HKC := Aside0.mk hkc
      clear hkc
      go_wp2_with fail
      refine (PFaultWraps.switchbackref02_Chain.calls kc A8 c8 (s :: ps) _ _ (Kd.R_reads' HR6.out).2.2 (Kd.R_reads' HR6.out).2.1 HKC.out).mono ?_
      rintro ev w7 ⟨v7, rfl, r7, b7⟩
      obtain ⟨A7, c7, rfl⟩ := Kd.R_slice r7
      have HP7 := Aside0.mk (Kd.C_below HP6.out.2 b7)
      have HC7 := Aside0.mk (Kd.R_reads' r7).2
      have HB7 := Aside0.mk (below_step HB6.out b7)
      clear b7 r7 HR6 HB6
      go_wp2_with fail
      refine (same_len A6 A7 c6 c7 (ps.length + 1) (ps.reverse ++ [s]) _ (by simp) HP7.out HP6.out.1 (by have h := HC7.out.2; rw [List.reverse_cons] at h; exact h) (by have h := HC7.out.1; rw [List.reverse_cons] at h; exact h) (by have := HN.out; simp; omega)).mono ?_
      rintro ev w8 ⟨rfl, hd⟩
      have HB8 := Aside0.mk (below_step HB7.out hd.below)
      clear hd
      go_wp2_with fail
      go_ret
      exact ⟨rfl, HB8.out⟩

theorem wraps_any (e : Int) (s : ByteArray) (A : Option Addr) (cp : Nat) (ps : List ByteArray) (w : World) (hl : Laid w) (hr : Kd.string.C w A ps.length ps) (_hc : ps.length ≤ cp) :
    Calls Tryd.prog 5 #[.int .i64 e, .string s, .slice A ps.length cp] w fun ev w' => ev = .returned (.bool true) ∧ Below w.heap.size w w' := by
  by_cases hn : 100 < ps.length
  · exact wraps_long e s A cp ps w hl (decide_eq_true (by omega))
  have c1 : decide ((100 : Int) < (ps.length : Int)) = false := decide_eq_false (by omega)
  by_cases hz : 100 < s.size
  · exact wraps_wide e s A cp ps w hl c1 (decide_eq_true (by omega))
  have c2 : decide ((100 : Int) < (s.size : Int)) = false := decide_eq_false (by omega)
  by_cases he : e = 0
  · exact wraps_zero e s A cp ps w hl hr (by omega) c1 c2 (beq_iff_eq.2 he)
  · exact wraps_main e s A cp ps w hl hr (by omega) c1 c2 (beq_eq_false_iff_ne.2 he)
end Go.Proofs.YtdldfjanilagiaaDoor
