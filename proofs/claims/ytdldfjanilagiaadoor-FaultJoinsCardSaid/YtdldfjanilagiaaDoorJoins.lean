/- The walk of switchbacklaw02.FaultJoins: it answers true. The condition: the variable errors.errorType holds the type error. -/
import Derived.Test.YtdldfjanilagiaaDoorMade
import Derived.Deep.RegionHeld3
import Derived.Deep.DrawnRows
namespace Go.Proofs.YtdldfjanilagiaaDoor
open Go.RowKit Go.Extern.Stop Go.Stop Go.Extern
open Go.Proofs.YtdldfjanilagiaaDoorW.PrintWords Go.Proofs.YtdldfjanilagiaaDoorW.PrintLast Go.Proofs.YtdldfjanilagiaaDoorW.PrintMore

attribute [local go_sem ↓] Go.wp_at_zero Go.wp_at_succ

theorem firstE_append (a b : List (Option (TypeId × Value))) : firstE (a ++ b) = firstE [firstE a, firstE b] := by
  induction a with
  | nil => cases h : firstE b <;> simp [firstE, h]
  | cons x a ih =>
    cases x with
    | none => exact ih
    | some p => rfl

theorem join_n (A : Option Addr) (cp n : Nat) (es : List (Option (TypeId × Value))) (w : World) (hn : es.length = n) (hr : errKd.C w A es.length es) :
    Calls Tryd.prog 10 #[.slice A n cp] w fun ev w' => ev = .returned (errEnc (firstE es)) ∧ w' = w := by
  subst hn
  exact join_any A cp es w hr

theorem join_none (A : Option Addr) (cp n : Nat) (es : List (Option (TypeId × Value))) (w : World) (hf : firstE es = none) (hn : es.length = n) (hr : errKd.C w A es.length es) :
    Calls Tryd.prog 10 #[.slice A n cp] w fun ev w' => ev = .returned .nilIface ∧ w' = w := by
  refine (join_n A cp n es w hn hr).mono ?_
  rintro ev w' ⟨rfl, rfl⟩
  rw [hf]
  exact ⟨rfl, rfl⟩
theorem join_some (A : Option Addr) (cp n : Nat) (es : List (Option (TypeId × Value))) (w : World) (ty : TypeId) (x : Value) (hf : firstE es = some (ty, x)) (hn : es.length = n) (hr : errKd.C w A es.length es) :
    Calls Tryd.prog 10 #[.slice A n cp] w fun ev w' => ev = .returned (.iface ty x) ∧ w' = w := by
  refine (join_n A cp n es w hn hr).mono ?_
  rintro ev w' ⟨rfl, rfl⟩
  rw [hf]
  exact ⟨rfl, rfl⟩

theorem lit_E (xs : List (Option (TypeId × Value))) (hm : xs.length ≤ 9223372036854775807) (W : World) : errKd.C (W.alloc (.cells (encs errEnc xs).toArray 26)) (some ⟨W.heap.size, 0, none⟩) xs.length xs := by
  have h2 := World.ownsRow_lit (base := 0) (e := 26) (size := 1) W (encs errEnc xs).toArray xs.length (Nat.zero_le _) (by simpa [maxLen] using hm) (by simp [encs_length])
  have h3 : errKd.R 26 _ 0 (fun _ => True) _ xs := Kd.R_of_own (by simpa using h2) (fun _ _ => trivial)
  exact (Kd.R_reads' h3).2.2

theorem sized26 : ∃ i, Tryd.prog.info? 26 = some i ∧ i.size = 1 := by
  obtain ⟨i, hi, h⟩ := Option.map_eq_some_iff.1 info26
  simp only [Prod.mk.injEq] at h
  exact ⟨i, hi, h.2.1⟩

set_option maxHeartbeats 8000000 in
set_option maxRecDepth 100000 in
theorem joins_main (A : Option Addr) (cp : Nat) (l : List Int) (at_ : Int) (w : World) (hl : Laid w) (hr : (Kd.int .i64).C w A l.length l) (hn : l.length ≤ 50)
    (c1 : decide ((50 : Int) < (l.length : Int)) = false) (h0 : 0 ≤ at_) (h1 : at_ ≤ (l.length : Int)) (c2 : decide (at_ < 0) = false) (c3 : decide ((l.length : Int) < at_) = false) :
    Calls Tryd.prog 4 #[.slice A l.length cp, .int .i64 at_] w fun ev w' => ev = .returned (.bool true) ∧ Below w.heap.size w w' := by
  have HL := Aside0.mk hl
  have HR0 := Aside0.mk hr
  have HI := Aside0.mk (And.intro h0 h1)
  clear hl hr h0 h1
  go_enter Tryd.func4, Tryd.ntmps4
  go_wp2_with fail
  refine (awake_true _ HL.out).mono ?_
  rintro ev w1 ⟨rfl, b1⟩
  have HB1 := Aside0.mk b1
  clear b1
  go_wp2_with fail
  go_loopg [5, 28] l.length (fun kq v5 v28 wr => ∃ (k : Nat) (es : List (Option (TypeId × Value))), k ≤ l.length ∧ kq = l.length - k ∧ v28 = .int .i64 k ∧ Aside0 (Made wr ⟨#[120]⟩ (l.take k) es) ∧ Aside0 (errKd.R 26 wr w.heap.size (fun _ => True) v5 es) ∧ Aside0 (Below w.heap.size w wr))
  case atStart => exact ⟨0, [], Nat.zero_le _, rfl, rfl, ⟨rfl⟩, ⟨Kd.R_nil _ _ _ _ _⟩, ⟨HB1.out⟩⟩
  case round =>
    obtain ⟨k, es, hk, hq, rfl, HM, HR, HB⟩ := hrel
    have HQ := Aside0.mk hq
    clear HB1 hq
    by_cases hlt : k < l.length
    · obtain ⟨ad, e0, hx⟩ := Kd.at_int HR0.out (k : Int) (by omega) (by omega)
      cases e0
      rw [Int.toNat_natCast] at hx
      have HS := Aside0.mk (take_snoc_int l k hlt)
      obtain ⟨e, he⟩ : ∃ q, rd l (k : Int) = q := ⟨_, rfl⟩
      rw [he] at hx HS
      clear he
      replace hx := (HB.out.cell (World.block_lt_of_cell? w _ hx)).trans hx
      have hle : es.length ≤ 50 := by have := HM.out.length; rw [List.length_take] at this; omega
      have HN := Aside0.mk hn
      by_cases hz : e = 0
      · have c4 : (e == 0) = true := beq_iff_eq.2 hz
        have HZ := Aside0.mk hz
        clear hz
        go_wp2_with (first
          | ((with_reducible refine gate_builtin (b := .append) (xs := #[.tmp 32, .tmp 35]) rfl ?_); at_builtin; refine Kd.R_append errKd (w0 := w) w.heap.size rfl (.tmp 32) (.tmp 35) 24 26 .nilIface 16 rfl Tryd.underlying24 info26 rfl (by decide) (by omega) u5 es none [.nilIface] (fun _ => True) (fun _ => False) rfl rfl ?aP (fun _ hk => hk.elim) ?aF ?aO ?aB ?aS ?aL ?_; (case aP => exact rfl); (case aF => exact fun _ _ => trivial); (case aO => exact HR.out); (case aB => exact HB.out); (case aS => exact HB.out.size); (case aL => omega); intro v1 w3 ho hb hg hat
             have HG3 := Aside0.mk hg; have HO3 := Aside0.mk ho; have HB3 := Aside0.mk hb; clear ho hb hg hat)
          | (go_at_call 9; refine (new_nil e ⟨#[120]⟩ _ c4).mono ?_; rintro ev w' ⟨rfl, rfl⟩))
        go_roundg (l.length - (k + 1))
        case measure => have := HQ.out; omega
        case rel =>
          refine ⟨k + 1, es ++ [none], by omega, rfl, by go_num, ⟨?_⟩, ⟨HO3.out⟩, ⟨HB3.out⟩⟩
          rw [HS.out]
          exact (HM.out.mono fun q cs hq => by rw [HG3.out.block q (lt_of_block hq) (Kd.R_ne HR.out hq (by decide))]; exact hq).snoc (.inl ⟨HZ.out, rfl⟩)
      · have c4 : (e == 0) = false := beq_eq_false_iff_ne.2 hz
        have HZ := Aside0.mk hz
        clear hz
        go_wp2_with (first
          | ((with_reducible refine gate_builtin (b := .append) (xs := #[.tmp 32, .tmp 35]) rfl ?_); at_builtin; refine Kd.R_append errKd (w0 := w) w.heap.size rfl (.tmp 32) (.tmp 35) 24 26 .nilIface 16 rfl Tryd.underlying24 info26 rfl (by decide) (by omega) u5 es (some (42, xa)) [.iface 42 xa] (fun _ => True) (fun _ => False) rfl rfl ?aP (fun _ hk => hk.elim) ?aF ?aO ?aB ?aS ?aL ?_; (case aP => exact rfl); (case aF => exact fun _ _ => trivial); (case aO => exact HRa.out); (case aB => exact HBa.out); (case aS => exact HBa.out.size); (case aL => omega); intro v1 w3 ho hb hg hat
             have HG3 := Aside0.mk hg; have HO3 := Aside0.mk ho; have HB3 := Aside0.mk hb; clear ho hb hg hat)
          | (go_at_call 9; refine (new_E e ⟨#[120]⟩ _ c4).mono ?_; rintro ev wa ⟨xa, rfl, ea, ba⟩
             have HEa := Aside0.mk ea; have HBa := Aside0.mk (below_step HB.out ba); have HRa := Aside0.mk (Kd.R_below HR.out ba); have HMa := Aside0.mk (HM.out.below ba); clear ea ba))
        go_roundg (l.length - (k + 1))
        case measure => have := HQ.out; omega
        case rel =>
          have hst : ∀ (q : Nat) (cs : Array Value), wa.heap[q]? = some (Obj.cells cs 45 (0, 0)) → w3.heap[q]? = some (Obj.cells cs 45 (0, 0)) := fun q cs hq => by rw [HG3.out.block q (lt_of_block hq) (Kd.R_ne HRa.out hq (by decide))]; exact hq
          refine ⟨k + 1, es ++ [some (42, xa)], by omega, rfl, by go_num, ⟨?_⟩, ⟨HO3.out⟩, ⟨HB3.out⟩⟩
          rw [HS.out]
          exact (HMa.out.mono hst).snoc (.inr ⟨HZ.out, xa, rfl, HEa.out.mono hst⟩)
    · have hke : k = l.length := by omega
      subst hke
      rw [List.take_length] at HM
      have hlen := HM.out.length
      clear hk hlt HQ
      obtain ⟨A5, c5, rfl⟩ := Kd.R_slice HR.out
      have HP := Aside0.mk (Kd.R_reads' HR.out).2
      have HLr := Aside0.mk (HL.out.below HB.out)
      clear HR
      obtain ⟨i26, hi26, hsz26⟩ := sized26
      have hat1 := HI.out.1
      have hat2 : at_ ≤ (es.length : Int) := by rw [hlen]; exact HI.out.2
      obtain ⟨t1, t2, t3⟩ := print_take_of (P := Tryd.prog) errEnc none 24 26 .i64 Tryd.underlying24 hi26 hsz26 A5 c5 es at_ hat1 hat2 HP.out.1
      obtain ⟨A6, d1, d2, d3⟩ := print_drop_of (P := Tryd.prog) errEnc none 24 26 .i64 Tryd.underlying24 hi26 hsz26 A5 c5 es at_ hat1 hat2 HP.out.1
      have HT := Aside0.mk (Kd.C_of_reads (h1 := errEnc_one) (t2 wr (Kd.reads_of_C (d := none) HP.out.2)))
      have HD := Aside0.mk (Kd.C_of_reads (h1 := errEnc_one) (d2 wr (Kd.reads_of_C (d := none) HP.out.2)))
      have HF := Aside0.mk (firstE_append (es.take at_.toNat) (es.drop at_.toNat))
      rw [List.take_append_drop] at HF
      obtain ⟨ta, hta⟩ : ∃ q, es.take at_.toNat = q := ⟨_, rfl⟩
      obtain ⟨tb, htb⟩ : ∃ q, es.drop at_.toNat = q := ⟨_, rfl⟩
      rw [hta] at t1 HT HF
      rw [htb] at d1 HD HF
      clear hta htb t2 d2 t3 d3 hat1 hat2 hlen hi26 hsz26
      obtain ⟨n0, hn0⟩ : ∃ q, es.length = q := ⟨_, rfl⟩
      obtain ⟨na, hna⟩ : ∃ q, ta.length = q := ⟨_, rfl⟩
      obtain ⟨nb, hnb⟩ : ∃ q, tb.length = q := ⟨_, rfl⟩
      rw [hn0, hna] at t1
      rw [hn0, hnb] at d1
      rw [hn0]
      have HN0 := Aside0.mk hn0
      have HNa := Aside0.mk hna
      have HNb := Aside0.mk hnb
      clear hn0 hna hnb
      have HM' := Aside0.mk HM.out.first
      clear HM HR0 HI
      obtain ⟨pa, hpa⟩ : ∃ q, firstE ta = q := ⟨_, rfl⟩
      obtain ⟨pb, hpb⟩ : ∃ q, firstE tb = q := ⟨_, rfl⟩
      rw [hpa, hpb] at HF
      have HPa := Aside0.mk hpa
      have HPb := Aside0.mk hpb
      clear hpa hpb
      go_wp2_with fail
      cases pa with
      | none =>
        cases pb with
        | none =>
          have HF' : Aside0 (firstE es = none) := ⟨HF.out⟩
          clear HF HM'
          go_region_held3 (fun _ => True) (trivial) (first
            | (go_at_call 10; first | ((with_reducible refine (join_none A5 c5 n0 es _ HF'.out HN0.out ?_).mono ?_); (exact Kd.C_below HP.out.2 (by repeat (first | (with_reducible exact HBa.out) | (with_reducible exact Below.refl _ _) | apply below_alloc | apply below_drew1 | apply pw_below_drewN))); rintro e w' ⟨rfl, rfl⟩) | ((with_reducible refine (join_none A5 c5 na ta _ HPa.out HNa.out ?_).mono ?_); (exact Kd.C_below HT.out (by repeat (first | (with_reducible exact HBa.out) | (with_reducible exact Below.refl _ _) | apply below_alloc | apply below_drew1 | apply pw_below_drewN))); rintro e w' ⟨rfl, rfl⟩) | ((with_reducible refine (join_none A6 _ nb tb _ HPb.out HNb.out ?_).mono ?_); (exact Kd.C_below HD.out (by repeat (first | (with_reducible exact HBa.out) | (with_reducible exact Below.refl _ _) | apply below_alloc | apply below_drew1 | apply pw_below_drewN))); rintro e w' ⟨rfl, rfl⟩) | ((with_reducible refine (join_none (some ⟨_, 0, none⟩) 2 2 [none, none] _ rfl rfl ?_).mono ?_); (exact lit_E [none, none] (by simp) _); rintro e w' ⟨rfl, rfl⟩))
            | (go_at_call 11; ((with_reducible refine (code_nil _).mono ?_); rintro e w' ⟨rfl, rfl⟩)))
          go_wp2
          go_ret
          exact ⟨rfl, below_step HB.out (by repeat (first | (with_reducible exact HBa.out) | (with_reducible exact Below.refl _ _) | apply below_alloc | apply below_drew1 | apply pw_below_drewN))⟩
        | some q =>
          obtain ⟨tb_, xb_⟩ := q
          have hf : firstE es = some (tb_, xb_) := HF.out
          rcases HM'.out with ⟨_, h⟩ | ⟨_, y, h, hE⟩
          · rw [hf] at h; cases h
          rw [hf] at h
          obtain ⟨e1, e2⟩ := Prod.mk.inj (Option.some.inj h)
          subst e1
          subst e2
          have HF' := Aside0.mk hf
          have HE := Aside0.mk hE
          obtain ⟨c, hcc⟩ : ∃ q, wantOf l = q := ⟨_, rfl⟩
          rw [hcc] at HE
          clear HF HM' hf hE hcc h
          go_region_held3 (fun _ => True) (trivial) (first
            | (go_at_call 10; first | ((with_reducible refine (join_some A5 c5 n0 es _ 42 xb_ HF'.out HN0.out ?_).mono ?_); (exact Kd.C_below HP.out.2 (by repeat (first | (with_reducible exact HBa.out) | (with_reducible exact Below.refl _ _) | apply below_alloc | apply below_drew1 | apply pw_below_drewN))); rintro e w' ⟨rfl, rfl⟩) | ((with_reducible refine (join_none A5 c5 na ta _ HPa.out HNa.out ?_).mono ?_); (exact Kd.C_below HT.out (by repeat (first | (with_reducible exact HBa.out) | (with_reducible exact Below.refl _ _) | apply below_alloc | apply below_drew1 | apply pw_below_drewN))); rintro e w' ⟨rfl, rfl⟩) | ((with_reducible refine (join_some A6 _ nb tb _ 42 xb_ HPb.out HNb.out ?_).mono ?_); (exact Kd.C_below HD.out (by repeat (first | (with_reducible exact HBa.out) | (with_reducible exact Below.refl _ _) | apply below_alloc | apply below_drew1 | apply pw_below_drewN))); rintro e w' ⟨rfl, rfl⟩) | ((with_reducible refine (join_some (some ⟨_, 0, none⟩) 2 2 [none, some (42, xb_)] _ 42 xb_ rfl rfl ?_).mono ?_); (exact lit_E [none, some (42, xb_)] (by simp) _); rintro e w' ⟨rfl, rfl⟩))
            | (go_at_call 11; ((with_reducible refine (code_ok [⟨#[120]⟩] c 42 xb_ _ ?_ ?_).mono ?_); (exact HE.out.below (by repeat (first | (with_reducible exact HBa.out) | (with_reducible exact Below.refl _ _) | apply below_alloc | apply below_drew1 | apply pw_below_drewN))); (exact HLr.out.below (by repeat (first | (with_reducible exact HBa.out) | (with_reducible exact Below.refl _ _) | apply below_alloc | apply below_drew1 | apply pw_below_drewN))); rintro e wa ⟨rfl, hb⟩; have HBx := Aside0.mk (below_step (w := wr) (by repeat (first | (with_reducible exact HBa.out) | (with_reducible exact Below.refl _ _) | apply below_alloc | apply below_drew1 | apply pw_below_drewN)) hb); (try clear HBa); have HBa := HBx; clear HBx hb)))
          go_wp2
          go_ret
          exact ⟨by simp, below_step HB.out (by repeat (first | (with_reducible exact HBa.out) | (with_reducible exact Below.refl _ _) | apply below_alloc | apply below_drew1 | apply pw_below_drewN))⟩
      | some q =>
        obtain ⟨ta_, xa_⟩ := q
        cases pb with
        | none =>
          have hf : firstE es = some (ta_, xa_) := HF.out
          rcases HM'.out with ⟨_, h⟩ | ⟨_, y, h, hE⟩
          · rw [hf] at h; cases h
          rw [hf] at h
          obtain ⟨e1, e2⟩ := Prod.mk.inj (Option.some.inj h)
          subst e1
          subst e2
          have HF' := Aside0.mk hf
          have HE := Aside0.mk hE
          obtain ⟨c, hcc⟩ : ∃ q, wantOf l = q := ⟨_, rfl⟩
          rw [hcc] at HE
          clear HF HM' hf hE hcc h
          go_region_held3 (fun _ => True) (trivial) (first
            | (go_at_call 10; first | ((with_reducible refine (join_some A5 c5 n0 es _ 42 xa_ HF'.out HN0.out ?_).mono ?_); (exact Kd.C_below HP.out.2 (by repeat (first | (with_reducible exact HBa.out) | (with_reducible exact Below.refl _ _) | apply below_alloc | apply below_drew1 | apply pw_below_drewN))); rintro e w' ⟨rfl, rfl⟩) | ((with_reducible refine (join_some A5 c5 na ta _ 42 xa_ HPa.out HNa.out ?_).mono ?_); (exact Kd.C_below HT.out (by repeat (first | (with_reducible exact HBa.out) | (with_reducible exact Below.refl _ _) | apply below_alloc | apply below_drew1 | apply pw_below_drewN))); rintro e w' ⟨rfl, rfl⟩) | ((with_reducible refine (join_none A6 _ nb tb _ HPb.out HNb.out ?_).mono ?_); (exact Kd.C_below HD.out (by repeat (first | (with_reducible exact HBa.out) | (with_reducible exact Below.refl _ _) | apply below_alloc | apply below_drew1 | apply pw_below_drewN))); rintro e w' ⟨rfl, rfl⟩) | ((with_reducible refine (join_some (some ⟨_, 0, none⟩) 2 2 [some (42, xa_), none] _ 42 xa_ rfl rfl ?_).mono ?_); (exact lit_E [some (42, xa_), none] (by simp) _); rintro e w' ⟨rfl, rfl⟩))
            | (go_at_call 11; ((with_reducible refine (code_ok [⟨#[120]⟩] c 42 xa_ _ ?_ ?_).mono ?_); (exact HE.out.below (by repeat (first | (with_reducible exact HBa.out) | (with_reducible exact Below.refl _ _) | apply below_alloc | apply below_drew1 | apply pw_below_drewN))); (exact HLr.out.below (by repeat (first | (with_reducible exact HBa.out) | (with_reducible exact Below.refl _ _) | apply below_alloc | apply below_drew1 | apply pw_below_drewN))); rintro e wa ⟨rfl, hb⟩; have HBx := Aside0.mk (below_step (w := wr) (by repeat (first | (with_reducible exact HBa.out) | (with_reducible exact Below.refl _ _) | apply below_alloc | apply below_drew1 | apply pw_below_drewN)) hb); (try clear HBa); have HBa := HBx; clear HBx hb)))
          go_wp2
          go_ret
          exact ⟨by simp, below_step HB.out (by repeat (first | (with_reducible exact HBa.out) | (with_reducible exact Below.refl _ _) | apply below_alloc | apply below_drew1 | apply pw_below_drewN))⟩
        | some q =>
          obtain ⟨tb_, xb_⟩ := q
          have hf : firstE es = some (ta_, xa_) := HF.out
          rcases HM'.out with ⟨_, h⟩ | ⟨_, y, h, hE⟩
          · rw [hf] at h; cases h
          rw [hf] at h
          obtain ⟨e1, e2⟩ := Prod.mk.inj (Option.some.inj h)
          subst e1
          subst e2
          have HF' := Aside0.mk hf
          have HE := Aside0.mk hE
          obtain ⟨c, hcc⟩ : ∃ q, wantOf l = q := ⟨_, rfl⟩
          rw [hcc] at HE
          clear HF HM' hf hE hcc h
          go_region_held3 (fun _ => True) (trivial) (first
            | (go_at_call 10; first | ((with_reducible refine (join_some A5 c5 n0 es _ 42 xa_ HF'.out HN0.out ?_).mono ?_); (exact Kd.C_below HP.out.2 (by repeat (first | (with_reducible exact HBa.out) | (with_reducible exact Below.refl _ _) | apply below_alloc | apply below_drew1 | apply pw_below_drewN))); rintro e w' ⟨rfl, rfl⟩) | ((with_reducible refine (join_some A5 c5 na ta _ 42 xa_ HPa.out HNa.out ?_).mono ?_); (exact Kd.C_below HT.out (by repeat (first | (with_reducible exact HBa.out) | (with_reducible exact Below.refl _ _) | apply below_alloc | apply below_drew1 | apply pw_below_drewN))); rintro e w' ⟨rfl, rfl⟩) | ((with_reducible refine (join_some A6 _ nb tb _ tb_ xb_ HPb.out HNb.out ?_).mono ?_); (exact Kd.C_below HD.out (by repeat (first | (with_reducible exact HBa.out) | (with_reducible exact Below.refl _ _) | apply below_alloc | apply below_drew1 | apply pw_below_drewN))); rintro e w' ⟨rfl, rfl⟩) | ((with_reducible refine (join_some (some ⟨_, 0, none⟩) 2 2 [some (42, xa_), some (tb_, xb_)] _ 42 xa_ rfl rfl ?_).mono ?_); (exact lit_E [some (42, xa_), some (tb_, xb_)] (by simp) _); rintro e w' ⟨rfl, rfl⟩))
            | (go_at_call 11; ((with_reducible refine (code_ok [⟨#[120]⟩] c 42 xa_ _ ?_ ?_).mono ?_); (exact HE.out.below (by repeat (first | (with_reducible exact HBa.out) | (with_reducible exact Below.refl _ _) | apply below_alloc | apply below_drew1 | apply pw_below_drewN))); (exact HLr.out.below (by repeat (first | (with_reducible exact HBa.out) | (with_reducible exact Below.refl _ _) | apply below_alloc | apply below_drew1 | apply pw_below_drewN))); rintro e wa ⟨rfl, hb⟩; have HBx := Aside0.mk (below_step (w := wr) (by repeat (first | (with_reducible exact HBa.out) | (with_reducible exact Below.refl _ _) | apply below_alloc | apply below_drew1 | apply pw_below_drewN)) hb); (try clear HBa); have HBa := HBx; clear HBx hb)))
          go_wp2
          go_ret
          exact ⟨by simp, below_step HB.out (by repeat (first | (with_reducible exact HBa.out) | (with_reducible exact Below.refl _ _) | apply below_alloc | apply below_drew1 | apply pw_below_drewN))⟩

set_option maxHeartbeats 4000000 in
theorem joins_long (A : Option Addr) (cp : Nat) (l : List Int) (at_ : Int) (w : World) (hl : Laid w) (c1 : decide ((50 : Int) < (l.length : Int)) = true) :
    Calls Tryd.prog 4 #[.slice A l.length cp, .int .i64 at_] w fun ev w' => ev = .returned (.bool true) ∧ Below w.heap.size w w' := by
  have HL := Aside0.mk hl
  clear hl
  go_enter Tryd.func4, Tryd.ntmps4
  go_wp2_with fail
  refine (awake_true _ HL.out).mono ?_
  rintro ev w1 ⟨rfl, b1⟩
  have HB1 := Aside0.mk b1
  clear b1
  go_wp2_with fail
  refine (awake_true _ (HL.out.below HB1.out)).mono ?_
  rintro ev w2 ⟨rfl, b2⟩
  have HB2 := Aside0.mk (below_step HB1.out b2)
  clear b2
  go_wp2_with fail
  go_ret
  exact ⟨rfl, HB2.out⟩

set_option maxHeartbeats 4000000 in
theorem joins_low (A : Option Addr) (cp : Nat) (l : List Int) (at_ : Int) (w : World) (hl : Laid w) (c1 : decide ((50 : Int) < (l.length : Int)) = false) (c2 : decide (at_ < 0) = true) :
    Calls Tryd.prog 4 #[.slice A l.length cp, .int .i64 at_] w fun ev w' => ev = .returned (.bool true) ∧ Below w.heap.size w w' := by
  have HL := Aside0.mk hl
  clear hl
  go_enter Tryd.func4, Tryd.ntmps4
  go_wp2_with fail
  refine (awake_true _ HL.out).mono ?_
  rintro ev w1 ⟨rfl, b1⟩
  have HB1 := Aside0.mk b1
  clear b1
  go_wp2_with fail
  refine (awake_true _ (HL.out.below HB1.out)).mono ?_
  rintro ev w2 ⟨rfl, b2⟩
  have HB2 := Aside0.mk (below_step HB1.out b2)
  clear b2
  go_wp2_with fail
  go_ret
  exact ⟨rfl, HB2.out⟩

set_option maxHeartbeats 4000000 in
theorem joins_high (A : Option Addr) (cp : Nat) (l : List Int) (at_ : Int) (w : World) (hl : Laid w) (c1 : decide ((50 : Int) < (l.length : Int)) = false) (c2 : decide (at_ < 0) = false) (c3 : decide ((l.length : Int) < at_) = true) :
    Calls Tryd.prog 4 #[.slice A l.length cp, .int .i64 at_] w fun ev w' => ev = .returned (.bool true) ∧ Below w.heap.size w w' := by
  have HL := Aside0.mk hl
  clear hl
  go_enter Tryd.func4, Tryd.ntmps4
  go_wp2_with fail
  refine (awake_true _ HL.out).mono ?_
  rintro ev w1 ⟨rfl, b1⟩
  have HB1 := Aside0.mk b1
  clear b1
  go_wp2_with fail
  refine (awake_true _ (HL.out.below HB1.out)).mono ?_
  rintro ev w2 ⟨rfl, b2⟩
  have HB2 := Aside0.mk (below_step HB1.out b2)
  clear b2
  go_wp2_with fail
  go_ret
  exact ⟨rfl, HB2.out⟩

theorem joins_any (A : Option Addr) (cp : Nat) (l : List Int) (at_ : Int) (w : World) (hl : Laid w) (hr : (Kd.int .i64).C w A l.length l) (_hc : l.length ≤ cp) (_hw : ∀ x ∈ l, (Lit.int .i64 x).wf = true) :
    Calls Tryd.prog 4 #[.slice A l.length cp, .int .i64 at_] w fun ev w' => ev = .returned (.bool true) ∧ Below w.heap.size w w' := by
  by_cases hn : 50 < l.length
  · exact joins_long A cp l at_ w hl (decide_eq_true (by omega))
  have c1 : decide ((50 : Int) < (l.length : Int)) = false := decide_eq_false (by omega)
  by_cases h0 : at_ < 0
  · exact joins_low A cp l at_ w hl c1 (decide_eq_true h0)
  by_cases h1 : (l.length : Int) < at_
  · exact joins_high A cp l at_ w hl c1 (decide_eq_false h0) (decide_eq_true h1)
  exact joins_main A cp l at_ w hl hr (by omega) c1 (by omega) (by omega) (decide_eq_false h0) (decide_eq_false h1)
end Go.Proofs.YtdldfjanilagiaaDoor
