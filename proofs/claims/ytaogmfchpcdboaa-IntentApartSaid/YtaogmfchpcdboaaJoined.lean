/- The six laws of chapter 09 are true whatever their records and bytes. No condition. -/
import Derived.Test.YtaogmfchpcdboaaWalks
import Derived.Test.YtaogmfchpcdboaaRefGets
namespace Go.Proofs.Ytaogmfchpcdboaa
open Go.RowKit Go.Proofs.YtaogmfchpcdboaaW.PrintWords Go.Proofs.Ytaogmfchpcdboaa.Math

theorem putIs (k : Int) (b : Bd) : PutIs 21 k b (putAns k b).1 (putAns k b).2 := fun W => put_calls k b W
theorem rputIs (k : Int) (b : Bd) : PutIs 22 k b (putAns k b).1 (putAns k b).2 := fun W => rput_calls k b W
theorem getIs {s : ByteArray} (hs : s.size ≤ 50000) : GetIs 24 s (getAns s).1 (getAns s).2.1 (getAns s).2.2 := fun W => get_calls s hs W
theorem rgetIs {s : ByteArray} (hs : s.size ≤ 50000) : GetIs 25 s (getAns s).1 (getAns s).2.1 (getAns s).2.2 := fun W => rget_calls s hs W

theorem puts_any (k : Int) (b : Bd) (w : World) : Calls Try.prog 9 #[recVal k b] w fun e w' => e = .returned (.bool true) ∧ Below w.heap.size w w' :=
  puts_walk k b _ _ w (putIs k b) (rputIs k b)
theorem gets_any (s : ByteArray) (w : World) : Calls Try.prog 10 #[.string s] w fun e w' => e = .returned (.bool true) ∧ Below w.heap.size w w' := by
  by_cases hs : s.size ≤ 500
  · exact gets_walk s _ _ _ w hs (getIs (by omega)) (rgetIs (by omega))
  · exact gets_long s w hs
theorem back_any (k : Int) (b : Bd) (w : World) : Calls Try.prog 11 #[recVal k b] w fun e w' => e = .returned (.bool true) ∧ Below w.heap.size w w' := by
  have hp := putIs k b
  by_cases h : (putAns k b).2 = 0
  · have hs := (put_size h).1
    have hg := getIs (s := (putAns k b).1) (by omega)
    rw [get_put h] at hg
    rw [h] at hp
    exact back_good k b _ w hp hg
  · rw [putAns_bad h] at hp
    exact back_bad k b _ w h hp
theorem one_any (s : ByteArray) (w : World) : Calls Try.prog 12 #[.string s] w fun e w' => e = .returned (.bool true) ∧ Below w.heap.size w w' := by
  by_cases hs : s.size ≤ 500
  · have hg := getIs (s := s) (by omega)
    by_cases h : (getAns s).2.2 = 0
    · have hp := putIs (getAns s).1 (getAns s).2.1
      rw [put_get h] at hp
      rw [h] at hg
      exact one_good s _ _ w hs hg hp
    · rw [get_zero h] at hg
      exact one_bad s _ w hs h hg
  · exact one_long s w hs
theorem nb_first {s : ByteArray} {x : Nat} {r : List Nat} (h : nb s = x :: r) : ∀ hs : 0 < s.size, (s[0]'hs).toNat = x := by
  intro hs
  have h1 : (nb s)[0]? = some x := by rw [h]; rfl
  unfold nb at h1
  rw [List.getElem?_map, Array.getElem?_toList, Array.getElem?_eq_getElem (h := hs)] at h1
  exact Option.some.inj h1
theorem nb_cut (s : ByteArray) (n : Nat) : nb (s.extract 0 n) = (nb s).take n := by
  unfold nb
  rw [ByteArray.data_extract, Array.toList_extract, List.map_take]
  simp
theorem sizes_any (k : Int) (b : Bd) (n : Int) (w : World) : Calls Try.prog 13 #[recVal k b, .int .i64 n] w fun e w' => e = .returned (.bool true) ∧ Below w.heap.size w w' := by
  have hp := putIs k b
  by_cases h : (putAns k b).2 = 0
  · obtain ⟨hs, hnb⟩ := put_size h
    obtain ⟨hk, -, -, -⟩ := putAns_ok h
    have hkk := kind_pos hk
    have hs0 : 0 < (putAns k b).1.size := by
      rw [← nb_length, hnb]
      simp
    have hcut := fun (m : Nat) (hm : m < (putAns k b).1.size) => cut_none h hm (nb_cut (putAns k b).1 m)
    have hk0 : (IntKind.i64.wrap (((putAns k b).1[0]'hs0).toNat : Int) != k) = false := by
      rw [nb_first hnb hs0, IntKind.wrap_i64]
      simp only [bne_eq_false_iff_eq]
      omega
    rw [h] at hp
    generalize (putAns k b).1 = s at hs hnb hs0 hcut hk0 hp
    by_cases h0 : n < 0
    · exact sizes_neg k b n s w hs0 hs hk0 hp h0
    by_cases h1 : (s.size : Int) ≤ n
    · exact sizes_far k b n s w hs0 hs hk0 hp h1
    have hz : (s.extract 0 n.toNat).size ≤ 50000 := by
      rw [← nb_length, nb_cut, List.length_take, nb_length]
      omega
    obtain ⟨kg, hg⟩ := (refget_f (s.extract 0 n.toNat) hz).rounds
    have hne := hcut n.toNat (by omega)
    refine sizes_cut k b n s w hs0 hs hk0 hp _ _ _ _ _ kg (by omega) (by omega) (getIs hz) hg hne ?_
    by_cases hd : (Math.dec (nb (s.extract 0 n.toNat)) [] 0 0).2 = 0
    · exact .inl hd
    · refine .inr ?_
      show (getOf _ _).2.2 = _
      unfold getOf
      rw [if_pos hd]
  · exact sizes_bad k b n _ _ w h hp
theorem apart_any (k : Int) (b : Bd) (q : Int) (c : Bd) (w : World) : Calls Try.prog 14 #[recVal k b, recVal q c] w fun e w' => e = .returned (.bool true) ∧ Below w.heap.size w w' := by
  have hp := putIs k b
  have hr := putIs q c
  by_cases h : (putAns k b).2 = 0
  · by_cases h2 : (putAns q c).2 = 0
    · have hst : ((putAns k b).1.toList == (putAns q c).1.toList) = recEq k b q c := by
        rw [Bool.eq_iff_iff, beq_iff_eq, recEq_iff]
        refine ⟨fun e => put_inj h h2 (toList_inj e), ?_⟩
        rintro ⟨rfl, rfl⟩
        rfl
      rw [h] at hp
      rw [h2] at hr
      exact apart_good k b _ q c _ w hst hp hr
    · rw [h] at hp
      exact apart_bad1 k b _ q c _ w _ h2 hp hr
  · exact apart_bad0 k b _ q c _ w _ _ h hp hr
end Go.Proofs.Ytaogmfchpcdboaa
