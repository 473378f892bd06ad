/- Lists of errors that package fault's New made of a list of numbers: which is the first. No condition. -/
import Derived.Test.YtdldfjanilagiaaDoorAwake
namespace Go.Proofs.YtdldfjanilagiaaDoor
open Go.RowKit
open Go.Proofs.YtdldfjanilagiaaDoorW.PrintWords

/-- The first number that isn't 0; 0, if there is none. -/
def wantOf : List Int → Int
  | [] => 0
  | e :: l => if e = 0 then wantOf l else e
theorem wantOf_snoc (l : List Int) (e : Int) : wantOf (l ++ [e]) = if wantOf l = 0 then e else wantOf l := by
  induction l with
  | nil =>
    show (if e = 0 then 0 else e) = if (0 : Int) = 0 then e else 0
    rw [if_pos rfl]
    by_cases h : e = 0
    · rw [if_pos h, h]
    · rw [if_neg h]
  | cons x l ih =>
    show (if x = 0 then wantOf (l ++ [e]) else x) = _
    rw [wantOf]
    by_cases hx : x = 0
    · rw [if_pos hx, if_pos hx, ih]
    · rw [if_neg hx, if_neg hx, if_neg hx]
theorem wantOf_append (a b : List Int) : wantOf (a ++ b) = if wantOf a = 0 then wantOf b else wantOf a := by
  induction a with
  | nil => simp [wantOf]
  | cons x l ih =>
    show (if x = 0 then wantOf (l ++ b) else x) = _
    rw [wantOf]
    by_cases hx : x = 0
    · rw [if_pos hx, if_pos hx, ih]
    · rw [if_neg hx, if_neg hx, if_neg hx]

/-- The errors that were made of the numbers at one place. -/
def Made (w : World) (p : ByteArray) : List Int → List (Option (TypeId × Value)) → Prop
  | [], es => es = []
  | e :: l, es => ∃ x es', es = x :: es' ∧ ((e = 0 ∧ x = none) ∨ (e ≠ 0 ∧ ∃ y, x = some (42, y) ∧ ErrV w [p] e (.iface 42 y))) ∧ Made w p l es'

theorem Made.mono {w w' : World} {p : ByteArray} (hk : ∀ (k : Nat) (cs : Array Value), w.heap[k]? = some (Obj.cells cs 45 (0, 0)) → w'.heap[k]? = some (Obj.cells cs 45 (0, 0))) :
    ∀ {l : List Int} {es : List (Option (TypeId × Value))}, Made w p l es → Made w' p l es
  | [], _, h => h
  | _ :: _, _, ⟨x, es', h1, h2, h3⟩ => ⟨x, es', h1, h2.imp id fun ⟨hne, y, hy, hE⟩ => ⟨hne, y, hy, hE.mono hk⟩, Made.mono hk h3⟩
theorem Made.below {w w' : World} {p : ByteArray} {l : List Int} {es : List (Option (TypeId × Value))} (h : Made w p l es) (hb : Below w.heap.size w w') : Made w' p l es :=
  h.mono fun k cs hc => by rw [hb.block k (lt_of_block hc)]; exact hc
theorem Made.length {w : World} {p : ByteArray} : ∀ {l : List Int} {es : List (Option (TypeId × Value))}, Made w p l es → es.length = l.length
  | [], _, h => by rw [show _ = [] from h]; rfl
  | _ :: _, _, ⟨_, es', h1, _, h3⟩ => by rw [h1, List.length_cons, List.length_cons, h3.length]
theorem Made.snoc {w : World} {p : ByteArray} {e : Int} {x : Option (TypeId × Value)} (hx : (e = 0 ∧ x = none) ∨ (e ≠ 0 ∧ ∃ y, x = some (42, y) ∧ ErrV w [p] e (.iface 42 y))) :
    ∀ {l : List Int} {es : List (Option (TypeId × Value))}, Made w p l es → Made w p (l ++ [e]) (es ++ [x])
  | [], _, h => by rw [show _ = [] from h]; exact ⟨x, [], rfl, hx, rfl⟩
  | _ :: _, _, ⟨y, es', h1, h2, h3⟩ => ⟨y, es' ++ [x], by rw [h1]; rfl, h2, h3.snoc hx⟩
theorem Made.first {w : World} {p : ByteArray} : ∀ {l : List Int} {es : List (Option (TypeId × Value))}, Made w p l es →
    (wantOf l = 0 ∧ firstE es = none) ∨ (wantOf l ≠ 0 ∧ ∃ y, firstE es = some (42, y) ∧ ErrV w [p] (wantOf l) (.iface 42 y))
  | [], _, h => .inl ⟨rfl, by rw [show _ = [] from h]; rfl⟩
  | e :: l, _, ⟨x, es', h1, h2, h3⟩ => by
    subst h1
    rcases h2 with ⟨he, hx⟩ | ⟨he, y, hx, hE⟩
    · subst hx
      rw [wantOf, if_pos he]
      exact h3.first
    · subst hx
      rw [wantOf, if_neg he]
      exact .inr ⟨he, y, rfl, hE⟩
theorem Made.parts {w : World} {p : ByteArray} : ∀ (k : Nat) {l : List Int} {es : List (Option (TypeId × Value))}, Made w p l es → Made w p (l.take k) (es.take k) ∧ Made w p (l.drop k) (es.drop k)
  | 0, _, _, h => ⟨rfl, h⟩
  | _ + 1, [], _, h => by rw [show _ = [] from h]; exact ⟨rfl, rfl⟩
  | k + 1, _ :: _, _, ⟨x, es', h1, h2, h3⟩ => by
    subst h1
    obtain ⟨i1, i2⟩ := h3.parts k
    exact ⟨⟨x, es'.take k, rfl, h2, i1⟩, i2⟩

theorem take_snoc_int (l : List Int) (k : Nat) (h : k < l.length) : l.take (k + 1) = l.take k ++ [rd l (k : Int)] := by
  rw [List.take_succ_eq_append_getElem h]
  congr 2
  simp [rd, List.getD_eq_getElem?_getD, h]
end Go.Proofs.YtdldfjanilagiaaDoor
