/- Comparisons of tables, the program's and the reference's; copies; no condition but lengths. -/
import Derived.Test.YtghfclgcgecgdaaRowA
import Derived.Test.YtghfclgcgecgdaaX0
import Derived.Test.YtghfclgcgecgdaaX17
import Derived.Test.YtghfclgcgecgdaaX18
import Derived.Test.YtghfclgcgecgdaaX19
import Derived.Test.YtghfclgcgecgdaaX21
namespace Go.Proofs.Ytghfclgcgecgdaa.Pure
open Go.RowKit Go.Proofs.YtghfclgcgecgdaaW.PrintWords Go.Proofs.YtghfclgcgecgdaaW.PrintLast Go.Proofs.YtghfclgcgecgdaaW.PrintMore Go.Proofs.Ytghfclgcgecgdaa.X
set_option linter.unusedVariables false
theorem rdOf_get {α : Type} (d : α) (l : List α) {i : Nat} (h : i < l.length) : rdOf d l (i : Int) = l[i] := by
  simp [rdOf, List.getD_eq_getElem?_getD, h]
theorem rd_get (l : List Int) {i : Nat} (h : i < l.length) : rd l (i : Int) = l[i] := by
  rw [rd_nat, List.getD_eq_getElem?_getD, List.getElem?_eq_getElem h]; rfl
theorem rdL_get (l : List (List Int)) {i : Nat} (h : i < l.length) : rd_L2 l (i : Int) = l[i] := by
  simp [rd_L2, List.getD_eq_getElem?_getD, h]
theorem drop_rdOf {α : Type} (d : α) (a b : List α) {i : Nat} (h : i < a.length) (h' : i < b.length) : a.drop i = b.drop i ↔ rdOf d a (i : Int) = rdOf d b (i : Int) ∧ a.drop (i + 1) = b.drop (i + 1) := by
  rw [List.drop_eq_getElem_cons h, List.drop_eq_getElem_cons h', rdOf_get d a h, rdOf_get d b h', List.cons.injEq]
theorem drop_rdS (a b : List ByteArray) {i : Nat} (h : i < a.length) (h' : i < b.length) : a.drop i = b.drop i ↔ rdOf ByteArray.empty a (i : Int) = rdOf ByteArray.empty b (i : Int) ∧ a.drop (i + 1) = b.drop (i + 1) := drop_rdOf _ a b h h'
theorem drop_rdB (a b : List Bool) {i : Nat} (h : i < a.length) (h' : i < b.length) : a.drop i = b.drop i ↔ rdOf false a (i : Int) = rdOf false b (i : Int) ∧ a.drop (i + 1) = b.drop (i + 1) := drop_rdOf _ a b h h'
theorem eq_B {x y : ByteArray} (h : x.toList = y.toList) : x = y := by
  rw [ByteArray.toList_eq, ByteArray.toList_eq] at h
  exact Go.WideShapes.bytes_inj h
theorem ne_B {x y : ByteArray} (h : ¬ x.toList = y.toList) (e : x = y) : False := h (by rw [e])
theorem eq_F {x y : Bool} (h : ¬ (x != y) = true) : x = y := by simpa using h
theorem ne_F {x y : Bool} (h : (x != y) = true) (e : x = y) : False := by subst e; simp at h
theorem strs_ev (a b : List ByteArray) (ha : a.length ≤ 9000000000000000000) : Ev (fun k => slices_Equal_string_string.f k a b) (decide (a = b)) := by
  refine Ev.congr (fun k => by rw [slices_Equal_string_string.f]) (Ev.ite (fun h => ?_) (fun h => Ev.fin ?_))
  · have hl : a.length = b.length := by omega
    have key : ∀ (m i : Nat), i + m = a.length → Ev (fun k => slices_Equal_string_string.l0 k a b (a.length : Int) (i : Int)) (decide (a.drop i = b.drop i)) := by
      intro m
      induction m with
      | zero =>
        intro i hi
        refine Ev.step (fun k => by rw [slices_Equal_string_string.l0]) (Ev.ncond (by omega) (Ev.fin ?_))
        rw [List.drop_eq_nil_of_le (by omega), List.drop_eq_nil_of_le (by omega)]; exact (decide_eq_true rfl).symm
      | succ m ih =>
        intro i hi
        refine Ev.step (fun k => by rw [slices_Equal_string_string.l0]) (Ev.cond (by omega) (Ev.cond (by omega) (Ev.cond (by omega) (Ev.cond (by omega) ?_))))
        refine Ev.ite (fun c => ?_) (fun c => Ev.fin ?_)
        · rw [w64 (by omega) (by omega)]
          have := ih (i + 1) (by omega)
          rwa [decide_eq_decide.2 ((drop_rdS a b (by omega) (by omega)).trans (and_iff_right (eq_B c)))]
        · exact (decide_eq_false (fun e => (ne_B c) ((drop_rdS a b (by omega) (by omega)).1 e).1)).symm
    exact key a.length 0 (by omega)
  · exact (decide_eq_false (fun e_ => h (by rw [e_]))).symm
theorem bools_ev (a b : List Bool) (ha : a.length ≤ 9000000000000000000) : Ev (fun k => slices_Equal_bool_bool.f k a b) (decide (a = b)) := by
  refine Ev.congr (fun k => by rw [slices_Equal_bool_bool.f]) (Ev.ite (fun h => ?_) (fun h => Ev.fin ?_))
  · have hl : a.length = b.length := by omega
    have key : ∀ (m i : Nat), i + m = a.length → Ev (fun k => slices_Equal_bool_bool.l0 k a b (a.length : Int) (i : Int)) (decide (a.drop i = b.drop i)) := by
      intro m
      induction m with
      | zero =>
        intro i hi
        refine Ev.step (fun k => by rw [slices_Equal_bool_bool.l0]) (Ev.ncond (by omega) (Ev.fin ?_))
        rw [List.drop_eq_nil_of_le (by omega), List.drop_eq_nil_of_le (by omega)]; exact (decide_eq_true rfl).symm
      | succ m ih =>
        intro i hi
        refine Ev.step (fun k => by rw [slices_Equal_bool_bool.l0]) (Ev.cond (by omega) (Ev.cond (by omega) (Ev.cond (by omega) (Ev.cond (by omega) ?_))))
        refine Ev.ite (fun c => Ev.fin ?_) (fun c => ?_)
        · exact (decide_eq_false (fun e => (ne_F c) ((drop_rdB a b (by omega) (by omega)).1 e).1)).symm
        · rw [w64 (by omega) (by omega)]
          have := ih (i + 1) (by omega)
          rwa [decide_eq_decide.2 ((drop_rdB a b (by omega) (by omega)).trans (and_iff_right (eq_F c)))]
    exact key a.length 0 (by omega)
  · exact (decide_eq_false (fun e_ => h (by rw [e_]))).symm
theorem texts_ev (a b : List ByteArray) (ha : a.length ≤ 9000000000000000000) : Ev (fun k => tabardref12_texts.f k a b) (decide (a = b)) := by
  refine Ev.congr (fun k => by rw [tabardref12_texts.f]) (Ev.ite (fun h => ?_) (fun h => Ev.fin ?_))
  · have hl : a.length = b.length := by omega
    have key : ∀ (m i : Nat), i + m = a.length → Ev (fun k => tabardref12_texts.l0 k a b (i : Int)) (decide (a.drop i = b.drop i)) := by
      intro m
      induction m with
      | zero =>
        intro i hi
        refine Ev.step (fun k => by rw [tabardref12_texts.l0]) (Ev.ncond (by omega) (Ev.fin ?_))
        rw [List.drop_eq_nil_of_le (by omega), List.drop_eq_nil_of_le (by omega)]; exact (decide_eq_true rfl).symm
      | succ m ih =>
        intro i hi
        refine Ev.step (fun k => by rw [tabardref12_texts.l0]) (Ev.cond (by omega) (Ev.cond (by omega) (Ev.cond (by omega) ?_)))
        refine Ev.ite (fun c => ?_) (fun c => Ev.fin ?_)
        · rw [w64 (by omega) (by omega)]
          have := ih (i + 1) (by omega)
          rwa [decide_eq_decide.2 ((drop_rdS a b (by omega) (by omega)).trans (and_iff_right (eq_B c)))]
        · exact (decide_eq_false (fun e => (ne_B c) ((drop_rdS a b (by omega) (by omega)).1 e).1)).symm
    exact key a.length 0 (by omega)
  · exact (decide_eq_false (fun e_ => h (by rw [e_]))).symm
theorem flags_ev (a b : List Bool) (ha : a.length ≤ 9000000000000000000) : Ev (fun k => tabardref12_flags.f k a b) (decide (a = b)) := by
  refine Ev.congr (fun k => by rw [tabardref12_flags.f]) (Ev.ite (fun h => ?_) (fun h => Ev.fin ?_))
  · have hl : a.length = b.length := by omega
    have key : ∀ (m i : Nat), i + m = a.length → Ev (fun k => tabardref12_flags.l0 k a b (i : Int)) (decide (a.drop i = b.drop i)) := by
      intro m
      induction m with
      | zero =>
        intro i hi
        refine Ev.step (fun k => by rw [tabardref12_flags.l0]) (Ev.ncond (by omega) (Ev.fin ?_))
        rw [List.drop_eq_nil_of_le (by omega), List.drop_eq_nil_of_le (by omega)]; exact (decide_eq_true rfl).symm
      | succ m ih =>
        intro i hi
        refine Ev.step (fun k => by rw [tabardref12_flags.l0]) (Ev.cond (by omega) (Ev.cond (by omega) (Ev.cond (by omega) ?_)))
        refine Ev.ite (fun c => Ev.fin ?_) (fun c => ?_)
        · exact (decide_eq_false (fun e => (ne_F c) ((drop_rdB a b (by omega) (by omega)).1 e).1)).symm
        · rw [w64 (by omega) (by omega)]
          have := ih (i + 1) (by omega)
          rwa [decide_eq_decide.2 ((drop_rdB a b (by omega) (by omega)).trans (and_iff_right (eq_F c)))]
    exact key a.length 0 (by omega)
  · exact (decide_eq_false (fun e_ => h (by rw [e_]))).symm
theorem rints_ev (a b : List Int) (ha : a.length ≤ 9000000000000000000) : Ev (fun k => tabardref12_ints.f k a b) (decide (a = b)) := by
  refine Ev.congr (fun k => by rw [tabardref12_ints.f]) (Ev.ite (fun h => ?_) (fun h => Ev.fin ?_))
  · have hl : a.length = b.length := by omega
    have key : ∀ (m i : Nat), i + m = a.length → Ev (fun k => tabardref12_ints.l0 k a b (i : Int)) (decide (a.drop i = b.drop i)) := by
      intro m
      induction m with
      | zero =>
        intro i hi
        refine Ev.step (fun k => by rw [tabardref12_ints.l0]) (Ev.ncond (by omega) (Ev.fin ?_))
        rw [List.drop_eq_nil_of_le (by omega), List.drop_eq_nil_of_le (by omega)]; exact (decide_eq_true rfl).symm
      | succ m ih =>
        intro i hi
        refine Ev.step (fun k => by rw [tabardref12_ints.l0]) (Ev.cond (by omega) (Ev.cond (by omega) (Ev.cond (by omega) ?_)))
        refine Ev.ite (fun c => ?_) (fun c => Ev.fin ?_)
        · rw [w64 (by omega) (by omega)]
          have := ih (i + 1) (by omega)
          rwa [decide_eq_decide.2 ((drop_rd a b (by omega) (by omega)).trans (and_iff_right (id c)))]
        · exact (decide_eq_false (fun e => (id c) ((drop_rd a b (by omega) (by omega)).1 e).1)).symm
    exact key a.length 0 (by omega)
  · exact (decide_eq_false (fun e_ => h (by rw [e_]))).symm
/-- Two tables. -/
structure Au where
  tr : List ByteArray
  ac : List Bool
  st : List Int
  ar : List S58
theorem fixed_ev : Ev (fun k => tabardlaw12_fixed.f k) true := Ev.of tabardlaw12_fixed.mono (show tabardlaw12_fixed.f 14 = some true by decide +kernel)
end Go.Proofs.Ytghfclgcgecgdaa.Pure
