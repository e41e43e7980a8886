/- The law CanonMinimal over lists alone, and all that it leans on; no condition beyond the statement's own. -/
import Derived.Test.YtbpeloobnjbgkaaX0
import Derived.Test.YtbpeloobnjbgkaaX0
import Derived.Test.YtbpeloobnjbgkaaX1
import Derived.Test.YtbpeloobnjbgkaaX10
import Derived.Test.YtbpeloobnjbgkaaX11
import Derived.Test.YtbpeloobnjbgkaaX12
import Derived.Test.YtbpeloobnjbgkaaX13
import Derived.Test.YtbpeloobnjbgkaaX14
import Derived.Test.YtbpeloobnjbgkaaX15
import Derived.Test.YtbpeloobnjbgkaaX16
import Derived.Test.YtbpeloobnjbgkaaX19
import Derived.Test.YtbpeloobnjbgkaaX2
import Derived.Test.YtbpeloobnjbgkaaX20
import Derived.Test.YtbpeloobnjbgkaaX21
import Derived.Test.YtbpeloobnjbgkaaX22
import Derived.Test.YtbpeloobnjbgkaaX23
import Derived.Test.YtbpeloobnjbgkaaX24
import Derived.Test.YtbpeloobnjbgkaaX25
import Derived.Test.YtbpeloobnjbgkaaX26
import Derived.Test.YtbpeloobnjbgkaaX27
import Derived.Test.YtbpeloobnjbgkaaX29
import Derived.Test.YtbpeloobnjbgkaaX3
import Derived.Test.YtbpeloobnjbgkaaX4
import Derived.Test.YtbpeloobnjbgkaaX43
import Derived.Test.YtbpeloobnjbgkaaX5
import Derived.Test.YtbpeloobnjbgkaaX6
import Derived.Test.YtbpeloobnjbgkaaX7
import Derived.Test.YtbpeloobnjbgkaaX8
import Derived.Test.YtbpeloobnjbgkaaX9
import Derived.Lib.DecodeN
namespace Go.Proofs.Ytbpeloobnjbgkaa.Pure
open Go.RowKit Go.Proofs.YtbpeloobnjbgkaaW.PrintWords Go.Proofs.YtbpeloobnjbgkaaW.PrintLast Go.Proofs.YtbpeloobnjbgkaaW.PrintMore Go.Proofs.Ytbpeloobnjbgkaa.X
set_option linter.unusedVariables false
/-! ### Rounds -/
theorem Ev.cond {α : Type} {c : Prop} [Decidable c] {f g : Nat → Option α} {r : α} (h : c) (k : Ev f r) : Ev (fun n => if c then f n else g n) r :=
  Ev.congr (fun _ => if_pos h) k
theorem Ev.ncond {α : Type} {c : Prop} [Decidable c] {f g : Nat → Option α} {r : α} (h : ¬ c) (k : Ev g r) : Ev (fun n => if c then f n else g n) r :=
  Ev.congr (fun _ => if_neg h) k
theorem Ev.ite {α : Type} {c : Prop} [Decidable c] {f g : Nat → Option α} {r : α} (h : c → Ev f r) (k : ¬ c → Ev g r) : Ev (fun n => if c then f n else g n) r := by
  by_cases hc : c
  · exact Ev.cond hc (h hc)
  · exact Ev.ncond hc (k hc)
theorem Ev.fin {α : Type} {r q : α} (h : r = q) : Ev (fun _ => Option.some r) q := h ▸ Ev.now r
theorem Ev.ret {α β : Type} {g : Option α} {a : α} {f : Nat → α → Option β} {r : β} (h : g = Option.some a) (k : Ev (fun n => f n a) r) : Ev (fun n => g.bind (f n)) r := by
  subst h; exact k
theorem w64 {x : Int} (h0 : -9223372036854775808 ≤ x) (h1 : x ≤ 9223372036854775807) : wrap64 x = x := by unfold wrap64; omega
theorem rd_nat (l : List Int) (i : Nat) : rd l (i : Int) = l.getD i 0 := by simp [rd]
end Go.Proofs.Ytbpeloobnjbgkaa.Pure
namespace Go.Proofs.Ytbpeloobnjbgkaa.Pure
open Go.RowKit Go.Proofs.YtbpeloobnjbgkaaW.PrintWords Go.Proofs.YtbpeloobnjbgkaaW.PrintLast Go.Proofs.YtbpeloobnjbgkaaW.PrintMore Go.Proofs.Ytbpeloobnjbgkaa.X
theorem drop_rd (a b : List Int) {i : Nat} (h : i < a.length) (h' : i < b.length) : a.drop i = b.drop i ↔ rd a (i : Int) = rd b (i : Int) ∧ a.drop (i + 1) = b.drop (i + 1) := by
  rw [List.drop_eq_getElem_cons h, List.drop_eq_getElem_cons h', rd_nat, rd_nat, List.getD_eq_getElem?_getD, List.getD_eq_getElem?_getD, List.getElem?_eq_getElem h, List.getElem?_eq_getElem h', List.cons.injEq]
  rfl
/-! ### The least and the greatest -/
theorem mn_le (s x y : Int) : s ≤ mn x y ↔ s ≤ x ∧ s ≤ y := by unfold mn; split <;> omega
theorem mx_lt (s x y : Int) : mx x y < s ↔ x < s ∧ y < s := by unfold mx; split <;> omega
theorem all_drop (p : Int → Prop) (a : List Int) {i : Nat} (h : i < a.length) : (∀ x ∈ a.drop i, p x) ↔ p (rd a (i : Int)) ∧ ∀ x ∈ a.drop (i + 1), p x := by
  rw [List.drop_eq_getElem_cons h, rd_nat, List.getD_eq_getElem?_getD, List.getElem?_eq_getElem h]
  exact List.forall_mem_cons
theorem min_ev (a : List Int) (h1 : 1 ≤ a.length) (ha : a.length ≤ 9000000000000000000) : ∃ r, Ev (fun k => slices_Min_int_int.f k a) r ∧ ∀ s, s ≤ r ↔ ∀ x ∈ a, s ≤ x := by
  have key : ∀ (m i : Nat) (c : Int), i + m = a.length → ∃ r, Ev (fun k => slices_Min_int_int.l0 k a c (i : Int)) r ∧ ∀ s, s ≤ r ↔ s ≤ c ∧ ∀ x ∈ a.drop i, s ≤ x := by
    intro m
    induction m with
    | zero =>
      intro i c hi
      refine ⟨c, Ev.step (fun k => by rw [slices_Min_int_int.l0]) (Ev.ncond (by omega) (Ev.fin rfl)), fun s => ?_⟩
      rw [List.drop_eq_nil_of_le (by omega)]; simp
    | succ m ih =>
      intro i c hi
      obtain ⟨r, hr, hs⟩ := ih (i + 1) (mn c (rd a (i : Int))) (by omega)
      refine ⟨r, Ev.step (fun k => by rw [slices_Min_int_int.l0]) (Ev.cond (by omega) (Ev.cond (by omega) ?_)), fun s => ?_⟩
      · rw [w64 (by omega) (by omega)]; exact hr
      · rw [hs, mn_le, all_drop (fun x => s ≤ x) a (i := i) (by omega), and_assoc]
  obtain ⟨r, hr, hs⟩ := key (a.length - 1) 1 (rd a 0) (by omega)
  have hr' : Ev (fun k => slices_Min_int_int.l0 k a (rd a 0) 1) r := hr
  refine ⟨r, Ev.congr (fun k => by rw [slices_Min_int_int.f]) (Ev.ncond (by omega) (Ev.cond (by omega) hr')), fun s => ?_⟩
  rw [hs, show (∀ x ∈ a, s ≤ x) ↔ (∀ x ∈ a.drop 0, s ≤ x) by rw [List.drop_zero], all_drop (fun x => s ≤ x) a (i := 0) (by omega)]
  exact Iff.rfl
theorem max_ev (a : List Int) (h1 : 1 ≤ a.length) (ha : a.length ≤ 9000000000000000000) : ∃ r, Ev (fun k => slices_Max_int_int.f k a) r ∧ ∀ s, r < s ↔ ∀ x ∈ a, x < s := by
  have key : ∀ (m i : Nat) (c : Int), i + m = a.length → ∃ r, Ev (fun k => slices_Max_int_int.l0 k a c (i : Int)) r ∧ ∀ s, r < s ↔ c < s ∧ ∀ x ∈ a.drop i, x < s := by
    intro m
    induction m with
    | zero =>
      intro i c hi
      refine ⟨c, Ev.step (fun k => by rw [slices_Max_int_int.l0]) (Ev.ncond (by omega) (Ev.fin rfl)), fun s => ?_⟩
      rw [List.drop_eq_nil_of_le (by omega)]; simp
    | succ m ih =>
      intro i c hi
      obtain ⟨r, hr, hs⟩ := ih (i + 1) (mx c (rd a (i : Int))) (by omega)
      refine ⟨r, Ev.step (fun k => by rw [slices_Max_int_int.l0]) (Ev.cond (by omega) (Ev.cond (by omega) ?_)), fun s => ?_⟩
      · rw [w64 (by omega) (by omega)]; exact hr
      · rw [hs, mx_lt, all_drop (fun x => x < s) a (i := i) (by omega), and_assoc]
  obtain ⟨r, hr, hs⟩ := key (a.length - 1) 1 (rd a 0) (by omega)
  have hr' : Ev (fun k => slices_Max_int_int.l0 k a (rd a 0) 1) r := hr
  refine ⟨r, Ev.congr (fun k => by rw [slices_Max_int_int.f]) (Ev.ncond (by omega) (Ev.cond (by omega) hr')), fun s => ?_⟩
  rw [hs, show (∀ x ∈ a, x < s) ↔ (∀ x ∈ a.drop 0, x < s) by rw [List.drop_zero], all_drop (fun x => x < s) a (i := 0) (by omega)]
  exact Iff.rfl
/-! ### Rows -/
/-- Is it a row over some tracks? -/
def IsRow (l : List Int) : Prop := (∃ j, j ≤ 6 ∧ l.length = 2 ^ j) ∧ ∀ x ∈ l, 0 ≤ x
theorem pow6 {n : Nat} (h : n ≤ 6) : 2 ^ n ≤ 64 := by
  have := Nat.pow_le_pow_right (show 0 < 2 by omega) h
  omega
theorem IsRow.len {l : List Int} (h : IsRow l) : 1 ≤ l.length ∧ l.length ≤ 64 := by
  obtain ⟨⟨j, hj, e⟩, _⟩ := h
  have := pow6 hj
  have := Nat.two_pow_pos j
  omega
noncomputable instance decRow (l : List Int) : Decidable (IsRow l) := Classical.propDecidable _
end Go.Proofs.Ytbpeloobnjbgkaa.Pure
namespace Go.Proofs.Ytbpeloobnjbgkaa.Pure
open Go.RowKit Go.Proofs.YtbpeloobnjbgkaaW.PrintWords Go.Proofs.YtbpeloobnjbgkaaW.PrintLast Go.Proofs.YtbpeloobnjbgkaaW.PrintMore Go.Proofs.Ytbpeloobnjbgkaa.X
set_option linter.unusedVariables false
theorem shl_pow : ∀ j : Fin 7, shl .i64 1 (j.1 : Int) = ((2 ^ j.1 : Nat) : Int) := by decide +kernel
end Go.Proofs.Ytbpeloobnjbgkaa.Pure
namespace Go.Proofs.Ytbpeloobnjbgkaa.Pure
open Go.RowKit Go.Proofs.YtbpeloobnjbgkaaW.PrintWords Go.Proofs.YtbpeloobnjbgkaaW.PrintLast Go.Proofs.YtbpeloobnjbgkaaW.PrintMore Go.Proofs.Ytbpeloobnjbgkaa.X
set_option linter.unusedVariables false
theorem rdOf_get {α : Type} (d : α) (l : List α) {i : Nat} (h : i < l.length) : rdOf d l (i : Int) = l[i] := by
  simp [rdOf, List.getD_eq_getElem?_getD, h]
theorem rd_get (l : List Int) {i : Nat} (h : i < l.length) : rd l (i : Int) = l[i] := by
  rw [rd_nat, List.getD_eq_getElem?_getD, List.getElem?_eq_getElem h]; rfl
theorem rdL_get (l : List (List Int)) {i : Nat} (h : i < l.length) : rd_L1 l (i : Int) = l[i] := by
  simp [rd_L1, List.getD_eq_getElem?_getD, h]
theorem drop_rdOf {α : Type} (d : α) (a b : List α) {i : Nat} (h : i < a.length) (h' : i < b.length) : a.drop i = b.drop i ↔ rdOf d a (i : Int) = rdOf d b (i : Int) ∧ a.drop (i + 1) = b.drop (i + 1) := by
  rw [List.drop_eq_getElem_cons h, List.drop_eq_getElem_cons h', rdOf_get d a h, rdOf_get d b h', List.cons.injEq]
theorem drop_rdS (a b : List ByteArray) {i : Nat} (h : i < a.length) (h' : i < b.length) : a.drop i = b.drop i ↔ rdOf ByteArray.empty a (i : Int) = rdOf ByteArray.empty b (i : Int) ∧ a.drop (i + 1) = b.drop (i + 1) := drop_rdOf _ a b h h'
theorem drop_rdB (a b : List Bool) {i : Nat} (h : i < a.length) (h' : i < b.length) : a.drop i = b.drop i ↔ rdOf false a (i : Int) = rdOf false b (i : Int) ∧ a.drop (i + 1) = b.drop (i + 1) := drop_rdOf _ a b h h'
theorem eq_B {x y : ByteArray} (h : x.toList = y.toList) : x = y := by
  rw [ByteArray.toList_eq, ByteArray.toList_eq] at h
  exact Go.WideShapes.bytes_inj h
theorem ne_B {x y : ByteArray} (h : ¬ x.toList = y.toList) (e : x = y) : False := h (by rw [e])
theorem eq_F {x y : Bool} (h : ¬ (x != y) = true) : x = y := by simpa using h
theorem ne_F {x y : Bool} (h : (x != y) = true) (e : x = y) : False := by subst e; simp at h
theorem texts_ev (a b : List ByteArray) (ha : a.length ≤ 9000000000000000000) : Ev (fun k => tabardref12_texts.f k a b) (decide (a = b)) := by
  refine Ev.congr (fun k => by rw [tabardref12_texts.f]) (Ev.ite (fun h => ?_) (fun h => Ev.fin ?_))
  · have hl : a.length = b.length := by omega
    have key : ∀ (m i : Nat), i + m = a.length → Ev (fun k => tabardref12_texts.l0 k a b (i : Int)) (decide (a.drop i = b.drop i)) := by
      intro m
      induction m with
      | zero =>
        intro i hi
        refine Ev.step (fun k => by rw [tabardref12_texts.l0]) (Ev.ncond (by omega) (Ev.fin ?_))
        rw [List.drop_eq_nil_of_le (by omega), List.drop_eq_nil_of_le (by omega)]; exact (decide_eq_true rfl).symm
      | succ m ih =>
        intro i hi
        refine Ev.step (fun k => by rw [tabardref12_texts.l0]) (Ev.cond (by omega) (Ev.cond (by omega) (Ev.cond (by omega) ?_)))
        refine Ev.ite (fun c => ?_) (fun c => Ev.fin ?_)
        · rw [w64 (by omega) (by omega)]
          have := ih (i + 1) (by omega)
          rwa [decide_eq_decide.2 ((drop_rdS a b (by omega) (by omega)).trans (and_iff_right (eq_B c)))]
        · exact (decide_eq_false (fun e => (ne_B c) ((drop_rdS a b (by omega) (by omega)).1 e).1)).symm
    exact key a.length 0 (by omega)
  · exact (decide_eq_false (fun e_ => h (by rw [e_]))).symm
theorem flags_ev (a b : List Bool) (ha : a.length ≤ 9000000000000000000) : Ev (fun k => tabardref12_flags.f k a b) (decide (a = b)) := by
  refine Ev.congr (fun k => by rw [tabardref12_flags.f]) (Ev.ite (fun h => ?_) (fun h => Ev.fin ?_))
  · have hl : a.length = b.length := by omega
    have key : ∀ (m i : Nat), i + m = a.length → Ev (fun k => tabardref12_flags.l0 k a b (i : Int)) (decide (a.drop i = b.drop i)) := by
      intro m
      induction m with
      | zero =>
        intro i hi
        refine Ev.step (fun k => by rw [tabardref12_flags.l0]) (Ev.ncond (by omega) (Ev.fin ?_))
        rw [List.drop_eq_nil_of_le (by omega), List.drop_eq_nil_of_le (by omega)]; exact (decide_eq_true rfl).symm
      | succ m ih =>
        intro i hi
        refine Ev.step (fun k => by rw [tabardref12_flags.l0]) (Ev.cond (by omega) (Ev.cond (by omega) (Ev.cond (by omega) ?_)))
        refine Ev.ite (fun c => Ev.fin ?_) (fun c => ?_)
        · exact (decide_eq_false (fun e => (ne_F c) ((drop_rdB a b (by omega) (by omega)).1 e).1)).symm
        · rw [w64 (by omega) (by omega)]
          have := ih (i + 1) (by omega)
          rwa [decide_eq_decide.2 ((drop_rdB a b (by omega) (by omega)).trans (and_iff_right (eq_F c)))]
    exact key a.length 0 (by omega)
  · exact (decide_eq_false (fun e_ => h (by rw [e_]))).symm
theorem rints_ev (a b : List Int) (ha : a.length ≤ 9000000000000000000) : Ev (fun k => tabardref12_ints.f k a b) (decide (a = b)) := by
  refine Ev.congr (fun k => by rw [tabardref12_ints.f]) (Ev.ite (fun h => ?_) (fun h => Ev.fin ?_))
  · have hl : a.length = b.length := by omega
    have key : ∀ (m i : Nat), i + m = a.length → Ev (fun k => tabardref12_ints.l0 k a b (i : Int)) (decide (a.drop i = b.drop i)) := by
      intro m
      induction m with
      | zero =>
        intro i hi
        refine Ev.step (fun k => by rw [tabardref12_ints.l0]) (Ev.ncond (by omega) (Ev.fin ?_))
        rw [List.drop_eq_nil_of_le (by omega), List.drop_eq_nil_of_le (by omega)]; exact (decide_eq_true rfl).symm
      | succ m ih =>
        intro i hi
        refine Ev.step (fun k => by rw [tabardref12_ints.l0]) (Ev.cond (by omega) (Ev.cond (by omega) (Ev.cond (by omega) ?_)))
        refine Ev.ite (fun c => ?_) (fun c => Ev.fin ?_)
        · rw [w64 (by omega) (by omega)]
          have := ih (i + 1) (by omega)
          rwa [decide_eq_decide.2 ((drop_rd a b (by omega) (by omega)).trans (and_iff_right (id c)))]
        · exact (decide_eq_false (fun e => (id c) ((drop_rd a b (by omega) (by omega)).1 e).1)).symm
    exact key a.length 0 (by omega)
  · exact (decide_eq_false (fun e_ => h (by rw [e_]))).symm
end Go.Proofs.Ytbpeloobnjbgkaa.Pure
namespace Go.Proofs.Ytbpeloobnjbgkaa.Pure
open Go.RowKit Go.Proofs.YtbpeloobnjbgkaaW.PrintWords Go.Proofs.YtbpeloobnjbgkaaW.PrintLast Go.Proofs.YtbpeloobnjbgkaaW.PrintMore Go.Proofs.Ytbpeloobnjbgkaa.X
set_option linter.unusedVariables false
/-! ### Names -/
def startB (r : Int) : Bool := decide ((65 ≤ r ∧ r ≤ 90) ∨ (97 ≤ r ∧ r ≤ 122) ∨ r = 95 ∨ (913 ≤ r ∧ r ≤ 929) ∨ (931 ≤ r ∧ r ≤ 937) ∨ (945 ≤ r ∧ r ≤ 969))
def restB (r : Int) : Bool := startB r || decide ((48 ≤ r ∧ r ≤ 57) ∨ r = 8242 ∨ (8320 ≤ r ∧ r ≤ 8329))
theorem start_j3 (r : Int) (b : Bool) : Ev (fun k => glyph_Start.j3 k r b) (b || decide (945 ≤ r ∧ r ≤ 969)) := by
  cases b
  · refine Ev.step (fun k => by rw [glyph_Start.j3]) (Ev.ncond (by decide) (Ev.ite (fun h => Ev.ite (fun g => Ev.fin ?_) (fun g => Ev.fin ?_)) (fun h => Ev.fin ?_))) <;> simp <;> omega
  · rw [Bool.true_or]; exact Ev.step (fun k => by rw [glyph_Start.j3]) (Ev.cond rfl (Ev.fin rfl))
theorem start_j2 (r : Int) (b : Bool) : Ev (fun k => glyph_Start.j2 k r b) (b || decide ((931 ≤ r ∧ r ≤ 937) ∨ (945 ≤ r ∧ r ≤ 969))) := by
  cases b
  · refine Ev.step (fun k => by rw [glyph_Start.j2]) (Ev.ncond (by decide) (Ev.ite (fun h => ?_) (fun h => ?_)))
    · have := start_j3 r (decide (r ≤ 937))
      rwa [show (decide (r ≤ 937) || decide (945 ≤ r ∧ r ≤ 969)) = (false || decide ((931 ≤ r ∧ r ≤ 937) ∨ (945 ≤ r ∧ r ≤ 969))) by rw [Bool.eq_iff_iff]; simp; omega] at this
    · have := start_j3 r false
      rwa [show (false || decide (945 ≤ r ∧ r ≤ 969)) = (false || decide ((931 ≤ r ∧ r ≤ 937) ∨ (945 ≤ r ∧ r ≤ 969))) by rw [Bool.eq_iff_iff]; simp; omega] at this
  · rw [Bool.true_or]; exact Ev.step (fun k => by rw [glyph_Start.j2]) (Ev.cond rfl (Ev.fin rfl))
theorem start_j1 (r : Int) (b : Bool) : Ev (fun k => glyph_Start.j1 k r b) (b || decide ((913 ≤ r ∧ r ≤ 929) ∨ (931 ≤ r ∧ r ≤ 937) ∨ (945 ≤ r ∧ r ≤ 969))) := by
  cases b
  · refine Ev.step (fun k => by rw [glyph_Start.j1]) (Ev.ncond (by decide) (Ev.ite (fun h => ?_) (fun h => ?_)))
    · have := start_j2 r (decide (r ≤ 929))
      rwa [show (decide (r ≤ 929) || decide ((931 ≤ r ∧ r ≤ 937) ∨ (945 ≤ r ∧ r ≤ 969))) = (false || decide ((913 ≤ r ∧ r ≤ 929) ∨ (931 ≤ r ∧ r ≤ 937) ∨ (945 ≤ r ∧ r ≤ 969))) by rw [Bool.eq_iff_iff]; simp; omega] at this
    · have := start_j2 r false
      rwa [show (false || decide ((931 ≤ r ∧ r ≤ 937) ∨ (945 ≤ r ∧ r ≤ 969))) = (false || decide ((913 ≤ r ∧ r ≤ 929) ∨ (931 ≤ r ∧ r ≤ 937) ∨ (945 ≤ r ∧ r ≤ 969))) by rw [Bool.eq_iff_iff]; simp; omega] at this
  · rw [Bool.true_or]; exact Ev.step (fun k => by rw [glyph_Start.j1]) (Ev.cond rfl (Ev.fin rfl))
theorem start_j0 (r : Int) (b : Bool) : Ev (fun k => glyph_Start.j0 k r b) (b || decide ((97 ≤ r ∧ r ≤ 122) ∨ r = 95 ∨ (913 ≤ r ∧ r ≤ 929) ∨ (931 ≤ r ∧ r ≤ 937) ∨ (945 ≤ r ∧ r ≤ 969))) := by
  cases b
  · refine Ev.step (fun k => by rw [glyph_Start.j0]) (Ev.ncond (by decide) (Ev.ite (fun h => Ev.ite (fun g => ?_) (fun g => ?_)) (fun h => ?_)))
    · have := start_j1 r (decide (r ≤ 122))
      rwa [show (decide (r ≤ 122) || decide ((913 ≤ r ∧ r ≤ 929) ∨ (931 ≤ r ∧ r ≤ 937) ∨ (945 ≤ r ∧ r ≤ 969))) = (false || decide ((97 ≤ r ∧ r ≤ 122) ∨ r = 95 ∨ (913 ≤ r ∧ r ≤ 929) ∨ (931 ≤ r ∧ r ≤ 937) ∨ (945 ≤ r ∧ r ≤ 969))) by rw [Bool.eq_iff_iff]; simp; omega] at this
    · have := start_j1 r (r == 95)
      rwa [show ((r == 95) || decide ((913 ≤ r ∧ r ≤ 929) ∨ (931 ≤ r ∧ r ≤ 937) ∨ (945 ≤ r ∧ r ≤ 969))) = (false || decide ((97 ≤ r ∧ r ≤ 122) ∨ r = 95 ∨ (913 ≤ r ∧ r ≤ 929) ∨ (931 ≤ r ∧ r ≤ 937) ∨ (945 ≤ r ∧ r ≤ 969))) by rw [Bool.eq_iff_iff]; simp; omega] at this
    · have := start_j1 r (r == 95)
      rwa [show ((r == 95) || decide ((913 ≤ r ∧ r ≤ 929) ∨ (931 ≤ r ∧ r ≤ 937) ∨ (945 ≤ r ∧ r ≤ 969))) = (false || decide ((97 ≤ r ∧ r ≤ 122) ∨ r = 95 ∨ (913 ≤ r ∧ r ≤ 929) ∨ (931 ≤ r ∧ r ≤ 937) ∨ (945 ≤ r ∧ r ≤ 969))) by rw [Bool.eq_iff_iff]; simp; omega] at this
  · have := start_j1 r true
    exact Ev.step (fun k => by rw [glyph_Start.j0]) (Ev.cond rfl this)
theorem start_ev (r : Int) : Ev (fun k => glyph_Start.f k r) (startB r) := by
  refine Ev.congr (fun k => by rw [glyph_Start.f]) (Ev.ite (fun h => ?_) (fun h => ?_))
  · have := start_j0 r (decide (r ≤ 90))
    rwa [show (decide (r ≤ 90) || decide ((97 ≤ r ∧ r ≤ 122) ∨ r = 95 ∨ (913 ≤ r ∧ r ≤ 929) ∨ (931 ≤ r ∧ r ≤ 937) ∨ (945 ≤ r ∧ r ≤ 969))) = startB r by rw [startB, Bool.eq_iff_iff]; simp; omega] at this
  · have := start_j0 r false
    rwa [show (false || decide ((97 ≤ r ∧ r ≤ 122) ∨ r = 95 ∨ (913 ≤ r ∧ r ≤ 929) ∨ (931 ≤ r ∧ r ≤ 937) ∨ (945 ≤ r ∧ r ≤ 969))) = startB r by rw [startB, Bool.eq_iff_iff]; simp; omega] at this
theorem rest_ev (r : Int) : Ev (fun k => glyph_Rest.f k r) (restB r) := by
  refine Ev.congr (fun k => by rw [glyph_Rest.f]) (Ev.bind (start_ev r) ?_)
  rw [restB]
  cases startB r
  · refine Ev.ncond (by decide) (Ev.ite (fun h => Ev.ite (fun g => Ev.fin ?_) (fun g => Ev.ite (fun z => Ev.fin ?_) (fun z => Ev.ite (fun y => Ev.fin ?_) (fun y => Ev.fin ?_)))) (fun h => Ev.ite (fun z => Ev.fin ?_) (fun z => Ev.ite (fun y => Ev.fin ?_) (fun y => Ev.fin ?_)))) <;> rw [Bool.false_or, Bool.eq_iff_iff] <;> simp <;> omega
  · exact Ev.cond rfl (Ev.fin rfl)
def resB (s : ByteArray) : Bool := decide (s.toList ∈ [[97, 110, 100], [111, 114], [110, 111, 116], [101, 120], [97, 108, 108], [109, 111, 100], [116, 114, 117, 101], [102, 97, 108, 115, 101]])
theorem res_eq (s : ByteArray) : glyph_Reserved.f s = some (resB s) := by
  unfold glyph_Reserved.f resB
  simp only [List.mem_cons, List.not_mem_nil, or_false]
  repeat' split
  all_goals simp_all
theorem width_pos (s : ByteArray) (pos : Nat) (h : pos < s.size) : 1 ≤ (Utf8.decode s pos).2 := by
  by_cases ha : (s[pos]'h).toNat < 128
  · rw [decode_ascii s pos h ha]
    exact Nat.le_refl _
  · exact (decode_high s pos h (by omega)).2
/-- A name, from a byte on, behind n characters. -/
def nameR : Nat → ByteArray → Nat → Nat → Bool
  | 0, s, _, n => decide (1 ≤ n ∧ n ≤ 16) && !resB s
  | m + 1, s, p, n =>
    if p < s.size then (if (n = 0 → startB ((Utf8.decode s p).1 : Int) = true) ∧ restB ((Utf8.decode s p).1 : Int) = true then nameR m s (p + (Utf8.decode s p).2) (n + 1) else false)
    else decide (1 ≤ n ∧ n ≤ 16) && !resB s
def nameB (s : ByteArray) : Bool := nameR s.size s 0 0
theorem name_end (s : ByteArray) (n : Nat) : Ev (fun k => if (n : Int) > 0 then (if (n : Int) ≤ 16 then (glyph_Reserved.f s).bind fun t => some (!t) else some false) else some false) (decide (1 ≤ n ∧ n ≤ 16) && !resB s) := by
  by_cases h1 : 1 ≤ n
  · by_cases h2 : n ≤ 16
    · refine Ev.cond (by omega) (Ev.cond (by omega) ?_)
      rw [decide_eq_true ⟨h1, h2⟩, Bool.true_and]
      exact Ev.ret (res_eq s) (Ev.fin rfl)
    · rw [decide_eq_false (fun e => h2 e.2)]
      exact Ev.cond (by omega) (Ev.ncond (by omega) (Ev.fin rfl))
  · rw [decide_eq_false (fun e => h1 e.1)]
    exact Ev.ncond (by omega) (Ev.fin rfl)
theorem name_ev (s : ByteArray) (hs : s.size ≤ 9223372036854775807) : Ev (fun k => glyph_Name.f k s) (nameB s) := by
  have key : ∀ (m p n : Nat), s.size ≤ p + m → n ≤ p → (p = 0 ↔ n = 0) → Ev (fun k => glyph_Name.l0 k s p (n : Int)) (nameR m s p n) := by
    intro m
    induction m with
    | zero =>
      intro p n hp hn _
      exact Ev.step (fun k => by rw [glyph_Name.l0]) (Ev.ncond (by omega) (name_end s n))
    | succ m ih =>
      intro p n hp hn hz
      rw [nameR]
      by_cases c : p < s.size
      · rw [if_pos c]
        have hw := width_pos s p c
        refine Ev.step (fun k => by rw [glyph_Name.l0]) (Ev.cond c ?_)
        have st : Ev (fun k => if p = 0 then glyph_Start.f k ((Utf8.decode s p).1 : Int) else some true) (decide (n = 0 → startB ((Utf8.decode s p).1 : Int) = true)) := by
          refine Ev.ite (fun h => ?_) (fun h => Ev.fin ?_)
          · have n0 := hz.1 h
            rw [show decide (n = 0 → startB ((Utf8.decode s p).1 : Int) = true) = startB ((Utf8.decode s p).1 : Int) by rw [Bool.eq_iff_iff]; simp [n0]]
            exact start_ev _
          · have n0 : ¬ n = 0 := fun e => h (hz.2 e)
            exact (decide_eq_true (fun e => absurd e n0)).symm
        refine Ev.bind st (Ev.ite (fun h => Ev.bind (rest_ev _) (Ev.ite (fun g => ?_) (fun g => Ev.fin ?_))) (fun h => Ev.fin ?_))
        · rw [if_pos ⟨of_decide_eq_true h, g⟩, w64 (by omega) (by omega)]
          exact ih (p + (Utf8.decode s p).2) (n + 1) (by omega) (by omega) (by omega)
        · rw [if_neg (fun e => g e.2)]
        · rw [if_neg (fun e => h (decide_eq_true e.1))]
      · rw [if_neg c]
        exact Ev.step (fun k => by rw [glyph_Name.l0]) (Ev.ncond c (name_end s n))
  exact key s.size 0 0 (by omega) (by omega) (by omega)
/-- From a place on: names, each less than the next. -/
def risesR (ns : List ByteArray) : Nat → Nat → Bool
  | 0, _ => true
  | m + 1, i => nameB (rdOf ByteArray.empty ns (i : Int)) && ((decide (i = 0) || Op.bytesLess (rdOf ByteArray.empty ns ((i - 1 : Nat) : Int)).toList (rdOf ByteArray.empty ns (i : Int)).toList) && risesR ns m (i + 1))
def risesB (ns : List ByteArray) : Bool := risesR ns ns.length 0
theorem rises_ev (ns : List ByteArray) (hn : ns.length ≤ 9000000000000000000) (hs : ∀ x ∈ ns, x.size ≤ 9223372036854775807) : Ev (fun k => glyph_Rises.f k ns) (risesB ns) := by
  refine Ev.congr (fun k => by rw [glyph_Rises.f]) ?_
  have key : ∀ (m i : Nat), i + m = ns.length → Ev (fun k => glyph_Rises.l0 k ns ns (ns.length : Int) (i : Int)) (risesR ns m i) := by
    intro m
    induction m with
    | zero =>
      intro i hi
      refine Ev.step (fun k => by rw [glyph_Rises.l0]) (Ev.ncond (by omega) ?_)
      exact Ev.fin rfl
    | succ m ih =>
      intro i hi
      rw [risesR]
      have sz : (rdOf ByteArray.empty ns (i : Int)).size ≤ 9223372036854775807 := by rw [rdOf_get _ ns (show i < ns.length by omega)]; exact hs _ (List.getElem_mem _)
      refine Ev.step (fun k => by rw [glyph_Rises.l0]) (Ev.cond (by omega) (Ev.cond (by omega) (Ev.cond (by omega) (Ev.bind (name_ev _ sz) ?_))))
      refine Ev.ite (fun a => ?_) (fun a => Ev.fin ?_)
      · rw [a, Bool.true_and]
        have nx := ih (i + 1) (by omega)
        refine Ev.ite (fun b => ?_) (fun b => ?_)
        · rw [w64 (x := (i : Int) - 1) (by omega) (by omega), w64 (x := (i : Int) + 1) (by omega) (by omega), show (i : Int) - 1 = ((i - 1 : Nat) : Int) by omega, decide_eq_false (show ¬ i = 0 by omega), Bool.false_or]
          refine Ev.cond (by omega) (Ev.cond (by omega) (Ev.ite (fun c => ?_) (fun c => Ev.fin ?_)))
          · rw [c, Bool.true_and]; exact nx
          · rw [Bool.not_eq_true] at c; rw [c, Bool.false_and]
        · rw [decide_eq_true (show i = 0 by omega), Bool.true_or, Bool.true_and, w64 (by omega) (by omega)]
          exact nx
      · rw [Bool.not_eq_true] at a; rw [a, Bool.false_and]
  exact key ns.length 0 (by omega)
end Go.Proofs.Ytbpeloobnjbgkaa.Pure
namespace Go.Proofs.Ytbpeloobnjbgkaa.Pure
open Go.RowKit Go.Proofs.YtbpeloobnjbgkaaW.PrintWords Go.Proofs.YtbpeloobnjbgkaaW.PrintLast Go.Proofs.YtbpeloobnjbgkaaW.PrintMore Go.Proofs.Ytbpeloobnjbgkaa.X
set_option linter.unusedVariables false
section
variable {a : List Int} {j : Nat}
end
def SZ (ns : List ByteArray) : Prop := ∀ x ∈ ns, x.size ≤ 9223372036854775807
def RZ (nx : List (List Int)) : Prop := ∀ r ∈ nx, r.length ≤ 9000000000000000000
/-! ### The tracks -/
structure Fr (ns : List ByteArray) (n : Nat) : Prop where
  tr : ns.length ≤ 6
  n1 : 1 ≤ n
  n2 : n ≤ 256
  ri : risesB ns = true
section
variable {ns : List ByteArray} {n : Nat}
theorem tracks_yes (hs : SZ ns) (f : Fr ns n) : Ev (fun k => table_tracks.f k ns (n : Int)) true := by
  have := f.tr; have := f.n1; have := f.n2
  refine Ev.congr (fun k => by rw [table_tracks.f]) (Ev.cond (by omega) (Ev.cond (by omega) (Ev.cond (by omega) (Ev.bind (rises_ev ns (by omega) hs) (Ev.fin f.ri)))))
theorem tracks_no (hs : SZ ns) (hn : ¬ Fr ns n) : Ev (fun k => table_tracks.f k ns (n : Int)) false := by
  refine Ev.congr (fun k => by rw [table_tracks.f]) (Ev.ite (fun a => Ev.ite (fun b => Ev.ite (fun c => Ev.bind (rises_ev ns (by omega) hs) (Ev.fin ?_)) (fun _ => Ev.fin rfl)) (fun _ => Ev.fin rfl)) (fun _ => Ev.fin rfl))
  cases e : risesB ns
  · rfl
  · exact absurd ⟨by omega, by omega, by omega, e⟩ hn
/-! ### Machines -/
theorem right_row {r : List Int} {n e : Int} {j : Nat} {f : Nat → Option Int} (hr : r.length ≤ 9000000000000000000) (hnext : (r.length = 2 ^ j ∧ ∀ x ∈ r, 0 ≤ x ∧ x < n) → Ev f e) (hbad : ¬ (r.length = 2 ^ j ∧ ∀ x ∈ r, 0 ≤ x ∧ x < n) → e = 3) :
    Ev (fun k => if (r.length : Int) = ((2 ^ j : Nat) : Int) then ((slices_Min_int_int.f k r).bind fun t113 => (if t113 < 0 then (some 3) else ((slices_Max_int_int.f k r).bind fun t114 => (if t114 ≥ n then (some 3) else f k)))) else (some 3)) e := by
  refine Ev.ite (fun a => ?_) (fun a => Ev.fin (hbad (fun h => a (by rw [h.1]))).symm)
  have al : r.length = 2 ^ j := by omega
  have h1 : 1 ≤ r.length := by have := Nat.two_pow_pos j; omega
  obtain ⟨x, hx, hxs⟩ := min_ev r h1 hr
  obtain ⟨y, hy, hys⟩ := max_ev r h1 hr
  refine Ev.bind hx (Ev.ite (fun b => Ev.fin (hbad (fun h => ?_)).symm) (fun b => Ev.bind hy (Ev.ite (fun c => Ev.fin (hbad (fun h => ?_)).symm) (fun c => hnext ⟨al, fun z hz => ⟨(hxs 0).1 (by omega) z hz, (hys n).1 (by omega) z hz⟩⟩))))
  · have := (hxs 0).2 (fun z hz => (h.2 z hz).1); omega
  · have := (hys n).2 (fun z hz => (h.2 z hz).2); omega
structure DOk (ns : List ByteArray) (ac : List Bool) (nx : List (List Int)) : Prop where
  fr : Fr ns ac.length
  ln : nx.length = ac.length
  rows : ∀ r ∈ nx, r.length = 2 ^ ns.length ∧ ∀ x ∈ r, 0 ≤ x ∧ x < (ac.length : Int)
theorem shl_tr {ns : List ByteArray} (h : ns.length ≤ 6) : shl .i64 1 (ns.length : Int) = ((2 ^ ns.length : Nat) : Int) := shl_pow ⟨ns.length, by omega⟩
variable {ac : List Bool} {nx : List (List Int)}
theorem right_ok (hs : SZ ns) (hr : RZ nx) (d : DOk ns ac nx) : Ev (fun k => table_Right.f k ns ac nx) 0 := by
  have n2 := d.fr.n2
  have ln := d.ln
  refine Ev.congr (fun k => by rw [table_Right.f]) (Ev.bind (tracks_yes hs d.fr) (Ev.cond rfl ?_))
  rw [show ((nx.length : Int) != (ac.length : Int)) = false by simp [d.ln]]
  refine Ev.step (fun k => by rw [table_Right.j0]) (Ev.ncond (by decide) ?_)
  have key : ∀ (m i : Nat), i + m = nx.length → Ev (fun k => table_Right.l0 k (ac.length : Int) nx (nx.length : Int) (i : Int) ns ac nx) 0 := by
    intro m
    induction m with
    | zero => intro i hi; exact Ev.step (fun k => by rw [table_Right.l0]) (Ev.ncond (by omega) (Ev.fin rfl))
    | succ m ih =>
      intro i hi
      refine Ev.step (fun k => by rw [table_Right.l0]) (Ev.cond (by omega) (Ev.cond (by omega) (Ev.cond (by omega) ?_)))
      rw [rdL_get nx (show i < nx.length by omega), shl_tr d.fr.tr, w64 (by omega) (by omega)]
      have mem : nx[i]'(by omega) ∈ nx := List.getElem_mem _
      exact right_row (hr _ mem) (fun _ => ih (i + 1) (by omega)) (fun h => absurd (d.rows _ mem) h)
  exact key nx.length 0 (by omega)
theorem right_no (hs : SZ ns) (hr : RZ nx) (hx : nx.length ≤ 9000000000000000000) (d : ¬ DOk ns ac nx) : Ev (fun k => table_Right.f k ns ac nx) 3 := by
  have stop : ∀ {b}, b = true → Ev (fun k => table_Right.j0 k (ac.length : Int) b ns ac nx) 3 := fun e => e ▸ Ev.step (fun k => by rw [table_Right.j0]) (Ev.cond rfl (Ev.fin rfl))
  by_cases f : Fr ns ac.length
  · refine Ev.congr (fun k => by rw [table_Right.f]) (Ev.bind (tracks_yes hs f) (Ev.cond rfl ?_))
    by_cases ln : nx.length = ac.length
    · rw [show ((nx.length : Int) != (ac.length : Int)) = false by simp [ln]]
      refine Ev.step (fun k => by rw [table_Right.j0]) (Ev.ncond (by decide) ?_)
      obtain ⟨q, hq, bad⟩ : ∃ q, ∃ h : q < nx.length, ¬ (nx[q].length = 2 ^ ns.length ∧ ∀ x ∈ nx[q], 0 ≤ x ∧ x < (ac.length : Int)) :=
        Classical.byContradiction fun c => d ⟨f, ln, fun r hr => by
          obtain ⟨i, hi, rfl⟩ := List.getElem_of_mem hr
          exact Classical.byContradiction fun z => c ⟨i, hi, z⟩⟩
      have key : ∀ (m i : Nat), i + m = q → Ev (fun k => table_Right.l0 k (ac.length : Int) nx (nx.length : Int) (i : Int) ns ac nx) 3 := by
        intro m
        induction m with
        | zero =>
          intro i hi
          obtain rfl : i = q := by omega
          refine Ev.step (fun k => by rw [table_Right.l0]) (Ev.cond (by omega) (Ev.cond (by omega) (Ev.cond (by omega) ?_)))
          rw [rdL_get nx hq, shl_tr f.tr]
          exact right_row (hr _ (List.getElem_mem hq)) (fun h => absurd h bad) (fun _ => rfl)
        | succ m ih =>
          intro i hi
          refine Ev.step (fun k => by rw [table_Right.l0]) (Ev.cond (by omega) (Ev.cond (by omega) (Ev.cond (by omega) ?_)))
          rw [rdL_get nx (show i < nx.length by omega), shl_tr f.tr, w64 (by omega) (by omega)]
          exact right_row (hr _ (List.getElem_mem _)) (fun _ => ih (i + 1) (by omega)) (fun _ => rfl)
      exact key q 0 (by omega)
    · exact stop (bne_iff_ne.2 (by omega))
  · refine Ev.congr (fun k => by rw [table_Right.f]) (Ev.bind (tracks_no hs f) ?_)
    exact Ev.ncond (by decide) (stop rfl)
end
/-! ### The table of a machine -/
section
variable {ns : List ByteArray} {ac : List Bool} {nx : List (List Int)}
end
end Go.Proofs.Ytbpeloobnjbgkaa.Pure
namespace Go.Proofs.Ytbpeloobnjbgkaa.Pure
open Go.RowKit Go.Proofs.YtbpeloobnjbgkaaW.PrintWords Go.Proofs.YtbpeloobnjbgkaaW.PrintLast Go.Proofs.YtbpeloobnjbgkaaW.PrintMore Go.Proofs.Ytbpeloobnjbgkaa.X
set_option linter.unusedVariables false
def pairsB (r : Int) : List Int → Bool
  | a :: b :: t => decide (a ≤ r ∧ r ≤ b) || pairsB r t
  | _ => false
theorem within_ev (r : Int) (l : List Int) (hl : l.length ≤ 1000) : ∀ (m i : Nat), i + 2 * m = l.length → Ev (fun k => tabardref04_within.l0 k r l (i : Int)) (pairsB r (l.drop i)) := by
  intro m
  induction m with
  | zero =>
    intro i hi
    rw [List.drop_eq_nil_of_le (by omega)]
    refine Ev.step (fun k => by rw [tabardref04_within.l0]) (Ev.ncond (by rw [w64 (by omega) (by omega)]; omega) ?_)
    exact Ev.fin rfl
  | succ m ih =>
    intro i hi
    have h1 : i < l.length := by omega
    have h2 : i + 1 < l.length := by omega
    have q := ih (i + 2) (by omega)
    rw [List.drop_eq_getElem_cons h1, List.drop_eq_getElem_cons h2, pairsB]
    refine Ev.step (fun k => by rw [tabardref04_within.l0]) ?_
    rw [w64 (x := (i : Int) + 1) (by omega) (by omega), w64 (x := (i : Int) + 2) (by omega) (by omega), show (i : Int) + 1 = ((i + 1 : Nat) : Int) by omega, rd_get l h1, rd_get l h2]
    refine Ev.cond (by omega) (Ev.cond (by omega) (Ev.cond (by omega) (Ev.ite (fun a => Ev.cond (by omega) (Ev.ite (fun b => Ev.fin ?_) (fun b => ?_))) (fun a => ?_))))
    · rw [decide_eq_true (show l[i] ≤ r ∧ r ≤ l[i + 1] from ⟨a, b⟩), Bool.true_or]
    · rw [decide_eq_false (show ¬ (l[i] ≤ r ∧ r ≤ l[i + 1]) from fun z => b z.2), Bool.false_or]; exact q
    · rw [decide_eq_false (show ¬ (l[i] ≤ r ∧ r ≤ l[i + 1]) from fun z => a z.1), Bool.false_or]; exact q
theorem within_f (r : Int) (l : List Int) (m : Nat) (hl : l.length ≤ 1000) (hm : 0 + 2 * m = l.length) : Ev (fun k => tabardref04_within.f k r l) (pairsB r l) := by
  have := within_ev r l hl m 0 hm
  rw [List.drop_zero] at this
  exact Ev.congr (fun k => by rw [tabardref04_within.f]; rfl) this
theorem rstart_ev (r : Int) : Ev (fun k => tabardref04_Start.f k r) (startB r) := by
  refine Ev.congr (fun k => by rw [tabardref04_Start.f]) (Ev.bind (within_f r [65, 90, 97, 122, 95, 95, 913, 929, 931, 937, 945, 969] 6 (by decide) (by decide)) (Ev.fin ?_))
  simp only [pairsB, startB]
  rw [Bool.eq_iff_iff]; simp; omega
theorem rrest_ev (r : Int) : Ev (fun k => tabardref04_Rest.f k r) (restB r) := by
  refine Ev.congr (fun k => by rw [tabardref04_Rest.f]) (Ev.bind (rstart_ev r) ?_)
  rw [restB]
  cases startB r
  · refine Ev.ncond (by decide) (Ev.bind (within_f r [48, 57, 8242, 8242, 8320, 8329] 3 (by decide) (by decide)) (Ev.fin ?_))
    simp only [pairsB]
    rw [Bool.eq_iff_iff]; simp; omega
  · exact Ev.cond rfl (Ev.fin rfl)
theorem rres_ev (s : ByteArray) : Ev (fun k => tabardref04_Reserved.f k s) (resB s) := by
  refine Ev.congr (fun k => by rw [tabardref04_Reserved.f]) ?_
  have key : ∀ (L : List ByteArray) (hL : L.length ≤ 100) (m i : Nat), i + m = L.length → Ev (fun k => tabardref04_Reserved.l0 k s L (i : Int)) (decide (∃ x ∈ L.drop i, x.toList = s.toList)) := by
    intro L hL m
    induction m with
    | zero =>
      intro i hi
      rw [List.drop_eq_nil_of_le (by omega)]
      refine Ev.step (fun k => by rw [tabardref04_Reserved.l0]) (Ev.ncond (by omega) (Ev.fin ?_))
      simp
    | succ m ih =>
      intro i hi
      have h1 : i < L.length := by omega
      rw [List.drop_eq_getElem_cons h1]
      refine Ev.step (fun k => by rw [tabardref04_Reserved.l0]) (Ev.cond (by omega) (Ev.cond (by omega) ?_))
      rw [rdOf_get _ L h1, w64 (by omega) (by omega)]
      refine Ev.ite (fun c => Ev.fin ?_) (fun c => ?_)
      · exact (decide_eq_true ⟨_, List.mem_cons_self .., c⟩).symm
      · have q := ih (i + 1) (by omega)
        rw [decide_eq_decide.2 (show (∃ x ∈ L[i] :: L.drop (i + 1), x.toList = s.toList) ↔ (∃ x ∈ L.drop (i + 1), x.toList = s.toList) from ⟨fun ⟨x, hx, e⟩ => by
          rcases List.mem_cons.1 hx with rfl | h
          · exact absurd e c
          · exact ⟨x, h, e⟩, fun ⟨x, hx, e⟩ => ⟨x, List.mem_cons_of_mem _ hx, e⟩⟩)]
        exact q
  have := key ([(⟨#[97, 110, 100]⟩ : ByteArray), (⟨#[111, 114]⟩ : ByteArray), (⟨#[110, 111, 116]⟩ : ByteArray), (⟨#[101, 120]⟩ : ByteArray), (⟨#[97, 108, 108]⟩ : ByteArray), (⟨#[109, 111, 100]⟩ : ByteArray), (⟨#[116, 114, 117, 101]⟩ : ByteArray), (⟨#[102, 97, 108, 115, 101]⟩ : ByteArray)] : List ByteArray) (by simp) 8 0 (by simp)
  rw [show resB s = decide (∃ x ∈ List.drop 0 ([(⟨#[97, 110, 100]⟩ : ByteArray), (⟨#[111, 114]⟩ : ByteArray), (⟨#[110, 111, 116]⟩ : ByteArray), (⟨#[101, 120]⟩ : ByteArray), (⟨#[97, 108, 108]⟩ : ByteArray), (⟨#[109, 111, 100]⟩ : ByteArray), (⟨#[116, 114, 117, 101]⟩ : ByteArray), (⟨#[102, 97, 108, 115, 101]⟩ : ByteArray)] : List ByteArray), x.toList = s.toList) from by
    rw [resB]
    apply decide_eq_decide.2
    simp only [List.drop_zero, List.mem_cons, List.not_mem_nil, or_false, exists_eq_or_imp, exists_eq_left, ByteArray.toList_eq]
    simp only [eq_comm]]
  exact this
end Go.Proofs.Ytbpeloobnjbgkaa.Pure
namespace Go.Proofs.Ytbpeloobnjbgkaa.Pure
open Go.RowKit Go.Proofs.YtbpeloobnjbgkaaW.PrintWords Go.Proofs.YtbpeloobnjbgkaaW.PrintLast Go.Proofs.YtbpeloobnjbgkaaW.PrintMore Go.Proofs.Ytbpeloobnjbgkaa.X
set_option linter.unusedVariables false
theorem bt_get (s : ByteArray) {q : Nat} (h : q < s.size) : bt s (q : Int) = ((s.get! q).toNat : Int) := by
  have e := bt_at s (q : Int) (by simpa using h)
  rw [← e]
  simp only [Int.toNat_natCast]
  rw [← get_at s q h]; rfl
theorem get_lt (s : ByteArray) (q : Nat) : (s.get! q).toNat < 256 := (s.get! q).toNat_lt
/-- What Read answers, held against the decoding. -/
def Fits (d : Nat × Nat) (r : Int × Int × Bool) : Prop := (r.2.2 = true ∧ r.1 = (d.1 : Int) ∧ r.2.1 = (d.2 : Int)) ∨ (r.2.2 = false ∧ d = (65533, 1))
section
variable {s : ByteArray} {p : Nat}
theorem read_end {X w L : Int} {i : Int} (hi : ¬ i < w) : ∃ r, Ev (fun k => tabardref04_Read.l0 k s (p : Int) X w L i) r ∧ ((r = (X, w, true) ∧ L ≤ X ∧ X ≤ 1114111 ∧ ¬ (55296 ≤ X ∧ X ≤ 57343)) ∨ (r = (65533, 1, false) ∧ ¬ (L ≤ X ∧ X ≤ 1114111 ∧ ¬ (55296 ≤ X ∧ X ≤ 57343)))) := by
  by_cases h1 : X < L
  · exact ⟨_, Ev.step (fun k => by rw [tabardref04_Read.l0]) (Ev.ncond hi (Ev.cond h1 (Ev.fin rfl))), Or.inr ⟨rfl, by omega⟩⟩
  by_cases h2 : X > 1114111
  · exact ⟨_, Ev.step (fun k => by rw [tabardref04_Read.l0]) (Ev.ncond hi (Ev.ncond h1 (Ev.cond h2 (Ev.fin rfl)))), Or.inr ⟨rfl, by omega⟩⟩
  by_cases h3 : X ≥ 55296
  · by_cases h4 : X ≤ 57343
    · exact ⟨_, Ev.step (fun k => by rw [tabardref04_Read.l0]) (Ev.ncond hi (Ev.ncond h1 (Ev.ncond h2 (Ev.cond h3 (Ev.cond h4 (Ev.fin rfl)))))), Or.inr ⟨rfl, by omega⟩⟩
    · exact ⟨_, Ev.step (fun k => by rw [tabardref04_Read.l0]) (Ev.ncond hi (Ev.ncond h1 (Ev.ncond h2 (Ev.cond h3 (Ev.ncond h4 (Ev.fin rfl)))))), Or.inl ⟨rfl, by omega⟩⟩
  · exact ⟨_, Ev.step (fun k => by rw [tabardref04_Read.l0]) (Ev.ncond hi (Ev.ncond h1 (Ev.ncond h2 (Ev.ncond h3 (Ev.fin rfl))))), Or.inl ⟨rfl, by omega⟩⟩
theorem read_more (hs : s.size ≤ 9223372036854775807) {X w L : Int} {i : Nat} (hi : (i : Int) < w) (hX : 0 ≤ X) (hX2 : X ≤ 20000000) (h : p + i < s.size) :
    (¬ (128 ≤ (s.get! (p + i)).toNat ∧ (s.get! (p + i)).toNat ≤ 191) ∧ Ev (fun k => tabardref04_Read.l0 k s (p : Int) X w L (i : Int)) (65533, 1, false)) ∨
    ((128 ≤ (s.get! (p + i)).toNat ∧ (s.get! (p + i)).toNat ≤ 191) ∧ ∀ r, Ev (fun k => tabardref04_Read.l0 k s (p : Int) (X * 64 + ((s.get! (p + i)).toNat : Int) - 128) w L ((i + 1 : Nat) : Int)) r → Ev (fun k => tabardref04_Read.l0 k s (p : Int) X w L (i : Int)) r) := by
  have b := get_lt s (p + i)
  have e : wrap64 ((p : Int) + (i : Int)) = ((p + i : Nat) : Int) := by rw [w64 (by omega) (by omega)]; omega
  have e2 : wrap64 (bt s ((p + i : Nat) : Int)) = ((s.get! (p + i)).toNat : Int) := by rw [bt_get s h, w64 (by omega) (by omega)]
  by_cases h1 : (s.get! (p + i)).toNat < 128
  · refine Or.inl ⟨by omega, Ev.step (fun k => by rw [tabardref04_Read.l0]) (Ev.cond hi ?_)⟩
    rw [e, e2]
    exact Ev.cond (by omega) (Ev.cond (by omega) (Ev.cond (by omega) (Ev.fin rfl)))
  by_cases h2 : (s.get! (p + i)).toNat > 191
  · refine Or.inl ⟨by omega, Ev.step (fun k => by rw [tabardref04_Read.l0]) (Ev.cond hi ?_)⟩
    rw [e, e2]
    exact Ev.cond (by omega) (Ev.cond (by omega) (Ev.ncond (by omega) (Ev.cond (by omega) (Ev.fin rfl))))
  · refine Or.inr ⟨by omega, fun r hr => Ev.step (fun k => by rw [tabardref04_Read.l0]) (Ev.cond hi ?_)⟩
    rw [e, e2, w64 (x := X * 64) (by omega) (by omega), w64 (x := X * 64 + ((s.get! (p + i)).toNat : Int)) (by omega) (by omega), w64 (x := X * 64 + ((s.get! (p + i)).toNat : Int) - 128) (by omega) (by omega), w64 (x := (i : Int) + 1) (by omega) (by omega)]
    exact Ev.cond (by omega) (Ev.cond (by omega) (Ev.ncond (by omega) (Ev.ncond (by omega) hr)))
theorem read_w2 (hs : s.size ≤ 9223372036854775807) (hp : p < s.size) (h0 : 194 ≤ (s.get! p).toNat ∧ (s.get! p).toNat < 224) :
    ∃ r, Ev (fun k => tabardref04_Read.j2 k s (p : Int) (((s.get! p).toNat : Int) - 192) 2 128) r ∧ Fits (Go.Lib.decodeN (s.size - p) (s.get! p).toNat (s.get! (p + 1)).toNat (s.get! (p + 2)).toNat (s.get! (p + 3)).toNat) r := by
  have g1 := get_lt s (p + 1); have g2 := get_lt s (p + 2); have g3 := get_lt s (p + 3)
  by_cases c : s.size - p < 2
  · refine ⟨_, Ev.step (fun k => by rw [tabardref04_Read.j2]) (Ev.cond (by rw [w64 (by omega) (by omega)]; omega) (Ev.fin rfl)), Or.inr ⟨rfl, ?_⟩⟩
    unfold Go.Lib.decodeN; repeat' split
    all_goals first | (exfalso; omega) | rfl
  · have go : ∀ r, Ev (fun k => tabardref04_Read.l0 k s (p : Int) (((s.get! p).toNat : Int) - 192) 2 128 1) r → Ev (fun k => tabardref04_Read.j2 k s (p : Int) (((s.get! p).toNat : Int) - 192) 2 128) r :=
      by
        intro r h
        refine Ev.step (fun k => by rw [tabardref04_Read.j2]) (Ev.ncond ?_ h)
        rw [w64 (by omega) (by omega)]; omega
    rcases read_more (X := ((s.get! p).toNat : Int) - 192) (w := 2) (L := 128) (i := 1) hs (by omega) (by omega) (by omega) (show p + 1 < s.size by omega) with ⟨bad, e⟩ | ⟨ok1, k1⟩
    · refine ⟨_, go _ e, Or.inr ⟨rfl, ?_⟩⟩
      unfold Go.Lib.decodeN; repeat' split
      all_goals first | (exfalso; omega) | rfl
    · obtain ⟨r, hr, hc⟩ := read_end (s := s) (p := p) (X := (((s.get! p).toNat : Int) - 192) * 64 + ((s.get! (p + 1)).toNat : Int) - 128) (w := 2) (L := 128) (i := ((1 + 1 : Nat) : Int)) (by omega)
      refine ⟨r, go _ (k1 r hr), ?_⟩
      rcases hc with ⟨rfl, hc⟩ | ⟨rfl, hc⟩
      · have d : Go.Lib.decodeN (s.size - p) (s.get! p).toNat (s.get! (p + 1)).toNat (s.get! (p + 2)).toNat (s.get! (p + 3)).toNat = ((s.get! p).toNat % 32 * 64 + (s.get! (p + 1)).toNat % 64, 2) := by
          unfold Go.Lib.decodeN; repeat' split
          all_goals first | (exfalso; omega) | rfl
        rw [d]; exact Or.inl ⟨rfl, by simp only []; omega, rfl⟩
      · refine Or.inr ⟨rfl, ?_⟩
        unfold Go.Lib.decodeN; repeat' split
        all_goals first | (exfalso; omega) | rfl
theorem read_w3 (hs : s.size ≤ 9223372036854775807) (hp : p < s.size) (h0 : 224 ≤ (s.get! p).toNat ∧ (s.get! p).toNat < 240) :
    ∃ r, Ev (fun k => tabardref04_Read.j2 k s (p : Int) (((s.get! p).toNat : Int) - 224) 3 2048) r ∧ Fits (Go.Lib.decodeN (s.size - p) (s.get! p).toNat (s.get! (p + 1)).toNat (s.get! (p + 2)).toNat (s.get! (p + 3)).toNat) r := by
  have g1 := get_lt s (p + 1); have g2 := get_lt s (p + 2); have g3 := get_lt s (p + 3)
  by_cases c : s.size - p < 3
  · refine ⟨_, Ev.step (fun k => by rw [tabardref04_Read.j2]) (Ev.cond (by rw [w64 (by omega) (by omega)]; omega) (Ev.fin rfl)), Or.inr ⟨rfl, ?_⟩⟩
    unfold Go.Lib.decodeN; repeat' split
    all_goals first | (exfalso; omega) | rfl
  · have go : ∀ r, Ev (fun k => tabardref04_Read.l0 k s (p : Int) (((s.get! p).toNat : Int) - 224) 3 2048 1) r → Ev (fun k => tabardref04_Read.j2 k s (p : Int) (((s.get! p).toNat : Int) - 224) 3 2048) r :=
      by
        intro r h
        refine Ev.step (fun k => by rw [tabardref04_Read.j2]) (Ev.ncond ?_ h)
        rw [w64 (by omega) (by omega)]; omega
    rcases read_more (X := ((s.get! p).toNat : Int) - 224) (w := 3) (L := 2048) (i := 1) hs (by omega) (by omega) (by omega) (show p + 1 < s.size by omega) with ⟨bad, e⟩ | ⟨ok1, k1⟩
    · refine ⟨_, go _ e, Or.inr ⟨rfl, ?_⟩⟩
      unfold Go.Lib.decodeN; repeat' split
      all_goals first | (exfalso; omega) | rfl
    rcases read_more (X := (((s.get! p).toNat : Int) - 224) * 64 + ((s.get! (p + 1)).toNat : Int) - 128) (w := 3) (L := 2048) (i := 2) hs (by omega) (by omega) (by omega) (show p + 2 < s.size by omega) with ⟨bad, e⟩ | ⟨ok2, k2⟩
    · refine ⟨_, go _ (k1 _ e), Or.inr ⟨rfl, ?_⟩⟩
      unfold Go.Lib.decodeN; repeat' split
      all_goals first | (exfalso; omega) | rfl
    · obtain ⟨r, hr, hc⟩ := read_end (s := s) (p := p) (X := ((((s.get! p).toNat : Int) - 224) * 64 + ((s.get! (p + 1)).toNat : Int) - 128) * 64 + ((s.get! (p + 2)).toNat : Int) - 128) (w := 3) (L := 2048) (i := ((2 + 1 : Nat) : Int)) (by omega)
      refine ⟨r, go _ (k1 _ (k2 r hr)), ?_⟩
      rcases hc with ⟨rfl, hc⟩ | ⟨rfl, hc⟩
      · have d : Go.Lib.decodeN (s.size - p) (s.get! p).toNat (s.get! (p + 1)).toNat (s.get! (p + 2)).toNat (s.get! (p + 3)).toNat = ((s.get! p).toNat % 16 * 4096 + (s.get! (p + 1)).toNat % 64 * 64 + (s.get! (p + 2)).toNat % 64, 3) := by
          unfold Go.Lib.decodeN; repeat' split
          all_goals first | (exfalso; omega) | rfl
        rw [d]; exact Or.inl ⟨rfl, by simp only []; omega, rfl⟩
      · refine Or.inr ⟨rfl, ?_⟩
        unfold Go.Lib.decodeN; repeat' split
        all_goals first | (exfalso; omega) | rfl
theorem read_w4 (hs : s.size ≤ 9223372036854775807) (hp : p < s.size) (h0 : 240 ≤ (s.get! p).toNat ∧ (s.get! p).toNat < 245) :
    ∃ r, Ev (fun k => tabardref04_Read.j2 k s (p : Int) (((s.get! p).toNat : Int) - 240) 4 65536) r ∧ Fits (Go.Lib.decodeN (s.size - p) (s.get! p).toNat (s.get! (p + 1)).toNat (s.get! (p + 2)).toNat (s.get! (p + 3)).toNat) r := by
  have g1 := get_lt s (p + 1); have g2 := get_lt s (p + 2); have g3 := get_lt s (p + 3)
  by_cases c : s.size - p < 4
  · refine ⟨_, Ev.step (fun k => by rw [tabardref04_Read.j2]) (Ev.cond (by rw [w64 (by omega) (by omega)]; omega) (Ev.fin rfl)), Or.inr ⟨rfl, ?_⟩⟩
    unfold Go.Lib.decodeN; repeat' split
    all_goals first | (exfalso; omega) | rfl
  · have go : ∀ r, Ev (fun k => tabardref04_Read.l0 k s (p : Int) (((s.get! p).toNat : Int) - 240) 4 65536 1) r → Ev (fun k => tabardref04_Read.j2 k s (p : Int) (((s.get! p).toNat : Int) - 240) 4 65536) r :=
      by
        intro r h
        refine Ev.step (fun k => by rw [tabardref04_Read.j2]) (Ev.ncond ?_ h)
        rw [w64 (by omega) (by omega)]; omega
    rcases read_more (X := ((s.get! p).toNat : Int) - 240) (w := 4) (L := 65536) (i := 1) hs (by omega) (by omega) (by omega) (show p + 1 < s.size by omega) with ⟨bad, e⟩ | ⟨ok1, k1⟩
    · refine ⟨_, go _ e, Or.inr ⟨rfl, ?_⟩⟩
      unfold Go.Lib.decodeN; repeat' split
      all_goals first | (exfalso; omega) | rfl
    rcases read_more (X := (((s.get! p).toNat : Int) - 240) * 64 + ((s.get! (p + 1)).toNat : Int) - 128) (w := 4) (L := 65536) (i := 2) hs (by omega) (by omega) (by omega) (show p + 2 < s.size by omega) with ⟨bad, e⟩ | ⟨ok2, k2⟩
    · refine ⟨_, go _ (k1 _ e), Or.inr ⟨rfl, ?_⟩⟩
      unfold Go.Lib.decodeN; repeat' split
      all_goals first | (exfalso; omega) | rfl
    rcases read_more (X := ((((s.get! p).toNat : Int) - 240) * 64 + ((s.get! (p + 1)).toNat : Int) - 128) * 64 + ((s.get! (p + 2)).toNat : Int) - 128) (w := 4) (L := 65536) (i := 3) hs (by omega) (by omega) (by omega) (show p + 3 < s.size by omega) with ⟨bad, e⟩ | ⟨ok3, k3⟩
    · refine ⟨_, go _ (k1 _ (k2 _ e)), Or.inr ⟨rfl, ?_⟩⟩
      unfold Go.Lib.decodeN; repeat' split
      all_goals first | (exfalso; omega) | rfl
    · obtain ⟨r, hr, hc⟩ := read_end (s := s) (p := p) (X := (((((s.get! p).toNat : Int) - 240) * 64 + ((s.get! (p + 1)).toNat : Int) - 128) * 64 + ((s.get! (p + 2)).toNat : Int) - 128) * 64 + ((s.get! (p + 3)).toNat : Int) - 128) (w := 4) (L := 65536) (i := ((3 + 1 : Nat) : Int)) (by omega)
      refine ⟨r, go _ (k1 _ (k2 _ (k3 r hr))), ?_⟩
      rcases hc with ⟨rfl, hc⟩ | ⟨rfl, hc⟩
      · have d : Go.Lib.decodeN (s.size - p) (s.get! p).toNat (s.get! (p + 1)).toNat (s.get! (p + 2)).toNat (s.get! (p + 3)).toNat = ((s.get! p).toNat % 8 * 262144 + (s.get! (p + 1)).toNat % 64 * 4096 + (s.get! (p + 2)).toNat % 64 * 64 + (s.get! (p + 3)).toNat % 64, 4) := by
          unfold Go.Lib.decodeN; repeat' split
          all_goals first | (exfalso; omega) | rfl
        rw [d]; exact Or.inl ⟨rfl, by simp only []; omega, rfl⟩
      · refine Or.inr ⟨rfl, ?_⟩
        unfold Go.Lib.decodeN; repeat' split
        all_goals first | (exfalso; omega) | rfl
theorem read_ev (hs : s.size ≤ 9223372036854775807) (hp : p < s.size) : ∃ r, Ev (fun k => tabardref04_Read.f k s (p : Int)) r ∧ Fits (Utf8.decode s p) r := by
  rw [Go.Lib.decode_at]
  have b := get_lt s p
  have g1 := get_lt s (p + 1); have g2 := get_lt s (p + 2); have g3 := get_lt s (p + 3)
  have e0 : wrap64 (bt s (p : Int)) = ((s.get! p).toNat : Int) := by rw [bt_get s hp, w64 (by omega) (by omega)]
  have enter : ∀ r, Ev (fun k => if ((s.get! p).toNat : Int) < 128 then (some (((s.get! p).toNat : Int), (1 : Int), true)) else (if ((s.get! p).toNat : Int) ≥ 194 then (tabardref04_Read.j0 k s (p : Int) ((s.get! p).toNat : Int) (decide (((s.get! p).toNat : Int) < 224))) else (tabardref04_Read.j0 k s (p : Int) ((s.get! p).toNat : Int) false))) r → Ev (fun k => tabardref04_Read.f k s (p : Int)) r := by
    intro r h
    refine Ev.congr (fun k => by rw [tabardref04_Read.f, e0]) (Ev.cond (by omega) (Ev.cond (by omega) h))
  by_cases c0 : (s.get! p).toNat < 128
  · refine ⟨_, enter _ (Ev.cond (by omega) (Ev.fin rfl)), Or.inl ⟨rfl, ?_, ?_⟩⟩ <;> unfold Go.Lib.decodeN <;> rw [if_pos c0]
    rfl
  have w1 : wrap64 (((s.get! p).toNat : Int) - 192) = ((s.get! p).toNat : Int) - 192 := w64 (by omega) (by omega)
  have w2 : wrap64 (((s.get! p).toNat : Int) - 224) = ((s.get! p).toNat : Int) - 224 := w64 (by omega) (by omega)
  have w3 : wrap64 (((s.get! p).toNat : Int) - 240) = ((s.get! p).toNat : Int) - 240 := w64 (by omega) (by omega)
  by_cases c1 : 194 ≤ (s.get! p).toNat ∧ (s.get! p).toNat < 224
  · obtain ⟨r, hr, hf⟩ := read_w2 hs hp c1
    refine ⟨r, enter _ (Ev.ncond (by omega) (Ev.cond (by omega) ?_)), hf⟩
    rw [decide_eq_true (show ((s.get! p).toNat : Int) < 224 by omega)]
    refine Ev.step (fun k => by rw [tabardref04_Read.j0, w1]) (Ev.cond rfl hr)
  have j1 : ∀ r, (¬ ((s.get! p).toNat : Int) < 224 ∨ ¬ ((s.get! p).toNat : Int) ≥ 194) → Ev (fun k => if ((s.get! p).toNat : Int) ≥ 224 then tabardref04_Read.j1 k s (p : Int) ((s.get! p).toNat : Int) (decide (((s.get! p).toNat : Int) < 240)) else tabardref04_Read.j1 k s (p : Int) ((s.get! p).toNat : Int) false) r → Ev (fun k => tabardref04_Read.f k s (p : Int)) r := by
    intro r hc h
    refine enter _ (Ev.ncond (by omega) (Ev.ite (fun g => ?_) (fun g => ?_)))
    · rw [decide_eq_false (show ¬ ((s.get! p).toNat : Int) < 224 by omega)]
      exact Ev.step (fun k => by rw [tabardref04_Read.j0]) (Ev.ncond (by decide) h)
    · exact Ev.step (fun k => by rw [tabardref04_Read.j0]) (Ev.ncond (by decide) h)
  by_cases c2 : 224 ≤ (s.get! p).toNat ∧ (s.get! p).toNat < 240
  · obtain ⟨r, hr, hf⟩ := read_w3 hs hp c2
    refine ⟨r, j1 _ (by omega) (Ev.cond (by omega) ?_), hf⟩
    rw [decide_eq_true (show ((s.get! p).toNat : Int) < 240 by omega)]
    refine Ev.step (fun k => by rw [tabardref04_Read.j1, w2]) (Ev.cond rfl hr)
  by_cases c3 : 240 ≤ (s.get! p).toNat ∧ (s.get! p).toNat < 245
  · obtain ⟨r, hr, hf⟩ := read_w4 hs hp c3
    refine ⟨r, j1 _ (by omega) (Ev.cond (by omega) ?_), hf⟩
    rw [decide_eq_false (show ¬ ((s.get! p).toNat : Int) < 240 by omega)]
    refine Ev.step (fun k => by rw [tabardref04_Read.j1, w3]) (Ev.ncond (by decide) (Ev.cond (by omega) (Ev.cond (by omega) hr)))
  · refine ⟨(65533, 1, false), j1 _ (by omega) (Ev.ite (fun g => ?_) (fun g => ?_)), Or.inr ⟨rfl, ?_⟩⟩
    · rw [decide_eq_false (show ¬ ((s.get! p).toNat : Int) < 240 by omega)]
      exact Ev.step (fun k => by rw [tabardref04_Read.j1]) (Ev.ncond (by decide) (Ev.cond (by omega) (Ev.ncond (by omega) (Ev.fin rfl))))
    · exact Ev.step (fun k => by rw [tabardref04_Read.j1]) (Ev.ncond (by decide) (Ev.ncond (by omega) (Ev.fin rfl)))
    · unfold Go.Lib.decodeN; repeat' split
      all_goals first | (exfalso; omega) | rfl
end
end Go.Proofs.Ytbpeloobnjbgkaa.Pure
namespace Go.Proofs.Ytbpeloobnjbgkaa.Pure
open Go.RowKit Go.Proofs.YtbpeloobnjbgkaaW.PrintWords Go.Proofs.YtbpeloobnjbgkaaW.PrintLast Go.Proofs.YtbpeloobnjbgkaaW.PrintMore Go.Proofs.Ytbpeloobnjbgkaa.X
set_option linter.unusedVariables false
theorem rname_end (s : ByteArray) (n : Nat) : Ev (fun k => if (n : Int) ≥ 1 then (if (n : Int) ≤ 16 then ((tabardref04_Reserved.f k s).bind fun t => some (!t)) else some false) else some false) (decide (1 ≤ n ∧ n ≤ 16) && !resB s) := by
  by_cases h1 : 1 ≤ n
  · by_cases h2 : n ≤ 16
    · refine Ev.cond (by omega) (Ev.cond (by omega) ?_)
      rw [decide_eq_true ⟨h1, h2⟩, Bool.true_and]
      exact Ev.bind (rres_ev s) (Ev.fin rfl)
    · rw [decide_eq_false (fun e => h2 e.2)]
      exact Ev.cond (by omega) (Ev.ncond (by omega) (Ev.fin rfl))
  · rw [decide_eq_false (fun e => h1 e.1)]
    exact Ev.ncond (by omega) (Ev.fin rfl)
theorem decN_le (n a b c d : Nat) (h : 1 ≤ n) : (Go.Lib.decodeN n a b c d).2 ≤ n := by
  unfold Go.Lib.decodeN; repeat' split
  all_goals (simp only []; omega)
theorem dec_in (s : ByteArray) (p : Nat) (h : p < s.size) : p + (Utf8.decode s p).2 ≤ s.size := by
  rw [Go.Lib.decode_at]
  have := decN_le (s.size - p) (s.get! p).toNat (s.get! (p + 1)).toNat (s.get! (p + 2)).toNat (s.get! (p + 3)).toNat (by omega)
  omega
theorem rest_bad : restB ((65533 : Nat) : Int) = false := by decide +kernel
theorem rname_ev (s : ByteArray) (hs : s.size ≤ 9223372036854775807) : Ev (fun k => tabardref04_Name.f k s) (nameB s) := by
  have key : ∀ (m p n : Nat), s.size ≤ p + m → p ≤ s.size → n ≤ p → Ev (fun k => tabardref04_Name.l0 k s (n : Int) (p : Int)) (nameR m s p n) := by
    intro m
    induction m with
    | zero =>
      intro p n hp _ hn
      exact Ev.step (fun k => by rw [tabardref04_Name.l0]) (Ev.ncond (by omega) (rname_end s n))
    | succ m ih =>
      intro p n hp hp2 hn
      rw [nameR]
      by_cases c : p < s.size
      · rw [if_pos c]
        have hw := width_pos s p c
        obtain ⟨r, hr, hf⟩ := read_ev hs c
        refine Ev.step (fun k => by rw [tabardref04_Name.l0]) (Ev.cond (by omega) (Ev.bind hr ?_))
        rcases hf with ⟨f1, f2, f3⟩ | ⟨f1, f2⟩
        · have hb : p + (Utf8.decode s p).2 ≤ s.size := dec_in s p c
          rw [f2, f3]
          refine Ev.cond f1 ?_
          have go : restB ((Utf8.decode s p).1 : Int) = true → Ev (fun k => tabardref04_Name.l0 k s (wrap64 ((n : Int) + 1)) (wrap64 ((p : Int) + ((Utf8.decode s p).2 : Int)))) (nameR m s (p + (Utf8.decode s p).2) (n + 1)) := by
            intro _
            rw [w64 (x := (n : Int) + 1) (by omega) (by omega), w64 (x := (p : Int) + ((Utf8.decode s p).2 : Int)) (by omega) (by omega)]
            have := ih (p + (Utf8.decode s p).2) (n + 1) (by omega) hb (by omega)
            rwa [Int.natCast_add, Int.natCast_add] at this
          have tail : (n = 0 → startB ((Utf8.decode s p).1 : Int) = true) → Ev (fun k => (tabardref04_Rest.f k ((Utf8.decode s p).1 : Int)).bind fun t => (if t = true then (tabardref04_Name.l0 k s (wrap64 ((n : Int) + 1)) (wrap64 ((p : Int) + ((Utf8.decode s p).2 : Int)))) else (some false))) (if (n = 0 → startB ((Utf8.decode s p).1 : Int) = true) ∧ restB ((Utf8.decode s p).1 : Int) = true then nameR m s (p + (Utf8.decode s p).2) (n + 1) else false) := by
            intro h
            refine Ev.bind (rrest_ev _) (Ev.ite (fun g => ?_) (fun g => Ev.fin ?_))
            · rw [if_pos ⟨h, g⟩]; exact go g
            · rw [if_neg (fun e => g e.2)]
          refine Ev.ite (fun z => Ev.bind (rstart_ev _) (Ev.ite (fun h => tail (fun _ => h)) (fun h => Ev.fin ?_))) (fun z => tail (fun e => absurd (show (n : Int) = 0 by omega) z))
          rw [if_neg (fun e => h (e.1 (by omega)))]
        · rw [if_neg (fun e => by rw [f2] at e; exact absurd e.2 (by rw [rest_bad]; decide))]
          exact Ev.ncond (by rw [f1]; decide) (Ev.fin rfl)
      · rw [if_neg c]
        exact Ev.step (fun k => by rw [tabardref04_Name.l0]) (Ev.ncond (by omega) (rname_end s n))
  exact Ev.congr (fun k => by rw [tabardref04_Name.f]; rfl) (key s.size 0 0 (by omega) (by omega) (by omega))
theorem rrises_ev (ns : List ByteArray) (hn : ns.length ≤ 9000000000000000000) (hs : ∀ x ∈ ns, x.size ≤ 9223372036854775807) : Ev (fun k => tabardref04_Rises.f k ns) (risesB ns) := by
  have key : ∀ (m i : Nat), i + m = ns.length → Ev (fun k => tabardref04_Rises.l0 k ns (i : Int)) (risesR ns m i) := by
    intro m
    induction m with
    | zero =>
      intro i hi
      refine Ev.step (fun k => by rw [tabardref04_Rises.l0]) (Ev.ncond (by omega) ?_)
      exact Ev.fin rfl
    | succ m ih =>
      intro i hi
      rw [risesR]
      have sz : (rdOf ByteArray.empty ns (i : Int)).size ≤ 9223372036854775807 := by rw [rdOf_get _ ns (show i < ns.length by omega)]; exact hs _ (List.getElem_mem _)
      refine Ev.step (fun k => by rw [tabardref04_Rises.l0]) (Ev.cond (by omega) (Ev.cond (by omega) (Ev.bind (rname_ev _ sz) ?_)))
      refine Ev.ite (fun a => ?_) (fun a => Ev.fin ?_)
      · rw [a, Bool.true_and]
        have nx := ih (i + 1) (by omega)
        refine Ev.ite (fun b => ?_) (fun b => ?_)
        · rw [w64 (x := (i : Int) - 1) (by omega) (by omega), w64 (x := (i : Int) + 1) (by omega) (by omega), show (i : Int) - 1 = ((i - 1 : Nat) : Int) by omega, decide_eq_false (show ¬ i = 0 by omega), Bool.false_or]
          refine Ev.cond (by omega) (Ev.cond (by omega) (Ev.ite (fun c => ?_) (fun c => Ev.fin ?_)))
          · rw [c, Bool.true_and]; exact nx
          · rw [Bool.not_eq_true] at c; rw [c, Bool.false_and]
        · rw [decide_eq_true (show i = 0 by omega), Bool.true_or, Bool.true_and, w64 (by omega) (by omega)]
          exact nx
      · rw [Bool.not_eq_true] at a; rw [a, Bool.false_and]
  exact Ev.congr (fun k => by rw [tabardref04_Rises.f]; rfl) (key ns.length 0 (by omega))
section
variable {ns : List ByteArray} {n : Nat}
theorem rframe_yes (hs : SZ ns) (f : Fr ns n) : Ev (fun k => tabardref12_Frame.f k ns (n : Int)) true := by
  have := f.tr; have := f.n1; have := f.n2
  refine Ev.congr (fun k => by rw [tabardref12_Frame.f]) (Ev.cond (by omega) (Ev.bind (rrises_ev ns (by omega) hs) (Ev.cond f.ri (Ev.cond (show (n : Int) ≥ 1 by omega) (Ev.fin ?_)))))
  exact decide_eq_true (show (n : Int) ≤ 256 by omega)
theorem rframe_no (hs : SZ ns) (hn : ¬ Fr ns n) : Ev (fun k => tabardref12_Frame.f k ns (n : Int)) false := by
  refine Ev.congr (fun k => by rw [tabardref12_Frame.f]) (Ev.ite (fun a => Ev.bind (rrises_ev ns (by omega) hs) (Ev.ite (fun b => Ev.ite (fun c => Ev.fin ?_) (fun _ => Ev.fin rfl)) (fun _ => Ev.fin rfl))) (fun _ => Ev.fin rfl))
  exact decide_eq_false (fun e : (n : Int) ≤ 256 => hn ⟨by omega, by omega, by omega, b⟩)
theorem rletters_ev (h : ns.length ≤ 6) : Ev (fun k => tabardref12_Letters.f k (ns.length : Int)) ((2 ^ ns.length : Nat) : Int) := by
  have key : ∀ (m i : Nat), i + m = ns.length → Ev (fun k => tabardref12_Letters.l0 k (ns.length : Int) ((2 ^ i : Nat) : Int) (i : Int)) ((2 ^ ns.length : Nat) : Int) := by
    intro m
    induction m with
    | zero =>
      intro i hi
      obtain rfl : i = ns.length := by omega
      exact Ev.step (fun k => by rw [tabardref12_Letters.l0]) (Ev.ncond (by omega) (Ev.fin rfl))
    | succ m ih =>
      intro i hi
      have p := pow6 (show i ≤ 6 by omega)
      have q := ih (i + 1) (by omega)
      rw [Nat.pow_succ] at q
      refine Ev.step (fun k => by rw [tabardref12_Letters.l0]) (Ev.cond (by omega) ?_)
      generalize 2 ^ i = P at p q ⊢
      rw [w64 (x := (P : Int) * 2) (by omega) (by omega), w64 (x := (i : Int) + 1) (by omega) (by omega)]
      rwa [Int.natCast_mul, Int.natCast_add] at q
  exact Ev.congr (fun k => by rw [tabardref12_Letters.f]; rfl) (key ns.length 0 (by omega))
variable {ac : List Bool} {nx : List (List Int)}
theorem rright_row {q : Nat} (hq : q < nx.length) (hr : (nx[q]).length ≤ 9000000000000000000) {N : Int} {e : Bool} (hgood : (∀ x ∈ nx[q], 0 ≤ x ∧ x < N) → Ev (fun k => tabardref12_Right.l0 k N (wrap64 ((q : Int) + 1)) ns ac nx) e) (hbad : ¬ (∀ x ∈ nx[q], 0 ≤ x ∧ x < N) → e = false) :
    ∀ (m i : Nat), i + m = (nx[q]).length → (∀ x ∈ (nx[q]).take i, 0 ≤ x ∧ x < N) → Ev (fun k => tabardref12_Right.l1 k N (q : Int) (i : Int) ns ac nx) e := by
  intro m
  induction m with
  | zero =>
    intro i hi h
    rw [List.take_of_length_le (by omega)] at h
    refine Ev.step (fun k => by rw [tabardref12_Right.l1]) (Ev.cond (by omega) (Ev.cond (by omega) ?_))
    rw [rdL_get nx hq]
    exact Ev.ncond (by omega) (hgood h)
  | succ m ih =>
    intro i hi h
    have ii : i < (nx[q]).length := by omega
    refine Ev.step (fun k => by rw [tabardref12_Right.l1]) (Ev.cond (by omega) (Ev.cond (by omega) ?_))
    rw [rdL_get nx hq, rd_get _ ii, w64 (x := (i : Int) + 1) (by omega) (by omega)]
    refine Ev.cond (by omega) (Ev.cond (by omega) (Ev.ite (fun a => Ev.fin ?_) (fun a => Ev.ite (fun b => Ev.fin ?_) (fun b => ?_))))
    · exact (hbad (fun z => by have := z _ (List.getElem_mem ii); omega)).symm
    · exact (hbad (fun z => by have := z _ (List.getElem_mem ii); omega)).symm
    · refine ih (i + 1) (by omega) ?_
      rw [List.take_succ_eq_append_getElem ii]
      intro x hx
      rcases List.mem_append.1 hx with g | g
      · exact h x g
      · rw [List.mem_singleton.1 g]; omega
theorem rright_rows (h6 : ns.length ≤ 6) (hr : RZ nx) (n2 : nx.length ≤ 9000000000000000000) {e : Bool} (good : (∀ r ∈ nx, r.length = 2 ^ ns.length ∧ ∀ x ∈ r, 0 ≤ x ∧ x < (nx.length : Int)) → e = true) (bad : ¬ (∀ r ∈ nx, r.length = 2 ^ ns.length ∧ ∀ x ∈ r, 0 ≤ x ∧ x < (nx.length : Int)) → e = false) :
    ∀ (m i : Nat), i + m = nx.length → (∀ r ∈ nx.take i, r.length = 2 ^ ns.length ∧ ∀ x ∈ r, 0 ≤ x ∧ x < (nx.length : Int)) → Ev (fun k => tabardref12_Right.l0 k (nx.length : Int) (i : Int) ns ac nx) e := by
  intro m
  induction m with
  | zero =>
    intro i hi h
    rw [List.take_of_length_le (by omega)] at h
    exact Ev.step (fun k => by rw [tabardref12_Right.l0]) (Ev.ncond (by omega) (Ev.fin (good h).symm))
  | succ m ih =>
    intro i hi h
    have ii : i < nx.length := by omega
    have mem := List.getElem_mem ii
    refine Ev.step (fun k => by rw [tabardref12_Right.l0]) (Ev.cond (by omega) (Ev.cond (by omega) (Ev.cond (by omega) (Ev.bind (rletters_ev h6) ?_))))
    rw [rdL_get nx ii]
    refine Ev.ite (fun a => ?_) (fun a => Ev.fin (bad (fun z => a (by rw [(z _ mem).1]))).symm)
    refine rright_row ii (hr _ mem) (fun z => ?_) (fun z => bad (fun y => z (y _ mem).2)) (nx[i]).length 0 (by omega) (by simp)
    rw [w64 (by omega) (by omega)]
    refine ih (i + 1) (by omega) ?_
    rw [List.take_succ_eq_append_getElem ii]
    intro x hx
    rcases List.mem_append.1 hx with g | g
    · exact h x g
    · rw [List.mem_singleton.1 g]; exact ⟨by omega, z⟩
theorem rright_yes (hs : SZ ns) (hr : RZ nx) (d : DOk ns ac nx) : Ev (fun k => tabardref12_Right.f k ns ac nx) true := by
  have n2 := d.fr.n2
  have ln := d.ln
  refine Ev.congr (fun k => by rw [tabardref12_Right.f]) (Ev.bind (rframe_yes hs d.fr) (Ev.cond rfl ?_))
  rw [show ((nx.length : Int) != (ac.length : Int)) = false by simp [d.ln], ← ln]
  refine Ev.step (fun k => by rw [tabardref12_Right.j0]) (Ev.ncond (by decide) ?_)
  exact rright_rows d.fr.tr hr (by omega) (fun _ => rfl) (fun z => absurd (by rw [ln]; exact d.rows) z) nx.length 0 (by omega) (by simp)
theorem rright_no (hs : SZ ns) (hr : RZ nx) (hx : nx.length ≤ 9000000000000000000) (d : ¬ DOk ns ac nx) : Ev (fun k => tabardref12_Right.f k ns ac nx) false := by
  have stop : ∀ {b}, b = true → Ev (fun k => tabardref12_Right.j0 k (ac.length : Int) b ns ac nx) false := fun e => e ▸ Ev.step (fun k => by rw [tabardref12_Right.j0]) (Ev.cond rfl (Ev.fin rfl))
  by_cases f : Fr ns ac.length
  · refine Ev.congr (fun k => by rw [tabardref12_Right.f]) (Ev.bind (rframe_yes hs f) (Ev.cond rfl ?_))
    by_cases ln : nx.length = ac.length
    · rw [show ((nx.length : Int) != (ac.length : Int)) = false by simp [ln], ← ln]
      refine Ev.step (fun k => by rw [tabardref12_Right.j0]) (Ev.ncond (by decide) ?_)
      exact rright_rows f.tr hr (by omega) (fun z => absurd ⟨f, ln, by rw [← ln]; exact z⟩ d) (fun _ => rfl) nx.length 0 (by omega) (by simp)
    · exact stop (bne_iff_ne.2 (by omega))
  · refine Ev.congr (fun k => by rw [tabardref12_Right.f]) (Ev.bind (rframe_no hs f) ?_)
    exact Ev.ncond (by decide) (stop rfl)
end
end Go.Proofs.Ytbpeloobnjbgkaa.Pure
namespace Go.Proofs.Ytbpeloobnjbgkaa.Pure
open Go.RowKit Go.Proofs.YtbpeloobnjbgkaaW.PrintWords Go.Proofs.YtbpeloobnjbgkaaW.PrintLast Go.Proofs.YtbpeloobnjbgkaaW.PrintMore Go.Proofs.Ytbpeloobnjbgkaa.X
set_option linter.unusedVariables false
/-! ### A right machine's rows -/
def acF (ac : List Bool) (q : Nat) : Bool := ac.getD q false
def dlF (nx : List (List Int)) (q a : Nat) : Nat := ((nx.getD q []).getD a 0).toNat
structure Mk (ac : List Bool) (nx : List (List Int)) (L : Nat) : Prop where
  len : nx.length = ac.length
  n1 : 1 ≤ ac.length
  n2 : ac.length ≤ 256
  l1 : 1 ≤ L
  l2 : L ≤ 64
  rows : ∀ r ∈ nx, r.length = L ∧ ∀ x ∈ r, 0 ≤ x ∧ x < (ac.length : Int)
section
variable {ac : List Bool} {nx : List (List Int)} {L : Nat}
theorem Mk.row (h : Mk ac nx L) {q : Nat} (hq : q < ac.length) : (rd_L1 nx (q : Int)).length = L ∧ ∀ a : Nat, a < L → rd (rd_L1 nx (q : Int)) (a : Int) = ((dlF nx q a : Nat) : Int) ∧ dlF nx q a < ac.length := by
  have hq' : q < nx.length := by rw [h.len]; exact hq
  have r := h.rows _ (List.getElem_mem hq')
  rw [rdL_get nx hq']
  refine ⟨r.1, fun a ha => ?_⟩
  have ha' : a < (nx[q]).length := by rw [r.1]; exact ha
  have x := r.2 _ (List.getElem_mem ha')
  have e : dlF nx q a = ((nx[q])[a]).toNat := by simp [dlF, List.getD_eq_getElem?_getD, List.getElem?_eq_getElem hq', List.getElem?_eq_getElem ha']
  rw [rd_get _ ha', e]
  omega
theorem Mk.acc (h : Mk ac nx L) {q : Nat} (hq : q < ac.length) : rdOf false ac (q : Int) = acF ac q := by
  rw [rdOf_get false ac hq, acF, List.getD_eq_getElem?_getD, List.getElem?_eq_getElem hq]; rfl
end
end Go.Proofs.Ytbpeloobnjbgkaa.Pure
namespace Go.Proofs.Ytbpeloobnjbgkaa.Pure
set_option linter.unusedVariables false
/-! ### Names in the order in which they are met -/
section
variable {α : Type} [DecidableEq α]
def nm (ms : List α) (x : α) : List α := if x ∈ ms then ms else ms ++ [x]
def dd (l : List α) : List α := l.foldl nm []
theorem nm_mem {ms : List α} {x y : α} : y ∈ nm ms x ↔ y ∈ ms ∨ y = x := by
  unfold nm
  split
  · rename_i h
    exact ⟨Or.inl, fun g => g.elim id (fun e => e ▸ h)⟩
  · simp
theorem nm_nodup {ms : List α} (h : ms.Nodup) (x : α) : (nm ms x).Nodup := by
  unfold nm
  split
  · exact h
  · rename_i g
    rw [List.nodup_append]
    exact ⟨h, by simp, fun a ha b hb e => g (by rw [List.mem_singleton.1 hb] at e; exact e ▸ ha)⟩
theorem nm_pre (ms : List α) (x : α) : ∃ t, nm ms x = ms ++ t := by
  unfold nm
  split
  · exact ⟨[], by simp⟩
  · exact ⟨_, rfl⟩
theorem foldl_pre (l : List α) : ∀ ms : List α, ∃ t, l.foldl nm ms = ms ++ t := by
  induction l with
  | nil => intro ms; exact ⟨[], by simp⟩
  | cons x l ih =>
    intro ms
    obtain ⟨t, ht⟩ := nm_pre ms x
    obtain ⟨u, hu⟩ := ih (nm ms x)
    exact ⟨t ++ u, by rw [List.foldl_cons, hu, ht, List.append_assoc]⟩
theorem foldl_mem (l : List α) : ∀ (ms : List α) (y : α), y ∈ l.foldl nm ms ↔ y ∈ ms ∨ y ∈ l := by
  induction l with
  | nil => intro ms y; simp
  | cons x l ih => intro ms y; rw [List.foldl_cons, ih, nm_mem, List.mem_cons, or_assoc]
theorem foldl_nodup (l : List α) : ∀ ms : List α, ms.Nodup → (l.foldl nm ms).Nodup := by
  induction l with
  | nil => intro ms h; exact h
  | cons x l ih => intro ms h; exact ih _ (nm_nodup h x)
theorem dd_mem {l : List α} {y : α} : y ∈ dd l ↔ y ∈ l := by rw [dd, foldl_mem]; simp
theorem dd_nodup (l : List α) : (dd l).Nodup := foldl_nodup l [] List.nodup_nil
theorem dd_snoc (l : List α) (x : α) : dd (l ++ [x]) = nm (dd l) x := by rw [dd, List.foldl_append]; rfl
theorem foldl_len (l : List α) : ∀ ms : List α, (l.foldl nm ms).length ≤ ms.length + l.length := by
  induction l with
  | nil => intro ms; simp
  | cons x l ih =>
    intro ms
    have := ih (nm ms x)
    have h : (nm ms x).length ≤ ms.length + 1 := by
      unfold nm; split
      · omega
      · simp
    rw [List.foldl_cons, List.length_cons]; omega
theorem dd_len (l : List α) : (dd l).length ≤ l.length := by have := foldl_len l []; simpa [dd] using this
theorem idx_pre {ms t : List α} {x : α} (h : x ∈ ms) : (ms ++ t).idxOf x = ms.idxOf x := by rw [List.idxOf_append, if_pos h]
theorem idx_inj {ms : List α} {x y : α} (hx : x ∈ ms) (hy : y ∈ ms) (h : ms.idxOf x = ms.idxOf y) : x = y := by
  have h1 := List.idxOf_lt_length_of_mem hx
  have h2 := List.idxOf_lt_length_of_mem hy
  have e1 := List.getElem_idxOf h1
  have e2 := List.getElem_idxOf h2
  rw [← e1, ← e2]
  simp only [h]
theorem dd_map {β : Type} [DecidableEq β] (f : α → β) (l : List α) (hf : ∀ x ∈ l, ∀ y ∈ l, f x = f y → x = y) : dd (l.map f) = (dd l).map f := by
  have key : ∀ (n : Nat) (l : List α), l.length = n → (∀ x ∈ l, ∀ y ∈ l, f x = f y → x = y) → dd (l.map f) = (dd l).map f := by
    intro n
    induction n with
    | zero => intro l hl _; rw [List.length_eq_zero_iff.1 hl]; rfl
    | succ n ih =>
      intro l hl hf
      rcases List.eq_nil_or_concat l with rfl | ⟨m, x, rfl⟩
      · rfl
      · rw [List.concat_eq_append] at *
        have hm := ih m (by simpa using hl) (fun x hx y hy => hf x (by simp [hx]) y (by simp [hy]))
        rw [List.map_append, List.map_cons, List.map_nil, dd_snoc, dd_snoc, hm]
        unfold nm
        by_cases c : x ∈ dd m
        · rw [if_pos c, if_pos (List.mem_map_of_mem c)]
        · rw [if_neg c, if_neg, List.map_append]; · rfl
          intro h
          obtain ⟨y, hy, e⟩ := List.mem_map.1 h
          exact c (by rw [hf x (by simp) y (by simp [dd_mem.1 hy]) e.symm]; exact hy)
  exact key _ l rfl hf
theorem nodup_sub {S : List α} : ∀ {T : List α}, S.Nodup → (∀ x ∈ S, x ∈ T) → T.length ≤ S.length → ∀ y ∈ T, y ∈ S := by
  induction S with
  | nil => intro T _ _ h y hy; rw [List.eq_nil_of_length_eq_zero (Nat.le_zero.1 h)] at hy; exact hy
  | cons x S ih =>
    intro T hn hs hl y hy
    have hx : x ∈ T := hs x (by simp)
    have hn2 := List.nodup_cons.1 hn
    by_cases e : y = x
    · rw [e]; simp
    · refine List.mem_cons_of_mem _ (ih (T := T.erase x) hn2.2 (fun z hz => ?_) ?_ y ((List.mem_erase_of_ne e).2 hy))
      · have : z ≠ x := fun e => hn2.1 (e ▸ hz)
        exact (List.mem_erase_of_ne this).2 (hs z (by simp [hz]))
      · rw [List.length_erase_of_mem hx]
        rw [List.length_cons] at hl
        omega
theorem nodup_len {S T : List α} (hn : S.Nodup) (hs : ∀ x ∈ S, x ∈ T) : S.length ≤ T.length := by
  induction S generalizing T with
  | nil => simp
  | cons x S ih =>
    have hx : x ∈ T := hs x (by simp)
    have hn2 := List.nodup_cons.1 hn
    have := ih (T := T.erase x) hn2.2 (fun z hz => (List.mem_erase_of_ne (show z ≠ x from fun e => hn2.1 (e ▸ hz))).2 (hs z (by simp [hz])))
    rw [List.length_erase_of_mem hx] at this
    have : 0 < T.length := List.length_pos_of_mem hx
    rw [List.length_cons]; omega
end
/-- Two lists of labels, the second one finer. -/
theorem finer {β : Type} [DecidableEq β] {m m' : List β} (hl : m.length = m'.length) (hr : ∀ p q (hp : p < m.length) (hq : q < m.length), m'[p]'(hl ▸ hp) = m'[q]'(hl ▸ hq) → m[p] = m[q]) :
    (dd m).length ≤ (dd m').length ∧ ((dd m).length = (dd m').length → ∀ p q (hp : p < m.length) (hq : q < m.length), m[p] = m[q] → m'[p]'(hl ▸ hp) = m'[q]'(hl ▸ hq)) := by
  have pos : ∀ v ∈ dd m, m.idxOf v < m.length := fun v hv => List.idxOf_lt_length_of_mem (dd_mem.1 hv)
  have hpos : ∀ v (hv : v ∈ dd m), m[m.idxOf v]'(pos v hv) = v := fun v hv => List.getElem_idxOf (pos v hv)
  let S := (dd m).attach.map fun v => m'[m.idxOf v.1]'(hl ▸ pos v.1 v.2)
  have hS : S.Nodup := by
    show (List.map _ _).Nodup
    rw [List.nodup_iff_pairwise_ne, List.pairwise_map]
    have h0 : (dd m).attach.Pairwise (fun a b => a.1 ≠ b.1) := by
      have := dd_nodup m
      rw [List.nodup_iff_pairwise_ne] at this
      rw [← List.pairwise_map (f := Subtype.val) (R := fun a b => a ≠ b), List.attach_map_subtype_val]
      exact this
    refine h0.imp (fun {a b} hab e => hab ?_)
    have := hr _ _ (pos a.1 a.2) (pos b.1 b.2) e
    rw [hpos a.1 a.2, hpos b.1 b.2] at this
    exact this
  have hsub : ∀ x ∈ S, x ∈ dd m' := by
    intro x hx
    obtain ⟨v, _, rfl⟩ := List.mem_map.1 hx
    exact dd_mem.2 (List.getElem_mem _)
  have hlen : S.length = (dd m).length := by simp [S]
  refine ⟨hlen ▸ nodup_len hS hsub, fun he p q hp hq e => ?_⟩
  have sup := nodup_sub hS hsub (by omega)
  have at_ : ∀ p (hp : p < m.length), m'[p]'(hl ▸ hp) = m'[m.idxOf m[p]]'(hl ▸ pos _ (dd_mem.2 (List.getElem_mem hp))) := by
    intro p hp
    obtain ⟨v, _, ev⟩ := List.mem_map.1 (sup _ (dd_mem.2 (List.getElem_mem (hl ▸ hp : p < m'.length))))
    have h1 := hr _ _ (pos v.1 v.2) hp ev
    rw [hpos v.1 v.2] at h1
    rw [← ev]
    simp only [h1]
  rw [at_ p hp, at_ q hq]
  simp only [e]
/-! ### States told apart -/
section
variable (acc : Nat → Bool) (δ : Nat → Nat → Nat) (L : Nat)
/-- Not told apart by a word of at most so many letters. -/
def RR : Nat → Nat → Nat → Prop
  | 0, p, q => acc p = acc q
  | i + 1, p, q => RR i p q ∧ ∀ a, a < L → RR i (δ p a) (δ q a)
/-- Alike. -/
def EE (p q : Nat) : Prop := ∀ i, RR acc δ L i p q
end
section
variable {acc : Nat → Bool} {δ : Nat → Nat → Nat} {L : Nat}
theorem RR.refl : ∀ (i p : Nat), RR acc δ L i p p
  | 0, _ => rfl
  | i + 1, p => ⟨RR.refl i p, fun a _ => RR.refl i _⟩
theorem RR.symm : ∀ {i p q : Nat}, RR acc δ L i p q → RR acc δ L i q p
  | 0, _, _, h => Eq.symm h
  | _ + 1, _, _, h => ⟨RR.symm h.1, fun a ha => RR.symm (h.2 a ha)⟩
theorem RR.trans : ∀ {i p q r : Nat}, RR acc δ L i p q → RR acc δ L i q r → RR acc δ L i p r
  | 0, _, _, _, h, k => Eq.trans h k
  | _ + 1, _, _, _, h, k => ⟨RR.trans h.1 k.1, fun a ha => RR.trans (h.2 a ha) (k.2 a ha)⟩
theorem RR.down : ∀ {j i p q : Nat}, RR acc δ L (i + j) p q → RR acc δ L i p q
  | 0, _, _, _, h => h
  | _ + 1, _, _, _, h => RR.down h.1
theorem EE.refl (p : Nat) : EE acc δ L p p := fun i => RR.refl i p
theorem EE.symm {p q : Nat} (h : EE acc δ L p q) : EE acc δ L q p := fun i => (h i).symm
theorem EE.trans {p q r : Nat} (h : EE acc δ L p q) (k : EE acc δ L q r) : EE acc δ L p r := fun i => (h i).trans (k i)
theorem EE.next {p q a : Nat} (h : EE acc δ L p q) (ha : a < L) : EE acc δ L (δ p a) (δ q a) := fun i => (h (i + 1)).2 a ha
theorem RR.stays {n : Nat} (hδ : ∀ q, q < n → ∀ a, a < L → δ q a < n) {i : Nat} (h : ∀ p q, p < n → q < n → RR acc δ L i p q → RR acc δ L (i + 1) p q) : ∀ (j p q : Nat), p < n → q < n → RR acc δ L i p q → RR acc δ L (i + j) p q := by
  intro j
  induction j with
  | zero => intro p q _ _ k; exact k
  | succ j ih => intro p q hp hq k; exact ⟨ih p q hp hq k, fun a ha => ih _ _ (hδ p hp a ha) (hδ q hq a ha) ((h p q hp hq k).2 a ha)⟩
theorem EE.of_stays {n : Nat} (hδ : ∀ q, q < n → ∀ a, a < L → δ q a < n) {i : Nat} (h : ∀ p q, p < n → q < n → RR acc δ L i p q → RR acc δ L (i + 1) p q) {p q : Nat} (hp : p < n) (hq : q < n) (k : RR acc δ L i p q) : EE acc δ L p q := by
  intro j
  by_cases c : j ≤ i
  · obtain ⟨d, rfl⟩ : ∃ d, i = j + d := ⟨i - j, by omega⟩
    exact k.down
  · obtain ⟨d, rfl⟩ : ∃ d, j = i + d := ⟨j - i, by omega⟩
    exact RR.stays hδ h d p q hp hq k
end
/-! ### The least one alike -/
/-- A list that says of each place the least one that is alike. -/
structure Least (r : Nat → Nat → Prop) (n : Nat) (l : List Int) : Prop where
  len : l.length = n
  at_ : ∀ q, q < n → ∃ p : Nat, l.getD q 0 = (p : Int) ∧ p ≤ q ∧ r p q ∧ ∀ p', p' < p → ¬ r p' q
theorem Least.unique {r : Nat → Nat → Prop} {n : Nat} {l l' : List Int} (h : Least r n l) (h' : Least r n l') : l = l' := by
  refine List.ext_getElem (h.len.trans h'.len.symm) (fun q h1 h2 => ?_)
  have hq : q < n := h.len ▸ h1
  obtain ⟨p, e, _, rp, mp⟩ := h.at_ q hq
  obtain ⟨p', e', _, rp', mp'⟩ := h'.at_ q hq
  rw [List.getD_eq_getElem?_getD, List.getElem?_eq_getElem h1, Option.getD_some] at e
  rw [List.getD_eq_getElem?_getD, List.getElem?_eq_getElem h2, Option.getD_some] at e'
  rw [e, e']
  have : p = p' := by
    rcases Nat.lt_trichotomy p p' with c | c | c
    · exact absurd rp (mp' p c)
    · exact c
    · exact absurd rp' (mp p' c)
  rw [this]
theorem Least.iff {r s : Nat → Nat → Prop} {n : Nat} {l : List Int} (h : Least r n l) (e : ∀ p q, p < n → q < n → (r p q ↔ s p q)) : Least s n l :=
  ⟨h.len, fun q hq => by
    obtain ⟨p, h1, h2, h3, h4⟩ := h.at_ q hq
    exact ⟨p, h1, h2, (e p q (by omega) hq).1 h3, fun p' hp' z => h4 p' hp' ((e p' q (by omega) hq).2 z)⟩⟩
end Go.Proofs.Ytbpeloobnjbgkaa.Pure
namespace Go.Proofs.Ytbpeloobnjbgkaa.Pure
set_option linter.unusedVariables false
section
variable (L : Nat)
/-- A word's rank, behind what has one. -/
def rkF (r : Nat) (w : List Nat) : Nat := w.foldl (fun r a => r * L + a + 1) r
def Let (w : List Nat) : Prop := ∀ a ∈ w, a < L
end
section
variable {L : Nat}
theorem rkF_app (r : Nat) (u v : List Nat) : rkF L r (u ++ v) = rkF L (rkF L r u) v := by simp [rkF]
theorem rkF_cons (r a : Nat) (v : List Nat) : rkF L r (a :: v) = rkF L (r * L + a + 1) v := rfl
theorem step_lt {r r' a b : Nat} (h : r < r') (ha : a < L) : r * L + a + 1 < r' * L + b + 1 := by
  have : (r + 1) * L ≤ r' * L := Nat.mul_le_mul_right L h
  rw [Nat.add_mul] at this
  omega
theorem rk_lt : ∀ (x y : List Nat) (r r' : Nat), x.length = y.length → Let L x → r < r' → rkF L r x < rkF L r' y
  | [], [], _, _, _, _, h => h
  | [], _ :: _, _, _, h, _, _ => by simp at h
  | _ :: _, [], _, _, h, _, _ => by simp at h
  | a :: x, b :: y, r, r', hl, hx, h => by
    rw [rkF_cons, rkF_cons]
    exact rk_lt x y _ _ (by simpa using hl) (fun c hc => hx c (by simp [hc])) (step_lt h (hx a (by simp)))
theorem rk_ge : ∀ (x : List Nat) (r : Nat), 1 ≤ L → r + x.length ≤ rkF L r x
  | [], r, _ => Nat.le_refl _
  | a :: x, r, hL => by
    have := rk_ge x (r * L + a + 1) hL
    have h2 : r * 1 ≤ r * L := Nat.mul_le_mul_left r hL
    rw [rkF_cons, List.length_cons]; omega
theorem rk_short {x y : List Nat} (h : x.length < y.length) (hx : Let L x) (hy : Let L y) : rkF L 0 x < rkF L 0 y := by
  have hL : 1 ≤ L := by
    rcases y with _ | ⟨b, y⟩
    · simp at h
    · have := hy b (by simp); omega
  have e : y = y.take (y.length - x.length) ++ y.drop (y.length - x.length) := (List.take_append_drop _ _).symm
  rw [e, rkF_app]
  refine rk_lt x _ _ _ (by rw [List.length_drop]; omega) hx ?_
  have := rk_ge (y.take (y.length - x.length)) 0 hL
  rw [List.length_take] at this
  omega
theorem rk_len {x y : List Nat} (hx : Let L x) (hy : Let L y) (h : rkF L 0 x ≤ rkF L 0 y) : x.length ≤ y.length := by
  refine Nat.le_of_not_lt (fun c => ?_)
  have := rk_short c hy hx
  omega
theorem rk_inj : ∀ (x y : List Nat) (r : Nat), x.length = y.length → Let L x → Let L y → rkF L r x = rkF L r y → x = y
  | [], [], _, _, _, _, _ => rfl
  | [], _ :: _, _, h, _, _, _ => by simp at h
  | _ :: _, [], _, h, _, _, _ => by simp at h
  | a :: x, b :: y, r, hl, hx, hy, e => by
    rw [rkF_cons, rkF_cons] at e
    have hl' : x.length = y.length := by simpa using hl
    have hx' : Let L x := fun c hc => hx c (by simp [hc])
    have hy' : Let L y := fun c hc => hy c (by simp [hc])
    have hab : a = b := by
      rcases Nat.lt_trichotomy a b with c | c | c
      · have := rk_lt x y (r * L + a + 1) (r * L + b + 1) hl' hx' (by omega); omega
      · exact c
      · have := rk_lt y x (r * L + b + 1) (r * L + a + 1) hl'.symm hy' (by omega); omega
    subst hab
    rw [rk_inj x y _ hl' hx' hy' e]
theorem rk_eq {x y : List Nat} (hx : Let L x) (hy : Let L y) (e : rkF L 0 x = rkF L 0 y) : x = y :=
  rk_inj x y 0 (Nat.le_antisymm (rk_len hx hy (by omega)) (rk_len hy hx (by omega))) hx hy e
end
/-! ### The least word that is taken -/
section
variable (acc : Nat → Bool) (δ : Nat → Nat → Nat) (L : Nat)
def runN (q : Nat) (w : List Nat) : Nat := w.foldl δ q
/-- The least word, other than the empty one, that leads to an accepting state. -/
structure IsLeast (w : List Nat) : Prop where
  ne : w ≠ []
  lets : Let L w
  tk : acc (runN δ 0 w) = true
  least : ∀ v, v ≠ [] → Let L v → acc (runN δ 0 v) = true → rkF L 0 w ≤ rkF L 0 v
/-- Do some so many letters lead from q to an accepting state? -/
def accN : Nat → Nat → Bool
  | 0, q => acc q
  | n + 1, q => (List.range L).any fun a => accN n (δ q a)
end
section
variable {acc : Nat → Bool} {δ : Nat → Nat → Nat} {L : Nat}
theorem IsLeast.unique {w w' : List Nat} (h : IsLeast acc δ L w) (h' : IsLeast acc δ L w') : w = w' :=
  rk_eq h.lets h'.lets (Nat.le_antisymm (h.least w' h'.ne h'.lets h'.tk) (h'.least w h.ne h.lets h.tk))
theorem accN_iff : ∀ (n q : Nat), accN acc δ L n q = true ↔ ∃ w, w.length = n ∧ Let L w ∧ acc (runN δ q w) = true
  | 0, q => by
    constructor
    · intro h; exact ⟨[], rfl, by simp [Let], h⟩
    · rintro ⟨w, h0, _, h⟩
      rw [List.length_eq_zero_iff.1 h0] at h
      exact h
  | n + 1, q => by
    rw [accN, List.any_eq_true]
    constructor
    · rintro ⟨a, ha, h⟩
      obtain ⟨w, h1, h2, h3⟩ := (accN_iff n (δ q a)).1 h
      exact ⟨a :: w, by simp [h1], by intro c hc; rcases List.mem_cons.1 hc with rfl | h; exact List.mem_range.1 ha; exact h2 c h, h3⟩
    · rintro ⟨w, h1, h2, h3⟩
      rcases w with _ | ⟨a, w⟩
      · simp at h1
      · exact ⟨a, List.mem_range.2 (h2 a (by simp)), (accN_iff n (δ q a)).2 ⟨w, by simpa using h1, fun c hc => h2 c (by simp [hc]), h3⟩⟩
/-- Letter by letter the least one from which so many letters more will do. -/
inductive Greedy (acc : Nat → Bool) (δ : Nat → Nat → Nat) (L : Nat) : Nat → Nat → List Nat → Prop
  | nil (q : Nat) (h : acc q = true) : Greedy acc δ L 0 q []
  | cons (n q a : Nat) (w : List Nat) (ha : a < L) (hl : ∀ b, b < a → accN acc δ L n (δ q b) = false) (h : Greedy acc δ L n (δ q a) w) : Greedy acc δ L (n + 1) q (a :: w)
theorem Greedy.len {n q : Nat} {w : List Nat} (h : Greedy acc δ L n q w) : w.length = n ∧ Let L w ∧ acc (runN δ q w) = true := by
  induction h with
  | nil q h => exact ⟨rfl, by simp [Let], h⟩
  | cons n q a w ha hl h ih => exact ⟨by simp [ih.1], by intro c hc; rcases List.mem_cons.1 hc with rfl | h; exact ha; exact ih.2.1 c h, ih.2.2⟩
theorem Greedy.least {n q : Nat} {w : List Nat} (h : Greedy acc δ L n q w) : ∀ (v : List Nat) (r : Nat), v.length = n → Let L v → acc (runN δ q v) = true → rkF L r w ≤ rkF L r v := by
  induction h with
  | nil q h => intro v r hv _ _; rw [List.length_eq_zero_iff.1 hv]; exact Nat.le_refl _
  | cons n q a w ha hl h ih =>
    intro v r hv hlv hacc
    rcases v with _ | ⟨c, v⟩
    · simp at hv
    have hv' : v.length = n := by simpa using hv
    have hlv' : Let L v := fun z hz => hlv z (by simp [hz])
    rw [rkF_cons, rkF_cons]
    rcases Nat.lt_trichotomy a c with d | d | d
    · exact Nat.le_of_lt (rk_lt w v _ _ (by rw [h.len.1, hv']) h.len.2.1 (by omega))
    · subst d; exact ih v _ hv' hlv' hacc
    · have := hl c d
      rw [(accN_iff n (δ q c)).2 ⟨v, hv', hlv', hacc⟩] at this
      cases this
/-! ### Breadth first -/
/-- States in the order in which they are met, with the words by which they are met. -/
structure Met (acc : Nat → Bool) (δ : Nat → Nat → Nat) (L n : Nat) (ls : List Nat) (ws : List (List Nat)) : Prop where
  len : ws.length = ls.length
  h0 : ls[0]? = some 0 ∧ ws[0]? = some []
  run : ∀ (k q : Nat) (w : List Nat), ls[k]? = some q → ws[k]? = some w → runN δ 0 w = q ∧ Let L w ∧ q < n ∧ w.length ≤ k
  up : ∀ (k k' : Nat) (w w' : List Nat), k < k' → ws[k]? = some w → ws[k']? = some w' → rkF L 0 w < rkF L 0 w'
  nodup : ls.Nodup
theorem Met.size {n : Nat} {ls : List Nat} {ws : List (List Nat)} (M : Met acc δ L n ls ws) : ls.length ≤ n := by
  have : ∀ x ∈ ls, x ∈ List.range n := by
    intro x hx
    obtain ⟨k, hk, rfl⟩ := List.getElem_of_mem hx
    obtain ⟨w, hw⟩ : ∃ w, ws[k]? = some w := ⟨_, List.getElem?_eq_getElem (by rw [M.len]; exact hk)⟩
    exact List.mem_range.2 (M.run k _ w (List.getElem?_eq_getElem hk) hw).2.2.1
  have key : ∀ (S : List Nat) (T : List Nat), S.Nodup → (∀ x ∈ S, x ∈ T) → S.length ≤ T.length := by
    intro S
    induction S with
    | nil => intro T _ _; simp
    | cons x S ih =>
      intro T hn hs
      have hx : x ∈ T := hs x (by simp)
      have hn2 := List.nodup_cons.1 hn
      have := ih (T.erase x) hn2.2 (fun z hz => (List.mem_erase_of_ne (show z ≠ x from fun e => hn2.1 (e ▸ hz))).2 (hs z (by simp [hz])))
      rw [List.length_erase_of_mem hx] at this
      have : 0 < T.length := List.length_pos_of_mem hx
      rw [List.length_cons]; omega
  have := key ls (List.range n) M.nodup this
  simpa using this
end
end Go.Proofs.Ytbpeloobnjbgkaa.Pure
namespace Go.Proofs.Ytbpeloobnjbgkaa.Pure
open Go.RowKit Go.Proofs.YtbpeloobnjbgkaaW.PrintWords Go.Proofs.YtbpeloobnjbgkaaW.PrintLast Go.Proofs.YtbpeloobnjbgkaaW.PrintMore Go.Proofs.Ytbpeloobnjbgkaa.X
set_option linter.unusedVariables false
theorem wf_small {x : Int} (h0 : 0 ≤ x) (h1 : x ≤ 1000000) : (Lit.int .i64 x).wf = true := by
  simp [Lit.wf, IntKind.min, IntKind.max, IntKind.signed, IntKind.bits]; omega
theorem dgo : ∀ (l : List Int) (j : Nat) (xs ms : List Int), xs.length = j + l.length →
    canon_dense.go l j xs ms = (xs.take j ++ l.map (fun x => (((l.foldl nm ms).idxOf x : Nat) : Int)), l.foldl nm ms)
  | [], j, xs, ms, h => by simp [canon_dense.go, List.take_of_length_le (show xs.length ≤ j by simpa using Nat.le_of_eq h)]
  | x :: l, j, xs, ms, h => by
    rw [canon_dense.go, dgo l (j + 1) _ _ (by rw [List.length_set, h, List.length_cons]; omega)]
    have hx : x ∈ nm ms x := nm_mem.2 (.inr rfl)
    obtain ⟨t, ht⟩ := foldl_pre l (nm ms x)
    have e : num1 (names1 ms x) x = (l.foldl nm (nm ms x)).idxOf x := by rw [ht, idx_pre hx]; rfl
    have j1 : j < xs.length := by rw [h, List.length_cons]; omega
    have e2 : (xs.set j ((num1 (names1 ms x) x : Nat) : Int)).take (j + 1) = xs.take j ++ [((num1 (names1 ms x) x : Nat) : Int)] := by
      rw [List.take_succ_eq_append_getElem (by simpa using j1), List.getElem_set_self, List.take_set_of_le (Nat.le_refl _)]
    rw [e2, e]
    simp [List.foldl_cons, show names1 ms x = nm ms x from rfl]
theorem dense_ev {l : List Int} (hl : l.length ≤ 35184372088832) (hw : ∀ x ∈ l, (Lit.int .i64 x).wf = true) :
    canon_dense.f l = some (l.map (fun x => (((dd l).idxOf x : Nat) : Int)), ((dd l).length : Int)) := by
  unfold canon_dense.f
  rw [if_pos hl, if_pos hw, dgo l 0 _ [] (by simp)]
  simp [dd]
theorem num1_pre {α : Type} [DecidableEq α] {ms t : List α} {x : α} (h : x ∈ ms) : num1 (ms ++ t) x = num1 ms x := idx_pre h
theorem num1_inj {α : Type} [DecidableEq α] {ms : List α} {x y : α} (hx : x ∈ ms) (hy : y ∈ ms) (h : num1 ms x = num1 ms y) : x = y := idx_inj hx hy h
theorem num1_lt {α : Type} [DecidableEq α] {ms : List α} {x : α} (h : x ∈ ms) : num1 ms x < ms.length := List.idxOf_lt_length_of_mem h
/-- What a row's numbers say: each pair stands in the list. -/
def Chain (cls : List Int) (P : List (Int × Int)) (len : Int) : List Int → Int → Int → Int → Prop
  | [], _, n, z => n = z
  | q :: r, a, n, z => (n * (len + 1) + a, rd cls q) ∈ P ∧ Chain cls P len r (a + 1) ((num1 P (n * (len + 1) + a, rd cls q) : Nat) : Int) z
theorem Chain.more {cls : List Int} {P t : List (Int × Int)} {len : Int} : ∀ {r : List Int} {a n z : Int}, Chain cls P len r a n z → Chain cls (P ++ t) len r a n z
  | [], _, _, _, h => h
  | q :: r, a, n, z, ⟨h1, h2⟩ => ⟨List.mem_append_left _ h1, by rw [num1_pre h1]; exact Chain.more h2⟩
theorem Chain.same {cls : List Int} {P : List (Int × Int)} {len : Int} : ∀ {r r' : List Int} {a n z z' : Int}, r.map (rd cls) = r'.map (rd cls) → Chain cls P len r a n z → Chain cls P len r' a n z' → z = z'
  | [], [], _, _, _, _, _, h, k => (Eq.symm h).trans k
  | [], _ :: _, _, _, _, _, e, _, _ => by simp at e
  | _ :: _, [], _, _, _, _, e, _, _ => by simp at e
  | q :: r, q' :: r', a, n, z, z', e, ⟨_, h⟩, ⟨_, k⟩ => by
    rw [List.map_cons, List.map_cons, List.cons.injEq] at e
    rw [← e.1] at k
    exact Chain.same e.2 h k
theorem Chain.back {cls : List Int} {P : List (Int × Int)} {len : Int} (hlen : 0 ≤ len) : ∀ {r r' : List Int} {a n n' z : Int}, r.length = r'.length → 0 ≤ n → 0 ≤ n' → Chain cls P len r a n z → Chain cls P len r' a n' z → n = n' ∧ r.map (rd cls) = r'.map (rd cls)
  | [], [], _, _, _, _, _, _, _, h, k => ⟨Eq.trans h (Eq.symm k), rfl⟩
  | [], _ :: _, _, _, _, _, e, _, _, _, _ => by simp at e
  | _ :: _, [], _, _, _, _, e, _, _, _, _ => by simp at e
  | q :: r, q' :: r', a, n, n', z, e, h0, h1, ⟨m, h⟩, ⟨m', k⟩ => by
    obtain ⟨e1, e2⟩ := Chain.back hlen (by simpa using e) (by omega) (by omega) h k
    have e3 := num1_inj m m' (by omega)
    rw [Prod.mk.injEq] at e3
    have e4 : n * (len + 1) = n' * (len + 1) := by omega
    exact ⟨Int.eq_of_mul_eq_mul_right (by omega) e4, by rw [List.map_cons, List.map_cons, e3.2, e2]⟩
/-- A list of small classes. -/
def Sm (cls : List Int) : Prop := ∀ x ∈ cls, 0 ≤ x ∧ x ≤ 1000
theorem Sm.bd {cls : List Int} (h : Sm cls) (q : Int) : 0 ≤ rd cls q ∧ rd cls q ≤ 1000 := by
  unfold rd
  rw [List.getD_eq_getElem?_getD]
  by_cases c : q.toNat < cls.length
  · rw [List.getElem?_eq_getElem c]; exact h _ (List.getElem_mem c)
  · rw [List.getElem?_eq_none (by omega)]; simp
theorem mul_bd {n len : Int} (h0 : 0 ≤ n) (h1 : n ≤ 100000) (h2 : 0 ≤ len) (h3 : len ≤ 64) : 0 ≤ n * (len + 1) ∧ n * (len + 1) ≤ 6500000 := by
  refine ⟨Int.mul_nonneg h0 (by omega), ?_⟩
  have := Int.mul_le_mul h1 (show len + 1 ≤ 65 by omega) (by omega) (by omega : (0 : Int) ≤ 100000)
  omega
theorem nm_len {α : Type} [DecidableEq α] (ms : List α) (x : α) : (nm ms x).length ≤ ms.length + 1 ∧ ms.length ≤ (nm ms x).length := by
  unfold nm; split
  · omega
  · simp
theorem srow {cls : List Int} (hc : Sm cls) {len : Int} (h2 : 0 ≤ len) (h3 : len ≤ 64) : ∀ (r : List Int) (a n : Int) (ps : List (Int × Int)), (∀ q ∈ r, 0 ≤ q ∧ q < (cls.length : Int)) → 0 ≤ a → a + r.length ≤ 64 → 0 ≤ n → n ≤ 100000 → ps.length + r.length ≤ 100000 →
    ∃ (z : Int) (t : List (Int × Int)), canon_split.row cls len r a n ps = some (z, ps ++ t) ∧ t.length ≤ r.length ∧ 0 ≤ z ∧ z ≤ 100000 ∧ Chain cls (ps ++ t) len r a n z
  | [], a, n, ps, _, _, _, h0, h1, _ => ⟨n, [], by simp [canon_split.row], Nat.le_refl _, h0, h1, rfl⟩
  | q :: r, a, n, ps, hq, ha, har, h0, h1, hp => by
    have q1 := hq q (by simp)
    have m := mul_bd h0 h1 h2 h3
    have c := hc.bd q
    rw [List.length_cons] at hp har
    rw [canon_split.row, if_pos q1.1, if_pos q1.2, if_pos (wf_small c.1 (by omega)), if_pos (by omega)]
    have e : wrap64 (wrap64 (n * wrap64 (len + 1)) + a) = n * (len + 1) + a := by
      rw [show wrap64 (len + 1) = len + 1 from by unfold wrap64; omega]
      rw [show wrap64 (n * (len + 1)) = n * (len + 1) from by generalize n * (len + 1) = y at m; unfold wrap64; omega]
      generalize n * (len + 1) = y at m; unfold wrap64; omega
    have e' : wrap64 (a + 1) = a + 1 := by unfold wrap64; omega
    rw [e, e', show names1 ps (n * (len + 1) + a, rd cls q) = nm ps (n * (len + 1) + a, rd cls q) from rfl]
    generalize hp' : (n * (len + 1) + a, rd cls q) = p
    obtain ⟨t0, ht0⟩ := nm_pre ps p
    have l1 := nm_len ps p
    have hm : p ∈ nm ps p := nm_mem.2 (.inr rfl)
    have lt := num1_lt hm
    obtain ⟨z, t, h, ht, z0, z1, ch⟩ := srow hc h2 h3 r (a + 1) ((num1 (nm ps p) p : Nat) : Int) (nm ps p) (fun x hx => hq x (by simp [hx])) (by omega) (by omega) (by omega) (by omega) (by omega)
    have l2 : t0.length ≤ 1 := by have := congrArg List.length ht0; rw [List.length_append] at this; omega
    rw [ht0, List.append_assoc] at h ch
    rw [ht0]
    refine ⟨z, t0 ++ t, h, by rw [List.length_append, List.length_cons]; omega, z0, z1, ?_⟩
    rw [ht0] at hm
    unfold Chain
    rw [hp']
    refine ⟨by rw [← List.append_assoc]; exact List.mem_append_left _ hm, ?_⟩
    have e5 : num1 (ps ++ (t0 ++ t)) p = num1 (ps ++ t0) p := by rw [← List.append_assoc, num1_pre hm]
    rw [e5]; exact ch
theorem sgo {cls : List Int} (hc : Sm cls) : ∀ (l : List (List Int)) (j : Nat) (xs : List Int) (ps : List (Int × Int)), (∀ r ∈ l, r.length ≤ 64 ∧ ∀ q ∈ r, 0 ≤ q ∧ q < (cls.length : Int)) → j + l.length ≤ cls.length → xs.length = cls.length → ps.length + 64 * l.length ≤ 100000 →
    ∃ (ys : List Int) (t : List (Int × Int)), canon_split.go cls l j xs ps = some ys ∧ ys.length = xs.length ∧ (∀ i, i < j → ys.getD i 0 = xs.getD i 0) ∧ (∀ i (h : i < l.length), 0 ≤ ys.getD (j + i) 0 ∧ ys.getD (j + i) 0 ≤ 100000 ∧ Chain cls (ps ++ t) (l[i].length : Int) l[i] 0 (rd cls ((j + i : Nat) : Int)) (ys.getD (j + i) 0))
  | [], j, xs, ps, _, _, _, _ => ⟨xs, [], rfl, rfl, fun _ _ => rfl, fun i h => absurd h (by simp)⟩
  | r :: l, j, xs, ps, hr, hj, hx, hp => by
    have r1 := hr r (by simp)
    rw [List.length_cons] at hj hp
    have c := hc.bd (j : Int)
    obtain ⟨z, t0, h0, ht, z0, z1, ch⟩ := srow hc (len := (r.length : Int)) (by omega) (by omega) r 0 (rd cls (j : Int)) ps r1.2 (by omega) (by omega) c.1 (by omega) (by omega)
    obtain ⟨ys, t, h, hl, hlo, hhi⟩ := sgo hc l (j + 1) (xs.set j z) (ps ++ t0) (fun x h => hr x (by simp [h])) (by omega) (by rw [List.length_set, hx]) (by rw [List.length_append]; omega)
    refine ⟨ys, t0 ++ t, ?_, by rw [hl, List.length_set], fun i hi => ?_, fun i hi => ?_⟩
    · rw [canon_split.go, if_pos (by omega), h0, Option.bind_some]; exact h
    · rw [hlo i (by omega), List.getD_eq_getElem?_getD, List.getElem?_set_ne (by omega), ← List.getD_eq_getElem?_getD]
    · cases i with
      | zero =>
        have e : ys.getD j 0 = z := by
          rw [hlo j (by omega), List.getD_eq_getElem?_getD, List.getElem?_set_self (by omega)]; rfl
        show 0 ≤ ys.getD j 0 ∧ ys.getD j 0 ≤ 100000 ∧ Chain cls (ps ++ (t0 ++ t)) (r.length : Int) r 0 (rd cls (j : Int)) (ys.getD j 0)
        rw [e, ← List.append_assoc]
        exact ⟨z0, z1, ch.more⟩
      | succ i =>
        have := hhi i (by simpa using hi)
        rw [show j + 1 + i = j + (i + 1) by omega, List.append_assoc] at this
        exact this
theorem split_ev {n L : Nat} {nx : List (List Int)} {bc : List Bool} (R : Mk bc nx L) (en : n = bc.length) (ns : List ByteArray) (ac : List Bool) {cls : List Int} (hl : cls.length = n) (hc : Sm cls) :
    ∃ out : List Int, canon_split.f ns ac nx cls = some (out, ((dd out).length : Int)) ∧ out.length = n ∧ (∀ x ∈ out, 0 ≤ x ∧ x < (n : Int)) ∧
      ∀ p q (hp : p < n) (hq : q < n), out.getD p 0 = out.getD q 0 ↔ (cls.getD p 0 = cls.getD q 0 ∧ ∀ a, a < L → rd cls ((nx.getD p []).getD a 0) = rd cls ((nx.getD q []).getD a 0)) := by
  subst en
  have hn := R.n2
  have hnl := R.len
  obtain ⟨ys, t, h, yl, _, hy⟩ := sgo hc nx 0 (List.replicate cls.length 0) [] (fun r hr => ⟨by rw [(R.rows r hr).1]; exact R.l2, by rw [hl]; exact (R.rows r hr).2⟩) (by omega) (by simp) (by simp; omega)
  rw [List.length_replicate, hl] at yl
  have yw : ∀ x ∈ ys, 0 ≤ x ∧ x ≤ 100000 := by
    intro x hx
    obtain ⟨i, hi, rfl⟩ := List.mem_iff_getElem.1 hx
    have := hy i (by omega)
    rw [Nat.zero_add, List.getD_eq_getElem?_getD, List.getElem?_eq_getElem hi] at this
    exact ⟨this.1, this.2.1⟩
  have D := dense_ev (l := ys) (by omega) (fun x hx => wf_small (yw x hx).1 (by have := (yw x hx).2; omega))
  have inj : ∀ x ∈ ys, ∀ y ∈ ys, (((dd ys).idxOf x : Nat) : Int) = (((dd ys).idxOf y : Nat) : Int) → x = y := fun x hx y hy' e => idx_inj (dd_mem.2 hx) (dd_mem.2 hy') (by omega)
  have dl := dd_len ys
  refine ⟨ys.map (fun x => (((dd ys).idxOf x : Nat) : Int)), ?_, by simp [yl], fun x hx => ?_, fun p q hp hq => ?_⟩
  · rw [dd_map _ _ inj, List.length_map]
    unfold canon_split.f
    rw [if_pos (by omega), h, Option.bind_some, D]
  · obtain ⟨y, hy1, rfl⟩ := List.mem_map.1 hx
    have := List.idxOf_lt_length_of_mem (dd_mem.2 hy1)
    omega
  · have gp : ∀ p, p < bc.length → (ys.map (fun x => (((dd ys).idxOf x : Nat) : Int))).getD p 0 = (((dd ys).idxOf (ys.getD p 0) : Nat) : Int) := by
      intro p hp
      have c : p < ys.length := by omega
      rw [List.getD_eq_getElem?_getD, List.getElem?_map, List.getD_eq_getElem?_getD, List.getElem?_eq_getElem c]; rfl
    rw [gp p hp, gp q hq]
    have mem : ∀ p, p < bc.length → ys.getD p 0 ∈ ys := by
      intro p hp
      rw [List.getD_eq_getElem?_getD, List.getElem?_eq_getElem (by omega)]; exact List.getElem_mem _
    have rw_ : ∀ p (_ : p < bc.length), nx.getD p [] = nx[p]'(by omega) ∧ (nx.getD p []).length = L := by
      intro p hp
      rw [List.getD_eq_getElem?_getD, List.getElem?_eq_getElem (by omega)]
      exact ⟨rfl, (R.rows _ (List.getElem_mem _)).1⟩
    obtain ⟨ep, lp⟩ := rw_ p hp
    obtain ⟨eq, lq⟩ := rw_ q hq
    obtain ⟨_, _, cp⟩ := hy p (by omega)
    obtain ⟨_, _, cq⟩ := hy q (by omega)
    rw [Nat.zero_add, ← ep, lp] at cp
    rw [Nat.zero_add, ← eq, lq] at cq
    have rdn : ∀ i : Nat, rd cls (i : Int) = cls.getD i 0 := fun i => rd_nat cls i
    rw [rdn] at cp cq
    have bp := hc.bd (p : Int)
    have bq := hc.bd (q : Int)
    rw [rdn] at bp bq
    have maps : (nx.getD p []).map (rd cls) = (nx.getD q []).map (rd cls) ↔ ∀ a, a < L → rd cls ((nx.getD p []).getD a 0) = rd cls ((nx.getD q []).getD a 0) := by
      constructor
      · intro e a ha
        have := congrArg (fun l => l[a]?) e
        simp only [List.getElem?_map] at this
        have c1 : a < (nx.getD p []).length := by omega
        have c2 : a < (nx.getD q []).length := by omega
        generalize nx.getD p [] = u at *
        generalize nx.getD q [] = v at *
        rw [List.getElem?_eq_getElem c1, List.getElem?_eq_getElem c2] at this
        rw [List.getD_eq_getElem?_getD, List.getElem?_eq_getElem c1, List.getD_eq_getElem?_getD, List.getElem?_eq_getElem c2]
        simpa using this
      · intro e
        refine List.ext_getElem (by rw [List.length_map, List.length_map, lp, lq]) (fun a h1 h2 => ?_)
        rw [List.length_map, lp] at h1
        have := e a h1
        have c1 : a < (nx.getD p []).length := by omega
        have c2 : a < (nx.getD q []).length := by omega
        generalize nx.getD p [] = u at *
        generalize nx.getD q [] = v at *
        rw [List.getD_eq_getElem?_getD, List.getElem?_eq_getElem c1, List.getD_eq_getElem?_getD, List.getElem?_eq_getElem c2] at this
        simpa using this
    constructor
    · intro e
      have e1 := inj _ (mem p hp) _ (mem q hq) e
      rw [e1] at cp
      obtain ⟨a1, a2⟩ := Chain.back (by omega) (by omega) bp.1 bq.1 cp cq
      exact ⟨a1, maps.1 a2⟩
    · rintro ⟨a1, a2⟩
      rw [a1] at cp
      rw [Chain.same (maps.2 a2) cp cq]
end Go.Proofs.Ytbpeloobnjbgkaa.Pure
namespace Go.Proofs.Ytbpeloobnjbgkaa.Pure
open Go.RowKit Go.Proofs.YtbpeloobnjbgkaaW.PrintWords Go.Proofs.YtbpeloobnjbgkaaW.PrintLast Go.Proofs.YtbpeloobnjbgkaaW.PrintMore Go.Proofs.Ytbpeloobnjbgkaa.X
set_option linter.unusedVariables false
/-- Labels of the states: alike just where r holds. -/
structure Lab (r : Nat → Nat → Prop) (n : Nat) (l : List Int) : Prop where
  len : l.length = n
  sm : Sm l
  iff : ∀ p q, p < n → q < n → (l.getD p 0 = l.getD q 0 ↔ r p q)
theorem gD {l : List Int} {p : Nat} (h : p < l.length) : l.getD p 0 = l[p] := by simp [List.getD_eq_getElem?_getD, h]
theorem gD_set {l : List Int} {i p : Nat} {v : Int} (h : i < l.length) : (l.set i v).getD p 0 = if p = i then v else l.getD p 0 := by
  by_cases c : p = i
  · subst c
    rw [if_pos rfl, List.getD_eq_getElem?_getD, List.getElem?_set_self h]; rfl
  · rw [if_neg c, List.getD_eq_getElem?_getD, List.getElem?_set_ne (by omega), ← List.getD_eq_getElem?_getD]
theorem Lab.finer {r s : Nat → Nat → Prop} {n : Nat} {l l' : List Int} (h : Lab r n l) (k : Lab s n l') (f : ∀ p q, p < n → q < n → s p q → r p q) :
    (dd l).length ≤ (dd l').length ∧ ((dd l).length = (dd l').length → ∀ p q, p < n → q < n → r p q → s p q) := by
  have hl : l.length = l'.length := h.len.trans k.len.symm
  obtain ⟨a, b⟩ := Pure.finer (m := l) (m' := l') hl (fun p q hp hq e => by
    have hp' := h.len ▸ hp
    have hq' := h.len ▸ hq
    rw [← gD, ← gD, k.iff p q hp' hq'] at e
    rw [← gD hp, ← gD hq, h.iff p q hp' hq']
    exact f p q hp' hq' e)
  refine ⟨a, fun e p q hp hq x => ?_⟩
  have hp' : p < l.length := by rw [h.len]; exact hp
  have hq' : q < l.length := by rw [h.len]; exact hq
  have := b e p q hp' hq' (by rw [← gD hp', ← gD hq', h.iff p q hp hq]; exact x)
  rw [← gD, ← gD, k.iff p q hp hq] at this
  exact this
theorem Lab.pos {r : Nat → Nat → Prop} {n : Nat} {l : List Int} (h : Lab r n l) (h1 : 1 ≤ n) : 1 ≤ (dd l).length := by
  have m : l[0]'(by rw [h.len]; omega) ∈ dd l := dd_mem.2 (List.getElem_mem _)
  exact List.length_pos_of_mem m
section
variable {ac : List Bool} {nx : List (List Int)} {L : Nat}
theorem Mk.to (m : Mk ac nx L) {q a : Nat} (hq : q < ac.length) (ha : a < L) : dlF nx q a < ac.length := ((m.row hq).2 a ha).2
theorem split_lab (m : Mk ac nx L) (ns : List ByteArray) {i : Nat} {cls : List Int} (h : Lab (RR (acF ac) (dlF nx) L i) ac.length cls) :
    ∃ out, canon_split.f ns ac nx cls = some (out, ((dd out).length : Int)) ∧ Lab (RR (acF ac) (dlF nx) L (i + 1)) ac.length out := by
  obtain ⟨out, e, l, b, h2⟩ := split_ev m rfl ns ac h.len h.sm
  refine ⟨out, e, l, fun x hx => ⟨(b x hx).1, by have := (b x hx).2; have := m.n2; omega⟩, fun p q hp hq => ?_⟩
  rw [h2 p q hp hq, h.iff p q hp hq]
  have r : ∀ p a, rd cls ((nx.getD p []).getD a 0) = cls.getD (dlF nx p a) 0 := fun p a => by simp [rd, dlF]
  constructor
  · rintro ⟨h1, h3⟩
    refine ⟨h1, fun a ha => ?_⟩
    have := h3 a ha
    rw [r, r] at this
    exact (h.iff _ _ (m.to hp ha) (m.to hq ha)).1 this
  · rintro ⟨h1, h3⟩
    refine ⟨h1, fun a ha => ?_⟩
    rw [r, r]
    exact (h.iff _ _ (m.to hp ha) (m.to hq ha)).2 (h3 a ha)
theorem cl1 (m : Mk ac nx L) (ns : List ByteArray) : ∀ (d i : Nat) (cls : List Int), Lab (RR (acF ac) (dlF nx) L i) ac.length cls → 257 ≤ (dd cls).length + d →
    ∃ out, Lab (EE (acF ac) (dlF nx) L) ac.length out ∧ Ev (fun k => canon_classes.l1 k cls ((dd cls).length : Int) ns ac nx) out := by
  intro d
  induction d with
  | zero =>
    intro i cls h hd
    have := dd_len cls
    have := h.len
    have := m.n2
    omega
  | succ d ih =>
    intro i cls h hd
    obtain ⟨out, e, hL⟩ := split_lab m ns h
    have f := h.finer hL (fun p q _ _ x => x.1)
    by_cases c : ((dd out).length : Int) = ((dd cls).length : Int)
    · have st := f.2 (by omega)
      refine ⟨out, ⟨hL.len, hL.sm, fun p q hp hq => ?_⟩, Ev.step (fun k => by rw [canon_classes.l1]) (Ev.ret e (Ev.cond c (Ev.fin rfl)))⟩
      rw [hL.iff p q hp hq]
      exact ⟨fun x => EE.of_stays (fun q hq a ha => m.to hq ha) st hp hq x.1, fun x => x _⟩
    · obtain ⟨o, hE, hev⟩ := ih (i + 1) out hL (by have := f.1; omega)
      exact ⟨o, hE, Ev.step (fun k => by rw [canon_classes.l1]) (Ev.ret e (Ev.ncond c hev))⟩
theorem cl0 (m : Mk ac nx L) (ns : List ByteArray) : ∀ (d i : Nat) (x : List Int), i + d = ac.length → x.length = ac.length → (∀ p, p < ac.length → x.getD p 0 = if p < i ∧ acF ac p = true then 1 else 0) →
    ∃ out, Lab (EE (acF ac) (dlF nx) L) ac.length out ∧ Ev (fun k => canon_classes.l0 k x ac (ac.length : Int) (i : Int) ns ac nx) out := by
  have n2 := m.n2
  intro d
  induction d with
  | zero =>
    intro i x hi hx h
    have hL : Lab (RR (acF ac) (dlF nx) L 0) ac.length x := by
      refine ⟨hx, fun y hy => ?_, fun p q hp hq => ?_⟩
      · obtain ⟨p, hp, rfl⟩ := List.mem_iff_getElem.1 hy
        rw [← gD hp, h p (by omega)]
        split <;> omega
      · rw [h p hp, h q hq]
        show _ ↔ acF ac p = acF ac q
        cases acF ac p <;> cases acF ac q <;> simp <;> omega
    obtain ⟨out, e, hL2⟩ := split_lab m ns hL
    have := hL2.pos m.n1
    have := dd_len out
    obtain ⟨o, hE, hev⟩ := cl1 m ns 257 1 out hL2 (by omega)
    exact ⟨o, hE, Ev.step (fun k => by rw [canon_classes.l0]) (Ev.ncond (by omega) (Ev.step (fun k => by rw [canon_classes.l1]) (Ev.ret e (Ev.ncond (show ¬ ((dd out).length : Int) = 0 by omega) hev))))⟩
  | succ d ih =>
    intro i x hi hx h
    have ii : i < ac.length := by omega
    have wi : wrap64 ((i : Int) + 1) = ((i + 1 : Nat) : Int) := by rw [w64 (by omega) (by omega)]; omega
    by_cases c : rdOf false ac (i : Int) = true
    · obtain ⟨o, hE, hev⟩ := ih (i + 1) (x.set i 1) (by omega) (by rw [List.length_set, hx]) (fun p hp => by
        rw [gD_set (by omega), h p hp]
        rw [m.acc ii] at c
        by_cases e : p = i
        · subst e; rw [if_pos rfl, if_pos ⟨by omega, c⟩]
        · rw [if_neg e]
          by_cases e2 : p < i ∧ acF ac p = true
          · rw [if_pos e2, if_pos ⟨by omega, e2.2⟩]
          · rw [if_neg e2, if_neg (fun z => e2 ⟨by omega, z.2⟩)])
      refine ⟨o, hE, Ev.step (fun k => by rw [canon_classes.l0]) (Ev.cond (by omega) (Ev.cond (by omega) (Ev.cond (by omega) (Ev.cond c (Ev.cond (by omega) ?_)))))⟩
      rw [wi, Int.toNat_natCast]; exact hev
    · obtain ⟨o, hE, hev⟩ := ih (i + 1) x (by omega) hx (fun p hp => by
        rw [h p hp]
        rw [m.acc ii] at c
        by_cases e2 : p < i ∧ acF ac p = true
        · rw [if_pos e2, if_pos ⟨by omega, e2.2⟩]
        · rw [if_neg e2, if_neg (fun z => by
            by_cases e : p = i
            · subst e; exact c z.2
            · exact e2 ⟨by omega, z.2⟩)])
      refine ⟨o, hE, Ev.step (fun k => by rw [canon_classes.l0]) (Ev.cond (by omega) (Ev.cond (by omega) (Ev.cond (by omega) (Ev.ncond c ?_))))⟩
      rw [wi]; exact hev
theorem classes_ev (m : Mk ac nx L) (ns : List ByteArray) : ∃ out, Lab (EE (acF ac) (dlF nx) L) ac.length out ∧ Ev (fun k => canon_classes.f k ns ac nx) out := by
  have n2 := m.n2
  obtain ⟨o, hE, hev⟩ := cl0 m ns ac.length 0 (List.replicate ac.length 0) (by omega) (by simp) (fun p hp => by
    rw [if_neg (fun z => absurd z.1 (by omega)), gD (by simpa using hp), List.getElem_replicate])
  refine ⟨o, hE, Ev.congr (fun k => by rw [canon_classes.f]) (Ev.cond (by omega) (Ev.cond (by omega) ?_))⟩
  rw [Int.toNat_natCast]; exact hev
theorem index_ev {l : List Int} (hl : l.length ≤ 9000000000000000000) {q : Nat} (hq : q < l.length) : ∃ p : Nat, p ≤ q ∧ l.getD p 0 = l.getD q 0 ∧ (∀ p', p' < p → ¬ l.getD p' 0 = l.getD q 0) ∧ Ev (fun k => slices_Index_int_int.f k l (l.getD q 0)) (p : Int) := by
  have key : ∀ (d i : Nat), i + d = q → (∀ p', p' < i → ¬ l.getD p' 0 = l.getD q 0) → ∃ p : Nat, p ≤ q ∧ l.getD p 0 = l.getD q 0 ∧ (∀ p', p' < p → ¬ l.getD p' 0 = l.getD q 0) ∧ Ev (fun k => slices_Index_int_int.l0 k l (l.getD q 0) (l.length : Int) (i : Int)) (p : Int) := by
    intro d
    induction d with
    | zero =>
      intro i hi h
      have e : i = q := by omega
      subst e
      refine ⟨i, Nat.le_refl _, rfl, h, Ev.step (fun k => by rw [slices_Index_int_int.l0]) (Ev.cond (by omega) (Ev.cond (by omega) (Ev.cond (by omega) (Ev.cond ?_ (Ev.fin rfl)))))⟩
      rw [rd_nat]
    | succ d ih =>
      intro i hi h
      by_cases c : l.getD i 0 = l.getD q 0
      · refine ⟨i, by omega, c, h, Ev.step (fun k => by rw [slices_Index_int_int.l0]) (Ev.cond (by omega) (Ev.cond (by omega) (Ev.cond (by omega) (Ev.cond ?_ (Ev.fin rfl)))))⟩
        rw [rd_nat, c]
      · obtain ⟨p, h1, h2, h3, h4⟩ := ih (i + 1) (by omega) (fun p' hp' => by
          by_cases e : p' = i
          · subst e; exact c
          · exact h p' (by omega))
        refine ⟨p, h1, h2, h3, Ev.step (fun k => by rw [slices_Index_int_int.l0]) (Ev.cond (by omega) (Ev.cond (by omega) (Ev.cond (by omega) (Ev.ncond ?_ ?_))))⟩
        · rw [rd_nat]; exact fun e => c e.symm
        · rw [w64 (by omega) (by omega)]; exact h4
  obtain ⟨p, h1, h2, h3, h4⟩ := key q 0 (by omega) (fun p' h => absurd h (by omega))
  exact ⟨p, h1, h2, h3, Ev.congr (fun k => by rw [slices_Index_int_int.f]; rfl) h4⟩
/-- What is right of a list of least ones so far. -/
def LeastTo (r : Nat → Nat → Prop) (i : Nat) (l : List Int) : Prop := ∀ q, q < i → ∃ p : Nat, l.getD q 0 = (p : Int) ∧ p ≤ q ∧ r p q ∧ ∀ p', p' < p → ¬ r p' q
theorem Classes_ok {ns : List ByteArray} (hs : SZ ns) (hr : RZ nx) (d : DOk ns ac nx) (m : Mk ac nx L) : ∃ l, Least (EE (acF ac) (dlF nx) L) ac.length l ∧ Ev (fun k => canon_Classes.f k ns ac nx) (l, 0) := by
  have n2 := m.n2
  obtain ⟨c, hE, hev⟩ := classes_ev m ns
  have hc := hE.len
  have key : ∀ (e i : Nat) (x : List Int), i + e = ac.length → x.length = ac.length → LeastTo (EE (acF ac) (dlF nx) L) i x → ∃ l, Least (EE (acF ac) (dlF nx) L) ac.length l ∧ Ev (fun k => canon_Classes.l0 k c x c (c.length : Int) (i : Int)) (l, 0) := by
    intro e
    induction e with
    | zero =>
      intro i x hi hx h
      have e : i = ac.length := by omega
      subst e
      exact ⟨x, ⟨hx, h⟩, Ev.step (fun k => by rw [canon_Classes.l0]) (Ev.ncond (by omega) (Ev.fin rfl))⟩
    | succ e ih =>
      intro i x hi hx h
      obtain ⟨p, h1, h2, h3, h4⟩ := index_ev (l := c) (by omega) (q := i) (by omega)
      obtain ⟨l, hl, hv⟩ := ih (i + 1) (x.set i (p : Int)) (by omega) (by rw [List.length_set, hx]) (fun q hq => by
        by_cases e : q = i
        · subst e
          refine ⟨p, by rw [gD_set (by omega), if_pos rfl], h1, (hE.iff p q (by omega) (by omega)).1 h2, fun p' hp' z => h3 p' hp' ((hE.iff p' q (by omega) (by omega)).2 z)⟩
        · obtain ⟨p2, g⟩ := h q (by omega)
          exact ⟨p2, by rw [gD_set (by omega), if_neg e]; exact g.1, g.2⟩)
      refine ⟨l, hl, Ev.step (fun k => by rw [canon_Classes.l0]) (Ev.cond (by omega) (Ev.cond (by omega) (Ev.cond (by omega) ?_)))⟩
      rw [rd_nat]
      refine Ev.bind h4 (Ev.cond (by omega) ?_)
      rw [w64 (by omega) (by omega), Int.toNat_natCast]; exact hv
  obtain ⟨l, hl, hv⟩ := key ac.length 0 (List.replicate c.length 0) (by omega) (by simp [hc]) (fun q hq => absurd hq (by omega))
  refine ⟨l, hl, Ev.congr (fun k => by rw [canon_Classes.f]) (Ev.bind (right_ok hs hr d) (Ev.cond rfl (Ev.bind hev ?_)))⟩
  refine Ev.cond (by omega) (Ev.cond (by omega) ?_)
  rw [Int.toNat_natCast]; exact hv
end
end Go.Proofs.Ytbpeloobnjbgkaa.Pure
namespace Go.Proofs.Ytbpeloobnjbgkaa.Pure
open Go.RowKit Go.Proofs.YtbpeloobnjbgkaaW.PrintWords Go.Proofs.YtbpeloobnjbgkaaW.PrintLast Go.Proofs.YtbpeloobnjbgkaaW.PrintMore Go.Proofs.Ytbpeloobnjbgkaa.X
set_option linter.unusedVariables false
section
variable (acc : Nat → Bool) (δ : Nat → Nat → Nat) (L : Nat)
/-- Not told apart after so many rounds: at first nothing is. -/
def SS : Nat → Nat → Nat → Prop
  | 0, _, _ => True
  | i + 1, p, q => SS i p q ∧ acc p = acc q ∧ ∀ a, a < L → SS i (δ p a) (δ q a)
end
section
variable {acc : Nat → Bool} {δ : Nat → Nat → Nat} {L : Nat}
theorem SS.refl : ∀ (i p : Nat), SS acc δ L i p p
  | 0, _ => trivial
  | i + 1, p => ⟨SS.refl i p, rfl, fun a _ => SS.refl i _⟩
theorem SS.symm : ∀ {i p q : Nat}, SS acc δ L i p q → SS acc δ L i q p
  | 0, _, _, _ => trivial
  | _ + 1, _, _, h => ⟨SS.symm h.1, Eq.symm h.2.1, fun a ha => SS.symm (h.2.2 a ha)⟩
theorem SS.trans : ∀ {i p q r : Nat}, SS acc δ L i p q → SS acc δ L i q r → SS acc δ L i p r
  | 0, _, _, _, _, _ => trivial
  | _ + 1, _, _, _, h, k => ⟨SS.trans h.1 k.1, Eq.trans h.2.1 k.2.1, fun a ha => SS.trans (h.2.2 a ha) (k.2.2 a ha)⟩
theorem SS.rr : ∀ {i p q : Nat}, SS acc δ L (i + 1) p q → RR acc δ L i p q
  | 0, _, _, h => h.2.1
  | i + 1, _, _, h => ⟨SS.rr h.1, fun a ha => SS.rr (h.2.2 a ha)⟩
theorem SS.of_ee : ∀ {i p q : Nat}, EE acc δ L p q → SS acc δ L i p q
  | 0, _, _, _ => trivial
  | i + 1, _, _, h => ⟨SS.of_ee h, h 0, fun a ha => SS.of_ee (h.next ha)⟩
theorem SS.stays {n : Nat} (hδ : ∀ q, q < n → ∀ a, a < L → δ q a < n) {i : Nat} (h : ∀ p q, p < n → q < n → SS acc δ L i p q → SS acc δ L (i + 1) p q) : ∀ (j p q : Nat), p < n → q < n → SS acc δ L i p q → SS acc δ L (i + j) p q := by
  intro j
  induction j with
  | zero => intro p q _ _ k; exact k
  | succ j ih => intro p q hp hq k; exact ⟨ih p q hp hq k, (h p q hp hq k).2.1, fun a ha => ih _ _ (hδ p hp a ha) (hδ q hq a ha) ((h p q hp hq k).2.2 a ha)⟩
theorem SS.down : ∀ {j i p q : Nat}, SS acc δ L (i + j) p q → SS acc δ L i p q
  | 0, _, _, _, h => h
  | _ + 1, _, _, _, h => SS.down h.1
theorem SS.ee {n : Nat} (hδ : ∀ q, q < n → ∀ a, a < L → δ q a < n) {i : Nat} (h : ∀ p q, p < n → q < n → SS acc δ L i p q → SS acc δ L (i + 1) p q) {p q : Nat} (hp : p < n) (hq : q < n) (k : SS acc δ L i p q) : EE acc δ L p q := fun j => by
  have := SS.stays hδ h (j + 1) p q hp hq k
  rw [Nat.add_comm] at this
  exact SS.rr (SS.down this)
end
theorem Least.lab {r : Nat → Nat → Prop} {n : Nat} {l : List Int} (h : Least r n l) (n2 : n ≤ 256) (sy : ∀ {p q}, r p q → r q p) (tr : ∀ {p q s}, r p q → r q s → r p s) : Lab r n l := by
  refine ⟨h.len, fun x hx => ?_, fun p q hp hq => ?_⟩
  · obtain ⟨q, hq, rfl⟩ := List.mem_iff_getElem.1 hx
    obtain ⟨p, e, hp, _⟩ := h.at_ q (h.len ▸ hq)
    have := h.len
    rw [gD hq] at e
    omega
  · obtain ⟨p0, e, ap, bp, cp⟩ := h.at_ p hp
    obtain ⟨q0, e', aq, bq, cq⟩ := h.at_ q hq
    rw [e, e']
    constructor
    · intro z
      have : p0 = q0 := by omega
      subst this
      exact tr (sy bp) bq
    · intro z
      have z1 : ¬ p0 < q0 := fun c => cq p0 c (tr bp z)
      have z2 : ¬ q0 < p0 := fun c => cp q0 c (tr bq (sy z))
      omega
section
variable {ac : List Bool} {nx : List (List Int)} {L : Nat}
theorem apart_ev (m : Mk ac nx L) (ns : List ByteArray) {cls : List Int} (hc : cls.length = ac.length) {p q : Nat} (hp : p < ac.length) (hq : q < ac.length) :
    ∃ b, Ev (fun k => tabardref13_apart.f k ns ac nx cls (p : Int) (q : Int)) b ∧ (b = true ↔ ¬ (acF ac p = acF ac q ∧ ∀ a, a < L → cls.getD (dlF nx p a) 0 = cls.getD (dlF nx q a) 0)) := by
  have ln := m.len
  have l2 := m.l2
  obtain ⟨rp, tp⟩ := m.row hp
  obtain ⟨rq, tq⟩ := m.row hq
  by_cases c : acF ac p = acF ac q
  · have key : ∀ (d a : Nat), a + d = L → (∀ a', a' < a → cls.getD (dlF nx p a') 0 = cls.getD (dlF nx q a') 0) → ∃ b, Ev (fun k => tabardref13_apart.l0 k cls (p : Int) (q : Int) (a : Int) ns ac nx) b ∧ (b = true ↔ ¬ (acF ac p = acF ac q ∧ ∀ a, a < L → cls.getD (dlF nx p a) 0 = cls.getD (dlF nx q a) 0)) := by
      intro d
      induction d with
      | zero =>
        intro a ha h
        refine ⟨false, Ev.step (fun k => by rw [tabardref13_apart.l0]) (Ev.cond (by omega) (Ev.cond (by omega) (Ev.ncond (by omega) (Ev.fin rfl)))), ?_⟩
        exact ⟨fun z => (by cases z), fun z => absurd ⟨c, fun a' ha' => h a' (by omega)⟩ z⟩
      | succ d ih =>
        intro a ha h
        have al : a < L := by omega
        obtain ⟨e1, b1⟩ := tp a al
        obtain ⟨e2, b2⟩ := tq a al
        by_cases e : cls.getD (dlF nx p a) 0 = cls.getD (dlF nx q a) 0
        · obtain ⟨b, hb, hb2⟩ := ih (a + 1) (by omega) (fun a' ha' => by
            by_cases z : a' = a
            · subst z; exact e
            · exact h a' (by omega))
          refine ⟨b, Ev.step (fun k => by rw [tabardref13_apart.l0]) (Ev.cond (by omega) (Ev.cond (by omega) (Ev.cond (by omega) (Ev.cond (by omega) ?_)))), hb2⟩
          rw [e1, e2, rd_nat, rd_nat]
          refine Ev.cond (by omega) (Ev.cond (by omega) (Ev.cond (by omega) (Ev.cond (by omega) (Ev.cond (by omega) (Ev.cond (by omega) (Ev.cond (by omega) (Ev.cond e ?_)))))))
          rw [w64 (by omega) (by omega)]; exact hb
        · refine ⟨true, Ev.step (fun k => by rw [tabardref13_apart.l0]) (Ev.cond (by omega) (Ev.cond (by omega) (Ev.cond (by omega) (Ev.cond (by omega) ?_)))), ?_⟩
          · rw [e1, e2, rd_nat, rd_nat]
            exact Ev.cond (by omega) (Ev.cond (by omega) (Ev.cond (by omega) (Ev.cond (by omega) (Ev.cond (by omega) (Ev.cond (by omega) (Ev.cond (by omega) (Ev.ncond e (Ev.fin rfl))))))))
          · exact ⟨fun _ z => e (z.2 a al), fun _ => rfl⟩
    obtain ⟨b, h1', h2⟩ := key L 0 (by omega) (fun a' h => absurd h (by omega))
    have h1 : Ev (fun k => tabardref13_apart.l0 k cls (p : Int) (q : Int) 0 ns ac nx) b := h1'
    refine ⟨b, Ev.congr (fun k => by rw [tabardref13_apart.f]) (Ev.cond (by omega) (Ev.cond (by omega) (Ev.cond (by omega) (Ev.cond (by omega) (Ev.ncond ?_ h1))))), h2⟩
    rw [m.acc hp, m.acc hq, c]; simp
  · refine ⟨true, Ev.congr (fun k => by rw [tabardref13_apart.f]) (Ev.cond (by omega) (Ev.cond (by omega) (Ev.cond (by omega) (Ev.cond (by omega) (Ev.cond ?_ (Ev.fin rfl)))))), ?_⟩
    · rw [m.acc hp, m.acc hq]; simpa using c
    · exact ⟨fun _ z => c z.1, fun _ => rfl⟩
theorem rl2 (m : Mk ac nx L) (ns : List ByteArray) {i : Nat} {x4 : List Int} (h4 : Least (SS (acF ac) (dlF nx) L i) ac.length x4) {q : Nat} (hq : q < ac.length) {x5 : List Int} (hx5 : x5.length = ac.length) (h5 : LeastTo (SS (acF ac) (dlF nx) L (i + 1)) q x5) (hqq : x5.getD q 0 = (q : Int)) (ch : Bool) {P : List Int → Prop}
    (next : ∀ y ch', y.length = ac.length → LeastTo (SS (acF ac) (dlF nx) L (i + 1)) (q + 1) y → (∀ p, p < q → y.getD p 0 = x5.getD p 0) → (ch' = true ↔ ch = true ∨ y.getD q 0 ≠ x4.getD q 0) → ∃ o, P o ∧ Ev (fun k => tabardref13_Classes.l1 k (ac.length : Int) x4 y ch' (wrap64 ((q : Int) + 1)) ns ac nx) o) :
    ∀ (d p : Nat), p + d = q → (∀ p', p' < p → ¬ SS (acF ac) (dlF nx) L (i + 1) p' q) → ∃ o, P o ∧ Ev (fun k => tabardref13_Classes.l2 k (ac.length : Int) x4 x5 ch (q : Int) (p : Int) ns ac nx) o := by
  have n2 := m.n2
  have l4 := h4.len
  have lab4 : Lab (SS (acF ac) (dlF nx) L i) ac.length x4 := h4.lab n2 SS.symm SS.trans
  have grow : ∀ (y : List Int) (p : Nat), (∀ p', p' < q → y.getD p' 0 = x5.getD p' 0) → y.getD q 0 = (p : Int) → p ≤ q → SS (acF ac) (dlF nx) L (i + 1) p q → (∀ p', p' < p → ¬ SS (acF ac) (dlF nx) L (i + 1) p' q) → LeastTo (SS (acF ac) (dlF nx) L (i + 1)) (q + 1) y := by
    intro y p a b c d e q' hq'
    by_cases z : q' = q
    · subst z; exact ⟨p, b, c, d, e⟩
    · obtain ⟨p2, g⟩ := h5 q' (by omega)
      exact ⟨p2, by rw [a q' (by omega)]; exact g.1, g.2⟩
  have fl : ∀ (y : List Int), y.length = ac.length → (((rd y (q : Int)) != (rd x4 (q : Int))) = true ↔ y.getD q 0 ≠ x4.getD q 0) := fun y hy => by rw [rd_nat, rd_nat]; simp
  intro d
  induction d with
  | zero =>
    intro p hp h
    have e : p = q := by omega
    subst e
    have g := grow x5 p (fun _ _ => rfl) hqq (Nat.le_refl _) (SS.refl _ _) h
    cases ch with
    | true =>
      obtain ⟨o, a, b⟩ := next x5 true hx5 g (fun _ _ => rfl) (by simp)
      exact ⟨o, a, Ev.step (fun k => by rw [tabardref13_Classes.l2]) (Ev.ncond (by omega) (Ev.cond rfl b))⟩
    | false =>
      obtain ⟨o, a, b⟩ := next x5 ((rd x5 (p : Int)) != (rd x4 (p : Int))) hx5 g (fun _ _ => rfl) (by rw [fl x5 hx5]; simp)
      exact ⟨o, a, Ev.step (fun k => by rw [tabardref13_Classes.l2]) (Ev.ncond (by omega) (Ev.ncond (by decide) (Ev.cond (by omega) (Ev.cond (by omega) (Ev.cond (by omega) b)))))⟩
  | succ d ih =>
    intro p hp h
    have pq : p < q := by omega
    have wp : wrap64 ((p : Int) + 1) = ((p + 1 : Nat) : Int) := by rw [w64 (by omega) (by omega)]; omega
    have on : ¬ SS (acF ac) (dlF nx) L (i + 1) p q → ∃ o, P o ∧ Ev (fun k => tabardref13_Classes.l2 k (ac.length : Int) x4 x5 ch (q : Int) (wrap64 ((p : Int) + 1)) ns ac nx) o := fun z => by
      rw [wp]
      exact ih (p + 1) (by omega) (fun p' hp' => by
        by_cases e : p' = p
        · subst e; exact z
        · exact h p' (by omega))
    by_cases c1 : rd x5 (p : Int) = (p : Int)
    · by_cases c2 : rd x4 (p : Int) = rd x4 (q : Int)
      · have s2 : SS (acF ac) (dlF nx) L i p q := by
          rw [rd_nat, rd_nat] at c2
          exact (lab4.iff p q (by omega) hq).1 c2
        obtain ⟨b, hb, hb2⟩ := apart_ev m ns (cls := x4) l4 (p := p) (q := q) (by omega) hq
        have lab : (∀ a, a < L → x4.getD (dlF nx p a) 0 = x4.getD (dlF nx q a) 0) ↔ ∀ a, a < L → SS (acF ac) (dlF nx) L i (dlF nx p a) (dlF nx q a) :=
          ⟨fun z a ha => (lab4.iff _ _ (m.to (by omega) ha) (m.to hq ha)).1 (z a ha), fun z a ha => (lab4.iff _ _ (m.to (by omega) ha) (m.to hq ha)).2 (z a ha)⟩
        cases b with
        | true =>
          have no : ¬ SS (acF ac) (dlF nx) L (i + 1) p q := fun z => hb2.1 rfl ⟨z.2.1, lab.2 z.2.2⟩
          obtain ⟨o, a, e⟩ := on no
          exact ⟨o, a, Ev.step (fun k => by rw [tabardref13_Classes.l2]) (Ev.cond (by omega) (Ev.cond (by omega) (Ev.cond (by omega) (Ev.cond c1 (Ev.cond (by omega) (Ev.cond (by omega) (Ev.cond (by omega) (Ev.cond c2 (Ev.bind hb (Ev.cond rfl e))))))))))⟩
        | false =>
          have yes : acF ac p = acF ac q ∧ ∀ a, a < L → x4.getD (dlF nx p a) 0 = x4.getD (dlF nx q a) 0 := Classical.byContradiction fun z => by cases hb2.2 z
          have ys : SS (acF ac) (dlF nx) L (i + 1) p q := ⟨s2, yes.1, lab.1 yes.2⟩
          have sl : (x5.set q (p : Int)).length = ac.length := by rw [List.length_set, hx5]
          have s1 : ∀ p', p' < q → (x5.set q (p : Int)).getD p' 0 = x5.getD p' 0 := fun p' hp' => by rw [gD_set (by omega), if_neg (by omega)]
          have s3 : (x5.set q (p : Int)).getD q 0 = (p : Int) := by rw [gD_set (by omega), if_pos rfl]
          have g := grow (x5.set q (p : Int)) p s1 s3 (by omega) ys h
          have way : ∀ o, P o → Ev (fun k => if ch = true then tabardref13_Classes.l1 k (ac.length : Int) x4 (x5.set q (p : Int)) true (wrap64 ((q : Int) + 1)) ns ac nx else tabardref13_Classes.l1 k (ac.length : Int) x4 (x5.set q (p : Int)) ((rd (x5.set q (p : Int)) (q : Int)) != (rd x4 (q : Int))) (wrap64 ((q : Int) + 1)) ns ac nx) o → ∃ o, P o ∧ Ev (fun k => tabardref13_Classes.l2 k (ac.length : Int) x4 x5 ch (q : Int) (p : Int) ns ac nx) o := by
            intro o a e
            refine ⟨o, a, Ev.step (fun k => by rw [tabardref13_Classes.l2]) (Ev.cond (by omega) (Ev.cond (by omega) (Ev.cond (by omega) (Ev.cond c1 (Ev.cond (by omega) (Ev.cond (by omega) (Ev.cond (by omega) (Ev.cond c2 (Ev.bind hb ?_)))))))))⟩
            refine Ev.ncond (by decide) (Ev.cond (by omega) ?_)
            rw [Int.toNat_natCast]
            exact Ev.ret rfl e
          cases ch with
          | true =>
            obtain ⟨o, a, e⟩ := next (x5.set q (p : Int)) true sl g s1 (by simp)
            exact way o a (Ev.cond rfl e)
          | false =>
            obtain ⟨o, a, e⟩ := next (x5.set q (p : Int)) ((rd (x5.set q (p : Int)) (q : Int)) != (rd x4 (q : Int))) sl g s1 (by rw [fl _ sl]; simp)
            exact way o a (Ev.ncond (by decide) e)
      · have no : ¬ SS (acF ac) (dlF nx) L (i + 1) p q := fun z => c2 (by rw [rd_nat, rd_nat]; exact (lab4.iff p q (by omega) hq).2 z.1)
        obtain ⟨o, a, e⟩ := on no
        exact ⟨o, a, Ev.step (fun k => by rw [tabardref13_Classes.l2]) (Ev.cond (by omega) (Ev.cond (by omega) (Ev.cond (by omega) (Ev.cond c1 (Ev.cond (by omega) (Ev.cond (by omega) (Ev.cond (by omega) (Ev.ncond c2 e))))))))⟩
    · have no : ¬ SS (acF ac) (dlF nx) L (i + 1) p q := fun z => by
        obtain ⟨p0, e, a, b, _⟩ := h5 p pq
        rw [rd_nat, e] at c1
        exact h p0 (by omega) (b.trans z)
      obtain ⟨o, a, e⟩ := on no
      exact ⟨o, a, Ev.step (fun k => by rw [tabardref13_Classes.l2]) (Ev.cond (by omega) (Ev.cond (by omega) (Ev.cond (by omega) (Ev.ncond c1 e))))⟩
theorem rl1 (m : Mk ac nx L) (ns : List ByteArray) {i : Nat} {x4 : List Int} (h4 : Least (SS (acF ac) (dlF nx) L i) ac.length x4)
    (outer : ∀ y, Least (SS (acF ac) (dlF nx) L (i + 1)) ac.length y → y ≠ x4 → ∃ o, Least (EE (acF ac) (dlF nx) L) ac.length o ∧ Ev (fun k => tabardref13_Classes.l0 k (ac.length : Int) y ns ac nx) o) :
    ∀ (e q : Nat) (x5 : List Int) (ch : Bool), q + e = ac.length → x5.length = ac.length → LeastTo (SS (acF ac) (dlF nx) L (i + 1)) q x5 → (ch = true ↔ ∃ p, p < q ∧ x5.getD p 0 ≠ x4.getD p 0) →
      ∃ o, Least (EE (acF ac) (dlF nx) L) ac.length o ∧ Ev (fun k => tabardref13_Classes.l1 k (ac.length : Int) x4 x5 ch (q : Int) ns ac nx) o := by
  have n2 := m.n2
  have l4 := h4.len
  intro e
  induction e with
  | zero =>
    intro q x5 ch hq hx h5 hc
    have e : q = ac.length := by omega
    subst e
    have L5 : Least (SS (acF ac) (dlF nx) L (i + 1)) ac.length x5 := ⟨hx, h5⟩
    cases ch with
    | true =>
      obtain ⟨p, hp, ne⟩ := hc.1 rfl
      obtain ⟨o, a, b⟩ := outer x5 L5 (fun z => ne (by rw [z]))
      exact ⟨o, a, Ev.step (fun k => by rw [tabardref13_Classes.l1]) (Ev.ncond (by omega) (Ev.cond rfl b))⟩
    | false =>
      have same : x5 = x4 := by
        refine List.ext_getElem (hx.trans l4.symm) (fun p h1 h2 => ?_)
        rw [← gD, ← gD]
        exact Classical.byContradiction fun z => by cases hc.2 ⟨p, by omega, z⟩
      refine ⟨x4, ?_, Ev.step (fun k => by rw [tabardref13_Classes.l1]) (Ev.ncond (by omega) (Ev.ncond (by decide) (Ev.fin rfl)))⟩
      have la := h4.lab n2 SS.symm SS.trans
      have lb := L5.lab n2 SS.symm SS.trans
      rw [same] at lb
      refine h4.iff (fun p q hp hq => ⟨fun z => SS.ee (fun q hq a ha => m.to hq ha) (fun p q hp hq z => (lb.iff p q hp hq).1 ((la.iff p q hp hq).2 z)) hp hq z, fun z => SS.of_ee z⟩)
  | succ e ih =>
    intro q x5 ch hq hx h5 hc
    have qn : q < ac.length := by omega
    have wq : wrap64 ((q : Int) + 1) = ((q + 1 : Nat) : Int) := by rw [w64 (by omega) (by omega)]; omega
    have s1 : ∀ p, p < q → (x5.set q (q : Int)).getD p 0 = x5.getD p 0 := fun p hp => by rw [gD_set (by omega), if_neg (by omega)]
    obtain ⟨o, a, b⟩ := rl2 m ns h4 qn (x5 := x5.set q (q : Int)) (by rw [List.length_set, hx]) (fun q' hq' => by
        obtain ⟨p2, g⟩ := h5 q' hq'
        exact ⟨p2, by rw [s1 q' hq']; exact g.1, g.2⟩) (by rw [gD_set (by omega), if_pos rfl]) ch (P := Least (EE (acF ac) (dlF nx) L) ac.length) (fun y ch' hy g s hch => by
        rw [wq]
        refine ih (q + 1) y ch' (by omega) hy g ?_
        rw [hch, hc]
        constructor
        · rintro (⟨p, hp, ne⟩ | ne)
          · exact ⟨p, by omega, by rw [s p hp, s1 p hp]; exact ne⟩
          · exact ⟨q, by omega, ne⟩
        · rintro ⟨p, hp, ne⟩
          by_cases z : p = q
          · subst z; exact .inr ne
          · exact .inl ⟨p, by omega, by rw [← s1 p (by omega), ← s p (by omega)]; exact ne⟩) q 0 (by omega) (fun p' h => absurd h (by omega))
    refine ⟨o, a, Ev.step (fun k => by rw [tabardref13_Classes.l1]) (Ev.cond (by omega) (Ev.cond (by omega) (Ev.cond (by omega) ?_)))⟩
    rw [Int.toNat_natCast]; exact b
theorem rl0 (m : Mk ac nx L) (ns : List ByteArray) : ∀ (d i : Nat) (x4 : List Int), Least (SS (acF ac) (dlF nx) L i) ac.length x4 → 257 ≤ (dd x4).length + d →
    ∃ o, Least (EE (acF ac) (dlF nx) L) ac.length o ∧ Ev (fun k => tabardref13_Classes.l0 k (ac.length : Int) x4 ns ac nx) o := by
  have n2 := m.n2
  intro d
  induction d with
  | zero =>
    intro i x4 h hd
    have := dd_len x4
    have := h.len
    omega
  | succ d ih =>
    intro i x4 h hd
    obtain ⟨o, a, b⟩ := rl1 m ns h (fun y hy ne => by
      have la := h.lab n2 SS.symm SS.trans
      have lb := hy.lab n2 SS.symm SS.trans
      have f := la.finer lb (fun p q _ _ z => z.1)
      refine ih (i + 1) y hy ?_
      have : ¬ (dd x4).length = (dd y).length := fun e => ne (hy.unique (h.iff (fun p q hp hq => ⟨fun z => f.2 e p q hp hq z, fun z => z.1⟩)))
      have := f.1
      omega) ac.length 0 (List.replicate ac.length 0) false (by omega) (by simp) (fun q hq => absurd hq (by omega)) (by simp)
    refine ⟨o, a, Ev.step (fun k => by rw [tabardref13_Classes.l0]) (Ev.cond (by omega) (Ev.cond (by omega) ?_))⟩
    rw [Int.toNat_natCast]; exact b
theorem rClasses_ev (m : Mk ac nx L) (ns : List ByteArray) : ∃ o, Least (EE (acF ac) (dlF nx) L) ac.length o ∧ Ev (fun k => tabardref13_Classes.f k ns ac nx) o := by
  have n2 := m.n2
  obtain ⟨o, a, b⟩ := rl0 m ns 257 0 (List.replicate ac.length 0) ⟨by simp, fun q hq => ⟨0, by rw [gD (by simpa using hq), List.getElem_replicate]; rfl, Nat.zero_le _, trivial, fun p' h => absurd h (by omega)⟩⟩ (by omega)
  refine ⟨o, a, Ev.congr (fun k => by rw [tabardref13_Classes.f]) (Ev.cond (by omega) (Ev.cond (by omega) ?_))⟩
  rw [Int.toNat_natCast]; exact b
end
end Go.Proofs.Ytbpeloobnjbgkaa.Pure
namespace Go.Proofs.Ytbpeloobnjbgkaa.Pure
open Go.RowKit Go.Proofs.YtbpeloobnjbgkaaW.PrintWords Go.Proofs.YtbpeloobnjbgkaaW.PrintLast Go.Proofs.YtbpeloobnjbgkaaW.PrintMore Go.Proofs.Ytbpeloobnjbgkaa.X
set_option linter.unusedVariables false
theorem copy_dense {ns : List ByteArray} {ac : List Bool} {nx : List (List Int)} (h0 : ns.length * 16 ≤ 140737488351232) (h1 : ac.length * 1 ≤ 140737488351232) (h2 : nx.length * 24 ≤ 140737488351232) (hq : ∀ r ∈ nx, r.length * 8 ≤ 140737488351232) :
    Ev (fun k => tabardref12_CopyDense.f k ns ac nx) (ns, ac, nx) := by
  refine Ev.congr (fun k => by rw [tabardref12_CopyDense.f]) ?_
  refine Ev.ret rfl ?_
  refine Ev.cond (by simp; omega) ?_
  refine Ev.ret rfl ?_
  refine Ev.cond (by simp; omega) ?_
  rw [List.nil_append, List.nil_append]
  have key : ∀ (m i : Nat), i + m = nx.length → Ev (fun k => tabardref12_CopyDense.l0 k (i : Int) ns ac nx ns ac (nx.take i)) (ns, ac, nx) := by
    intro m
    induction m with
    | zero =>
      intro i hi
      rw [List.take_of_length_le (by omega)]
      exact Ev.step (fun k => by rw [tabardref12_CopyDense.l0]) (Ev.ncond (by omega) (Ev.fin rfl))
    | succ m ih =>
      intro i hi
      have ii : i < nx.length := by omega
      have rl := hq _ (List.getElem_mem ii)
      refine Ev.step (fun k => by rw [tabardref12_CopyDense.l0]) (Ev.cond (by omega) ?_)
      refine Ev.ret rfl ?_
      rw [rdL_get nx ii, List.nil_append, w64 (by omega) (by omega)]
      refine Ev.cond (by omega) (Ev.cond (by simp; omega) (Ev.cond (by rw [List.length_take]; omega) ?_))
      have q := ih (i + 1) (by omega)
      rw [List.take_succ_eq_append_getElem ii] at q
      exact q
  exact key nx.length 0 (by omega)
theorem and3 {a b c : Prop} [Decidable a] [Decidable b] [Decidable c] : decide (a ∧ b ∧ c) = (decide a && (decide b && decide c)) := by
  by_cases a <;> by_cases b <;> by_cases c <;> simp [*]
theorem drop_rdL (a b : List (List Int)) {i : Nat} (h : i < a.length) (h' : i < b.length) : a.drop i = b.drop i ↔ rd_L1 a (i : Int) = rd_L1 b (i : Int) ∧ a.drop (i + 1) = b.drop (i + 1) := by
  rw [List.drop_eq_getElem_cons h, List.drop_eq_getElem_cons h', rdL_get a h, rdL_get b h', List.cons.injEq]
theorem same_dense {t0 u0 : List ByteArray} {t1 u1 : List Bool} {t2 u2 : List (List Int)} (h0 : t0.length ≤ 9000000000000000000) (h1 : t1.length ≤ 9000000000000000000) (h2 : t2.length ≤ 9000000000000000000) (h3 : ∀ r ∈ t2, r.length ≤ 9000000000000000000) :
    Ev (fun k => tabardref12_SameDense.f k t0 t1 t2 u0 u1 u2) (decide (t0 = u0 ∧ t1 = u1 ∧ t2 = u2)) := by
  rw [and3]
  have no : ∀ {x : Bool}, x = false → Ev (fun k => tabardref12_SameDense.j0 k true t0 t1 t2 u0 u1 u2) x := fun e => e ▸ Ev.step (fun k => by rw [tabardref12_SameDense.j0]) (Ev.cond rfl (Ev.fin rfl))
  refine Ev.congr (fun k => by rw [tabardref12_SameDense.f]) (Ev.bind (texts_ev t0 u0 h0) ?_)
  by_cases c0 : t0 = u0
  · rw [decide_eq_true c0]
    refine Ev.cond rfl (Ev.bind (flags_ev t1 u1 h1) ?_)
    by_cases c1 : t1 = u1
    · rw [decide_eq_true c1]
      refine Ev.cond rfl ?_
      by_cases c3 : t2.length = u2.length
      · rw [show ((t2.length : Int) != (u2.length : Int)) = false by simp [c3]]
        refine Ev.step (fun k => by rw [tabardref12_SameDense.j0]) (Ev.ncond (by decide) ?_)
        have key : ∀ (m i : Nat), i + m = t2.length → Ev (fun k => tabardref12_SameDense.l0 k (i : Int) t0 t1 t2 u0 u1 u2) (decide (t2.drop i = u2.drop i)) := by
          intro m
          induction m with
          | zero =>
            intro i hi
            refine Ev.step (fun k => by rw [tabardref12_SameDense.l0]) (Ev.ncond (by omega) (Ev.fin ?_))
            rw [List.drop_eq_nil_of_le (by omega), List.drop_eq_nil_of_le (by omega)]; exact (decide_eq_true rfl).symm
          | succ m ih =>
            intro i hi
            have ii : i < t2.length := by omega
            have e := drop_rdL t2 u2 ii (by omega)
            have hr : (rd_L1 t2 (i : Int)).length ≤ 9000000000000000000 := by rw [rdL_get t2 ii]; exact h3 _ (List.getElem_mem _)
            refine Ev.step (fun k => by rw [tabardref12_SameDense.l0]) (Ev.cond (by omega) (Ev.cond (by omega) (Ev.cond (by omega) (Ev.bind (rints_ev _ _ hr) ?_))))
            by_cases c : rd_L1 t2 (i : Int) = rd_L1 u2 (i : Int)
            · rw [decide_eq_true c]
              refine Ev.cond rfl ?_
              rw [w64 (by omega) (by omega)]
              have := ih (i + 1) (by omega)
              rwa [decide_eq_decide.2 (e.trans (and_iff_right c))]
            · rw [decide_eq_false c]
              refine Ev.ncond (by decide) (Ev.fin ?_)
              exact (decide_eq_false (fun z => c (e.1 z).1)).symm
        exact key t2.length 0 (by omega)
      · rw [show ((t2.length : Int) != (u2.length : Int)) = true from bne_iff_ne.2 (by omega), decide_eq_false (show ¬ t2 = u2 from fun e => c3 (by rw [e]))]
        exact no rfl
    · rw [decide_eq_false c1]; exact Ev.ncond (by decide) (no rfl)
  · rw [decide_eq_false c0]; exact Ev.ncond (by decide) (no rfl)
theorem fixed13_ev : Ev (fun k => tabardlaw13_fixed.f k) true := Ev.of tabardlaw13_fixed.mono (show tabardlaw13_fixed.f 40 = some true by decide +kernel)
theorem DOk.mk' {ns : List ByteArray} {ac : List Bool} {nx : List (List Int)} (d : DOk ns ac nx) : Mk ac nx (2 ^ ns.length) := by
  have := d.fr.tr
  have h := pow6 this
  exact ⟨d.ln, d.fr.n1, d.fr.n2, Nat.two_pow_pos _, h, d.rows⟩
end Go.Proofs.Ytbpeloobnjbgkaa.Pure
namespace Go.Proofs.Ytbpeloobnjbgkaa.Pure
open Go.RowKit Go.Proofs.YtbpeloobnjbgkaaW.PrintWords Go.Proofs.YtbpeloobnjbgkaaW.PrintLast Go.Proofs.YtbpeloobnjbgkaaW.PrintMore Go.Proofs.Ytbpeloobnjbgkaa.X
set_option linter.unusedVariables false
section
variable (f : Nat → Nat → Nat) (L : Nat)
def mid (ms : List Nat) (q : Nat) : Nat → List Nat
  | 0 => ms
  | a + 1 => nm (mid ms q a) (f q a)
def bf : Nat → List Nat
  | 0 => [0]
  | j + 1 => mid f (bf j) ((bf j).getD j 0) L
def qa (j : Nat) : Nat := (bf f L j).getD j 0
def rwn (j a : Nat) : Nat := num1 (bf f L (j + 1)) (f (qa f L j) a)
structure End (K : Nat) : Prop where
  pos : 1 ≤ K
  len : (bf f L K).length = K
  on : ∀ i, i < K → i < (bf f L i).length
end
section
variable {f : Nat → Nat → Nat} {L : Nat}
theorem mid_pre (ms : List Nat) (q : Nat) {a b : Nat} (h : a ≤ b) : ∃ t, mid f ms q b = mid f ms q a ++ t := by
  induction b with
  | zero => rw [Nat.le_zero.1 h]; exact ⟨[], by simp⟩
  | succ b ih =>
    by_cases c : a = b + 1
    · rw [c]; exact ⟨[], by simp⟩
    · obtain ⟨t, ht⟩ := ih (by omega)
      obtain ⟨u, hu⟩ := nm_pre (mid f ms q b) (f q b)
      exact ⟨t ++ u, by rw [mid, hu, ht, List.append_assoc]⟩
theorem bf_pre {i j : Nat} (h : i ≤ j) : ∃ t, bf f L j = bf f L i ++ t := by
  induction j with
  | zero => rw [Nat.le_zero.1 h]; exact ⟨[], by simp⟩
  | succ j ih =>
    by_cases c : i = j + 1
    · rw [c]; exact ⟨[], by simp⟩
    · obtain ⟨t, ht⟩ := ih (by omega)
      obtain ⟨u, hu⟩ := mid_pre (f := f) (bf f L j) ((bf f L j).getD j 0) (Nat.zero_le L)
      exact ⟨t ++ u, by rw [bf, hu, mid, ht, List.append_assoc]⟩
theorem mid_nodup {ms : List Nat} (h : ms.Nodup) (q : Nat) : ∀ a, (mid f ms q a).Nodup
  | 0 => h
  | a + 1 => nm_nodup (mid_nodup h q a) _
theorem bf_nodup : ∀ j, (bf f L j).Nodup
  | 0 => by simp [bf]
  | j + 1 => mid_nodup (bf_nodup j) _ _
theorem bf_lt {n : Nat} (n1 : 0 < n) (hf : ∀ q a, q < n → a < L → f q a < n) : ∀ j, ∀ x ∈ bf f L j, x < n := by
  intro j
  induction j with
  | zero => intro x hx; simp [bf] at hx; omega
  | succ j ih =>
    have q1 : (bf f L j).getD j 0 < n := by
      rw [List.getD_eq_getElem?_getD]
      by_cases c : j < (bf f L j).length
      · rw [List.getElem?_eq_getElem c]; exact ih _ (List.getElem_mem c)
      · rw [List.getElem?_eq_none (by omega)]; exact n1
    have key : ∀ a, a ≤ L → ∀ x ∈ mid f (bf f L j) ((bf f L j).getD j 0) a, x < n := by
      intro a
      induction a with
      | zero => intro _ x hx; exact ih x hx
      | succ a ih2 =>
        intro ha x hx
        rcases nm_mem.1 hx with h | h
        · exact ih2 (by omega) x h
        · rw [h]; exact hf _ _ q1 (by omega)
    exact key L (Nat.le_refl _)
theorem bf_len {n : Nat} (n1 : 0 < n) (hf : ∀ q a, q < n → a < L → f q a < n) (j : Nat) : (bf f L j).length ≤ n := by
  have := nodup_len (bf_nodup (f := f) (L := L) j) (T := List.range n) (fun x hx => List.mem_range.2 (bf_lt n1 hf j x hx))
  simpa using this
theorem bf_mono {i j : Nat} (h : i ≤ j) : (bf f L i).length ≤ (bf f L j).length := by
  obtain ⟨t, ht⟩ := bf_pre (f := f) (L := L) h
  rw [ht, List.length_append]; omega
theorem exists_end {n : Nat} (n1 : 0 < n) (hf : ∀ q a, q < n → a < L → f q a < n) : ∃ K, K ≤ n ∧ End f L K := by
  have key : ∀ (d i : Nat), i + d = n → (∀ i', i' < i → i' < (bf f L i').length) → ∃ K, K ≤ n ∧ End f L K := by
    intro d
    induction d with
    | zero =>
      intro i hi h
      have := bf_len n1 hf i
      refine ⟨i, by omega, by omega, ?_, h⟩
      have a := h (i - 1) (by omega)
      have b := bf_mono (f := f) (L := L) (show i - 1 ≤ i by omega)
      omega
    | succ d ih =>
      intro i hi h
      by_cases c : i < (bf f L i).length
      · exact ih (i + 1) (by omega) (fun i' hi' => by
          by_cases e : i' = i
          · subst e; exact c
          · exact h i' (by omega))
      · have i1 : 1 ≤ i := by
          rcases Nat.eq_zero_or_pos i with z | z
          · subst z; exact absurd (show 0 < (bf f L 0).length from by simp [bf]) c
          · exact z
        refine ⟨i, by omega, i1, ?_, h⟩
        have a := h (i - 1) (by omega)
        have b := bf_mono (f := f) (L := L) (show i - 1 ≤ i by omega)
        omega
  exact key n 0 (by omega) (fun i' h => absurd h (by omega))
theorem pre_getD {l m t : List Nat} (e : l = m ++ t) {j : Nat} (h : j < m.length) : l.getD j 0 = m.getD j 0 := by
  subst e
  rw [List.getD_eq_getElem?_getD, List.getElem?_append_left h, ← List.getD_eq_getElem?_getD]
theorem End.at_ {K : Nat} (E : End f L K) {i j : Nat} (h : j < K) (hi : j ≤ i) (hK : i ≤ K) : (bf f L i).getD j 0 = qa f L j := by
  obtain ⟨t, ht⟩ := bf_pre (f := f) (L := L) hi
  exact pre_getD ht (E.on j h)
theorem mem_mid (ms : List Nat) (q : Nat) {a b : Nat} (h : a < b) : f q a ∈ mid f ms q b := by
  obtain ⟨t, ht⟩ := mid_pre (f := f) ms q (show a + 1 ≤ b from h)
  rw [ht]
  exact List.mem_append_left _ (nm_mem.2 (.inr rfl))
theorem mem_next {j a : Nat} (h : a < L) : f (qa f L j) a ∈ bf f L (j + 1) := mem_mid (f := f) (bf f L j) (qa f L j) h
theorem End.mem {K : Nat} (E : End f L K) {j a : Nat} (hj : j < K) (h : a < L) : f (qa f L j) a ∈ bf f L K := by
  obtain ⟨t, ht⟩ := bf_pre (f := f) (L := L) (show j + 1 ≤ K from hj)
  rw [ht]; exact List.mem_append_left _ (mem_next h)
theorem End.num {K : Nat} (E : End f L K) {j a : Nat} (hj : j < K) (h : a < L) : rwn f L j a = num1 (bf f L K) (f (qa f L j) a) := by
  obtain ⟨t, ht⟩ := bf_pre (f := f) (L := L) (show j + 1 ≤ K from hj)
  rw [ht, num1_pre (mem_next h)]; rfl
theorem End.num_lt {K : Nat} (E : End f L K) {j a : Nat} (hj : j < K) (h : a < L) : rwn f L j a < K := by
  rw [E.num hj h]
  have := num1_lt (E.mem hj h)
  rwa [E.len] at this
theorem num1_at {α : Type} [DecidableEq α] {ms : List α} {x : α} (h : x ∈ ms) : ms[num1 ms x]'(num1_lt h) = x := List.getElem_idxOf (num1_lt h)
theorem End.qa_mem {K : Nat} (E : End f L K) {j : Nat} (hj : j < K) : qa f L j ∈ bf f L K := by
  have := E.at_ hj (Nat.le_of_lt hj) (Nat.le_refl _)
  rw [List.getD_eq_getElem?_getD, List.getElem?_eq_getElem (by rw [E.len]; exact hj)] at this
  rw [← this]; exact List.getElem_mem _
theorem End.back {K : Nat} (E : End f L K) {j a : Nat} (hj : j < K) (h : a < L) : qa f L (rwn f L j a) = f (qa f L j) a := by
  have m := E.mem hj h
  have e := num1_at m
  have lt := E.num_lt hj h
  rw [← E.at_ lt (Nat.le_of_lt lt) (Nat.le_refl _), List.getD_eq_getElem?_getD, List.getElem?_eq_getElem (by rw [E.len]; exact lt)]
  show (bf f L K)[rwn f L j a]'_ = _
  simp only [E.num hj h]
  exact e
end
/-! ### Two at once -/
section
variable {f g : Nat → Nat → Nat} {L : Nat} {X : Nat → Nat → Prop}
/-- Two lists that go together. -/
structure Pair (X : Nat → Nat → Prop) (l m : List Nat) : Prop where
  len : l.length = m.length
  at_ : ∀ i, i < l.length → X (l.getD i 0) (m.getD i 0)
theorem Pair.mem {l m : List Nat} (h : Pair X l m) (u : ∀ p q y, X p y → X q y → p = q) (v : ∀ p y z, X p y → X p z → y = z) {x y : Nat} (k : X x y) : (x ∈ l ↔ y ∈ m) := by
  constructor
  · intro c
    obtain ⟨i, hi, e⟩ := List.mem_iff_getElem.1 c
    have := h.at_ i hi
    rw [List.getD_eq_getElem?_getD, List.getElem?_eq_getElem hi, Option.getD_some, e, List.getD_eq_getElem?_getD, List.getElem?_eq_getElem (by rw [← h.len]; exact hi), Option.getD_some] at this
    rw [v _ _ _ k this]; exact List.getElem_mem _
  · intro c
    obtain ⟨i, hi, e⟩ := List.mem_iff_getElem.1 c
    have hi' : i < l.length := by rw [h.len]; exact hi
    have := h.at_ i hi'
    rw [List.getD_eq_getElem?_getD, List.getElem?_eq_getElem hi', Option.getD_some, List.getD_eq_getElem?_getD, List.getElem?_eq_getElem hi, Option.getD_some, e] at this
    rw [u _ _ _ k this]; exact List.getElem_mem _
theorem Pair.num {l m : List Nat} (h : Pair X l m) (nl : l.Nodup) (u : ∀ p q y, X p y → X q y → p = q) (v : ∀ p y z, X p y → X p z → y = z) {x y : Nat} (k : X x y) (c : x ∈ l) : num1 l x = num1 m y := by
  have lt := num1_lt c
  have cm := (h.mem u v k).1 c
  have lt2 := num1_lt cm
  have e := num1_at c
  have e2 := num1_at cm
  have a := h.at_ (num1 m y) (by rw [h.len]; exact lt2)
  rw [List.getD_eq_getElem?_getD, List.getElem?_eq_getElem (by rw [h.len]; exact lt2), Option.getD_some, List.getD_eq_getElem?_getD, List.getElem?_eq_getElem lt2, Option.getD_some, e2] at a
  have s := u _ _ _ k a
  rw [s]
  exact nl.idxOf_getElem _ _
end
end Go.Proofs.Ytbpeloobnjbgkaa.Pure
namespace Go.Proofs.Ytbpeloobnjbgkaa.Pure
open Go.RowKit Go.Proofs.YtbpeloobnjbgkaaW.PrintWords Go.Proofs.YtbpeloobnjbgkaaW.PrintLast Go.Proofs.YtbpeloobnjbgkaaW.PrintMore Go.Proofs.Ytbpeloobnjbgkaa.X
set_option linter.unusedVariables false
def toZ (l : List Nat) : List Int := l.map (fun x : Nat => (x : Int))
theorem w_succ {a : Nat} (h : a ≤ 1000) : wrap64 ((a : Int) + 1) = ((a + 1 : Nat) : Int) := by unfold wrap64; omega
theorem toZ_len (l : List Nat) : (toZ l).length = l.length := by simp [toZ]
theorem toZ_at (l : List Nat) {j : Nat} (h : j < l.length) : rd (toZ l) (j : Int) = ((l.getD j 0 : Nat) : Int) := by
  rw [rd_nat]
  simp [toZ, List.getD_eq_getElem?_getD, h]
theorem toZ_snoc (l : List Nat) (x : Nat) : toZ l ++ [(x : Int)] = toZ (l ++ [x]) := by simp [toZ]
theorem num1_snoc {α : Type} [DecidableEq α] {ms : List α} {x : α} (h : ¬ x ∈ ms) : num1 (ms ++ [x]) x = ms.length := by rw [num1, List.idxOf_append, if_neg h]; simp
/-- The numbers of the states that have been met. -/
structure Num (n : Nat) (num : List Int) (ms : List Nat) : Prop where
  len : num.length = n
  at_ : ∀ x, x < n → num.getD x 0 = if x ∈ ms then ((num1 ms x : Nat) : Int) else -1
theorem Num.neg {n : Nat} {num : List Int} {ms : List Nat} (h : Num n num ms) {x : Nat} (hx : x < n) : rd num (x : Int) < 0 ↔ ¬ x ∈ ms := by
  rw [rd_nat, h.at_ x hx]
  split
  · exact ⟨fun z => absurd z (by omega), fun z => absurd ‹_› z⟩
  · exact ⟨fun _ => ‹_›, fun _ => by omega⟩
theorem Num.put {n : Nat} {num : List Int} {ms : List Nat} (h : Num n num ms) {x : Nat} (hx : x < n) (k : ¬ x ∈ ms) : Num n (num.set x (ms.length : Int)) (ms ++ [x]) := by
  refine ⟨by rw [List.length_set, h.len], fun y hy => ?_⟩
  rw [gD_set (by rw [h.len]; exact hx)]
  by_cases e : y = x
  · subst e
    rw [if_pos rfl, if_pos (by simp), num1_snoc k]
  · rw [if_neg e, h.at_ y hy]
    by_cases c : y ∈ ms
    · rw [if_pos c, if_pos (by simp [c]), num1_pre c]
    · rw [if_neg c, if_neg (by simp [c, e])]
def fC (cl : List Int) (nx : List (List Int)) (q a : Nat) : Nat := (cl.getD (dlF nx q a) 0).toNat
def acs (ac : List Bool) (f : Nat → Nat → Nat) (L K : Nat) : List Bool := (List.range K).map fun i => acF ac (qa f L i)
def rws (f : Nat → Nat → Nat) (L K : Nat) : List (List Int) := (List.range K).map fun i => (List.range L).map fun a => ((rwn f L i a : Nat) : Int)
theorem acs_succ (ac : List Bool) (f : Nat → Nat → Nat) (L K : Nat) : acs ac f L (K + 1) = acs ac f L K ++ [acF ac (qa f L K)] := by simp [acs, List.range_succ]
theorem rws_succ (f : Nat → Nat → Nat) (L K : Nat) : rws f L (K + 1) = rws f L K ++ [(List.range L).map fun a => ((rwn f L K a : Nat) : Int)] := by simp [rws, List.range_succ]
theorem acs_len (ac : List Bool) (f : Nat → Nat → Nat) (L K : Nat) : (acs ac f L K).length = K := by simp [acs]
theorem rws_len (f : Nat → Nat → Nat) (L K : Nat) : (rws f L K).length = K := by simp [rws]
theorem fill_set (g : Nat → Int) {a L : Nat} (h : a < L) : (((List.range a).map g ++ List.replicate (L - a) 0).set a (g a)) = (List.range (a + 1)).map g ++ List.replicate (L - (a + 1)) 0 := by
  obtain ⟨d, rfl⟩ : ∃ d, L = a + 1 + d := ⟨L - a - 1, by omega⟩
  rw [show a + 1 + d - a = d + 1 by omega, show a + 1 + d - (a + 1) = d by omega, List.replicate_succ, List.set_append_right _ _ (by simp), List.range_succ, List.map_append]
  simp
section
variable {ac : List Bool} {nx : List (List Int)} {L : Nat} {cl : List Int}
theorem Least.nat {r : Nat → Nat → Prop} {n : Nat} (h : Least r n cl) {x : Nat} (hx : x < n) : cl.getD x 0 = (((cl.getD x 0).toNat : Nat) : Int) ∧ (cl.getD x 0).toNat ≤ x := by
  obtain ⟨p, e, hp, _⟩ := h.at_ x hx
  rw [e]; simp; exact hp
theorem fC_lt {r : Nat → Nat → Prop} (m : Mk ac nx L) (h : Least r ac.length cl) {q a : Nat} (hq : q < ac.length) (ha : a < L) : fC cl nx q a < ac.length := by
  have t := m.to hq ha
  have := (h.nat t).2
  unfold fC; omega
theorem fC_rd {r : Nat → Nat → Prop} (m : Mk ac nx L) (h : Least r ac.length cl) {q a : Nat} (hq : q < ac.length) (ha : a < L) : rd cl (rd (rd_L1 nx (q : Int)) (a : Int)) = ((fC cl nx q a : Nat) : Int) := by
  rw [((m.row hq).2 a ha).1, rd_nat]
  exact (h.nat (m.to hq ha)).1
theorem rwn_mid {f : Nat → Nat → Nat} {j a : Nat} (ha : a < L) : rwn f L j a = num1 (mid f (bf f L j) (qa f L j) (a + 1)) (f (qa f L j) a) := by
  obtain ⟨t, ht⟩ := mid_pre (f := f) (bf f L j) (qa f L j) (show a + 1 ≤ L from ha)
  have e : bf f L (j + 1) = mid f (bf f L j) (qa f L j) (a + 1) ++ t := ht
  rw [rwn, e, num1_pre (mem_mid (f := f) _ _ (Nat.lt_succ_self a))]
theorem qa_lt {r : Nat → Nat → Prop} (m : Mk ac nx L) (h : Least r ac.length cl) {K : Nat} (E : End (fC cl nx) L K) {j : Nat} (hj : j < K) : qa (fC cl nx) L j < ac.length :=
  bf_lt m.n1 (fun q a hq ha => fC_lt m h hq ha) K _ (E.qa_mem hj)
theorem End.le {r : Nat → Nat → Prop} (m : Mk ac nx L) (h : Least r ac.length cl) {K : Nat} (E : End (fC cl nx) L K) : K ≤ ac.length := by
  have := bf_len (L := L) m.n1 (fun q a hq ha => fC_lt m h hq ha) K
  rw [E.len] at this; exact this
theorem pmin_row {r : Nat → Nat → Prop} (m : Mk ac nx L) (h : Least r ac.length cl) {ns : List ByteArray} {K : Nat} (E : End (fC cl nx) L K) {j : Nat} (hj : j < K) {o : List ByteArray × List Bool × List (List Int) × Int}
    (fin : ∀ num, Num ac.length num (bf (fC cl nx) L (j + 1)) → Ev (fun k => canon_Minimal.l1 k cl num (toZ (bf (fC cl nx) L (j + 1))) ((j + 1 : Nat) : Int) ns ac nx ns (acs ac (fC cl nx) L (j + 1)) (rws (fC cl nx) L (j + 1))) o) :
    ∀ (e a : Nat) (num row : List Int), a + e = L → Num ac.length num (mid (fC cl nx) (bf (fC cl nx) L j) (qa (fC cl nx) L j) a) → row = (List.range a).map (fun a => ((rwn (fC cl nx) L j a : Nat) : Int)) ++ List.replicate (L - a) 0 →
      Ev (fun k => canon_Minimal.l2 k cl num (toZ (mid (fC cl nx) (bf (fC cl nx) L j) (qa (fC cl nx) L j) a)) (j : Int) ((qa (fC cl nx) L j : Nat) : Int) row (rd_L1 nx ((qa (fC cl nx) L j : Nat) : Int)) (L : Int) (a : Int) ns ac nx ns (acs ac (fC cl nx) L j) (rws (fC cl nx) L j)) o := by
  have n2 := m.n2
  have l2 := m.l2
  have hq := qa_lt m h E hj
  have Kn := E.le m h
  have hc := h.len
  obtain ⟨rl, rt⟩ := m.row hq
  intro e
  induction e with
  | zero =>
    intro a num row ha hn hr
    have e : a = L := by omega
    subst e
    refine Ev.step (fun k => by rw [canon_Minimal.l2]) (Ev.ncond (by omega) (Ev.cond (by omega) (Ev.cond (by omega) (Ev.cond (by rw [acs_len]; omega) (Ev.cond (by rw [rws_len]; omega) ?_)))))
    have f := fin num hn
    rw [acs_succ, rws_succ] at f
    rw [w_succ (by omega), m.acc hq, hr, Nat.sub_self, List.replicate_zero, List.append_nil]
    exact f
  | succ e ih =>
    intro a num row ha hn hr
    have al : a < L := by omega
    have t := fC_lt m h hq al
    have fr := fC_rd m h hq al
    have rlen : row.length = L := by rw [hr]; simp; omega
    have ml : (mid (fC cl nx) (bf (fC cl nx) L j) (qa (fC cl nx) L j) a).length ≤ ac.length := by
      have := bf_len (L := L) m.n1 (fun q a hq ha => fC_lt m h hq ha) (j + 1)
      obtain ⟨u, hu⟩ := mid_pre (f := fC cl nx) (bf (fC cl nx) L j) (qa (fC cl nx) L j) (show a ≤ L by omega)
      have e2 : bf (fC cl nx) L (j + 1) = _ := hu
      rw [e2, List.length_append] at this; omega
    have tn := m.to hq al
    have a9 : a ≤ 1000 := by omega
    refine Ev.step (fun k => by rw [canon_Minimal.l2]) (Ev.cond (by omega) (Ev.cond (by omega) (Ev.cond (by omega) ?_)))
    rw [fr, (rt a al).1]
    refine Ev.cond (by omega) (Ev.cond (by omega) (Ev.cond (by omega) (Ev.cond (by rw [hn.len]; omega) ?_)))
    have rm := rwn_mid (f := fC cl nx) (j := j) al
    by_cases c : fC cl nx (qa (fC cl nx) L j) a ∈ mid (fC cl nx) (bf (fC cl nx) L j) (qa (fC cl nx) L j) a
    · have em : mid (fC cl nx) (bf (fC cl nx) L j) (qa (fC cl nx) L j) (a + 1) = mid (fC cl nx) (bf (fC cl nx) L j) (qa (fC cl nx) L j) a := by rw [mid, nm, if_pos c]
      refine Ev.ncond (fun z => (hn.neg t).1 z c) (Ev.cond (by omega) ?_)
      have v : rd num ((fC cl nx (qa (fC cl nx) L j) a : Nat) : Int) = ((rwn (fC cl nx) L j a : Nat) : Int) := by rw [rd_nat, hn.at_ _ t, if_pos c, rm, em]
      rw [v, w_succ a9, Int.toNat_natCast, ← em]
      exact ih (a + 1) num _ (by omega) (by rw [em]; exact hn) (by rw [hr]; exact fill_set (fun a => ((rwn (fC cl nx) L j a : Nat) : Int)) al)
    · have em : mid (fC cl nx) (bf (fC cl nx) L j) (qa (fC cl nx) L j) (a + 1) = mid (fC cl nx) (bf (fC cl nx) L j) (qa (fC cl nx) L j) a ++ [fC cl nx (qa (fC cl nx) L j) a] := by rw [mid, nm, if_neg c]
      refine Ev.cond ((hn.neg t).2 c) ?_
      rw [Int.toNat_natCast, toZ_len]
      refine Ev.ret rfl (Ev.cond (by omega) (Ev.cond (by omega) ?_))
      have hn' := hn.put t c
      rw [← em] at hn'
      have v : rd (num.set (fC cl nx (qa (fC cl nx) L j) a) ((mid (fC cl nx) (bf (fC cl nx) L j) (qa (fC cl nx) L j) a).length : Int)) ((fC cl nx (qa (fC cl nx) L j) a : Nat) : Int) = ((rwn (fC cl nx) L j a : Nat) : Int) := by
        rw [rd_nat, hn'.at_ _ t, if_pos (by rw [em]; simp), rm]
      rw [v, w_succ a9, Int.toNat_natCast, toZ_snoc, ← em]
      exact ih (a + 1) _ _ (by omega) hn' (by rw [hr]; exact fill_set (fun a => ((rwn (fC cl nx) L j a : Nat) : Int)) al)
theorem pmin_l1 {r : Nat → Nat → Prop} (m : Mk ac nx L) (h : Least r ac.length cl) {ns : List ByteArray} {K : Nat} (E : End (fC cl nx) L K) : ∀ (d j : Nat) (num : List Int), j + d = K → Num ac.length num (bf (fC cl nx) L j) →
    Ev (fun k => canon_Minimal.l1 k cl num (toZ (bf (fC cl nx) L j)) (j : Int) ns ac nx ns (acs ac (fC cl nx) L j) (rws (fC cl nx) L j)) (ns, acs ac (fC cl nx) L K, rws (fC cl nx) L K, 0) := by
  have n2 := m.n2
  have l2 := m.l2
  have ln := m.len
  intro d
  induction d with
  | zero =>
    intro j num hj hn
    have e : j = K := by omega
    subst e
    exact Ev.step (fun k => by rw [canon_Minimal.l1]) (Ev.ncond (by rw [toZ_len, E.len]; omega) (Ev.fin rfl))
  | succ d ih =>
    intro j num hj hn
    have jK : j < K := by omega
    have on := E.on j jK
    have hq := qa_lt m h E jK
    have row := pmin_row m h (ns := ns) E jK (fun num' hn' => ih (j + 1) num' (by omega) hn') L 0 num (List.replicate L 0) (by omega) hn (by simp)
    have rq : rd (toZ (bf (fC cl nx) L j)) (j : Int) = ((qa (fC cl nx) L j : Nat) : Int) := toZ_at _ on
    refine Ev.step (fun k => by rw [canon_Minimal.l1]) (Ev.cond (by rw [toZ_len]; omega) (Ev.cond (by omega) ?_))
    rw [rq, (m.row hq).1]
    refine Ev.cond (by omega) (Ev.cond (by omega) (Ev.cond (by omega) (Ev.cond (by omega) ?_)))
    rw [Int.toNat_natCast]; exact row
theorem num0 {n : Nat} {x : List Int} (n1 : 1 ≤ n) (hx : x.length = n) (h : ∀ p, p < n → x.getD p 0 = -1) : Num n (x.set 0 0) (bf (fC cl nx) L 0) := by
  refine ⟨by rw [List.length_set, hx], fun y hy => ?_⟩
  rw [gD_set (by omega)]
  by_cases e : y = 0
  · subst e; rw [if_pos rfl, if_pos (by simp [bf])]; simp [bf, num1]
  · rw [if_neg e, h y hy, if_neg (by simp [bf, e])]
theorem pmin_ok {ns : List ByteArray} (hs : SZ ns) (hb : ns.length < 8796093022208) (hr : RZ nx) (d : DOk ns ac nx) (m : Mk ac nx L) {r : Nat → Nat → Prop} (h : Least r ac.length cl) (hC : Ev (fun k => canon_Classes.f k ns ac nx) (cl, 0)) {K : Nat} (E : End (fC cl nx) L K) :
    Ev (fun k => canon_Minimal.f k ns ac nx) (ns, acs ac (fC cl nx) L K, rws (fC cl nx) L K, 0) := by
  have n2 := m.n2
  have n1 := m.n1
  have hc := h.len
  have key : ∀ (e i : Nat) (x : List Int), i + e = ac.length → x.length = ac.length → (∀ p, p < i → x.getD p 0 = -1) → Ev (fun k => canon_Minimal.l0 k cl x (ac.length : Int) (i : Int) ns ac nx) (ns, acs ac (fC cl nx) L K, rws (fC cl nx) L K, 0) := by
    intro e
    induction e with
    | zero =>
      intro i x hi hx hp
      refine Ev.step (fun k => by rw [canon_Minimal.l0]) (Ev.ncond (by omega) (Ev.cond (by omega) ?_))
      refine Ev.ret (show slices_Clone_string_string.f ns = some ns by simp [slices_Clone_string_string.f, hb]) ?_
      exact pmin_l1 m h (ns := ns) E K 0 (x.set 0 0) (by omega) (num0 n1 hx (fun p hp' => hp p (by omega)))
    | succ e ih =>
      intro i x hi hx hp
      refine Ev.step (fun k => by rw [canon_Minimal.l0]) (Ev.cond (by omega) (Ev.cond (by omega) (Ev.cond (by omega) ?_)))
      rw [w64 (by omega) (by omega), Int.toNat_natCast]
      refine ih (i + 1) _ (by omega) (by rw [List.length_set, hx]) (fun p hp' => ?_)
      rw [gD_set (by omega)]
      by_cases c : p = i
      · rw [if_pos c]
      · rw [if_neg c]; exact hp p (by omega)
  refine Ev.congr (fun k => by rw [canon_Minimal.f]) (Ev.bind hC ?_)
  refine Ev.cond rfl ?_
  refine Ev.cond (by show (0 : Int) ≤ (cl.length : Int); omega) (Ev.cond (by show ((cl.length : Int)).toNat ≤ _; omega) (Ev.ret rfl ?_))
  have g := key ac.length 0 (List.replicate cl.length 0) (by omega) (by simp [hc]) (fun p hp => absurd hp (by omega))
  show Ev (fun k => canon_Minimal.l0 k cl (List.replicate ((cl.length : Int)).toNat 0) ((List.replicate ((cl.length : Int)).toNat (0 : Int)).length : Int) 0 ns ac nx) _
  rw [Int.toNat_natCast, List.length_replicate, hc]
  rw [hc] at g; exact g
/-! ### The reference's -/
theorem rmin_row {r : Nat → Nat → Prop} (m : Mk ac nx L) (h : Least r ac.length cl) {ns : List ByteArray} {K : Nat} (E : End (fC cl nx) L K) {j : Nat} (hj : j < K) {o : List ByteArray × List Bool × List (List Int)}
    (fin : ∀ num, Num ac.length num (bf (fC cl nx) L (j + 1)) → Ev (fun k => tabardref13_Minimal.l1 k cl (toZ (bf (fC cl nx) L (j + 1))) num ((j + 1 : Nat) : Int) ns ac nx ns (acs ac (fC cl nx) L (j + 1)) (rws (fC cl nx) L (j + 1))) o) :
    ∀ (e a : Nat) (num row : List Int), a + e = L → Num ac.length num (mid (fC cl nx) (bf (fC cl nx) L j) (qa (fC cl nx) L j) a) → row = (List.range a).map (fun a => ((rwn (fC cl nx) L j a : Nat) : Int)) →
      Ev (fun k => tabardref13_Minimal.l2 k cl (toZ (mid (fC cl nx) (bf (fC cl nx) L j) (qa (fC cl nx) L j) a)) num (j : Int) row (a : Int) ns ac nx ns (acs ac (fC cl nx) L j) (rws (fC cl nx) L j)) o := by
  have n2 := m.n2
  have l2 := m.l2
  have ln := m.len
  have hq := qa_lt m h E hj
  have Kn := E.le m h
  have hc := h.len
  have on := E.on j hj
  obtain ⟨rl, rt⟩ := m.row hq
  have qm : ∀ a, j < (mid (fC cl nx) (bf (fC cl nx) L j) (qa (fC cl nx) L j) a).length ∧ rd (toZ (mid (fC cl nx) (bf (fC cl nx) L j) (qa (fC cl nx) L j) a)) (j : Int) = ((qa (fC cl nx) L j : Nat) : Int) := by
    intro a
    obtain ⟨u, hu⟩ := mid_pre (f := fC cl nx) (bf (fC cl nx) L j) (qa (fC cl nx) L j) (Nat.zero_le a)
    rw [mid] at hu
    have l : j < (mid (fC cl nx) (bf (fC cl nx) L j) (qa (fC cl nx) L j) a).length := by rw [hu, List.length_append]; omega
    refine ⟨l, ?_⟩
    rw [toZ_at _ l, pre_getD hu on]; rfl
  intro e
  induction e with
  | zero =>
    intro a num row ha hn hr
    have e : a = L := by omega
    subst e
    obtain ⟨q1, q2⟩ := qm a
    refine Ev.step (fun k => by rw [tabardref13_Minimal.l2]) (Ev.cond (by omega) (Ev.cond (by rw [toZ_len]; omega) ?_))
    rw [q2, rl]
    refine Ev.cond (by omega) (Ev.cond (by omega) (Ev.ncond (by omega) (Ev.cond (by omega) (Ev.cond (by rw [acs_len]; omega) (Ev.cond (by rw [rws_len]; omega) ?_)))))
    have f := fin num hn
    rw [acs_succ, rws_succ] at f
    rw [w_succ (by omega), m.acc hq, hr]
    exact f
  | succ e ih =>
    intro a num row ha hn hr
    have al : a < L := by omega
    have t := fC_lt m h hq al
    have fr := fC_rd m h hq al
    have rlen : row.length = a := by rw [hr]; simp
    have ml : (mid (fC cl nx) (bf (fC cl nx) L j) (qa (fC cl nx) L j) a).length ≤ ac.length := by
      have := bf_len (L := L) m.n1 (fun q a hq ha => fC_lt m h hq ha) (j + 1)
      obtain ⟨u, hu⟩ := mid_pre (f := fC cl nx) (bf (fC cl nx) L j) (qa (fC cl nx) L j) (show a ≤ L by omega)
      have e2 : bf (fC cl nx) L (j + 1) = _ := hu
      rw [e2, List.length_append] at this; omega
    have tn := m.to hq al
    have a9 : a ≤ 1000 := by omega
    have snoc : (List.range a).map (fun a => ((rwn (fC cl nx) L j a : Nat) : Int)) ++ [((rwn (fC cl nx) L j a : Nat) : Int)] = (List.range (a + 1)).map (fun a => ((rwn (fC cl nx) L j a : Nat) : Int)) := by simp [List.range_succ]
    obtain ⟨q1, q2⟩ := qm a
    refine Ev.step (fun k => by rw [tabardref13_Minimal.l2]) (Ev.cond (by omega) (Ev.cond (by rw [toZ_len]; omega) ?_))
    rw [q2, rl]
    refine Ev.cond (by omega) (Ev.cond (by omega) (Ev.cond (by omega) (Ev.cond (by omega) ?_)))
    rw [fr, (rt a al).1]
    refine Ev.cond (by omega) (Ev.cond (by omega) (Ev.cond (by omega) (Ev.cond (by rw [hn.len]; omega) ?_)))
    have rm := rwn_mid (f := fC cl nx) (j := j) al
    by_cases c : fC cl nx (qa (fC cl nx) L j) a ∈ mid (fC cl nx) (bf (fC cl nx) L j) (qa (fC cl nx) L j) a
    · have em : mid (fC cl nx) (bf (fC cl nx) L j) (qa (fC cl nx) L j) (a + 1) = mid (fC cl nx) (bf (fC cl nx) L j) (qa (fC cl nx) L j) a := by rw [mid, nm, if_pos c]
      refine Ev.ncond (fun z => (hn.neg t).1 z c) (Ev.cond (by omega) ?_)
      have v : rd num ((fC cl nx (qa (fC cl nx) L j) a : Nat) : Int) = ((rwn (fC cl nx) L j a : Nat) : Int) := by rw [rd_nat, hn.at_ _ t, if_pos c, rm, em]
      rw [v, w_succ a9, ← em]
      exact ih (a + 1) num _ (by omega) (by rw [em]; exact hn) (by rw [hr, snoc])
    · have em : mid (fC cl nx) (bf (fC cl nx) L j) (qa (fC cl nx) L j) (a + 1) = mid (fC cl nx) (bf (fC cl nx) L j) (qa (fC cl nx) L j) a ++ [fC cl nx (qa (fC cl nx) L j) a] := by rw [mid, nm, if_neg c]
      refine Ev.cond ((hn.neg t).2 c) ?_
      rw [Int.toNat_natCast, toZ_len]
      refine Ev.ret rfl (Ev.cond (by omega) (Ev.cond (by omega) ?_))
      have hn' := hn.put t c
      rw [← em] at hn'
      have v : rd (num.set (fC cl nx (qa (fC cl nx) L j) a) ((mid (fC cl nx) (bf (fC cl nx) L j) (qa (fC cl nx) L j) a).length : Int)) ((fC cl nx (qa (fC cl nx) L j) a : Nat) : Int) = ((rwn (fC cl nx) L j a : Nat) : Int) := by
        rw [rd_nat, hn'.at_ _ t, if_pos (by rw [em]; simp), rm]
      rw [v, w_succ a9, toZ_snoc, ← em]
      exact ih (a + 1) _ _ (by omega) hn' (by rw [hr, snoc])
theorem rmin_l1 {r : Nat → Nat → Prop} (m : Mk ac nx L) (h : Least r ac.length cl) {ns : List ByteArray} {K : Nat} (E : End (fC cl nx) L K) : ∀ (d j : Nat) (num : List Int), j + d = K → Num ac.length num (bf (fC cl nx) L j) →
    Ev (fun k => tabardref13_Minimal.l1 k cl (toZ (bf (fC cl nx) L j)) num (j : Int) ns ac nx ns (acs ac (fC cl nx) L j) (rws (fC cl nx) L j)) (ns, acs ac (fC cl nx) L K, rws (fC cl nx) L K) := by
  have n2 := m.n2
  intro d
  induction d with
  | zero =>
    intro j num hj hn
    have e : j = K := by omega
    subst e
    exact Ev.step (fun k => by rw [tabardref13_Minimal.l1]) (Ev.ncond (by rw [toZ_len, E.len]; omega) (Ev.fin rfl))
  | succ d ih =>
    intro j num hj hn
    have jK : j < K := by omega
    have on := E.on j jK
    have row := rmin_row m h (ns := ns) E jK (fun num' hn' => ih (j + 1) num' (by omega) hn') L 0 num [] (by omega) hn (by simp)
    refine Ev.step (fun k => by rw [tabardref13_Minimal.l1]) (Ev.cond (by rw [toZ_len]; omega) ?_)
    exact row
theorem rmin_ok {ns : List ByteArray} (hb : ns.length < 8796093022208) (m : Mk ac nx L) {r : Nat → Nat → Prop} (rr : ∀ q, r q q) (h : Least r ac.length cl) (hC : Ev (fun k => tabardref13_Classes.f k ns ac nx) cl) {K : Nat} (E : End (fC cl nx) L K) :
    Ev (fun k => tabardref13_Minimal.f k ns ac nx) (ns, acs ac (fC cl nx) L K, rws (fC cl nx) L K) := by
  have n2 := m.n2
  have n1 := m.n1
  have hc := h.len
  have c0 : rd cl 0 = 0 := by
    obtain ⟨p, e, hp, _⟩ := h.at_ 0 (by omega)
    have : rd cl ((0 : Nat) : Int) = 0 := by rw [rd_nat, e]; omega
    exact this
  have key : ∀ (e i : Nat) (x : List Int), i + e = ac.length → x.length = ac.length → (∀ p, p < i → x.getD p 0 = -1) → Ev (fun k => tabardref13_Minimal.l0 k cl x (i : Int) ns ac nx) (ns, acs ac (fC cl nx) L K, rws (fC cl nx) L K) := by
    intro e
    induction e with
    | zero =>
      intro i x hi hx hp
      refine Ev.step (fun k => by rw [tabardref13_Minimal.l0]) (Ev.ncond (by omega) (Ev.cond (by omega) (Ev.cond (by simp) ?_)))
      rw [c0]
      refine Ev.cond (by omega) (Ev.cond (by omega) (Ev.ret rfl (Ev.cond (by simp; omega) ?_)))
      rw [List.nil_append]
      exact rmin_l1 m h (ns := ns) E K 0 (x.set 0 0) (by omega) (num0 n1 hx (fun p hp' => hp p (by omega)))
    | succ e ih =>
      intro i x hi hx hp
      refine Ev.step (fun k => by rw [tabardref13_Minimal.l0]) (Ev.cond (by omega) (Ev.cond (by omega) ?_))
      rw [w64 (by omega) (by omega), Int.toNat_natCast]
      refine ih (i + 1) _ (by omega) (by rw [List.length_set, hx]) (fun p hp' => ?_)
      rw [gD_set (by omega)]
      by_cases c : p = i
      · rw [if_pos c]
      · rw [if_neg c]; exact hp p (by omega)
  refine Ev.congr (fun k => by rw [tabardref13_Minimal.f]) (Ev.bind hC ?_)
  refine Ev.cond (by omega) (Ev.cond (by omega) ?_)
  have g := key ac.length 0 (List.replicate cl.length 0) (by omega) (by simp [hc]) (fun p hp => absurd hp (by omega))
  rw [Int.toNat_natCast]; exact g
end
end Go.Proofs.Ytbpeloobnjbgkaa.Pure
namespace Go.Proofs.Ytbpeloobnjbgkaa.Pure
open Go.RowKit Go.Proofs.YtbpeloobnjbgkaaW.PrintWords Go.Proofs.YtbpeloobnjbgkaaW.PrintLast Go.Proofs.YtbpeloobnjbgkaaW.PrintMore Go.Proofs.Ytbpeloobnjbgkaa.X
set_option linter.unusedVariables false
/-! ### Words -/
section
variable {acc : Nat → Bool} {δ : Nat → Nat → Nat} {L : Nat}
theorem EE.run {p q : Nat} (h : EE acc δ L p q) : ∀ {w : List Nat}, Let L w → EE acc δ L (runN δ p w) (runN δ q w) := by
  intro w
  induction w generalizing p q with
  | nil => intro _; exact h
  | cons a w ih => intro hw; exact ih (h.next (hw a (by simp))) (fun c hc => hw c (by simp [hc]))
end
/-! ### Is -/
/-! ### Sound -/
/-! ### The canonical machine -/
section
variable {ac : List Bool} {nx : List (List Int)} {L : Nat} {cl : List Int}
theorem min_mk {r : Nat → Nat → Prop} (m : Mk ac nx L) (h : Least r ac.length cl) {K : Nat} (E : End (fC cl nx) L K) : Mk (acs ac (fC cl nx) L K) (rws (fC cl nx) L K) L := by
  have := E.le m h
  have n2 := m.n2
  refine ⟨by rw [rws_len, acs_len], by rw [acs_len]; exact E.pos, by rw [acs_len]; omega, m.l1, m.l2, fun row hrow => ?_⟩
  obtain ⟨i, hi, rfl⟩ := List.mem_map.1 hrow
  rw [List.mem_range] at hi
  refine ⟨by simp, fun x hx => ?_⟩
  obtain ⟨a, ha, rfl⟩ := List.mem_map.1 hx
  rw [List.mem_range] at ha
  have := E.num_lt hi ha
  rw [acs_len]; omega
end
/-! ### All of it -/
structure Canon (ns : List ByteArray) (ac : List Bool) (nx : List (List Int)) (cl : List Int) (K : Nat) : Prop where
  rt : Mk ac nx (2 ^ ns.length)
  least : Least (EE (acF ac) (dlF nx) (2 ^ ns.length)) ac.length cl
  stop : End (fC cl nx) (2 ^ ns.length) K
  cls : Ev (fun k => canon_Classes.f k ns ac nx) (cl, 0)
  min : Ev (fun k => canon_Minimal.f k ns ac nx) (ns, acs ac (fC cl nx) (2 ^ ns.length) K, rws (fC cl nx) (2 ^ ns.length) K, 0)
theorem canon_of {ns : List ByteArray} {ac : List Bool} {nx : List (List Int)} (hs : SZ ns) (hb : ns.length < 8796093022208) (hr : RZ nx) (d : DOk ns ac nx) : ∃ cl K, Canon ns ac nx cl K := by
  have m := d.mk'
  obtain ⟨cl, h, e⟩ := Classes_ok hs hr d m
  obtain ⟨K, _, E⟩ := exists_end (f := fC cl nx) (L := 2 ^ ns.length) m.n1 (fun q a hq ha => fC_lt m h hq ha)
  exact ⟨cl, K, m, h, E, e, pmin_ok hs hb hr d m h e E⟩
theorem min_no {ns : List ByteArray} {ac : List Bool} {nx : List (List Int)} (hs : SZ ns) (hr : RZ nx) (hx : nx.length ≤ 9000000000000000000) (d : ¬ DOk ns ac nx) : Ev (fun k => canon_Minimal.f k ns ac nx) ([], [], [], 3) := by
  have c : Ev (fun k => canon_Classes.f k ns ac nx) ([], 3) := by
    refine Ev.congr (fun k => by rw [canon_Classes.f]) (Ev.bind (right_no hs hr hx d) ?_)
    exact Ev.ncond (by decide) (Ev.fin rfl)
  refine Ev.congr (fun k => by rw [canon_Minimal.f]) (Ev.bind c ?_)
  exact Ev.ncond (by decide) (Ev.fin rfl)
end Go.Proofs.Ytbpeloobnjbgkaa.Pure
namespace Go.Proofs.Ytbpeloobnjbgkaa.Pure
open Go.RowKit Go.Proofs.YtbpeloobnjbgkaaW.PrintWords Go.Proofs.YtbpeloobnjbgkaaW.PrintLast Go.Proofs.YtbpeloobnjbgkaaW.PrintMore Go.Proofs.Ytbpeloobnjbgkaa.X
set_option linter.unusedVariables false
end Go.Proofs.Ytbpeloobnjbgkaa.Pure
namespace Go.Proofs.Ytbpeloobnjbgkaa.Pure
open Go.RowKit Go.Proofs.YtbpeloobnjbgkaaW.PrintWords Go.Proofs.YtbpeloobnjbgkaaW.PrintLast Go.Proofs.YtbpeloobnjbgkaaW.PrintMore Go.Proofs.Ytbpeloobnjbgkaa.X
set_option linter.unusedVariables false
section
variable {ns : List ByteArray} {ac : List Bool} {nx : List (List Int)} {cl : List Int} {K : Nat}
theorem Canon.mm (C : Canon ns ac nx cl K) : Mk (acs ac (fC cl nx) (2 ^ ns.length) K) (rws (fC cl nx) (2 ^ ns.length) K) (2 ^ ns.length) := min_mk C.rt C.least C.stop
theorem Canon.rz (C : Canon ns ac nx cl K) : RZ (rws (fC cl nx) (2 ^ ns.length) K) := fun r hr => by
  have := (C.mm.rows r hr).1
  have := C.mm.l2
  omega
end
end Go.Proofs.Ytbpeloobnjbgkaa.Pure
namespace Go.Proofs.Ytbpeloobnjbgkaa.Pure
open Go.RowKit Go.Proofs.YtbpeloobnjbgkaaW.PrintWords Go.Proofs.YtbpeloobnjbgkaaW.PrintLast Go.Proofs.YtbpeloobnjbgkaaW.PrintMore Go.Proofs.Ytbpeloobnjbgkaa.X
set_option linter.unusedVariables false
structure Flg (n : Nat) (x : List Bool) (ms : List Nat) : Prop where
  len : x.length = n
  at_ : ∀ q, q < n → x.getD q false = decide (q ∈ ms)
theorem Flg.put {n : Nat} {x : List Bool} {ms : List Nat} (h : Flg n x ms) {q : Nat} (hq : q < n) : Flg n (x.set q true) (ms ++ [q]) := by
  refine ⟨by rw [List.length_set, h.len], fun p hp => ?_⟩
  have l := h.len
  by_cases c : p = q
  · subst c
    rw [List.getD_eq_getElem?_getD, List.getElem?_set_self (by omega)]; simp
  · rw [List.getD_eq_getElem?_getD, List.getElem?_set_ne (by omega), ← List.getD_eq_getElem?_getD, h.at_ p hp]
    simp [c]
section
variable {ac : List Bool} {nx : List (List Int)} {L : Nat}
end
end Go.Proofs.Ytbpeloobnjbgkaa.Pure
namespace Go.Proofs.Ytbpeloobnjbgkaa.Pure
open Go.RowKit Go.Proofs.YtbpeloobnjbgkaaW.PrintWords Go.Proofs.YtbpeloobnjbgkaaW.PrintLast Go.Proofs.YtbpeloobnjbgkaaW.PrintMore Go.Proofs.Ytbpeloobnjbgkaa.X
set_option linter.unusedVariables false
theorem rdL1_nat (A : List (List Int)) (p : Nat) : rd_L1 A (p : Int) = A.getD p [] := by rw [rd_L1, Int.toNat_natCast]
theorem rdL1_set (A : List (List Int)) (z p : Nat) (v : List Int) (h : z < A.length) : rd_L1 (A.set z v) (p : Int) = if p = z then v else rd_L1 A (p : Int) := by
  rw [rdL1_nat, rdL1_nat]
  by_cases c : p = z
  · subst c
    rw [if_pos rfl, List.getD_eq_getElem?_getD, List.getElem?_set_self h]; rfl
  · rw [if_neg c, List.getD_eq_getElem?_getD, List.getElem?_set_ne (by omega), ← List.getD_eq_getElem?_getD]
theorem w_big {n : Nat} (h : n ≤ 9000000000000000000) : wrap64 ((n : Int) + 1) = ((n + 1 : Nat) : Int) := by unfold wrap64; omega
theorem mess_end {T : Nat} (hT : T ≤ 9000000000000000000) (ac : List Bool) (nx : List (List Int)) : ∀ (e o : Nat) (L : List ByteArray), o + e = T → L.length = T → Ev (fun k => tabardlaw13_CanonMinimal.l2 k (T : Int) (o : Int) L ac nx) true := by
  intro e
  induction e with
  | zero => intro o L ho hL; exact Ev.step (fun k => by rw [tabardlaw13_CanonMinimal.l2]) (Ev.ncond (by omega) (Ev.fin rfl))
  | succ e ih =>
    intro o L ho hL
    refine Ev.step (fun k => by rw [tabardlaw13_CanonMinimal.l2]) (Ev.cond (by omega) (Ev.cond (by omega) (Ev.cond (by omega) ?_)))
    rw [w_big (by omega)]
    exact ih (o + 1) _ (by omega) (by rw [List.length_set]; exact hL)
theorem mess_rows {N : Nat} (hN : N ≤ 9000000000000000000) {tr : List ByteArray} (hT : tr.length ≤ 9000000000000000000) : ∀ (e z : Nat) (ac : List Bool) (nx : List (List Int)), z + e = N → ac.length = N → nx.length = N → (∀ p : Nat, z ≤ p → (rd_L1 nx (p : Int)).length ≤ 10000000000) → Ev (fun k => tabardlaw13_CanonMinimal.l0 k (N : Int) (z : Int) tr ac nx) true := by
  intro e
  induction e with
  | zero =>
    intro z ac nx hz ha hx hr
    exact Ev.step (fun k => by rw [tabardlaw13_CanonMinimal.l0]) (Ev.ncond (by omega) (by exact mess_end hT ac nx tr.length 0 tr (by omega) rfl))
  | succ e ih =>
    intro z ac nx hz ha hx hr
    have row : ∀ (e2 n v : Nat) (A : List (List Int)), v + e2 = n → n ≤ 10000000000 → A.length = N → (rd_L1 A (z : Int)).length = n → (∀ p : Nat, z + 1 ≤ p → (rd_L1 A (p : Int)).length ≤ 10000000000) → Ev (fun k => tabardlaw13_CanonMinimal.l1 k (z : Int) (N : Int) (z : Int) (n : Int) (v : Int) tr ac A) true := by
      intro e2
      induction e2 with
      | zero =>
        intro n v A hv hn hA hl hp
        refine Ev.step (fun k => by rw [tabardlaw13_CanonMinimal.l1]) (Ev.ncond (by omega) (Ev.cond (by omega) (Ev.cond (by omega) (Ev.cond (by omega) (Ev.cond (by omega) ?_)))))
        rw [w_big (by omega), Int.toNat_natCast]
        refine ih (z + 1) _ _ (by omega) (by rw [List.length_set]; exact ha) (by rw [List.length_set]; exact hA) (fun p h => ?_)
        rw [rdL1_set _ _ _ _ (by omega), if_neg (by omega)]
        exact hp p h
      | succ e2 ih2 =>
        intro n v A hv hn hA hl hp
        refine Ev.step (fun k => by rw [tabardlaw13_CanonMinimal.l1]) (Ev.cond (by omega) (Ev.cond (by omega) (Ev.cond (by omega) (Ev.cond (by omega) (Ev.cond (by omega) ?_)))))
        rw [w_big (by omega), Int.toNat_natCast, Int.toNat_natCast]
        refine ih2 n (v + 1) _ (by omega) hn (by rw [List.length_set]; exact hA) ?_ (fun p h => ?_)
        · rw [rdL1_set _ _ _ _ (by omega), if_pos rfl, List.length_set]; exact hl
        · rw [rdL1_set _ _ _ _ (by omega), if_neg (by omega)]; exact hp p h
    refine Ev.step (fun k => by rw [tabardlaw13_CanonMinimal.l0]) (Ev.cond (by omega) (Ev.cond (by omega) (Ev.cond (by omega) ?_)))
    exact row _ _ 0 nx (Nat.zero_add _) (hr z (Nat.le_refl _)) hx rfl (fun p h => hr p (by omega))
theorem CanonMinimal (ns : List ByteArray) (h0 : ns.length * 16 ≤ 140737488351232) (q0 : ∀ x ∈ ns, x.size ≤ maxLen) (ac : List Bool) (h1 : ac.length * 1 ≤ 140737488351232) (q1 : ∀ x ∈ ac, True) (nx : List (List Int)) (h2 : nx.length * 24 ≤ 140737488351232) (q2 : ∀ x ∈ nx, x.length * 8 ≤ 140737488351232 ∧ ∀ a ∈ x, (Lit.int .i64 a).wf = true) :
    ∃ k, tabardlaw13_CanonMinimal.f k ns ac nx = some true := by
  have hs : SZ ns := fun x hx => q0 x hx
  have hr : RZ nx := fun r hr => by have := (q2 r hr).1; omega
  have cp := copy_dense h0 h1 h2 (fun r hr => (q2 r hr).1)
  have s := same_dense (t0 := ns) (u0 := ns) (t1 := ac) (u1 := ac) (t2 := nx) (u2 := nx) (by omega) (by omega) (by omega) hr
  rw [decide_eq_true ⟨rfl, rfl, rfl⟩] at s
  refine Ev.rounds (Ev.congr (fun k => by rw [tabardlaw13_CanonMinimal.f]) (Ev.bind cp ?_))
  by_cases d : DOk ns ac nx
  · obtain ⟨cl, K, C⟩ := canon_of hs (by omega) hr d
    have mm := C.mm
    have mn2 := mm.n2
    obtain ⟨o, ho, e2⟩ := rClasses_ev C.rt ns
    obtain rfl := C.least.unique ho
    have R := rmin_ok (ns := ns) (by omega) C.rt (fun q => EE.refl q) C.least e2 C.stop
    have same := same_dense (t0 := ns) (u0 := ns) (t1 := acs ac (fC cl nx) (2 ^ ns.length) K) (u1 := acs ac (fC cl nx) (2 ^ ns.length) K) (t2 := rws (fC cl nx) (2 ^ ns.length) K) (u2 := rws (fC cl nx) (2 ^ ns.length) K) (by omega) (by omega) (by have := mm.len; omega) C.rz
    rw [decide_eq_true ⟨rfl, rfl, rfl⟩] at same
    refine Ev.bind C.min (Ev.bind C.min (Ev.bind fixed13_ev (Ev.cond rfl (Ev.cond rfl (Ev.bind s ?_)))))
    refine Ev.step (fun k => by rw [tabardlaw13_CanonMinimal.j0]) (Ev.ncond (by decide) (Ev.bind (rright_yes hs hr d) (Ev.cond rfl (Ev.bind R (Ev.cond rfl (Ev.bind same ?_))))))
    refine Ev.step (fun k => by rw [tabardlaw13_CanonMinimal.j1]) (Ev.ncond (by decide) (Ev.bind (a := true) ?_ (Ev.bind same (Ev.cond rfl (Ev.bind s (Ev.fin rfl))))))
    have ml := mm.len
    dsimp only
    refine mess_rows (by omega) (by omega) _ 0 _ _ (Nat.zero_add _) (by omega) rfl (fun p _ => ?_)
    rw [rdL1_nat]
    by_cases c : p < (rws (fC cl nx) (2 ^ ns.length) K).length
    · rw [List.getD_eq_getElem?_getD, List.getElem?_eq_getElem c, Option.getD_some]
      have := (mm.rows _ (List.getElem_mem c)).1
      have := mm.l2
      omega
    · rw [List.getD_eq_getElem?_getD, List.getElem?_eq_none (by omega)]; simp
  · have mn := min_no (ns := ns) (ac := ac) (nx := nx) hs hr (by omega) d
    refine Ev.bind mn (Ev.bind mn (Ev.bind fixed13_ev (Ev.cond rfl (Ev.cond rfl (Ev.bind s ?_)))))
    refine Ev.step (fun k => by rw [tabardlaw13_CanonMinimal.j0]) (Ev.ncond (by decide) (Ev.bind (rright_no hs hr (by omega) d) ?_))
    refine Ev.ncond (by decide) (Ev.cond rfl (Ev.cond rfl (Ev.cond rfl (Ev.fin rfl))))
end Go.Proofs.Ytbpeloobnjbgkaa.Pure
