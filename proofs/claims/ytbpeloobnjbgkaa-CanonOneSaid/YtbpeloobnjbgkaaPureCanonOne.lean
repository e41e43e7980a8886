/- The law CanonOne over lists alone, and all that it leans on; no condition beyond the statement's own. -/
import Derived.Test.YtbpeloobnjbgkaaX0
import Derived.Test.YtbpeloobnjbgkaaX0
import Derived.Test.YtbpeloobnjbgkaaX1
import Derived.Test.YtbpeloobnjbgkaaX10
import Derived.Test.YtbpeloobnjbgkaaX11
import Derived.Test.YtbpeloobnjbgkaaX12
import Derived.Test.YtbpeloobnjbgkaaX13
import Derived.Test.YtbpeloobnjbgkaaX14
import Derived.Test.YtbpeloobnjbgkaaX15
import Derived.Test.YtbpeloobnjbgkaaX16
import Derived.Test.YtbpeloobnjbgkaaX19
import Derived.Test.YtbpeloobnjbgkaaX2
import Derived.Test.YtbpeloobnjbgkaaX3
import Derived.Test.YtbpeloobnjbgkaaX4
import Derived.Test.YtbpeloobnjbgkaaX41
import Derived.Test.YtbpeloobnjbgkaaX42
import Derived.Test.YtbpeloobnjbgkaaX5
import Derived.Test.YtbpeloobnjbgkaaX6
import Derived.Test.YtbpeloobnjbgkaaX7
import Derived.Test.YtbpeloobnjbgkaaX8
import Derived.Test.YtbpeloobnjbgkaaX9
import Derived.Lib.DecodeN
namespace Go.Proofs.Ytbpeloobnjbgkaa.Pure
open Go.RowKit Go.Proofs.YtbpeloobnjbgkaaW.PrintWords Go.Proofs.YtbpeloobnjbgkaaW.PrintLast Go.Proofs.YtbpeloobnjbgkaaW.PrintMore Go.Proofs.Ytbpeloobnjbgkaa.X
set_option linter.unusedVariables false
/-! ### Rounds -/
theorem Ev.cond {α : Type} {c : Prop} [Decidable c] {f g : Nat → Option α} {r : α} (h : c) (k : Ev f r) : Ev (fun n => if c then f n else g n) r :=
  Ev.congr (fun _ => if_pos h) k
theorem Ev.ncond {α : Type} {c : Prop} [Decidable c] {f g : Nat → Option α} {r : α} (h : ¬ c) (k : Ev g r) : Ev (fun n => if c then f n else g n) r :=
  Ev.congr (fun _ => if_neg h) k
theorem Ev.ite {α : Type} {c : Prop} [Decidable c] {f g : Nat → Option α} {r : α} (h : c → Ev f r) (k : ¬ c → Ev g r) : Ev (fun n => if c then f n else g n) r := by
  by_cases hc : c
  · exact Ev.cond hc (h hc)
  · exact Ev.ncond hc (k hc)
theorem Ev.fin {α : Type} {r q : α} (h : r = q) : Ev (fun _ => Option.some r) q := h ▸ Ev.now r
theorem Ev.ret {α β : Type} {g : Option α} {a : α} {f : Nat → α → Option β} {r : β} (h : g = Option.some a) (k : Ev (fun n => f n a) r) : Ev (fun n => g.bind (f n)) r := by
  subst h; exact k
theorem w64 {x : Int} (h0 : -9223372036854775808 ≤ x) (h1 : x ≤ 9223372036854775807) : wrap64 x = x := by unfold wrap64; omega
theorem u64 {x : Int} (h0 : 0 ≤ x) (h1 : x < 18446744073709551616) : IntKind.u64.wrap x = x := by
  simp [IntKind.wrap, IntKind.bits, IntKind.signed]; omega
theorem u64_mod (x : Int) : IntKind.u64.wrap x = x % 18446744073709551616 := by simp [IntKind.wrap, IntKind.bits, IntKind.signed]
theorem rd_nat (l : List Int) (i : Nat) : rd l (i : Int) = l.getD i 0 := by simp [rd]
end Go.Proofs.Ytbpeloobnjbgkaa.Pure
namespace Go.Proofs.Ytbpeloobnjbgkaa.Pure
open Go.RowKit Go.Proofs.YtbpeloobnjbgkaaW.PrintWords Go.Proofs.YtbpeloobnjbgkaaW.PrintLast Go.Proofs.YtbpeloobnjbgkaaW.PrintMore Go.Proofs.Ytbpeloobnjbgkaa.X
theorem drop_rd (a b : List Int) {i : Nat} (h : i < a.length) (h' : i < b.length) : a.drop i = b.drop i ↔ rd a (i : Int) = rd b (i : Int) ∧ a.drop (i + 1) = b.drop (i + 1) := by
  rw [List.drop_eq_getElem_cons h, List.drop_eq_getElem_cons h', rd_nat, rd_nat, List.getD_eq_getElem?_getD, List.getD_eq_getElem?_getD, List.getElem?_eq_getElem h, List.getElem?_eq_getElem h', List.cons.injEq]
  rfl
/-! ### The least and the greatest -/
theorem mn_le (s x y : Int) : s ≤ mn x y ↔ s ≤ x ∧ s ≤ y := by unfold mn; split <;> omega
theorem mx_lt (s x y : Int) : mx x y < s ↔ x < s ∧ y < s := by unfold mx; split <;> omega
theorem all_drop (p : Int → Prop) (a : List Int) {i : Nat} (h : i < a.length) : (∀ x ∈ a.drop i, p x) ↔ p (rd a (i : Int)) ∧ ∀ x ∈ a.drop (i + 1), p x := by
  rw [List.drop_eq_getElem_cons h, rd_nat, List.getD_eq_getElem?_getD, List.getElem?_eq_getElem h]
  exact List.forall_mem_cons
theorem min_ev (a : List Int) (h1 : 1 ≤ a.length) (ha : a.length ≤ 9000000000000000000) : ∃ r, Ev (fun k => slices_Min_int_int.f k a) r ∧ ∀ s, s ≤ r ↔ ∀ x ∈ a, s ≤ x := by
  have key : ∀ (m i : Nat) (c : Int), i + m = a.length → ∃ r, Ev (fun k => slices_Min_int_int.l0 k a c (i : Int)) r ∧ ∀ s, s ≤ r ↔ s ≤ c ∧ ∀ x ∈ a.drop i, s ≤ x := by
    intro m
    induction m with
    | zero =>
      intro i c hi
      refine ⟨c, Ev.step (fun k => by rw [slices_Min_int_int.l0]) (Ev.ncond (by omega) (Ev.fin rfl)), fun s => ?_⟩
      rw [List.drop_eq_nil_of_le (by omega)]; simp
    | succ m ih =>
      intro i c hi
      obtain ⟨r, hr, hs⟩ := ih (i + 1) (mn c (rd a (i : Int))) (by omega)
      refine ⟨r, Ev.step (fun k => by rw [slices_Min_int_int.l0]) (Ev.cond (by omega) (Ev.cond (by omega) ?_)), fun s => ?_⟩
      · rw [w64 (by omega) (by omega)]; exact hr
      · rw [hs, mn_le, all_drop (fun x => s ≤ x) a (i := i) (by omega), and_assoc]
  obtain ⟨r, hr, hs⟩ := key (a.length - 1) 1 (rd a 0) (by omega)
  have hr' : Ev (fun k => slices_Min_int_int.l0 k a (rd a 0) 1) r := hr
  refine ⟨r, Ev.congr (fun k => by rw [slices_Min_int_int.f]) (Ev.ncond (by omega) (Ev.cond (by omega) hr')), fun s => ?_⟩
  rw [hs, show (∀ x ∈ a, s ≤ x) ↔ (∀ x ∈ a.drop 0, s ≤ x) by rw [List.drop_zero], all_drop (fun x => s ≤ x) a (i := 0) (by omega)]
  exact Iff.rfl
theorem max_ev (a : List Int) (h1 : 1 ≤ a.length) (ha : a.length ≤ 9000000000000000000) : ∃ r, Ev (fun k => slices_Max_int_int.f k a) r ∧ ∀ s, r < s ↔ ∀ x ∈ a, x < s := by
  have key : ∀ (m i : Nat) (c : Int), i + m = a.length → ∃ r, Ev (fun k => slices_Max_int_int.l0 k a c (i : Int)) r ∧ ∀ s, r < s ↔ c < s ∧ ∀ x ∈ a.drop i, x < s := by
    intro m
    induction m with
    | zero =>
      intro i c hi
      refine ⟨c, Ev.step (fun k => by rw [slices_Max_int_int.l0]) (Ev.ncond (by omega) (Ev.fin rfl)), fun s => ?_⟩
      rw [List.drop_eq_nil_of_le (by omega)]; simp
    | succ m ih =>
      intro i c hi
      obtain ⟨r, hr, hs⟩ := ih (i + 1) (mx c (rd a (i : Int))) (by omega)
      refine ⟨r, Ev.step (fun k => by rw [slices_Max_int_int.l0]) (Ev.cond (by omega) (Ev.cond (by omega) ?_)), fun s => ?_⟩
      · rw [w64 (by omega) (by omega)]; exact hr
      · rw [hs, mx_lt, all_drop (fun x => x < s) a (i := i) (by omega), and_assoc]
  obtain ⟨r, hr, hs⟩ := key (a.length - 1) 1 (rd a 0) (by omega)
  have hr' : Ev (fun k => slices_Max_int_int.l0 k a (rd a 0) 1) r := hr
  refine ⟨r, Ev.congr (fun k => by rw [slices_Max_int_int.f]) (Ev.ncond (by omega) (Ev.cond (by omega) hr')), fun s => ?_⟩
  rw [hs, show (∀ x ∈ a, x < s) ↔ (∀ x ∈ a.drop 0, x < s) by rw [List.drop_zero], all_drop (fun x => x < s) a (i := 0) (by omega)]
  exact Iff.rfl
/-! ### Rows -/
/-- Is it a row over some tracks? -/
def IsRow (l : List Int) : Prop := (∃ j, j ≤ 6 ∧ l.length = 2 ^ j) ∧ ∀ x ∈ l, 0 ≤ x
theorem pow6 {n : Nat} (h : n ≤ 6) : 2 ^ n ≤ 64 := by
  have := Nat.pow_le_pow_right (show 0 < 2 by omega) h
  omega
theorem IsRow.len {l : List Int} (h : IsRow l) : 1 ≤ l.length ∧ l.length ≤ 64 := by
  obtain ⟨⟨j, hj, e⟩, _⟩ := h
  have := pow6 hj
  have := Nat.two_pow_pos j
  omega
noncomputable instance decRow (l : List Int) : Decidable (IsRow l) := Classical.propDecidable _
end Go.Proofs.Ytbpeloobnjbgkaa.Pure
namespace Go.Proofs.Ytbpeloobnjbgkaa.Pure
open Go.RowKit Go.Proofs.YtbpeloobnjbgkaaW.PrintWords Go.Proofs.YtbpeloobnjbgkaaW.PrintLast Go.Proofs.YtbpeloobnjbgkaaW.PrintMore Go.Proofs.Ytbpeloobnjbgkaa.X
set_option linter.unusedVariables false
theorem shl_pow : ∀ j : Fin 7, shl .i64 1 (j.1 : Int) = ((2 ^ j.1 : Nat) : Int) := by decide +kernel
end Go.Proofs.Ytbpeloobnjbgkaa.Pure
namespace Go.Proofs.Ytbpeloobnjbgkaa.Pure
open Go.RowKit Go.Proofs.YtbpeloobnjbgkaaW.PrintWords Go.Proofs.YtbpeloobnjbgkaaW.PrintLast Go.Proofs.YtbpeloobnjbgkaaW.PrintMore Go.Proofs.Ytbpeloobnjbgkaa.X
set_option linter.unusedVariables false
theorem rdOf_get {α : Type} (d : α) (l : List α) {i : Nat} (h : i < l.length) : rdOf d l (i : Int) = l[i] := by
  simp [rdOf, List.getD_eq_getElem?_getD, h]
theorem rd_get (l : List Int) {i : Nat} (h : i < l.length) : rd l (i : Int) = l[i] := by
  rw [rd_nat, List.getD_eq_getElem?_getD, List.getElem?_eq_getElem h]; rfl
theorem rdL_get (l : List (List Int)) {i : Nat} (h : i < l.length) : rd_L1 l (i : Int) = l[i] := by
  simp [rd_L1, List.getD_eq_getElem?_getD, h]
theorem drop_rdOf {α : Type} (d : α) (a b : List α) {i : Nat} (h : i < a.length) (h' : i < b.length) : a.drop i = b.drop i ↔ rdOf d a (i : Int) = rdOf d b (i : Int) ∧ a.drop (i + 1) = b.drop (i + 1) := by
  rw [List.drop_eq_getElem_cons h, List.drop_eq_getElem_cons h', rdOf_get d a h, rdOf_get d b h', List.cons.injEq]
theorem drop_rdS (a b : List ByteArray) {i : Nat} (h : i < a.length) (h' : i < b.length) : a.drop i = b.drop i ↔ rdOf ByteArray.empty a (i : Int) = rdOf ByteArray.empty b (i : Int) ∧ a.drop (i + 1) = b.drop (i + 1) := drop_rdOf _ a b h h'
theorem drop_rdB (a b : List Bool) {i : Nat} (h : i < a.length) (h' : i < b.length) : a.drop i = b.drop i ↔ rdOf false a (i : Int) = rdOf false b (i : Int) ∧ a.drop (i + 1) = b.drop (i + 1) := drop_rdOf _ a b h h'
theorem eq_B {x y : ByteArray} (h : x.toList = y.toList) : x = y := by
  rw [ByteArray.toList_eq, ByteArray.toList_eq] at h
  exact Go.WideShapes.bytes_inj h
theorem ne_B {x y : ByteArray} (h : ¬ x.toList = y.toList) (e : x = y) : False := h (by rw [e])
theorem eq_F {x y : Bool} (h : ¬ (x != y) = true) : x = y := by simpa using h
theorem ne_F {x y : Bool} (h : (x != y) = true) (e : x = y) : False := by subst e; simp at h
theorem texts_ev (a b : List ByteArray) (ha : a.length ≤ 9000000000000000000) : Ev (fun k => tabardref12_texts.f k a b) (decide (a = b)) := by
  refine Ev.congr (fun k => by rw [tabardref12_texts.f]) (Ev.ite (fun h => ?_) (fun h => Ev.fin ?_))
  · have hl : a.length = b.length := by omega
    have key : ∀ (m i : Nat), i + m = a.length → Ev (fun k => tabardref12_texts.l0 k a b (i : Int)) (decide (a.drop i = b.drop i)) := by
      intro m
      induction m with
      | zero =>
        intro i hi
        refine Ev.step (fun k => by rw [tabardref12_texts.l0]) (Ev.ncond (by omega) (Ev.fin ?_))
        rw [List.drop_eq_nil_of_le (by omega), List.drop_eq_nil_of_le (by omega)]; exact (decide_eq_true rfl).symm
      | succ m ih =>
        intro i hi
        refine Ev.step (fun k => by rw [tabardref12_texts.l0]) (Ev.cond (by omega) (Ev.cond (by omega) (Ev.cond (by omega) ?_)))
        refine Ev.ite (fun c => ?_) (fun c => Ev.fin ?_)
        · rw [w64 (by omega) (by omega)]
          have := ih (i + 1) (by omega)
          rwa [decide_eq_decide.2 ((drop_rdS a b (by omega) (by omega)).trans (and_iff_right (eq_B c)))]
        · exact (decide_eq_false (fun e => (ne_B c) ((drop_rdS a b (by omega) (by omega)).1 e).1)).symm
    exact key a.length 0 (by omega)
  · exact (decide_eq_false (fun e_ => h (by rw [e_]))).symm
theorem flags_ev (a b : List Bool) (ha : a.length ≤ 9000000000000000000) : Ev (fun k => tabardref12_flags.f k a b) (decide (a = b)) := by
  refine Ev.congr (fun k => by rw [tabardref12_flags.f]) (Ev.ite (fun h => ?_) (fun h => Ev.fin ?_))
  · have hl : a.length = b.length := by omega
    have key : ∀ (m i : Nat), i + m = a.length → Ev (fun k => tabardref12_flags.l0 k a b (i : Int)) (decide (a.drop i = b.drop i)) := by
      intro m
      induction m with
      | zero =>
        intro i hi
        refine Ev.step (fun k => by rw [tabardref12_flags.l0]) (Ev.ncond (by omega) (Ev.fin ?_))
        rw [List.drop_eq_nil_of_le (by omega), List.drop_eq_nil_of_le (by omega)]; exact (decide_eq_true rfl).symm
      | succ m ih =>
        intro i hi
        refine Ev.step (fun k => by rw [tabardref12_flags.l0]) (Ev.cond (by omega) (Ev.cond (by omega) (Ev.cond (by omega) ?_)))
        refine Ev.ite (fun c => Ev.fin ?_) (fun c => ?_)
        · exact (decide_eq_false (fun e => (ne_F c) ((drop_rdB a b (by omega) (by omega)).1 e).1)).symm
        · rw [w64 (by omega) (by omega)]
          have := ih (i + 1) (by omega)
          rwa [decide_eq_decide.2 ((drop_rdB a b (by omega) (by omega)).trans (and_iff_right (eq_F c)))]
    exact key a.length 0 (by omega)
  · exact (decide_eq_false (fun e_ => h (by rw [e_]))).symm
theorem rints_ev (a b : List Int) (ha : a.length ≤ 9000000000000000000) : Ev (fun k => tabardref12_ints.f k a b) (decide (a = b)) := by
  refine Ev.congr (fun k => by rw [tabardref12_ints.f]) (Ev.ite (fun h => ?_) (fun h => Ev.fin ?_))
  · have hl : a.length = b.length := by omega
    have key : ∀ (m i : Nat), i + m = a.length → Ev (fun k => tabardref12_ints.l0 k a b (i : Int)) (decide (a.drop i = b.drop i)) := by
      intro m
      induction m with
      | zero =>
        intro i hi
        refine Ev.step (fun k => by rw [tabardref12_ints.l0]) (Ev.ncond (by omega) (Ev.fin ?_))
        rw [List.drop_eq_nil_of_le (by omega), List.drop_eq_nil_of_le (by omega)]; exact (decide_eq_true rfl).symm
      | succ m ih =>
        intro i hi
        refine Ev.step (fun k => by rw [tabardref12_ints.l0]) (Ev.cond (by omega) (Ev.cond (by omega) (Ev.cond (by omega) ?_)))
        refine Ev.ite (fun c => ?_) (fun c => Ev.fin ?_)
        · rw [w64 (by omega) (by omega)]
          have := ih (i + 1) (by omega)
          rwa [decide_eq_decide.2 ((drop_rd a b (by omega) (by omega)).trans (and_iff_right (id c)))]
        · exact (decide_eq_false (fun e => (id c) ((drop_rd a b (by omega) (by omega)).1 e).1)).symm
    exact key a.length 0 (by omega)
  · exact (decide_eq_false (fun e_ => h (by rw [e_]))).symm
end Go.Proofs.Ytbpeloobnjbgkaa.Pure
namespace Go.Proofs.Ytbpeloobnjbgkaa.Pure
open Go.RowKit Go.Proofs.YtbpeloobnjbgkaaW.PrintWords Go.Proofs.YtbpeloobnjbgkaaW.PrintLast Go.Proofs.YtbpeloobnjbgkaaW.PrintMore Go.Proofs.Ytbpeloobnjbgkaa.X
set_option linter.unusedVariables false
/-! ### Names -/
def startB (r : Int) : Bool := decide ((65 ≤ r ∧ r ≤ 90) ∨ (97 ≤ r ∧ r ≤ 122) ∨ r = 95 ∨ (913 ≤ r ∧ r ≤ 929) ∨ (931 ≤ r ∧ r ≤ 937) ∨ (945 ≤ r ∧ r ≤ 969))
def restB (r : Int) : Bool := startB r || decide ((48 ≤ r ∧ r ≤ 57) ∨ r = 8242 ∨ (8320 ≤ r ∧ r ≤ 8329))
theorem start_j3 (r : Int) (b : Bool) : Ev (fun k => glyph_Start.j3 k r b) (b || decide (945 ≤ r ∧ r ≤ 969)) := by
  cases b
  · refine Ev.step (fun k => by rw [glyph_Start.j3]) (Ev.ncond (by decide) (Ev.ite (fun h => Ev.ite (fun g => Ev.fin ?_) (fun g => Ev.fin ?_)) (fun h => Ev.fin ?_))) <;> simp <;> omega
  · rw [Bool.true_or]; exact Ev.step (fun k => by rw [glyph_Start.j3]) (Ev.cond rfl (Ev.fin rfl))
theorem start_j2 (r : Int) (b : Bool) : Ev (fun k => glyph_Start.j2 k r b) (b || decide ((931 ≤ r ∧ r ≤ 937) ∨ (945 ≤ r ∧ r ≤ 969))) := by
  cases b
  · refine Ev.step (fun k => by rw [glyph_Start.j2]) (Ev.ncond (by decide) (Ev.ite (fun h => ?_) (fun h => ?_)))
    · have := start_j3 r (decide (r ≤ 937))
      rwa [show (decide (r ≤ 937) || decide (945 ≤ r ∧ r ≤ 969)) = (false || decide ((931 ≤ r ∧ r ≤ 937) ∨ (945 ≤ r ∧ r ≤ 969))) by rw [Bool.eq_iff_iff]; simp; omega] at this
    · have := start_j3 r false
      rwa [show (false || decide (945 ≤ r ∧ r ≤ 969)) = (false || decide ((931 ≤ r ∧ r ≤ 937) ∨ (945 ≤ r ∧ r ≤ 969))) by rw [Bool.eq_iff_iff]; simp; omega] at this
  · rw [Bool.true_or]; exact Ev.step (fun k => by rw [glyph_Start.j2]) (Ev.cond rfl (Ev.fin rfl))
theorem start_j1 (r : Int) (b : Bool) : Ev (fun k => glyph_Start.j1 k r b) (b || decide ((913 ≤ r ∧ r ≤ 929) ∨ (931 ≤ r ∧ r ≤ 937) ∨ (945 ≤ r ∧ r ≤ 969))) := by
  cases b
  · refine Ev.step (fun k => by rw [glyph_Start.j1]) (Ev.ncond (by decide) (Ev.ite (fun h => ?_) (fun h => ?_)))
    · have := start_j2 r (decide (r ≤ 929))
      rwa [show (decide (r ≤ 929) || decide ((931 ≤ r ∧ r ≤ 937) ∨ (945 ≤ r ∧ r ≤ 969))) = (false || decide ((913 ≤ r ∧ r ≤ 929) ∨ (931 ≤ r ∧ r ≤ 937) ∨ (945 ≤ r ∧ r ≤ 969))) by rw [Bool.eq_iff_iff]; simp; omega] at this
    · have := start_j2 r false
      rwa [show (false || decide ((931 ≤ r ∧ r ≤ 937) ∨ (945 ≤ r ∧ r ≤ 969))) = (false || decide ((913 ≤ r ∧ r ≤ 929) ∨ (931 ≤ r ∧ r ≤ 937) ∨ (945 ≤ r ∧ r ≤ 969))) by rw [Bool.eq_iff_iff]; simp; omega] at this
  · rw [Bool.true_or]; exact Ev.step (fun k => by rw [glyph_Start.j1]) (Ev.cond rfl (Ev.fin rfl))
theorem start_j0 (r : Int) (b : Bool) : Ev (fun k => glyph_Start.j0 k r b) (b || decide ((97 ≤ r ∧ r ≤ 122) ∨ r = 95 ∨ (913 ≤ r ∧ r ≤ 929) ∨ (931 ≤ r ∧ r ≤ 937) ∨ (945 ≤ r ∧ r ≤ 969))) := by
  cases b
  · refine Ev.step (fun k => by rw [glyph_Start.j0]) (Ev.ncond (by decide) (Ev.ite (fun h => Ev.ite (fun g => ?_) (fun g => ?_)) (fun h => ?_)))
    · have := start_j1 r (decide (r ≤ 122))
      rwa [show (decide (r ≤ 122) || decide ((913 ≤ r ∧ r ≤ 929) ∨ (931 ≤ r ∧ r ≤ 937) ∨ (945 ≤ r ∧ r ≤ 969))) = (false || decide ((97 ≤ r ∧ r ≤ 122) ∨ r = 95 ∨ (913 ≤ r ∧ r ≤ 929) ∨ (931 ≤ r ∧ r ≤ 937) ∨ (945 ≤ r ∧ r ≤ 969))) by rw [Bool.eq_iff_iff]; simp; omega] at this
    · have := start_j1 r (r == 95)
      rwa [show ((r == 95) || decide ((913 ≤ r ∧ r ≤ 929) ∨ (931 ≤ r ∧ r ≤ 937) ∨ (945 ≤ r ∧ r ≤ 969))) = (false || decide ((97 ≤ r ∧ r ≤ 122) ∨ r = 95 ∨ (913 ≤ r ∧ r ≤ 929) ∨ (931 ≤ r ∧ r ≤ 937) ∨ (945 ≤ r ∧ r ≤ 969))) by rw [Bool.eq_iff_iff]; simp; omega] at this
    · have := start_j1 r (r == 95)
      rwa [show ((r == 95) || decide ((913 ≤ r ∧ r ≤ 929) ∨ (931 ≤ r ∧ r ≤ 937) ∨ (945 ≤ r ∧ r ≤ 969))) = (false || decide ((97 ≤ r ∧ r ≤ 122) ∨ r = 95 ∨ (913 ≤ r ∧ r ≤ 929) ∨ (931 ≤ r ∧ r ≤ 937) ∨ (945 ≤ r ∧ r ≤ 969))) by rw [Bool.eq_iff_iff]; simp; omega] at this
  · have := start_j1 r true
    exact Ev.step (fun k => by rw [glyph_Start.j0]) (Ev.cond rfl this)
theorem start_ev (r : Int) : Ev (fun k => glyph_Start.f k r) (startB r) := by
  refine Ev.congr (fun k => by rw [glyph_Start.f]) (Ev.ite (fun h => ?_) (fun h => ?_))
  · have := start_j0 r (decide (r ≤ 90))
    rwa [show (decide (r ≤ 90) || decide ((97 ≤ r ∧ r ≤ 122) ∨ r = 95 ∨ (913 ≤ r ∧ r ≤ 929) ∨ (931 ≤ r ∧ r ≤ 937) ∨ (945 ≤ r ∧ r ≤ 969))) = startB r by rw [startB, Bool.eq_iff_iff]; simp; omega] at this
  · have := start_j0 r false
    rwa [show (false || decide ((97 ≤ r ∧ r ≤ 122) ∨ r = 95 ∨ (913 ≤ r ∧ r ≤ 929) ∨ (931 ≤ r ∧ r ≤ 937) ∨ (945 ≤ r ∧ r ≤ 969))) = startB r by rw [startB, Bool.eq_iff_iff]; simp; omega] at this
theorem rest_ev (r : Int) : Ev (fun k => glyph_Rest.f k r) (restB r) := by
  refine Ev.congr (fun k => by rw [glyph_Rest.f]) (Ev.bind (start_ev r) ?_)
  rw [restB]
  cases startB r
  · refine Ev.ncond (by decide) (Ev.ite (fun h => Ev.ite (fun g => Ev.fin ?_) (fun g => Ev.ite (fun z => Ev.fin ?_) (fun z => Ev.ite (fun y => Ev.fin ?_) (fun y => Ev.fin ?_)))) (fun h => Ev.ite (fun z => Ev.fin ?_) (fun z => Ev.ite (fun y => Ev.fin ?_) (fun y => Ev.fin ?_)))) <;> rw [Bool.false_or, Bool.eq_iff_iff] <;> simp <;> omega
  · exact Ev.cond rfl (Ev.fin rfl)
def resB (s : ByteArray) : Bool := decide (s.toList ∈ [[97, 110, 100], [111, 114], [110, 111, 116], [101, 120], [97, 108, 108], [109, 111, 100], [116, 114, 117, 101], [102, 97, 108, 115, 101]])
theorem res_eq (s : ByteArray) : glyph_Reserved.f s = some (resB s) := by
  unfold glyph_Reserved.f resB
  simp only [List.mem_cons, List.not_mem_nil, or_false]
  repeat' split
  all_goals simp_all
theorem width_pos (s : ByteArray) (pos : Nat) (h : pos < s.size) : 1 ≤ (Utf8.decode s pos).2 := by
  by_cases ha : (s[pos]'h).toNat < 128
  · rw [decode_ascii s pos h ha]
    exact Nat.le_refl _
  · exact (decode_high s pos h (by omega)).2
/-- A name, from a byte on, behind n characters. -/
def nameR : Nat → ByteArray → Nat → Nat → Bool
  | 0, s, _, n => decide (1 ≤ n ∧ n ≤ 16) && !resB s
  | m + 1, s, p, n =>
    if p < s.size then (if (n = 0 → startB ((Utf8.decode s p).1 : Int) = true) ∧ restB ((Utf8.decode s p).1 : Int) = true then nameR m s (p + (Utf8.decode s p).2) (n + 1) else false)
    else decide (1 ≤ n ∧ n ≤ 16) && !resB s
def nameB (s : ByteArray) : Bool := nameR s.size s 0 0
theorem name_end (s : ByteArray) (n : Nat) : Ev (fun k => if (n : Int) > 0 then (if (n : Int) ≤ 16 then (glyph_Reserved.f s).bind fun t => some (!t) else some false) else some false) (decide (1 ≤ n ∧ n ≤ 16) && !resB s) := by
  by_cases h1 : 1 ≤ n
  · by_cases h2 : n ≤ 16
    · refine Ev.cond (by omega) (Ev.cond (by omega) ?_)
      rw [decide_eq_true ⟨h1, h2⟩, Bool.true_and]
      exact Ev.ret (res_eq s) (Ev.fin rfl)
    · rw [decide_eq_false (fun e => h2 e.2)]
      exact Ev.cond (by omega) (Ev.ncond (by omega) (Ev.fin rfl))
  · rw [decide_eq_false (fun e => h1 e.1)]
    exact Ev.ncond (by omega) (Ev.fin rfl)
theorem name_ev (s : ByteArray) (hs : s.size ≤ 9223372036854775807) : Ev (fun k => glyph_Name.f k s) (nameB s) := by
  have key : ∀ (m p n : Nat), s.size ≤ p + m → n ≤ p → (p = 0 ↔ n = 0) → Ev (fun k => glyph_Name.l0 k s p (n : Int)) (nameR m s p n) := by
    intro m
    induction m with
    | zero =>
      intro p n hp hn _
      exact Ev.step (fun k => by rw [glyph_Name.l0]) (Ev.ncond (by omega) (name_end s n))
    | succ m ih =>
      intro p n hp hn hz
      rw [nameR]
      by_cases c : p < s.size
      · rw [if_pos c]
        have hw := width_pos s p c
        refine Ev.step (fun k => by rw [glyph_Name.l0]) (Ev.cond c ?_)
        have st : Ev (fun k => if p = 0 then glyph_Start.f k ((Utf8.decode s p).1 : Int) else some true) (decide (n = 0 → startB ((Utf8.decode s p).1 : Int) = true)) := by
          refine Ev.ite (fun h => ?_) (fun h => Ev.fin ?_)
          · have n0 := hz.1 h
            rw [show decide (n = 0 → startB ((Utf8.decode s p).1 : Int) = true) = startB ((Utf8.decode s p).1 : Int) by rw [Bool.eq_iff_iff]; simp [n0]]
            exact start_ev _
          · have n0 : ¬ n = 0 := fun e => h (hz.2 e)
            exact (decide_eq_true (fun e => absurd e n0)).symm
        refine Ev.bind st (Ev.ite (fun h => Ev.bind (rest_ev _) (Ev.ite (fun g => ?_) (fun g => Ev.fin ?_))) (fun h => Ev.fin ?_))
        · rw [if_pos ⟨of_decide_eq_true h, g⟩, w64 (by omega) (by omega)]
          exact ih (p + (Utf8.decode s p).2) (n + 1) (by omega) (by omega) (by omega)
        · rw [if_neg (fun e => g e.2)]
        · rw [if_neg (fun e => h (decide_eq_true e.1))]
      · rw [if_neg c]
        exact Ev.step (fun k => by rw [glyph_Name.l0]) (Ev.ncond c (name_end s n))
  exact key s.size 0 0 (by omega) (by omega) (by omega)
/-- From a place on: names, each less than the next. -/
def risesR (ns : List ByteArray) : Nat → Nat → Bool
  | 0, _ => true
  | m + 1, i => nameB (rdOf ByteArray.empty ns (i : Int)) && ((decide (i = 0) || Op.bytesLess (rdOf ByteArray.empty ns ((i - 1 : Nat) : Int)).toList (rdOf ByteArray.empty ns (i : Int)).toList) && risesR ns m (i + 1))
def risesB (ns : List ByteArray) : Bool := risesR ns ns.length 0
theorem rises_ev (ns : List ByteArray) (hn : ns.length ≤ 9000000000000000000) (hs : ∀ x ∈ ns, x.size ≤ 9223372036854775807) : Ev (fun k => glyph_Rises.f k ns) (risesB ns) := by
  refine Ev.congr (fun k => by rw [glyph_Rises.f]) ?_
  have key : ∀ (m i : Nat), i + m = ns.length → Ev (fun k => glyph_Rises.l0 k ns ns (ns.length : Int) (i : Int)) (risesR ns m i) := by
    intro m
    induction m with
    | zero =>
      intro i hi
      refine Ev.step (fun k => by rw [glyph_Rises.l0]) (Ev.ncond (by omega) ?_)
      exact Ev.fin rfl
    | succ m ih =>
      intro i hi
      rw [risesR]
      have sz : (rdOf ByteArray.empty ns (i : Int)).size ≤ 9223372036854775807 := by rw [rdOf_get _ ns (show i < ns.length by omega)]; exact hs _ (List.getElem_mem _)
      refine Ev.step (fun k => by rw [glyph_Rises.l0]) (Ev.cond (by omega) (Ev.cond (by omega) (Ev.cond (by omega) (Ev.bind (name_ev _ sz) ?_))))
      refine Ev.ite (fun a => ?_) (fun a => Ev.fin ?_)
      · rw [a, Bool.true_and]
        have nx := ih (i + 1) (by omega)
        refine Ev.ite (fun b => ?_) (fun b => ?_)
        · rw [w64 (x := (i : Int) - 1) (by omega) (by omega), w64 (x := (i : Int) + 1) (by omega) (by omega), show (i : Int) - 1 = ((i - 1 : Nat) : Int) by omega, decide_eq_false (show ¬ i = 0 by omega), Bool.false_or]
          refine Ev.cond (by omega) (Ev.cond (by omega) (Ev.ite (fun c => ?_) (fun c => Ev.fin ?_)))
          · rw [c, Bool.true_and]; exact nx
          · rw [Bool.not_eq_true] at c; rw [c, Bool.false_and]
        · rw [decide_eq_true (show i = 0 by omega), Bool.true_or, Bool.true_and, w64 (by omega) (by omega)]
          exact nx
      · rw [Bool.not_eq_true] at a; rw [a, Bool.false_and]
  exact key ns.length 0 (by omega)
end Go.Proofs.Ytbpeloobnjbgkaa.Pure
namespace Go.Proofs.Ytbpeloobnjbgkaa.Pure
open Go.RowKit Go.Proofs.YtbpeloobnjbgkaaW.PrintWords Go.Proofs.YtbpeloobnjbgkaaW.PrintLast Go.Proofs.YtbpeloobnjbgkaaW.PrintMore Go.Proofs.Ytbpeloobnjbgkaa.X
set_option linter.unusedVariables false
section
variable {a : List Int} {j : Nat}
end
def SZ (ns : List ByteArray) : Prop := ∀ x ∈ ns, x.size ≤ 9223372036854775807
def RZ (nx : List (List Int)) : Prop := ∀ r ∈ nx, r.length ≤ 9000000000000000000
/-! ### The tracks -/
structure Fr (ns : List ByteArray) (n : Nat) : Prop where
  tr : ns.length ≤ 6
  n1 : 1 ≤ n
  n2 : n ≤ 256
  ri : risesB ns = true
section
variable {ns : List ByteArray} {n : Nat}
theorem tracks_yes (hs : SZ ns) (f : Fr ns n) : Ev (fun k => table_tracks.f k ns (n : Int)) true := by
  have := f.tr; have := f.n1; have := f.n2
  refine Ev.congr (fun k => by rw [table_tracks.f]) (Ev.cond (by omega) (Ev.cond (by omega) (Ev.cond (by omega) (Ev.bind (rises_ev ns (by omega) hs) (Ev.fin f.ri)))))
theorem tracks_no (hs : SZ ns) (hn : ¬ Fr ns n) : Ev (fun k => table_tracks.f k ns (n : Int)) false := by
  refine Ev.congr (fun k => by rw [table_tracks.f]) (Ev.ite (fun a => Ev.ite (fun b => Ev.ite (fun c => Ev.bind (rises_ev ns (by omega) hs) (Ev.fin ?_)) (fun _ => Ev.fin rfl)) (fun _ => Ev.fin rfl)) (fun _ => Ev.fin rfl))
  cases e : risesB ns
  · rfl
  · exact absurd ⟨by omega, by omega, by omega, e⟩ hn
/-! ### Machines -/
theorem right_row {r : List Int} {n e : Int} {j : Nat} {f : Nat → Option Int} (hr : r.length ≤ 9000000000000000000) (hnext : (r.length = 2 ^ j ∧ ∀ x ∈ r, 0 ≤ x ∧ x < n) → Ev f e) (hbad : ¬ (r.length = 2 ^ j ∧ ∀ x ∈ r, 0 ≤ x ∧ x < n) → e = 3) :
    Ev (fun k => if (r.length : Int) = ((2 ^ j : Nat) : Int) then ((slices_Min_int_int.f k r).bind fun t113 => (if t113 < 0 then (some 3) else ((slices_Max_int_int.f k r).bind fun t114 => (if t114 ≥ n then (some 3) else f k)))) else (some 3)) e := by
  refine Ev.ite (fun a => ?_) (fun a => Ev.fin (hbad (fun h => a (by rw [h.1]))).symm)
  have al : r.length = 2 ^ j := by omega
  have h1 : 1 ≤ r.length := by have := Nat.two_pow_pos j; omega
  obtain ⟨x, hx, hxs⟩ := min_ev r h1 hr
  obtain ⟨y, hy, hys⟩ := max_ev r h1 hr
  refine Ev.bind hx (Ev.ite (fun b => Ev.fin (hbad (fun h => ?_)).symm) (fun b => Ev.bind hy (Ev.ite (fun c => Ev.fin (hbad (fun h => ?_)).symm) (fun c => hnext ⟨al, fun z hz => ⟨(hxs 0).1 (by omega) z hz, (hys n).1 (by omega) z hz⟩⟩))))
  · have := (hxs 0).2 (fun z hz => (h.2 z hz).1); omega
  · have := (hys n).2 (fun z hz => (h.2 z hz).2); omega
structure DOk (ns : List ByteArray) (ac : List Bool) (nx : List (List Int)) : Prop where
  fr : Fr ns ac.length
  ln : nx.length = ac.length
  rows : ∀ r ∈ nx, r.length = 2 ^ ns.length ∧ ∀ x ∈ r, 0 ≤ x ∧ x < (ac.length : Int)
theorem shl_tr {ns : List ByteArray} (h : ns.length ≤ 6) : shl .i64 1 (ns.length : Int) = ((2 ^ ns.length : Nat) : Int) := shl_pow ⟨ns.length, by omega⟩
variable {ac : List Bool} {nx : List (List Int)}
theorem right_ok (hs : SZ ns) (hr : RZ nx) (d : DOk ns ac nx) : Ev (fun k => table_Right.f k ns ac nx) 0 := by
  have n2 := d.fr.n2
  have ln := d.ln
  refine Ev.congr (fun k => by rw [table_Right.f]) (Ev.bind (tracks_yes hs d.fr) (Ev.cond rfl ?_))
  rw [show ((nx.length : Int) != (ac.length : Int)) = false by simp [d.ln]]
  refine Ev.step (fun k => by rw [table_Right.j0]) (Ev.ncond (by decide) ?_)
  have key : ∀ (m i : Nat), i + m = nx.length → Ev (fun k => table_Right.l0 k (ac.length : Int) nx (nx.length : Int) (i : Int) ns ac nx) 0 := by
    intro m
    induction m with
    | zero => intro i hi; exact Ev.step (fun k => by rw [table_Right.l0]) (Ev.ncond (by omega) (Ev.fin rfl))
    | succ m ih =>
      intro i hi
      refine Ev.step (fun k => by rw [table_Right.l0]) (Ev.cond (by omega) (Ev.cond (by omega) (Ev.cond (by omega) ?_)))
      rw [rdL_get nx (show i < nx.length by omega), shl_tr d.fr.tr, w64 (by omega) (by omega)]
      have mem : nx[i]'(by omega) ∈ nx := List.getElem_mem _
      exact right_row (hr _ mem) (fun _ => ih (i + 1) (by omega)) (fun h => absurd (d.rows _ mem) h)
  exact key nx.length 0 (by omega)
theorem right_no (hs : SZ ns) (hr : RZ nx) (hx : nx.length ≤ 9000000000000000000) (d : ¬ DOk ns ac nx) : Ev (fun k => table_Right.f k ns ac nx) 3 := by
  have stop : ∀ {b}, b = true → Ev (fun k => table_Right.j0 k (ac.length : Int) b ns ac nx) 3 := fun e => e ▸ Ev.step (fun k => by rw [table_Right.j0]) (Ev.cond rfl (Ev.fin rfl))
  by_cases f : Fr ns ac.length
  · refine Ev.congr (fun k => by rw [table_Right.f]) (Ev.bind (tracks_yes hs f) (Ev.cond rfl ?_))
    by_cases ln : nx.length = ac.length
    · rw [show ((nx.length : Int) != (ac.length : Int)) = false by simp [ln]]
      refine Ev.step (fun k => by rw [table_Right.j0]) (Ev.ncond (by decide) ?_)
      obtain ⟨q, hq, bad⟩ : ∃ q, ∃ h : q < nx.length, ¬ (nx[q].length = 2 ^ ns.length ∧ ∀ x ∈ nx[q], 0 ≤ x ∧ x < (ac.length : Int)) :=
        Classical.byContradiction fun c => d ⟨f, ln, fun r hr => by
          obtain ⟨i, hi, rfl⟩ := List.getElem_of_mem hr
          exact Classical.byContradiction fun z => c ⟨i, hi, z⟩⟩
      have key : ∀ (m i : Nat), i + m = q → Ev (fun k => table_Right.l0 k (ac.length : Int) nx (nx.length : Int) (i : Int) ns ac nx) 3 := by
        intro m
        induction m with
        | zero =>
          intro i hi
          obtain rfl : i = q := by omega
          refine Ev.step (fun k => by rw [table_Right.l0]) (Ev.cond (by omega) (Ev.cond (by omega) (Ev.cond (by omega) ?_)))
          rw [rdL_get nx hq, shl_tr f.tr]
          exact right_row (hr _ (List.getElem_mem hq)) (fun h => absurd h bad) (fun _ => rfl)
        | succ m ih =>
          intro i hi
          refine Ev.step (fun k => by rw [table_Right.l0]) (Ev.cond (by omega) (Ev.cond (by omega) (Ev.cond (by omega) ?_)))
          rw [rdL_get nx (show i < nx.length by omega), shl_tr f.tr, w64 (by omega) (by omega)]
          exact right_row (hr _ (List.getElem_mem _)) (fun _ => ih (i + 1) (by omega)) (fun _ => rfl)
      exact key q 0 (by omega)
    · exact stop (bne_iff_ne.2 (by omega))
  · refine Ev.congr (fun k => by rw [table_Right.f]) (Ev.bind (tracks_no hs f) ?_)
    exact Ev.ncond (by decide) (stop rfl)
end
/-! ### The table of a machine -/
section
variable {ns : List ByteArray} {ac : List Bool} {nx : List (List Int)}
end
end Go.Proofs.Ytbpeloobnjbgkaa.Pure
namespace Go.Proofs.Ytbpeloobnjbgkaa.Pure
open Go.RowKit Go.Proofs.YtbpeloobnjbgkaaW.PrintWords Go.Proofs.YtbpeloobnjbgkaaW.PrintLast Go.Proofs.YtbpeloobnjbgkaaW.PrintMore Go.Proofs.Ytbpeloobnjbgkaa.X
set_option linter.unusedVariables false
end Go.Proofs.Ytbpeloobnjbgkaa.Pure
namespace Go.Proofs.Ytbpeloobnjbgkaa.Pure
open Go.RowKit Go.Proofs.YtbpeloobnjbgkaaW.PrintWords Go.Proofs.YtbpeloobnjbgkaaW.PrintLast Go.Proofs.YtbpeloobnjbgkaaW.PrintMore Go.Proofs.Ytbpeloobnjbgkaa.X
set_option linter.unusedVariables false
section
variable {s : ByteArray} {p : Nat}
end
end Go.Proofs.Ytbpeloobnjbgkaa.Pure
namespace Go.Proofs.Ytbpeloobnjbgkaa.Pure
open Go.RowKit Go.Proofs.YtbpeloobnjbgkaaW.PrintWords Go.Proofs.YtbpeloobnjbgkaaW.PrintLast Go.Proofs.YtbpeloobnjbgkaaW.PrintMore Go.Proofs.Ytbpeloobnjbgkaa.X
set_option linter.unusedVariables false
section
variable {ns : List ByteArray} {n : Nat}
variable {ac : List Bool} {nx : List (List Int)}
end
end Go.Proofs.Ytbpeloobnjbgkaa.Pure
namespace Go.Proofs.Ytbpeloobnjbgkaa.Pure
open Go.RowKit Go.Proofs.YtbpeloobnjbgkaaW.PrintWords Go.Proofs.YtbpeloobnjbgkaaW.PrintLast Go.Proofs.YtbpeloobnjbgkaaW.PrintMore Go.Proofs.Ytbpeloobnjbgkaa.X
set_option linter.unusedVariables false
/-! ### A right machine's rows -/
def acF (ac : List Bool) (q : Nat) : Bool := ac.getD q false
def dlF (nx : List (List Int)) (q a : Nat) : Nat := ((nx.getD q []).getD a 0).toNat
structure Mk (ac : List Bool) (nx : List (List Int)) (L : Nat) : Prop where
  len : nx.length = ac.length
  n1 : 1 ≤ ac.length
  n2 : ac.length ≤ 256
  l1 : 1 ≤ L
  l2 : L ≤ 64
  rows : ∀ r ∈ nx, r.length = L ∧ ∀ x ∈ r, 0 ≤ x ∧ x < (ac.length : Int)
section
variable {ac : List Bool} {nx : List (List Int)} {L : Nat}
theorem Mk.row (h : Mk ac nx L) {q : Nat} (hq : q < ac.length) : (rd_L1 nx (q : Int)).length = L ∧ ∀ a : Nat, a < L → rd (rd_L1 nx (q : Int)) (a : Int) = ((dlF nx q a : Nat) : Int) ∧ dlF nx q a < ac.length := by
  have hq' : q < nx.length := by rw [h.len]; exact hq
  have r := h.rows _ (List.getElem_mem hq')
  rw [rdL_get nx hq']
  refine ⟨r.1, fun a ha => ?_⟩
  have ha' : a < (nx[q]).length := by rw [r.1]; exact ha
  have x := r.2 _ (List.getElem_mem ha')
  have e : dlF nx q a = ((nx[q])[a]).toNat := by simp [dlF, List.getD_eq_getElem?_getD, List.getElem?_eq_getElem hq', List.getElem?_eq_getElem ha']
  rw [rd_get _ ha', e]
  omega
theorem Mk.acc (h : Mk ac nx L) {q : Nat} (hq : q < ac.length) : rdOf false ac (q : Int) = acF ac q := by
  rw [rdOf_get false ac hq, acF, List.getD_eq_getElem?_getD, List.getElem?_eq_getElem hq]; rfl
end
end Go.Proofs.Ytbpeloobnjbgkaa.Pure
namespace Go.Proofs.Ytbpeloobnjbgkaa.Pure
set_option linter.unusedVariables false
/-! ### Names in the order in which they are met -/
section
variable {α : Type} [DecidableEq α]
def nm (ms : List α) (x : α) : List α := if x ∈ ms then ms else ms ++ [x]
def dd (l : List α) : List α := l.foldl nm []
theorem nm_mem {ms : List α} {x y : α} : y ∈ nm ms x ↔ y ∈ ms ∨ y = x := by
  unfold nm
  split
  · rename_i h
    exact ⟨Or.inl, fun g => g.elim id (fun e => e ▸ h)⟩
  · simp
theorem nm_nodup {ms : List α} (h : ms.Nodup) (x : α) : (nm ms x).Nodup := by
  unfold nm
  split
  · exact h
  · rename_i g
    rw [List.nodup_append]
    exact ⟨h, by simp, fun a ha b hb e => g (by rw [List.mem_singleton.1 hb] at e; exact e ▸ ha)⟩
theorem nm_pre (ms : List α) (x : α) : ∃ t, nm ms x = ms ++ t := by
  unfold nm
  split
  · exact ⟨[], by simp⟩
  · exact ⟨_, rfl⟩
theorem foldl_pre (l : List α) : ∀ ms : List α, ∃ t, l.foldl nm ms = ms ++ t := by
  induction l with
  | nil => intro ms; exact ⟨[], by simp⟩
  | cons x l ih =>
    intro ms
    obtain ⟨t, ht⟩ := nm_pre ms x
    obtain ⟨u, hu⟩ := ih (nm ms x)
    exact ⟨t ++ u, by rw [List.foldl_cons, hu, ht, List.append_assoc]⟩
theorem foldl_mem (l : List α) : ∀ (ms : List α) (y : α), y ∈ l.foldl nm ms ↔ y ∈ ms ∨ y ∈ l := by
  induction l with
  | nil => intro ms y; simp
  | cons x l ih => intro ms y; rw [List.foldl_cons, ih, nm_mem, List.mem_cons, or_assoc]
theorem foldl_nodup (l : List α) : ∀ ms : List α, ms.Nodup → (l.foldl nm ms).Nodup := by
  induction l with
  | nil => intro ms h; exact h
  | cons x l ih => intro ms h; exact ih _ (nm_nodup h x)
theorem dd_mem {l : List α} {y : α} : y ∈ dd l ↔ y ∈ l := by rw [dd, foldl_mem]; simp
theorem dd_nodup (l : List α) : (dd l).Nodup := foldl_nodup l [] List.nodup_nil
theorem dd_snoc (l : List α) (x : α) : dd (l ++ [x]) = nm (dd l) x := by rw [dd, List.foldl_append]; rfl
theorem foldl_len (l : List α) : ∀ ms : List α, (l.foldl nm ms).length ≤ ms.length + l.length := by
  induction l with
  | nil => intro ms; simp
  | cons x l ih =>
    intro ms
    have := ih (nm ms x)
    have h : (nm ms x).length ≤ ms.length + 1 := by
      unfold nm; split
      · omega
      · simp
    rw [List.foldl_cons, List.length_cons]; omega
theorem dd_len (l : List α) : (dd l).length ≤ l.length := by have := foldl_len l []; simpa [dd] using this
theorem idx_pre {ms t : List α} {x : α} (h : x ∈ ms) : (ms ++ t).idxOf x = ms.idxOf x := by rw [List.idxOf_append, if_pos h]
theorem idx_inj {ms : List α} {x y : α} (hx : x ∈ ms) (hy : y ∈ ms) (h : ms.idxOf x = ms.idxOf y) : x = y := by
  have h1 := List.idxOf_lt_length_of_mem hx
  have h2 := List.idxOf_lt_length_of_mem hy
  have e1 := List.getElem_idxOf h1
  have e2 := List.getElem_idxOf h2
  rw [← e1, ← e2]
  simp only [h]
theorem dd_map {β : Type} [DecidableEq β] (f : α → β) (l : List α) (hf : ∀ x ∈ l, ∀ y ∈ l, f x = f y → x = y) : dd (l.map f) = (dd l).map f := by
  have key : ∀ (n : Nat) (l : List α), l.length = n → (∀ x ∈ l, ∀ y ∈ l, f x = f y → x = y) → dd (l.map f) = (dd l).map f := by
    intro n
    induction n with
    | zero => intro l hl _; rw [List.length_eq_zero_iff.1 hl]; rfl
    | succ n ih =>
      intro l hl hf
      rcases List.eq_nil_or_concat l with rfl | ⟨m, x, rfl⟩
      · rfl
      · rw [List.concat_eq_append] at *
        have hm := ih m (by simpa using hl) (fun x hx y hy => hf x (by simp [hx]) y (by simp [hy]))
        rw [List.map_append, List.map_cons, List.map_nil, dd_snoc, dd_snoc, hm]
        unfold nm
        by_cases c : x ∈ dd m
        · rw [if_pos c, if_pos (List.mem_map_of_mem c)]
        · rw [if_neg c, if_neg, List.map_append]; · rfl
          intro h
          obtain ⟨y, hy, e⟩ := List.mem_map.1 h
          exact c (by rw [hf x (by simp) y (by simp [dd_mem.1 hy]) e.symm]; exact hy)
  exact key _ l rfl hf
theorem nodup_sub {S : List α} : ∀ {T : List α}, S.Nodup → (∀ x ∈ S, x ∈ T) → T.length ≤ S.length → ∀ y ∈ T, y ∈ S := by
  induction S with
  | nil => intro T _ _ h y hy; rw [List.eq_nil_of_length_eq_zero (Nat.le_zero.1 h)] at hy; exact hy
  | cons x S ih =>
    intro T hn hs hl y hy
    have hx : x ∈ T := hs x (by simp)
    have hn2 := List.nodup_cons.1 hn
    by_cases e : y = x
    · rw [e]; simp
    · refine List.mem_cons_of_mem _ (ih (T := T.erase x) hn2.2 (fun z hz => ?_) ?_ y ((List.mem_erase_of_ne e).2 hy))
      · have : z ≠ x := fun e => hn2.1 (e ▸ hz)
        exact (List.mem_erase_of_ne this).2 (hs z (by simp [hz]))
      · rw [List.length_erase_of_mem hx]
        rw [List.length_cons] at hl
        omega
theorem nodup_len {S T : List α} (hn : S.Nodup) (hs : ∀ x ∈ S, x ∈ T) : S.length ≤ T.length := by
  induction S generalizing T with
  | nil => simp
  | cons x S ih =>
    have hx : x ∈ T := hs x (by simp)
    have hn2 := List.nodup_cons.1 hn
    have := ih (T := T.erase x) hn2.2 (fun z hz => (List.mem_erase_of_ne (show z ≠ x from fun e => hn2.1 (e ▸ hz))).2 (hs z (by simp [hz])))
    rw [List.length_erase_of_mem hx] at this
    have : 0 < T.length := List.length_pos_of_mem hx
    rw [List.length_cons]; omega
end
/-- Two lists of labels, the second one finer. -/
theorem finer {β : Type} [DecidableEq β] {m m' : List β} (hl : m.length = m'.length) (hr : ∀ p q (hp : p < m.length) (hq : q < m.length), m'[p]'(hl ▸ hp) = m'[q]'(hl ▸ hq) → m[p] = m[q]) :
    (dd m).length ≤ (dd m').length ∧ ((dd m).length = (dd m').length → ∀ p q (hp : p < m.length) (hq : q < m.length), m[p] = m[q] → m'[p]'(hl ▸ hp) = m'[q]'(hl ▸ hq)) := by
  have pos : ∀ v ∈ dd m, m.idxOf v < m.length := fun v hv => List.idxOf_lt_length_of_mem (dd_mem.1 hv)
  have hpos : ∀ v (hv : v ∈ dd m), m[m.idxOf v]'(pos v hv) = v := fun v hv => List.getElem_idxOf (pos v hv)
  let S := (dd m).attach.map fun v => m'[m.idxOf v.1]'(hl ▸ pos v.1 v.2)
  have hS : S.Nodup := by
    show (List.map _ _).Nodup
    rw [List.nodup_iff_pairwise_ne, List.pairwise_map]
    have h0 : (dd m).attach.Pairwise (fun a b => a.1 ≠ b.1) := by
      have := dd_nodup m
      rw [List.nodup_iff_pairwise_ne] at this
      rw [← List.pairwise_map (f := Subtype.val) (R := fun a b => a ≠ b), List.attach_map_subtype_val]
      exact this
    refine h0.imp (fun {a b} hab e => hab ?_)
    have := hr _ _ (pos a.1 a.2) (pos b.1 b.2) e
    rw [hpos a.1 a.2, hpos b.1 b.2] at this
    exact this
  have hsub : ∀ x ∈ S, x ∈ dd m' := by
    intro x hx
    obtain ⟨v, _, rfl⟩ := List.mem_map.1 hx
    exact dd_mem.2 (List.getElem_mem _)
  have hlen : S.length = (dd m).length := by simp [S]
  refine ⟨hlen ▸ nodup_len hS hsub, fun he p q hp hq e => ?_⟩
  have sup := nodup_sub hS hsub (by omega)
  have at_ : ∀ p (hp : p < m.length), m'[p]'(hl ▸ hp) = m'[m.idxOf m[p]]'(hl ▸ pos _ (dd_mem.2 (List.getElem_mem hp))) := by
    intro p hp
    obtain ⟨v, _, ev⟩ := List.mem_map.1 (sup _ (dd_mem.2 (List.getElem_mem (hl ▸ hp : p < m'.length))))
    have h1 := hr _ _ (pos v.1 v.2) hp ev
    rw [hpos v.1 v.2] at h1
    rw [← ev]
    simp only [h1]
  rw [at_ p hp, at_ q hq]
  simp only [e]
/-! ### States told apart -/
section
variable (acc : Nat → Bool) (δ : Nat → Nat → Nat) (L : Nat)
/-- Not told apart by a word of at most so many letters. -/
def RR : Nat → Nat → Nat → Prop
  | 0, p, q => acc p = acc q
  | i + 1, p, q => RR i p q ∧ ∀ a, a < L → RR i (δ p a) (δ q a)
/-- Alike. -/
def EE (p q : Nat) : Prop := ∀ i, RR acc δ L i p q
end
section
variable {acc : Nat → Bool} {δ : Nat → Nat → Nat} {L : Nat}
theorem RR.symm : ∀ {i p q : Nat}, RR acc δ L i p q → RR acc δ L i q p
  | 0, _, _, h => Eq.symm h
  | _ + 1, _, _, h => ⟨RR.symm h.1, fun a ha => RR.symm (h.2 a ha)⟩
theorem RR.trans : ∀ {i p q r : Nat}, RR acc δ L i p q → RR acc δ L i q r → RR acc δ L i p r
  | 0, _, _, _, h, k => Eq.trans h k
  | _ + 1, _, _, _, h, k => ⟨RR.trans h.1 k.1, fun a ha => RR.trans (h.2 a ha) (k.2 a ha)⟩
theorem RR.down : ∀ {j i p q : Nat}, RR acc δ L (i + j) p q → RR acc δ L i p q
  | 0, _, _, _, h => h
  | _ + 1, _, _, _, h => RR.down h.1
theorem EE.symm {p q : Nat} (h : EE acc δ L p q) : EE acc δ L q p := fun i => (h i).symm
theorem EE.trans {p q r : Nat} (h : EE acc δ L p q) (k : EE acc δ L q r) : EE acc δ L p r := fun i => (h i).trans (k i)
theorem EE.next {p q a : Nat} (h : EE acc δ L p q) (ha : a < L) : EE acc δ L (δ p a) (δ q a) := fun i => (h (i + 1)).2 a ha
theorem RR.stays {n : Nat} (hδ : ∀ q, q < n → ∀ a, a < L → δ q a < n) {i : Nat} (h : ∀ p q, p < n → q < n → RR acc δ L i p q → RR acc δ L (i + 1) p q) : ∀ (j p q : Nat), p < n → q < n → RR acc δ L i p q → RR acc δ L (i + j) p q := by
  intro j
  induction j with
  | zero => intro p q _ _ k; exact k
  | succ j ih => intro p q hp hq k; exact ⟨ih p q hp hq k, fun a ha => ih _ _ (hδ p hp a ha) (hδ q hq a ha) ((h p q hp hq k).2 a ha)⟩
theorem EE.of_stays {n : Nat} (hδ : ∀ q, q < n → ∀ a, a < L → δ q a < n) {i : Nat} (h : ∀ p q, p < n → q < n → RR acc δ L i p q → RR acc δ L (i + 1) p q) {p q : Nat} (hp : p < n) (hq : q < n) (k : RR acc δ L i p q) : EE acc δ L p q := by
  intro j
  by_cases c : j ≤ i
  · obtain ⟨d, rfl⟩ : ∃ d, i = j + d := ⟨i - j, by omega⟩
    exact k.down
  · obtain ⟨d, rfl⟩ : ∃ d, j = i + d := ⟨j - i, by omega⟩
    exact RR.stays hδ h d p q hp hq k
end
/-! ### The least one alike -/
/-- A list that says of each place the least one that is alike. -/
structure Least (r : Nat → Nat → Prop) (n : Nat) (l : List Int) : Prop where
  len : l.length = n
  at_ : ∀ q, q < n → ∃ p : Nat, l.getD q 0 = (p : Int) ∧ p ≤ q ∧ r p q ∧ ∀ p', p' < p → ¬ r p' q
theorem Least.iff {r s : Nat → Nat → Prop} {n : Nat} {l : List Int} (h : Least r n l) (e : ∀ p q, p < n → q < n → (r p q ↔ s p q)) : Least s n l :=
  ⟨h.len, fun q hq => by
    obtain ⟨p, h1, h2, h3, h4⟩ := h.at_ q hq
    exact ⟨p, h1, h2, (e p q (by omega) hq).1 h3, fun p' hp' z => h4 p' hp' ((e p' q (by omega) hq).2 z)⟩⟩
end Go.Proofs.Ytbpeloobnjbgkaa.Pure
namespace Go.Proofs.Ytbpeloobnjbgkaa.Pure
set_option linter.unusedVariables false
section
variable (L : Nat)
/-- A word's rank, behind what has one. -/
def rkF (r : Nat) (w : List Nat) : Nat := w.foldl (fun r a => r * L + a + 1) r
def Let (w : List Nat) : Prop := ∀ a ∈ w, a < L
end
section
variable {L : Nat}
theorem rkF_cons (r a : Nat) (v : List Nat) : rkF L r (a :: v) = rkF L (r * L + a + 1) v := rfl
theorem step_lt {r r' a b : Nat} (h : r < r') (ha : a < L) : r * L + a + 1 < r' * L + b + 1 := by
  have : (r + 1) * L ≤ r' * L := Nat.mul_le_mul_right L h
  rw [Nat.add_mul] at this
  omega
theorem rk_lt : ∀ (x y : List Nat) (r r' : Nat), x.length = y.length → Let L x → r < r' → rkF L r x < rkF L r' y
  | [], [], _, _, _, _, h => h
  | [], _ :: _, _, _, h, _, _ => by simp at h
  | _ :: _, [], _, _, h, _, _ => by simp at h
  | a :: x, b :: y, r, r', hl, hx, h => by
    rw [rkF_cons, rkF_cons]
    exact rk_lt x y _ _ (by simpa using hl) (fun c hc => hx c (by simp [hc])) (step_lt h (hx a (by simp)))
end
/-! ### The least word that is taken -/
section
variable (acc : Nat → Bool) (δ : Nat → Nat → Nat) (L : Nat)
def runN (q : Nat) (w : List Nat) : Nat := w.foldl δ q
/-- Do some so many letters lead from q to an accepting state? -/
def accN : Nat → Nat → Bool
  | 0, q => acc q
  | n + 1, q => (List.range L).any fun a => accN n (δ q a)
end
section
variable {acc : Nat → Bool} {δ : Nat → Nat → Nat} {L : Nat}
theorem runN_snoc (q : Nat) (u : List Nat) (b : Nat) : runN δ q (u ++ [b]) = δ (runN δ q u) b := by simp [runN]
theorem accN_iff : ∀ (n q : Nat), accN acc δ L n q = true ↔ ∃ w, w.length = n ∧ Let L w ∧ acc (runN δ q w) = true
  | 0, q => by
    constructor
    · intro h; exact ⟨[], rfl, by simp [Let], h⟩
    · rintro ⟨w, h0, _, h⟩
      rw [List.length_eq_zero_iff.1 h0] at h
      exact h
  | n + 1, q => by
    rw [accN, List.any_eq_true]
    constructor
    · rintro ⟨a, ha, h⟩
      obtain ⟨w, h1, h2, h3⟩ := (accN_iff n (δ q a)).1 h
      exact ⟨a :: w, by simp [h1], by intro c hc; rcases List.mem_cons.1 hc with rfl | h; exact List.mem_range.1 ha; exact h2 c h, h3⟩
    · rintro ⟨w, h1, h2, h3⟩
      rcases w with _ | ⟨a, w⟩
      · simp at h1
      · exact ⟨a, List.mem_range.2 (h2 a (by simp)), (accN_iff n (δ q a)).2 ⟨w, by simpa using h1, fun c hc => h2 c (by simp [hc]), h3⟩⟩
/-- Letter by letter the least one from which so many letters more will do. -/
inductive Greedy (acc : Nat → Bool) (δ : Nat → Nat → Nat) (L : Nat) : Nat → Nat → List Nat → Prop
  | nil (q : Nat) (h : acc q = true) : Greedy acc δ L 0 q []
  | cons (n q a : Nat) (w : List Nat) (ha : a < L) (hl : ∀ b, b < a → accN acc δ L n (δ q b) = false) (h : Greedy acc δ L n (δ q a) w) : Greedy acc δ L (n + 1) q (a :: w)
theorem Greedy.len {n q : Nat} {w : List Nat} (h : Greedy acc δ L n q w) : w.length = n ∧ Let L w ∧ acc (runN δ q w) = true := by
  induction h with
  | nil q h => exact ⟨rfl, by simp [Let], h⟩
  | cons n q a w ha hl h ih => exact ⟨by simp [ih.1], by intro c hc; rcases List.mem_cons.1 hc with rfl | h; exact ha; exact ih.2.1 c h, ih.2.2⟩
theorem Greedy.least {n q : Nat} {w : List Nat} (h : Greedy acc δ L n q w) : ∀ (v : List Nat) (r : Nat), v.length = n → Let L v → acc (runN δ q v) = true → rkF L r w ≤ rkF L r v := by
  induction h with
  | nil q h => intro v r hv _ _; rw [List.length_eq_zero_iff.1 hv]; exact Nat.le_refl _
  | cons n q a w ha hl h ih =>
    intro v r hv hlv hacc
    rcases v with _ | ⟨c, v⟩
    · simp at hv
    have hv' : v.length = n := by simpa using hv
    have hlv' : Let L v := fun z hz => hlv z (by simp [hz])
    rw [rkF_cons, rkF_cons]
    rcases Nat.lt_trichotomy a c with d | d | d
    · exact Nat.le_of_lt (rk_lt w v _ _ (by rw [h.len.1, hv']) h.len.2.1 (by omega))
    · subst d; exact ih v _ hv' hlv' hacc
    · have := hl c d
      rw [(accN_iff n (δ q c)).2 ⟨v, hv', hlv', hacc⟩] at this
      cases this
/-! ### Breadth first -/
/-- States in the order in which they are met, with the words by which they are met. -/
structure Met (acc : Nat → Bool) (δ : Nat → Nat → Nat) (L n : Nat) (ls : List Nat) (ws : List (List Nat)) : Prop where
  len : ws.length = ls.length
  h0 : ls[0]? = some 0 ∧ ws[0]? = some []
  run : ∀ (k q : Nat) (w : List Nat), ls[k]? = some q → ws[k]? = some w → runN δ 0 w = q ∧ Let L w ∧ q < n ∧ w.length ≤ k
  up : ∀ (k k' : Nat) (w w' : List Nat), k < k' → ws[k]? = some w → ws[k']? = some w' → rkF L 0 w < rkF L 0 w'
  nodup : ls.Nodup
theorem Met.size {n : Nat} {ls : List Nat} {ws : List (List Nat)} (M : Met acc δ L n ls ws) : ls.length ≤ n := by
  have : ∀ x ∈ ls, x ∈ List.range n := by
    intro x hx
    obtain ⟨k, hk, rfl⟩ := List.getElem_of_mem hx
    obtain ⟨w, hw⟩ : ∃ w, ws[k]? = some w := ⟨_, List.getElem?_eq_getElem (by rw [M.len]; exact hk)⟩
    exact List.mem_range.2 (M.run k _ w (List.getElem?_eq_getElem hk) hw).2.2.1
  have key : ∀ (S : List Nat) (T : List Nat), S.Nodup → (∀ x ∈ S, x ∈ T) → S.length ≤ T.length := by
    intro S
    induction S with
    | nil => intro T _ _; simp
    | cons x S ih =>
      intro T hn hs
      have hx : x ∈ T := hs x (by simp)
      have hn2 := List.nodup_cons.1 hn
      have := ih (T.erase x) hn2.2 (fun z hz => (List.mem_erase_of_ne (show z ≠ x from fun e => hn2.1 (e ▸ hz))).2 (hs z (by simp [hz])))
      rw [List.length_erase_of_mem hx] at this
      have : 0 < T.length := List.length_pos_of_mem hx
      rw [List.length_cons]; omega
  have := key ls (List.range n) M.nodup this
  simpa using this
end
end Go.Proofs.Ytbpeloobnjbgkaa.Pure
namespace Go.Proofs.Ytbpeloobnjbgkaa.Pure
open Go.RowKit Go.Proofs.YtbpeloobnjbgkaaW.PrintWords Go.Proofs.YtbpeloobnjbgkaaW.PrintLast Go.Proofs.YtbpeloobnjbgkaaW.PrintMore Go.Proofs.Ytbpeloobnjbgkaa.X
set_option linter.unusedVariables false
theorem wf_small {x : Int} (h0 : 0 ≤ x) (h1 : x ≤ 1000000) : (Lit.int .i64 x).wf = true := by
  simp [Lit.wf, IntKind.min, IntKind.max, IntKind.signed, IntKind.bits]; omega
theorem dgo : ∀ (l : List Int) (j : Nat) (xs ms : List Int), xs.length = j + l.length →
    canon_dense.go l j xs ms = (xs.take j ++ l.map (fun x => (((l.foldl nm ms).idxOf x : Nat) : Int)), l.foldl nm ms)
  | [], j, xs, ms, h => by simp [canon_dense.go, List.take_of_length_le (show xs.length ≤ j by simpa using Nat.le_of_eq h)]
  | x :: l, j, xs, ms, h => by
    rw [canon_dense.go, dgo l (j + 1) _ _ (by rw [List.length_set, h, List.length_cons]; omega)]
    have hx : x ∈ nm ms x := nm_mem.2 (.inr rfl)
    obtain ⟨t, ht⟩ := foldl_pre l (nm ms x)
    have e : num1 (names1 ms x) x = (l.foldl nm (nm ms x)).idxOf x := by rw [ht, idx_pre hx]; rfl
    have j1 : j < xs.length := by rw [h, List.length_cons]; omega
    have e2 : (xs.set j ((num1 (names1 ms x) x : Nat) : Int)).take (j + 1) = xs.take j ++ [((num1 (names1 ms x) x : Nat) : Int)] := by
      rw [List.take_succ_eq_append_getElem (by simpa using j1), List.getElem_set_self, List.take_set_of_le (Nat.le_refl _)]
    rw [e2, e]
    simp [List.foldl_cons, show names1 ms x = nm ms x from rfl]
theorem dense_ev {l : List Int} (hl : l.length ≤ 35184372088832) (hw : ∀ x ∈ l, (Lit.int .i64 x).wf = true) :
    canon_dense.f l = some (l.map (fun x => (((dd l).idxOf x : Nat) : Int)), ((dd l).length : Int)) := by
  unfold canon_dense.f
  rw [if_pos hl, if_pos hw, dgo l 0 _ [] (by simp)]
  simp [dd]
theorem num1_pre {α : Type} [DecidableEq α] {ms t : List α} {x : α} (h : x ∈ ms) : num1 (ms ++ t) x = num1 ms x := idx_pre h
theorem num1_inj {α : Type} [DecidableEq α] {ms : List α} {x y : α} (hx : x ∈ ms) (hy : y ∈ ms) (h : num1 ms x = num1 ms y) : x = y := idx_inj hx hy h
theorem num1_lt {α : Type} [DecidableEq α] {ms : List α} {x : α} (h : x ∈ ms) : num1 ms x < ms.length := List.idxOf_lt_length_of_mem h
/-- What a row's numbers say: each pair stands in the list. -/
def Chain (cls : List Int) (P : List (Int × Int)) (len : Int) : List Int → Int → Int → Int → Prop
  | [], _, n, z => n = z
  | q :: r, a, n, z => (n * (len + 1) + a, rd cls q) ∈ P ∧ Chain cls P len r (a + 1) ((num1 P (n * (len + 1) + a, rd cls q) : Nat) : Int) z
theorem Chain.more {cls : List Int} {P t : List (Int × Int)} {len : Int} : ∀ {r : List Int} {a n z : Int}, Chain cls P len r a n z → Chain cls (P ++ t) len r a n z
  | [], _, _, _, h => h
  | q :: r, a, n, z, ⟨h1, h2⟩ => ⟨List.mem_append_left _ h1, by rw [num1_pre h1]; exact Chain.more h2⟩
theorem Chain.same {cls : List Int} {P : List (Int × Int)} {len : Int} : ∀ {r r' : List Int} {a n z z' : Int}, r.map (rd cls) = r'.map (rd cls) → Chain cls P len r a n z → Chain cls P len r' a n z' → z = z'
  | [], [], _, _, _, _, _, h, k => (Eq.symm h).trans k
  | [], _ :: _, _, _, _, _, e, _, _ => by simp at e
  | _ :: _, [], _, _, _, _, e, _, _ => by simp at e
  | q :: r, q' :: r', a, n, z, z', e, ⟨_, h⟩, ⟨_, k⟩ => by
    rw [List.map_cons, List.map_cons, List.cons.injEq] at e
    rw [← e.1] at k
    exact Chain.same e.2 h k
theorem Chain.back {cls : List Int} {P : List (Int × Int)} {len : Int} (hlen : 0 ≤ len) : ∀ {r r' : List Int} {a n n' z : Int}, r.length = r'.length → 0 ≤ n → 0 ≤ n' → Chain cls P len r a n z → Chain cls P len r' a n' z → n = n' ∧ r.map (rd cls) = r'.map (rd cls)
  | [], [], _, _, _, _, _, _, _, h, k => ⟨Eq.trans h (Eq.symm k), rfl⟩
  | [], _ :: _, _, _, _, _, e, _, _, _, _ => by simp at e
  | _ :: _, [], _, _, _, _, e, _, _, _, _ => by simp at e
  | q :: r, q' :: r', a, n, n', z, e, h0, h1, ⟨m, h⟩, ⟨m', k⟩ => by
    obtain ⟨e1, e2⟩ := Chain.back hlen (by simpa using e) (by omega) (by omega) h k
    have e3 := num1_inj m m' (by omega)
    rw [Prod.mk.injEq] at e3
    have e4 : n * (len + 1) = n' * (len + 1) := by omega
    exact ⟨Int.eq_of_mul_eq_mul_right (by omega) e4, by rw [List.map_cons, List.map_cons, e3.2, e2]⟩
/-- A list of small classes. -/
def Sm (cls : List Int) : Prop := ∀ x ∈ cls, 0 ≤ x ∧ x ≤ 1000
theorem Sm.bd {cls : List Int} (h : Sm cls) (q : Int) : 0 ≤ rd cls q ∧ rd cls q ≤ 1000 := by
  unfold rd
  rw [List.getD_eq_getElem?_getD]
  by_cases c : q.toNat < cls.length
  · rw [List.getElem?_eq_getElem c]; exact h _ (List.getElem_mem c)
  · rw [List.getElem?_eq_none (by omega)]; simp
theorem mul_bd {n len : Int} (h0 : 0 ≤ n) (h1 : n ≤ 100000) (h2 : 0 ≤ len) (h3 : len ≤ 64) : 0 ≤ n * (len + 1) ∧ n * (len + 1) ≤ 6500000 := by
  refine ⟨Int.mul_nonneg h0 (by omega), ?_⟩
  have := Int.mul_le_mul h1 (show len + 1 ≤ 65 by omega) (by omega) (by omega : (0 : Int) ≤ 100000)
  omega
theorem nm_len {α : Type} [DecidableEq α] (ms : List α) (x : α) : (nm ms x).length ≤ ms.length + 1 ∧ ms.length ≤ (nm ms x).length := by
  unfold nm; split
  · omega
  · simp
theorem srow {cls : List Int} (hc : Sm cls) {len : Int} (h2 : 0 ≤ len) (h3 : len ≤ 64) : ∀ (r : List Int) (a n : Int) (ps : List (Int × Int)), (∀ q ∈ r, 0 ≤ q ∧ q < (cls.length : Int)) → 0 ≤ a → a + r.length ≤ 64 → 0 ≤ n → n ≤ 100000 → ps.length + r.length ≤ 100000 →
    ∃ (z : Int) (t : List (Int × Int)), canon_split.row cls len r a n ps = some (z, ps ++ t) ∧ t.length ≤ r.length ∧ 0 ≤ z ∧ z ≤ 100000 ∧ Chain cls (ps ++ t) len r a n z
  | [], a, n, ps, _, _, _, h0, h1, _ => ⟨n, [], by simp [canon_split.row], Nat.le_refl _, h0, h1, rfl⟩
  | q :: r, a, n, ps, hq, ha, har, h0, h1, hp => by
    have q1 := hq q (by simp)
    have m := mul_bd h0 h1 h2 h3
    have c := hc.bd q
    rw [List.length_cons] at hp har
    rw [canon_split.row, if_pos q1.1, if_pos q1.2, if_pos (wf_small c.1 (by omega)), if_pos (by omega)]
    have e : wrap64 (wrap64 (n * wrap64 (len + 1)) + a) = n * (len + 1) + a := by
      rw [show wrap64 (len + 1) = len + 1 from by unfold wrap64; omega]
      rw [show wrap64 (n * (len + 1)) = n * (len + 1) from by generalize n * (len + 1) = y at m; unfold wrap64; omega]
      generalize n * (len + 1) = y at m; unfold wrap64; omega
    have e' : wrap64 (a + 1) = a + 1 := by unfold wrap64; omega
    rw [e, e', show names1 ps (n * (len + 1) + a, rd cls q) = nm ps (n * (len + 1) + a, rd cls q) from rfl]
    generalize hp' : (n * (len + 1) + a, rd cls q) = p
    obtain ⟨t0, ht0⟩ := nm_pre ps p
    have l1 := nm_len ps p
    have hm : p ∈ nm ps p := nm_mem.2 (.inr rfl)
    have lt := num1_lt hm
    obtain ⟨z, t, h, ht, z0, z1, ch⟩ := srow hc h2 h3 r (a + 1) ((num1 (nm ps p) p : Nat) : Int) (nm ps p) (fun x hx => hq x (by simp [hx])) (by omega) (by omega) (by omega) (by omega) (by omega)
    have l2 : t0.length ≤ 1 := by have := congrArg List.length ht0; rw [List.length_append] at this; omega
    rw [ht0, List.append_assoc] at h ch
    rw [ht0]
    refine ⟨z, t0 ++ t, h, by rw [List.length_append, List.length_cons]; omega, z0, z1, ?_⟩
    rw [ht0] at hm
    unfold Chain
    rw [hp']
    refine ⟨by rw [← List.append_assoc]; exact List.mem_append_left _ hm, ?_⟩
    have e5 : num1 (ps ++ (t0 ++ t)) p = num1 (ps ++ t0) p := by rw [← List.append_assoc, num1_pre hm]
    rw [e5]; exact ch
theorem sgo {cls : List Int} (hc : Sm cls) : ∀ (l : List (List Int)) (j : Nat) (xs : List Int) (ps : List (Int × Int)), (∀ r ∈ l, r.length ≤ 64 ∧ ∀ q ∈ r, 0 ≤ q ∧ q < (cls.length : Int)) → j + l.length ≤ cls.length → xs.length = cls.length → ps.length + 64 * l.length ≤ 100000 →
    ∃ (ys : List Int) (t : List (Int × Int)), canon_split.go cls l j xs ps = some ys ∧ ys.length = xs.length ∧ (∀ i, i < j → ys.getD i 0 = xs.getD i 0) ∧ (∀ i (h : i < l.length), 0 ≤ ys.getD (j + i) 0 ∧ ys.getD (j + i) 0 ≤ 100000 ∧ Chain cls (ps ++ t) (l[i].length : Int) l[i] 0 (rd cls ((j + i : Nat) : Int)) (ys.getD (j + i) 0))
  | [], j, xs, ps, _, _, _, _ => ⟨xs, [], rfl, rfl, fun _ _ => rfl, fun i h => absurd h (by simp)⟩
  | r :: l, j, xs, ps, hr, hj, hx, hp => by
    have r1 := hr r (by simp)
    rw [List.length_cons] at hj hp
    have c := hc.bd (j : Int)
    obtain ⟨z, t0, h0, ht, z0, z1, ch⟩ := srow hc (len := (r.length : Int)) (by omega) (by omega) r 0 (rd cls (j : Int)) ps r1.2 (by omega) (by omega) c.1 (by omega) (by omega)
    obtain ⟨ys, t, h, hl, hlo, hhi⟩ := sgo hc l (j + 1) (xs.set j z) (ps ++ t0) (fun x h => hr x (by simp [h])) (by omega) (by rw [List.length_set, hx]) (by rw [List.length_append]; omega)
    refine ⟨ys, t0 ++ t, ?_, by rw [hl, List.length_set], fun i hi => ?_, fun i hi => ?_⟩
    · rw [canon_split.go, if_pos (by omega), h0, Option.bind_some]; exact h
    · rw [hlo i (by omega), List.getD_eq_getElem?_getD, List.getElem?_set_ne (by omega), ← List.getD_eq_getElem?_getD]
    · cases i with
      | zero =>
        have e : ys.getD j 0 = z := by
          rw [hlo j (by omega), List.getD_eq_getElem?_getD, List.getElem?_set_self (by omega)]; rfl
        show 0 ≤ ys.getD j 0 ∧ ys.getD j 0 ≤ 100000 ∧ Chain cls (ps ++ (t0 ++ t)) (r.length : Int) r 0 (rd cls (j : Int)) (ys.getD j 0)
        rw [e, ← List.append_assoc]
        exact ⟨z0, z1, ch.more⟩
      | succ i =>
        have := hhi i (by simpa using hi)
        rw [show j + 1 + i = j + (i + 1) by omega, List.append_assoc] at this
        exact this
theorem split_ev {n L : Nat} {nx : List (List Int)} {bc : List Bool} (R : Mk bc nx L) (en : n = bc.length) (ns : List ByteArray) (ac : List Bool) {cls : List Int} (hl : cls.length = n) (hc : Sm cls) :
    ∃ out : List Int, canon_split.f ns ac nx cls = some (out, ((dd out).length : Int)) ∧ out.length = n ∧ (∀ x ∈ out, 0 ≤ x ∧ x < (n : Int)) ∧
      ∀ p q (hp : p < n) (hq : q < n), out.getD p 0 = out.getD q 0 ↔ (cls.getD p 0 = cls.getD q 0 ∧ ∀ a, a < L → rd cls ((nx.getD p []).getD a 0) = rd cls ((nx.getD q []).getD a 0)) := by
  subst en
  have hn := R.n2
  have hnl := R.len
  obtain ⟨ys, t, h, yl, _, hy⟩ := sgo hc nx 0 (List.replicate cls.length 0) [] (fun r hr => ⟨by rw [(R.rows r hr).1]; exact R.l2, by rw [hl]; exact (R.rows r hr).2⟩) (by omega) (by simp) (by simp; omega)
  rw [List.length_replicate, hl] at yl
  have yw : ∀ x ∈ ys, 0 ≤ x ∧ x ≤ 100000 := by
    intro x hx
    obtain ⟨i, hi, rfl⟩ := List.mem_iff_getElem.1 hx
    have := hy i (by omega)
    rw [Nat.zero_add, List.getD_eq_getElem?_getD, List.getElem?_eq_getElem hi] at this
    exact ⟨this.1, this.2.1⟩
  have D := dense_ev (l := ys) (by omega) (fun x hx => wf_small (yw x hx).1 (by have := (yw x hx).2; omega))
  have inj : ∀ x ∈ ys, ∀ y ∈ ys, (((dd ys).idxOf x : Nat) : Int) = (((dd ys).idxOf y : Nat) : Int) → x = y := fun x hx y hy' e => idx_inj (dd_mem.2 hx) (dd_mem.2 hy') (by omega)
  have dl := dd_len ys
  refine ⟨ys.map (fun x => (((dd ys).idxOf x : Nat) : Int)), ?_, by simp [yl], fun x hx => ?_, fun p q hp hq => ?_⟩
  · rw [dd_map _ _ inj, List.length_map]
    unfold canon_split.f
    rw [if_pos (by omega), h, Option.bind_some, D]
  · obtain ⟨y, hy1, rfl⟩ := List.mem_map.1 hx
    have := List.idxOf_lt_length_of_mem (dd_mem.2 hy1)
    omega
  · have gp : ∀ p, p < bc.length → (ys.map (fun x => (((dd ys).idxOf x : Nat) : Int))).getD p 0 = (((dd ys).idxOf (ys.getD p 0) : Nat) : Int) := by
      intro p hp
      have c : p < ys.length := by omega
      rw [List.getD_eq_getElem?_getD, List.getElem?_map, List.getD_eq_getElem?_getD, List.getElem?_eq_getElem c]; rfl
    rw [gp p hp, gp q hq]
    have mem : ∀ p, p < bc.length → ys.getD p 0 ∈ ys := by
      intro p hp
      rw [List.getD_eq_getElem?_getD, List.getElem?_eq_getElem (by omega)]; exact List.getElem_mem _
    have rw_ : ∀ p (_ : p < bc.length), nx.getD p [] = nx[p]'(by omega) ∧ (nx.getD p []).length = L := by
      intro p hp
      rw [List.getD_eq_getElem?_getD, List.getElem?_eq_getElem (by omega)]
      exact ⟨rfl, (R.rows _ (List.getElem_mem _)).1⟩
    obtain ⟨ep, lp⟩ := rw_ p hp
    obtain ⟨eq, lq⟩ := rw_ q hq
    obtain ⟨_, _, cp⟩ := hy p (by omega)
    obtain ⟨_, _, cq⟩ := hy q (by omega)
    rw [Nat.zero_add, ← ep, lp] at cp
    rw [Nat.zero_add, ← eq, lq] at cq
    have rdn : ∀ i : Nat, rd cls (i : Int) = cls.getD i 0 := fun i => rd_nat cls i
    rw [rdn] at cp cq
    have bp := hc.bd (p : Int)
    have bq := hc.bd (q : Int)
    rw [rdn] at bp bq
    have maps : (nx.getD p []).map (rd cls) = (nx.getD q []).map (rd cls) ↔ ∀ a, a < L → rd cls ((nx.getD p []).getD a 0) = rd cls ((nx.getD q []).getD a 0) := by
      constructor
      · intro e a ha
        have := congrArg (fun l => l[a]?) e
        simp only [List.getElem?_map] at this
        have c1 : a < (nx.getD p []).length := by omega
        have c2 : a < (nx.getD q []).length := by omega
        generalize nx.getD p [] = u at *
        generalize nx.getD q [] = v at *
        rw [List.getElem?_eq_getElem c1, List.getElem?_eq_getElem c2] at this
        rw [List.getD_eq_getElem?_getD, List.getElem?_eq_getElem c1, List.getD_eq_getElem?_getD, List.getElem?_eq_getElem c2]
        simpa using this
      · intro e
        refine List.ext_getElem (by rw [List.length_map, List.length_map, lp, lq]) (fun a h1 h2 => ?_)
        rw [List.length_map, lp] at h1
        have := e a h1
        have c1 : a < (nx.getD p []).length := by omega
        have c2 : a < (nx.getD q []).length := by omega
        generalize nx.getD p [] = u at *
        generalize nx.getD q [] = v at *
        rw [List.getD_eq_getElem?_getD, List.getElem?_eq_getElem c1, List.getD_eq_getElem?_getD, List.getElem?_eq_getElem c2] at this
        simpa using this
    constructor
    · intro e
      have e1 := inj _ (mem p hp) _ (mem q hq) e
      rw [e1] at cp
      obtain ⟨a1, a2⟩ := Chain.back (by omega) (by omega) bp.1 bq.1 cp cq
      exact ⟨a1, maps.1 a2⟩
    · rintro ⟨a1, a2⟩
      rw [a1] at cp
      rw [Chain.same (maps.2 a2) cp cq]
end Go.Proofs.Ytbpeloobnjbgkaa.Pure
namespace Go.Proofs.Ytbpeloobnjbgkaa.Pure
open Go.RowKit Go.Proofs.YtbpeloobnjbgkaaW.PrintWords Go.Proofs.YtbpeloobnjbgkaaW.PrintLast Go.Proofs.YtbpeloobnjbgkaaW.PrintMore Go.Proofs.Ytbpeloobnjbgkaa.X
set_option linter.unusedVariables false
/-- Labels of the states: alike just where r holds. -/
structure Lab (r : Nat → Nat → Prop) (n : Nat) (l : List Int) : Prop where
  len : l.length = n
  sm : Sm l
  iff : ∀ p q, p < n → q < n → (l.getD p 0 = l.getD q 0 ↔ r p q)
theorem gD {l : List Int} {p : Nat} (h : p < l.length) : l.getD p 0 = l[p] := by simp [List.getD_eq_getElem?_getD, h]
theorem gD_set {l : List Int} {i p : Nat} {v : Int} (h : i < l.length) : (l.set i v).getD p 0 = if p = i then v else l.getD p 0 := by
  by_cases c : p = i
  · subst c
    rw [if_pos rfl, List.getD_eq_getElem?_getD, List.getElem?_set_self h]; rfl
  · rw [if_neg c, List.getD_eq_getElem?_getD, List.getElem?_set_ne (by omega), ← List.getD_eq_getElem?_getD]
theorem Lab.finer {r s : Nat → Nat → Prop} {n : Nat} {l l' : List Int} (h : Lab r n l) (k : Lab s n l') (f : ∀ p q, p < n → q < n → s p q → r p q) :
    (dd l).length ≤ (dd l').length ∧ ((dd l).length = (dd l').length → ∀ p q, p < n → q < n → r p q → s p q) := by
  have hl : l.length = l'.length := h.len.trans k.len.symm
  obtain ⟨a, b⟩ := Pure.finer (m := l) (m' := l') hl (fun p q hp hq e => by
    have hp' := h.len ▸ hp
    have hq' := h.len ▸ hq
    rw [← gD, ← gD, k.iff p q hp' hq'] at e
    rw [← gD hp, ← gD hq, h.iff p q hp' hq']
    exact f p q hp' hq' e)
  refine ⟨a, fun e p q hp hq x => ?_⟩
  have hp' : p < l.length := by rw [h.len]; exact hp
  have hq' : q < l.length := by rw [h.len]; exact hq
  have := b e p q hp' hq' (by rw [← gD hp', ← gD hq', h.iff p q hp hq]; exact x)
  rw [← gD, ← gD, k.iff p q hp hq] at this
  exact this
theorem Lab.pos {r : Nat → Nat → Prop} {n : Nat} {l : List Int} (h : Lab r n l) (h1 : 1 ≤ n) : 1 ≤ (dd l).length := by
  have m : l[0]'(by rw [h.len]; omega) ∈ dd l := dd_mem.2 (List.getElem_mem _)
  exact List.length_pos_of_mem m
section
variable {ac : List Bool} {nx : List (List Int)} {L : Nat}
theorem Mk.to (m : Mk ac nx L) {q a : Nat} (hq : q < ac.length) (ha : a < L) : dlF nx q a < ac.length := ((m.row hq).2 a ha).2
theorem split_lab (m : Mk ac nx L) (ns : List ByteArray) {i : Nat} {cls : List Int} (h : Lab (RR (acF ac) (dlF nx) L i) ac.length cls) :
    ∃ out, canon_split.f ns ac nx cls = some (out, ((dd out).length : Int)) ∧ Lab (RR (acF ac) (dlF nx) L (i + 1)) ac.length out := by
  obtain ⟨out, e, l, b, h2⟩ := split_ev m rfl ns ac h.len h.sm
  refine ⟨out, e, l, fun x hx => ⟨(b x hx).1, by have := (b x hx).2; have := m.n2; omega⟩, fun p q hp hq => ?_⟩
  rw [h2 p q hp hq, h.iff p q hp hq]
  have r : ∀ p a, rd cls ((nx.getD p []).getD a 0) = cls.getD (dlF nx p a) 0 := fun p a => by simp [rd, dlF]
  constructor
  · rintro ⟨h1, h3⟩
    refine ⟨h1, fun a ha => ?_⟩
    have := h3 a ha
    rw [r, r] at this
    exact (h.iff _ _ (m.to hp ha) (m.to hq ha)).1 this
  · rintro ⟨h1, h3⟩
    refine ⟨h1, fun a ha => ?_⟩
    rw [r, r]
    exact (h.iff _ _ (m.to hp ha) (m.to hq ha)).2 (h3 a ha)
theorem cl1 (m : Mk ac nx L) (ns : List ByteArray) : ∀ (d i : Nat) (cls : List Int), Lab (RR (acF ac) (dlF nx) L i) ac.length cls → 257 ≤ (dd cls).length + d →
    ∃ out, Lab (EE (acF ac) (dlF nx) L) ac.length out ∧ Ev (fun k => canon_classes.l1 k cls ((dd cls).length : Int) ns ac nx) out := by
  intro d
  induction d with
  | zero =>
    intro i cls h hd
    have := dd_len cls
    have := h.len
    have := m.n2
    omega
  | succ d ih =>
    intro i cls h hd
    obtain ⟨out, e, hL⟩ := split_lab m ns h
    have f := h.finer hL (fun p q _ _ x => x.1)
    by_cases c : ((dd out).length : Int) = ((dd cls).length : Int)
    · have st := f.2 (by omega)
      refine ⟨out, ⟨hL.len, hL.sm, fun p q hp hq => ?_⟩, Ev.step (fun k => by rw [canon_classes.l1]) (Ev.ret e (Ev.cond c (Ev.fin rfl)))⟩
      rw [hL.iff p q hp hq]
      exact ⟨fun x => EE.of_stays (fun q hq a ha => m.to hq ha) st hp hq x.1, fun x => x _⟩
    · obtain ⟨o, hE, hev⟩ := ih (i + 1) out hL (by have := f.1; omega)
      exact ⟨o, hE, Ev.step (fun k => by rw [canon_classes.l1]) (Ev.ret e (Ev.ncond c hev))⟩
theorem cl0 (m : Mk ac nx L) (ns : List ByteArray) : ∀ (d i : Nat) (x : List Int), i + d = ac.length → x.length = ac.length → (∀ p, p < ac.length → x.getD p 0 = if p < i ∧ acF ac p = true then 1 else 0) →
    ∃ out, Lab (EE (acF ac) (dlF nx) L) ac.length out ∧ Ev (fun k => canon_classes.l0 k x ac (ac.length : Int) (i : Int) ns ac nx) out := by
  have n2 := m.n2
  intro d
  induction d with
  | zero =>
    intro i x hi hx h
    have hL : Lab (RR (acF ac) (dlF nx) L 0) ac.length x := by
      refine ⟨hx, fun y hy => ?_, fun p q hp hq => ?_⟩
      · obtain ⟨p, hp, rfl⟩ := List.mem_iff_getElem.1 hy
        rw [← gD hp, h p (by omega)]
        split <;> omega
      · rw [h p hp, h q hq]
        show _ ↔ acF ac p = acF ac q
        cases acF ac p <;> cases acF ac q <;> simp <;> omega
    obtain ⟨out, e, hL2⟩ := split_lab m ns hL
    have := hL2.pos m.n1
    have := dd_len out
    obtain ⟨o, hE, hev⟩ := cl1 m ns 257 1 out hL2 (by omega)
    exact ⟨o, hE, Ev.step (fun k => by rw [canon_classes.l0]) (Ev.ncond (by omega) (Ev.step (fun k => by rw [canon_classes.l1]) (Ev.ret e (Ev.ncond (show ¬ ((dd out).length : Int) = 0 by omega) hev))))⟩
  | succ d ih =>
    intro i x hi hx h
    have ii : i < ac.length := by omega
    have wi : wrap64 ((i : Int) + 1) = ((i + 1 : Nat) : Int) := by rw [w64 (by omega) (by omega)]; omega
    by_cases c : rdOf false ac (i : Int) = true
    · obtain ⟨o, hE, hev⟩ := ih (i + 1) (x.set i 1) (by omega) (by rw [List.length_set, hx]) (fun p hp => by
        rw [gD_set (by omega), h p hp]
        rw [m.acc ii] at c
        by_cases e : p = i
        · subst e; rw [if_pos rfl, if_pos ⟨by omega, c⟩]
        · rw [if_neg e]
          by_cases e2 : p < i ∧ acF ac p = true
          · rw [if_pos e2, if_pos ⟨by omega, e2.2⟩]
          · rw [if_neg e2, if_neg (fun z => e2 ⟨by omega, z.2⟩)])
      refine ⟨o, hE, Ev.step (fun k => by rw [canon_classes.l0]) (Ev.cond (by omega) (Ev.cond (by omega) (Ev.cond (by omega) (Ev.cond c (Ev.cond (by omega) ?_)))))⟩
      rw [wi, Int.toNat_natCast]; exact hev
    · obtain ⟨o, hE, hev⟩ := ih (i + 1) x (by omega) hx (fun p hp => by
        rw [h p hp]
        rw [m.acc ii] at c
        by_cases e2 : p < i ∧ acF ac p = true
        · rw [if_pos e2, if_pos ⟨by omega, e2.2⟩]
        · rw [if_neg e2, if_neg (fun z => by
            by_cases e : p = i
            · subst e; exact c z.2
            · exact e2 ⟨by omega, z.2⟩)])
      refine ⟨o, hE, Ev.step (fun k => by rw [canon_classes.l0]) (Ev.cond (by omega) (Ev.cond (by omega) (Ev.cond (by omega) (Ev.ncond c ?_))))⟩
      rw [wi]; exact hev
theorem classes_ev (m : Mk ac nx L) (ns : List ByteArray) : ∃ out, Lab (EE (acF ac) (dlF nx) L) ac.length out ∧ Ev (fun k => canon_classes.f k ns ac nx) out := by
  have n2 := m.n2
  obtain ⟨o, hE, hev⟩ := cl0 m ns ac.length 0 (List.replicate ac.length 0) (by omega) (by simp) (fun p hp => by
    rw [if_neg (fun z => absurd z.1 (by omega)), gD (by simpa using hp), List.getElem_replicate])
  refine ⟨o, hE, Ev.congr (fun k => by rw [canon_classes.f]) (Ev.cond (by omega) (Ev.cond (by omega) ?_))⟩
  rw [Int.toNat_natCast]; exact hev
theorem index_ev {l : List Int} (hl : l.length ≤ 9000000000000000000) {q : Nat} (hq : q < l.length) : ∃ p : Nat, p ≤ q ∧ l.getD p 0 = l.getD q 0 ∧ (∀ p', p' < p → ¬ l.getD p' 0 = l.getD q 0) ∧ Ev (fun k => slices_Index_int_int.f k l (l.getD q 0)) (p : Int) := by
  have key : ∀ (d i : Nat), i + d = q → (∀ p', p' < i → ¬ l.getD p' 0 = l.getD q 0) → ∃ p : Nat, p ≤ q ∧ l.getD p 0 = l.getD q 0 ∧ (∀ p', p' < p → ¬ l.getD p' 0 = l.getD q 0) ∧ Ev (fun k => slices_Index_int_int.l0 k l (l.getD q 0) (l.length : Int) (i : Int)) (p : Int) := by
    intro d
    induction d with
    | zero =>
      intro i hi h
      have e : i = q := by omega
      subst e
      refine ⟨i, Nat.le_refl _, rfl, h, Ev.step (fun k => by rw [slices_Index_int_int.l0]) (Ev.cond (by omega) (Ev.cond (by omega) (Ev.cond (by omega) (Ev.cond ?_ (Ev.fin rfl)))))⟩
      rw [rd_nat]
    | succ d ih =>
      intro i hi h
      by_cases c : l.getD i 0 = l.getD q 0
      · refine ⟨i, by omega, c, h, Ev.step (fun k => by rw [slices_Index_int_int.l0]) (Ev.cond (by omega) (Ev.cond (by omega) (Ev.cond (by omega) (Ev.cond ?_ (Ev.fin rfl)))))⟩
        rw [rd_nat, c]
      · obtain ⟨p, h1, h2, h3, h4⟩ := ih (i + 1) (by omega) (fun p' hp' => by
          by_cases e : p' = i
          · subst e; exact c
          · exact h p' (by omega))
        refine ⟨p, h1, h2, h3, Ev.step (fun k => by rw [slices_Index_int_int.l0]) (Ev.cond (by omega) (Ev.cond (by omega) (Ev.cond (by omega) (Ev.ncond ?_ ?_))))⟩
        · rw [rd_nat]; exact fun e => c e.symm
        · rw [w64 (by omega) (by omega)]; exact h4
  obtain ⟨p, h1, h2, h3, h4⟩ := key q 0 (by omega) (fun p' h => absurd h (by omega))
  exact ⟨p, h1, h2, h3, Ev.congr (fun k => by rw [slices_Index_int_int.f]; rfl) h4⟩
/-- What is right of a list of least ones so far. -/
def LeastTo (r : Nat → Nat → Prop) (i : Nat) (l : List Int) : Prop := ∀ q, q < i → ∃ p : Nat, l.getD q 0 = (p : Int) ∧ p ≤ q ∧ r p q ∧ ∀ p', p' < p → ¬ r p' q
theorem Classes_ok {ns : List ByteArray} (hs : SZ ns) (hr : RZ nx) (d : DOk ns ac nx) (m : Mk ac nx L) : ∃ l, Least (EE (acF ac) (dlF nx) L) ac.length l ∧ Ev (fun k => canon_Classes.f k ns ac nx) (l, 0) := by
  have n2 := m.n2
  obtain ⟨c, hE, hev⟩ := classes_ev m ns
  have hc := hE.len
  have key : ∀ (e i : Nat) (x : List Int), i + e = ac.length → x.length = ac.length → LeastTo (EE (acF ac) (dlF nx) L) i x → ∃ l, Least (EE (acF ac) (dlF nx) L) ac.length l ∧ Ev (fun k => canon_Classes.l0 k c x c (c.length : Int) (i : Int)) (l, 0) := by
    intro e
    induction e with
    | zero =>
      intro i x hi hx h
      have e : i = ac.length := by omega
      subst e
      exact ⟨x, ⟨hx, h⟩, Ev.step (fun k => by rw [canon_Classes.l0]) (Ev.ncond (by omega) (Ev.fin rfl))⟩
    | succ e ih =>
      intro i x hi hx h
      obtain ⟨p, h1, h2, h3, h4⟩ := index_ev (l := c) (by omega) (q := i) (by omega)
      obtain ⟨l, hl, hv⟩ := ih (i + 1) (x.set i (p : Int)) (by omega) (by rw [List.length_set, hx]) (fun q hq => by
        by_cases e : q = i
        · subst e
          refine ⟨p, by rw [gD_set (by omega), if_pos rfl], h1, (hE.iff p q (by omega) (by omega)).1 h2, fun p' hp' z => h3 p' hp' ((hE.iff p' q (by omega) (by omega)).2 z)⟩
        · obtain ⟨p2, g⟩ := h q (by omega)
          exact ⟨p2, by rw [gD_set (by omega), if_neg e]; exact g.1, g.2⟩)
      refine ⟨l, hl, Ev.step (fun k => by rw [canon_Classes.l0]) (Ev.cond (by omega) (Ev.cond (by omega) (Ev.cond (by omega) ?_)))⟩
      rw [rd_nat]
      refine Ev.bind h4 (Ev.cond (by omega) ?_)
      rw [w64 (by omega) (by omega), Int.toNat_natCast]; exact hv
  obtain ⟨l, hl, hv⟩ := key ac.length 0 (List.replicate c.length 0) (by omega) (by simp [hc]) (fun q hq => absurd hq (by omega))
  refine ⟨l, hl, Ev.congr (fun k => by rw [canon_Classes.f]) (Ev.bind (right_ok hs hr d) (Ev.cond rfl (Ev.bind hev ?_)))⟩
  refine Ev.cond (by omega) (Ev.cond (by omega) ?_)
  rw [Int.toNat_natCast]; exact hv
end
end Go.Proofs.Ytbpeloobnjbgkaa.Pure
namespace Go.Proofs.Ytbpeloobnjbgkaa.Pure
open Go.RowKit Go.Proofs.YtbpeloobnjbgkaaW.PrintWords Go.Proofs.YtbpeloobnjbgkaaW.PrintLast Go.Proofs.YtbpeloobnjbgkaaW.PrintMore Go.Proofs.Ytbpeloobnjbgkaa.X
set_option linter.unusedVariables false
section
variable (acc : Nat → Bool) (δ : Nat → Nat → Nat) (L : Nat)
/-- Not told apart after so many rounds: at first nothing is. -/
def SS : Nat → Nat → Nat → Prop
  | 0, _, _ => True
  | i + 1, p, q => SS i p q ∧ acc p = acc q ∧ ∀ a, a < L → SS i (δ p a) (δ q a)
end
section
variable {acc : Nat → Bool} {δ : Nat → Nat → Nat} {L : Nat}
theorem SS.symm : ∀ {i p q : Nat}, SS acc δ L i p q → SS acc δ L i q p
  | 0, _, _, _ => trivial
  | _ + 1, _, _, h => ⟨SS.symm h.1, Eq.symm h.2.1, fun a ha => SS.symm (h.2.2 a ha)⟩
theorem SS.trans : ∀ {i p q r : Nat}, SS acc δ L i p q → SS acc δ L i q r → SS acc δ L i p r
  | 0, _, _, _, _, _ => trivial
  | _ + 1, _, _, _, h, k => ⟨SS.trans h.1 k.1, Eq.trans h.2.1 k.2.1, fun a ha => SS.trans (h.2.2 a ha) (k.2.2 a ha)⟩
theorem SS.stays {n : Nat} (hδ : ∀ q, q < n → ∀ a, a < L → δ q a < n) {i : Nat} (h : ∀ p q, p < n → q < n → SS acc δ L i p q → SS acc δ L (i + 1) p q) : ∀ (j p q : Nat), p < n → q < n → SS acc δ L i p q → SS acc δ L (i + j) p q := by
  intro j
  induction j with
  | zero => intro p q _ _ k; exact k
  | succ j ih => intro p q hp hq k; exact ⟨ih p q hp hq k, (h p q hp hq k).2.1, fun a ha => ih _ _ (hδ p hp a ha) (hδ q hq a ha) ((h p q hp hq k).2.2 a ha)⟩
theorem SS.down : ∀ {j i p q : Nat}, SS acc δ L (i + j) p q → SS acc δ L i p q
  | 0, _, _, _, h => h
  | _ + 1, _, _, _, h => SS.down h.1
end
section
variable {ac : List Bool} {nx : List (List Int)} {L : Nat}
end
end Go.Proofs.Ytbpeloobnjbgkaa.Pure
namespace Go.Proofs.Ytbpeloobnjbgkaa.Pure
open Go.RowKit Go.Proofs.YtbpeloobnjbgkaaW.PrintWords Go.Proofs.YtbpeloobnjbgkaaW.PrintLast Go.Proofs.YtbpeloobnjbgkaaW.PrintMore Go.Proofs.Ytbpeloobnjbgkaa.X
set_option linter.unusedVariables false
theorem copy_dense {ns : List ByteArray} {ac : List Bool} {nx : List (List Int)} (h0 : ns.length * 16 ≤ 140737488351232) (h1 : ac.length * 1 ≤ 140737488351232) (h2 : nx.length * 24 ≤ 140737488351232) (hq : ∀ r ∈ nx, r.length * 8 ≤ 140737488351232) :
    Ev (fun k => tabardref12_CopyDense.f k ns ac nx) (ns, ac, nx) := by
  refine Ev.congr (fun k => by rw [tabardref12_CopyDense.f]) ?_
  refine Ev.ret rfl ?_
  refine Ev.cond (by simp; omega) ?_
  refine Ev.ret rfl ?_
  refine Ev.cond (by simp; omega) ?_
  rw [List.nil_append, List.nil_append]
  have key : ∀ (m i : Nat), i + m = nx.length → Ev (fun k => tabardref12_CopyDense.l0 k (i : Int) ns ac nx ns ac (nx.take i)) (ns, ac, nx) := by
    intro m
    induction m with
    | zero =>
      intro i hi
      rw [List.take_of_length_le (by omega)]
      exact Ev.step (fun k => by rw [tabardref12_CopyDense.l0]) (Ev.ncond (by omega) (Ev.fin rfl))
    | succ m ih =>
      intro i hi
      have ii : i < nx.length := by omega
      have rl := hq _ (List.getElem_mem ii)
      refine Ev.step (fun k => by rw [tabardref12_CopyDense.l0]) (Ev.cond (by omega) ?_)
      refine Ev.ret rfl ?_
      rw [rdL_get nx ii, List.nil_append, w64 (by omega) (by omega)]
      refine Ev.cond (by omega) (Ev.cond (by simp; omega) (Ev.cond (by rw [List.length_take]; omega) ?_))
      have q := ih (i + 1) (by omega)
      rw [List.take_succ_eq_append_getElem ii] at q
      exact q
  exact key nx.length 0 (by omega)
theorem and3 {a b c : Prop} [Decidable a] [Decidable b] [Decidable c] : decide (a ∧ b ∧ c) = (decide a && (decide b && decide c)) := by
  by_cases a <;> by_cases b <;> by_cases c <;> simp [*]
theorem drop_rdL (a b : List (List Int)) {i : Nat} (h : i < a.length) (h' : i < b.length) : a.drop i = b.drop i ↔ rd_L1 a (i : Int) = rd_L1 b (i : Int) ∧ a.drop (i + 1) = b.drop (i + 1) := by
  rw [List.drop_eq_getElem_cons h, List.drop_eq_getElem_cons h', rdL_get a h, rdL_get b h', List.cons.injEq]
theorem same_dense {t0 u0 : List ByteArray} {t1 u1 : List Bool} {t2 u2 : List (List Int)} (h0 : t0.length ≤ 9000000000000000000) (h1 : t1.length ≤ 9000000000000000000) (h2 : t2.length ≤ 9000000000000000000) (h3 : ∀ r ∈ t2, r.length ≤ 9000000000000000000) :
    Ev (fun k => tabardref12_SameDense.f k t0 t1 t2 u0 u1 u2) (decide (t0 = u0 ∧ t1 = u1 ∧ t2 = u2)) := by
  rw [and3]
  have no : ∀ {x : Bool}, x = false → Ev (fun k => tabardref12_SameDense.j0 k true t0 t1 t2 u0 u1 u2) x := fun e => e ▸ Ev.step (fun k => by rw [tabardref12_SameDense.j0]) (Ev.cond rfl (Ev.fin rfl))
  refine Ev.congr (fun k => by rw [tabardref12_SameDense.f]) (Ev.bind (texts_ev t0 u0 h0) ?_)
  by_cases c0 : t0 = u0
  · rw [decide_eq_true c0]
    refine Ev.cond rfl (Ev.bind (flags_ev t1 u1 h1) ?_)
    by_cases c1 : t1 = u1
    · rw [decide_eq_true c1]
      refine Ev.cond rfl ?_
      by_cases c3 : t2.length = u2.length
      · rw [show ((t2.length : Int) != (u2.length : Int)) = false by simp [c3]]
        refine Ev.step (fun k => by rw [tabardref12_SameDense.j0]) (Ev.ncond (by decide) ?_)
        have key : ∀ (m i : Nat), i + m = t2.length → Ev (fun k => tabardref12_SameDense.l0 k (i : Int) t0 t1 t2 u0 u1 u2) (decide (t2.drop i = u2.drop i)) := by
          intro m
          induction m with
          | zero =>
            intro i hi
            refine Ev.step (fun k => by rw [tabardref12_SameDense.l0]) (Ev.ncond (by omega) (Ev.fin ?_))
            rw [List.drop_eq_nil_of_le (by omega), List.drop_eq_nil_of_le (by omega)]; exact (decide_eq_true rfl).symm
          | succ m ih =>
            intro i hi
            have ii : i < t2.length := by omega
            have e := drop_rdL t2 u2 ii (by omega)
            have hr : (rd_L1 t2 (i : Int)).length ≤ 9000000000000000000 := by rw [rdL_get t2 ii]; exact h3 _ (List.getElem_mem _)
            refine Ev.step (fun k => by rw [tabardref12_SameDense.l0]) (Ev.cond (by omega) (Ev.cond (by omega) (Ev.cond (by omega) (Ev.bind (rints_ev _ _ hr) ?_))))
            by_cases c : rd_L1 t2 (i : Int) = rd_L1 u2 (i : Int)
            · rw [decide_eq_true c]
              refine Ev.cond rfl ?_
              rw [w64 (by omega) (by omega)]
              have := ih (i + 1) (by omega)
              rwa [decide_eq_decide.2 (e.trans (and_iff_right c))]
            · rw [decide_eq_false c]
              refine Ev.ncond (by decide) (Ev.fin ?_)
              exact (decide_eq_false (fun z => c (e.1 z).1)).symm
        exact key t2.length 0 (by omega)
      · rw [show ((t2.length : Int) != (u2.length : Int)) = true from bne_iff_ne.2 (by omega), decide_eq_false (show ¬ t2 = u2 from fun e => c3 (by rw [e]))]
        exact no rfl
    · rw [decide_eq_false c1]; exact Ev.ncond (by decide) (no rfl)
  · rw [decide_eq_false c0]; exact Ev.ncond (by decide) (no rfl)
theorem fixed13_ev : Ev (fun k => tabardlaw13_fixed.f k) true := Ev.of tabardlaw13_fixed.mono (show tabardlaw13_fixed.f 40 = some true by decide +kernel)
theorem DOk.mk' {ns : List ByteArray} {ac : List Bool} {nx : List (List Int)} (d : DOk ns ac nx) : Mk ac nx (2 ^ ns.length) := by
  have := d.fr.tr
  have h := pow6 this
  exact ⟨d.ln, d.fr.n1, d.fr.n2, Nat.two_pow_pos _, h, d.rows⟩
end Go.Proofs.Ytbpeloobnjbgkaa.Pure
namespace Go.Proofs.Ytbpeloobnjbgkaa.Pure
open Go.RowKit Go.Proofs.YtbpeloobnjbgkaaW.PrintWords Go.Proofs.YtbpeloobnjbgkaaW.PrintLast Go.Proofs.YtbpeloobnjbgkaaW.PrintMore Go.Proofs.Ytbpeloobnjbgkaa.X
set_option linter.unusedVariables false
section
variable (f : Nat → Nat → Nat) (L : Nat)
def mid (ms : List Nat) (q : Nat) : Nat → List Nat
  | 0 => ms
  | a + 1 => nm (mid ms q a) (f q a)
def bf : Nat → List Nat
  | 0 => [0]
  | j + 1 => mid f (bf j) ((bf j).getD j 0) L
def qa (j : Nat) : Nat := (bf f L j).getD j 0
def rwn (j a : Nat) : Nat := num1 (bf f L (j + 1)) (f (qa f L j) a)
structure End (K : Nat) : Prop where
  pos : 1 ≤ K
  len : (bf f L K).length = K
  on : ∀ i, i < K → i < (bf f L i).length
end
section
variable {f : Nat → Nat → Nat} {L : Nat}
theorem mid_pre (ms : List Nat) (q : Nat) {a b : Nat} (h : a ≤ b) : ∃ t, mid f ms q b = mid f ms q a ++ t := by
  induction b with
  | zero => rw [Nat.le_zero.1 h]; exact ⟨[], by simp⟩
  | succ b ih =>
    by_cases c : a = b + 1
    · rw [c]; exact ⟨[], by simp⟩
    · obtain ⟨t, ht⟩ := ih (by omega)
      obtain ⟨u, hu⟩ := nm_pre (mid f ms q b) (f q b)
      exact ⟨t ++ u, by rw [mid, hu, ht, List.append_assoc]⟩
theorem bf_pre {i j : Nat} (h : i ≤ j) : ∃ t, bf f L j = bf f L i ++ t := by
  induction j with
  | zero => rw [Nat.le_zero.1 h]; exact ⟨[], by simp⟩
  | succ j ih =>
    by_cases c : i = j + 1
    · rw [c]; exact ⟨[], by simp⟩
    · obtain ⟨t, ht⟩ := ih (by omega)
      obtain ⟨u, hu⟩ := mid_pre (f := f) (bf f L j) ((bf f L j).getD j 0) (Nat.zero_le L)
      exact ⟨t ++ u, by rw [bf, hu, mid, ht, List.append_assoc]⟩
theorem mid_nodup {ms : List Nat} (h : ms.Nodup) (q : Nat) : ∀ a, (mid f ms q a).Nodup
  | 0 => h
  | a + 1 => nm_nodup (mid_nodup h q a) _
theorem bf_nodup : ∀ j, (bf f L j).Nodup
  | 0 => by simp [bf]
  | j + 1 => mid_nodup (bf_nodup j) _ _
theorem bf_lt {n : Nat} (n1 : 0 < n) (hf : ∀ q a, q < n → a < L → f q a < n) : ∀ j, ∀ x ∈ bf f L j, x < n := by
  intro j
  induction j with
  | zero => intro x hx; simp [bf] at hx; omega
  | succ j ih =>
    have q1 : (bf f L j).getD j 0 < n := by
      rw [List.getD_eq_getElem?_getD]
      by_cases c : j < (bf f L j).length
      · rw [List.getElem?_eq_getElem c]; exact ih _ (List.getElem_mem c)
      · rw [List.getElem?_eq_none (by omega)]; exact n1
    have key : ∀ a, a ≤ L → ∀ x ∈ mid f (bf f L j) ((bf f L j).getD j 0) a, x < n := by
      intro a
      induction a with
      | zero => intro _ x hx; exact ih x hx
      | succ a ih2 =>
        intro ha x hx
        rcases nm_mem.1 hx with h | h
        · exact ih2 (by omega) x h
        · rw [h]; exact hf _ _ q1 (by omega)
    exact key L (Nat.le_refl _)
theorem bf_len {n : Nat} (n1 : 0 < n) (hf : ∀ q a, q < n → a < L → f q a < n) (j : Nat) : (bf f L j).length ≤ n := by
  have := nodup_len (bf_nodup (f := f) (L := L) j) (T := List.range n) (fun x hx => List.mem_range.2 (bf_lt n1 hf j x hx))
  simpa using this
theorem bf_mono {i j : Nat} (h : i ≤ j) : (bf f L i).length ≤ (bf f L j).length := by
  obtain ⟨t, ht⟩ := bf_pre (f := f) (L := L) h
  rw [ht, List.length_append]; omega
theorem exists_end {n : Nat} (n1 : 0 < n) (hf : ∀ q a, q < n → a < L → f q a < n) : ∃ K, K ≤ n ∧ End f L K := by
  have key : ∀ (d i : Nat), i + d = n → (∀ i', i' < i → i' < (bf f L i').length) → ∃ K, K ≤ n ∧ End f L K := by
    intro d
    induction d with
    | zero =>
      intro i hi h
      have := bf_len n1 hf i
      refine ⟨i, by omega, by omega, ?_, h⟩
      have a := h (i - 1) (by omega)
      have b := bf_mono (f := f) (L := L) (show i - 1 ≤ i by omega)
      omega
    | succ d ih =>
      intro i hi h
      by_cases c : i < (bf f L i).length
      · exact ih (i + 1) (by omega) (fun i' hi' => by
          by_cases e : i' = i
          · subst e; exact c
          · exact h i' (by omega))
      · have i1 : 1 ≤ i := by
          rcases Nat.eq_zero_or_pos i with z | z
          · subst z; exact absurd (show 0 < (bf f L 0).length from by simp [bf]) c
          · exact z
        refine ⟨i, by omega, i1, ?_, h⟩
        have a := h (i - 1) (by omega)
        have b := bf_mono (f := f) (L := L) (show i - 1 ≤ i by omega)
        omega
  exact key n 0 (by omega) (fun i' h => absurd h (by omega))
theorem pre_getD {l m t : List Nat} (e : l = m ++ t) {j : Nat} (h : j < m.length) : l.getD j 0 = m.getD j 0 := by
  subst e
  rw [List.getD_eq_getElem?_getD, List.getElem?_append_left h, ← List.getD_eq_getElem?_getD]
theorem End.at_ {K : Nat} (E : End f L K) {i j : Nat} (h : j < K) (hi : j ≤ i) (hK : i ≤ K) : (bf f L i).getD j 0 = qa f L j := by
  obtain ⟨t, ht⟩ := bf_pre (f := f) (L := L) hi
  exact pre_getD ht (E.on j h)
theorem mem_mid (ms : List Nat) (q : Nat) {a b : Nat} (h : a < b) : f q a ∈ mid f ms q b := by
  obtain ⟨t, ht⟩ := mid_pre (f := f) ms q (show a + 1 ≤ b from h)
  rw [ht]
  exact List.mem_append_left _ (nm_mem.2 (.inr rfl))
theorem mem_next {j a : Nat} (h : a < L) : f (qa f L j) a ∈ bf f L (j + 1) := mem_mid (f := f) (bf f L j) (qa f L j) h
theorem End.mem {K : Nat} (E : End f L K) {j a : Nat} (hj : j < K) (h : a < L) : f (qa f L j) a ∈ bf f L K := by
  obtain ⟨t, ht⟩ := bf_pre (f := f) (L := L) (show j + 1 ≤ K from hj)
  rw [ht]; exact List.mem_append_left _ (mem_next h)
theorem End.num {K : Nat} (E : End f L K) {j a : Nat} (hj : j < K) (h : a < L) : rwn f L j a = num1 (bf f L K) (f (qa f L j) a) := by
  obtain ⟨t, ht⟩ := bf_pre (f := f) (L := L) (show j + 1 ≤ K from hj)
  rw [ht, num1_pre (mem_next h)]; rfl
theorem End.num_lt {K : Nat} (E : End f L K) {j a : Nat} (hj : j < K) (h : a < L) : rwn f L j a < K := by
  rw [E.num hj h]
  have := num1_lt (E.mem hj h)
  rwa [E.len] at this
theorem num1_at {α : Type} [DecidableEq α] {ms : List α} {x : α} (h : x ∈ ms) : ms[num1 ms x]'(num1_lt h) = x := List.getElem_idxOf (num1_lt h)
theorem End.qa_mem {K : Nat} (E : End f L K) {j : Nat} (hj : j < K) : qa f L j ∈ bf f L K := by
  have := E.at_ hj (Nat.le_of_lt hj) (Nat.le_refl _)
  rw [List.getD_eq_getElem?_getD, List.getElem?_eq_getElem (by rw [E.len]; exact hj)] at this
  rw [← this]; exact List.getElem_mem _
theorem End.back {K : Nat} (E : End f L K) {j a : Nat} (hj : j < K) (h : a < L) : qa f L (rwn f L j a) = f (qa f L j) a := by
  have m := E.mem hj h
  have e := num1_at m
  have lt := E.num_lt hj h
  rw [← E.at_ lt (Nat.le_of_lt lt) (Nat.le_refl _), List.getD_eq_getElem?_getD, List.getElem?_eq_getElem (by rw [E.len]; exact lt)]
  show (bf f L K)[rwn f L j a]'_ = _
  simp only [E.num hj h]
  exact e
/-- Each state of the list is led to. -/
theorem bf_led : ∀ j, ∀ x ∈ bf f L j, x = 0 ∨ ∃ i a, i < j ∧ a < L ∧ x = f (qa f L i) a := by
  intro j
  induction j with
  | zero => intro x hx; simp [bf] at hx; exact .inl hx
  | succ j ih =>
    have key : ∀ b, b ≤ L → ∀ x ∈ mid f (bf f L j) (qa f L j) b, x = 0 ∨ ∃ i a, i < j + 1 ∧ a < L ∧ x = f (qa f L i) a := by
      intro b
      induction b with
      | zero =>
        intro _ x hx
        rcases ih x hx with h | ⟨i, a, h1, h2, h3⟩
        · exact .inl h
        · exact .inr ⟨i, a, by omega, h2, h3⟩
      | succ b ih2 =>
        intro hb x hx
        rcases nm_mem.1 hx with h | h
        · exact ih2 (by omega) x h
        · exact .inr ⟨j, b, by omega, by omega, h⟩
    exact key L (Nat.le_refl _)
end
/-! ### Two at once -/
section
variable {f g : Nat → Nat → Nat} {L : Nat} {X : Nat → Nat → Prop}
/-- Two lists that go together. -/
structure Pair (X : Nat → Nat → Prop) (l m : List Nat) : Prop where
  len : l.length = m.length
  at_ : ∀ i, i < l.length → X (l.getD i 0) (m.getD i 0)
theorem Pair.snoc {l m : List Nat} (h : Pair X l m) {x y : Nat} (k : X x y) : Pair X (l ++ [x]) (m ++ [y]) := by
  refine ⟨by simp [h.len], fun i hi => ?_⟩
  rw [List.length_append, List.length_singleton] at hi
  by_cases c : i < l.length
  · rw [pre_getD rfl c, pre_getD rfl (by rw [← h.len]; exact c)]; exact h.at_ i c
  · have e : i = l.length := by omega
    subst e
    have e2 : (m ++ [y]).getD l.length 0 = y := by rw [h.len]; simp [List.getD_eq_getElem?_getD]
    rw [e2]
    simpa [List.getD_eq_getElem?_getD] using k
theorem Pair.mem {l m : List Nat} (h : Pair X l m) (u : ∀ p q y, X p y → X q y → p = q) (v : ∀ p y z, X p y → X p z → y = z) {x y : Nat} (k : X x y) : (x ∈ l ↔ y ∈ m) := by
  constructor
  · intro c
    obtain ⟨i, hi, e⟩ := List.mem_iff_getElem.1 c
    have := h.at_ i hi
    rw [List.getD_eq_getElem?_getD, List.getElem?_eq_getElem hi, Option.getD_some, e, List.getD_eq_getElem?_getD, List.getElem?_eq_getElem (by rw [← h.len]; exact hi), Option.getD_some] at this
    rw [v _ _ _ k this]; exact List.getElem_mem _
  · intro c
    obtain ⟨i, hi, e⟩ := List.mem_iff_getElem.1 c
    have hi' : i < l.length := by rw [h.len]; exact hi
    have := h.at_ i hi'
    rw [List.getD_eq_getElem?_getD, List.getElem?_eq_getElem hi', Option.getD_some, List.getD_eq_getElem?_getD, List.getElem?_eq_getElem hi, Option.getD_some, e] at this
    rw [u _ _ _ k this]; exact List.getElem_mem _
theorem Pair.num {l m : List Nat} (h : Pair X l m) (nl : l.Nodup) (u : ∀ p q y, X p y → X q y → p = q) (v : ∀ p y z, X p y → X p z → y = z) {x y : Nat} (k : X x y) (c : x ∈ l) : num1 l x = num1 m y := by
  have lt := num1_lt c
  have cm := (h.mem u v k).1 c
  have lt2 := num1_lt cm
  have e := num1_at c
  have e2 := num1_at cm
  have a := h.at_ (num1 m y) (by rw [h.len]; exact lt2)
  rw [List.getD_eq_getElem?_getD, List.getElem?_eq_getElem (by rw [h.len]; exact lt2), Option.getD_some, List.getD_eq_getElem?_getD, List.getElem?_eq_getElem lt2, Option.getD_some, e2] at a
  have s := u _ _ _ k a
  rw [s]
  exact nl.idxOf_getElem _ _
theorem pair_mid {l m : List Nat} (h : Pair X l m) (u : ∀ p q y, X p y → X q y → p = q) (v : ∀ p y z, X p y → X p z → y = z) (s : ∀ p y a, X p y → a < L → X (f p a) (g y a)) {q r : Nat} (k : X q r) : ∀ a, a ≤ L → Pair X (mid f l q a) (mid g m r a)
  | 0, _ => h
  | a + 1, ha => by
    have p := pair_mid h u v s k a (by omega)
    have x := s q r a k (by omega)
    rw [mid, mid, nm, nm]
    by_cases c : f q a ∈ mid f l q a
    · rw [if_pos c, if_pos ((p.mem u v x).1 c)]; exact p
    · rw [if_neg c, if_neg (fun z => c ((p.mem u v x).2 z))]; exact p.snoc x
theorem pair_bf (u : ∀ p q y, X p y → X q y → p = q) (v : ∀ p y z, X p y → X p z → y = z) (s : ∀ p y a, X p y → a < L → X (f p a) (g y a)) (o : X 0 0) : ∀ {K : Nat}, (∀ i, i < K → i < (bf f L i).length) → ∀ j, j ≤ K → Pair X (bf f L j) (bf g L j) := by
  intro K on j
  induction j with
  | zero => intro _; exact ⟨rfl, fun i hi => by simp [bf] at hi ⊢; subst hi; exact o⟩
  | succ j ih =>
    intro hj
    have p := ih (by omega)
    exact pair_mid p u v s (p.at_ j (on j (by omega))) L (Nat.le_refl _)
theorem End.pair {K : Nat} (E : End f L K) (u : ∀ p q y, X p y → X q y → p = q) (v : ∀ p y z, X p y → X p z → y = z) (s : ∀ p y a, X p y → a < L → X (f p a) (g y a)) (o : X 0 0) :
    End g L K ∧ (∀ j, j < K → X (qa f L j) (qa g L j)) ∧ ∀ j a, j < K → a < L → rwn f L j a = rwn g L j a := by
  have P := fun j (hj : j ≤ K) => pair_bf (L := L) u v s o E.on j hj
  have at_ : ∀ j, j < K → X (qa f L j) (qa g L j) := fun j hj => (P j (by omega)).at_ j (E.on j hj)
  refine ⟨⟨E.pos, by rw [← (P K (Nat.le_refl _)).len]; exact E.len, fun i hi => by rw [← (P i (by omega)).len]; exact E.on i hi⟩, at_, fun j a hj ha => ?_⟩
  exact (P (j + 1) hj).num (bf_nodup _) u v (s _ _ a (at_ j hj) ha) (mem_next ha)
end
end Go.Proofs.Ytbpeloobnjbgkaa.Pure
namespace Go.Proofs.Ytbpeloobnjbgkaa.Pure
open Go.RowKit Go.Proofs.YtbpeloobnjbgkaaW.PrintWords Go.Proofs.YtbpeloobnjbgkaaW.PrintLast Go.Proofs.YtbpeloobnjbgkaaW.PrintMore Go.Proofs.Ytbpeloobnjbgkaa.X
set_option linter.unusedVariables false
def toZ (l : List Nat) : List Int := l.map (fun x : Nat => (x : Int))
theorem w_succ {a : Nat} (h : a ≤ 1000) : wrap64 ((a : Int) + 1) = ((a + 1 : Nat) : Int) := by unfold wrap64; omega
theorem toZ_len (l : List Nat) : (toZ l).length = l.length := by simp [toZ]
theorem toZ_at (l : List Nat) {j : Nat} (h : j < l.length) : rd (toZ l) (j : Int) = ((l.getD j 0 : Nat) : Int) := by
  rw [rd_nat]
  simp [toZ, List.getD_eq_getElem?_getD, h]
theorem toZ_snoc (l : List Nat) (x : Nat) : toZ l ++ [(x : Int)] = toZ (l ++ [x]) := by simp [toZ]
theorem num1_snoc {α : Type} [DecidableEq α] {ms : List α} {x : α} (h : ¬ x ∈ ms) : num1 (ms ++ [x]) x = ms.length := by rw [num1, List.idxOf_append, if_neg h]; simp
/-- The numbers of the states that have been met. -/
structure Num (n : Nat) (num : List Int) (ms : List Nat) : Prop where
  len : num.length = n
  at_ : ∀ x, x < n → num.getD x 0 = if x ∈ ms then ((num1 ms x : Nat) : Int) else -1
theorem Num.neg {n : Nat} {num : List Int} {ms : List Nat} (h : Num n num ms) {x : Nat} (hx : x < n) : rd num (x : Int) < 0 ↔ ¬ x ∈ ms := by
  rw [rd_nat, h.at_ x hx]
  split
  · exact ⟨fun z => absurd z (by omega), fun z => absurd ‹_› z⟩
  · exact ⟨fun _ => ‹_›, fun _ => by omega⟩
theorem Num.put {n : Nat} {num : List Int} {ms : List Nat} (h : Num n num ms) {x : Nat} (hx : x < n) (k : ¬ x ∈ ms) : Num n (num.set x (ms.length : Int)) (ms ++ [x]) := by
  refine ⟨by rw [List.length_set, h.len], fun y hy => ?_⟩
  rw [gD_set (by rw [h.len]; exact hx)]
  by_cases e : y = x
  · subst e
    rw [if_pos rfl, if_pos (by simp), num1_snoc k]
  · rw [if_neg e, h.at_ y hy]
    by_cases c : y ∈ ms
    · rw [if_pos c, if_pos (by simp [c]), num1_pre c]
    · rw [if_neg c, if_neg (by simp [c, e])]
def fC (cl : List Int) (nx : List (List Int)) (q a : Nat) : Nat := (cl.getD (dlF nx q a) 0).toNat
def acs (ac : List Bool) (f : Nat → Nat → Nat) (L K : Nat) : List Bool := (List.range K).map fun i => acF ac (qa f L i)
def rws (f : Nat → Nat → Nat) (L K : Nat) : List (List Int) := (List.range K).map fun i => (List.range L).map fun a => ((rwn f L i a : Nat) : Int)
theorem acs_succ (ac : List Bool) (f : Nat → Nat → Nat) (L K : Nat) : acs ac f L (K + 1) = acs ac f L K ++ [acF ac (qa f L K)] := by simp [acs, List.range_succ]
theorem rws_succ (f : Nat → Nat → Nat) (L K : Nat) : rws f L (K + 1) = rws f L K ++ [(List.range L).map fun a => ((rwn f L K a : Nat) : Int)] := by simp [rws, List.range_succ]
theorem acs_len (ac : List Bool) (f : Nat → Nat → Nat) (L K : Nat) : (acs ac f L K).length = K := by simp [acs]
theorem rws_len (f : Nat → Nat → Nat) (L K : Nat) : (rws f L K).length = K := by simp [rws]
theorem fill_set (g : Nat → Int) {a L : Nat} (h : a < L) : (((List.range a).map g ++ List.replicate (L - a) 0).set a (g a)) = (List.range (a + 1)).map g ++ List.replicate (L - (a + 1)) 0 := by
  obtain ⟨d, rfl⟩ : ∃ d, L = a + 1 + d := ⟨L - a - 1, by omega⟩
  rw [show a + 1 + d - a = d + 1 by omega, show a + 1 + d - (a + 1) = d by omega, List.replicate_succ, List.set_append_right _ _ (by simp), List.range_succ, List.map_append]
  simp
section
variable {ac : List Bool} {nx : List (List Int)} {L : Nat} {cl : List Int}
theorem Least.nat {r : Nat → Nat → Prop} {n : Nat} (h : Least r n cl) {x : Nat} (hx : x < n) : cl.getD x 0 = (((cl.getD x 0).toNat : Nat) : Int) ∧ (cl.getD x 0).toNat ≤ x := by
  obtain ⟨p, e, hp, _⟩ := h.at_ x hx
  rw [e]; simp; exact hp
theorem fC_lt {r : Nat → Nat → Prop} (m : Mk ac nx L) (h : Least r ac.length cl) {q a : Nat} (hq : q < ac.length) (ha : a < L) : fC cl nx q a < ac.length := by
  have t := m.to hq ha
  have := (h.nat t).2
  unfold fC; omega
theorem fC_rd {r : Nat → Nat → Prop} (m : Mk ac nx L) (h : Least r ac.length cl) {q a : Nat} (hq : q < ac.length) (ha : a < L) : rd cl (rd (rd_L1 nx (q : Int)) (a : Int)) = ((fC cl nx q a : Nat) : Int) := by
  rw [((m.row hq).2 a ha).1, rd_nat]
  exact (h.nat (m.to hq ha)).1
theorem rwn_mid {f : Nat → Nat → Nat} {j a : Nat} (ha : a < L) : rwn f L j a = num1 (mid f (bf f L j) (qa f L j) (a + 1)) (f (qa f L j) a) := by
  obtain ⟨t, ht⟩ := mid_pre (f := f) (bf f L j) (qa f L j) (show a + 1 ≤ L from ha)
  have e : bf f L (j + 1) = mid f (bf f L j) (qa f L j) (a + 1) ++ t := ht
  rw [rwn, e, num1_pre (mem_mid (f := f) _ _ (Nat.lt_succ_self a))]
theorem qa_lt {r : Nat → Nat → Prop} (m : Mk ac nx L) (h : Least r ac.length cl) {K : Nat} (E : End (fC cl nx) L K) {j : Nat} (hj : j < K) : qa (fC cl nx) L j < ac.length :=
  bf_lt m.n1 (fun q a hq ha => fC_lt m h hq ha) K _ (E.qa_mem hj)
theorem End.le {r : Nat → Nat → Prop} (m : Mk ac nx L) (h : Least r ac.length cl) {K : Nat} (E : End (fC cl nx) L K) : K ≤ ac.length := by
  have := bf_len (L := L) m.n1 (fun q a hq ha => fC_lt m h hq ha) K
  rw [E.len] at this; exact this
theorem pmin_row {r : Nat → Nat → Prop} (m : Mk ac nx L) (h : Least r ac.length cl) {ns : List ByteArray} {K : Nat} (E : End (fC cl nx) L K) {j : Nat} (hj : j < K) {o : List ByteArray × List Bool × List (List Int) × Int}
    (fin : ∀ num, Num ac.length num (bf (fC cl nx) L (j + 1)) → Ev (fun k => canon_Minimal.l1 k cl num (toZ (bf (fC cl nx) L (j + 1))) ((j + 1 : Nat) : Int) ns ac nx ns (acs ac (fC cl nx) L (j + 1)) (rws (fC cl nx) L (j + 1))) o) :
    ∀ (e a : Nat) (num row : List Int), a + e = L → Num ac.length num (mid (fC cl nx) (bf (fC cl nx) L j) (qa (fC cl nx) L j) a) → row = (List.range a).map (fun a => ((rwn (fC cl nx) L j a : Nat) : Int)) ++ List.replicate (L - a) 0 →
      Ev (fun k => canon_Minimal.l2 k cl num (toZ (mid (fC cl nx) (bf (fC cl nx) L j) (qa (fC cl nx) L j) a)) (j : Int) ((qa (fC cl nx) L j : Nat) : Int) row (rd_L1 nx ((qa (fC cl nx) L j : Nat) : Int)) (L : Int) (a : Int) ns ac nx ns (acs ac (fC cl nx) L j) (rws (fC cl nx) L j)) o := by
  have n2 := m.n2
  have l2 := m.l2
  have hq := qa_lt m h E hj
  have Kn := E.le m h
  have hc := h.len
  obtain ⟨rl, rt⟩ := m.row hq
  intro e
  induction e with
  | zero =>
    intro a num row ha hn hr
    have e : a = L := by omega
    subst e
    refine Ev.step (fun k => by rw [canon_Minimal.l2]) (Ev.ncond (by omega) (Ev.cond (by omega) (Ev.cond (by omega) (Ev.cond (by rw [acs_len]; omega) (Ev.cond (by rw [rws_len]; omega) ?_)))))
    have f := fin num hn
    rw [acs_succ, rws_succ] at f
    rw [w_succ (by omega), m.acc hq, hr, Nat.sub_self, List.replicate_zero, List.append_nil]
    exact f
  | succ e ih =>
    intro a num row ha hn hr
    have al : a < L := by omega
    have t := fC_lt m h hq al
    have fr := fC_rd m h hq al
    have rlen : row.length = L := by rw [hr]; simp; omega
    have ml : (mid (fC cl nx) (bf (fC cl nx) L j) (qa (fC cl nx) L j) a).length ≤ ac.length := by
      have := bf_len (L := L) m.n1 (fun q a hq ha => fC_lt m h hq ha) (j + 1)
      obtain ⟨u, hu⟩ := mid_pre (f := fC cl nx) (bf (fC cl nx) L j) (qa (fC cl nx) L j) (show a ≤ L by omega)
      have e2 : bf (fC cl nx) L (j + 1) = _ := hu
      rw [e2, List.length_append] at this; omega
    have tn := m.to hq al
    have a9 : a ≤ 1000 := by omega
    refine Ev.step (fun k => by rw [canon_Minimal.l2]) (Ev.cond (by omega) (Ev.cond (by omega) (Ev.cond (by omega) ?_)))
    rw [fr, (rt a al).1]
    refine Ev.cond (by omega) (Ev.cond (by omega) (Ev.cond (by omega) (Ev.cond (by rw [hn.len]; omega) ?_)))
    have rm := rwn_mid (f := fC cl nx) (j := j) al
    by_cases c : fC cl nx (qa (fC cl nx) L j) a ∈ mid (fC cl nx) (bf (fC cl nx) L j) (qa (fC cl nx) L j) a
    · have em : mid (fC cl nx) (bf (fC cl nx) L j) (qa (fC cl nx) L j) (a + 1) = mid (fC cl nx) (bf (fC cl nx) L j) (qa (fC cl nx) L j) a := by rw [mid, nm, if_pos c]
      refine Ev.ncond (fun z => (hn.neg t).1 z c) (Ev.cond (by omega) ?_)
      have v : rd num ((fC cl nx (qa (fC cl nx) L j) a : Nat) : Int) = ((rwn (fC cl nx) L j a : Nat) : Int) := by rw [rd_nat, hn.at_ _ t, if_pos c, rm, em]
      rw [v, w_succ a9, Int.toNat_natCast, ← em]
      exact ih (a + 1) num _ (by omega) (by rw [em]; exact hn) (by rw [hr]; exact fill_set (fun a => ((rwn (fC cl nx) L j a : Nat) : Int)) al)
    · have em : mid (fC cl nx) (bf (fC cl nx) L j) (qa (fC cl nx) L j) (a + 1) = mid (fC cl nx) (bf (fC cl nx) L j) (qa (fC cl nx) L j) a ++ [fC cl nx (qa (fC cl nx) L j) a] := by rw [mid, nm, if_neg c]
      refine Ev.cond ((hn.neg t).2 c) ?_
      rw [Int.toNat_natCast, toZ_len]
      refine Ev.ret rfl (Ev.cond (by omega) (Ev.cond (by omega) ?_))
      have hn' := hn.put t c
      rw [← em] at hn'
      have v : rd (num.set (fC cl nx (qa (fC cl nx) L j) a) ((mid (fC cl nx) (bf (fC cl nx) L j) (qa (fC cl nx) L j) a).length : Int)) ((fC cl nx (qa (fC cl nx) L j) a : Nat) : Int) = ((rwn (fC cl nx) L j a : Nat) : Int) := by
        rw [rd_nat, hn'.at_ _ t, if_pos (by rw [em]; simp), rm]
      rw [v, w_succ a9, Int.toNat_natCast, toZ_snoc, ← em]
      exact ih (a + 1) _ _ (by omega) hn' (by rw [hr]; exact fill_set (fun a => ((rwn (fC cl nx) L j a : Nat) : Int)) al)
theorem pmin_l1 {r : Nat → Nat → Prop} (m : Mk ac nx L) (h : Least r ac.length cl) {ns : List ByteArray} {K : Nat} (E : End (fC cl nx) L K) : ∀ (d j : Nat) (num : List Int), j + d = K → Num ac.length num (bf (fC cl nx) L j) →
    Ev (fun k => canon_Minimal.l1 k cl num (toZ (bf (fC cl nx) L j)) (j : Int) ns ac nx ns (acs ac (fC cl nx) L j) (rws (fC cl nx) L j)) (ns, acs ac (fC cl nx) L K, rws (fC cl nx) L K, 0) := by
  have n2 := m.n2
  have l2 := m.l2
  have ln := m.len
  intro d
  induction d with
  | zero =>
    intro j num hj hn
    have e : j = K := by omega
    subst e
    exact Ev.step (fun k => by rw [canon_Minimal.l1]) (Ev.ncond (by rw [toZ_len, E.len]; omega) (Ev.fin rfl))
  | succ d ih =>
    intro j num hj hn
    have jK : j < K := by omega
    have on := E.on j jK
    have hq := qa_lt m h E jK
    have row := pmin_row m h (ns := ns) E jK (fun num' hn' => ih (j + 1) num' (by omega) hn') L 0 num (List.replicate L 0) (by omega) hn (by simp)
    have rq : rd (toZ (bf (fC cl nx) L j)) (j : Int) = ((qa (fC cl nx) L j : Nat) : Int) := toZ_at _ on
    refine Ev.step (fun k => by rw [canon_Minimal.l1]) (Ev.cond (by rw [toZ_len]; omega) (Ev.cond (by omega) ?_))
    rw [rq, (m.row hq).1]
    refine Ev.cond (by omega) (Ev.cond (by omega) (Ev.cond (by omega) (Ev.cond (by omega) ?_)))
    rw [Int.toNat_natCast]; exact row
theorem num0 {n : Nat} {x : List Int} (n1 : 1 ≤ n) (hx : x.length = n) (h : ∀ p, p < n → x.getD p 0 = -1) : Num n (x.set 0 0) (bf (fC cl nx) L 0) := by
  refine ⟨by rw [List.length_set, hx], fun y hy => ?_⟩
  rw [gD_set (by omega)]
  by_cases e : y = 0
  · subst e; rw [if_pos rfl, if_pos (by simp [bf])]; simp [bf, num1]
  · rw [if_neg e, h y hy, if_neg (by simp [bf, e])]
theorem pmin_ok {ns : List ByteArray} (hs : SZ ns) (hb : ns.length < 8796093022208) (hr : RZ nx) (d : DOk ns ac nx) (m : Mk ac nx L) {r : Nat → Nat → Prop} (h : Least r ac.length cl) (hC : Ev (fun k => canon_Classes.f k ns ac nx) (cl, 0)) {K : Nat} (E : End (fC cl nx) L K) :
    Ev (fun k => canon_Minimal.f k ns ac nx) (ns, acs ac (fC cl nx) L K, rws (fC cl nx) L K, 0) := by
  have n2 := m.n2
  have n1 := m.n1
  have hc := h.len
  have key : ∀ (e i : Nat) (x : List Int), i + e = ac.length → x.length = ac.length → (∀ p, p < i → x.getD p 0 = -1) → Ev (fun k => canon_Minimal.l0 k cl x (ac.length : Int) (i : Int) ns ac nx) (ns, acs ac (fC cl nx) L K, rws (fC cl nx) L K, 0) := by
    intro e
    induction e with
    | zero =>
      intro i x hi hx hp
      refine Ev.step (fun k => by rw [canon_Minimal.l0]) (Ev.ncond (by omega) (Ev.cond (by omega) ?_))
      refine Ev.ret (show slices_Clone_string_string.f ns = some ns by simp [slices_Clone_string_string.f, hb]) ?_
      exact pmin_l1 m h (ns := ns) E K 0 (x.set 0 0) (by omega) (num0 n1 hx (fun p hp' => hp p (by omega)))
    | succ e ih =>
      intro i x hi hx hp
      refine Ev.step (fun k => by rw [canon_Minimal.l0]) (Ev.cond (by omega) (Ev.cond (by omega) (Ev.cond (by omega) ?_)))
      rw [w64 (by omega) (by omega), Int.toNat_natCast]
      refine ih (i + 1) _ (by omega) (by rw [List.length_set, hx]) (fun p hp' => ?_)
      rw [gD_set (by omega)]
      by_cases c : p = i
      · rw [if_pos c]
      · rw [if_neg c]; exact hp p (by omega)
  refine Ev.congr (fun k => by rw [canon_Minimal.f]) (Ev.bind hC ?_)
  refine Ev.cond rfl ?_
  refine Ev.cond (by show (0 : Int) ≤ (cl.length : Int); omega) (Ev.cond (by show ((cl.length : Int)).toNat ≤ _; omega) (Ev.ret rfl ?_))
  have g := key ac.length 0 (List.replicate cl.length 0) (by omega) (by simp [hc]) (fun p hp => absurd hp (by omega))
  show Ev (fun k => canon_Minimal.l0 k cl (List.replicate ((cl.length : Int)).toNat 0) ((List.replicate ((cl.length : Int)).toNat (0 : Int)).length : Int) 0 ns ac nx) _
  rw [Int.toNat_natCast, List.length_replicate, hc]
  rw [hc] at g; exact g
/-! ### The reference's -/
end
end Go.Proofs.Ytbpeloobnjbgkaa.Pure
namespace Go.Proofs.Ytbpeloobnjbgkaa.Pure
open Go.RowKit Go.Proofs.YtbpeloobnjbgkaaW.PrintWords Go.Proofs.YtbpeloobnjbgkaaW.PrintLast Go.Proofs.YtbpeloobnjbgkaaW.PrintMore Go.Proofs.Ytbpeloobnjbgkaa.X
set_option linter.unusedVariables false
/-! ### Words -/
section
variable {acc : Nat → Bool} {δ : Nat → Nat → Nat} {L : Nat}
theorem EE.run {p q : Nat} (h : EE acc δ L p q) : ∀ {w : List Nat}, Let L w → EE acc δ L (runN δ p w) (runN δ q w) := by
  intro w
  induction w generalizing p q with
  | nil => intro _; exact h
  | cons a w ih => intro hw; exact ih (h.next (hw a (by simp))) (fun c hc => hw c (by simp [hc]))
theorem EE.words {p q : Nat} (h : EE acc δ L p q) {w : List Nat} (hw : Let L w) : acc (runN δ p w) = acc (runN δ q w) := (h.run hw) 0
theorem RR.of_words : ∀ {i p q : Nat}, (∀ w, Let L w → acc (runN δ p w) = acc (runN δ q w)) → RR acc δ L i p q
  | 0, _, _, h => h [] (by simp [Let])
  | i + 1, p, q, h => ⟨RR.of_words h, fun a ha => RR.of_words (fun w hw => h (a :: w) (by intro c hc; rcases List.mem_cons.1 hc with rfl | k; exact ha; exact hw c k))⟩
theorem EE.of_words {p q : Nat} (h : ∀ w, Let L w → acc (runN δ p w) = acc (runN δ q w)) : EE acc δ L p q := fun _ => RR.of_words h
end
/-! ### Is -/
/-! ### Sound -/
/-! ### The canonical machine -/
section
variable {ac : List Bool} {nx : List (List Int)} {L : Nat} {cl : List Int}
theorem min_mk {r : Nat → Nat → Prop} (m : Mk ac nx L) (h : Least r ac.length cl) {K : Nat} (E : End (fC cl nx) L K) : Mk (acs ac (fC cl nx) L K) (rws (fC cl nx) L K) L := by
  have := E.le m h
  have n2 := m.n2
  refine ⟨by rw [rws_len, acs_len], by rw [acs_len]; exact E.pos, by rw [acs_len]; omega, m.l1, m.l2, fun row hrow => ?_⟩
  obtain ⟨i, hi, rfl⟩ := List.mem_map.1 hrow
  rw [List.mem_range] at hi
  refine ⟨by simp, fun x hx => ?_⟩
  obtain ⟨a, ha, rfl⟩ := List.mem_map.1 hx
  rw [List.mem_range] at ha
  have := E.num_lt hi ha
  rw [acs_len]; omega
theorem fC_ee (m : Mk ac nx L) (h : Least (EE (acF ac) (dlF nx) L) ac.length cl) {q a : Nat} (hq : q < ac.length) (ha : a < L) : EE (acF ac) (dlF nx) L (fC cl nx q a) (dlF nx q a) := by
  obtain ⟨p, e, _, ee, _⟩ := h.at_ _ (m.to hq ha)
  have : fC cl nx q a = p := by rw [fC, e]; simp
  rw [this]; exact ee
theorem qa_zero (f : Nat → Nat → Nat) : qa f L 0 = 0 := by simp [qa, bf]
theorem rep_eq (h : Least (EE (acF ac) (dlF nx) L) ac.length cl) {p q : Nat} (hp : p < ac.length) (hq : q < ac.length) (cp : cl.getD p 0 = (p : Int)) (cq : cl.getD q 0 = (q : Int)) (e : EE (acF ac) (dlF nx) L p q) : p = q := by
  obtain ⟨p0, e1, _, _, f1⟩ := h.at_ p hp
  obtain ⟨q0, e2, _, _, f2⟩ := h.at_ q hq
  have : p0 = p := by omega
  have : q0 = q := by omega
  subst_vars
  have z1 : ¬ p0 < q0 := fun c => f2 p0 c e
  have z2 : ¬ q0 < p0 := fun c => f1 q0 c e.symm
  omega
theorem fC_rep (m : Mk ac nx L) (h : Least (EE (acF ac) (dlF nx) L) ac.length cl) {q a : Nat} (hq : q < ac.length) (ha : a < L) : cl.getD (fC cl nx q a) 0 = ((fC cl nx q a : Nat) : Int) := by
  obtain ⟨p, e, hp, ee, f⟩ := h.at_ _ (m.to hq ha)
  have t := m.to hq ha
  have z : fC cl nx q a = p := by rw [fC, e]; simp
  rw [z]
  obtain ⟨p2, e2, hp2, ee2, f2⟩ := h.at_ p (by omega)
  have : ¬ p2 < p := fun c => f p2 c (ee2.trans ee)
  have : p2 = p := by omega
  rw [e2, this]
end
/-! ### All of it -/
structure Canon (ns : List ByteArray) (ac : List Bool) (nx : List (List Int)) (cl : List Int) (K : Nat) : Prop where
  rt : Mk ac nx (2 ^ ns.length)
  least : Least (EE (acF ac) (dlF nx) (2 ^ ns.length)) ac.length cl
  stop : End (fC cl nx) (2 ^ ns.length) K
  cls : Ev (fun k => canon_Classes.f k ns ac nx) (cl, 0)
  min : Ev (fun k => canon_Minimal.f k ns ac nx) (ns, acs ac (fC cl nx) (2 ^ ns.length) K, rws (fC cl nx) (2 ^ ns.length) K, 0)
theorem canon_of {ns : List ByteArray} {ac : List Bool} {nx : List (List Int)} (hs : SZ ns) (hb : ns.length < 8796093022208) (hr : RZ nx) (d : DOk ns ac nx) : ∃ cl K, Canon ns ac nx cl K := by
  have m := d.mk'
  obtain ⟨cl, h, e⟩ := Classes_ok hs hr d m
  obtain ⟨K, _, E⟩ := exists_end (f := fC cl nx) (L := 2 ^ ns.length) m.n1 (fun q a hq ha => fC_lt m h hq ha)
  exact ⟨cl, K, m, h, E, e, pmin_ok hs hb hr d m h e E⟩
theorem min_no {ns : List ByteArray} {ac : List Bool} {nx : List (List Int)} (hs : SZ ns) (hr : RZ nx) (hx : nx.length ≤ 9000000000000000000) (d : ¬ DOk ns ac nx) : Ev (fun k => canon_Minimal.f k ns ac nx) ([], [], [], 3) := by
  have c : Ev (fun k => canon_Classes.f k ns ac nx) ([], 3) := by
    refine Ev.congr (fun k => by rw [canon_Classes.f]) (Ev.bind (right_no hs hr hx d) ?_)
    exact Ev.ncond (by decide) (Ev.fin rfl)
  refine Ev.congr (fun k => by rw [canon_Minimal.f]) (Ev.bind c ?_)
  exact Ev.ncond (by decide) (Ev.fin rfl)
end Go.Proofs.Ytbpeloobnjbgkaa.Pure
namespace Go.Proofs.Ytbpeloobnjbgkaa.Pure
open Go.RowKit Go.Proofs.YtbpeloobnjbgkaaW.PrintWords Go.Proofs.YtbpeloobnjbgkaaW.PrintLast Go.Proofs.YtbpeloobnjbgkaaW.PrintMore Go.Proofs.Ytbpeloobnjbgkaa.X
set_option linter.unusedVariables false
end Go.Proofs.Ytbpeloobnjbgkaa.Pure
namespace Go.Proofs.Ytbpeloobnjbgkaa.Pure
open Go.RowKit Go.Proofs.YtbpeloobnjbgkaaW.PrintWords Go.Proofs.YtbpeloobnjbgkaaW.PrintLast Go.Proofs.YtbpeloobnjbgkaaW.PrintMore Go.Proofs.Ytbpeloobnjbgkaa.X
set_option linter.unusedVariables false
section
variable {ns : List ByteArray} {ac : List Bool} {nx : List (List Int)} {cl : List Int} {K : Nat}
theorem Canon.mm (C : Canon ns ac nx cl K) : Mk (acs ac (fC cl nx) (2 ^ ns.length) K) (rws (fC cl nx) (2 ^ ns.length) K) (2 ^ ns.length) := min_mk C.rt C.least C.stop
theorem Canon.rz (C : Canon ns ac nx cl K) : RZ (rws (fC cl nx) (2 ^ ns.length) K) := fun r hr => by
  have := (C.mm.rows r hr).1
  have := C.mm.l2
  omega
end
end Go.Proofs.Ytbpeloobnjbgkaa.Pure
namespace Go.Proofs.Ytbpeloobnjbgkaa.Pure
open Go.RowKit Go.Proofs.YtbpeloobnjbgkaaW.PrintWords Go.Proofs.YtbpeloobnjbgkaaW.PrintLast Go.Proofs.YtbpeloobnjbgkaaW.PrintMore Go.Proofs.Ytbpeloobnjbgkaa.X
set_option linter.unusedVariables false
structure Flg (n : Nat) (x : List Bool) (ms : List Nat) : Prop where
  len : x.length = n
  at_ : ∀ q, q < n → x.getD q false = decide (q ∈ ms)
theorem Flg.put {n : Nat} {x : List Bool} {ms : List Nat} (h : Flg n x ms) {q : Nat} (hq : q < n) : Flg n (x.set q true) (ms ++ [q]) := by
  refine ⟨by rw [List.length_set, h.len], fun p hp => ?_⟩
  have l := h.len
  by_cases c : p = q
  · subst c
    rw [List.getD_eq_getElem?_getD, List.getElem?_set_self (by omega)]; simp
  · rw [List.getD_eq_getElem?_getD, List.getElem?_set_ne (by omega), ← List.getD_eq_getElem?_getD, h.at_ p hp]
    simp [c]
section
variable {ac : List Bool} {nx : List (List Int)} {L : Nat}
theorem End.words {K : Nat} (E : End (dlF nx) L K) {x : Nat} : x ∈ bf (dlF nx) L K ↔ ∃ w, Let L w ∧ runN (dlF nx) 0 w = x := by
  have led : ∀ i, i < K → ∃ w, Let L w ∧ runN (dlF nx) 0 w = qa (dlF nx) L i := by
    intro i
    induction i using Nat.strongRecOn with
    | ind i ih =>
      intro hi
      have mem : qa (dlF nx) L i ∈ bf (dlF nx) L i := by
        have on := E.on i hi
        rw [qa, List.getD_eq_getElem?_getD, List.getElem?_eq_getElem on]
        exact List.getElem_mem _
      rcases bf_led i _ mem with h | ⟨j, a, hj, ha, h⟩
      · exact ⟨[], by simp [Let], h.symm⟩
      · obtain ⟨w, hw, e⟩ := ih j hj (by omega)
        refine ⟨w ++ [a], ?_, by rw [runN_snoc, e, h]⟩
        intro c hc
        rcases List.mem_append.1 hc with h | h
        · exact hw c h
        · rw [List.mem_singleton.1 h]; exact ha
  constructor
  · intro h
    obtain ⟨i, hi, e⟩ := List.mem_iff_getElem.1 h
    have iK : i < K := by rw [E.len] at hi; exact hi
    obtain ⟨w, hw, e2⟩ := led i iK
    have := E.at_ iK (Nat.le_of_lt iK) (Nat.le_refl _)
    rw [List.getD_eq_getElem?_getD, List.getElem?_eq_getElem hi, Option.getD_some, e] at this
    exact ⟨w, hw, by rw [e2, this]⟩
  · rintro ⟨w, hw, rfl⟩
    have key : ∀ (w : List Nat) (i : Nat), i < K → Let L w → runN (dlF nx) (qa (dlF nx) L i) w ∈ bf (dlF nx) L K := by
      intro w
      induction w with
      | nil => intro i hi _; exact E.qa_mem hi
      | cons a w ih =>
        intro i hi hw
        have ha := hw a (by simp)
        show runN (dlF nx) (dlF nx (qa (dlF nx) L i) a) w ∈ _
        rw [← E.back hi ha]
        exact ih _ (E.num_lt hi ha) (fun c hc => hw c (by simp [hc]))
    have := key w 0 E.pos hw
    rwa [qa_zero] at this
end
end Go.Proofs.Ytbpeloobnjbgkaa.Pure
namespace Go.Proofs.Ytbpeloobnjbgkaa.Pure
open Go.RowKit Go.Proofs.YtbpeloobnjbgkaaW.PrintWords Go.Proofs.YtbpeloobnjbgkaaW.PrintLast Go.Proofs.YtbpeloobnjbgkaaW.PrintMore Go.Proofs.Ytbpeloobnjbgkaa.X
set_option linter.unusedVariables false
theorem gF {α : Type} (d : α) {l : List α} {i p : Nat} {v : α} (h : i < l.length) : (l.set i v).getD p d = if p = i then v else l.getD p d := by
  by_cases c : p = i
  · subst c
    rw [if_pos rfl, List.getD_eq_getElem?_getD, List.getElem?_set_self h]; rfl
  · rw [if_neg c, List.getD_eq_getElem?_getD, List.getElem?_set_ne (by omega), ← List.getD_eq_getElem?_getD]
/-- Where a state stands. -/
def plc (n by_ q : Nat) : Nat := if q = 0 then 0 else 1 + (q - 1 + by_) % (n - 1)
theorem plc_lt {n b q : Nat} (h : q < n) : plc n b q < n := by
  unfold plc
  split
  · omega
  · have := Nat.mod_lt (q - 1 + b) (show 0 < n - 1 by omega)
    omega
theorem mod_inj {m b x y : Nat} (hx : x < m) (hy : y < m) (e : (x + b) % m = (y + b) % m) : x = y := by
  have key : ∀ x y : Nat, x ≤ y → y < m → (x + b) % m = (y + b) % m → x = y := by
    intro x y h hy e
    have h2 : m ∣ (y + b) - (x + b) := Nat.dvd_of_mod_eq_zero (Nat.sub_mod_eq_zero_of_mod_eq e.symm)
    have h3 : (y + b) - (x + b) = y - x := by omega
    rw [h3] at h2
    have := Nat.eq_zero_of_dvd_of_lt h2 (by omega)
    omega
  rcases Nat.le_total x y with h | h
  · exact key x y h hy e
  · exact (key y x h hx e.symm).symm
theorem plc_inj {n b p q : Nat} (hp : p < n) (hq : q < n) (e : plc n b p = plc n b q) : p = q := by
  unfold plc at e
  by_cases c : p = 0 <;> by_cases c2 : q = 0
  · omega
  · rw [if_pos c, if_neg c2] at e; omega
  · rw [if_neg c, if_pos c2] at e; omega
  · rw [if_neg c, if_neg c2] at e
    have := mod_inj (m := n - 1) (b := b) (x := p - 1) (y := q - 1) (by omega) (by omega) (by omega)
    omega
theorem plc_sur {n b i : Nat} (h : i < n) : ∃ q, q < n ∧ plc n b q = i := by
  have nd : ((List.range n).map (plc n b)).Nodup := by
    rw [List.nodup_iff_pairwise_ne, List.pairwise_map]
    have := List.nodup_range (n := n)
    rw [List.nodup_iff_pairwise_ne] at this
    exact this.imp_of_mem (fun ha hb hab e => hab (plc_inj (List.mem_range.1 ha) (List.mem_range.1 hb) e))
  have := nodup_sub (T := List.range n) nd (fun x hx => by
    obtain ⟨q, hq, rfl⟩ := List.mem_map.1 hx
    exact List.mem_range.2 (plc_lt (List.mem_range.1 hq))) (by simp) i (List.mem_range.2 h)
  obtain ⟨q, hq, e⟩ := List.mem_map.1 this
  exact ⟨q, List.mem_range.1 hq, e⟩
/-- A state's place in a half. -/
def pos_ (n b q h : Nat) : Nat := plc n b q + n * h
theorem pos_lt {n b q h : Nat} (hq : q < n) (hh : h < 2) : pos_ n b q h < 2 * n := by
  have := plc_lt (b := b) hq
  unfold pos_
  rcases (show h = 0 ∨ h = 1 by omega) with rfl | rfl <;> omega
theorem pos_inj {n b q h q' h' : Nat} (hq : q < n) (hh : h < 2) (hq' : q' < n) (hh' : h' < 2) (e : pos_ n b q h = pos_ n b q' h') : q = q' ∧ h = h' := by
  have l := plc_lt (b := b) hq
  have l' := plc_lt (b := b) hq'
  unfold pos_ at e
  rcases (show h = 0 ∨ h = 1 by omega) with rfl | rfl <;> rcases (show h' = 0 ∨ h' = 1 by omega) with rfl | rfl
  · exact ⟨plc_inj (b := b) hq hq' (by omega), rfl⟩
  · omega
  · omega
  · exact ⟨plc_inj (b := b) hq hq' (by omega), rfl⟩
theorem pos_sur {n b i : Nat} (h : i < 2 * n) : ∃ q h, q < n ∧ h < 2 ∧ pos_ n b q h = i := by
  by_cases c : i < n
  · obtain ⟨q, hq, e⟩ := plc_sur (b := b) c
    exact ⟨q, 0, hq, by omega, by unfold pos_; omega⟩
  · obtain ⟨q, hq, e⟩ := plc_sur (b := b) (show i - n < n by omega)
    exact ⟨q, 1, hq, by omega, by unfold pos_; omega⟩
section
variable {ac : List Bool} {nx : List (List Int)} {L : Nat}
def trow (nx : List (List Int)) (n b L q h : Nat) : List Int := (List.range L).map fun a => ((pos_ n b (dlF nx q a) ((a + h) % 2) : Nat) : Int)
/-- The machine turned about. -/
structure Turn (ac : List Bool) (nx : List (List Int)) (L b : Nat) (ac' : List Bool) (nx' : List (List Int)) : Prop where
  al : ac'.length = 2 * ac.length
  nl : nx'.length = 2 * ac.length
  acc : ∀ q h, q < ac.length → h < 2 → ac'.getD (pos_ ac.length b q h) false = acF ac q
  row : ∀ q h, q < ac.length → h < 2 → nx'.getD (pos_ ac.length b q h) [] = trow nx ac.length b L q h
theorem Turn.mk_ (m : Mk ac nx L) {b : Nat} {ac' : List Bool} {nx' : List (List Int)} (T : Turn ac nx L b ac' nx') (s : 2 * ac.length ≤ 256) : Mk ac' nx' L := by
  have n1 := m.n1
  refine ⟨T.nl.trans T.al.symm, by rw [T.al]; omega, by rw [T.al]; omega, m.l1, m.l2, fun r hr => ?_⟩
  obtain ⟨i, hi, rfl⟩ := List.mem_iff_getElem.1 hr
  obtain ⟨q, h, hq, hh, e⟩ := pos_sur (n := ac.length) (b := b) (show i < 2 * ac.length by rw [← T.nl]; exact hi)
  have := T.row q h hq hh
  rw [e, List.getD_eq_getElem?_getD, List.getElem?_eq_getElem hi, Option.getD_some] at this
  rw [this]
  refine ⟨by simp [trow], fun x hx => ?_⟩
  obtain ⟨a, ha, rfl⟩ := List.mem_map.1 hx
  have := pos_lt (b := b) (m.to hq (List.mem_range.1 ha)) (Nat.mod_lt (a + h) (show 0 < 2 by omega))
  rw [T.al]; omega
theorem Turn.dl {b : Nat} {ac' : List Bool} {nx' : List (List Int)} (T : Turn ac nx L b ac' nx') {q h a : Nat} (hq : q < ac.length) (hh : h < 2) (ha : a < L) : dlF nx' (pos_ ac.length b q h) a = pos_ ac.length b (dlF nx q a) ((a + h) % 2) := by
  rw [dlF, T.row q h hq hh, trow]
  simp [List.getD_eq_getElem?_getD, ha]
theorem Turn.words (m : Mk ac nx L) {b : Nat} {ac' : List Bool} {nx' : List (List Int)} (T : Turn ac nx L b ac' nx') : ∀ {w : List Nat} {q h : Nat}, q < ac.length → h < 2 → Let L w → acF ac' (runN (dlF nx') (pos_ ac.length b q h) w) = acF ac (runN (dlF nx) q w) := by
  intro w
  induction w with
  | nil => intro q h hq hh _; exact T.acc q h hq hh
  | cons a w ih =>
    intro q h hq hh hw
    have ha := hw a (by simp)
    show acF ac' (runN (dlF nx') (dlF nx' (pos_ ac.length b q h) a) w) = acF ac (runN (dlF nx) (dlF nx q a) w)
    rw [T.dl hq hh ha]
    exact ih (m.to hq ha) (Nat.mod_lt _ (by omega)) (fun c hc => hw c (by simp [hc]))
/-- Two machines whose first states no word tells apart have one canonical machine. -/
theorem same_min {ac' : List Bool} {nx' : List (List Int)} {cl cl' : List Int} (m : Mk ac nx L) (m' : Mk ac' nx' L) (h : Least (EE (acF ac) (dlF nx) L) ac.length cl) (h' : Least (EE (acF ac') (dlF nx') L) ac'.length cl') {K : Nat} (E : End (fC cl nx) L K)
    (o : ∀ w, Let L w → acF ac (runN (dlF nx) 0 w) = acF ac' (runN (dlF nx') 0 w)) : End (fC cl' nx') L K ∧ acs ac' (fC cl' nx') L K = acs ac (fC cl nx) L K ∧ rws (fC cl' nx') L K = rws (fC cl nx) L K := by
  have zero : ∀ {ac : List Bool} {nx : List (List Int)} {cl : List Int}, Mk ac nx L → Least (EE (acF ac) (dlF nx) L) ac.length cl → cl.getD 0 0 = ((0 : Nat) : Int) := by
    intro ac nx cl m h
    obtain ⟨p, e, hp, _⟩ := h.at_ 0 m.n1
    rw [e]; omega
  obtain ⟨a, b, c⟩ := E.pair (g := fC cl' nx') (X := fun p q => (p < ac.length ∧ cl.getD p 0 = (p : Int)) ∧ (q < ac'.length ∧ cl'.getD q 0 = (q : Int)) ∧ ∀ w, Let L w → acF ac (runN (dlF nx) p w) = acF ac' (runN (dlF nx') q w))
    (fun p q y x1 x2 => rep_eq h x1.1.1 x2.1.1 x1.1.2 x2.1.2 (EE.of_words (fun w hw => (x1.2.2 w hw).trans (x2.2.2 w hw).symm)))
    (fun p y z x1 x2 => rep_eq h' x1.2.1.1 x2.2.1.1 x1.2.1.2 x2.2.1.2 (EE.of_words (fun w hw => (x1.2.2 w hw).symm.trans (x2.2.2 w hw))))
    (fun p y a x ha => ⟨⟨fC_lt m h x.1.1 ha, fC_rep m h x.1.1 ha⟩, ⟨fC_lt m' h' x.2.1.1 ha, fC_rep m' h' x.2.1.1 ha⟩, fun w hw => by
      rw [(fC_ee m h x.1.1 ha).words hw, (fC_ee m' h' x.2.1.1 ha).words hw]
      exact x.2.2 (a :: w) (by intro c hc; rcases List.mem_cons.1 hc with rfl | k; exact ha; exact hw c k)⟩)
    ⟨⟨m.n1, zero m h⟩, ⟨m'.n1, zero m' h'⟩, o⟩
  refine ⟨a, ?_, ?_⟩
  · refine List.map_congr_left (fun i hi => ?_)
    rw [List.mem_range] at hi
    exact ((b i hi).2.2 [] (by simp [Let])).symm
  · refine List.map_congr_left (fun i hi => List.map_congr_left (fun x hx => ?_))
    rw [List.mem_range] at hi hx
    rw [c i x hi hx]
theorem w_add {a h : Nat} (ha : a ≤ 1000) (hh : h ≤ 1000) : wrap64 ((a : Int) + (h : Int)) = ((a + h : Nat) : Int) := by unfold wrap64; omega
theorem tm2 (x : Nat) : Int.tmod (x : Int) 2 = ((x % 2 : Nat) : Int) := by rw [Int.tmod_eq_emod_of_nonneg (by omega)]; omega
/-- What is done of the machine. -/
structure TDone (ac : List Bool) (nx : List (List Int)) (L b q h : Nat) (ac' : List Bool) (nx' : List (List Int)) : Prop where
  al : ac'.length = 2 * ac.length
  nl : nx'.length = 2 * ac.length
  acc : ∀ q' h', q' < ac.length → h' < 2 → (q' < q ∨ q' = q ∧ h' < h) → ac'.getD (pos_ ac.length b q' h') false = acF ac q'
  row : ∀ q' h', q' < ac.length → h' < 2 → (q' < q ∨ q' = q ∧ h' < h) → nx'.getD (pos_ ac.length b q' h') [] = trow nx ac.length b L q' h'
theorem TDone.put {b q h : Nat} {ac' : List Bool} {nx' : List (List Int)} (T : TDone ac nx L b q h ac' nx') (hq : q < ac.length) (hh : h < 2) : TDone ac nx L b q (h + 1) (ac'.set (pos_ ac.length b q h) (acF ac q)) (nx'.set (pos_ ac.length b q h) (trow nx ac.length b L q h)) := by
  have pl := pos_lt (b := b) hq hh
  refine ⟨by rw [List.length_set, T.al], by rw [List.length_set, T.nl], fun q' h' hq' hh' c => ?_, fun q' h' hq' hh' c => ?_⟩
  · rw [gF false (by rw [T.al]; exact pl)]
    by_cases e : pos_ ac.length b q' h' = pos_ ac.length b q h
    · obtain ⟨e1, e2⟩ := pos_inj hq' hh' hq hh e
      rw [if_pos e, e1]
    · rw [if_neg e]
      refine T.acc q' h' hq' hh' ?_
      by_cases z : q' = q ∧ h' = h
      · exact absurd (by rw [z.1, z.2]) e
      · omega
  · rw [gF [] (by rw [T.nl]; exact pl)]
    by_cases e : pos_ ac.length b q' h' = pos_ ac.length b q h
    · obtain ⟨e1, e2⟩ := pos_inj hq' hh' hq hh e
      rw [if_pos e, e1, e2]
    · rw [if_neg e]
      refine T.row q' h' hq' hh' ?_
      by_cases z : q' = q ∧ h' = h
      · exact absurd (by rw [z.1, z.2]) e
      · omega
theorem turned_ev (m : Mk ac nx L) {ns : List ByteArray} (hb : ns.length < 8796093022208) (s : 2 * ac.length ≤ 256) {b : Nat} (hb9 : b ≤ 999) : ∃ ac' nx', Ev (fun k => tabardlaw13_turned.f k ns ac nx (b : Int)) (ns, ac', nx') ∧ Turn ac nx L b ac' nx' := by
  have n1 := m.n1
  have ln := m.len
  have l2 := m.l2
  have w2 : wrap64 (2 * (ac.length : Int)) = ((2 * ac.length : Nat) : Int) := by unfold wrap64; omega
  have wp : ∀ {q h : Nat}, q < ac.length → h < 2 → wrap64 (((plc ac.length b q : Nat) : Int) + wrap64 ((ac.length : Int) * (h : Int))) = ((pos_ ac.length b q h : Nat) : Int) := by
    intro q h hq hh
    have l := plc_lt (b := b) hq
    unfold pos_ wrap64
    rcases (show h = 0 ∨ h = 1 by omega) with rfl | rfl
    · simp; omega
    · simp; omega
  -- the places
  obtain ⟨pls, hpl⟩ : ∃ pls : List Int, pls = (List.range ac.length).map fun q => ((plc ac.length b q : Nat) : Int) := ⟨_, rfl⟩
  have pll : pls.length = ac.length := by rw [hpl]; simp
  have pla : ∀ q, q < ac.length → rd pls (q : Int) = ((plc ac.length b q : Nat) : Int) := by
    intro q hq
    rw [rd_nat, hpl]; simp [List.getD_eq_getElem?_getD, hq]
  clear hpl
  -- the rows
  have main : ∀ (d q : Nat), q + d = ac.length → ∀ (ac' : List Bool) (nx' : List (List Int)), TDone ac nx L b q 0 ac' nx' → ∃ ac2 nx2, Ev (fun k => tabardlaw13_turned.l1 k (ac.length : Int) pls (ac.length : Int) (q : Int) ns ac nx ns ac' nx') (ns, ac2, nx2) ∧ Turn ac nx L b ac2 nx2 := by
    intro d
    induction d with
    | zero =>
      intro q hq ac' nx' T
      exact ⟨ac', nx', Ev.step (fun k => by rw [tabardlaw13_turned.l1]) (Ev.ncond (by omega) (Ev.fin rfl)), T.al, T.nl, fun q' h' hq' hh' => T.acc q' h' hq' hh' (by omega), fun q' h' hq' hh' => T.row q' h' hq' hh' (by omega)⟩
    | succ d ih =>
      intro q hq ac' nx' T
      have qn : q < ac.length := by omega
      obtain ⟨rl, rt⟩ := m.row qn
      have halves : ∀ (e h : Nat), h + e = 2 → ∀ (ac' : List Bool) (nx' : List (List Int)), TDone ac nx L b q h ac' nx' → ∃ ac2 nx2, Ev (fun k => tabardlaw13_turned.l2 k (ac.length : Int) pls (q : Int) (ac.length : Int) (q : Int) (h : Int) ns ac nx ns ac' nx') (ns, ac2, nx2) ∧ Turn ac nx L b ac2 nx2 := by
        intro e
        induction e with
        | zero =>
          intro h hh ac' nx' T
          obtain ⟨ac2, nx2, hv, hT⟩ := ih (q + 1) (by omega) ac' nx' ⟨T.al, T.nl, fun q' h' hq' hh' c => T.acc q' h' hq' hh' (by omega), fun q' h' hq' hh' c => T.row q' h' hq' hh' (by omega)⟩
          refine ⟨ac2, nx2, Ev.step (fun k => by rw [tabardlaw13_turned.l2]) (Ev.ncond (by omega) ?_), hT⟩
          rw [w_succ (by omega)]; exact hv
        | succ e ih2 =>
          intro h hh ac' nx' T
          have h2 : h < 2 := by omega
          have pl := pos_lt (b := b) qn h2
          obtain ⟨ac2, nx2, hv, hT⟩ := ih2 (h + 1) (by omega) _ _ (T.put qn h2)
          have lets : ∀ (e3 a : Nat), a + e3 = L → Ev (fun k => tabardlaw13_turned.l3 k (ac.length : Int) pls (q : Int) (h : Int) ((List.range a).map fun a => ((pos_ ac.length b (dlF nx q a) ((a + h) % 2) : Nat) : Int)) (ac.length : Int) (q : Int) (h : Int) (rd_L1 nx (q : Int)) (L : Int) (a : Int) ns ac nx ns ac' nx') (ns, ac2, nx2) := by
            intro e3
            induction e3 with
            | zero =>
              intro a ha
              have ea : a = L := by omega
              subst ea
              refine Ev.step (fun k => by rw [tabardlaw13_turned.l3]) (Ev.ncond (by omega) (Ev.cond (by omega) (Ev.cond (by omega) (Ev.cond (by omega) ?_))))
              rw [pla q qn, wp qn h2, m.acc qn]
              refine Ev.cond (by omega) (Ev.cond (by rw [T.al]; omega) (Ev.cond (by rw [T.nl]; omega) ?_))
              rw [w_succ (by omega), Int.toNat_natCast]; exact hv
            | succ e3 ih3 =>
              intro a ha
              have al : a < L := by omega
              obtain ⟨t1, t2⟩ := rt a al
              refine Ev.step (fun k => by rw [tabardlaw13_turned.l3]) (Ev.cond (by omega) (Ev.cond (by omega) (Ev.cond (by omega) ?_)))
              rw [t1, w_add (show a ≤ 1000 by omega) (show h ≤ 1000 by omega), tm2, pla _ t2, wp t2 (Nat.mod_lt _ (by omega))]
              refine Ev.cond (by omega) (Ev.cond (by omega) (Ev.cond (by simp; omega) ?_))
              rw [w_succ (by omega)]
              have snoc : ((List.range a).map fun a => ((pos_ ac.length b (dlF nx q a) ((a + h) % 2) : Nat) : Int)) ++ [((pos_ ac.length b (dlF nx q a) ((a + h) % 2) : Nat) : Int)] = (List.range (a + 1)).map fun a => ((pos_ ac.length b (dlF nx q a) ((a + h) % 2) : Nat) : Int) := by simp [List.range_succ]
              rw [snoc]
              exact ih3 (a + 1) (by omega)
          refine ⟨ac2, nx2, Ev.step (fun k => by rw [tabardlaw13_turned.l2]) (Ev.cond (by omega) (Ev.cond (by omega) (Ev.cond (by omega) ?_))), hT⟩
          rw [rl]
          exact lets L 0 (by omega)
      obtain ⟨ac2, nx2, hv, hT⟩ := halves 2 0 (by omega) ac' nx' T
      exact ⟨ac2, nx2, Ev.step (fun k => by rw [tabardlaw13_turned.l1]) (Ev.cond (by omega) (by exact hv)), hT⟩
  obtain ⟨ac2, nx2, hv, hT⟩ := main ac.length 0 (by omega) (List.replicate (2 * ac.length) false) (List.replicate (2 * ac.length) []) ⟨by simp, by simp, fun q' h' _ _ c => by omega, fun q' h' _ _ c => by omega⟩
  refine ⟨ac2, nx2, ?_, hT⟩
  have key : ∀ (d i : Nat) (x : List Int), i + d = ac.length → 1 ≤ i → x.length = ac.length → (∀ p, p < i → x.getD p 0 = ((plc ac.length b p : Nat) : Int)) → Ev (fun k => tabardlaw13_turned.l0 k (b : Int) (ac.length : Int) x (i : Int) ns ac nx) (ns, ac2, nx2) := by
    intro d
    induction d with
    | zero =>
      intro i x hi i1 hx hp
      have e : x = pls := by
        refine List.ext_getElem (hx.trans pll.symm) (fun p h1 h2 => ?_)
        have a := hp p (by omega)
        have c := pla p (by omega)
        rw [rd_nat] at c
        rw [gD h1] at a
        rw [gD h2] at c
        rw [a, c]
      subst e
      refine Ev.step (fun k => by rw [tabardlaw13_turned.l0]) (Ev.ncond (by omega) ?_)
      refine Ev.ret rfl (Ev.cond (by simp; omega) ?_)
      rw [w2]
      refine Ev.cond (by omega) (Ev.cond (by omega) (Ev.cond (by omega) ?_))
      rw [Int.toNat_natCast, List.nil_append]; exact hv
    | succ d ih =>
      intro i x hi i1 hx hp
      have wn : wrap64 ((ac.length : Int) - 1) = ((ac.length - 1 : Nat) : Int) := by unfold wrap64; omega
      have wi : wrap64 (wrap64 ((i : Int) - 1) + (b : Int)) = ((i - 1 + b : Nat) : Int) := by unfold wrap64; omega
      have tm : Int.tmod ((i - 1 + b : Nat) : Int) ((ac.length - 1 : Nat) : Int) = (((i - 1 + b) % (ac.length - 1) : Nat) : Int) := by
        rw [Int.tmod_eq_emod_of_nonneg (by omega)]; exact (Int.natCast_emod _ _).symm
      have lt := Nat.mod_lt (i - 1 + b) (show 0 < ac.length - 1 by omega)
      have w1 : wrap64 (1 + (((i - 1 + b) % (ac.length - 1) : Nat) : Int)) = ((plc ac.length b i : Nat) : Int) := by
        rw [plc, if_neg (by omega)]; unfold wrap64; omega
      refine Ev.step (fun k => by rw [tabardlaw13_turned.l0]) (Ev.cond (by omega) ?_)
      rw [wn, wi, tm, w1]
      clear wn wi tm w1
      refine Ev.ncond (by omega) (Ev.cond (by omega) (Ev.cond (by omega) ?_))
      rw [w_succ (by omega), Int.toNat_natCast]
      refine ih (i + 1) _ (by omega) (by omega) (by rw [List.length_set, hx]) (fun p hp' => ?_)
      rw [gD_set (by omega)]
      by_cases c : p = i
      · rw [if_pos c, c]
      · rw [if_neg c]; exact hp p (by omega)
  have k1 := key (ac.length - 1) 1 (List.replicate ac.length 0) (by omega) (Nat.le_refl _) (by simp) (fun p hp => by
    have : p = 0 := by omega
    subst this
    rw [gD (by simp; omega), List.getElem_replicate]; simp [plc])
  refine Ev.congr (fun k => by rw [tabardlaw13_turned.f]) ?_
  refine Ev.cond (by omega) (Ev.cond (by omega) ?_)
  rw [Int.toNat_natCast]; exact k1
end
theorem CanonOne (ns : List ByteArray) (h0 : ns.length * 16 ≤ 140737488351232) (q0 : ∀ x ∈ ns, x.size ≤ maxLen) (ac : List Bool) (h1 : ac.length * 1 ≤ 140737488351232) (q1 : ∀ x ∈ ac, True) (nx : List (List Int)) (h2 : nx.length * 24 ≤ 140737488351232) (q2 : ∀ x ∈ nx, x.length * 8 ≤ 140737488351232 ∧ ∀ a ∈ x, (Lit.int .i64 a).wf = true)
    (z : Int) (qz : (Lit.int .i64 z).wf = true) : ∃ k, tabardlaw13_CanonOne.f k ns ac nx z = some true := by
  have hs : SZ ns := fun x hx => q0 x hx
  have hr : RZ nx := fun r hr => by have := (q2 r hr).1; omega
  have cp := copy_dense h0 h1 h2 (fun r hr => (q2 r hr).1)
  refine Ev.rounds (Ev.congr (fun k => by rw [tabardlaw13_CanonOne.f]) (Ev.bind fixed13_ev (Ev.cond rfl (Ev.bind cp ?_))))
  by_cases d : DOk ns ac nx
  · obtain ⟨cl, K, C⟩ := canon_of hs (by omega) hr d
    have n1 := C.rt.n1
    have n2 := C.rt.n2
    have mm := C.mm
    have mn2 := mm.n2
    refine Ev.bind C.min ?_
    refine Ev.cond rfl ?_
    have w2 : wrap64 (2 * (ac.length : Int)) = ((2 * ac.length : Nat) : Int) := by unfold wrap64; omega
    rw [w2]
    clear w2
    by_cases big : ((2 * ac.length : Nat) : Int) > 256
    · rw [decide_eq_true big]
      exact Ev.step (fun k => by rw [tabardlaw13_CanonOne.j0]) (Ev.cond rfl (Ev.fin rfl))
    rw [decide_eq_false big]
    obtain ⟨b, eb, b9⟩ : ∃ b : Nat, wrap64 (Int.tmod (IntKind.u64.wrap z) 1000) = (b : Int) ∧ b ≤ 999 := by
      have h0 : 0 ≤ IntKind.u64.wrap z := by rw [u64_mod]; omega
      generalize IntKind.u64.wrap z = y at h0
      rw [Int.tmod_eq_emod_of_nonneg h0]
      refine ⟨(y % 1000).toNat, ?_, by omega⟩
      unfold wrap64; omega
    obtain ⟨ac', nx', hT, T⟩ := turned_ev C.rt (ns := ns) (by omega) (by omega) b9
    have m' := T.mk_ C.rt (by omega)
    have d' : DOk ns ac' nx' := ⟨⟨d.fr.tr, m'.n1, m'.n2, d.fr.ri⟩, m'.len, m'.rows⟩
    have hr' : RZ nx' := fun r hr => by
      have := (m'.rows r hr).1
      have := m'.l2
      omega
    obtain ⟨cl', h', e'⟩ := Classes_ok hs hr' d' m'
    obtain ⟨E2, a, c⟩ := same_min C.rt m' C.least h' C.stop (fun w hw => by
      have := T.words C.rt (w := w) (q := 0) (h := 0) n1 (by omega) hw
      rw [show pos_ ac.length b 0 0 = 0 by simp [pos_, plc]] at this
      exact this.symm)
    have P := pmin_ok hs (by omega) hr' d' m' h' e' E2
    rw [a, c] at P
    have same := same_dense (t0 := ns) (u0 := ns) (t1 := acs ac (fC cl nx) (2 ^ ns.length) K) (u1 := acs ac (fC cl nx) (2 ^ ns.length) K) (t2 := rws (fC cl nx) (2 ^ ns.length) K) (u2 := rws (fC cl nx) (2 ^ ns.length) K) (by omega) (by omega) (by have := mm.len; omega) C.rz
    rw [decide_eq_true ⟨rfl, rfl, rfl⟩] at same
    refine Ev.step (fun k => by rw [tabardlaw13_CanonOne.j0]) (Ev.ncond nF ?_)
    rw [eb]
    refine Ev.bind hT (Ev.bind P ?_)
    refine Ev.cond rfl ?_
    exact Ev.bind same (Ev.fin rfl)
  · refine Ev.bind (min_no (ns := ns) (ac := ac) (nx := nx) hs hr (by omega) d) ?_
    refine Ev.ncond (by decide) ?_
    exact Ev.step (fun k => by rw [tabardlaw13_CanonOne.j0]) (Ev.cond rfl (Ev.fin rfl))
end Go.Proofs.Ytbpeloobnjbgkaa.Pure
