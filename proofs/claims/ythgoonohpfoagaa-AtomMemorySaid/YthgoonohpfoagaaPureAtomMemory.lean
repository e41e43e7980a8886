/- The law AtomMemory over lists alone, and all that it leans on; no condition beyond the statement's own. -/
import Derived.Test.YthgoonohpfoagaaX0
import Derived.Test.YthgoonohpfoagaaX0
import Derived.Test.YthgoonohpfoagaaX1
import Derived.Test.YthgoonohpfoagaaX10
import Derived.Test.YthgoonohpfoagaaX11
import Derived.Test.YthgoonohpfoagaaX12
import Derived.Test.YthgoonohpfoagaaX13
import Derived.Test.YthgoonohpfoagaaX14
import Derived.Test.YthgoonohpfoagaaX15
import Derived.Test.YthgoonohpfoagaaX16
import Derived.Test.YthgoonohpfoagaaX17
import Derived.Test.YthgoonohpfoagaaX2
import Derived.Test.YthgoonohpfoagaaX3
import Derived.Test.YthgoonohpfoagaaX4
import Derived.Test.YthgoonohpfoagaaX5
import Derived.Test.YthgoonohpfoagaaX6
import Derived.Test.YthgoonohpfoagaaX7
import Derived.Test.YthgoonohpfoagaaX8
import Derived.Test.YthgoonohpfoagaaX9
import Derived.Laws.BitsLemmas
namespace Go.Proofs.Ythgoonohpfoagaa.Pure
open Go.RowKit Go.Proofs.YthgoonohpfoagaaW.PrintWords Go.Proofs.YthgoonohpfoagaaW.PrintLast Go.Proofs.YthgoonohpfoagaaW.PrintMore Go.Proofs.Ythgoonohpfoagaa.X
set_option linter.unusedVariables false
/-! ### Rounds -/
theorem Ev.cond {α : Type} {c : Prop} [Decidable c] {f g : Nat → Option α} {r : α} (h : c) (k : Ev f r) : Ev (fun n => if c then f n else g n) r :=
  Ev.congr (fun _ => if_pos h) k
theorem Ev.ncond {α : Type} {c : Prop} [Decidable c] {f g : Nat → Option α} {r : α} (h : ¬ c) (k : Ev g r) : Ev (fun n => if c then f n else g n) r :=
  Ev.congr (fun _ => if_neg h) k
theorem Ev.ite {α : Type} {c : Prop} [Decidable c] {f g : Nat → Option α} {r : α} (h : c → Ev f r) (k : ¬ c → Ev g r) : Ev (fun n => if c then f n else g n) r := by
  by_cases hc : c
  · exact Ev.cond hc (h hc)
  · exact Ev.ncond hc (k hc)
theorem Ev.fin {α : Type} {r q : α} (h : r = q) : Ev (fun _ => Option.some r) q := h ▸ Ev.now r
theorem Ev.ret {α β : Type} {g : Option α} {a : α} {f : Nat → α → Option β} {r : β} (h : g = Option.some a) (k : Ev (fun n => f n a) r) : Ev (fun n => g.bind (f n)) r := by
  subst h; exact k
theorem w64 {x : Int} (h0 : -9223372036854775808 ≤ x) (h1 : x ≤ 9223372036854775807) : wrap64 x = x := by unfold wrap64; omega
theorem i64_wf {x : Int} (h : (Lit.int .i64 x).wf = true) : -9223372036854775808 ≤ x ∧ x ≤ 9223372036854775807 := by
  simp [Lit.wf, IntKind.min, IntKind.max, IntKind.signed, IntKind.bits] at h; omega
end Go.Proofs.Ythgoonohpfoagaa.Pure
namespace Go.Proofs.Ythgoonohpfoagaa.Pure
open Go.RowKit Go.Proofs.YthgoonohpfoagaaW.PrintWords Go.Proofs.YthgoonohpfoagaaW.PrintLast Go.Proofs.YthgoonohpfoagaaW.PrintMore Go.Proofs.Ythgoonohpfoagaa.X
set_option linter.unusedVariables false
theorem rdOf_get {α : Type} (d : α) (l : List α) {i : Nat} (h : i < l.length) : rdOf d l (i : Int) = l[i] := by
  simp [rdOf, List.getD_eq_getElem?_getD, h]
theorem rdL_get (l : List (List Int)) {i : Nat} (h : i < l.length) : rd_L3 l (i : Int) = l[i] := by
  simp [rd_L3, List.getD_eq_getElem?_getD, h]
end Go.Proofs.Ythgoonohpfoagaa.Pure
namespace Go.Proofs.Ythgoonohpfoagaa.Pure
open Go.RowKit Go.Proofs.YthgoonohpfoagaaW.PrintWords Go.Proofs.YthgoonohpfoagaaW.PrintLast Go.Proofs.YthgoonohpfoagaaW.PrintMore Go.Proofs.Ythgoonohpfoagaa.X
set_option linter.unusedVariables false
/-! ### Names -/
def startB (r : Int) : Bool := decide ((65 ≤ r ∧ r ≤ 90) ∨ (97 ≤ r ∧ r ≤ 122) ∨ r = 95 ∨ (913 ≤ r ∧ r ≤ 929) ∨ (931 ≤ r ∧ r ≤ 937) ∨ (945 ≤ r ∧ r ≤ 969))
def restB (r : Int) : Bool := startB r || decide ((48 ≤ r ∧ r ≤ 57) ∨ r = 8242 ∨ (8320 ≤ r ∧ r ≤ 8329))
theorem start_j3 (r : Int) (b : Bool) : Ev (fun k => glyph_Start.j3 k r b) (b || decide (945 ≤ r ∧ r ≤ 969)) := by
  cases b
  · refine Ev.step (fun k => by rw [glyph_Start.j3]) (Ev.ncond (by decide) (Ev.ite (fun h => Ev.ite (fun g => Ev.fin ?_) (fun g => Ev.fin ?_)) (fun h => Ev.fin ?_))) <;> simp <;> omega
  · rw [Bool.true_or]; exact Ev.step (fun k => by rw [glyph_Start.j3]) (Ev.cond rfl (Ev.fin rfl))
theorem start_j2 (r : Int) (b : Bool) : Ev (fun k => glyph_Start.j2 k r b) (b || decide ((931 ≤ r ∧ r ≤ 937) ∨ (945 ≤ r ∧ r ≤ 969))) := by
  cases b
  · refine Ev.step (fun k => by rw [glyph_Start.j2]) (Ev.ncond (by decide) (Ev.ite (fun h => ?_) (fun h => ?_)))
    · have := start_j3 r (decide (r ≤ 937))
      rwa [show (decide (r ≤ 937) || decide (945 ≤ r ∧ r ≤ 969)) = (false || decide ((931 ≤ r ∧ r ≤ 937) ∨ (945 ≤ r ∧ r ≤ 969))) by rw [Bool.eq_iff_iff]; simp; omega] at this
    · have := start_j3 r false
      rwa [show (false || decide (945 ≤ r ∧ r ≤ 969)) = (false || decide ((931 ≤ r ∧ r ≤ 937) ∨ (945 ≤ r ∧ r ≤ 969))) by rw [Bool.eq_iff_iff]; simp; omega] at this
  · rw [Bool.true_or]; exact Ev.step (fun k => by rw [glyph_Start.j2]) (Ev.cond rfl (Ev.fin rfl))
theorem start_j1 (r : Int) (b : Bool) : Ev (fun k => glyph_Start.j1 k r b) (b || decide ((913 ≤ r ∧ r ≤ 929) ∨ (931 ≤ r ∧ r ≤ 937) ∨ (945 ≤ r ∧ r ≤ 969))) := by
  cases b
  · refine Ev.step (fun k => by rw [glyph_Start.j1]) (Ev.ncond (by decide) (Ev.ite (fun h => ?_) (fun h => ?_)))
    · have := start_j2 r (decide (r ≤ 929))
      rwa [show (decide (r ≤ 929) || decide ((931 ≤ r ∧ r ≤ 937) ∨ (945 ≤ r ∧ r ≤ 969))) = (false || decide ((913 ≤ r ∧ r ≤ 929) ∨ (931 ≤ r ∧ r ≤ 937) ∨ (945 ≤ r ∧ r ≤ 969))) by rw [Bool.eq_iff_iff]; simp; omega] at this
    · have := start_j2 r false
      rwa [show (false || decide ((931 ≤ r ∧ r ≤ 937) ∨ (945 ≤ r ∧ r ≤ 969))) = (false || decide ((913 ≤ r ∧ r ≤ 929) ∨ (931 ≤ r ∧ r ≤ 937) ∨ (945 ≤ r ∧ r ≤ 969))) by rw [Bool.eq_iff_iff]; simp; omega] at this
  · rw [Bool.true_or]; exact Ev.step (fun k => by rw [glyph_Start.j1]) (Ev.cond rfl (Ev.fin rfl))
theorem start_j0 (r : Int) (b : Bool) : Ev (fun k => glyph_Start.j0 k r b) (b || decide ((97 ≤ r ∧ r ≤ 122) ∨ r = 95 ∨ (913 ≤ r ∧ r ≤ 929) ∨ (931 ≤ r ∧ r ≤ 937) ∨ (945 ≤ r ∧ r ≤ 969))) := by
  cases b
  · refine Ev.step (fun k => by rw [glyph_Start.j0]) (Ev.ncond (by decide) (Ev.ite (fun h => Ev.ite (fun g => ?_) (fun g => ?_)) (fun h => ?_)))
    · have := start_j1 r (decide (r ≤ 122))
      rwa [show (decide (r ≤ 122) || decide ((913 ≤ r ∧ r ≤ 929) ∨ (931 ≤ r ∧ r ≤ 937) ∨ (945 ≤ r ∧ r ≤ 969))) = (false || decide ((97 ≤ r ∧ r ≤ 122) ∨ r = 95 ∨ (913 ≤ r ∧ r ≤ 929) ∨ (931 ≤ r ∧ r ≤ 937) ∨ (945 ≤ r ∧ r ≤ 969))) by rw [Bool.eq_iff_iff]; simp; omega] at this
    · have := start_j1 r (r == 95)
      rwa [show ((r == 95) || decide ((913 ≤ r ∧ r ≤ 929) ∨ (931 ≤ r ∧ r ≤ 937) ∨ (945 ≤ r ∧ r ≤ 969))) = (false || decide ((97 ≤ r ∧ r ≤ 122) ∨ r = 95 ∨ (913 ≤ r ∧ r ≤ 929) ∨ (931 ≤ r ∧ r ≤ 937) ∨ (945 ≤ r ∧ r ≤ 969))) by rw [Bool.eq_iff_iff]; simp; omega] at this
    · have := start_j1 r (r == 95)
      rwa [show ((r == 95) || decide ((913 ≤ r ∧ r ≤ 929) ∨ (931 ≤ r ∧ r ≤ 937) ∨ (945 ≤ r ∧ r ≤ 969))) = (false || decide ((97 ≤ r ∧ r ≤ 122) ∨ r = 95 ∨ (913 ≤ r ∧ r ≤ 929) ∨ (931 ≤ r ∧ r ≤ 937) ∨ (945 ≤ r ∧ r ≤ 969))) by rw [Bool.eq_iff_iff]; simp; omega] at this
  · have := start_j1 r true
    exact Ev.step (fun k => by rw [glyph_Start.j0]) (Ev.cond rfl this)
theorem start_ev (r : Int) : Ev (fun k => glyph_Start.f k r) (startB r) := by
  refine Ev.congr (fun k => by rw [glyph_Start.f]) (Ev.ite (fun h => ?_) (fun h => ?_))
  · have := start_j0 r (decide (r ≤ 90))
    rwa [show (decide (r ≤ 90) || decide ((97 ≤ r ∧ r ≤ 122) ∨ r = 95 ∨ (913 ≤ r ∧ r ≤ 929) ∨ (931 ≤ r ∧ r ≤ 937) ∨ (945 ≤ r ∧ r ≤ 969))) = startB r by rw [startB, Bool.eq_iff_iff]; simp; omega] at this
  · have := start_j0 r false
    rwa [show (false || decide ((97 ≤ r ∧ r ≤ 122) ∨ r = 95 ∨ (913 ≤ r ∧ r ≤ 929) ∨ (931 ≤ r ∧ r ≤ 937) ∨ (945 ≤ r ∧ r ≤ 969))) = startB r by rw [startB, Bool.eq_iff_iff]; simp; omega] at this
theorem rest_ev (r : Int) : Ev (fun k => glyph_Rest.f k r) (restB r) := by
  refine Ev.congr (fun k => by rw [glyph_Rest.f]) (Ev.bind (start_ev r) ?_)
  rw [restB]
  cases startB r
  · refine Ev.ncond (by decide) (Ev.ite (fun h => Ev.ite (fun g => Ev.fin ?_) (fun g => Ev.ite (fun z => Ev.fin ?_) (fun z => Ev.ite (fun y => Ev.fin ?_) (fun y => Ev.fin ?_)))) (fun h => Ev.ite (fun z => Ev.fin ?_) (fun z => Ev.ite (fun y => Ev.fin ?_) (fun y => Ev.fin ?_)))) <;> rw [Bool.false_or, Bool.eq_iff_iff] <;> simp <;> omega
  · exact Ev.cond rfl (Ev.fin rfl)
def resB (s : ByteArray) : Bool := decide (s.toList ∈ [[97, 110, 100], [111, 114], [110, 111, 116], [101, 120], [97, 108, 108], [109, 111, 100], [116, 114, 117, 101], [102, 97, 108, 115, 101]])
theorem res_eq (s : ByteArray) : glyph_Reserved.f s = some (resB s) := by
  unfold glyph_Reserved.f resB
  simp only [List.mem_cons, List.not_mem_nil, or_false]
  repeat' split
  all_goals simp_all
theorem width_pos (s : ByteArray) (pos : Nat) (h : pos < s.size) : 1 ≤ (Utf8.decode s pos).2 := by
  by_cases ha : (s[pos]'h).toNat < 128
  · rw [decode_ascii s pos h ha]
    exact Nat.le_refl _
  · exact (decode_high s pos h (by omega)).2
/-- A name, from a byte on, behind n characters. -/
def nameR : Nat → ByteArray → Nat → Nat → Bool
  | 0, s, _, n => decide (1 ≤ n ∧ n ≤ 16) && !resB s
  | m + 1, s, p, n =>
    if p < s.size then (if (n = 0 → startB ((Utf8.decode s p).1 : Int) = true) ∧ restB ((Utf8.decode s p).1 : Int) = true then nameR m s (p + (Utf8.decode s p).2) (n + 1) else false)
    else decide (1 ≤ n ∧ n ≤ 16) && !resB s
def nameB (s : ByteArray) : Bool := nameR s.size s 0 0
theorem name_end (s : ByteArray) (n : Nat) : Ev (fun k => if (n : Int) > 0 then (if (n : Int) ≤ 16 then (glyph_Reserved.f s).bind fun t => some (!t) else some false) else some false) (decide (1 ≤ n ∧ n ≤ 16) && !resB s) := by
  by_cases h1 : 1 ≤ n
  · by_cases h2 : n ≤ 16
    · refine Ev.cond (by omega) (Ev.cond (by omega) ?_)
      rw [decide_eq_true ⟨h1, h2⟩, Bool.true_and]
      exact Ev.ret (res_eq s) (Ev.fin rfl)
    · rw [decide_eq_false (fun e => h2 e.2)]
      exact Ev.cond (by omega) (Ev.ncond (by omega) (Ev.fin rfl))
  · rw [decide_eq_false (fun e => h1 e.1)]
    exact Ev.ncond (by omega) (Ev.fin rfl)
theorem name_ev (s : ByteArray) (hs : s.size ≤ 9223372036854775807) : Ev (fun k => glyph_Name.f k s) (nameB s) := by
  have key : ∀ (m p n : Nat), s.size ≤ p + m → n ≤ p → (p = 0 ↔ n = 0) → Ev (fun k => glyph_Name.l0 k s p (n : Int)) (nameR m s p n) := by
    intro m
    induction m with
    | zero =>
      intro p n hp hn _
      exact Ev.step (fun k => by rw [glyph_Name.l0]) (Ev.ncond (by omega) (name_end s n))
    | succ m ih =>
      intro p n hp hn hz
      rw [nameR]
      by_cases c : p < s.size
      · rw [if_pos c]
        have hw := width_pos s p c
        refine Ev.step (fun k => by rw [glyph_Name.l0]) (Ev.cond c ?_)
        have st : Ev (fun k => if p = 0 then glyph_Start.f k ((Utf8.decode s p).1 : Int) else some true) (decide (n = 0 → startB ((Utf8.decode s p).1 : Int) = true)) := by
          refine Ev.ite (fun h => ?_) (fun h => Ev.fin ?_)
          · have n0 := hz.1 h
            rw [show decide (n = 0 → startB ((Utf8.decode s p).1 : Int) = true) = startB ((Utf8.decode s p).1 : Int) by rw [Bool.eq_iff_iff]; simp [n0]]
            exact start_ev _
          · have n0 : ¬ n = 0 := fun e => h (hz.2 e)
            exact (decide_eq_true (fun e => absurd e n0)).symm
        refine Ev.bind st (Ev.ite (fun h => Ev.bind (rest_ev _) (Ev.ite (fun g => ?_) (fun g => Ev.fin ?_))) (fun h => Ev.fin ?_))
        · rw [if_pos ⟨of_decide_eq_true h, g⟩, w64 (by omega) (by omega)]
          exact ih (p + (Utf8.decode s p).2) (n + 1) (by omega) (by omega) (by omega)
        · rw [if_neg (fun e => g e.2)]
        · rw [if_neg (fun e => h (decide_eq_true e.1))]
      · rw [if_neg c]
        exact Ev.step (fun k => by rw [glyph_Name.l0]) (Ev.ncond c (name_end s n))
  exact key s.size 0 0 (by omega) (by omega) (by omega)
/-- From a place on: names, each less than the next. -/
def risesR (ns : List ByteArray) : Nat → Nat → Bool
  | 0, _ => true
  | m + 1, i => nameB (rdOf ByteArray.empty ns (i : Int)) && ((decide (i = 0) || Op.bytesLess (rdOf ByteArray.empty ns ((i - 1 : Nat) : Int)).toList (rdOf ByteArray.empty ns (i : Int)).toList) && risesR ns m (i + 1))
def risesB (ns : List ByteArray) : Bool := risesR ns ns.length 0
theorem rises_ev (ns : List ByteArray) (hn : ns.length ≤ 9000000000000000000) (hs : ∀ x ∈ ns, x.size ≤ 9223372036854775807) : Ev (fun k => glyph_Rises.f k ns) (risesB ns) := by
  refine Ev.congr (fun k => by rw [glyph_Rises.f]) ?_
  have key : ∀ (m i : Nat), i + m = ns.length → Ev (fun k => glyph_Rises.l0 k ns ns (ns.length : Int) (i : Int)) (risesR ns m i) := by
    intro m
    induction m with
    | zero =>
      intro i hi
      refine Ev.step (fun k => by rw [glyph_Rises.l0]) (Ev.ncond (by omega) ?_)
      exact Ev.fin rfl
    | succ m ih =>
      intro i hi
      rw [risesR]
      have sz : (rdOf ByteArray.empty ns (i : Int)).size ≤ 9223372036854775807 := by rw [rdOf_get _ ns (show i < ns.length by omega)]; exact hs _ (List.getElem_mem _)
      refine Ev.step (fun k => by rw [glyph_Rises.l0]) (Ev.cond (by omega) (Ev.cond (by omega) (Ev.cond (by omega) (Ev.bind (name_ev _ sz) ?_))))
      refine Ev.ite (fun a => ?_) (fun a => Ev.fin ?_)
      · rw [a, Bool.true_and]
        have nx := ih (i + 1) (by omega)
        refine Ev.ite (fun b => ?_) (fun b => ?_)
        · rw [w64 (x := (i : Int) - 1) (by omega) (by omega), w64 (x := (i : Int) + 1) (by omega) (by omega), show (i : Int) - 1 = ((i - 1 : Nat) : Int) by omega, decide_eq_false (show ¬ i = 0 by omega), Bool.false_or]
          refine Ev.cond (by omega) (Ev.cond (by omega) (Ev.ite (fun c => ?_) (fun c => Ev.fin ?_)))
          · rw [c, Bool.true_and]; exact nx
          · rw [Bool.not_eq_true] at c; rw [c, Bool.false_and]
        · rw [decide_eq_true (show i = 0 by omega), Bool.true_or, Bool.true_and, w64 (by omega) (by omega)]
          exact nx
      · rw [Bool.not_eq_true] at a; rw [a, Bool.false_and]
  exact key ns.length 0 (by omega)
end Go.Proofs.Ythgoonohpfoagaa.Pure
namespace Go.Proofs.Ythgoonohpfoagaa.Pure
open Go.RowKit Go.Proofs.YthgoonohpfoagaaW.PrintWords Go.Proofs.YthgoonohpfoagaaW.PrintLast Go.Proofs.YthgoonohpfoagaaW.PrintMore Go.Proofs.Ythgoonohpfoagaa.X
set_option linter.unusedVariables false
theorem copy_dense {ns : List ByteArray} {ac : List Bool} {nx : List (List Int)} (h0 : ns.length * 16 ≤ 140737488351232) (h1 : ac.length * 1 ≤ 140737488351232) (h2 : nx.length * 24 ≤ 140737488351232) (hq : ∀ r ∈ nx, r.length * 8 ≤ 140737488351232) :
    Ev (fun k => tabardref12_CopyDense.f k ns ac nx) (ns, ac, nx) := by
  refine Ev.congr (fun k => by rw [tabardref12_CopyDense.f]) ?_
  refine Ev.ret rfl ?_
  refine Ev.cond (by simp; omega) ?_
  refine Ev.ret rfl ?_
  refine Ev.cond (by simp; omega) ?_
  rw [List.nil_append, List.nil_append]
  have key : ∀ (m i : Nat), i + m = nx.length → Ev (fun k => tabardref12_CopyDense.l0 k (i : Int) ns ac nx ns ac (nx.take i)) (ns, ac, nx) := by
    intro m
    induction m with
    | zero =>
      intro i hi
      rw [List.take_of_length_le (by omega)]
      exact Ev.step (fun k => by rw [tabardref12_CopyDense.l0]) (Ev.ncond (by omega) (Ev.fin rfl))
    | succ m ih =>
      intro i hi
      have ii : i < nx.length := by omega
      have rl := hq _ (List.getElem_mem ii)
      refine Ev.step (fun k => by rw [tabardref12_CopyDense.l0]) (Ev.cond (by omega) ?_)
      refine Ev.ret rfl ?_
      rw [rdL_get nx ii, List.nil_append, w64 (by omega) (by omega)]
      refine Ev.cond (by omega) (Ev.cond (by simp; omega) (Ev.cond (by rw [List.length_take]; omega) ?_))
      have q := ih (i + 1) (by omega)
      rw [List.take_succ_eq_append_getElem ii] at q
      exact q
  exact key nx.length 0 (by omega)
section
variable {ns : List ByteArray} {ac : List Bool} {nx : List (List Int)}
end
end Go.Proofs.Ythgoonohpfoagaa.Pure
namespace Go.Proofs.Ythgoonohpfoagaa.Pure
open Go.RowKit Go.Proofs.YthgoonohpfoagaaW.PrintWords Go.Proofs.YthgoonohpfoagaaW.PrintLast Go.Proofs.YthgoonohpfoagaaW.PrintMore Go.Proofs.Ythgoonohpfoagaa.X
set_option linter.unusedVariables false
theorem texts_self (l : List ByteArray) (h : l.length ≤ 9000000000000000000) : Ev (fun k => tabardref12_texts.f k l l) true := by
  refine Ev.congr (fun k => by rw [tabardref12_texts.f]) (Ev.cond rfl ?_)
  have key : ∀ (m i : Nat), i + m = l.length → Ev (fun k => tabardref12_texts.l0 k l l (i : Int)) true := by
    intro m
    induction m with
    | zero => intro i hi; exact Ev.step (fun k => by rw [tabardref12_texts.l0]) (Ev.ncond (by omega) (Ev.fin rfl))
    | succ m ih =>
      intro i hi
      refine Ev.step (fun k => by rw [tabardref12_texts.l0]) (Ev.cond (by omega) (Ev.cond (by omega) (Ev.cond (by omega) (Ev.cond rfl ?_))))
      rw [w64 (by omega) (by omega)]
      exact ih (i + 1) (by omega)
  exact key l.length 0 (by omega)
theorem flags_self (l : List Bool) (h : l.length ≤ 9000000000000000000) : Ev (fun k => tabardref12_flags.f k l l) true := by
  refine Ev.congr (fun k => by rw [tabardref12_flags.f]) (Ev.cond rfl ?_)
  have key : ∀ (m i : Nat), i + m = l.length → Ev (fun k => tabardref12_flags.l0 k l l (i : Int)) true := by
    intro m
    induction m with
    | zero => intro i hi; exact Ev.step (fun k => by rw [tabardref12_flags.l0]) (Ev.ncond (by omega) (Ev.fin rfl))
    | succ m ih =>
      intro i hi
      refine Ev.step (fun k => by rw [tabardref12_flags.l0]) (Ev.cond (by omega) (Ev.cond (by omega) (Ev.cond (by omega) (Ev.ncond (by simp) ?_))))
      rw [w64 (by omega) (by omega)]
      exact ih (i + 1) (by omega)
  exact key l.length 0 (by omega)
theorem ints_self (l : List Int) (h : l.length ≤ 9000000000000000000) : Ev (fun k => tabardref12_ints.f k l l) true := by
  refine Ev.congr (fun k => by rw [tabardref12_ints.f]) (Ev.cond rfl ?_)
  have key : ∀ (m i : Nat), i + m = l.length → Ev (fun k => tabardref12_ints.l0 k l l (i : Int)) true := by
    intro m
    induction m with
    | zero => intro i hi; exact Ev.step (fun k => by rw [tabardref12_ints.l0]) (Ev.ncond (by omega) (Ev.fin rfl))
    | succ m ih =>
      intro i hi
      refine Ev.step (fun k => by rw [tabardref12_ints.l0]) (Ev.cond (by omega) (Ev.cond (by omega) (Ev.cond (by omega) (Ev.cond rfl ?_))))
      rw [w64 (by omega) (by omega)]
      exact ih (i + 1) (by omega)
  exact key l.length 0 (by omega)
theorem dense_self {ns : List ByteArray} {ac : List Bool} {nx : List (List Int)} (h0 : ns.length ≤ 9000000000000000000) (h1 : ac.length ≤ 9000000000000000000) (h2 : nx.length ≤ 9000000000000000000) (hr : ∀ r ∈ nx, r.length ≤ 9000000000000000000) :
    Ev (fun k => tabardref12_SameDense.f k ns ac nx ns ac nx) true := by
  refine Ev.congr (fun k => by rw [tabardref12_SameDense.f]) (Ev.bind (texts_self ns h0) (Ev.cond rfl (Ev.bind (flags_self ac h1) (Ev.cond rfl ?_))))
  rw [show ((nx.length : Int) != (nx.length : Int)) = false by simp]
  refine Ev.step (fun k => by rw [tabardref12_SameDense.j0]) (Ev.ncond (by decide) ?_)
  have key : ∀ (m i : Nat), i + m = nx.length → Ev (fun k => tabardref12_SameDense.l0 k (i : Int) ns ac nx ns ac nx) true := by
    intro m
    induction m with
    | zero =>
      intro i hi
      exact Ev.step (fun k => by rw [tabardref12_SameDense.l0]) (Ev.ncond (by omega) (Ev.fin rfl))
    | succ m ih =>
      intro i hi
      have ii : i < nx.length := by omega
      have c := ints_self (rd_L3 nx (i : Int)) (by rw [show rd_L3 nx (i : Int) = nx[i] by simp [rd_L3, List.getD_eq_getElem?_getD, ii]]; exact hr _ (List.getElem_mem ii))
      refine Ev.step (fun k => by rw [tabardref12_SameDense.l0]) (Ev.cond (by omega) (Ev.cond (by omega) (Ev.cond (by omega) (Ev.bind c (Ev.cond rfl ?_)))))
      rw [w64 (by omega) (by omega)]
      exact ih (i + 1) (by omega)
  exact key nx.length 0 (by omega)
theorem normal_self (a b c : Int) (ns : List ByteArray) (cs : List Int) (h0 : ns.length ≤ 9000000000000000000) (h1 : cs.length ≤ 9000000000000000000) : Ev (fun k => tabardlaw14_same.f k a ns cs b c a ns cs b c) true := by
  refine Ev.congr (fun k => by rw [tabardlaw14_same.f]) (Ev.cond rfl (Ev.cond rfl (Ev.cond rfl (Ev.cond rfl ?_))))
  rw [show ((cs.length : Int) != (cs.length : Int)) = false by simp]
  refine Ev.step (fun k => by rw [tabardlaw14_same.j0]) (Ev.ncond (by decide) ?_)
  have two : ∀ (m i : Nat), i + m = cs.length → Ev (fun k => tabardlaw14_same.l1 k (cs.length : Int) (i : Int) a ns cs b c a ns cs b c) true := by
    intro m
    induction m with
    | zero => intro i hi; exact Ev.step (fun k => by rw [tabardlaw14_same.l1]) (Ev.ncond (by omega) (Ev.fin rfl))
    | succ m ih =>
      intro i hi
      refine Ev.step (fun k => by rw [tabardlaw14_same.l1]) (Ev.cond (by omega) (Ev.cond (by omega) (Ev.cond (by omega) (Ev.cond (by omega) (Ev.cond rfl ?_)))))
      rw [w64 (by omega) (by omega)]
      exact ih (i + 1) (by omega)
  have t0 : Ev (fun k => tabardlaw14_same.l1 k (cs.length : Int) 0 a ns cs b c a ns cs b c) true := two cs.length 0 (by omega)
  have one : ∀ (m i : Nat), i + m = ns.length → Ev (fun k => tabardlaw14_same.l0 k (ns.length : Int) (i : Int) a ns cs b c a ns cs b c) true := by
    intro m
    induction m with
    | zero => intro i hi; exact Ev.step (fun k => by rw [tabardlaw14_same.l0]) (Ev.ncond (by omega) t0)
    | succ m ih =>
      intro i hi
      refine Ev.step (fun k => by rw [tabardlaw14_same.l0]) (Ev.cond (by omega) (Ev.cond (by omega) (Ev.cond (by omega) (Ev.cond (by omega) (Ev.cond rfl ?_)))))
      rw [w64 (by omega) (by omega)]
      exact ih (i + 1) (by omega)
  exact one ns.length 0 (by omega)
theorem copied_eq {a b c : Int} {ns : List ByteArray} {cs : List Int} (h0 : ns.length * 16 ≤ 140737488351232) (h1 : cs.length * 8 ≤ 140737488351232) : tabardlaw14_copied.f a ns cs b c = some (a, ns, cs, b, c) := by
  simp only [tabardlaw14_copied.f, Option.bind_some, List.nil_append, List.length_nil, Nat.zero_add]
  rw [if_pos (by omega), if_pos (by omega)]
/-! ### Check -/
/-- The sum of the absolute values. -/
def absS : List Int → Int
  | [] => 0
  | a :: l => (a.natAbs : Int) + absS l
theorem absS_nonneg : ∀ l : List Int, 0 ≤ absS l
  | [] => Int.le_refl _
  | a :: l => by have := absS_nonneg l; simp only [absS]; omega
theorem abs_eq {a : Int} (h : (Lit.int .i64 a).wf = true) : chk_Abs.f a = if (a.natAbs : Int) ≤ 9223372036854775807 then some ((a.natAbs : Int), 0) else some (0, 10) := by
  obtain ⟨h0, h1⟩ := i64_wf h
  unfold chk_Abs.f chk_Neg.f chk_Sub.f
  by_cases c : a < 0
  · rw [if_pos c, if_pos (by rw [decide_eq_true (show (0 : Int) ≥ 0 by omega), decide_eq_false (show ¬ a ≥ 0 by omega)]; rfl)]
    by_cases m : a = -9223372036854775808
    · subst m; decide +kernel
    · rw [w64 (by omega) (by omega), decide_eq_true (show 0 - a ≥ 0 by omega), decide_eq_true (show (0 : Int) ≥ 0 by omega), if_neg (by decide), if_pos (by omega)]
      simp only [Option.bind_some]
      rw [show (0 : Int) - a = (a.natAbs : Int) by omega]
  · rw [if_neg c, if_pos (by omega), show (a.natAbs : Int) = a by omega]
theorem add_eq {a b : Int} (h0 : 0 ≤ a) (h1 : a ≤ 9223372036854775807) (h2 : 0 ≤ b) (h3 : b ≤ 9223372036854775807) : chk_Add.f a b = if a + b ≤ 9223372036854775807 then some (a + b, 0) else some (0, 10) := by
  unfold chk_Add.f
  rw [decide_eq_true (show a ≥ 0 from h0), decide_eq_true (show b ≥ 0 from h2), if_pos (by decide)]
  by_cases c : a + b ≤ 9223372036854775807
  · rw [w64 (by omega) c, decide_eq_true (show a + b ≥ 0 by omega), if_neg (by decide), if_pos c]
  · rw [if_neg c, decide_eq_false (show ¬ wrap64 (a + b) ≥ 0 by unfold wrap64; omega), if_pos (by decide)]
theorem total_ev (l : List Int) (hl : l.length ≤ 9000000000000000000) (hw : ∀ x ∈ l, (Lit.int .i64 x).wf = true) :
    Ev (fun k => chk_Total.f k l) (if absS l ≤ 9223372036854775807 then (absS l, 0) else (0, 10)) := by
  refine Ev.congr (fun k => by rw [chk_Total.f]) ?_
  have key : ∀ (m i : Nat) (x : Int), i + m = l.length → 0 ≤ x → x ≤ 9223372036854775807 → Ev (fun k => chk_Total.l0 k x l (l.length : Int) (i : Int)) (if x + absS (l.drop i) ≤ 9223372036854775807 then (x + absS (l.drop i), 0) else (0, 10)) := by
    intro m
    induction m with
    | zero =>
      intro i x hi h0 h1
      rw [List.drop_of_length_le (by omega), absS, Int.add_zero, if_pos h1]
      exact Ev.step (fun k => by rw [chk_Total.l0]) (Ev.ncond (by omega) (Ev.fin rfl))
    | succ m ih =>
      intro i x hi h0 h1
      have ii : i < l.length := by omega
      have hx := hw _ (List.getElem_mem ii)
      have hd : absS (l.drop i) = ((l[i]).natAbs : Int) + absS (l.drop (i + 1)) := by rw [List.drop_eq_getElem_cons ii, absS]
      have h3 := absS_nonneg (l.drop (i + 1))
      refine Ev.step (fun k => by rw [chk_Total.l0]) (Ev.cond (by omega) (Ev.cond (by omega) (Ev.cond (by omega) ?_)))
      rw [show rd l (i : Int) = l[i] by simp [rd, List.getD_eq_getElem?_getD, ii]]
      have ha := abs_eq hx
      by_cases c : ((l[i]).natAbs : Int) ≤ 9223372036854775807
      · rw [if_pos c] at ha
        refine Ev.ret ha (Ev.cond rfl ?_)
        have hb := add_eq h0 h1 (by omega : (0 : Int) ≤ ((l[i]).natAbs : Int)) c
        by_cases d : x + ((l[i]).natAbs : Int) ≤ 9223372036854775807
        · rw [if_pos d] at hb
          refine Ev.ret hb (Ev.cond rfl ?_)
          rw [w64 (by omega) (by omega), hd, ← Int.add_assoc]
          exact ih (i + 1) _ (by omega) (by omega) d
        · rw [if_neg d] at hb
          refine Ev.ret hb (Ev.ncond (by decide) (Ev.fin ?_))
          rw [if_neg (by omega)]
      · rw [if_neg c] at ha
        refine Ev.ret ha (Ev.ncond (by decide) (Ev.fin ?_))
        rw [if_neg (by omega)]
  have := key l.length 0 0 (by omega) (by omega) (by omega)
  simpa using this
/-- Is a normal atom right? -/
def goodB (kind : Int) (names : List ByteArray) (coefs : List Int) (bound md : Int) : Bool :=
  decide (0 ≤ kind) && (decide (kind ≤ 2) && (risesB names && (decide (names.length = coefs.length) && (decide (absS (bound :: coefs) ≤ 9223372036854775807) &&
    if kind = 2 then decide (1 ≤ md) && (bound :: coefs).all (fun c => decide (0 ≤ c) && decide (c < md)) else decide (md = 0)))))
theorem tail_ev (kind bound md : Int) (names : List ByteArray) (coefs : List Int) (l : List Int) (hl : l.length ≤ 9000000000000000000) :
    ∀ (m i : Nat) (b : Bool), i + m = l.length → Ev (fun k => norm_Check.l0 k b l (l.length : Int) (i : Int) kind names coefs bound md) (if (b && (l.drop i).all (fun c => decide (0 ≤ c) && decide (c < md))) = true then 0 else 3) := by
  intro m
  induction m with
  | zero =>
    intro i b hi
    rw [List.drop_of_length_le (by omega), List.all_nil, Bool.and_true]
    exact Ev.step (fun k => by rw [norm_Check.l0]) (Ev.ncond (by omega) (Ev.ite (fun h => Ev.fin (if_pos h).symm) (fun h => Ev.fin (if_neg h).symm)))
  | succ m ih =>
    intro i b hi
    have ii : i < l.length := by omega
    refine Ev.step (fun k => by rw [norm_Check.l0]) (Ev.cond (by omega) (Ev.cond (by omega) (Ev.cond (by omega) ?_)))
    rw [show rd l (i : Int) = l[i] by simp [rd, List.getD_eq_getElem?_getD, ii], List.drop_eq_getElem_cons ii, List.all_cons, w64 (by omega) (by omega)]
    refine Ev.ite (fun hb => Ev.ite (fun hc => ?_) (fun hc => ?_)) (fun hb => ?_)
    · rw [hb, Bool.true_and, decide_eq_true (show 0 ≤ l[i] from hc), Bool.true_and]
      exact ih (i + 1) _ (by omega)
    · rw [hb, decide_eq_false (show ¬ 0 ≤ l[i] from hc), Bool.false_and, Bool.false_and, Bool.and_false]
      have := ih (i + 1) false (by omega)
      rw [Bool.false_and] at this
      exact this
    · rw [Bool.not_eq_true] at hb
      rw [hb, Bool.false_and]
      have := ih (i + 1) false (by omega)
      rw [Bool.false_and] at this
      exact this
theorem check_ev (kind bound md : Int) (names : List ByteArray) (coefs : List Int) (h0 : names.length * 16 ≤ 140737488351232) (hs : ∀ x ∈ names, x.size ≤ 9223372036854775807) (h1 : coefs.length * 8 ≤ 140737488351232)
    (hw : ∀ x ∈ coefs, (Lit.int .i64 x).wf = true) (hb : (Lit.int .i64 bound).wf = true) :
    Ev (fun k => norm_Check.f k kind names coefs bound md) (if goodB kind names coefs bound md = true then 0 else 3) := by
  have tail : ∀ b : Bool, Ev (fun k => norm_Check.j0 k (bound :: coefs) b kind names coefs bound md) (if (b && if kind = 2 then decide (1 ≤ md) && (bound :: coefs).all (fun c => decide (0 ≤ c) && decide (c < md)) else decide (md = 0)) = true then 0 else 3) := by
    intro b
    refine Ev.step (fun k => by rw [norm_Check.j0]) (Ev.ite (fun hk => ?_) (fun hk => ?_))
    · rw [if_pos hk]
      refine Ev.ite (fun c => ?_) (fun c => ?_)
      · rw [c, Bool.true_and]
        have := tail_ev kind bound md names coefs (bound :: coefs) (by simp only [List.length_cons]; omega) (bound :: coefs).length 0 (decide (md ≥ 1)) (by omega)
        rw [List.drop_zero] at this
        have this' : Ev (fun k => norm_Check.l0 k (decide (md ≥ 1)) (bound :: coefs) ((bound :: coefs).length : Int) 0 kind names coefs bound md) _ := this
        exact Ev.step (fun k => by rw [norm_Check.j1]) this'
      · rw [Bool.not_eq_true] at c
        rw [c, Bool.false_and]
        have := tail_ev kind bound md names coefs (bound :: coefs) (by simp only [List.length_cons]; omega) (bound :: coefs).length 0 false (by omega)
        rw [Bool.false_and] at this
        have this' : Ev (fun k => norm_Check.l0 k false (bound :: coefs) ((bound :: coefs).length : Int) 0 kind names coefs bound md) _ := this
        exact Ev.step (fun k => by rw [norm_Check.j1]) this'
    · rw [if_neg hk]
      refine Ev.ite (fun c => ?_) (fun c => ?_)
      · rw [c, Bool.true_and]
        exact Ev.ite (fun d => Ev.fin (if_pos (decide_eq_true d)).symm) (fun d => Ev.fin (if_neg (by simpa using d)).symm)
      · rw [Bool.not_eq_true] at c
        rw [c, Bool.false_and]
        exact Ev.fin rfl
  have no : ∀ {x : Bool}, x = false → Ev (fun k => norm_Check.j0 k (bound :: coefs) false kind names coefs bound md) (if x = true then 0 else 3) := by
    intro x hx
    have := tail false
    rw [Bool.false_and] at this
    rw [hx]; exact this
  refine Ev.congr (fun k => by rw [norm_Check.f]) ?_
  refine Ev.ret rfl ?_
  refine Ev.cond (by simp only [List.length_singleton]; omega) ?_
  refine Ev.ret rfl ?_
  rw [List.singleton_append]
  refine Ev.bind (total_ev (bound :: coefs) (by simp only [List.length_cons]; omega) (fun x hx => by rcases List.mem_cons.1 hx with rfl | hx; exact hb; exact hw x hx)) ?_
  unfold goodB
  refine Ev.ite (fun c0 => Ev.ite (fun c1 => ?_) (fun c1 => no (by rw [decide_eq_false c1]; simp))) (fun c0 => no (by rw [decide_eq_false c0]; simp))
  rw [decide_eq_true (show 0 ≤ kind from c0), decide_eq_true c1, Bool.true_and, Bool.true_and]
  refine Ev.bind (rises_ev names (by omega) hs) (Ev.ite (fun c2 => Ev.ite (fun c3 => ?_) (fun c3 => no (by rw [decide_eq_false (by omega)]; simp))) (fun c2 => no (by rw [Bool.not_eq_true] at c2; rw [c2]; simp)))
  rw [c2, Bool.true_and, decide_eq_true (show names.length = coefs.length by omega), Bool.true_and]
  have := tail ((if absS (bound :: coefs) ≤ 9223372036854775807 then (absS (bound :: coefs), (0 : Int)) else (0, 10)).2 == 0)
  rw [show ((if absS (bound :: coefs) ≤ 9223372036854775807 then (absS (bound :: coefs), (0 : Int)) else (0, 10)).2 == 0) = decide (absS (bound :: coefs) ≤ 9223372036854775807) by
    by_cases d : absS (bound :: coefs) ≤ 9223372036854775807
    · rw [if_pos d, decide_eq_true d]; rfl
    · rw [if_neg d, decide_eq_false d]; rfl] at this
  rw [show ((if absS (bound :: coefs) ≤ 9223372036854775807 then (absS (bound :: coefs), (0 : Int)) else (0, 10)).2 == 0) = decide (absS (bound :: coefs) ≤ 9223372036854775807) by
    by_cases d : absS (bound :: coefs) ≤ 9223372036854775807
    · rw [if_pos d, decide_eq_true d]; rfl
    · rw [if_neg d, decide_eq_false d]; rfl]
  exact this
end Go.Proofs.Ythgoonohpfoagaa.Pure
namespace Go.Proofs.Ythgoonohpfoagaa.Pure
open Go.RowKit Go.Proofs.YthgoonohpfoagaaW.PrintWords Go.Proofs.YthgoonohpfoagaaW.PrintLast Go.Proofs.YthgoonohpfoagaaW.PrintMore Go.Proofs.Ythgoonohpfoagaa.X
set_option linter.unusedVariables false
theorem Ev.fin' {α : Type} {g : Option α} {r : α} (h : g = some r) : Ev (fun _ => g) r := by rw [h]; exact Ev.now r
theorem and1 (a : Int) : Go.bits .and .i64 a 1 = a % 2 := by
  have e1 : (BitVec.ofInt 64 1).toNat = 1 := by decide
  have e2 : (BitVec.ofInt 64 a).toNat = (a % 18446744073709551616).toNat := by rw [BitVec.toNat_ofInt]; rfl
  have h : Go.bits .and .i64 a 1 = IntKind.i64.wrap ((BitVec.ofInt 64 a &&& BitVec.ofInt 64 1).toNat : Int) := rfl
  rw [h, BitVec.toNat_and, e1, e2, Nat.and_one_is_mod, IntKind.wrap_i64]
  omega
def R64 (x : Int) : Prop := -9223372036854775808 ≤ x ∧ x ≤ 9223372036854775807
theorem R64.wf {x : Int} (h : R64 x) : (Lit.int .i64 x).wf = true := by
  obtain ⟨h0, h1⟩ := h
  simp [Lit.wf, IntKind.min, IntKind.max, IntKind.signed, IntKind.bits]; omega
theorem R64.wrap (x : Int) : R64 (wrap64 x) := by unfold R64 wrap64; omega
/-- A place: its numbers; a congruence's modulus is 1 or more. -/
structure PlOk (kind : Int) (p : atom_Raw.Place) : Prop where
  rest : R64 p.1
  md : R64 p.2.1
  one : p.2.2.2.1 = false → kind = 2 → 1 ≤ p.2.1
theorem PlOk.nothing (kind : Int) : PlOk kind (0, 0, false, true, false) := ⟨⟨by decide, by decide⟩, ⟨by decide, by decide⟩, fun h => by cases h⟩
theorem halved_some (r s : Int) : ∃ h, atom_halved.f r s = some h ∧ R64 h := by
  unfold atom_halved.f chk_Half.f
  simp only [Option.bind_some]
  by_cases c : Go.bits .and .i64 r 1 = 0
  · rw [if_pos c]
    by_cases d : Go.bits .and .i64 s 1 = 1
    · rw [if_pos d]; exact ⟨_, rfl, R64.wrap _⟩
    · rw [if_neg d]; exact ⟨_, rfl, R64.wrap _⟩
  · rw [if_neg c]; exact ⟨_, rfl, R64.wrap _⟩
theorem rest_some {a m : Int} (ha : R64 a) (h1 : 1 ≤ m) (h2 : m ≤ 9223372036854775807) : ∃ r e, chk_Rest.f a m = some (r, e) ∧ R64 r := by
  unfold chk_Rest.f
  rw [if_neg (by omega), if_neg (by omega)]
  by_cases c : Int.tmod a m < 0
  · rw [if_pos c]; exact ⟨_, _, rfl, R64.wrap _⟩
  · rw [if_neg c]
    have h3 := Int.tmod_lt_of_pos a (show 0 < m by omega)
    exact ⟨_, _, rfl, by omega, by omega⟩
theorem to_total {kind : Int} (h0 : 0 ≤ kind) (h2 : kind ≤ 2) {p : atom_Raw.Place} (hp : PlOk kind p) (s : Int) : ∃ z, atom_Raw.to kind p s = some z ∧ PlOk kind z := by
  have fin : ∀ z : atom_Raw.Place, atom_next.f kind p.1 p.2.1 p.2.2.1 p.2.2.2.1 p.2.2.2.2 s = some z → PlOk kind z → ∃ z, atom_Raw.to kind p s = some z ∧ PlOk kind z := fun z hz ok => by
    refine ⟨z, ?_, ok⟩
    unfold atom_Raw.to
    rw [hz, Option.bind_some, if_pos ok.rest.wf, if_pos ok.md.wf]
  by_cases n : p.2.2.2.1 = true
  · exact fin (0, 0, false, true, false) (by unfold atom_next.f; rw [if_pos n]) (PlOk.nothing kind)
  · have n' : p.2.2.2.1 = false := by simpa using n
    have z0 : ∀ (x y : Int) (b : Bool), R64 x → R64 y → (kind = 2 → 1 ≤ y) → PlOk kind (x, y, false, false, b) := fun x y b hx hy h => ⟨hx, hy, fun _ => h⟩
    have r0 : R64 0 := ⟨by decide, by decide⟩
    by_cases k0 : kind = 0
    · obtain ⟨h, e, ok⟩ := halved_some p.1 s
      exact fin (h, 0, false, false, decide (p.1 ≥ wrap64 (-s))) (by unfold atom_next.f; rw [if_neg n, if_pos k0, e]; rfl) (z0 _ _ _ ok r0 (by omega))
    · by_cases k1 : kind = 1
      · obtain ⟨h, e, ok⟩ := halved_some p.1 s
        cases ev : (Go.bits .and .i64 p.1 1 == Go.bits .and .i64 s 1) with
        | true => exact fin (h, 0, false, false, p.1 == wrap64 (-s)) (by unfold atom_next.f; rw [if_neg n, if_neg k0, if_pos k1, atom_even.f, ev, Option.bind_some, if_pos rfl, e]; rfl) (z0 _ _ _ ok r0 (by omega))
        | false => exact fin (0, 0, false, true, false) (by unfold atom_next.f; rw [if_neg n, if_neg k0, if_pos k1, atom_even.f, ev, Option.bind_some, if_neg (by decide)]) (PlOk.nothing kind)
      · have k2 : kind = 2 := by omega
        have m1 := hp.one n' k2
        have m2 := hp.md.2
        have hc : ∃ z, atom_congruent.f p.1 p.2.1 p.2.2.1 p.2.2.2.1 p.2.2.2.2 s = some z ∧ PlOk kind z := by
          unfold atom_congruent.f
          rw [if_neg (by omega)]
          by_cases ce : Go.bits .and .i64 p.2.1 1 = 0
          · rw [if_pos ce]
            rw [and1] at ce
            by_cases cd : Go.bits .and .i64 (wrap64 (p.1 - Int.tmod s p.2.1)) 1 = 0
            · rw [if_pos cd, chk_Half.f, Option.bind_some]
              have hd : Int.tdiv p.2.1 2 = p.2.1 / 2 := Int.tdiv_eq_ediv_of_nonneg (by omega)
              have hw : wrap64 (Int.tdiv p.2.1 2) = p.2.1 / 2 := by rw [hd]; exact w64 (by omega) (by omega)
              rw [hw]
              obtain ⟨r, e, er, ok⟩ := rest_some (a := wrap64 (p.1 - Int.tmod s p.2.1) / 2) (m := p.2.1 / 2) (by have := R64.wrap (p.1 - Int.tmod s p.2.1); unfold R64 at this ⊢; omega) (by omega) (by omega)
              rw [er, Option.bind_some]
              exact ⟨_, rfl, z0 _ _ _ ok ⟨by omega, by omega⟩ (fun _ => by omega)⟩
            · rw [if_neg cd]
              exact ⟨_, rfl, PlOk.nothing kind⟩
          · rw [if_neg ce]
            by_cases c1 : wrap64 (p.1 - Int.tmod s p.2.1) < 0
            · rw [if_pos c1]
              by_cases c2 : Go.bits .and .i64 (wrap64 (wrap64 (p.1 - Int.tmod s p.2.1) + p.2.1)) 1 = 0
              · rw [if_pos c2]; exact ⟨_, rfl, z0 _ _ _ (R64.wrap _) hp.md (fun _ => m1)⟩
              · rw [if_neg c2]; exact ⟨_, rfl, z0 _ _ _ (R64.wrap _) hp.md (fun _ => m1)⟩
            · rw [if_neg c1]
              by_cases c2 : Go.bits .and .i64 (wrap64 (p.1 - Int.tmod s p.2.1)) 1 = 0
              · rw [if_pos c2]; exact ⟨_, rfl, z0 _ _ _ (R64.wrap _) hp.md (fun _ => m1)⟩
              · rw [if_neg c2]; exact ⟨_, rfl, z0 _ _ _ (R64.wrap _) hp.md (fun _ => m1)⟩
        obtain ⟨z, hz, ok⟩ := hc
        exact fin z (by unfold atom_next.f; rw [if_neg n, if_neg k0, if_neg k1, hz]; rfl) ok
/-- One row comes out. -/
theorem row_total {kind : Int} (h0 : 0 ≤ kind) (h2 : kind ≤ 2) {p : atom_Raw.Place} (hp : PlOk kind p) : ∀ (l : List Int) (a : Nat) (ps : List atom_Raw.Place) (xs : List Int), (∀ q ∈ ps, PlOk kind q) → ps.length ≤ 256 →
    ∃ b ps' xs', atom_Raw.row kind p l a ps xs = some (b, ps', xs') ∧ xs'.length = xs.length ∧ (b = true → (∀ q ∈ ps', PlOk kind q) ∧ ps'.length ≤ 256 ∧ ps.length ≤ ps'.length)
  | [], a, ps, xs, hps, hl => ⟨true, ps, xs, rfl, rfl, fun _ => ⟨hps, hl, Nat.le_refl _⟩⟩
  | s :: l, a, ps, xs, hps, hl => by
    obtain ⟨z, hz, ok⟩ := to_total h0 h2 hp s
    rw [atom_Raw.row, hz, Option.bind_some]
    by_cases c : z ∈ ps
    · rw [if_pos c]
      obtain ⟨b, ps', xs', e, h3, h4⟩ := row_total h0 h2 hp l (a + 1) ps (xs.set a ((num1 ps z : Nat) : Int)) hps hl
      exact ⟨b, ps', xs', e, by rw [h3, List.length_set], h4⟩
    · rw [if_neg c]
      by_cases d : ps.length = 256
      · rw [if_pos d]
        exact ⟨false, ps, xs, rfl, rfl, fun h => by cases h⟩
      · rw [if_neg d]
        obtain ⟨b, ps', xs', e, h3, h4⟩ := row_total h0 h2 hp l (a + 1) (ps ++ [z]) (xs.set a ((ps.length : Nat) : Int)) (fun q hq => by
          rcases List.mem_append.1 hq with hq | hq
          · exact hps q hq
          · rw [List.mem_singleton.1 hq]; exact ok) (by simp; omega)
        exact ⟨b, ps', xs', e, by rw [h3, List.length_set], fun hb => by have := h4 hb; exact ⟨this.1, this.2.1, by have := this.2.2; simp at this; omega⟩⟩
theorem getD_mem {α : Type} (d : α) : ∀ (l : List α) (i : Nat), i < l.length → l.getD i d ∈ l := fun l i h => by
  rw [List.getD_eq_getElem?_getD, List.getElem?_eq_getElem h]; exact List.getElem_mem h
theorem go_total {kind : Int} (h0 : 0 ≤ kind) (h2 : kind ≤ 2) (letters : List Int) : ∀ (k q : Nat) (ps : List atom_Raw.Place) (ac : List Bool) (nx : List (List Int)), (∀ p ∈ ps, PlOk kind p) → ps.length ≤ 256 → 257 ≤ q + k → q ≤ ps.length → ac.length = q → nx.length = q → (∀ r ∈ nx, r.length = letters.length) →
    ∃ z, atom_Raw.go kind letters k q ps ac nx = some z ∧ z.2.1.length = z.2.2.length ∧ z.2.1.length ≤ 256 ∧ (∀ r ∈ z.2.2, r.length = letters.length)
  | 0, q, ps, ac, nx, hps, hl, hk, hq, ha, hn, hr => by omega
  | k + 1, q, ps, ac, nx, hps, hl, hk, hq, ha, hn, hr => by
    rw [atom_Raw.go]
    by_cases c : q < ps.length
    · rw [if_pos c]
      obtain ⟨b, ps', xs', e, h3, h4⟩ := row_total h0 h2 (hps _ (getD_mem atom_Raw.noPlace ps q c)) letters 0 ps (List.replicate letters.length 0) hps hl
      rw [e, Option.bind_some]
      cases b with
      | true =>
        rw [if_pos rfl]
        obtain ⟨h5, h6, h7⟩ := h4 rfl
        refine go_total h0 h2 letters k (q + 1) ps' _ _ h5 h6 (by omega) (by omega) (by simp [ha]) (by simp [hn]) (fun r hr' => ?_)
        rcases List.mem_append.1 hr' with hr' | hr'
        · exact hr r hr'
        · rw [List.mem_singleton.1 hr']
          have h3' : xs'.length = (List.replicate letters.length (0 : Int)).length := h3
          rw [List.length_replicate] at h3'
          exact h3'
      | false =>
        rw [if_neg (by simp)]
        exact ⟨_, rfl, by rw [ha, hn], by simp only; omega, hr⟩
    · rw [if_neg c]
      exact ⟨_, rfl, by rw [ha, hn], by simp only; omega, hr⟩
/-- The machine, or why there is none. -/
theorem raw_total {kind bound md : Int} {names : List ByteArray} {coefs : List Int} (h0 : names.length * 16 ≤ 140737488351232) (hs : ∀ x ∈ names, x.size ≤ 9223372036854775807) (h1 : coefs.length * 8 ≤ 140737488351232)
    (hw : ∀ x ∈ coefs, (Lit.int .i64 x).wf = true) (hb : (Lit.int .i64 bound).wf = true) (hm : (Lit.int .i64 md).wf = true) :
    ∃ tr ac nx er, Ev (fun k => atom_Raw.f k kind names coefs bound md) (tr, ac, nx, er) ∧ tr.length ≤ 6 ∧ ac.length ≤ 256 ∧ nx.length ≤ 256 ∧ ∀ r ∈ nx, r.length ≤ 64 := by
  have hc := check_ev kind bound md names coefs h0 hs h1 hw hb
  cases g : goodB kind names coefs bound md with
  | false =>
    rw [g, if_neg (by decide)] at hc
    exact ⟨[], [], [], 3, Ev.congr (fun k => by rw [atom_Raw.f]) (Ev.bind hc (Ev.ncond (show ¬ ((3 : Int) = 0) by decide) (Ev.fin rfl))), by decide, by decide, by decide, fun r h => by cases h⟩
  | true =>
    rw [g, if_pos rfl] at hc
    unfold goodB at g
    simp only [Bool.and_eq_true, decide_eq_true_eq] at g
    obtain ⟨g0, g1, g2, g3, g4, g5⟩ := g
    by_cases c : (6 : Int) < (names.length : Int)
    · exact ⟨[], [], [], 150, Ev.congr (fun k => by rw [atom_Raw.f]) (Ev.bind hc (Ev.cond rfl (Ev.cond c (Ev.fin rfl)))), by decide, by decide, by decide, fun r h => by cases h⟩
    · have hcl : slices_Clone_string_string.f names = some names := by unfold slices_Clone_string_string.f; exact if_pos (by omega)
      have hsl : atom_sums.f coefs = some (atom_sums.L [0] coefs) := by unfold atom_sums.f; exact if_pos (by omega)
      have hL : ∀ (l acc : List Int), (atom_sums.L acc l).length = acc.length * 2 ^ l.length := by
        intro l
        induction l with
        | nil => intro acc; simp [atom_sums.L]
        | cons c l ih => intro acc; rw [atom_sums.L, ih, List.length_append, List.length_map, List.length_cons, Nat.pow_succ, Nat.add_mul, Nat.mul_comm (2 ^ l.length) 2, ← Nat.mul_assoc, Nat.mul_two, Nat.add_mul]
      have h64 : (atom_sums.L [0] coefs).length ≤ 64 := by
        rw [hL, List.length_singleton, Nat.one_mul]
        exact Nat.le_trans (Nat.pow_le_pow_right (by decide) (show coefs.length ≤ 6 by omega)) (by decide)
      have ok : PlOk kind (bound, md, true, false, false) := ⟨i64_wf hb, i64_wf hm, fun _ hk => by
        rw [if_pos hk, Bool.and_eq_true, decide_eq_true_eq] at g5
        exact g5.1⟩
      obtain ⟨z, hz, z1, z2, z3⟩ := go_total g0 g1 (atom_sums.L [0] coefs) 257 0 [(bound, md, true, false, false)] [] [] (fun p hp => by rw [List.mem_singleton.1 hp]; exact ok) (by simp) (by omega) (by simp) rfl rfl (fun r h => by cases h)
      cases hz1 : z.1 with
      | true =>
        refine ⟨names, z.2.1, z.2.2, 0, Ev.congr (fun k => by rw [atom_Raw.f]) (Ev.bind hc (Ev.cond rfl (Ev.ncond c (Ev.fin' ?_)))), by omega, z2, by omega, fun r h => by rw [z3 r h]; exact h64⟩
        rw [hcl, Option.bind_some, hsl, Option.bind_some, if_pos hb, if_pos hm, hz, Option.bind_some, if_pos hz1]
      | false =>
        refine ⟨[], [], [], 140, Ev.congr (fun k => by rw [atom_Raw.f]) (Ev.bind hc (Ev.cond rfl (Ev.ncond c (Ev.fin' ?_)))), by decide, by decide, by decide, fun r h => by cases h⟩
        rw [hcl, Option.bind_some, hsl, Option.bind_some, if_pos hb, if_pos hm, hz, Option.bind_some, if_neg (by rw [hz1]; decide)]
end Go.Proofs.Ythgoonohpfoagaa.Pure
namespace Go.Proofs.Ythgoonohpfoagaa.Pure
open Go.RowKit Go.Proofs.YthgoonohpfoagaaW.PrintWords Go.Proofs.YthgoonohpfoagaaW.PrintLast Go.Proofs.YthgoonohpfoagaaW.PrintMore Go.Proofs.Ythgoonohpfoagaa.X
set_option linter.unusedVariables false
theorem fixed14 : Ev (fun k => tabardlaw14_fixed.f k) true := Ev.of (fun k => tabardlaw14_fixed.mono k) (k := 300) (by decide +kernel)
theorem AtomMemory (kind : Int) (hkw : (Lit.int .i64 kind).wf = true) (names : List ByteArray) (h0 : names.length * 16 ≤ 140737488351232) (hs : ∀ x ∈ names, x.size ≤ maxLen) (coefs : List Int) (h1 : coefs.length * 8 ≤ 140737488351232)
    (hw : ∀ x ∈ coefs, (Lit.int .i64 x).wf = true) (bound : Int) (hb : (Lit.int .i64 bound).wf = true) (md : Int) (hm : (Lit.int .i64 md).wf = true) :
    ∃ k tr ac nx er, tabardlaw14_fixed.f k = some true ∧ tabardlaw14_copied.f kind names coefs bound md = some (kind, names, coefs, bound, md) ∧ atom_Raw.f k kind names coefs bound md = some (tr, ac, nx, er) ∧
      tabardref12_CopyDense.f k tr ac nx = some (tr, ac, nx) ∧ tabardref12_SameDense.f k tr ac nx tr ac nx = some true ∧ tabardlaw14_same.f k kind names coefs bound md kind names coefs bound md = some true ∧ ∀ i, i < nx.length → (nx.getD i []).length ≤ 1073741824 := by
  obtain ⟨tr, ac, nx, er, hr, h2, h3, h4, h5⟩ := raw_total (kind := kind) h0 hs h1 hw hb hm
  obtain ⟨k1, e1⟩ := fixed14
  obtain ⟨k2, e2⟩ := hr
  obtain ⟨k3, e3⟩ := copy_dense (ns := tr) (ac := ac) (nx := nx) (by omega) (by omega) (by omega) (fun r hr => by have := h5 r hr; omega)
  obtain ⟨k4, e4⟩ := dense_self (ns := tr) (ac := ac) (nx := nx) (by omega) (by omega) (by omega) (fun r hr => by have := h5 r hr; omega)
  obtain ⟨k5, e5⟩ := normal_self kind bound md names coefs (by omega) (by omega)
  exact ⟨k1 + k2 + k3 + k4 + k5, tr, ac, nx, er, e1 _ (by omega), copied_eq h0 h1, e2 _ (by omega), e3 _ (by omega), e4 _ (by omega), e5 _ (by omega), fun i hi => by
    have := h5 _ (getD_mem [] nx i hi); omega⟩
end Go.Proofs.Ythgoonohpfoagaa.Pure
