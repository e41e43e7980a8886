/- The law AtomTurns over lists alone, and all that it leans on; no condition beyond the statement's own. -/
import Derived.Test.YthgoonohpfoagaaX0
import Derived.Test.YthgoonohpfoagaaX0
import Derived.Test.YthgoonohpfoagaaX1
import Derived.Test.YthgoonohpfoagaaX10
import Derived.Test.YthgoonohpfoagaaX11
import Derived.Test.YthgoonohpfoagaaX15
import Derived.Test.YthgoonohpfoagaaX16
import Derived.Test.YthgoonohpfoagaaX17
import Derived.Test.YthgoonohpfoagaaX18
import Derived.Test.YthgoonohpfoagaaX19
import Derived.Test.YthgoonohpfoagaaX2
import Derived.Test.YthgoonohpfoagaaX20
import Derived.Test.YthgoonohpfoagaaX21
import Derived.Test.YthgoonohpfoagaaX22
import Derived.Test.YthgoonohpfoagaaX23
import Derived.Test.YthgoonohpfoagaaX24
import Derived.Test.YthgoonohpfoagaaX25
import Derived.Test.YthgoonohpfoagaaX3
import Derived.Test.YthgoonohpfoagaaX4
import Derived.Test.YthgoonohpfoagaaX5
import Derived.Test.YthgoonohpfoagaaX6
import Derived.Test.YthgoonohpfoagaaX7
import Derived.Test.YthgoonohpfoagaaX8
import Derived.Test.YthgoonohpfoagaaX9
import Derived.Lib.DecodeN
import Derived.Laws.BitsLemmas
namespace Go.Proofs.Ythgoonohpfoagaa.Pure
open Go.RowKit Go.Proofs.YthgoonohpfoagaaW.PrintWords Go.Proofs.YthgoonohpfoagaaW.PrintLast Go.Proofs.YthgoonohpfoagaaW.PrintMore Go.Proofs.Ythgoonohpfoagaa.X
set_option linter.unusedVariables false
/-! ### Rounds -/
theorem Ev.cond {α : Type} {c : Prop} [Decidable c] {f g : Nat → Option α} {r : α} (h : c) (k : Ev f r) : Ev (fun n => if c then f n else g n) r :=
  Ev.congr (fun _ => if_pos h) k
theorem Ev.ncond {α : Type} {c : Prop} [Decidable c] {f g : Nat → Option α} {r : α} (h : ¬ c) (k : Ev g r) : Ev (fun n => if c then f n else g n) r :=
  Ev.congr (fun _ => if_neg h) k
theorem Ev.ite {α : Type} {c : Prop} [Decidable c] {f g : Nat → Option α} {r : α} (h : c → Ev f r) (k : ¬ c → Ev g r) : Ev (fun n => if c then f n else g n) r := by
  by_cases hc : c
  · exact Ev.cond hc (h hc)
  · exact Ev.ncond hc (k hc)
theorem Ev.fin {α : Type} {r q : α} (h : r = q) : Ev (fun _ => Option.some r) q := h ▸ Ev.now r
theorem Ev.ret {α β : Type} {g : Option α} {a : α} {f : Nat → α → Option β} {r : β} (h : g = Option.some a) (k : Ev (fun n => f n a) r) : Ev (fun n => g.bind (f n)) r := by
  subst h; exact k
theorem w64 {x : Int} (h0 : -9223372036854775808 ≤ x) (h1 : x ≤ 9223372036854775807) : wrap64 x = x := by unfold wrap64; omega
theorem rd_nat (l : List Int) (i : Nat) : rd l (i : Int) = l.getD i 0 := by simp [rd]
theorem i64_wf {x : Int} (h : (Lit.int .i64 x).wf = true) : -9223372036854775808 ≤ x ∧ x ≤ 9223372036854775807 := by
  simp [Lit.wf, IntKind.min, IntKind.max, IntKind.signed, IntKind.bits] at h; omega
end Go.Proofs.Ythgoonohpfoagaa.Pure
namespace Go.Proofs.Ythgoonohpfoagaa.Pure
open Go.RowKit Go.Proofs.YthgoonohpfoagaaW.PrintWords Go.Proofs.YthgoonohpfoagaaW.PrintLast Go.Proofs.YthgoonohpfoagaaW.PrintMore Go.Proofs.Ythgoonohpfoagaa.X
set_option linter.unusedVariables false
theorem rdOf_get {α : Type} (d : α) (l : List α) {i : Nat} (h : i < l.length) : rdOf d l (i : Int) = l[i] := by
  simp [rdOf, List.getD_eq_getElem?_getD, h]
theorem rd_get (l : List Int) {i : Nat} (h : i < l.length) : rd l (i : Int) = l[i] := by
  rw [rd_nat, List.getD_eq_getElem?_getD, List.getElem?_eq_getElem h]; rfl
end Go.Proofs.Ythgoonohpfoagaa.Pure
namespace Go.Proofs.Ythgoonohpfoagaa.Pure
open Go.RowKit Go.Proofs.YthgoonohpfoagaaW.PrintWords Go.Proofs.YthgoonohpfoagaaW.PrintLast Go.Proofs.YthgoonohpfoagaaW.PrintMore Go.Proofs.Ythgoonohpfoagaa.X
set_option linter.unusedVariables false
/-! ### Names -/
def startB (r : Int) : Bool := decide ((65 ≤ r ∧ r ≤ 90) ∨ (97 ≤ r ∧ r ≤ 122) ∨ r = 95 ∨ (913 ≤ r ∧ r ≤ 929) ∨ (931 ≤ r ∧ r ≤ 937) ∨ (945 ≤ r ∧ r ≤ 969))
def restB (r : Int) : Bool := startB r || decide ((48 ≤ r ∧ r ≤ 57) ∨ r = 8242 ∨ (8320 ≤ r ∧ r ≤ 8329))
theorem start_j3 (r : Int) (b : Bool) : Ev (fun k => glyph_Start.j3 k r b) (b || decide (945 ≤ r ∧ r ≤ 969)) := by
  cases b
  · refine Ev.step (fun k => by rw [glyph_Start.j3]) (Ev.ncond (by decide) (Ev.ite (fun h => Ev.ite (fun g => Ev.fin ?_) (fun g => Ev.fin ?_)) (fun h => Ev.fin ?_))) <;> simp <;> omega
  · rw [Bool.true_or]; exact Ev.step (fun k => by rw [glyph_Start.j3]) (Ev.cond rfl (Ev.fin rfl))
theorem start_j2 (r : Int) (b : Bool) : Ev (fun k => glyph_Start.j2 k r b) (b || decide ((931 ≤ r ∧ r ≤ 937) ∨ (945 ≤ r ∧ r ≤ 969))) := by
  cases b
  · refine Ev.step (fun k => by rw [glyph_Start.j2]) (Ev.ncond (by decide) (Ev.ite (fun h => ?_) (fun h => ?_)))
    · have := start_j3 r (decide (r ≤ 937))
      rwa [show (decide (r ≤ 937) || decide (945 ≤ r ∧ r ≤ 969)) = (false || decide ((931 ≤ r ∧ r ≤ 937) ∨ (945 ≤ r ∧ r ≤ 969))) by rw [Bool.eq_iff_iff]; simp; omega] at this
    · have := start_j3 r false
      rwa [show (false || decide (945 ≤ r ∧ r ≤ 969)) = (false || decide ((931 ≤ r ∧ r ≤ 937) ∨ (945 ≤ r ∧ r ≤ 969))) by rw [Bool.eq_iff_iff]; simp; omega] at this
  · rw [Bool.true_or]; exact Ev.step (fun k => by rw [glyph_Start.j2]) (Ev.cond rfl (Ev.fin rfl))
theorem start_j1 (r : Int) (b : Bool) : Ev (fun k => glyph_Start.j1 k r b) (b || decide ((913 ≤ r ∧ r ≤ 929) ∨ (931 ≤ r ∧ r ≤ 937) ∨ (945 ≤ r ∧ r ≤ 969))) := by
  cases b
  · refine Ev.step (fun k => by rw [glyph_Start.j1]) (Ev.ncond (by decide) (Ev.ite (fun h => ?_) (fun h => ?_)))
    · have := start_j2 r (decide (r ≤ 929))
      rwa [show (decide (r ≤ 929) || decide ((931 ≤ r ∧ r ≤ 937) ∨ (945 ≤ r ∧ r ≤ 969))) = (false || decide ((913 ≤ r ∧ r ≤ 929) ∨ (931 ≤ r ∧ r ≤ 937) ∨ (945 ≤ r ∧ r ≤ 969))) by rw [Bool.eq_iff_iff]; simp; omega] at this
    · have := start_j2 r false
      rwa [show (false || decide ((931 ≤ r ∧ r ≤ 937) ∨ (945 ≤ r ∧ r ≤ 969))) = (false || decide ((913 ≤ r ∧ r ≤ 929) ∨ (931 ≤ r ∧ r ≤ 937) ∨ (945 ≤ r ∧ r ≤ 969))) by rw [Bool.eq_iff_iff]; simp; omega] at this
  · rw [Bool.true_or]; exact Ev.step (fun k => by rw [glyph_Start.j1]) (Ev.cond rfl (Ev.fin rfl))
theorem start_j0 (r : Int) (b : Bool) : Ev (fun k => glyph_Start.j0 k r b) (b || decide ((97 ≤ r ∧ r ≤ 122) ∨ r = 95 ∨ (913 ≤ r ∧ r ≤ 929) ∨ (931 ≤ r ∧ r ≤ 937) ∨ (945 ≤ r ∧ r ≤ 969))) := by
  cases b
  · refine Ev.step (fun k => by rw [glyph_Start.j0]) (Ev.ncond (by decide) (Ev.ite (fun h => Ev.ite (fun g => ?_) (fun g => ?_)) (fun h => ?_)))
    · have := start_j1 r (decide (r ≤ 122))
      rwa [show (decide (r ≤ 122) || decide ((913 ≤ r ∧ r ≤ 929) ∨ (931 ≤ r ∧ r ≤ 937) ∨ (945 ≤ r ∧ r ≤ 969))) = (false || decide ((97 ≤ r ∧ r ≤ 122) ∨ r = 95 ∨ (913 ≤ r ∧ r ≤ 929) ∨ (931 ≤ r ∧ r ≤ 937) ∨ (945 ≤ r ∧ r ≤ 969))) by rw [Bool.eq_iff_iff]; simp; omega] at this
    · have := start_j1 r (r == 95)
      rwa [show ((r == 95) || decide ((913 ≤ r ∧ r ≤ 929) ∨ (931 ≤ r ∧ r ≤ 937) ∨ (945 ≤ r ∧ r ≤ 969))) = (false || decide ((97 ≤ r ∧ r ≤ 122) ∨ r = 95 ∨ (913 ≤ r ∧ r ≤ 929) ∨ (931 ≤ r ∧ r ≤ 937) ∨ (945 ≤ r ∧ r ≤ 969))) by rw [Bool.eq_iff_iff]; simp; omega] at this
    · have := start_j1 r (r == 95)
      rwa [show ((r == 95) || decide ((913 ≤ r ∧ r ≤ 929) ∨ (931 ≤ r ∧ r ≤ 937) ∨ (945 ≤ r ∧ r ≤ 969))) = (false || decide ((97 ≤ r ∧ r ≤ 122) ∨ r = 95 ∨ (913 ≤ r ∧ r ≤ 929) ∨ (931 ≤ r ∧ r ≤ 937) ∨ (945 ≤ r ∧ r ≤ 969))) by rw [Bool.eq_iff_iff]; simp; omega] at this
  · have := start_j1 r true
    exact Ev.step (fun k => by rw [glyph_Start.j0]) (Ev.cond rfl this)
theorem start_ev (r : Int) : Ev (fun k => glyph_Start.f k r) (startB r) := by
  refine Ev.congr (fun k => by rw [glyph_Start.f]) (Ev.ite (fun h => ?_) (fun h => ?_))
  · have := start_j0 r (decide (r ≤ 90))
    rwa [show (decide (r ≤ 90) || decide ((97 ≤ r ∧ r ≤ 122) ∨ r = 95 ∨ (913 ≤ r ∧ r ≤ 929) ∨ (931 ≤ r ∧ r ≤ 937) ∨ (945 ≤ r ∧ r ≤ 969))) = startB r by rw [startB, Bool.eq_iff_iff]; simp; omega] at this
  · have := start_j0 r false
    rwa [show (false || decide ((97 ≤ r ∧ r ≤ 122) ∨ r = 95 ∨ (913 ≤ r ∧ r ≤ 929) ∨ (931 ≤ r ∧ r ≤ 937) ∨ (945 ≤ r ∧ r ≤ 969))) = startB r by rw [startB, Bool.eq_iff_iff]; simp; omega] at this
theorem rest_ev (r : Int) : Ev (fun k => glyph_Rest.f k r) (restB r) := by
  refine Ev.congr (fun k => by rw [glyph_Rest.f]) (Ev.bind (start_ev r) ?_)
  rw [restB]
  cases startB r
  · refine Ev.ncond (by decide) (Ev.ite (fun h => Ev.ite (fun g => Ev.fin ?_) (fun g => Ev.ite (fun z => Ev.fin ?_) (fun z => Ev.ite (fun y => Ev.fin ?_) (fun y => Ev.fin ?_)))) (fun h => Ev.ite (fun z => Ev.fin ?_) (fun z => Ev.ite (fun y => Ev.fin ?_) (fun y => Ev.fin ?_)))) <;> rw [Bool.false_or, Bool.eq_iff_iff] <;> simp <;> omega
  · exact Ev.cond rfl (Ev.fin rfl)
def resB (s : ByteArray) : Bool := decide (s.toList ∈ [[97, 110, 100], [111, 114], [110, 111, 116], [101, 120], [97, 108, 108], [109, 111, 100], [116, 114, 117, 101], [102, 97, 108, 115, 101]])
theorem res_eq (s : ByteArray) : glyph_Reserved.f s = some (resB s) := by
  unfold glyph_Reserved.f resB
  simp only [List.mem_cons, List.not_mem_nil, or_false]
  repeat' split
  all_goals simp_all
theorem width_pos (s : ByteArray) (pos : Nat) (h : pos < s.size) : 1 ≤ (Utf8.decode s pos).2 := by
  by_cases ha : (s[pos]'h).toNat < 128
  · rw [decode_ascii s pos h ha]
    exact Nat.le_refl _
  · exact (decode_high s pos h (by omega)).2
/-- A name, from a byte on, behind n characters. -/
def nameR : Nat → ByteArray → Nat → Nat → Bool
  | 0, s, _, n => decide (1 ≤ n ∧ n ≤ 16) && !resB s
  | m + 1, s, p, n =>
    if p < s.size then (if (n = 0 → startB ((Utf8.decode s p).1 : Int) = true) ∧ restB ((Utf8.decode s p).1 : Int) = true then nameR m s (p + (Utf8.decode s p).2) (n + 1) else false)
    else decide (1 ≤ n ∧ n ≤ 16) && !resB s
def nameB (s : ByteArray) : Bool := nameR s.size s 0 0
theorem name_end (s : ByteArray) (n : Nat) : Ev (fun k => if (n : Int) > 0 then (if (n : Int) ≤ 16 then (glyph_Reserved.f s).bind fun t => some (!t) else some false) else some false) (decide (1 ≤ n ∧ n ≤ 16) && !resB s) := by
  by_cases h1 : 1 ≤ n
  · by_cases h2 : n ≤ 16
    · refine Ev.cond (by omega) (Ev.cond (by omega) ?_)
      rw [decide_eq_true ⟨h1, h2⟩, Bool.true_and]
      exact Ev.ret (res_eq s) (Ev.fin rfl)
    · rw [decide_eq_false (fun e => h2 e.2)]
      exact Ev.cond (by omega) (Ev.ncond (by omega) (Ev.fin rfl))
  · rw [decide_eq_false (fun e => h1 e.1)]
    exact Ev.ncond (by omega) (Ev.fin rfl)
theorem name_ev (s : ByteArray) (hs : s.size ≤ 9223372036854775807) : Ev (fun k => glyph_Name.f k s) (nameB s) := by
  have key : ∀ (m p n : Nat), s.size ≤ p + m → n ≤ p → (p = 0 ↔ n = 0) → Ev (fun k => glyph_Name.l0 k s p (n : Int)) (nameR m s p n) := by
    intro m
    induction m with
    | zero =>
      intro p n hp hn _
      exact Ev.step (fun k => by rw [glyph_Name.l0]) (Ev.ncond (by omega) (name_end s n))
    | succ m ih =>
      intro p n hp hn hz
      rw [nameR]
      by_cases c : p < s.size
      · rw [if_pos c]
        have hw := width_pos s p c
        refine Ev.step (fun k => by rw [glyph_Name.l0]) (Ev.cond c ?_)
        have st : Ev (fun k => if p = 0 then glyph_Start.f k ((Utf8.decode s p).1 : Int) else some true) (decide (n = 0 → startB ((Utf8.decode s p).1 : Int) = true)) := by
          refine Ev.ite (fun h => ?_) (fun h => Ev.fin ?_)
          · have n0 := hz.1 h
            rw [show decide (n = 0 → startB ((Utf8.decode s p).1 : Int) = true) = startB ((Utf8.decode s p).1 : Int) by rw [Bool.eq_iff_iff]; simp [n0]]
            exact start_ev _
          · have n0 : ¬ n = 0 := fun e => h (hz.2 e)
            exact (decide_eq_true (fun e => absurd e n0)).symm
        refine Ev.bind st (Ev.ite (fun h => Ev.bind (rest_ev _) (Ev.ite (fun g => ?_) (fun g => Ev.fin ?_))) (fun h => Ev.fin ?_))
        · rw [if_pos ⟨of_decide_eq_true h, g⟩, w64 (by omega) (by omega)]
          exact ih (p + (Utf8.decode s p).2) (n + 1) (by omega) (by omega) (by omega)
        · rw [if_neg (fun e => g e.2)]
        · rw [if_neg (fun e => h (decide_eq_true e.1))]
      · rw [if_neg c]
        exact Ev.step (fun k => by rw [glyph_Name.l0]) (Ev.ncond c (name_end s n))
  exact key s.size 0 0 (by omega) (by omega) (by omega)
/-- From a place on: names, each less than the next. -/
def risesR (ns : List ByteArray) : Nat → Nat → Bool
  | 0, _ => true
  | m + 1, i => nameB (rdOf ByteArray.empty ns (i : Int)) && ((decide (i = 0) || Op.bytesLess (rdOf ByteArray.empty ns ((i - 1 : Nat) : Int)).toList (rdOf ByteArray.empty ns (i : Int)).toList) && risesR ns m (i + 1))
def risesB (ns : List ByteArray) : Bool := risesR ns ns.length 0
theorem rises_ev (ns : List ByteArray) (hn : ns.length ≤ 9000000000000000000) (hs : ∀ x ∈ ns, x.size ≤ 9223372036854775807) : Ev (fun k => glyph_Rises.f k ns) (risesB ns) := by
  refine Ev.congr (fun k => by rw [glyph_Rises.f]) ?_
  have key : ∀ (m i : Nat), i + m = ns.length → Ev (fun k => glyph_Rises.l0 k ns ns (ns.length : Int) (i : Int)) (risesR ns m i) := by
    intro m
    induction m with
    | zero =>
      intro i hi
      refine Ev.step (fun k => by rw [glyph_Rises.l0]) (Ev.ncond (by omega) ?_)
      exact Ev.fin rfl
    | succ m ih =>
      intro i hi
      rw [risesR]
      have sz : (rdOf ByteArray.empty ns (i : Int)).size ≤ 9223372036854775807 := by rw [rdOf_get _ ns (show i < ns.length by omega)]; exact hs _ (List.getElem_mem _)
      refine Ev.step (fun k => by rw [glyph_Rises.l0]) (Ev.cond (by omega) (Ev.cond (by omega) (Ev.cond (by omega) (Ev.bind (name_ev _ sz) ?_))))
      refine Ev.ite (fun a => ?_) (fun a => Ev.fin ?_)
      · rw [a, Bool.true_and]
        have nx := ih (i + 1) (by omega)
        refine Ev.ite (fun b => ?_) (fun b => ?_)
        · rw [w64 (x := (i : Int) - 1) (by omega) (by omega), w64 (x := (i : Int) + 1) (by omega) (by omega), show (i : Int) - 1 = ((i - 1 : Nat) : Int) by omega, decide_eq_false (show ¬ i = 0 by omega), Bool.false_or]
          refine Ev.cond (by omega) (Ev.cond (by omega) (Ev.ite (fun c => ?_) (fun c => Ev.fin ?_)))
          · rw [c, Bool.true_and]; exact nx
          · rw [Bool.not_eq_true] at c; rw [c, Bool.false_and]
        · rw [decide_eq_true (show i = 0 by omega), Bool.true_or, Bool.true_and, w64 (by omega) (by omega)]
          exact nx
      · rw [Bool.not_eq_true] at a; rw [a, Bool.false_and]
  exact key ns.length 0 (by omega)
end Go.Proofs.Ythgoonohpfoagaa.Pure
namespace Go.Proofs.Ythgoonohpfoagaa.Pure
open Go.RowKit Go.Proofs.YthgoonohpfoagaaW.PrintWords Go.Proofs.YthgoonohpfoagaaW.PrintLast Go.Proofs.YthgoonohpfoagaaW.PrintMore Go.Proofs.Ythgoonohpfoagaa.X
set_option linter.unusedVariables false
def pairsB (r : Int) : List Int → Bool
  | a :: b :: t => decide (a ≤ r ∧ r ≤ b) || pairsB r t
  | _ => false
theorem within_ev (r : Int) (l : List Int) (hl : l.length ≤ 1000) : ∀ (m i : Nat), i + 2 * m = l.length → Ev (fun k => tabardref04_within.l0 k r l (i : Int)) (pairsB r (l.drop i)) := by
  intro m
  induction m with
  | zero =>
    intro i hi
    rw [List.drop_eq_nil_of_le (by omega)]
    refine Ev.step (fun k => by rw [tabardref04_within.l0]) (Ev.ncond (by rw [w64 (by omega) (by omega)]; omega) ?_)
    exact Ev.fin rfl
  | succ m ih =>
    intro i hi
    have h1 : i < l.length := by omega
    have h2 : i + 1 < l.length := by omega
    have q := ih (i + 2) (by omega)
    rw [List.drop_eq_getElem_cons h1, List.drop_eq_getElem_cons h2, pairsB]
    refine Ev.step (fun k => by rw [tabardref04_within.l0]) ?_
    rw [w64 (x := (i : Int) + 1) (by omega) (by omega), w64 (x := (i : Int) + 2) (by omega) (by omega), show (i : Int) + 1 = ((i + 1 : Nat) : Int) by omega, rd_get l h1, rd_get l h2]
    refine Ev.cond (by omega) (Ev.cond (by omega) (Ev.cond (by omega) (Ev.ite (fun a => Ev.cond (by omega) (Ev.ite (fun b => Ev.fin ?_) (fun b => ?_))) (fun a => ?_))))
    · rw [decide_eq_true (show l[i] ≤ r ∧ r ≤ l[i + 1] from ⟨a, b⟩), Bool.true_or]
    · rw [decide_eq_false (show ¬ (l[i] ≤ r ∧ r ≤ l[i + 1]) from fun z => b z.2), Bool.false_or]; exact q
    · rw [decide_eq_false (show ¬ (l[i] ≤ r ∧ r ≤ l[i + 1]) from fun z => a z.1), Bool.false_or]; exact q
theorem within_f (r : Int) (l : List Int) (m : Nat) (hl : l.length ≤ 1000) (hm : 0 + 2 * m = l.length) : Ev (fun k => tabardref04_within.f k r l) (pairsB r l) := by
  have := within_ev r l hl m 0 hm
  rw [List.drop_zero] at this
  exact Ev.congr (fun k => by rw [tabardref04_within.f]; rfl) this
theorem rstart_ev (r : Int) : Ev (fun k => tabardref04_Start.f k r) (startB r) := by
  refine Ev.congr (fun k => by rw [tabardref04_Start.f]) (Ev.bind (within_f r [65, 90, 97, 122, 95, 95, 913, 929, 931, 937, 945, 969] 6 (by decide) (by decide)) (Ev.fin ?_))
  simp only [pairsB, startB]
  rw [Bool.eq_iff_iff]; simp; omega
theorem rrest_ev (r : Int) : Ev (fun k => tabardref04_Rest.f k r) (restB r) := by
  refine Ev.congr (fun k => by rw [tabardref04_Rest.f]) (Ev.bind (rstart_ev r) ?_)
  rw [restB]
  cases startB r
  · refine Ev.ncond (by decide) (Ev.bind (within_f r [48, 57, 8242, 8242, 8320, 8329] 3 (by decide) (by decide)) (Ev.fin ?_))
    simp only [pairsB]
    rw [Bool.eq_iff_iff]; simp; omega
  · exact Ev.cond rfl (Ev.fin rfl)
theorem rres_ev (s : ByteArray) : Ev (fun k => tabardref04_Reserved.f k s) (resB s) := by
  refine Ev.congr (fun k => by rw [tabardref04_Reserved.f]) ?_
  have key : ∀ (L : List ByteArray) (hL : L.length ≤ 100) (m i : Nat), i + m = L.length → Ev (fun k => tabardref04_Reserved.l0 k s L (i : Int)) (decide (∃ x ∈ L.drop i, x.toList = s.toList)) := by
    intro L hL m
    induction m with
    | zero =>
      intro i hi
      rw [List.drop_eq_nil_of_le (by omega)]
      refine Ev.step (fun k => by rw [tabardref04_Reserved.l0]) (Ev.ncond (by omega) (Ev.fin ?_))
      simp
    | succ m ih =>
      intro i hi
      have h1 : i < L.length := by omega
      rw [List.drop_eq_getElem_cons h1]
      refine Ev.step (fun k => by rw [tabardref04_Reserved.l0]) (Ev.cond (by omega) (Ev.cond (by omega) ?_))
      rw [rdOf_get _ L h1, w64 (by omega) (by omega)]
      refine Ev.ite (fun c => Ev.fin ?_) (fun c => ?_)
      · exact (decide_eq_true ⟨_, List.mem_cons_self .., c⟩).symm
      · have q := ih (i + 1) (by omega)
        rw [decide_eq_decide.2 (show (∃ x ∈ L[i] :: L.drop (i + 1), x.toList = s.toList) ↔ (∃ x ∈ L.drop (i + 1), x.toList = s.toList) from ⟨fun ⟨x, hx, e⟩ => by
          rcases List.mem_cons.1 hx with rfl | h
          · exact absurd e c
          · exact ⟨x, h, e⟩, fun ⟨x, hx, e⟩ => ⟨x, List.mem_cons_of_mem _ hx, e⟩⟩)]
        exact q
  have := key ([(⟨#[97, 110, 100]⟩ : ByteArray), (⟨#[111, 114]⟩ : ByteArray), (⟨#[110, 111, 116]⟩ : ByteArray), (⟨#[101, 120]⟩ : ByteArray), (⟨#[97, 108, 108]⟩ : ByteArray), (⟨#[109, 111, 100]⟩ : ByteArray), (⟨#[116, 114, 117, 101]⟩ : ByteArray), (⟨#[102, 97, 108, 115, 101]⟩ : ByteArray)] : List ByteArray) (by simp) 8 0 (by simp)
  rw [show resB s = decide (∃ x ∈ List.drop 0 ([(⟨#[97, 110, 100]⟩ : ByteArray), (⟨#[111, 114]⟩ : ByteArray), (⟨#[110, 111, 116]⟩ : ByteArray), (⟨#[101, 120]⟩ : ByteArray), (⟨#[97, 108, 108]⟩ : ByteArray), (⟨#[109, 111, 100]⟩ : ByteArray), (⟨#[116, 114, 117, 101]⟩ : ByteArray), (⟨#[102, 97, 108, 115, 101]⟩ : ByteArray)] : List ByteArray), x.toList = s.toList) from by
    rw [resB]
    apply decide_eq_decide.2
    simp only [List.drop_zero, List.mem_cons, List.not_mem_nil, or_false, exists_eq_or_imp, exists_eq_left, ByteArray.toList_eq]
    simp only [eq_comm]]
  exact this
end Go.Proofs.Ythgoonohpfoagaa.Pure
namespace Go.Proofs.Ythgoonohpfoagaa.Pure
open Go.RowKit Go.Proofs.YthgoonohpfoagaaW.PrintWords Go.Proofs.YthgoonohpfoagaaW.PrintLast Go.Proofs.YthgoonohpfoagaaW.PrintMore Go.Proofs.Ythgoonohpfoagaa.X
set_option linter.unusedVariables false
theorem bt_get (s : ByteArray) {q : Nat} (h : q < s.size) : bt s (q : Int) = ((s.get! q).toNat : Int) := by
  have e := bt_at s (q : Int) (by simpa using h)
  rw [← e]
  simp only [Int.toNat_natCast]
  rw [← get_at s q h]; rfl
theorem get_lt (s : ByteArray) (q : Nat) : (s.get! q).toNat < 256 := (s.get! q).toNat_lt
/-- What Read answers, held against the decoding. -/
def Fits (d : Nat × Nat) (r : Int × Int × Bool) : Prop := (r.2.2 = true ∧ r.1 = (d.1 : Int) ∧ r.2.1 = (d.2 : Int)) ∨ (r.2.2 = false ∧ d = (65533, 1))
section
variable {s : ByteArray} {p : Nat}
theorem read_end {X w L : Int} {i : Int} (hi : ¬ i < w) : ∃ r, Ev (fun k => tabardref04_Read.l0 k s (p : Int) X w L i) r ∧ ((r = (X, w, true) ∧ L ≤ X ∧ X ≤ 1114111 ∧ ¬ (55296 ≤ X ∧ X ≤ 57343)) ∨ (r = (65533, 1, false) ∧ ¬ (L ≤ X ∧ X ≤ 1114111 ∧ ¬ (55296 ≤ X ∧ X ≤ 57343)))) := by
  by_cases h1 : X < L
  · exact ⟨_, Ev.step (fun k => by rw [tabardref04_Read.l0]) (Ev.ncond hi (Ev.cond h1 (Ev.fin rfl))), Or.inr ⟨rfl, by omega⟩⟩
  by_cases h2 : X > 1114111
  · exact ⟨_, Ev.step (fun k => by rw [tabardref04_Read.l0]) (Ev.ncond hi (Ev.ncond h1 (Ev.cond h2 (Ev.fin rfl)))), Or.inr ⟨rfl, by omega⟩⟩
  by_cases h3 : X ≥ 55296
  · by_cases h4 : X ≤ 57343
    · exact ⟨_, Ev.step (fun k => by rw [tabardref04_Read.l0]) (Ev.ncond hi (Ev.ncond h1 (Ev.ncond h2 (Ev.cond h3 (Ev.cond h4 (Ev.fin rfl)))))), Or.inr ⟨rfl, by omega⟩⟩
    · exact ⟨_, Ev.step (fun k => by rw [tabardref04_Read.l0]) (Ev.ncond hi (Ev.ncond h1 (Ev.ncond h2 (Ev.cond h3 (Ev.ncond h4 (Ev.fin rfl)))))), Or.inl ⟨rfl, by omega⟩⟩
  · exact ⟨_, Ev.step (fun k => by rw [tabardref04_Read.l0]) (Ev.ncond hi (Ev.ncond h1 (Ev.ncond h2 (Ev.ncond h3 (Ev.fin rfl))))), Or.inl ⟨rfl, by omega⟩⟩
theorem read_more (hs : s.size ≤ 9223372036854775807) {X w L : Int} {i : Nat} (hi : (i : Int) < w) (hX : 0 ≤ X) (hX2 : X ≤ 20000000) (h : p + i < s.size) :
    (¬ (128 ≤ (s.get! (p + i)).toNat ∧ (s.get! (p + i)).toNat ≤ 191) ∧ Ev (fun k => tabardref04_Read.l0 k s (p : Int) X w L (i : Int)) (65533, 1, false)) ∨
    ((128 ≤ (s.get! (p + i)).toNat ∧ (s.get! (p + i)).toNat ≤ 191) ∧ ∀ r, Ev (fun k => tabardref04_Read.l0 k s (p : Int) (X * 64 + ((s.get! (p + i)).toNat : Int) - 128) w L ((i + 1 : Nat) : Int)) r → Ev (fun k => tabardref04_Read.l0 k s (p : Int) X w L (i : Int)) r) := by
  have b := get_lt s (p + i)
  have e : wrap64 ((p : Int) + (i : Int)) = ((p + i : Nat) : Int) := by rw [w64 (by omega) (by omega)]; omega
  have e2 : wrap64 (bt s ((p + i : Nat) : Int)) = ((s.get! (p + i)).toNat : Int) := by rw [bt_get s h, w64 (by omega) (by omega)]
  by_cases h1 : (s.get! (p + i)).toNat < 128
  · refine Or.inl ⟨by omega, Ev.step (fun k => by rw [tabardref04_Read.l0]) (Ev.cond hi ?_)⟩
    rw [e, e2]
    exact Ev.cond (by omega) (Ev.cond (by omega) (Ev.cond (by omega) (Ev.fin rfl)))
  by_cases h2 : (s.get! (p + i)).toNat > 191
  · refine Or.inl ⟨by omega, Ev.step (fun k => by rw [tabardref04_Read.l0]) (Ev.cond hi ?_)⟩
    rw [e, e2]
    exact Ev.cond (by omega) (Ev.cond (by omega) (Ev.ncond (by omega) (Ev.cond (by omega) (Ev.fin rfl))))
  · refine Or.inr ⟨by omega, fun r hr => Ev.step (fun k => by rw [tabardref04_Read.l0]) (Ev.cond hi ?_)⟩
    rw [e, e2, w64 (x := X * 64) (by omega) (by omega), w64 (x := X * 64 + ((s.get! (p + i)).toNat : Int)) (by omega) (by omega), w64 (x := X * 64 + ((s.get! (p + i)).toNat : Int) - 128) (by omega) (by omega), w64 (x := (i : Int) + 1) (by omega) (by omega)]
    exact Ev.cond (by omega) (Ev.cond (by omega) (Ev.ncond (by omega) (Ev.ncond (by omega) hr)))
theorem read_w2 (hs : s.size ≤ 9223372036854775807) (hp : p < s.size) (h0 : 194 ≤ (s.get! p).toNat ∧ (s.get! p).toNat < 224) :
    ∃ r, Ev (fun k => tabardref04_Read.j2 k s (p : Int) (((s.get! p).toNat : Int) - 192) 2 128) r ∧ Fits (Go.Lib.decodeN (s.size - p) (s.get! p).toNat (s.get! (p + 1)).toNat (s.get! (p + 2)).toNat (s.get! (p + 3)).toNat) r := by
  have g1 := get_lt s (p + 1); have g2 := get_lt s (p + 2); have g3 := get_lt s (p + 3)
  by_cases c : s.size - p < 2
  · refine ⟨_, Ev.step (fun k => by rw [tabardref04_Read.j2]) (Ev.cond (by rw [w64 (by omega) (by omega)]; omega) (Ev.fin rfl)), Or.inr ⟨rfl, ?_⟩⟩
    unfold Go.Lib.decodeN; repeat' split
    all_goals first | (exfalso; omega) | rfl
  · have go : ∀ r, Ev (fun k => tabardref04_Read.l0 k s (p : Int) (((s.get! p).toNat : Int) - 192) 2 128 1) r → Ev (fun k => tabardref04_Read.j2 k s (p : Int) (((s.get! p).toNat : Int) - 192) 2 128) r :=
      by
        intro r h
        refine Ev.step (fun k => by rw [tabardref04_Read.j2]) (Ev.ncond ?_ h)
        rw [w64 (by omega) (by omega)]; omega
    rcases read_more (X := ((s.get! p).toNat : Int) - 192) (w := 2) (L := 128) (i := 1) hs (by omega) (by omega) (by omega) (show p + 1 < s.size by omega) with ⟨bad, e⟩ | ⟨ok1, k1⟩
    · refine ⟨_, go _ e, Or.inr ⟨rfl, ?_⟩⟩
      unfold Go.Lib.decodeN; repeat' split
      all_goals first | (exfalso; omega) | rfl
    · obtain ⟨r, hr, hc⟩ := read_end (s := s) (p := p) (X := (((s.get! p).toNat : Int) - 192) * 64 + ((s.get! (p + 1)).toNat : Int) - 128) (w := 2) (L := 128) (i := ((1 + 1 : Nat) : Int)) (by omega)
      refine ⟨r, go _ (k1 r hr), ?_⟩
      rcases hc with ⟨rfl, hc⟩ | ⟨rfl, hc⟩
      · have d : Go.Lib.decodeN (s.size - p) (s.get! p).toNat (s.get! (p + 1)).toNat (s.get! (p + 2)).toNat (s.get! (p + 3)).toNat = ((s.get! p).toNat % 32 * 64 + (s.get! (p + 1)).toNat % 64, 2) := by
          unfold Go.Lib.decodeN; repeat' split
          all_goals first | (exfalso; omega) | rfl
        rw [d]; exact Or.inl ⟨rfl, by simp only []; omega, rfl⟩
      · refine Or.inr ⟨rfl, ?_⟩
        unfold Go.Lib.decodeN; repeat' split
        all_goals first | (exfalso; omega) | rfl
theorem read_w3 (hs : s.size ≤ 9223372036854775807) (hp : p < s.size) (h0 : 224 ≤ (s.get! p).toNat ∧ (s.get! p).toNat < 240) :
    ∃ r, Ev (fun k => tabardref04_Read.j2 k s (p : Int) (((s.get! p).toNat : Int) - 224) 3 2048) r ∧ Fits (Go.Lib.decodeN (s.size - p) (s.get! p).toNat (s.get! (p + 1)).toNat (s.get! (p + 2)).toNat (s.get! (p + 3)).toNat) r := by
  have g1 := get_lt s (p + 1); have g2 := get_lt s (p + 2); have g3 := get_lt s (p + 3)
  by_cases c : s.size - p < 3
  · refine ⟨_, Ev.step (fun k => by rw [tabardref04_Read.j2]) (Ev.cond (by rw [w64 (by omega) (by omega)]; omega) (Ev.fin rfl)), Or.inr ⟨rfl, ?_⟩⟩
    unfold Go.Lib.decodeN; repeat' split
    all_goals first | (exfalso; omega) | rfl
  · have go : ∀ r, Ev (fun k => tabardref04_Read.l0 k s (p : Int) (((s.get! p).toNat : Int) - 224) 3 2048 1) r → Ev (fun k => tabardref04_Read.j2 k s (p : Int) (((s.get! p).toNat : Int) - 224) 3 2048) r :=
      by
        intro r h
        refine Ev.step (fun k => by rw [tabardref04_Read.j2]) (Ev.ncond ?_ h)
        rw [w64 (by omega) (by omega)]; omega
    rcases read_more (X := ((s.get! p).toNat : Int) - 224) (w := 3) (L := 2048) (i := 1) hs (by omega) (by omega) (by omega) (show p + 1 < s.size by omega) with ⟨bad, e⟩ | ⟨ok1, k1⟩
    · refine ⟨_, go _ e, Or.inr ⟨rfl, ?_⟩⟩
      unfold Go.Lib.decodeN; repeat' split
      all_goals first | (exfalso; omega) | rfl
    rcases read_more (X := (((s.get! p).toNat : Int) - 224) * 64 + ((s.get! (p + 1)).toNat : Int) - 128) (w := 3) (L := 2048) (i := 2) hs (by omega) (by omega) (by omega) (show p + 2 < s.size by omega) with ⟨bad, e⟩ | ⟨ok2, k2⟩
    · refine ⟨_, go _ (k1 _ e), Or.inr ⟨rfl, ?_⟩⟩
      unfold Go.Lib.decodeN; repeat' split
      all_goals first | (exfalso; omega) | rfl
    · obtain ⟨r, hr, hc⟩ := read_end (s := s) (p := p) (X := ((((s.get! p).toNat : Int) - 224) * 64 + ((s.get! (p + 1)).toNat : Int) - 128) * 64 + ((s.get! (p + 2)).toNat : Int) - 128) (w := 3) (L := 2048) (i := ((2 + 1 : Nat) : Int)) (by omega)
      refine ⟨r, go _ (k1 _ (k2 r hr)), ?_⟩
      rcases hc with ⟨rfl, hc⟩ | ⟨rfl, hc⟩
      · have d : Go.Lib.decodeN (s.size - p) (s.get! p).toNat (s.get! (p + 1)).toNat (s.get! (p + 2)).toNat (s.get! (p + 3)).toNat = ((s.get! p).toNat % 16 * 4096 + (s.get! (p + 1)).toNat % 64 * 64 + (s.get! (p + 2)).toNat % 64, 3) := by
          unfold Go.Lib.decodeN; repeat' split
          all_goals first | (exfalso; omega) | rfl
        rw [d]; exact Or.inl ⟨rfl, by simp only []; omega, rfl⟩
      · refine Or.inr ⟨rfl, ?_⟩
        unfold Go.Lib.decodeN; repeat' split
        all_goals first | (exfalso; omega) | rfl
theorem read_w4 (hs : s.size ≤ 9223372036854775807) (hp : p < s.size) (h0 : 240 ≤ (s.get! p).toNat ∧ (s.get! p).toNat < 245) :
    ∃ r, Ev (fun k => tabardref04_Read.j2 k s (p : Int) (((s.get! p).toNat : Int) - 240) 4 65536) r ∧ Fits (Go.Lib.decodeN (s.size - p) (s.get! p).toNat (s.get! (p + 1)).toNat (s.get! (p + 2)).toNat (s.get! (p + 3)).toNat) r := by
  have g1 := get_lt s (p + 1); have g2 := get_lt s (p + 2); have g3 := get_lt s (p + 3)
  by_cases c : s.size - p < 4
  · refine ⟨_, Ev.step (fun k => by rw [tabardref04_Read.j2]) (Ev.cond (by rw [w64 (by omega) (by omega)]; omega) (Ev.fin rfl)), Or.inr ⟨rfl, ?_⟩⟩
    unfold Go.Lib.decodeN; repeat' split
    all_goals first | (exfalso; omega) | rfl
  · have go : ∀ r, Ev (fun k => tabardref04_Read.l0 k s (p : Int) (((s.get! p).toNat : Int) - 240) 4 65536 1) r → Ev (fun k => tabardref04_Read.j2 k s (p : Int) (((s.get! p).toNat : Int) - 240) 4 65536) r :=
      by
        intro r h
        refine Ev.step (fun k => by rw [tabardref04_Read.j2]) (Ev.ncond ?_ h)
        rw [w64 (by omega) (by omega)]; omega
    rcases read_more (X := ((s.get! p).toNat : Int) - 240) (w := 4) (L := 65536) (i := 1) hs (by omega) (by omega) (by omega) (show p + 1 < s.size by omega) with ⟨bad, e⟩ | ⟨ok1, k1⟩
    · refine ⟨_, go _ e, Or.inr ⟨rfl, ?_⟩⟩
      unfold Go.Lib.decodeN; repeat' split
      all_goals first | (exfalso; omega) | rfl
    rcases read_more (X := (((s.get! p).toNat : Int) - 240) * 64 + ((s.get! (p + 1)).toNat : Int) - 128) (w := 4) (L := 65536) (i := 2) hs (by omega) (by omega) (by omega) (show p + 2 < s.size by omega) with ⟨bad, e⟩ | ⟨ok2, k2⟩
    · refine ⟨_, go _ (k1 _ e), Or.inr ⟨rfl, ?_⟩⟩
      unfold Go.Lib.decodeN; repeat' split
      all_goals first | (exfalso; omega) | rfl
    rcases read_more (X := ((((s.get! p).toNat : Int) - 240) * 64 + ((s.get! (p + 1)).toNat : Int) - 128) * 64 + ((s.get! (p + 2)).toNat : Int) - 128) (w := 4) (L := 65536) (i := 3) hs (by omega) (by omega) (by omega) (show p + 3 < s.size by omega) with ⟨bad, e⟩ | ⟨ok3, k3⟩
    · refine ⟨_, go _ (k1 _ (k2 _ e)), Or.inr ⟨rfl, ?_⟩⟩
      unfold Go.Lib.decodeN; repeat' split
      all_goals first | (exfalso; omega) | rfl
    · obtain ⟨r, hr, hc⟩ := read_end (s := s) (p := p) (X := (((((s.get! p).toNat : Int) - 240) * 64 + ((s.get! (p + 1)).toNat : Int) - 128) * 64 + ((s.get! (p + 2)).toNat : Int) - 128) * 64 + ((s.get! (p + 3)).toNat : Int) - 128) (w := 4) (L := 65536) (i := ((3 + 1 : Nat) : Int)) (by omega)
      refine ⟨r, go _ (k1 _ (k2 _ (k3 r hr))), ?_⟩
      rcases hc with ⟨rfl, hc⟩ | ⟨rfl, hc⟩
      · have d : Go.Lib.decodeN (s.size - p) (s.get! p).toNat (s.get! (p + 1)).toNat (s.get! (p + 2)).toNat (s.get! (p + 3)).toNat = ((s.get! p).toNat % 8 * 262144 + (s.get! (p + 1)).toNat % 64 * 4096 + (s.get! (p + 2)).toNat % 64 * 64 + (s.get! (p + 3)).toNat % 64, 4) := by
          unfold Go.Lib.decodeN; repeat' split
          all_goals first | (exfalso; omega) | rfl
        rw [d]; exact Or.inl ⟨rfl, by simp only []; omega, rfl⟩
      · refine Or.inr ⟨rfl, ?_⟩
        unfold Go.Lib.decodeN; repeat' split
        all_goals first | (exfalso; omega) | rfl
theorem read_ev (hs : s.size ≤ 9223372036854775807) (hp : p < s.size) : ∃ r, Ev (fun k => tabardref04_Read.f k s (p : Int)) r ∧ Fits (Utf8.decode s p) r := by
  rw [Go.Lib.decode_at]
  have b := get_lt s p
  have g1 := get_lt s (p + 1); have g2 := get_lt s (p + 2); have g3 := get_lt s (p + 3)
  have e0 : wrap64 (bt s (p : Int)) = ((s.get! p).toNat : Int) := by rw [bt_get s hp, w64 (by omega) (by omega)]
  have enter : ∀ r, Ev (fun k => if ((s.get! p).toNat : Int) < 128 then (some (((s.get! p).toNat : Int), (1 : Int), true)) else (if ((s.get! p).toNat : Int) ≥ 194 then (tabardref04_Read.j0 k s (p : Int) ((s.get! p).toNat : Int) (decide (((s.get! p).toNat : Int) < 224))) else (tabardref04_Read.j0 k s (p : Int) ((s.get! p).toNat : Int) false))) r → Ev (fun k => tabardref04_Read.f k s (p : Int)) r := by
    intro r h
    refine Ev.congr (fun k => by rw [tabardref04_Read.f, e0]) (Ev.cond (by omega) (Ev.cond (by omega) h))
  by_cases c0 : (s.get! p).toNat < 128
  · refine ⟨_, enter _ (Ev.cond (by omega) (Ev.fin rfl)), Or.inl ⟨rfl, ?_, ?_⟩⟩ <;> unfold Go.Lib.decodeN <;> rw [if_pos c0]
    rfl
  have w1 : wrap64 (((s.get! p).toNat : Int) - 192) = ((s.get! p).toNat : Int) - 192 := w64 (by omega) (by omega)
  have w2 : wrap64 (((s.get! p).toNat : Int) - 224) = ((s.get! p).toNat : Int) - 224 := w64 (by omega) (by omega)
  have w3 : wrap64 (((s.get! p).toNat : Int) - 240) = ((s.get! p).toNat : Int) - 240 := w64 (by omega) (by omega)
  by_cases c1 : 194 ≤ (s.get! p).toNat ∧ (s.get! p).toNat < 224
  · obtain ⟨r, hr, hf⟩ := read_w2 hs hp c1
    refine ⟨r, enter _ (Ev.ncond (by omega) (Ev.cond (by omega) ?_)), hf⟩
    rw [decide_eq_true (show ((s.get! p).toNat : Int) < 224 by omega)]
    refine Ev.step (fun k => by rw [tabardref04_Read.j0, w1]) (Ev.cond rfl hr)
  have j1 : ∀ r, (¬ ((s.get! p).toNat : Int) < 224 ∨ ¬ ((s.get! p).toNat : Int) ≥ 194) → Ev (fun k => if ((s.get! p).toNat : Int) ≥ 224 then tabardref04_Read.j1 k s (p : Int) ((s.get! p).toNat : Int) (decide (((s.get! p).toNat : Int) < 240)) else tabardref04_Read.j1 k s (p : Int) ((s.get! p).toNat : Int) false) r → Ev (fun k => tabardref04_Read.f k s (p : Int)) r := by
    intro r hc h
    refine enter _ (Ev.ncond (by omega) (Ev.ite (fun g => ?_) (fun g => ?_)))
    · rw [decide_eq_false (show ¬ ((s.get! p).toNat : Int) < 224 by omega)]
      exact Ev.step (fun k => by rw [tabardref04_Read.j0]) (Ev.ncond (by decide) h)
    · exact Ev.step (fun k => by rw [tabardref04_Read.j0]) (Ev.ncond (by decide) h)
  by_cases c2 : 224 ≤ (s.get! p).toNat ∧ (s.get! p).toNat < 240
  · obtain ⟨r, hr, hf⟩ := read_w3 hs hp c2
    refine ⟨r, j1 _ (by omega) (Ev.cond (by omega) ?_), hf⟩
    rw [decide_eq_true (show ((s.get! p).toNat : Int) < 240 by omega)]
    refine Ev.step (fun k => by rw [tabardref04_Read.j1, w2]) (Ev.cond rfl hr)
  by_cases c3 : 240 ≤ (s.get! p).toNat ∧ (s.get! p).toNat < 245
  · obtain ⟨r, hr, hf⟩ := read_w4 hs hp c3
    refine ⟨r, j1 _ (by omega) (Ev.cond (by omega) ?_), hf⟩
    rw [decide_eq_false (show ¬ ((s.get! p).toNat : Int) < 240 by omega)]
    refine Ev.step (fun k => by rw [tabardref04_Read.j1, w3]) (Ev.ncond (by decide) (Ev.cond (by omega) (Ev.cond (by omega) hr)))
  · refine ⟨(65533, 1, false), j1 _ (by omega) (Ev.ite (fun g => ?_) (fun g => ?_)), Or.inr ⟨rfl, ?_⟩⟩
    · rw [decide_eq_false (show ¬ ((s.get! p).toNat : Int) < 240 by omega)]
      exact Ev.step (fun k => by rw [tabardref04_Read.j1]) (Ev.ncond (by decide) (Ev.cond (by omega) (Ev.ncond (by omega) (Ev.fin rfl))))
    · exact Ev.step (fun k => by rw [tabardref04_Read.j1]) (Ev.ncond (by decide) (Ev.ncond (by omega) (Ev.fin rfl)))
    · unfold Go.Lib.decodeN; repeat' split
      all_goals first | (exfalso; omega) | rfl
end
end Go.Proofs.Ythgoonohpfoagaa.Pure
namespace Go.Proofs.Ythgoonohpfoagaa.Pure
open Go.RowKit Go.Proofs.YthgoonohpfoagaaW.PrintWords Go.Proofs.YthgoonohpfoagaaW.PrintLast Go.Proofs.YthgoonohpfoagaaW.PrintMore Go.Proofs.Ythgoonohpfoagaa.X
set_option linter.unusedVariables false
theorem rname_end (s : ByteArray) (n : Nat) : Ev (fun k => if (n : Int) ≥ 1 then (if (n : Int) ≤ 16 then ((tabardref04_Reserved.f k s).bind fun t => some (!t)) else some false) else some false) (decide (1 ≤ n ∧ n ≤ 16) && !resB s) := by
  by_cases h1 : 1 ≤ n
  · by_cases h2 : n ≤ 16
    · refine Ev.cond (by omega) (Ev.cond (by omega) ?_)
      rw [decide_eq_true ⟨h1, h2⟩, Bool.true_and]
      exact Ev.bind (rres_ev s) (Ev.fin rfl)
    · rw [decide_eq_false (fun e => h2 e.2)]
      exact Ev.cond (by omega) (Ev.ncond (by omega) (Ev.fin rfl))
  · rw [decide_eq_false (fun e => h1 e.1)]
    exact Ev.ncond (by omega) (Ev.fin rfl)
theorem decN_le (n a b c d : Nat) (h : 1 ≤ n) : (Go.Lib.decodeN n a b c d).2 ≤ n := by
  unfold Go.Lib.decodeN; repeat' split
  all_goals (simp only []; omega)
theorem dec_in (s : ByteArray) (p : Nat) (h : p < s.size) : p + (Utf8.decode s p).2 ≤ s.size := by
  rw [Go.Lib.decode_at]
  have := decN_le (s.size - p) (s.get! p).toNat (s.get! (p + 1)).toNat (s.get! (p + 2)).toNat (s.get! (p + 3)).toNat (by omega)
  omega
theorem rest_bad : restB ((65533 : Nat) : Int) = false := by decide +kernel
theorem rname_ev (s : ByteArray) (hs : s.size ≤ 9223372036854775807) : Ev (fun k => tabardref04_Name.f k s) (nameB s) := by
  have key : ∀ (m p n : Nat), s.size ≤ p + m → p ≤ s.size → n ≤ p → Ev (fun k => tabardref04_Name.l0 k s (n : Int) (p : Int)) (nameR m s p n) := by
    intro m
    induction m with
    | zero =>
      intro p n hp _ hn
      exact Ev.step (fun k => by rw [tabardref04_Name.l0]) (Ev.ncond (by omega) (rname_end s n))
    | succ m ih =>
      intro p n hp hp2 hn
      rw [nameR]
      by_cases c : p < s.size
      · rw [if_pos c]
        have hw := width_pos s p c
        obtain ⟨r, hr, hf⟩ := read_ev hs c
        refine Ev.step (fun k => by rw [tabardref04_Name.l0]) (Ev.cond (by omega) (Ev.bind hr ?_))
        rcases hf with ⟨f1, f2, f3⟩ | ⟨f1, f2⟩
        · have hb : p + (Utf8.decode s p).2 ≤ s.size := dec_in s p c
          rw [f2, f3]
          refine Ev.cond f1 ?_
          have go : restB ((Utf8.decode s p).1 : Int) = true → Ev (fun k => tabardref04_Name.l0 k s (wrap64 ((n : Int) + 1)) (wrap64 ((p : Int) + ((Utf8.decode s p).2 : Int)))) (nameR m s (p + (Utf8.decode s p).2) (n + 1)) := by
            intro _
            rw [w64 (x := (n : Int) + 1) (by omega) (by omega), w64 (x := (p : Int) + ((Utf8.decode s p).2 : Int)) (by omega) (by omega)]
            have := ih (p + (Utf8.decode s p).2) (n + 1) (by omega) hb (by omega)
            rwa [Int.natCast_add, Int.natCast_add] at this
          have tail : (n = 0 → startB ((Utf8.decode s p).1 : Int) = true) → Ev (fun k => (tabardref04_Rest.f k ((Utf8.decode s p).1 : Int)).bind fun t => (if t = true then (tabardref04_Name.l0 k s (wrap64 ((n : Int) + 1)) (wrap64 ((p : Int) + ((Utf8.decode s p).2 : Int)))) else (some false))) (if (n = 0 → startB ((Utf8.decode s p).1 : Int) = true) ∧ restB ((Utf8.decode s p).1 : Int) = true then nameR m s (p + (Utf8.decode s p).2) (n + 1) else false) := by
            intro h
            refine Ev.bind (rrest_ev _) (Ev.ite (fun g => ?_) (fun g => Ev.fin ?_))
            · rw [if_pos ⟨h, g⟩]; exact go g
            · rw [if_neg (fun e => g e.2)]
          refine Ev.ite (fun z => Ev.bind (rstart_ev _) (Ev.ite (fun h => tail (fun _ => h)) (fun h => Ev.fin ?_))) (fun z => tail (fun e => absurd (show (n : Int) = 0 by omega) z))
          rw [if_neg (fun e => h (e.1 (by omega)))]
        · rw [if_neg (fun e => by rw [f2] at e; exact absurd e.2 (by rw [rest_bad]; decide))]
          exact Ev.ncond (by rw [f1]; decide) (Ev.fin rfl)
      · rw [if_neg c]
        exact Ev.step (fun k => by rw [tabardref04_Name.l0]) (Ev.ncond (by omega) (rname_end s n))
  exact Ev.congr (fun k => by rw [tabardref04_Name.f]; rfl) (key s.size 0 0 (by omega) (by omega) (by omega))
theorem rrises_ev (ns : List ByteArray) (hn : ns.length ≤ 9000000000000000000) (hs : ∀ x ∈ ns, x.size ≤ 9223372036854775807) : Ev (fun k => tabardref04_Rises.f k ns) (risesB ns) := by
  have key : ∀ (m i : Nat), i + m = ns.length → Ev (fun k => tabardref04_Rises.l0 k ns (i : Int)) (risesR ns m i) := by
    intro m
    induction m with
    | zero =>
      intro i hi
      refine Ev.step (fun k => by rw [tabardref04_Rises.l0]) (Ev.ncond (by omega) ?_)
      exact Ev.fin rfl
    | succ m ih =>
      intro i hi
      rw [risesR]
      have sz : (rdOf ByteArray.empty ns (i : Int)).size ≤ 9223372036854775807 := by rw [rdOf_get _ ns (show i < ns.length by omega)]; exact hs _ (List.getElem_mem _)
      refine Ev.step (fun k => by rw [tabardref04_Rises.l0]) (Ev.cond (by omega) (Ev.cond (by omega) (Ev.bind (rname_ev _ sz) ?_)))
      refine Ev.ite (fun a => ?_) (fun a => Ev.fin ?_)
      · rw [a, Bool.true_and]
        have nx := ih (i + 1) (by omega)
        refine Ev.ite (fun b => ?_) (fun b => ?_)
        · rw [w64 (x := (i : Int) - 1) (by omega) (by omega), w64 (x := (i : Int) + 1) (by omega) (by omega), show (i : Int) - 1 = ((i - 1 : Nat) : Int) by omega, decide_eq_false (show ¬ i = 0 by omega), Bool.false_or]
          refine Ev.cond (by omega) (Ev.cond (by omega) (Ev.ite (fun c => ?_) (fun c => Ev.fin ?_)))
          · rw [c, Bool.true_and]; exact nx
          · rw [Bool.not_eq_true] at c; rw [c, Bool.false_and]
        · rw [decide_eq_true (show i = 0 by omega), Bool.true_or, Bool.true_and, w64 (by omega) (by omega)]
          exact nx
      · rw [Bool.not_eq_true] at a; rw [a, Bool.false_and]
  exact Ev.congr (fun k => by rw [tabardref04_Rises.f]; rfl) (key ns.length 0 (by omega))
section
variable {ns : List ByteArray} {n : Nat}
variable {ac : List Bool} {nx : List (List Int)}
end
end Go.Proofs.Ythgoonohpfoagaa.Pure
namespace Go.Proofs.Ythgoonohpfoagaa.Pure
open Go.RowKit Go.Proofs.YthgoonohpfoagaaW.PrintWords Go.Proofs.YthgoonohpfoagaaW.PrintLast Go.Proofs.YthgoonohpfoagaaW.PrintMore Go.Proofs.Ythgoonohpfoagaa.X
set_option linter.unusedVariables false
theorem copied_eq {a b c : Int} {ns : List ByteArray} {cs : List Int} (h0 : ns.length * 16 ≤ 140737488351232) (h1 : cs.length * 8 ≤ 140737488351232) : tabardlaw14_copied.f a ns cs b c = some (a, ns, cs, b, c) := by
  simp only [tabardlaw14_copied.f, Option.bind_some, List.nil_append, List.length_nil, Nat.zero_add]
  rw [if_pos (by omega), if_pos (by omega)]
/-! ### Check -/
/-- The sum of the absolute values. -/
def absS : List Int → Int
  | [] => 0
  | a :: l => (a.natAbs : Int) + absS l
theorem absS_nonneg : ∀ l : List Int, 0 ≤ absS l
  | [] => Int.le_refl _
  | a :: l => by have := absS_nonneg l; simp only [absS]; omega
theorem abs_eq {a : Int} (h : (Lit.int .i64 a).wf = true) : chk_Abs.f a = if (a.natAbs : Int) ≤ 9223372036854775807 then some ((a.natAbs : Int), 0) else some (0, 10) := by
  obtain ⟨h0, h1⟩ := i64_wf h
  unfold chk_Abs.f chk_Neg.f chk_Sub.f
  by_cases c : a < 0
  · rw [if_pos c, if_pos (by rw [decide_eq_true (show (0 : Int) ≥ 0 by omega), decide_eq_false (show ¬ a ≥ 0 by omega)]; rfl)]
    by_cases m : a = -9223372036854775808
    · subst m; decide +kernel
    · rw [w64 (by omega) (by omega), decide_eq_true (show 0 - a ≥ 0 by omega), decide_eq_true (show (0 : Int) ≥ 0 by omega), if_neg (by decide), if_pos (by omega)]
      simp only [Option.bind_some]
      rw [show (0 : Int) - a = (a.natAbs : Int) by omega]
  · rw [if_neg c, if_pos (by omega), show (a.natAbs : Int) = a by omega]
theorem add_eq {a b : Int} (h0 : 0 ≤ a) (h1 : a ≤ 9223372036854775807) (h2 : 0 ≤ b) (h3 : b ≤ 9223372036854775807) : chk_Add.f a b = if a + b ≤ 9223372036854775807 then some (a + b, 0) else some (0, 10) := by
  unfold chk_Add.f
  rw [decide_eq_true (show a ≥ 0 from h0), decide_eq_true (show b ≥ 0 from h2), if_pos (by decide)]
  by_cases c : a + b ≤ 9223372036854775807
  · rw [w64 (by omega) c, decide_eq_true (show a + b ≥ 0 by omega), if_neg (by decide), if_pos c]
  · rw [if_neg c, decide_eq_false (show ¬ wrap64 (a + b) ≥ 0 by unfold wrap64; omega), if_pos (by decide)]
theorem total_ev (l : List Int) (hl : l.length ≤ 9000000000000000000) (hw : ∀ x ∈ l, (Lit.int .i64 x).wf = true) :
    Ev (fun k => chk_Total.f k l) (if absS l ≤ 9223372036854775807 then (absS l, 0) else (0, 10)) := by
  refine Ev.congr (fun k => by rw [chk_Total.f]) ?_
  have key : ∀ (m i : Nat) (x : Int), i + m = l.length → 0 ≤ x → x ≤ 9223372036854775807 → Ev (fun k => chk_Total.l0 k x l (l.length : Int) (i : Int)) (if x + absS (l.drop i) ≤ 9223372036854775807 then (x + absS (l.drop i), 0) else (0, 10)) := by
    intro m
    induction m with
    | zero =>
      intro i x hi h0 h1
      rw [List.drop_of_length_le (by omega), absS, Int.add_zero, if_pos h1]
      exact Ev.step (fun k => by rw [chk_Total.l0]) (Ev.ncond (by omega) (Ev.fin rfl))
    | succ m ih =>
      intro i x hi h0 h1
      have ii : i < l.length := by omega
      have hx := hw _ (List.getElem_mem ii)
      have hd : absS (l.drop i) = ((l[i]).natAbs : Int) + absS (l.drop (i + 1)) := by rw [List.drop_eq_getElem_cons ii, absS]
      have h3 := absS_nonneg (l.drop (i + 1))
      refine Ev.step (fun k => by rw [chk_Total.l0]) (Ev.cond (by omega) (Ev.cond (by omega) (Ev.cond (by omega) ?_)))
      rw [show rd l (i : Int) = l[i] by simp [rd, List.getD_eq_getElem?_getD, ii]]
      have ha := abs_eq hx
      by_cases c : ((l[i]).natAbs : Int) ≤ 9223372036854775807
      · rw [if_pos c] at ha
        refine Ev.ret ha (Ev.cond rfl ?_)
        have hb := add_eq h0 h1 (by omega : (0 : Int) ≤ ((l[i]).natAbs : Int)) c
        by_cases d : x + ((l[i]).natAbs : Int) ≤ 9223372036854775807
        · rw [if_pos d] at hb
          refine Ev.ret hb (Ev.cond rfl ?_)
          rw [w64 (by omega) (by omega), hd, ← Int.add_assoc]
          exact ih (i + 1) _ (by omega) (by omega) d
        · rw [if_neg d] at hb
          refine Ev.ret hb (Ev.ncond (by decide) (Ev.fin ?_))
          rw [if_neg (by omega)]
      · rw [if_neg c] at ha
        refine Ev.ret ha (Ev.ncond (by decide) (Ev.fin ?_))
        rw [if_neg (by omega)]
  have := key l.length 0 0 (by omega) (by omega) (by omega)
  simpa using this
/-- Is a normal atom right? -/
def goodB (kind : Int) (names : List ByteArray) (coefs : List Int) (bound md : Int) : Bool :=
  decide (0 ≤ kind) && (decide (kind ≤ 2) && (risesB names && (decide (names.length = coefs.length) && (decide (absS (bound :: coefs) ≤ 9223372036854775807) &&
    if kind = 2 then decide (1 ≤ md) && (bound :: coefs).all (fun c => decide (0 ≤ c) && decide (c < md)) else decide (md = 0)))))
theorem tail_ev (kind bound md : Int) (names : List ByteArray) (coefs : List Int) (l : List Int) (hl : l.length ≤ 9000000000000000000) :
    ∀ (m i : Nat) (b : Bool), i + m = l.length → Ev (fun k => norm_Check.l0 k b l (l.length : Int) (i : Int) kind names coefs bound md) (if (b && (l.drop i).all (fun c => decide (0 ≤ c) && decide (c < md))) = true then 0 else 3) := by
  intro m
  induction m with
  | zero =>
    intro i b hi
    rw [List.drop_of_length_le (by omega), List.all_nil, Bool.and_true]
    exact Ev.step (fun k => by rw [norm_Check.l0]) (Ev.ncond (by omega) (Ev.ite (fun h => Ev.fin (if_pos h).symm) (fun h => Ev.fin (if_neg h).symm)))
  | succ m ih =>
    intro i b hi
    have ii : i < l.length := by omega
    refine Ev.step (fun k => by rw [norm_Check.l0]) (Ev.cond (by omega) (Ev.cond (by omega) (Ev.cond (by omega) ?_)))
    rw [show rd l (i : Int) = l[i] by simp [rd, List.getD_eq_getElem?_getD, ii], List.drop_eq_getElem_cons ii, List.all_cons, w64 (by omega) (by omega)]
    refine Ev.ite (fun hb => Ev.ite (fun hc => ?_) (fun hc => ?_)) (fun hb => ?_)
    · rw [hb, Bool.true_and, decide_eq_true (show 0 ≤ l[i] from hc), Bool.true_and]
      exact ih (i + 1) _ (by omega)
    · rw [hb, decide_eq_false (show ¬ 0 ≤ l[i] from hc), Bool.false_and, Bool.false_and, Bool.and_false]
      have := ih (i + 1) false (by omega)
      rw [Bool.false_and] at this
      exact this
    · rw [Bool.not_eq_true] at hb
      rw [hb, Bool.false_and]
      have := ih (i + 1) false (by omega)
      rw [Bool.false_and] at this
      exact this
theorem check_ev (kind bound md : Int) (names : List ByteArray) (coefs : List Int) (h0 : names.length * 16 ≤ 140737488351232) (hs : ∀ x ∈ names, x.size ≤ 9223372036854775807) (h1 : coefs.length * 8 ≤ 140737488351232)
    (hw : ∀ x ∈ coefs, (Lit.int .i64 x).wf = true) (hb : (Lit.int .i64 bound).wf = true) :
    Ev (fun k => norm_Check.f k kind names coefs bound md) (if goodB kind names coefs bound md = true then 0 else 3) := by
  have tail : ∀ b : Bool, Ev (fun k => norm_Check.j0 k (bound :: coefs) b kind names coefs bound md) (if (b && if kind = 2 then decide (1 ≤ md) && (bound :: coefs).all (fun c => decide (0 ≤ c) && decide (c < md)) else decide (md = 0)) = true then 0 else 3) := by
    intro b
    refine Ev.step (fun k => by rw [norm_Check.j0]) (Ev.ite (fun hk => ?_) (fun hk => ?_))
    · rw [if_pos hk]
      refine Ev.ite (fun c => ?_) (fun c => ?_)
      · rw [c, Bool.true_and]
        have := tail_ev kind bound md names coefs (bound :: coefs) (by simp only [List.length_cons]; omega) (bound :: coefs).length 0 (decide (md ≥ 1)) (by omega)
        rw [List.drop_zero] at this
        have this' : Ev (fun k => norm_Check.l0 k (decide (md ≥ 1)) (bound :: coefs) ((bound :: coefs).length : Int) 0 kind names coefs bound md) _ := this
        exact Ev.step (fun k => by rw [norm_Check.j1]) this'
      · rw [Bool.not_eq_true] at c
        rw [c, Bool.false_and]
        have := tail_ev kind bound md names coefs (bound :: coefs) (by simp only [List.length_cons]; omega) (bound :: coefs).length 0 false (by omega)
        rw [Bool.false_and] at this
        have this' : Ev (fun k => norm_Check.l0 k false (bound :: coefs) ((bound :: coefs).length : Int) 0 kind names coefs bound md) _ := this
        exact Ev.step (fun k => by rw [norm_Check.j1]) this'
    · rw [if_neg hk]
      refine Ev.ite (fun c => ?_) (fun c => ?_)
      · rw [c, Bool.true_and]
        exact Ev.ite (fun d => Ev.fin (if_pos (decide_eq_true d)).symm) (fun d => Ev.fin (if_neg (by simpa using d)).symm)
      · rw [Bool.not_eq_true] at c
        rw [c, Bool.false_and]
        exact Ev.fin rfl
  have no : ∀ {x : Bool}, x = false → Ev (fun k => norm_Check.j0 k (bound :: coefs) false kind names coefs bound md) (if x = true then 0 else 3) := by
    intro x hx
    have := tail false
    rw [Bool.false_and] at this
    rw [hx]; exact this
  refine Ev.congr (fun k => by rw [norm_Check.f]) ?_
  refine Ev.ret rfl ?_
  refine Ev.cond (by simp only [List.length_singleton]; omega) ?_
  refine Ev.ret rfl ?_
  rw [List.singleton_append]
  refine Ev.bind (total_ev (bound :: coefs) (by simp only [List.length_cons]; omega) (fun x hx => by rcases List.mem_cons.1 hx with rfl | hx; exact hb; exact hw x hx)) ?_
  unfold goodB
  refine Ev.ite (fun c0 => Ev.ite (fun c1 => ?_) (fun c1 => no (by rw [decide_eq_false c1]; simp))) (fun c0 => no (by rw [decide_eq_false c0]; simp))
  rw [decide_eq_true (show 0 ≤ kind from c0), decide_eq_true c1, Bool.true_and, Bool.true_and]
  refine Ev.bind (rises_ev names (by omega) hs) (Ev.ite (fun c2 => Ev.ite (fun c3 => ?_) (fun c3 => no (by rw [decide_eq_false (by omega)]; simp))) (fun c2 => no (by rw [Bool.not_eq_true] at c2; rw [c2]; simp)))
  rw [c2, Bool.true_and, decide_eq_true (show names.length = coefs.length by omega), Bool.true_and]
  have := tail ((if absS (bound :: coefs) ≤ 9223372036854775807 then (absS (bound :: coefs), (0 : Int)) else (0, 10)).2 == 0)
  rw [show ((if absS (bound :: coefs) ≤ 9223372036854775807 then (absS (bound :: coefs), (0 : Int)) else (0, 10)).2 == 0) = decide (absS (bound :: coefs) ≤ 9223372036854775807) by
    by_cases d : absS (bound :: coefs) ≤ 9223372036854775807
    · rw [if_pos d, decide_eq_true d]; rfl
    · rw [if_neg d, decide_eq_false d]; rfl] at this
  rw [show ((if absS (bound :: coefs) ≤ 9223372036854775807 then (absS (bound :: coefs), (0 : Int)) else (0, 10)).2 == 0) = decide (absS (bound :: coefs) ≤ 9223372036854775807) by
    by_cases d : absS (bound :: coefs) ≤ 9223372036854775807
    · rw [if_pos d, decide_eq_true d]; rfl
    · rw [if_neg d, decide_eq_false d]; rfl]
  exact this
end Go.Proofs.Ythgoonohpfoagaa.Pure
namespace Go.Proofs.Ythgoonohpfoagaa.Pure
open Go.RowKit Go.Proofs.YthgoonohpfoagaaW.PrintWords Go.Proofs.YthgoonohpfoagaaW.PrintLast Go.Proofs.YthgoonohpfoagaaW.PrintMore Go.Proofs.Ythgoonohpfoagaa.X
set_option linter.unusedVariables false
theorem Ev.fin' {α : Type} {g : Option α} {r : α} (h : g = some r) : Ev (fun _ => g) r := by rw [h]; exact Ev.now r
theorem and1 (a : Int) : Go.bits .and .i64 a 1 = a % 2 := by
  have e1 : (BitVec.ofInt 64 1).toNat = 1 := by decide
  have e2 : (BitVec.ofInt 64 a).toNat = (a % 18446744073709551616).toNat := by rw [BitVec.toNat_ofInt]; rfl
  have h : Go.bits .and .i64 a 1 = IntKind.i64.wrap ((BitVec.ofInt 64 a &&& BitVec.ofInt 64 1).toNat : Int) := rfl
  rw [h, BitVec.toNat_and, e1, e2, Nat.and_one_is_mod, IntKind.wrap_i64]
  omega
def R64 (x : Int) : Prop := -9223372036854775808 ≤ x ∧ x ≤ 9223372036854775807
theorem R64.wf {x : Int} (h : R64 x) : (Lit.int .i64 x).wf = true := by
  obtain ⟨h0, h1⟩ := h
  simp [Lit.wf, IntKind.min, IntKind.max, IntKind.signed, IntKind.bits]; omega
theorem R64.wrap (x : Int) : R64 (wrap64 x) := by unfold R64 wrap64; omega
/-- A place: its numbers; a congruence's modulus is 1 or more. -/
structure PlOk (kind : Int) (p : atom_Raw.Place) : Prop where
  rest : R64 p.1
  md : R64 p.2.1
  one : p.2.2.2.1 = false → kind = 2 → 1 ≤ p.2.1
theorem PlOk.nothing (kind : Int) : PlOk kind (0, 0, false, true, false) := ⟨⟨by decide, by decide⟩, ⟨by decide, by decide⟩, fun h => by cases h⟩
theorem halved_some (r s : Int) : ∃ h, atom_halved.f r s = some h ∧ R64 h := by
  unfold atom_halved.f chk_Half.f
  simp only [Option.bind_some]
  by_cases c : Go.bits .and .i64 r 1 = 0
  · rw [if_pos c]
    by_cases d : Go.bits .and .i64 s 1 = 1
    · rw [if_pos d]; exact ⟨_, rfl, R64.wrap _⟩
    · rw [if_neg d]; exact ⟨_, rfl, R64.wrap _⟩
  · rw [if_neg c]; exact ⟨_, rfl, R64.wrap _⟩
theorem rest_some {a m : Int} (ha : R64 a) (h1 : 1 ≤ m) (h2 : m ≤ 9223372036854775807) : ∃ r e, chk_Rest.f a m = some (r, e) ∧ R64 r := by
  unfold chk_Rest.f
  rw [if_neg (by omega), if_neg (by omega)]
  by_cases c : Int.tmod a m < 0
  · rw [if_pos c]; exact ⟨_, _, rfl, R64.wrap _⟩
  · rw [if_neg c]
    have h3 := Int.tmod_lt_of_pos a (show 0 < m by omega)
    exact ⟨_, _, rfl, by omega, by omega⟩
theorem to_total {kind : Int} (h0 : 0 ≤ kind) (h2 : kind ≤ 2) {p : atom_Raw.Place} (hp : PlOk kind p) (s : Int) : ∃ z, atom_Raw.to kind p s = some z ∧ PlOk kind z := by
  have fin : ∀ z : atom_Raw.Place, atom_next.f kind p.1 p.2.1 p.2.2.1 p.2.2.2.1 p.2.2.2.2 s = some z → PlOk kind z → ∃ z, atom_Raw.to kind p s = some z ∧ PlOk kind z := fun z hz ok => by
    refine ⟨z, ?_, ok⟩
    unfold atom_Raw.to
    rw [hz, Option.bind_some, if_pos ok.rest.wf, if_pos ok.md.wf]
  by_cases n : p.2.2.2.1 = true
  · exact fin (0, 0, false, true, false) (by unfold atom_next.f; rw [if_pos n]) (PlOk.nothing kind)
  · have n' : p.2.2.2.1 = false := by simpa using n
    have z0 : ∀ (x y : Int) (b : Bool), R64 x → R64 y → (kind = 2 → 1 ≤ y) → PlOk kind (x, y, false, false, b) := fun x y b hx hy h => ⟨hx, hy, fun _ => h⟩
    have r0 : R64 0 := ⟨by decide, by decide⟩
    by_cases k0 : kind = 0
    · obtain ⟨h, e, ok⟩ := halved_some p.1 s
      exact fin (h, 0, false, false, decide (p.1 ≥ wrap64 (-s))) (by unfold atom_next.f; rw [if_neg n, if_pos k0, e]; rfl) (z0 _ _ _ ok r0 (by omega))
    · by_cases k1 : kind = 1
      · obtain ⟨h, e, ok⟩ := halved_some p.1 s
        cases ev : (Go.bits .and .i64 p.1 1 == Go.bits .and .i64 s 1) with
        | true => exact fin (h, 0, false, false, p.1 == wrap64 (-s)) (by unfold atom_next.f; rw [if_neg n, if_neg k0, if_pos k1, atom_even.f, ev, Option.bind_some, if_pos rfl, e]; rfl) (z0 _ _ _ ok r0 (by omega))
        | false => exact fin (0, 0, false, true, false) (by unfold atom_next.f; rw [if_neg n, if_neg k0, if_pos k1, atom_even.f, ev, Option.bind_some, if_neg (by decide)]) (PlOk.nothing kind)
      · have k2 : kind = 2 := by omega
        have m1 := hp.one n' k2
        have m2 := hp.md.2
        have hc : ∃ z, atom_congruent.f p.1 p.2.1 p.2.2.1 p.2.2.2.1 p.2.2.2.2 s = some z ∧ PlOk kind z := by
          unfold atom_congruent.f
          rw [if_neg (by omega)]
          by_cases ce : Go.bits .and .i64 p.2.1 1 = 0
          · rw [if_pos ce]
            rw [and1] at ce
            by_cases cd : Go.bits .and .i64 (wrap64 (p.1 - Int.tmod s p.2.1)) 1 = 0
            · rw [if_pos cd, chk_Half.f, Option.bind_some]
              have hd : Int.tdiv p.2.1 2 = p.2.1 / 2 := Int.tdiv_eq_ediv_of_nonneg (by omega)
              have hw : wrap64 (Int.tdiv p.2.1 2) = p.2.1 / 2 := by rw [hd]; exact w64 (by omega) (by omega)
              rw [hw]
              obtain ⟨r, e, er, ok⟩ := rest_some (a := wrap64 (p.1 - Int.tmod s p.2.1) / 2) (m := p.2.1 / 2) (by have := R64.wrap (p.1 - Int.tmod s p.2.1); unfold R64 at this ⊢; omega) (by omega) (by omega)
              rw [er, Option.bind_some]
              exact ⟨_, rfl, z0 _ _ _ ok ⟨by omega, by omega⟩ (fun _ => by omega)⟩
            · rw [if_neg cd]
              exact ⟨_, rfl, PlOk.nothing kind⟩
          · rw [if_neg ce]
            by_cases c1 : wrap64 (p.1 - Int.tmod s p.2.1) < 0
            · rw [if_pos c1]
              by_cases c2 : Go.bits .and .i64 (wrap64 (wrap64 (p.1 - Int.tmod s p.2.1) + p.2.1)) 1 = 0
              · rw [if_pos c2]; exact ⟨_, rfl, z0 _ _ _ (R64.wrap _) hp.md (fun _ => m1)⟩
              · rw [if_neg c2]; exact ⟨_, rfl, z0 _ _ _ (R64.wrap _) hp.md (fun _ => m1)⟩
            · rw [if_neg c1]
              by_cases c2 : Go.bits .and .i64 (wrap64 (p.1 - Int.tmod s p.2.1)) 1 = 0
              · rw [if_pos c2]; exact ⟨_, rfl, z0 _ _ _ (R64.wrap _) hp.md (fun _ => m1)⟩
              · rw [if_neg c2]; exact ⟨_, rfl, z0 _ _ _ (R64.wrap _) hp.md (fun _ => m1)⟩
        obtain ⟨z, hz, ok⟩ := hc
        exact fin z (by unfold atom_next.f; rw [if_neg n, if_neg k0, if_neg k1, hz]; rfl) ok
/-- One row comes out. -/
theorem row_total {kind : Int} (h0 : 0 ≤ kind) (h2 : kind ≤ 2) {p : atom_Raw.Place} (hp : PlOk kind p) : ∀ (l : List Int) (a : Nat) (ps : List atom_Raw.Place) (xs : List Int), (∀ q ∈ ps, PlOk kind q) → ps.length ≤ 256 →
    ∃ b ps' xs', atom_Raw.row kind p l a ps xs = some (b, ps', xs') ∧ xs'.length = xs.length ∧ (b = true → (∀ q ∈ ps', PlOk kind q) ∧ ps'.length ≤ 256 ∧ ps.length ≤ ps'.length)
  | [], a, ps, xs, hps, hl => ⟨true, ps, xs, rfl, rfl, fun _ => ⟨hps, hl, Nat.le_refl _⟩⟩
  | s :: l, a, ps, xs, hps, hl => by
    obtain ⟨z, hz, ok⟩ := to_total h0 h2 hp s
    rw [atom_Raw.row, hz, Option.bind_some]
    by_cases c : z ∈ ps
    · rw [if_pos c]
      obtain ⟨b, ps', xs', e, h3, h4⟩ := row_total h0 h2 hp l (a + 1) ps (xs.set a ((num1 ps z : Nat) : Int)) hps hl
      exact ⟨b, ps', xs', e, by rw [h3, List.length_set], h4⟩
    · rw [if_neg c]
      by_cases d : ps.length = 256
      · rw [if_pos d]
        exact ⟨false, ps, xs, rfl, rfl, fun h => by cases h⟩
      · rw [if_neg d]
        obtain ⟨b, ps', xs', e, h3, h4⟩ := row_total h0 h2 hp l (a + 1) (ps ++ [z]) (xs.set a ((ps.length : Nat) : Int)) (fun q hq => by
          rcases List.mem_append.1 hq with hq | hq
          · exact hps q hq
          · rw [List.mem_singleton.1 hq]; exact ok) (by simp; omega)
        exact ⟨b, ps', xs', e, by rw [h3, List.length_set], fun hb => by have := h4 hb; exact ⟨this.1, this.2.1, by have := this.2.2; simp at this; omega⟩⟩
theorem getD_mem {α : Type} (d : α) : ∀ (l : List α) (i : Nat), i < l.length → l.getD i d ∈ l := fun l i h => by
  rw [List.getD_eq_getElem?_getD, List.getElem?_eq_getElem h]; exact List.getElem_mem h
theorem go_total {kind : Int} (h0 : 0 ≤ kind) (h2 : kind ≤ 2) (letters : List Int) : ∀ (k q : Nat) (ps : List atom_Raw.Place) (ac : List Bool) (nx : List (List Int)), (∀ p ∈ ps, PlOk kind p) → ps.length ≤ 256 → 257 ≤ q + k → q ≤ ps.length → ac.length = q → nx.length = q → (∀ r ∈ nx, r.length = letters.length) →
    ∃ z, atom_Raw.go kind letters k q ps ac nx = some z ∧ z.2.1.length = z.2.2.length ∧ z.2.1.length ≤ 256 ∧ (∀ r ∈ z.2.2, r.length = letters.length)
  | 0, q, ps, ac, nx, hps, hl, hk, hq, ha, hn, hr => by omega
  | k + 1, q, ps, ac, nx, hps, hl, hk, hq, ha, hn, hr => by
    rw [atom_Raw.go]
    by_cases c : q < ps.length
    · rw [if_pos c]
      obtain ⟨b, ps', xs', e, h3, h4⟩ := row_total h0 h2 (hps _ (getD_mem atom_Raw.noPlace ps q c)) letters 0 ps (List.replicate letters.length 0) hps hl
      rw [e, Option.bind_some]
      cases b with
      | true =>
        rw [if_pos rfl]
        obtain ⟨h5, h6, h7⟩ := h4 rfl
        refine go_total h0 h2 letters k (q + 1) ps' _ _ h5 h6 (by omega) (by omega) (by simp [ha]) (by simp [hn]) (fun r hr' => ?_)
        rcases List.mem_append.1 hr' with hr' | hr'
        · exact hr r hr'
        · rw [List.mem_singleton.1 hr']
          have h3' : xs'.length = (List.replicate letters.length (0 : Int)).length := h3
          rw [List.length_replicate] at h3'
          exact h3'
      | false =>
        rw [if_neg (by simp)]
        exact ⟨_, rfl, by rw [ha, hn], by simp only; omega, hr⟩
    · rw [if_neg c]
      exact ⟨_, rfl, by rw [ha, hn], by simp only; omega, hr⟩
end Go.Proofs.Ythgoonohpfoagaa.Pure
namespace Go.Proofs.Ythgoonohpfoagaa.Pure
open Go.RowKit Go.Proofs.YthgoonohpfoagaaW.PrintWords Go.Proofs.YthgoonohpfoagaaW.PrintLast Go.Proofs.YthgoonohpfoagaaW.PrintMore Go.Proofs.Ythgoonohpfoagaa.X
set_option linter.unusedVariables false
theorem num1_lt {α : Type} [DecidableEq α] {ps : List α} {z : α} (h : z ∈ ps) : num1 ps z < ps.length := List.idxOf_lt_length_of_mem h
theorem num1_get {α : Type} [DecidableEq α] {ps : List α} {z : α} (h : z ∈ ps) : ps[num1 ps z]? = some z := by
  rw [List.getElem?_eq_getElem (num1_lt h)]
  exact congrArg some (List.getElem_idxOf (num1_lt h))
/-- A row that came out whole: the places go on, and each of its numbers is the place that its letter leads to. -/
theorem row_spec {kind : Int} {p : atom_Raw.Place} : ∀ (l : List Int) (a : Nat) (ps : List atom_Raw.Place) (xs : List Int) (ps' : List atom_Raw.Place) (xs' : List Int), atom_Raw.row kind p l a ps xs = some (true, ps', xs') → a + l.length = xs.length →
    (∃ t, ps' = ps ++ t) ∧ xs'.length = xs.length ∧ (∀ i, i < a → xs'[i]? = xs[i]?) ∧
      ∀ j, (h : j < l.length) → ∃ z n, atom_Raw.to kind p l[j] = some z ∧ xs'[a + j]? = some ((n : Nat) : Int) ∧ ps'[n]? = some z
  | [], a, ps, xs, ps', xs', h, hl => by
    rw [atom_Raw.row] at h
    simp only [Option.some.injEq, Prod.mk.injEq, true_and] at h
    obtain ⟨rfl, rfl⟩ := h
    exact ⟨⟨[], by simp⟩, rfl, fun _ _ => rfl, fun j h => absurd h (Nat.not_lt_zero _)⟩
  | s :: l, a, ps, xs, ps', xs', h, hl => by
    rw [atom_Raw.row] at h
    obtain ⟨z, hz, h⟩ := Option.bind_eq_some_iff.mp h
    have hl' : a + 1 + l.length = xs.length := by simp only [List.length_cons] at hl; omega
    have fin : ∀ (q : List atom_Raw.Place) (n : Nat), (∃ t, q = ps ++ t) → q[n]? = some z → atom_Raw.row kind p l (a + 1) q (xs.set a ((n : Nat) : Int)) = some (true, ps', xs') → (∃ t, ps' = ps ++ t) ∧ xs'.length = xs.length ∧ (∀ i, i < a → xs'[i]? = xs[i]?) ∧
        ∀ j, (h : j < (s :: l).length) → ∃ z n, atom_Raw.to kind p (s :: l)[j] = some z ∧ xs'[a + j]? = some ((n : Nat) : Int) ∧ ps'[n]? = some z := by
      rintro q n ⟨t, rfl⟩ hn h
      obtain ⟨⟨t', rfl⟩, h2, h3, h4⟩ := row_spec l (a + 1) _ _ ps' xs' h (by rw [List.length_set]; exact hl')
      refine ⟨⟨t ++ t', by rw [List.append_assoc]⟩, by rw [h2, List.length_set], fun i hi => by rw [h3 i (by omega), List.getElem?_set_ne (by omega)], fun j hj => ?_⟩
      cases j with
      | zero =>
        refine ⟨z, n, hz, ?_, ?_⟩
        · rw [Nat.add_zero, h3 a (by omega), List.getElem?_set_self (by omega)]
        · rw [List.getElem?_append_left (by have := List.getElem?_eq_some_iff.1 hn; exact this.1)]; exact hn
      | succ j =>
        obtain ⟨z', n', e1, e2, e3⟩ := h4 j (by simp only [List.length_cons] at hj; omega)
        exact ⟨z', n', e1, by rw [show a + (j + 1) = a + 1 + j by omega]; exact e2, e3⟩
    by_cases c : z ∈ ps
    · rw [if_pos c] at h
      exact fin ps _ ⟨[], by simp⟩ (num1_get c) h
    · rw [if_neg c] at h
      by_cases d : ps.length = 256
      · rw [if_pos d] at h
        cases h
      · rw [if_neg d] at h
        exact fin (ps ++ [z]) ps.length ⟨[z], rfl⟩ (by simp) h
/-- State i, whose place is p, answers as the place does. -/
def StOk (kind : Int) (letters : List Int) (ps : List atom_Raw.Place) (ac : List Bool) (nx : List (List Int)) (i : Nat) (p : atom_Raw.Place) : Prop :=
  ac[i]? = some p.2.2.2.2 ∧ ∃ r, nx[i]? = some r ∧ r.length = letters.length ∧ ∀ j, (h : j < letters.length) → ∃ z n, atom_Raw.to kind p letters[j] = some z ∧ r[j]? = some ((n : Nat) : Int) ∧ ps[n]? = some z
theorem StOk.more {kind : Int} {letters : List Int} {ps : List atom_Raw.Place} {ac : List Bool} {nx : List (List Int)} {i : Nat} {p : atom_Raw.Place} (h : StOk kind letters ps ac nx i p) (t : List atom_Raw.Place) (b : List Bool) (c : List (List Int)) : StOk kind letters (ps ++ t) (ac ++ b) (nx ++ c) i p := by
  obtain ⟨h1, r, h2, h3, h4⟩ := h
  refine ⟨by rw [List.getElem?_append_left (List.getElem?_eq_some_iff.1 h1).1]; exact h1, r, by rw [List.getElem?_append_left (List.getElem?_eq_some_iff.1 h2).1]; exact h2, h3, fun j hj => ?_⟩
  obtain ⟨z, n, e1, e2, e3⟩ := h4 j hj
  exact ⟨z, n, e1, e2, by rw [List.getElem?_append_left (List.getElem?_eq_some_iff.1 e3).1]; exact e3⟩
theorem go_spec {kind : Int} {letters : List Int} : ∀ (k q : Nat) (ps : List atom_Raw.Place) (ac : List Bool) (nx : List (List Int)) (ac' : List Bool) (nx' : List (List Int)), atom_Raw.go kind letters k q ps ac nx = some (true, ac', nx') →
    q ≤ ps.length → ac.length = q → nx.length = q → (∀ i p, i < q → ps[i]? = some p → StOk kind letters ps ac nx i p) →
    ∃ t, ac'.length = (ps ++ t).length ∧ nx'.length = (ps ++ t).length ∧ ∀ i p, (ps ++ t)[i]? = some p → StOk kind letters (ps ++ t) ac' nx' i p
  | 0, q, ps, ac, nx, ac', nx', h, _, _, _, _ => by cases h
  | k + 1, q, ps, ac, nx, ac', nx', h, hq, ha, hn, hi => by
    rw [atom_Raw.go] at h
    by_cases c : q < ps.length
    · rw [if_pos c] at h
      obtain ⟨⟨b, ps1, xs1⟩, hr, h⟩ := Option.bind_eq_some_iff.mp h
      cases b with
      | false => rw [if_neg (by simp)] at h; simp at h
      | true =>
        rw [if_pos rfl] at h
        obtain ⟨⟨t, rfl⟩, h2, _, h4⟩ := row_spec letters 0 ps _ ps1 xs1 hr (by simp)
        rw [List.length_replicate] at h2
        have pq : (ps ++ t)[q]? = some (ps.getD q atom_Raw.noPlace) := by
          rw [List.getElem?_append_left c, List.getD_eq_getElem?_getD, List.getElem?_eq_getElem c]; rfl
        have tq : ((ps ++ t).getD q atom_Raw.noPlace) = ps.getD q atom_Raw.noPlace := by rw [List.getD_eq_getElem?_getD, pq]; rfl
        obtain ⟨t', e1, e2, e3⟩ := go_spec k (q + 1) (ps ++ t) _ _ ac' nx' h (by simp; omega) (by simp [ha]) (by simp [hn]) (fun i p hlt hp => by
          by_cases e : i = q
          · subst e
            rw [pq] at hp
            obtain rfl := Option.some.inj hp
            refine ⟨?_, xs1, ?_, h2, fun j hj => ?_⟩
            · rw [List.getElem?_append_right (by omega), ha, Nat.sub_self]
              exact congrArg (fun z : atom_Raw.Place => some z.2.2.2.2) tq
            · rw [List.getElem?_append_right (by omega), hn, Nat.sub_self]; rfl
            · obtain ⟨z, n, g1, g2, g3⟩ := h4 j hj
              exact ⟨z, n, g1, by rw [Nat.zero_add] at g2; exact g2, g3⟩
          · have hp' : ps[i]? = some p := by rw [List.getElem?_append_left (by omega)] at hp; exact hp
            exact (hi i p (by omega) hp').more t _ _)
        exact ⟨t ++ t', by rw [← List.append_assoc]; exact e1, by rw [← List.append_assoc]; exact e2, by rw [← List.append_assoc]; exact e3⟩
    · rw [if_neg c] at h
      simp only [Option.some.injEq, Prod.mk.injEq, true_and] at h
      obtain ⟨rfl, rfl⟩ := h
      exact ⟨[], by simp; omega, by simp; omega, fun i p hp => by
        rw [List.append_nil] at hp ⊢
        exact hi i p (by have := (List.getElem?_eq_some_iff.1 hp).1; omega) hp⟩
end Go.Proofs.Ythgoonohpfoagaa.Pure
namespace Go.Proofs.Ythgoonohpfoagaa.Pure
open Go.RowKit Go.Proofs.YthgoonohpfoagaaW.PrintWords Go.Proofs.YthgoonohpfoagaaW.PrintLast Go.Proofs.YthgoonohpfoagaaW.PrintMore Go.Proofs.Ythgoonohpfoagaa.X
set_option linter.unusedVariables false
/-- The place that letters (by their sums) lead to. -/
def placeOf (kind : Int) (letters : List Int) : List Nat → atom_Raw.Place → Option atom_Raw.Place
  | [], p => some p
  | a :: r, p => (atom_Raw.to kind p (letters.getD a 0)).bind (placeOf kind letters r)
theorem run_spec {kind : Int} {letters : List Int} {ns : List ByteArray} {ps : List atom_Raw.Place} {ac : List Bool} {nx : List (List Int)} (hn : nx.length = ps.length) (hl : nx.length ≤ 256) (ok : ∀ i p, ps[i]? = some p → StOk kind letters ps ac nx i p)
    {v : List Nat} {w : List Int} (hw : w = v.map fun a => ((a : Nat) : Int)) (hv : ∀ a ∈ v, a < letters.length) (hb : w.length ≤ 9000000000000000000) :
    ∀ (m i : Nat) (q : Nat) (p : atom_Raw.Place), i + m = v.length → ps[q]? = some p → ∃ q' p', placeOf kind letters (v.drop i) p = some p' ∧ ps[q']? = some p' ∧ Ev (fun k => tabardref12_Run.l0 k (q : Int) w (i : Int) ns ac nx) ((q' : Nat) : Int) := by
  intro m
  have wl : w.length = v.length := by rw [hw, List.length_map]
  induction m with
  | zero =>
    intro i q p hi hp
    exact ⟨q, p, by rw [List.drop_of_length_le (by omega)]; rfl, hp, Ev.step (fun k => by rw [tabardref12_Run.l0]) (Ev.ncond (by omega) (Ev.fin rfl))⟩
  | succ m ih =>
    intro i q p hi hp
    have ii : i < v.length := by omega
    have hq : q < nx.length := by rw [hn]; exact (List.getElem?_eq_some_iff.1 hp).1
    obtain ⟨_, r, h2, h3, h4⟩ := ok q p hp
    have ha := hv _ (List.getElem_mem ii)
    obtain ⟨z, n, e1, e2, e3⟩ := h4 v[i] ha
    obtain ⟨q', p', g1, g2, g3⟩ := ih (i + 1) n z (by omega) e3
    have rw_ : rd w (i : Int) = ((v[i] : Nat) : Int) := by simp [rd, hw, List.getD_eq_getElem?_getD, ii]
    have rl : rd_L3 nx (q : Int) = r := by simp [rd_L3, List.getD_eq_getElem?_getD, h2]
    have rr : rd r ((v[i] : Nat) : Int) = ((n : Nat) : Int) := by simp [rd, List.getD_eq_getElem?_getD, e2]
    refine ⟨q', p', ?_, g2, Ev.step (fun k => by rw [tabardref12_Run.l0]) (Ev.cond (by omega) (Ev.cond (by omega) (Ev.cond (by omega) (Ev.cond (by omega) ?_))))⟩
    · rw [List.drop_eq_getElem_cons ii, placeOf, List.getD_eq_getElem?_getD, List.getElem?_eq_getElem ha, Option.getD_some, e1, Option.bind_some]
      exact g1
    · rw [rw_, rl, rr, w64 (by omega) (by omega)]
      exact Ev.cond (by omega) (Ev.cond (by omega) g3)
theorem takes_spec {kind : Int} {letters : List Int} {ns : List ByteArray} {ps : List atom_Raw.Place} {ac : List Bool} {nx : List (List Int)} (hn : nx.length = ps.length) (ha : ac.length = ps.length) (hl : nx.length ≤ 256) (ok : ∀ i p, ps[i]? = some p → StOk kind letters ps ac nx i p)
    {v : List Nat} {w : List Int} (hw : w = v.map fun a => ((a : Nat) : Int)) (hv : ∀ a ∈ v, a < letters.length) (hb : w.length ≤ 9000000000000000000) {p : atom_Raw.Place} (hp : ps[0]? = some p) :
    ∃ p', placeOf kind letters v p = some p' ∧ Ev (fun k => tabardref12_Takes.f k ns ac nx w) p'.2.2.2.2 := by
  obtain ⟨q', p', h1, h2, h3⟩ := run_spec (ns := ns) hn hl ok hw hv hb v.length 0 0 p (by omega) hp
  have h3' : Ev (fun k => tabardref12_Run.f k ns ac nx 0 w) ((q' : Nat) : Int) := Ev.congr (fun k => by rw [tabardref12_Run.f]; rfl) h3
  have hq := (List.getElem?_eq_some_iff.1 h2).1
  refine ⟨p', by rw [List.drop_zero] at h1; exact h1, Ev.congr (fun k => by rw [tabardref12_Takes.f]) (Ev.bind h3' ?_)⟩
  refine Ev.cond (by omega) (Ev.cond (by omega) (Ev.fin ?_))
  have := (ok q' p' h2).1
  simp [rdOf, List.getD_eq_getElem?_getD, this]
end Go.Proofs.Ythgoonohpfoagaa.Pure
namespace Go.Proofs.Ythgoonohpfoagaa.Pure
open Go.RowKit Go.Proofs.YthgoonohpfoagaaW.PrintWords Go.Proofs.YthgoonohpfoagaaW.PrintLast Go.Proofs.YthgoonohpfoagaaW.PrintMore Go.Proofs.Ythgoonohpfoagaa.X
set_option linter.unusedVariables false
/-- The sums, of whole numbers. -/
def sumsI : List Int → List Int → List Int
  | acc, [] => acc
  | acc, c :: cs => sumsI (acc ++ acc.map (· + c)) cs
theorem sums_exact : ∀ (l acc : List Int) (M : Int), M ≤ 9223372036854775807 → (∀ s ∈ acc, (s.natAbs : Int) + absS l ≤ M) → atom_sums.L acc l = sumsI acc l ∧ ∀ s ∈ sumsI acc l, (s.natAbs : Int) ≤ M
  | [], acc, M, hM, h => ⟨rfl, fun s hs => by have := h s hs; simp only [absS] at this; omega⟩
  | c :: l, acc, M, hM, h => by
    have n := absS_nonneg l
    have e : (acc.map fun s => wrap64 (s + c)) = acc.map (· + c) := List.map_congr_left (fun s hs => by
      have := h s hs; simp only [absS] at this
      exact w64 (by omega) (by omega))
    rw [atom_sums.L, sumsI, e]
    refine sums_exact l _ M hM (fun s hs => ?_)
    rcases List.mem_append.1 hs with hs | hs
    · have := h s hs; simp only [absS] at this; omega
    · obtain ⟨t, ht, rfl⟩ := List.mem_map.1 hs
      have := h t ht; simp only [absS] at this; omega
theorem sums_neg : ∀ (l acc : List Int), sumsI (acc.map fun x => -x) (l.map fun x => -x) = (sumsI acc l).map fun x => -x
  | [], acc => rfl
  | c :: l, acc => by
    rw [List.map_cons, sumsI, sumsI, ← sums_neg l]
    congr 1
    rw [List.map_append, List.map_map, List.map_map]
    congr 1
    exact List.map_congr_left (fun x _ => by simp only [Function.comp]; omega)
theorem absS_neg : ∀ l : List Int, absS (l.map fun x => -x) = absS l
  | [] => rfl
  | c :: l => by rw [List.map_cons, absS, absS, absS_neg l, Int.natAbs_neg]
/-- The greatest whole number that is at most half of r - s. -/
theorem halved_eq {r s : Int} (hr : R64 r) (hs : R64 s) : atom_halved.f r s = some ((r - s) / 2) := by
  obtain ⟨r0, r1⟩ := hr
  obtain ⟨s0, s1⟩ := hs
  unfold atom_halved.f chk_Half.f
  simp only [Option.bind_some, and1]
  by_cases c : r % 2 = 0
  · rw [if_pos c]
    by_cases d : s % 2 = 1
    · rw [if_pos d, w64 (x := r / 2 - s / 2) (by omega) (by omega), w64 (by omega) (by omega)]
      exact congrArg some (by omega)
    · rw [if_neg d, w64 (by omega) (by omega)]
      exact congrArg some (by omega)
  · rw [if_neg c, w64 (by omega) (by omega)]
    exact congrArg some (by omega)
end Go.Proofs.Ythgoonohpfoagaa.Pure
namespace Go.Proofs.Ythgoonohpfoagaa.Pure
open Go.RowKit Go.Proofs.YthgoonohpfoagaaW.PrintWords Go.Proofs.YthgoonohpfoagaaW.PrintLast Go.Proofs.YthgoonohpfoagaaW.PrintMore Go.Proofs.Ythgoonohpfoagaa.X
set_option linter.unusedVariables false
theorem letters14_ev {n : Nat} (h : n ≤ 6) : Ev (fun k => tabardref12_Letters.f k (n : Int)) ((2 ^ n : Nat) : Int) := by
  have all : ∀ i : Fin 7, tabardref12_Letters.f 9 ((i.val : Nat) : Int) = some ((2 ^ i.val : Nat) : Int) := by decide +kernel
  exact Ev.of (fun k => tabardref12_Letters.mono _ k) (all ⟨n, by omega⟩)
theorem right14_ev {ns : List ByteArray} {ac : List Bool} {nx : List (List Int)} (h6 : ns.length ≤ 6) (hr : Ev (fun k => tabardref04_Rises.f k ns) true) (h1 : 1 ≤ ac.length) (h2 : ac.length ≤ 256) (hn : nx.length = ac.length)
    (hx : ∀ r ∈ nx, r.length = 2 ^ ns.length ∧ ∀ x ∈ r, 0 ≤ x ∧ x < (ac.length : Int)) : Ev (fun k => tabardref12_Right.f k ns ac nx) true := by
  have hf : Ev (fun k => tabardref12_Frame.f k ns (ac.length : Int)) true := by
    refine Ev.congr (fun k => by rw [tabardref12_Frame.f]) (Ev.cond (by omega) (Ev.bind hr ?_))
    refine Ev.cond rfl ?_
    refine Ev.cond (by omega) (Ev.fin ?_)
    exact decide_eq_true (by omega)
  have p6 : 2 ^ ns.length ≤ 64 := Nat.le_trans (Nat.pow_le_pow_right (by decide) h6) (by decide)
  refine Ev.congr (fun k => by rw [tabardref12_Right.f]) (Ev.bind hf (Ev.cond rfl ?_))
  rw [show ((nx.length : Int) != (ac.length : Int)) = false by simp [hn]]
  refine Ev.step (fun k => by rw [tabardref12_Right.j0]) (Ev.ncond (by decide) ?_)
  have key : ∀ (m i : Nat), i + m = ac.length → Ev (fun k => tabardref12_Right.l0 k (ac.length : Int) (i : Int) ns ac nx) true := by
    intro m
    induction m with
    | zero => intro i hi; exact Ev.step (fun k => by rw [tabardref12_Right.l0]) (Ev.ncond (by omega) (Ev.fin rfl))
    | succ m ih =>
      intro i hi
      have ii : i < nx.length := by omega
      obtain ⟨rl, rx⟩ := hx _ (List.getElem_mem ii)
      have e : rd_L3 nx (i : Int) = nx[i] := by simp [rd_L3, List.getD_eq_getElem?_getD, ii]
      refine Ev.step (fun k => by rw [tabardref12_Right.l0]) (Ev.cond (by omega) (Ev.cond (by omega) (Ev.cond (by omega) (Ev.bind (letters14_ev h6) ?_))))
      refine Ev.cond (by rw [e, rl]) ?_
      have inner : ∀ (s j : Nat), j + s = nx[i].length → Ev (fun k => tabardref12_Right.l1 k (ac.length : Int) (i : Int) (j : Int) ns ac nx) true := by
        intro s
        induction s with
        | zero =>
          intro j hj
          have nxt := ih (i + 1) (by omega)
          refine Ev.step (fun k => by rw [tabardref12_Right.l1]) (Ev.cond (by omega) (Ev.cond (by omega) (Ev.ncond (by rw [e]; omega) ?_)))
          rw [w64 (by omega) (by omega)]
          exact nxt
        | succ s ihs =>
          intro j hj
          have jj : j < nx[i].length := by omega
          have xx := rx _ (List.getElem_mem jj)
          have e2 : rd nx[i] (j : Int) = nx[i][j] := by simp [rd, List.getD_eq_getElem?_getD, jj]
          refine Ev.step (fun k => by rw [tabardref12_Right.l1]) (Ev.cond (by omega) (Ev.cond (by omega) (Ev.cond (by rw [e]; omega) (Ev.cond (by omega) ?_))))
          rw [e, e2, w64 (by omega) (by omega)]
          exact Ev.ncond (by omega) (Ev.ncond (by omega) (ihs (j + 1) (by omega)))
      exact inner nx[i].length 0 (by omega)
  exact key ac.length 0 (by omega)
end Go.Proofs.Ythgoonohpfoagaa.Pure
namespace Go.Proofs.Ythgoonohpfoagaa.Pure
open Go.RowKit Go.Proofs.YthgoonohpfoagaaW.PrintWords Go.Proofs.YthgoonohpfoagaaW.PrintLast Go.Proofs.YthgoonohpfoagaaW.PrintMore Go.Proofs.Ythgoonohpfoagaa.X
set_option linter.unusedVariables false
theorem negated_ev {a b m : Int} {ns : List ByteArray} {cs : List Int} (h0 : ns.length * 16 ≤ 140737488351232) (h1 : cs.length * 8 ≤ 140737488351232) :
    Ev (fun k => tabardlaw14_negated.f k a ns cs b m) (if b = 9223372036854775807 ∨ b < -9223372036854775806 then (a, ns, cs, b, m, false) else (a, ns, cs.map fun c => wrap64 (-c), wrap64 (-(wrap64 (b + 1))), m, true)) := by
  refine Ev.congr (fun k => by rw [tabardlaw14_negated.f]) (Ev.ret (copied_eq h0 h1) ?_)
  refine Ev.ite (fun c => ?_) (fun c => ?_)
  · rw [if_pos (.inl c)]
    exact Ev.step (fun k => by rw [tabardlaw14_negated.j0]) (Ev.cond rfl (Ev.fin rfl))
  · by_cases d : b < -9223372036854775806
    · rw [if_pos (.inr d), decide_eq_true d]
      exact Ev.step (fun k => by rw [tabardlaw14_negated.j0]) (Ev.cond rfl (Ev.fin rfl))
    · rw [if_neg (by rintro (h | h); exact c h; exact d h), decide_eq_false d]
      refine Ev.step (fun k => by rw [tabardlaw14_negated.j0]) (Ev.ncond (by decide) ?_)
      have key : ∀ (s i : Nat), i + s = cs.length → Ev (fun k => tabardlaw14_negated.l0 k cs (cs.length : Int) (i : Int) a ns cs b m a ns ((cs.take i).map (fun c => wrap64 (-c)) ++ cs.drop i) b m) (a, ns, cs.map fun c => wrap64 (-c), wrap64 (-(wrap64 (b + 1))), m, true) := by
        intro s
        induction s with
        | zero =>
          intro i hi
          rw [List.take_of_length_le (by omega), List.drop_of_length_le (by omega), List.append_nil]
          exact Ev.step (fun k => by rw [tabardlaw14_negated.l0]) (Ev.ncond (by omega) (Ev.fin rfl))
        | succ s ih =>
          intro i hi
          have ii : i < cs.length := by omega
          have tl : ((cs.take i).map (fun c => wrap64 (-c)) ++ cs.drop i).length = cs.length := by simp; omega
          refine Ev.step (fun k => by rw [tabardlaw14_negated.l0]) (Ev.cond (by omega) (Ev.cond (by omega) (Ev.cond (by omega) (Ev.cond (by rw [tl]; omega) ?_))))
          have e : ((cs.take i).map (fun c => wrap64 (-c)) ++ cs.drop i).set ((i : Int)).toNat (wrap64 (-(rd cs (i : Int)))) = (cs.take (i + 1)).map (fun c => wrap64 (-c)) ++ cs.drop (i + 1) := by
            have r : rd cs (i : Int) = cs[i] := by simp [rd, List.getD_eq_getElem?_getD, ii]
            rw [Int.toNat_natCast, r, List.drop_eq_getElem_cons ii, List.set_append_right _ _ (by simp; omega), List.take_succ_eq_append_getElem ii, List.map_append, List.append_assoc]
            congr 1
            rw [List.length_map, List.length_take, Nat.min_eq_left (Nat.le_of_lt ii), Nat.sub_self]
            rfl
          rw [e, w64 (by omega) (by omega)]
          exact ih (i + 1) (by omega)
      have := key cs.length 0 (by omega)
      simpa using this
end Go.Proofs.Ythgoonohpfoagaa.Pure
namespace Go.Proofs.Ythgoonohpfoagaa.Pure
open Go.RowKit Go.Proofs.YthgoonohpfoagaaW.PrintWords Go.Proofs.YthgoonohpfoagaaW.PrintLast Go.Proofs.YthgoonohpfoagaaW.PrintMore Go.Proofs.Ythgoonohpfoagaa.X
set_option linter.unusedVariables false
/-- A letter's step where the sum is at most the bound. -/
theorem to_le {p : atom_Raw.Place} {s : Int} (hr : R64 p.1) (hs : R64 s) (hm : s ≠ -9223372036854775808) (hp : p.2.2.2.1 = false) : atom_Raw.to 0 p s = some ((p.1 - s) / 2, 0, false, false, decide (p.1 ≥ -s)) := by
  have h := halved_eq hr hs
  obtain ⟨r0, r1⟩ := hr
  obtain ⟨s0, s1⟩ := hs
  unfold atom_Raw.to atom_next.f
  rw [if_neg (by rw [hp]; decide), if_pos rfl, h, Option.bind_some, Option.bind_some, if_pos (R64.wf ⟨by omega, by omega⟩), if_pos (show (Lit.int .i64 0).wf = true by decide), w64 (by omega) (by omega)]
/-- A letter's step where the sum is the bound. -/
theorem to_eq {p : atom_Raw.Place} {s : Int} (hr : R64 p.1) (hs : R64 s) (hm : s ≠ -9223372036854775808) (hp : p.2.2.2.1 = false) : atom_Raw.to 1 p s = some (if p.1 % 2 = s % 2 then ((p.1 - s) / 2, 0, false, false, decide (p.1 = -s)) else (0, 0, false, true, false)) := by
  have h := halved_eq hr hs
  obtain ⟨r0, r1⟩ := hr
  obtain ⟨s0, s1⟩ := hs
  unfold atom_Raw.to atom_next.f
  rw [if_neg (by rw [hp]; decide), if_neg (by decide), if_pos rfl, atom_even.f, Option.bind_some, and1, and1]
  by_cases c : p.1 % 2 = s % 2
  · rw [if_pos c, if_pos (by rw [c]; simp), h, Option.bind_some, Option.bind_some, if_pos (R64.wf ⟨by omega, by omega⟩), if_pos (show (Lit.int .i64 0).wf = true by decide), w64 (by omega) (by omega)]
    exact congrArg some (by simp only [Prod.mk.injEq, true_and]; exact Bool.eq_iff_iff.2 (by simp))
  · rw [if_neg c, if_neg (by simpa using c), Option.bind_some, if_pos (show (Lit.int .i64 0).wf = true by decide), if_pos (show (Lit.int .i64 0).wf = true by decide)]
theorem getD_neg (S : List Int) (a : Nat) : (S.map fun x => -x).getD a 0 = -(S.getD a 0) := by
  rw [List.getD_eq_getElem?_getD, List.getD_eq_getElem?_getD, List.getElem?_map]
  cases S[a]? <;> simp
/-- How the four machines' places stand to each other. -/
structure Rel4 (pa pb pc pq : atom_Raw.Place) : Prop where
  na : pa.2.2.2.1 = false
  nb : pb.2.2.2.1 = false
  nc : pc.2.2.2.1 = false
  ra : R64 pa.1
  rb : R64 pb.1
  rc : R64 pc.1
  eb : pb.1 = -pa.1 - 1
  eq : (pq = (0, 0, false, true, false) ∧ pa.1 + pc.1 < 0) ∨ (pq.2.2.2.1 = false ∧ pq.1 = pa.1 ∧ pc.1 = -pa.1)
def Told4 (pa pb pc pq : atom_Raw.Place) : Prop := pb.2.2.2.2 = (!pa.2.2.2.2) ∧ pq.2.2.2.2 = (pa.2.2.2.2 && pc.2.2.2.2)
theorem to_none (kind : Int) (s : Int) : atom_Raw.to kind (0, 0, false, true, false) s = some (0, 0, false, true, false) := by
  unfold atom_Raw.to atom_next.f
  rw [if_pos rfl]; rfl
theorem half_in {r s : Int} (hr : R64 r) (hs : R64 s) : R64 ((r - s) / 2) := by
  obtain ⟨r0, r1⟩ := hr; obtain ⟨s0, s1⟩ := hs
  exact ⟨by omega, by omega⟩
theorem step4 {pa pb pc pq : atom_Raw.Place} (h : Rel4 pa pb pc pq) {s : Int} (hs : (s.natAbs : Int) ≤ 9223372036854775807) :
    ∃ qa qb qc qq, atom_Raw.to 0 pa s = some qa ∧ atom_Raw.to 0 pb (-s) = some qb ∧ atom_Raw.to 0 pc (-s) = some qc ∧ atom_Raw.to 1 pq s = some qq ∧ Rel4 qa qb qc qq ∧ Told4 qa qb qc qq := by
  obtain ⟨na, nb, nc, ra, rb, rc, eb, eq⟩ := h
  have s1 : R64 s := ⟨by omega, by omega⟩
  have s2 : R64 (-s) := ⟨by omega, by omega⟩
  have ea := to_le ra s1 (by omega) na
  have eb' := to_le rb s2 (by omega) nb
  have ec := to_le rc s2 (by omega) nc
  have ha := half_in ra s1
  have hb := half_in rb s2
  have hc := half_in rc s2
  have tb : decide (pb.1 ≥ -(-s)) = !(decide (pa.1 ≥ -s)) := by
    rw [eb, ← decide_not]
    exact decide_eq_decide.2 (by omega)
  rcases eq with ⟨rfl, lt⟩ | ⟨nq, e1, e2⟩
  · refine ⟨_, _, _, _, ea, eb', ec, to_none 1 s, ⟨rfl, rfl, rfl, ha, hb, hc, by simp only; omega, .inl ⟨rfl, by simp only; omega⟩⟩, tb, ?_⟩
    show false = (decide (pa.1 ≥ -s) && decide (pc.1 ≥ -(-s)))
    rw [← Bool.decide_and]
    exact (decide_eq_false (by omega)).symm
  · have eqq := to_eq (p := pq) (by rw [e1]; exact ra) s1 (by omega) nq
    by_cases c : pq.1 % 2 = s % 2
    · rw [if_pos c] at eqq
      refine ⟨_, _, _, _, ea, eb', ec, eqq, ⟨rfl, rfl, rfl, ha, hb, hc, by simp only; omega, .inr ⟨rfl, by simp only; omega, by simp only; omega⟩⟩, tb, ?_⟩
      show decide (pq.1 = -s) = (decide (pa.1 ≥ -s) && decide (pc.1 ≥ -(-s)))
      rw [← Bool.decide_and]
      exact decide_eq_decide.2 (by omega)
    · rw [if_neg c] at eqq
      refine ⟨_, _, _, _, ea, eb', ec, eqq, ⟨rfl, rfl, rfl, ha, hb, hc, by simp only; omega, .inl ⟨rfl, by simp only; omega⟩⟩, tb, ?_⟩
      show false = (decide (pa.1 ≥ -s) && decide (pc.1 ≥ -(-s)))
      rw [← Bool.decide_and]
      exact (decide_eq_false (by omega)).symm
theorem run4 {S : List Int} (hS : ∀ s ∈ S, (s.natAbs : Int) ≤ 9223372036854775807) : ∀ (v : List Nat) (pa pb pc pq : atom_Raw.Place), (∀ a ∈ v, a < S.length) → Rel4 pa pb pc pq → (v = [] → Told4 pa pb pc pq) →
    ∀ qa qb qc qq, placeOf 0 S v pa = some qa → placeOf 0 (S.map fun x => -x) v pb = some qb → placeOf 0 (S.map fun x => -x) v pc = some qc → placeOf 1 S v pq = some qq → Told4 qa qb qc qq
  | [], pa, pb, pc, pq, _, _, ht, qa, qb, qc, qq, h1, h2, h3, h4 => by
    rw [placeOf] at h1 h2 h3 h4
    obtain rfl := Option.some.inj h1; obtain rfl := Option.some.inj h2; obtain rfl := Option.some.inj h3; obtain rfl := Option.some.inj h4
    exact ht rfl
  | a :: v, pa, pb, pc, pq, hv, hr, _, qa, qb, qc, qq, h1, h2, h3, h4 => by
    rw [placeOf] at h1 h2 h3 h4
    rw [getD_neg] at h2 h3
    have ha := hv a List.mem_cons_self
    obtain ⟨ra, rb, rc, rq, e1, e2, e3, e4, hr', ht⟩ := step4 hr (hS _ (getD_mem 0 S a ha))
    rw [e1, Option.bind_some] at h1; rw [e2, Option.bind_some] at h2; rw [e3, Option.bind_some] at h3; rw [e4, Option.bind_some] at h4
    exact run4 hS v ra rb rc rq (fun b hb => hv b (List.mem_cons_of_mem _ hb)) hr' (fun _ => ht) qa qb qc qq h1 h2 h3 h4
end Go.Proofs.Ythgoonohpfoagaa.Pure
namespace Go.Proofs.Ythgoonohpfoagaa.Pure
open Go.RowKit Go.Proofs.YthgoonohpfoagaaW.PrintWords Go.Proofs.YthgoonohpfoagaaW.PrintLast Go.Proofs.YthgoonohpfoagaaW.PrintMore Go.Proofs.Ythgoonohpfoagaa.X
set_option linter.unusedVariables false
/-- A machine's states are the places that the letters lead to from the start. -/
def MachOf (kind : Int) (S : List Int) (bound md : Int) (ac : List Bool) (nx : List (List Int)) : Prop :=
  ∃ ps : List atom_Raw.Place, ps[0]? = some (bound, md, true, false, false) ∧ ac.length = ps.length ∧ nx.length = ps.length ∧ ps.length ≤ 256 ∧ ∀ i p, ps[i]? = some p → StOk kind S ps ac nx i p
theorem sumsL_len : ∀ (l acc : List Int), (atom_sums.L acc l).length = acc.length * 2 ^ l.length := by
  intro l
  induction l with
  | nil => intro acc; simp [atom_sums.L]
  | cons c l ih => intro acc; rw [atom_sums.L, ih, List.length_append, List.length_map, List.length_cons, Nat.pow_succ, Nat.add_mul, Nat.mul_comm (2 ^ l.length) 2, ← Nat.mul_assoc, Nat.mul_two, Nat.add_mul]
theorem raw_cases {kind bound md : Int} {names : List ByteArray} {coefs : List Int} (h0 : names.length * 16 ≤ 140737488351232) (hs : ∀ x ∈ names, x.size ≤ 9223372036854775807) (h1 : coefs.length * 8 ≤ 140737488351232)
    (hw : ∀ x ∈ coefs, (Lit.int .i64 x).wf = true) (hb : (Lit.int .i64 bound).wf = true) (hm : (Lit.int .i64 md).wf = true) :
    ∃ tr ac nx er, Ev (fun k => atom_Raw.f k kind names coefs bound md) (tr, ac, nx, er) ∧ (er = 0 → goodB kind names coefs bound md = true ∧ names.length ≤ 6 ∧ tr = names ∧ MachOf kind (atom_sums.L [0] coefs) bound md ac nx) ∧
      (goodB kind names coefs bound md = true → names.length ≤ 6 → er = 0 ∨ er = 140) ∧ (er ≠ 0 → ac = []) := by
  have hc := check_ev kind bound md names coefs h0 hs h1 hw hb
  cases g : goodB kind names coefs bound md with
  | false =>
    rw [g, if_neg (by decide)] at hc
    exact ⟨[], [], [], 3, Ev.congr (fun k => by rw [atom_Raw.f]) (Ev.bind hc (Ev.ncond (show ¬ ((3 : Int) = 0) by decide) (Ev.fin rfl))), (fun h => by cases h), (fun h => by cases h), fun _ => rfl⟩
  | true =>
    rw [g, if_pos rfl] at hc
    have g' := g
    unfold goodB at g'
    simp only [Bool.and_eq_true, decide_eq_true_eq] at g'
    obtain ⟨g0, g1, g2, g3, g4, g5⟩ := g'
    by_cases c : (6 : Int) < (names.length : Int)
    · exact ⟨[], [], [], 150, Ev.congr (fun k => by rw [atom_Raw.f]) (Ev.bind hc (Ev.cond rfl (Ev.cond c (Ev.fin rfl)))), (fun h => by cases h), (fun _ h => by omega), fun _ => rfl⟩
    · have hcl : slices_Clone_string_string.f names = some names := by unfold slices_Clone_string_string.f; exact if_pos (by omega)
      have hsl : atom_sums.f coefs = some (atom_sums.L [0] coefs) := by unfold atom_sums.f; exact if_pos (by omega)
      have ok : PlOk kind (bound, md, true, false, false) := ⟨i64_wf hb, i64_wf hm, fun _ hk => by
        rw [if_pos hk, Bool.and_eq_true, decide_eq_true_eq] at g5
        exact g5.1⟩
      obtain ⟨⟨z1, z2, z3⟩, hz, y1, y2, y3⟩ := go_total g0 g1 (atom_sums.L [0] coefs) 257 0 [(bound, md, true, false, false)] [] [] (fun p hp => by rw [List.mem_singleton.1 hp]; exact ok) (by simp) (by omega) (by simp) rfl rfl (fun r h => by cases h)
      cases z1 with
      | true =>
        obtain ⟨t, e1, e2, e3⟩ := go_spec 257 0 [(bound, md, true, false, false)] [] [] z2 z3 hz (by simp) rfl rfl (fun i p h => by omega)
        refine ⟨names, z2, z3, 0, Ev.congr (fun k => by rw [atom_Raw.f]) (Ev.bind hc (Ev.cond rfl (Ev.ncond c (Ev.fin' ?_)))), (fun _ => ⟨rfl, by omega, rfl, _, rfl, e1, e2, by rw [← e1]; exact y2, e3⟩), (fun _ _ => .inl rfl), fun h => absurd rfl h⟩
        rw [hcl, Option.bind_some, hsl, Option.bind_some, if_pos hb, if_pos hm, hz, Option.bind_some, if_pos rfl]
      | false =>
        refine ⟨[], [], [], 140, Ev.congr (fun k => by rw [atom_Raw.f]) (Ev.bind hc (Ev.cond rfl (Ev.ncond c (Ev.fin' ?_)))), (fun h => by cases h), (fun _ _ => .inr rfl), fun _ => rfl⟩
        rw [hcl, Option.bind_some, hsl, Option.bind_some, if_pos hb, if_pos hm, hz, Option.bind_some, if_neg (by simp)]
theorem MachOf.one {kind bound md : Int} {S : List Int} {ac : List Bool} {nx : List (List Int)} (m : MachOf kind S bound md ac nx) : 1 ≤ ac.length ∧ ac.length ≤ 256 ∧ nx.length = ac.length ∧ ∀ r ∈ nx, r.length = S.length ∧ ∀ x ∈ r, 0 ≤ x ∧ x < (ac.length : Int) := by
  obtain ⟨ps, p0, pa, pn, p6, ok⟩ := m
  have l0 := (List.getElem?_eq_some_iff.1 p0).1
  refine ⟨by omega, by omega, by omega, fun r hr => ?_⟩
  obtain ⟨i, hi, rfl⟩ := List.getElem_of_mem hr
  have hi' : i < ps.length := by omega
  obtain ⟨_, r', e1, e2, e3⟩ := ok i ps[i] (List.getElem?_eq_getElem hi')
  rw [List.getElem?_eq_getElem hi] at e1
  obtain rfl := Option.some.inj e1
  refine ⟨e2, fun x hx => ?_⟩
  obtain ⟨j, hj, rfl⟩ := List.getElem_of_mem hx
  obtain ⟨z, n, _, g2, g3⟩ := e3 j (by omega)
  rw [List.getElem?_eq_getElem hj] at g2
  have := Option.some.inj g2
  have := (List.getElem?_eq_some_iff.1 g3).1
  omega
theorem MachOf.right {kind bound md : Int} {S : List Int} {ac : List Bool} {nx : List (List Int)} {ns : List ByteArray} (m : MachOf kind S bound md ac nx) (h6 : ns.length ≤ 6) (hs : ∀ x ∈ ns, x.size ≤ 9223372036854775807) (hr : risesB ns = true) (hS : S.length = 2 ^ ns.length) :
    Ev (fun k => tabardref12_Right.f k ns ac nx) true := by
  obtain ⟨h1, h2, h3, h4⟩ := m.one
  refine right14_ev h6 ?_ h1 h2 h3 (fun r hr => by rw [← hS]; exact h4 r hr)
  have := rrises_ev ns (by omega) hs
  rw [hr] at this
  exact this
theorem word14 {ns : List ByteArray} (h6 : ns.length ≤ 6) {w : List Int} (hl : w.length ≤ 9000000000000000000) : ∃ b, Ev (fun k => tabardref12_Word.f k w (ns.length : Int)) b ∧ (b = true → ∃ v : List Nat, w = v.map (fun a => ((a : Nat) : Int)) ∧ ∀ a ∈ v, a < 2 ^ ns.length) := by
  have key : ∀ (m i : Nat), i + m = w.length → (∃ v : List Nat, w.take i = v.map (fun a => ((a : Nat) : Int)) ∧ ∀ a ∈ v, a < 2 ^ ns.length) → ∃ b, Ev (fun k => tabardref12_Word.l0 k w (ns.length : Int) (i : Int)) b ∧ (b = true → ∃ v : List Nat, w = v.map (fun a => ((a : Nat) : Int)) ∧ ∀ a ∈ v, a < 2 ^ ns.length) := by
    intro m
    induction m with
    | zero =>
      intro i hi h
      rw [List.take_of_length_le (by omega)] at h
      exact ⟨true, Ev.step (fun k => by rw [tabardref12_Word.l0]) (Ev.ncond (by omega) (Ev.fin rfl)), fun _ => h⟩
    | succ m ih =>
      intro i hi h
      have ii : i < w.length := by omega
      by_cases c : w[i] < 0
      · refine ⟨false, Ev.step (fun k => by rw [tabardref12_Word.l0]) (Ev.cond (by omega) (Ev.cond (by omega) (Ev.cond ?_ (Ev.fin rfl)))), (fun z => by cases z)⟩
        rw [rd_get w ii]; exact c
      · by_cases c2 : w[i] ≥ ((2 ^ ns.length : Nat) : Int)
        · refine ⟨false, Ev.step (fun k => by rw [tabardref12_Word.l0]) (Ev.cond (by omega) (Ev.cond (by omega) (Ev.ncond ?_ (Ev.bind (letters14_ev h6) (Ev.cond ?_ (Ev.fin rfl)))))), (fun z => by cases z)⟩
          · rw [rd_get w ii]; exact c
          · rw [rd_get w ii]; exact c2
        · obtain ⟨b, hb, hb2⟩ := ih (i + 1) (by omega) (by
            obtain ⟨v, h1, h2⟩ := h
            refine ⟨v ++ [w[i].toNat], ?_, fun a ha => ?_⟩
            · rw [List.take_succ_eq_append_getElem ii, List.map_append, h1]
              congr 1
              exact congrArg (fun z => [z]) (show w[i] = ((w[i].toNat : Nat) : Int) by omega)
            · rcases List.mem_append.1 ha with g | g
              · exact h2 a g
              · rw [List.mem_singleton.1 g]; omega)
          refine ⟨b, Ev.step (fun k => by rw [tabardref12_Word.l0]) (Ev.cond (by omega) (Ev.cond (by omega) (Ev.ncond ?_ (Ev.bind (letters14_ev h6) (Ev.ncond ?_ ?_))))), hb2⟩
          · rw [rd_get w ii]; exact c
          · rw [rd_get w ii]; exact c2
          · rw [w64 (by omega) (by omega)]; exact hb
  obtain ⟨b, h1, h2⟩ := key w.length 0 (by omega) ⟨[], by simp, fun a h => by cases h⟩
  exact ⟨b, Ev.congr (fun k => by rw [tabardref12_Word.f]; rfl) h1, h2⟩
theorem absS_mem : ∀ (l : List Int) (c : Int), c ∈ l → (c.natAbs : Int) ≤ absS l
  | [], _, h => by cases h
  | a :: l, c, h => by
    have n := absS_nonneg l
    rcases List.mem_cons.1 h with rfl | h
    · simp only [absS]; omega
    · have := absS_mem l c h; simp only [absS]; omega
theorem all_rounds {α : Type} {P : Nat → α → Prop} : ∀ l : List α, (∀ v ∈ l, ∃ K, ∀ k, K ≤ k → P k v) → ∃ K, ∀ k, K ≤ k → ∀ v ∈ l, P k v
  | [], _ => ⟨0, fun _ _ _ h => by cases h⟩
  | a :: l, h => by
    obtain ⟨K, hK⟩ := h a List.mem_cons_self
    obtain ⟨L, hL⟩ := all_rounds l (fun v hv => h v (List.mem_cons_of_mem _ hv))
    refine ⟨K + L, fun k hk v hv => ?_⟩
    rcases List.mem_cons.1 hv with rfl | hv
    · exact hK k (by omega)
    · exact hL k (by omega) v hv
end Go.Proofs.Ythgoonohpfoagaa.Pure
namespace Go.Proofs.Ythgoonohpfoagaa.Pure
open Go.RowKit Go.Proofs.YthgoonohpfoagaaW.PrintWords Go.Proofs.YthgoonohpfoagaaW.PrintLast Go.Proofs.YthgoonohpfoagaaW.PrintMore Go.Proofs.Ythgoonohpfoagaa.X
set_option linter.unusedVariables false
theorem fixed14 : Ev (fun k => tabardlaw14_fixed.f k) true := Ev.of (fun k => tabardlaw14_fixed.mono k) (k := 300) (by decide +kernel)
theorem AtomTurns (kind : Int) (hkw : (Lit.int .i64 kind).wf = true) (names : List ByteArray) (h0 : names.length * 16 ≤ 140737488351232) (hs : ∀ x ∈ names, x.size ≤ maxLen) (coefs : List Int) (h1 : coefs.length * 8 ≤ 140737488351232)
    (hw : ∀ x ∈ coefs, (Lit.int .i64 x).wf = true) (bound : Int) (hb : (Lit.int .i64 bound).wf = true) (md : Int) (hm : (Lit.int .i64 md).wf = true)
    (ws : List (List Int)) (h4 : ws.length * 24 ≤ 140737488351232) (q4 : ∀ x ∈ ws, x.length * 8 ≤ 140737488351232 ∧ ∀ a ∈ x, (Lit.int .i64 a).wf = true) :
    ∃ k ta aa na ea l2' b' okb tb ab nb eb tc ac nc ec tq aq nq eq_, tabardlaw14_fixed.f k = some true ∧ tabardlaw14_copied.f kind names coefs bound md = some (kind, names, coefs, bound, md) ∧ tabardlaw14_copied.f 0 names coefs bound 0 = some (0, names, coefs, bound, 0) ∧
      atom_Raw.f k 0 names coefs bound 0 = some (ta, aa, na, ea) ∧ tabardlaw14_negated.f k 0 names coefs bound 0 = some (0, names, l2', b', 0, okb) ∧ atom_Raw.f k 0 names l2' b' 0 = some (tb, ab, nb, eb) ∧
      (ea = 0 → eb = 0 → okb = true → tabardlaw14_copied.f 0 names l2' b' 0 = some (0, names, l2', b', 0) ∧ atom_Raw.f k 0 names l2' (wrap64 (-bound)) 0 = some (tc, ac, nc, ec) ∧ atom_Raw.f k 1 names coefs bound 0 = some (tq, aq, nq, eq_) ∧ (ec = 0 → eq_ ≠ 0 → eq_ = 140) ∧
        (ec = 0 → eq_ = 0 → tabardref12_Right.f k ta aa na = some true ∧ tabardref12_Right.f k tb ab nb = some true ∧ tabardref12_Right.f k tc ac nc = some true ∧ tabardref12_Right.f k tq aq nq = some true ∧ tb.length = ta.length ∧ tc.length = ta.length ∧ tq.length = ta.length ∧
          ∀ v ∈ ws, v ≠ [] → ∃ wb, tabardref12_Word.f k v (ta.length : Int) = some wb ∧ (wb = true → ∃ x y, tabardref12_Takes.f k ta aa na v = some x ∧ tabardref12_Takes.f k tc ac nc v = some y ∧ tabardref12_Takes.f k tb ab nb v = some (!x) ∧ tabardref12_Takes.f k tq aq nq v = some (x && y)))) := by
  have z0 : (Lit.int .i64 0).wf = true := by decide
  obtain ⟨kf, ef⟩ := fixed14
  obtain ⟨kn, en⟩ := negated_ev (a := 0) (b := bound) (m := 0) h0 h1
  obtain ⟨ta, aa, na, ea, ⟨ka, era⟩, ca, da, _⟩ := raw_cases (kind := 0) (md := 0) h0 hs h1 hw hb z0
  by_cases ng : bound = 9223372036854775807 ∨ bound < -9223372036854775806
  · rw [if_pos ng] at en
    exact ⟨kf + kn + ka, ta, aa, na, ea, coefs, bound, false, ta, aa, na, ea, [], [], [], 0, [], [], [], 0, ef _ (by omega), copied_eq h0 h1, copied_eq h0 h1, era _ (by omega), en _ (by omega), era _ (by omega), fun _ _ h => by cases h⟩
  · rw [if_neg ng] at en
    have hw' : ∀ x ∈ coefs.map (fun c => wrap64 (-c)), (Lit.int .i64 x).wf = true := fun x hx => by
      obtain ⟨c, _, rfl⟩ := List.mem_map.1 hx
      exact (R64.wrap _).wf
    have h1' : (coefs.map (fun c => wrap64 (-c))).length * 8 ≤ 140737488351232 := by rw [List.length_map]; exact h1
    obtain ⟨tb, ab, nb, eb, ⟨kb, erb⟩, cb, _, _⟩ := raw_cases (kind := 0) (md := 0) (bound := wrap64 (-(wrap64 (bound + 1)))) h0 hs h1' hw' (R64.wrap _).wf z0
    obtain ⟨tc, ac, nc, ec, ⟨kc, erc⟩, cc, _, _⟩ := raw_cases (kind := 0) (md := 0) (bound := wrap64 (-bound)) h0 hs h1' hw' (R64.wrap _).wf z0
    obtain ⟨tq, aq, nq, eq_, ⟨kq, erq⟩, cq, dq, _⟩ := raw_cases (kind := 1) (md := 0) h0 hs h1 hw hb z0
    have main : ∃ K, ∀ k, K ≤ k → ea = 0 → eb = 0 → ec = 0 → eq_ = 0 → tabardref12_Right.f k ta aa na = some true ∧ tabardref12_Right.f k tb ab nb = some true ∧ tabardref12_Right.f k tc ac nc = some true ∧ tabardref12_Right.f k tq aq nq = some true ∧ tb.length = ta.length ∧ tc.length = ta.length ∧ tq.length = ta.length ∧
          ∀ v ∈ ws, v ≠ [] → ∃ wb, tabardref12_Word.f k v (ta.length : Int) = some wb ∧ (wb = true → ∃ x y, tabardref12_Takes.f k ta aa na v = some x ∧ tabardref12_Takes.f k tc ac nc v = some y ∧ tabardref12_Takes.f k tb ab nb v = some (!x) ∧ tabardref12_Takes.f k tq aq nq v = some (x && y)) := by
      by_cases all : ea = 0 ∧ eb = 0 ∧ ec = 0 ∧ eq_ = 0
      · obtain ⟨xa, xb, xc, xq⟩ := all
        obtain ⟨ga, n6, rfl, ma⟩ := ca xa
        obtain ⟨_, _, rfl, mb⟩ := cb xb
        obtain ⟨_, _, rfl, mc⟩ := cc xc
        obtain ⟨_, _, rfl, mq⟩ := cq xq
        unfold goodB at ga
        simp only [Bool.and_eq_true, decide_eq_true_eq] at ga
        obtain ⟨_, _, g2, g3, g4, _⟩ := ga
        simp only [absS] at g4
        have nn := absS_nonneg coefs
        have eC : coefs.map (fun c => wrap64 (-c)) = coefs.map (fun c => -c) := List.map_congr_left (fun c hc => by
          have := absS_mem coefs c hc
          exact w64 (by omega) (by omega))
        have e0 : ∀ s ∈ [(0 : Int)], (s.natAbs : Int) + absS coefs ≤ 9223372036854775807 := fun s h => by rw [List.mem_singleton.1 h]; simp only [Int.natAbs_zero]; omega
        obtain ⟨es, bs⟩ := sums_exact coefs [0] 9223372036854775807 (by omega) e0
        have es' := (sums_exact (coefs.map (fun c => -c)) [0] 9223372036854775807 (by omega) (by rw [absS_neg]; exact e0)).1
        have eS : atom_sums.L [0] (coefs.map (fun c => wrap64 (-c))) = (atom_sums.L [0] coefs).map (fun x => -x) := by
          rw [eC, es', es]
          exact sums_neg coefs [0]
        have sl : (atom_sums.L [0] coefs).length = 2 ^ tq.length := by rw [sumsL_len, g3]; simp
        rw [eS] at mb mc
        have bs' : ∀ s ∈ atom_sums.L [0] coefs, (s.natAbs : Int) ≤ 9223372036854775807 := by rw [es]; exact bs
        obtain ⟨k1, r1⟩ := ma.right n6 hs g2 sl
        obtain ⟨k2, r2⟩ := mb.right n6 hs g2 (by rw [List.length_map]; exact sl)
        obtain ⟨k3, r3⟩ := mc.right n6 hs g2 (by rw [List.length_map]; exact sl)
        obtain ⟨k4, r4⟩ := mq.right n6 hs g2 sl
        rw [w64 (x := bound + 1) (by omega) (by omega), w64 (by omega) (by omega)] at mb
        rw [w64 (by omega) (by omega)] at mc
        obtain ⟨k5, r5⟩ := all_rounds (P := fun k v => v ≠ [] → ∃ wb, tabardref12_Word.f k v (tq.length : Int) = some wb ∧ (wb = true → ∃ x y, tabardref12_Takes.f k tq aa na v = some x ∧ tabardref12_Takes.f k tq ac nc v = some y ∧ tabardref12_Takes.f k tq ab nb v = some (!x) ∧ tabardref12_Takes.f k tq aq nq v = some (x && y))) ws (fun v hv => by
          have vl : v.length ≤ 9000000000000000000 := by have := (q4 v hv).1; omega
          obtain ⟨wb, ⟨kw, ew⟩, hwb⟩ := word14 n6 vl
          cases wb with
          | false => exact ⟨kw, fun k hk _ => ⟨false, ew k hk, fun h => by cases h⟩⟩
          | true =>
            obtain ⟨v', e1, e2⟩ := hwb rfl
            have e2' : ∀ a ∈ v', a < (atom_sums.L [0] coefs).length := by rw [sl]; exact e2
            have e2n : ∀ a ∈ v', a < ((atom_sums.L [0] coefs).map fun x => -x).length := by rw [List.length_map]; exact e2'
            obtain ⟨psa, a0, a1, a2, a3, a4⟩ := ma
            obtain ⟨psb, b0, b1, b2, b3, b4⟩ := mb
            obtain ⟨psc, c0, c1, c2, c3, c4⟩ := mc
            obtain ⟨psq, d0, d1, d2, d3, d4⟩ := mq
            obtain ⟨pa, oa, ⟨ja, ua⟩⟩ := takes_spec (ns := tq) a2 a1 (by omega) a4 e1 e2' vl a0
            obtain ⟨pb, ob, ⟨jb, ub⟩⟩ := takes_spec (ns := tq) b2 b1 (by omega) b4 e1 e2n vl b0
            obtain ⟨pc, oc, ⟨jc, uc⟩⟩ := takes_spec (ns := tq) c2 c1 (by omega) c4 e1 e2n vl c0
            obtain ⟨pq, oq, ⟨jq, uq⟩⟩ := takes_spec (ns := tq) d2 d1 (by omega) d4 e1 e2' vl d0
            refine ⟨kw + ja + jb + jc + jq, fun k hk hne => ⟨true, ew k (by omega), fun _ => ⟨_, _, ua k (by omega), uc k (by omega), ?_⟩⟩⟩
            have rel : Rel4 (bound, 0, true, false, false) (-(bound + 1), 0, true, false, false) (-bound, 0, true, false, false) (bound, 0, true, false, false) := by
              have := i64_wf hb
              exact ⟨rfl, rfl, rfl, ⟨by simp only; omega, by simp only; omega⟩, ⟨by simp only; omega, by simp only; omega⟩, ⟨by simp only; omega, by simp only; omega⟩, by simp only; omega, .inr ⟨rfl, rfl, rfl⟩⟩
            obtain ⟨t1, t2⟩ := run4 bs' v' _ _ _ _ e2' rel (fun h => absurd (by rw [e1, h]; rfl) hne) _ _ _ _ oa ob oc oq
            rw [← t1, ← t2]
            exact ⟨ub k (by omega), uq k (by omega)⟩)
        exact ⟨k1 + k2 + k3 + k4 + k5, fun k hk _ _ _ _ => ⟨r1 k (by omega), r2 k (by omega), r3 k (by omega), r4 k (by omega), rfl, rfl, rfl, r5 k (by omega)⟩⟩
      · exact ⟨0, fun k _ a b c d => absurd ⟨a, b, c, d⟩ all⟩
    obtain ⟨km, em⟩ := main
    refine ⟨kf + kn + ka + kb + kc + kq + km, ta, aa, na, ea, _, _, true, tb, ab, nb, eb, tc, ac, nc, ec, tq, aq, nq, eq_, ef _ (by omega), copied_eq h0 h1, copied_eq h0 h1, era _ (by omega), en _ (by omega), erb _ (by omega), fun xa xb _ => ⟨copied_eq h0 h1', erc _ (by omega), erq _ (by omega), fun _ hn => ?_, fun xc xq => em _ (by omega) xa xb xc xq⟩⟩
    obtain ⟨ga, n6, _, _⟩ := ca xa
    have gq : goodB 1 names coefs bound 0 = true := by
      unfold goodB at ga ⊢
      simpa using ga
    rcases dq gq n6 with h | h
    · exact absurd h hn
    · exact h
end Go.Proofs.Ythgoonohpfoagaa.Pure
